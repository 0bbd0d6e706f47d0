/- A part. -/
import Derived.Test.YtoodnaghjpkjfaaGreatDoorSE11Mrg
import Derived.Lib.AtoiAllCases
import Derived.Below
import Derived.Laws.AppendOwn
import Derived.Maps.Range
import Derived.Laws.NewBlocks
import Derived.Laws.Runes
import Derived.Deep.DeepCutAuto
import Derived.Laws.Tables
import Derived.Laws.CopyRow
namespace Go.Proofs.YtoodnaghjpkjfaaGreatDoor
open Tryz
set_option linter.unusedVariables false
set_option maxRecDepth 100000
set_option maxHeartbeats 64000000
set_option linter.unusedSimpArgs false
open Go Go.RowKit Go.Shelf
theorem eC (l:List UInt8) : -9223372036854775808<=dD l/\dD l<=9223372036854775807:=by
 unfold dD;split
 ·rename_i v h;exact Lib.atoiAll_bounds h
 ·exact Lib.atoiSat_bounds l
 ·omega
theorem kL (s:BA) (hs:s.size<=1000000) (w:World) (hN:NumVars w) :
 CP 45 #[Sv s] w λx w'=>∃ev,x=.returned (.tuple #[I6 (dD s.data.toList),ev])/\((dE s.data.toList=true/\ev=.nilIface)\/(dE s.data.toList=false/\∃p,ev=.iface 211 p))/\BB w w':=by
 obtain⟨⟨e1,h1,k1⟩,⟨e2,h2,k2⟩,_⟩:=hN;obtain⟨r,hr⟩:∃r,Lib.atoiAll s.data.toList=r:=⟨_,rfl⟩
 by_cases ac:∃v,r=.ok v
 ·obtain⟨v,rfl⟩:=ac;refine(Tryz.strconv_Atoi_ok s ga v hr w).mono ?_;rintro e w1 ⟨rfl,ad⟩;refine⟨_,?_,.inl ⟨by unfold dE;rw[hr],rfl⟩,ad.elim (λh=>h▸gx _ _) (λ⟨_,h⟩=>h▸Lib.bytesWorld_below _ _ _)⟩;unfold dD;rw[hr]
 by_cases ab:r=.range
 ·subst ab;refine(Tryz.strconv_Atoi_range s ga hr e2 w h2 k2).mono ?_;rintro e w1 ⟨N,rfl,_,_,aa⟩;have hx:dE s.data.toList=false/\dD s.data.toList=Lib.atoiSat s.data.toList:=by
   unfold dE dD;rw[hr];exact⟨rfl,rfl⟩
  exact⟨.iface 211 (Pt N 0),by rw[hx.2],.inr ⟨hx.1,_,rfl⟩,aa⟩
 refine(aFr s ga (λv h=>ac ⟨v,hr.symm.trans h⟩) (λh=>ab (hr.symm.trans h)) e1 w h1 k1).mono ?_;rintro e w1 ⟨N,rfl,_,_,aa⟩;have hx:dE s.data.toList=false/\dD s.data.toList=0:=by
  unfold dE dD;rw[hr];cases r
  ·exact absurd ⟨_,rfl⟩ ac
  ·exact⟨rfl,rfl⟩
  ·exact absurd rfl ab
 exact⟨.iface 211 (Pt N 0),by rw[hx.2],.inr ⟨hx.1,_,rfl⟩,aa⟩
theorem abs_any (n:Int) (w:World):CP 278 #[I6 n] w λe w'=>e=.returned (I6 (max n (IntKind.i64.wrap (-n))))/\w'=w:=by
 obtain⟨m,hm⟩:=xe (IntKind.i64.wrap (-n))
 rw[<-hm];have h:=hm.symm;clear hm;go_enter func278,ntmps278
 go_wp2;go_ret;exact⟨rfl,rfl⟩
theorem xX (n:Int) (s:Nat) (hn : -9223372036854775808<=n/\n<=9223372036854775807) (hs:s<=1000) (ac:999999999999999<n.natAbs\/12<s) (w:World):CP 277 #[.agg #[I6 n,I6 (s:Int)]] w (Rt (I6 2) w):=by
 have hA:=λw=>abs_any n w;obtain⟨m,hm⟩:=xe (max n (IntKind.i64.wrap (-n)))
 rw[<-hm] at hA;have HA:=f8 hA;clear hA;have aa:999999999999999<m\/(m<=999999999999999/\n < -999999999999999)\/(m<=999999999999999/\¬ n < -999999999999999/\(12:Int)<(s:Int)):=by
  by_cases ab:n = -9223372036854775808
  ·subst ab;have:m = -9223372036854775808:=by rw[hm];decide
   omega
  ·rw[ip (-n) ga] at hm;omega
 have k3:¬ (s:Int)<0:=ga
 clear hm ac hn hs;rcases aa with h|⟨h1,h2⟩|⟨h1,h2,h3⟩
 ·go_enter func277,ntmps277
  go_wp2_with (go_at_call 278;refine(HA.o _).mono ?_;rintro e w' ⟨rfl,rfl⟩)
  go_ret;exact⟨rfl,(bR w).alloc lr _⟩
 ·have k1:¬ 999999999999999<m:=ga
  go_enter func277,ntmps277
  go_wp2_with (go_at_call 278;refine(HA.o _).mono ?_;rintro e w' ⟨rfl,rfl⟩)
  go_ret;exact⟨rfl,(bR w).alloc lr _⟩
 ·have k1:¬ 999999999999999<m:=ga
  go_enter func277,ntmps277
  go_wp2_with (go_at_call 278;refine(HA.o _).mono ?_;rintro e w' ⟨rfl,rfl⟩)
  go_ret;exact⟨rfl,(bR w).alloc lr _⟩
theorem zP (n:Int) (s:Nat) (hn : -9223372036854775808<=n/\n<=9223372036854775807) (hs:s<=1000) (w:World) (hT:Tabs w):CP 253 #[.agg #[I6 n,I6 (s:Int)]] w (Rt (.tuple #[Sv ⟨(eZ n s).1.toArray⟩,I6 (eZ n s).2]) w):=by
 by_cases aa:999999999999999<n.natAbs\/12<s
 ·rw[show eZ n s=([],2) by unfold eZ;rw[gw aa]];have ad:=f8 (xX n s hn hs aa (w.alloc (.cells #[I6 n,I6 (s:Int)] 170)));have ab:=f8 (show BB w (w.alloc (.cells #[I6 n,I6 (s:Int)] 170)) from(bR w).alloc lr _);clear hn hs aa hT;go_enter func253,ntmps253
  go_wp2_with (go_at_call 277;refine ad.mono ?_;rintro e w1 ⟨rfl,ac⟩)
  refine ig (v:=.tuple #[Sv ⟨#[]⟩,I6 2]) (by simp[results,results253,go_sem]) rfl ?_;exact⟨rfl,ab.trans (ac.mono ab.size)⟩
 ·rw[show eZ n s=(dB n s,0) by unfold eZ;rw[f9 aa]];exact vP n s ga ga w hT
theorem aF2 {w:World} {b:Nat} {c:Array Value} {t:TypeId} (h:w.heap[b]?=some (.cells c t)) (i:Nat):w.frozen? ⟨b,i,none⟩=false:=by
 unfold World.frozen?;simp only[h];simp
theorem dA (w:World) (o:Obj) (i:Nat) (h:i<w.heap.size):(w.alloc o).heap[i]?=w.heap[i]?:=by
 unfold World.alloc;simp[Array.getElem?_push,Nat.ne_of_lt h]
theorem sC (l aa:List UInt8):(Lib.cut l aa).1.length+(Lib.cut l aa).2.1.length<=l.length:=by
 unfold Lib.cut;split
 ·simp only[ma,ju];omega
 ·simp
theorem aLm (s:BA) (hs:s.size<=100000) (w:World) (hT:Tabs w) (hN:NumVars w) :
 CP 265 #[Sv s] w (Rt (.tuple #[.agg #[I6 (jM s.data.toList).1,I6 ((jM s.data.toList).2.1:Int)],I6 (jM s.data.toList).2.2]) w):=by
 have a8:s.data.toList.length=s.size:=rfl;have ac:=f8 (show BB w (w.alloc (.cells #[I6 0,I6 0] 170)) from(bR w).alloc lr _);by_cases hE:s=⟨#[]⟩
 ·subst hE;rw[show jM (⟨#[]⟩:BA).data.toList=(0,0,4) from rfl];clear hT hN;go_enter func265,ntmps265
  go_wp2;refine ig (v:=.tuple #[.agg #[I6 0,I6 0],I6 4]) (by simp[results,results265,go_sem]) rfl ?_;exact⟨rfl,ac.o⟩
 have am:s.data.toList≠[]:=λh=>hE (kn (lk h));have bh:s.toList.isEmpty=false:=by
  rw[kw];cases hx:s.data.toList with
  | nil=>exact absurd hx am
  | cons c l=>rfl
 have aq:=f8 am;clear am hE;by_cases hL:17<s.size
 ·have HD:=f8 (show jM s.data.toList=(0,0,5) by unfold jM;rw[f9 aq.o,gw ga]);have be:(17:Int)<(s.size:Int):=ga
  clear hT hN;go_enter func265,ntmps265
  go_wp2;refine ig (v:=.tuple #[.agg #[I6 0,I6 0],I6 5]) (by simp[results,results265,go_sem]) rfl ?_;exact⟨by rw[HD.o];rfl,ac.o⟩
 have be:¬ (17:Int)<(s.size:Int):=ga
 obtain⟨m,hm⟩:=hN.2.2;have an:=Tryz.strings_Cut s ⟨#[46]⟩ m (w.alloc (.cells #[I6 0,I6 0] 170)) ga (qX ac.o hm);obtain⟨a,ha⟩:=xe ((Lib.cut s.data.toList [46]).1)
 obtain⟨b,hb⟩:=xe ((Lib.cut s.data.toList [46]).2.1)
 obtain⟨pt,ap⟩:=xe ((Lib.cut s.data.toList [46]).2.2)
 have aj:a.length+b.length<=17:=by
  have:=sC s.data.toList [46];rw[<-ha,<-hb] at this;omega
 have ak:=λw' hN'=>kL ⟨(a++b).toArray⟩ (by rw[bE];simp;omega) w' hN';obtain⟨n,hn⟩:=xe (dD (a++b))
 obtain⟨ok,av⟩:=xe (dE (a++b))
 have ar:=eC (a++b);rw[<-hn] at ar;have aw:=λw' hT'=>zP n b.length ar ga w' hT';obtain⟨t,ht⟩:=xe (⟨(eZ n b.length).1.toArray⟩:BA)
 obtain⟨te,al⟩:=xe ((eZ n b.length).2)
 have hD:jM s.data.toList=if ok=false\/te≠0\/t.data.toList≠s.data.toList\/(pt=true/\b=[]) then (0,0,13) else (n,b.length,0):=by
  unfold jM;rw[f9 aq.o,f9 ga];dsimp only;rw[<-ha,<-hb,<-ap,<-hn,<-av,<-al,ht]
 rw[show(⟨#[46]⟩:BA).data.toList=[46] from rfl,<-ha,<-hb,<-ap] at an;rw[show(⟨(a++b).toArray⟩:BA).data.toList=a++b from rfl,<-hn,<-av] at ak
 rw[<-ht,<-al] at aw;have a3:=f8 an;have bb:(⟨b.toArray⟩:BA).size=b.length:=bE b;have ai:(⟨a.toArray⟩:BA)++⟨b.toArray⟩=⟨(a++b).toArray⟩:=bD a b;obtain⟨sa,au⟩:=xe (⟨a.toArray⟩:BA)
 obtain⟨sb,ah⟩:=xe (⟨b.toArray⟩:BA)
 obtain⟨bg,af⟩:=xe (⟨(a++b).toArray⟩:BA)
 obtain⟨qt,a2⟩:∃qt,(t.toList==s.toList)=qt:=⟨_,rfl⟩
 have bc:(t.toList != s.toList) = !qt:=by rw[bne,a2]
 have ab:=a2;rw[aIr] at ab;obtain⟨qb,a5⟩:∃qb,sb.toList.isEmpty=qb:=⟨_,rfl⟩
 have ag:decide (b=[])=qb:=by
  rw[<-a5,kw,ah];cases b<;>rfl
 have HD:=f8 (show jM s.data.toList=if (ok&&(decide (te=0)&&(qt && !(pt&&qb))))=true then (n,b.length,0) else (0,0,13) by
  rw[hD,<-ab,<-ag];cases ok<;>cases pt<;>by_cases h1:te=0<;>by_cases h2:t.data.toList=s.data.toList<;>by_cases h3:b=[]<;>simp[h1,h2,h3])
 rw[<-au,<-ah] at a3 ai;rw[<-af] at ai ak
 have bf:sa.size+sb.size<=17:=by rw[au,ah,bE,bE];exact aj
 rw[<-ah] at bb;have a7:=f8 ak
 have ba:=f8 aw;clear an ak aw hD ha hb ap hn av ht al au ah af ab ag aj ar hm hL aq a8 hs;have bd:=f8 (hT.below ac.o);have a6:=f8 (λ(w1 w2 w3:World) (b1:BB (w.alloc (.cells #[I6 0,I6 0] 170)) w1) (b2:BB w1 w2) (b3:BB (w2.alloc (.cells #[I6 n,I6 (b.length:Int)] 170)) w3)=>(show w3.heap[w.heap.size]?=some (.cells #[I6 0,I6 0] 170) from by
  have z0:w.heap.size<(w.alloc (.cells #[I6 0,I6 0] 170)).heap.size:=by simp
  have z1:=b1.size;have z2:=b2.size;rw[b3.block _ (by simp;simp at z0 z1;omega),dA _ _ _ (by simp at z0 z1;omega),b2.block _ (by simp at z0 z1;omega),b1.block _ z0];exact ib _ _))
 have HO:=f8 (λ(w2 w3:World) (b3:BB (w2.alloc (.cells #[I6 n,I6 (b.length:Int)] 170)) w3)=>(show w3.heap[w2.heap.size]?=some (.cells #[I6 n,I6 (b.length:Int)] 170) from by
  rw[b3.block _ ge];exact ib _ _))
 have a4:=f8 (hN.below ac.o);clear hT hN;have ao:=f8 (λ(w':World) (h:NumVars w')=>(a7.o w' h).mono λe w2 hh=>show ∃p,e=.returned (.tuple #[I6 n,if ok=true then .nilIface else .iface 211 p])/\BB w' w2 from by
  obtain⟨ev,rfl,a9,hb⟩:=hh;rcases a9 with ⟨h,rfl⟩|⟨h,p,rfl⟩
  ·exact⟨.nilIface,by rw[gw h],hb⟩
  ·exact⟨p,by rw[f9 (by rw[h];simp)],hb⟩)
 obtain rfl|⟨rfl,al⟩|⟨rfl,rfl,rfl⟩|⟨rfl,rfl,rfl,rfl⟩|⟨rfl,rfl,rfl,rfl,rfl⟩|⟨rfl,rfl,rfl,rfl,rfl⟩:ok=false\/(ok=true/\te≠0)\/(ok=true/\te=0/\qt=false)\/(ok=true/\te=0/\qt=true/\pt=false)\/(ok=true/\te=0/\qt=true/\pt=true/\qb=false)\/(ok=true/\te=0/\qt=true/\pt=true/\qb=true):=by
  cases ok<;>cases qt<;>cases pt<;>cases qb<;>by_cases h:te=0<;>simp[h]
 all_goals
  (try simp only[Bool.not_false,Bool.not_true] at bc)
  go_enter func265,ntmps265
  go_wp2_with (first
   | (go_at_call 253;refine(ba.o _ (bd.below ((aa.trans (ad.mono aa.size)).alloc (io aa.size ad.size) _))).mono ?_;rintro e w3 ⟨rfl,a0⟩;have ax:=f8 a0;clear a0;have ae:=a6.o w1 w2 w3 aa.o ad.o ax.o;have c0:w3.cell? ⟨w.heap.size,0,none⟩=some (I6 0):=aA ae 0;have c1:w3.cell? ⟨w.heap.size,1,none⟩=some (I6 0):=aA ae 1;have f0:=aF2 ae 0;have f1:=aF2 ae 1;have ay:=f8 (HO.o w2 w3 ax.o);have d0:w3.cell? ⟨w2.heap.size,0,none⟩=some (I6 n):=aA ay.o 0;have d1:w3.cell? ⟨w2.heap.size,1,none⟩=some (I6 (b.length:Int)):=aA ay.o 1;have HH:=f8 ae;clear ae)
   | (go_at_call 45;refine(ao.o w1 (a4.below aa.o)).mono ?_;rintro e w2 ⟨p,rfl,az⟩;have ad:=f8 az;(try simp only[↓reduceIte,og]);clear az)
   | (go_at_call 50;refine a3.mono ?_;rintro e w1 ⟨rfl,nn,a1⟩;have aa:=f8 (show BB (w.alloc (.cells #[I6 0,I6 0] 170)) w1 from a1▸below_drewN _ nn);clear a1))
  refine ig (v:=.tuple #[.agg #[I6 (jM s.data.toList).1,I6 ((jM s.data.toList).2.1:Int)],I6 (jM s.data.toList).2.2]) ?_ ?_ ?_
  ·rw[HD.o];simp[results,results265,go_sem, *]
  ·rfl
  exact⟨rfl,(((ac.trans ((((aa.trans (ad.mono aa.size)).alloc (io aa.size ad.size) _).trans (ax.mono (by have:=aa.size;have:=ad.size;simp at *;omega))).mono ac.size)).setCell (p:=⟨w.heap.size,0,none⟩) lr _).setCell (p:=⟨w.heap.size,1,none⟩) lr _)⟩
def cT (w:World) (b:Nat) (cs:Array Value):World:={ w with heap:=w.heap.setIfInBounds b (.cells cs 174) }
theorem cA (w:World) (b:Nat) (cs:Array Value):(cT w b cs).heap.size=w.heap.size:=by simp[cT]
theorem aKb {w:World} {b:Nat} {cs:Array Value} (h:w.heap[b]?=some (.cells cs 174)):cT w b cs=w:=by
 unfold cT;have:w.heap.setIfInBounds b (.cells cs 174)=w.heap:=by
  apply qm;intro i;rw[mq];split
  ·rename_i hi;subst hi;have hb:b<w.heap.size:=by
    rcases mf b w.heap.size with q|q
    ·exact q
    ·rw[ow q] at h;cases h
   rw[gw hb,h]
  ·rfl
 rw[this]
theorem mV (w:World) (b:Nat) (cs:Array Value) (hb:b<w.heap.size):(cT w b cs).heap[b]?=some (.cells cs 174):=by
 unfold cT;rw[mq];simp[hb]
theorem aJ (w:World) (b:Nat) (cs:Array Value) (i:Nat) (hi:i≠b):(cT w b cs).heap[i]?=w.heap[i]?:=by
 unfold cT;rw[mq,f9 (λe=>hi e.symm)]
theorem fE (w:World) (b:Nat) (cs:Array Value) (i:Nat) (hb:b<w.heap.size):(cT w b cs).cell? ⟨b,i,none⟩=cs[i]?:=by
 unfold World.cell?;rw[mV w b cs hb];simp
theorem cS (w:World) (b b':Nat) (cs:Array Value) (i:Nat) (hb:b'≠b):(cT w b cs).cell? ⟨b',i,none⟩=w.cell? ⟨b',i,none⟩:=by
 unfold World.cell?;rw[aJ w b cs b' hb]
theorem dJ (w:World) (b:Nat) (cs:Array Value) (i:Nat):(cT w b cs).frozen? ⟨b,i,none⟩=false:=by
 unfold World.frozen?;by_cases hb:b<w.heap.size
 ·rw[mV w b cs hb];simp
 ·have h:(cT w b cs).heap[b]?=none:=ow (by rw[cA];omega);rw[h]
theorem bV (w:World) (b b':Nat) (cs:Array Value) (i:Nat) (hb:b'≠b):(cT w b cs).frozen? ⟨b',i,none⟩=w.frozen? ⟨b',i,none⟩:=by
 unfold World.frozen?;rw[aJ w b cs b' hb]
theorem cQ (w:World) (b:Nat) (cs:Array Value) (i:Nat) (v:Value):(cT w b cs).setCell ⟨b,i,none⟩ v=cT w b (cs.setIfInBounds i v):=by
 unfold World.setCell cT;congr 1;apply qm;intro k;simp only[mv,mq];by_cases hk:b=k
 ·subst hk;by_cases hb:b<w.heap.size<;>simp[hb]
 ·simp[hk]
theorem bQ (w:World) (b:Nat) (cs cs':Array Value):(cT w b cs).grownBy (cT w b cs') (some b) :=
 ⟨rfl,rfl,rfl,by rw[cA,cA];exact gy _,λi hi hne=>by
   have:i≠b:=λe=>hne (by rw[e]);rw[aJ _ _ _ _ this,aJ _ _ _ _ this]⟩
abbrev rdA (s:BA) (nx k p:Int) (t b:BA) (n sc:Int) (d x:Bool) (e o:Int):Array Value :=
 #[.string s,I6 nx,I6 k,I6 p,.string t,.string b,I6 n,I6 sc,.bool d,.bool x,I6 e,I6 o]
structure IsRd (w:World) (b:Nat) (s:BA) (r:Rd):Prop where
 at_:w.heap[b]?=some (.cells (rdA s r.nx r.k r.p r.t r.b r.n r.sc r.d r.x r.e r.o) 174)
 ok:r.Ok s
theorem IsRd.lt {w:World} {b:Nat} {s:BA} {r:Rd} (h:IsRd w b s r):b<w.heap.size:=by
 rcases mf b w.heap.size with q|q
 ·exact q
 ·have:=h.at_;rw[ow q] at this;cases this
theorem IsRd.put {w:World} {b:Nat} {s:BA} {r:Rd} (h:IsRd w b s r):∃W,b<W.heap.size/\w=cT W b (rdA s r.nx r.k r.p r.t r.b r.n r.sc r.d r.x r.e r.o) :=
 ⟨w,h.lt,(aKb h.at_).symm⟩
theorem IsRd.grown {w w':World} {b:Nat} {s:BA} {r:Rd} (h:IsRd w b s r) {row:Option Nat} (hg:w.grownBy w' row) (hr:some b≠row):IsRd w' b s r :=
 ⟨(hg.block b h.lt hr).trans h.at_,h.ok⟩
theorem IsRd.alloc {w:World} {b:Nat} {s:BA} {r:Rd} (h:IsRd w b s r) (o:Obj):IsRd (w.alloc o) b s r :=
 h.grown (jq w o none) ge
theorem dK (W:World) (b:Nat) (s:BA) (r:Rd) (hb:b<W.heap.size) (ok:r.Ok s) (cs:Array Value) (hc:cs=rdA s r.nx r.k r.p r.t r.b r.n r.sc r.d r.x r.e r.o):IsRd (cT W b cs) b s r :=
 ⟨by rw[mV W b cs hb,hc],ok⟩
section
attribute [local go_sem] cQ fE cS dJ bV cA
theorem bH (b:Nat) (s:BA) (r:Rd) (p:Nat) (e:Int) (w:World) (h:IsRd w b s r) :
 CP 162 #[Pt b 0,I6 p,I6 e] w λx w'=>x=.returned (.tuple #[])/\IsRd w' b s (r.fail p e)/\w.grownBy w' (some b):=by
 have ok:=f8 h.ok;obtain⟨W,hW,hw⟩:=h.put;clear h;subst hw;by_cases he:r.e=0
 ·go_enter func162,ntmps162
  go_wp2;refine jj (iu rfl _ _ _) rfl ?_;refine⟨rfl,?_,?_⟩
  ·refine dK W b s _ hW (Rd.fail_ok ok.o p e) _ ?_;rw[Rd.fail,gw he]
  ·exact bQ _ _ _ _
 ·go_enter func162,ntmps162
  go_wp2;refine jj (iu rfl _ _ _) rfl ?_;refine⟨rfl,?_,?_⟩
  ·refine dK W b s _ hW (Rd.fail_ok ok.o p e) _ ?_;rw[Rd.fail,f9 he]
  ·exact bQ _ _ _ _
theorem uF (c:UInt8) (w:World):CP 216 #[.int .u8 c.toNat] w λx w'=>x=.returned (.bool (nQ c))/\w'=w:=by
 have h:nQ c=((decide ((97:Int)<=c.toNat)&&decide ((c.toNat:Int)<=122))||(decide ((65:Int)<=c.toNat)&&decide ((c.toNat:Int)<=90))):=by
  unfold nQ;congr 2<;>simp<;>omega
 rw[h];clear h;obtain⟨n,hn⟩:=xe (c.toNat:Int)
 rw[<-hn];clear hn;by_cases h1:(97:Int)<=n<;>by_cases h2:n<=122<;>by_cases h3:(65:Int)<=n<;>by_cases h4:n<=90 <;>
  (go_enter func216,ntmps216;go_wp2;go_ret;exact⟨by simp[h1,h2,h3,h4],rfl⟩)
theorem nH (c:UInt8) (w:World):CP 218 #[.int .u8 c.toNat] w λx w'=>x=.returned (.bool (bI c))/\w'=w:=by
 have h:bI c=(decide ((48:Int)<=c.toNat)&&decide ((c.toNat:Int)<=57)):=by
  unfold bI;congr 2<;>simp<;>omega
 rw[h];clear h;obtain⟨n,hn⟩:=xe (c.toNat:Int)
 rw[<-hn];clear hn;by_cases h1:(48:Int)<=n<;>by_cases h2:n<=57 <;>
  (go_enter func218,ntmps218;go_wp2;go_ret;exact⟨by simp[h1,h2],rfl⟩)
theorem aEx (c:UInt8) (w:World):CP 217 #[.int .u8 c.toNat] w λx w'=>x=.returned (.bool (mN c))/\w'=w:=by
 have h:mN c=(nQ c||(bI c||decide ((c.toNat:Int)=95))):=by
  unfold mN;congr 2;rw[n8];simp;omega
 rw[h];clear h;have HL:=f8 (uF c w);have HD:=f8 (nH c w);obtain⟨l,hl⟩:=xe (nQ c)
 obtain⟨d,hd⟩:=xe (bI c)
 rw[<-hl] at HL ⊢;rw[<-hd] at HD ⊢;clear hl hd;obtain⟨n,hn⟩:=xe (c.toNat:Int)
 rw[<-hn] at HL HD ⊢;clear hn;cases l<;>cases d<;>rcases Decidable.em (n=95) with rfl|h1 <;>
  (go_enter func217,ntmps217
   go_wp2_with (first
    | (go_at_call 216;refine HL.mono ?_;rintro e w1 ⟨rfl,rfl⟩)
    | (go_at_call 218;refine HD.mono ?_;rintro e w1 ⟨rfl,rfl⟩))
   go_ret;exact⟨by simp[*],rfl⟩)
theorem strEq' (a b:BA):(a.toList==b.toList)=decide (a=b):=by
 rw[aIr,decide_eq_decide];exact⟨λh=>kn (lk h),λh=>by rw[h]⟩
theorem uZ (b:Nat) (s:BA) (r:Rd) (t:BA) (w:World) (h:IsRd w b s r) :
 CP 220 #[Pt b 0,Sv t] w λx w'=>x=.returned (.bool (r.is t))/\w'=w:=by
 have ok:=f8 h.ok;obtain⟨W,hW,hw⟩:=h.put;clear h;subst hw;have hi:r.is t=(decide (r.e=0)&&((decide ((r.k:Int)=5)||decide ((r.k:Int)=1))&&(r.t.toList==t.toList))):=by
  have a1:decide ((r.k:Int)=5)=decide (r.k=5):=by rw[decide_eq_decide];omega
  have a2:decide ((r.k:Int)=1)=decide (r.k=1):=by rw[decide_eq_decide];omega
  unfold Rd.is;rw[strEq',a1,a2]
 rw[hi];clear hi;obtain⟨q,hq⟩:∃q,(r.t.toList==t.toList)=q:=⟨_,rfl⟩
 obtain⟨kk,aa⟩:∃kk:Int,(r.k:Int)=kk:=⟨_,rfl⟩
 obtain⟨ee,ab⟩:∃ee:Int,r.e=ee:=⟨_,rfl⟩
 rw[aa,hq,ab];clear aa ab;by_cases he:ee=0
 ·subst he;by_cases h5:kk=5
  ·subst h5;go_enter func220,ntmps220
   go_wp2;go_ret;exact⟨by simp,rfl⟩
  ·by_cases h1:kk=1
   ·subst h1;go_enter func220,ntmps220
    go_wp2;go_ret;exact⟨by simp,rfl⟩
   ·go_enter func220,ntmps220
    go_wp2;go_ret;exact⟨by simp[h1,h5],rfl⟩
 ·go_enter func220,ntmps220
  go_wp2;go_ret;exact⟨by simp[he],rfl⟩
theorem hex_tab:∀n:Fin 256,iO (UInt8.ofNat n.val)=Lib.indexByte [48,49,50,51,52,53,54,55,56,57,97,98,99,100,101,102] (UInt8.ofNat (wV n.val)):=by decide +kernel
theorem sp_tab:∀n:Fin 256,spC (UInt8.ofNat n.val)=decide (0<=Lib.indexByte [32,9,13,10] (UInt8.ofNat n.val)):=by decide +kernel
theorem hex_idx (c:UInt8):iO c=Lib.indexByte [48,49,50,51,52,53,54,55,56,57,97,98,99,100,101,102] (UInt8.ofNat (wV c.toNat)):=by
 have:=hex_tab ⟨c.toNat,c.toNat_lt⟩
 simpa using this
theorem sp_idx (c:UInt8):spC c=decide (0<=Lib.indexByte [32,9,13,10] c):=by
 have:=sp_tab ⟨c.toNat,c.toNat_lt⟩
 simpa using this
theorem aGh (c:UInt8) (w:World):CP 213 #[.int .u8 c.toNat] w λx w'=>x=.returned (.bool (spC c))/\w'=w:=by
 have HI:=f8 (Tryz.strings_IndexByte ⟨#[32,9,13,10]⟩ (c.toNat:Int) w);rw[sp_idx];rw[show((c.toNat:Int).toNat.toUInt8)=c by simp] at HI;obtain⟨i,hi⟩:=xe (Lib.indexByte [32,9,13,10] c)
 rw[<-hi] at HI ⊢;clear hi;go_enter func213,ntmps213
 go_wp2_with (go_at_call 55;refine HI.mono ?_;rintro e w1 ⟨rfl,rfl⟩)
 go_ret;exact⟨by simp,rfl⟩
theorem aEy (c:UInt8) (w:World):CP 264 #[.int .u8 c.toNat] w λx w'=>x=.returned (I6 (iO c))/\w'=w:=by
 rw[hex_idx];have HI:=f8 (Tryz.strings_IndexByte ⟨#[48,49,50,51,52,53,54,55,56,57,97,98,99,100,101,102]⟩ (wV c.toNat:Int) w);rw[show((wV c.toNat:Int).toNat.toUInt8)=UInt8.ofNat (wV c.toNat) by simp] at HI;obtain⟨i,hi⟩:=xe (Lib.indexByte [48,49,50,51,52,53,54,55,56,57,97,98,99,100,101,102] (UInt8.ofNat (wV c.toNat)))
 rw[<-hi] at HI ⊢;clear hi;have aa:=c.toNat_lt;obtain⟨n,hn⟩:=xe c.toNat
 rw[<-hn] at HI ⊢ aa;clear hn;by_cases h1:65<=n/\n<=70
 ·rw[show((wV n:Nat):Int)=(n:Int)+32 by unfold wV;rw[gw h1];omega] at HI;have h2:(65:Int)<=n:=ga
  have h3:(n:Int)<=70:=ga
  have h4:IntKind.u8.wrap ((n:Int)+32)=(n:Int)+32:=o7 _ ⟨by omega,by omega⟩;go_enter func264,ntmps264
  go_wp2_with (go_at_call 55;refine HI.mono ?_;rintro e w1 ⟨rfl,rfl⟩)
  go_ret;exact⟨rfl,rfl⟩
 ·rw[show wV n=n by unfold wV;rw[f9 h1]] at HI;by_cases h2:(65:Int)<=n
  ·have h3:¬ (n:Int)<=70:=ga
   go_enter func264,ntmps264
   go_wp2_with (go_at_call 55;refine HI.mono ?_;rintro e w1 ⟨rfl,rfl⟩)
   go_ret;exact⟨rfl,rfl⟩
  ·go_enter func264,ntmps264
   go_wp2_with (go_at_call 55;refine HI.mono ?_;rintro e w1 ⟨rfl,rfl⟩)
   go_ret;exact⟨rfl,rfl⟩
theorem aAh (b:Nat) (s:BA) (r:Rd) (i:Nat) (w:World) (h:IsRd w b s r) (hi:i<=s.size) (hs:s.size<=140737488351232) :
 CP 212 #[Pt b 0,I6 i,.func (.func 218) #[] #[]] w λx w'=>x=.returned (I6 (bP s.data.toList i bI))/\w'=w:=by
 have ok:=f8 h.ok;obtain⟨W,hW,hw⟩:=h.put;clear h;subst hw;go_enter func212,ntmps212
 go_wp2
 go_loopw [1] (λv wr=>∃k:Nat,k<=s.size/\v=I6 k/\bP s.data.toList k bI=bP s.data.toList i bI/\wr=cT W b (rdA s r.nx r.k r.p r.t r.b r.n r.sc r.d r.x r.e r.o)) (λv _=>s.size-(intOf v).toNat)
 case atStart=>exact⟨i,hi,rfl,rfl,rfl⟩
 case round =>
  obtain⟨k,hk,rfl,aa,rfl⟩:=hrel;have HR:=f8 aa;clear aa hi;by_cases ac:k<s.size
  ·have ad:(k:Int)<(s.size:Int):=ga
   have ae:(0:Int)<=(k:Int):=ga
   have HC:=f8 (nH s[k] (cT W b (rdA s r.nx r.k r.p r.t r.b r.n r.sc r.d r.x r.e r.o)));have hg:=lQ s k ac;obtain⟨q,hq⟩:=xe (bI s[k])
   rw[<-hq] at HC;obtain⟨HQ,HG⟩:=h_2 hq hg;clear hq hg;cases q
   ·go_wp2_with (go_at_call 218;refine HC.mono ?_;rintro e w1 ⟨rfl,rfl⟩)
    go_ret;refine⟨?_,rfl⟩;rw[<-HR.o,fX s.data.toList k bI (λc hc=>by rw[HG.o] at hc;cases hc;exact HQ.symm)];rfl
   ·go_wp2_with (go_at_call 218;refine HC.mono ?_;rintro e w1 ⟨rfl,rfl⟩)
    refine⟨⟨k+1,by omega,by go_num,?_,trivial⟩,by simp[intOf];omega⟩;rw[<-HR.o,oY s.data.toList k bI s[k] HG.o HQ.symm]
  ·obtain rfl:k=s.size:=ga
   go_wp2;go_ret;refine⟨?_,rfl⟩;have ab:s.data.toList.length=s.size:=rfl;rw[<-HR.o,fX s.data.toList s.size bI (λc hc=>by rw[ng (Nat.le_of_eq ab)] at hc;cases hc)];rfl
theorem aMu (b:Nat) (s:BA) (r:Rd) (i:Nat) (w:World) (h:IsRd w b s r) (hi:i<=s.size) (hs:s.size<=140737488351232) :
 CP 212 #[Pt b 0,I6 i,.func (.func 217) #[] #[]] w λx w'=>x=.returned (I6 (bP s.data.toList i mN))/\w'=w:=by
 have ok:=f8 h.ok;obtain⟨W,hW,hw⟩:=h.put;clear h;subst hw;go_enter func212,ntmps212
 go_wp2
 go_loopw [1] (λv wr=>∃k:Nat,k<=s.size/\v=I6 k/\bP s.data.toList k mN=bP s.data.toList i mN/\wr=cT W b (rdA s r.nx r.k r.p r.t r.b r.n r.sc r.d r.x r.e r.o)) (λv _=>s.size-(intOf v).toNat)
 case atStart=>exact⟨i,hi,rfl,rfl,rfl⟩
 case round =>
  obtain⟨k,hk,rfl,aa,rfl⟩:=hrel;have HR:=f8 aa;clear aa hi;by_cases ac:k<s.size
  ·have ad:(k:Int)<(s.size:Int):=ga
   have ae:(0:Int)<=(k:Int):=ga
   have HC:=f8 (aEx s[k] (cT W b (rdA s r.nx r.k r.p r.t r.b r.n r.sc r.d r.x r.e r.o)));have hg:=lQ s k ac;obtain⟨q,hq⟩:=xe (mN s[k])
   rw[<-hq] at HC;obtain⟨HQ,HG⟩:=h_2 hq hg;clear hq hg;cases q
   ·go_wp2_with (go_at_call 217;refine HC.mono ?_;rintro e w1 ⟨rfl,rfl⟩)
    go_ret;refine⟨?_,rfl⟩;rw[<-HR.o,fX s.data.toList k mN (λc hc=>by rw[HG.o] at hc;cases hc;exact HQ.symm)];rfl
   ·go_wp2_with (go_at_call 217;refine HC.mono ?_;rintro e w1 ⟨rfl,rfl⟩)
    refine⟨⟨k+1,by omega,by go_num,?_,trivial⟩,by simp[intOf];omega⟩;rw[<-HR.o,oY s.data.toList k mN s[k] HG.o HQ.symm]
  ·obtain rfl:k=s.size:=ga
   go_wp2;go_ret;refine⟨?_,rfl⟩;have ab:s.data.toList.length=s.size:=rfl;rw[<-HR.o,fX s.data.toList s.size mN (λc hc=>by rw[ng (Nat.le_of_eq ab)] at hc;cases hc)];rfl
theorem aK1 (b:Nat) (s:BA) (r:Rd) (i:Nat) (w:World) (h:IsRd w b s r) (hi:i<=s.size) (hs:s.size<=140737488351232) :
 CP 212 #[Pt b 0,I6 i,.func (.func 213) #[] #[]] w λx w'=>x=.returned (I6 (bP s.data.toList i spC))/\w'=w:=by
 have ok:=f8 h.ok;obtain⟨W,hW,hw⟩:=h.put;clear h;subst hw;go_enter func212,ntmps212
 go_wp2
 go_loopw [1] (λv wr=>∃k:Nat,k<=s.size/\v=I6 k/\bP s.data.toList k spC=bP s.data.toList i spC/\wr=cT W b (rdA s r.nx r.k r.p r.t r.b r.n r.sc r.d r.x r.e r.o)) (λv _=>s.size-(intOf v).toNat)
 case atStart=>exact⟨i,hi,rfl,rfl,rfl⟩
 case round =>
  obtain⟨k,hk,rfl,aa,rfl⟩:=hrel;have HR:=f8 aa;clear aa hi;by_cases ac:k<s.size
  ·have ad:(k:Int)<(s.size:Int):=ga
   have ae:(0:Int)<=(k:Int):=ga
   have HC:=f8 (aGh s[k] (cT W b (rdA s r.nx r.k r.p r.t r.b r.n r.sc r.d r.x r.e r.o)));have hg:=lQ s k ac;obtain⟨q,hq⟩:=xe (spC s[k])
   rw[<-hq] at HC;obtain⟨HQ,HG⟩:=h_2 hq hg;clear hq hg;cases q
   ·go_wp2_with (go_at_call 213;refine HC.mono ?_;rintro e w1 ⟨rfl,rfl⟩)
    go_ret;refine⟨?_,rfl⟩;rw[<-HR.o,fX s.data.toList k spC (λc hc=>by rw[HG.o] at hc;cases hc;exact HQ.symm)];rfl
   ·go_wp2_with (go_at_call 213;refine HC.mono ?_;rintro e w1 ⟨rfl,rfl⟩)
    refine⟨⟨k+1,by omega,by go_num,?_,trivial⟩,by simp[intOf];omega⟩;rw[<-HR.o,oY s.data.toList k spC s[k] HG.o HQ.symm]
  ·obtain rfl:k=s.size:=ga
   go_wp2;go_ret;refine⟨?_,rfl⟩;have ab:s.data.toList.length=s.size:=rfl;rw[<-HR.o,fX s.data.toList s.size spC (λc hc=>by rw[ng (Nat.le_of_eq ab)] at hc;cases hc)];rfl
end
section
attribute [local go_sem] cQ fE cS dJ bV cA
theorem aM3 (l:List UInt8) (i:Nat) (aa:Int) (acc:List UInt8) (h:l=[]):eG l i aa acc=.inr none:=by subst h;rfl
theorem bytGo_q (c:UInt8) (l:List UInt8) (i:Nat) (aa:Int) (acc:List UInt8) (h:c.toNat=34) (h2:aa<0):eG (c :: l) i aa acc=.inl (i+1,acc):=by
 unfold eG;rw[gw ⟨h,h2⟩]
theorem bytGo_f (c:UInt8) (l:List UInt8) (i:Nat) (aa:Int) (acc:List UInt8) (h:¬ (c.toNat=34/\aa<0)) (h2:iO c<0):eG (c :: l) i aa acc=.inr (some i):=by
 unfold eG;rw[f9 h,gw h2]
theorem bytGo_1 (c:UInt8) (l:List UInt8) (i:Nat) (aa:Int) (acc:List UInt8) (h:¬ (c.toNat=34/\aa<0)) (h2:¬ iO c<0) (h3:aa<0):eG (c :: l) i aa acc=eG l (i+1) (iO c) acc:=by
 rw[eG,f9 h,f9 h2,gw h3]
theorem bytGo_2 (c:UInt8) (l:List UInt8) (i:Nat) (aa:Int) (acc:List UInt8) (h:¬ (c.toNat=34/\aa<0)) (h2:¬ iO c<0) (h3:¬ aa<0):eG (c :: l) i aa acc=eG l (i+1) (-1) (acc++[UInt8.ofNat (16 * aa+iO c).toNat]):=by
 rw[eG,f9 h,f9 h2,f9 h3]
theorem aL8 (c:UInt8):iO c<16:=by
 have:∀n:Fin 256,iO (UInt8.ofNat n.val)<16:=by decide +kernel
 have:=this ⟨c.toNat,c.toNat_lt⟩
 simpa using this
theorem hexI_34 (c:UInt8) (h:c.toNat=34):iO c<0:=by
 have:∀n:Fin 256,n.val=34->iO (UInt8.ofNat n.val)<0:=by decide +kernel
 have:=this ⟨c.toNat,c.toNat_lt⟩ h
 simpa using this
theorem wK (b:Nat) (s:BA) (r:Rd) (ac:Nat) (w:World) (h:IsRd w b s r) (a5:ac+2<=s.size) (hs:s.size<=1000000) :
 CP 215 #[Pt b 0,I6 ac] w λx w'=>x=.returned (.tuple #[])/\IsRd w' b s (jS s.data.toList ac r)/\w.grownBy w' (some b):=by
 have a2:s.data.toList.length=s.size:=rfl;have HR:=f8 h;have bd:=f8 (show BB w (w.alloc (.cells #[.pointer none,Z0] 112)) from(bR w).alloc lr _);have a4:=f8 (lP w);have bi:=f8 h.lt;clear h;go_enter func215,ntmps215
 go_wp2
 go_loopw [5,6] (λov iv wr=>∃(aa:Int) (k:Nat) (acc:List UInt8),ov=I6 aa/\iv=I6 k /\ -1<=aa/\aa<=15/\ac+2<=k/\k<=s.size/\acc.length<=k/\eG (s.data.toList.drop (ac+2)) (ac+2) (-1) []=eG (s.data.toList.drop k) k aa acc/\IsBld w.heap.size w.heap.size (Lib.byteCells acc) wr/\BB w wr) (λ_ iv _=>s.size-(intOf iv).toNat)
 case atStart=>exact⟨-1,ac+2,[],rfl,rfl,by omega,by omega,gy _,a5,ii _,rfl,a4.o,bd.o⟩
 case round =>
  obtain⟨aa,k,acc,rfl,rfl,be,bf,bj,hk,bh,ay,ax,ai⟩:=hrel;have ap:=f8 (HR.grown (aU ai none) ge);obtain⟨W,hW,hw⟩:=ap.put;have HG:=f8 (aU ai (some b));obtain⟨au,aq,al⟩:=h_3 ay ax ai;have aw:=f8 ai.size;clear ay ax ai;by_cases ba:k<s.size
  ·have a3:(k:Int)<(s.size:Int):=ga
   have bg:(0:Int)<=(k:Int):=ga
   have hd:=pI s k ba;have ao:(Lib.byteCells acc).length<=s.size:=by simp[Lib.byteCells];omega
   have a6:=f8 (λ(c:Int)=>cY w.heap.size w.heap.size (Lib.byteCells acc) c wr aq.o ga aw.o);have a9:=f8 (show CP 54 #[Pt w.heap.size 0] wr λe w2=>e=.returned (Sv ⟨acc.toArray⟩)/\Below w.heap.size wr w2 from(Tryz.Builder_String_any_k _ _ _ wr aq.o aw.o).mono λe w2 ⟨he,_,hb,_⟩=>⟨he,hb⟩);have af:=f8 (aEy s[k] wr);have an:=f8 (bH b s r k 13 wr ap.o);have bb:=aL8 s[k];have ar:=hexI_34 s[k];have hQ:=bytGo_q s[k] (s.data.toList.drop (k+1)) k aa acc;have hF:=bytGo_f s[k] (s.data.toList.drop (k+1)) k aa acc
   have h1:=bytGo_1 s[k] (s.data.toList.drop (k+1)) k aa acc;have h2:=bytGo_2 s[k] (s.data.toList.drop (k+1)) k aa acc;rw[<-hd,<-au.o] at hQ hF h1 h2;obtain⟨n,hn⟩:=xe (iO s[k])
   rw[<-hn] at hF h1 h2 bb ar af;obtain⟨HQ,HF,H1,H2⟩:=h_4 hQ hF h1 h2;clear hQ hF h1 h2 hn hd au ao;subst hw;by_cases hq:s[k].toNat=34
   ·have a1:((s[k].toNat:Int)==34)=true:=by simp;omega
    have ak:n<0:=ar hq;have a7:=f8 hq;clear hq ar;by_cases am:aa<0
    ·go_wp2_with (first
      | (go_at_call 54;refine a9.mono ?_;rintro e w2 ⟨rfl,ah⟩;have ag:=f8 ah;clear ah;have av:=f8 (HR.grown (aU (al.trans ag.o) none) ge);obtain⟨W2,az,a0⟩:=av.put;have ae:=f8 (aU (al.trans ag.o) (some b));clear ag av;subst a0)
      | (go_at_call 264;refine af.mono ?_;rintro e w2 ⟨rfl,rfl⟩))
     refine ig (iu rfl _ _ _) rfl ?_;refine⟨rfl,?_,ae.trans (bQ _ _ _ _)⟩;rw[jS,HQ.o a7.o am];exact dK W2 b s { r with k:=4,b:=⟨acc.toArray⟩,nx:=k+1 } az ⟨(λe=>nomatch e),by show k+1<=s.size;omega,HR.ok.p⟩ _ rfl
    ·go_wp2_with (first
      | (go_at_call 162;refine an.mono ?_;rintro e w2 ⟨rfl,h2,ab⟩;obtain⟨aj,ae⟩:=h_2 h2 ab;clear h2 ab)
      | (go_at_call 264;refine af.mono ?_;rintro e w2 ⟨rfl,rfl⟩))
     refine ig (iu rfl _ _ _) rfl ?_;exact⟨rfl,by rw[jS,HF.o (λh=>absurd h.2 ga) ak];exact aj.o,HG.trans ae.o⟩
   ·have a1:((s[k].toNat:Int)==34)=false:=by simp;omega
    by_cases ak:n<0
    ·go_wp2_with (first
      | (go_at_call 162;refine an.mono ?_;rintro e w2 ⟨rfl,h2,ab⟩;obtain⟨aj,ae⟩:=h_2 h2 ab;clear h2 ab)
      | (go_at_call 264;refine af.mono ?_;rintro e w2 ⟨rfl,rfl⟩))
     refine ig (iu rfl _ _ _) rfl ?_;exact⟨rfl,by rw[jS,HF.o ga ga];exact aj.o,HG.trans ae.o⟩
    by_cases am:aa<0
    ·go_wp2_with (go_at_call 264;refine af.mono ?_;rintro e w2 ⟨rfl,rfl⟩)
     refine⟨⟨n,k+1,acc,rfl,by go_num,by omega,by omega,by omega,by omega,by omega,H1.o ga ak am,aq.o,al.o⟩,by simp[intOf];omega⟩
    ·have e1:IntKind.i64.wrap (16 * aa)=16 * aa:=ip _ ⟨by omega,by omega⟩;have e2:IntKind.i64.wrap (16 * aa+n)=16 * aa+n:=ip _ ⟨by omega,by omega⟩;have e3:IntKind.u8.wrap (16 * aa+n)=16 * aa+n:=o7 _ ⟨by omega,by omega⟩;go_wp2_with (first
      | (go_at_call 53;refine(a6.o _).mono ?_;rintro e w2 ⟨rfl,h2,ah,a8⟩;obtain⟨bc,ag⟩:=h_2 h2 ah;clear h2 ah a8)
      | (go_at_call 264;refine af.mono ?_;rintro e w2 ⟨rfl,rfl⟩))
     refine⟨⟨-1,k+1,acc++[UInt8.ofNat (16 * aa+n).toNat],rfl,by go_num,by omega,by omega,by omega,by omega,by simp;omega,H2.o ga ak am,?_,al.trans ag.o⟩,by simp[intOf];omega⟩;have e4:Lib.byteCells (acc++[UInt8.ofNat (16 * aa+n).toNat])=Lib.byteCells acc++[.int .u8 (16 * aa+n)]:=by
      simp[Lib.byteCells];omega
     rw[e4];exact .inr bc.o
  ·obtain rfl:k=s.size:=ga
   have an:=f8 (bH b s r ac 4 wr ap.o);have ad:=aM3 (s.data.toList.drop s.size) s.size aa acc (ph (Nat.le_of_eq a2));rw[<-au.o] at ad;have HE:=f8 ad;clear ad;subst hw;go_wp2_with (go_at_call 162;refine an.mono ?_;rintro e w2 ⟨rfl,h2,ab⟩;obtain⟨aj,ae⟩:=h_2 h2 ab;clear h2 ab)
   refine jj (iu rfl _ _ _) rfl ?_;exact⟨rfl,by rw[jS,HE.o];exact aj.o,HG.trans ae.o⟩
end
theorem aCs (n:Nat) (w:World):CP 298 #[I6 n] w λx w'=>x=.returned (.bool (jZ n))/\w'=w:=by
 have h:jZ n=(decide ((n:Int)<=1114111)&&(decide ((n:Int)<55296)||decide ((57343:Int)<n))):=by
  have a1:decide ((n:Int)<=1114111)=decide (n<=1114111):=by rw[decide_eq_decide];omega
  have a2:decide ((n:Int)<55296)=decide (n<55296):=by rw[decide_eq_decide];omega
  have a3:decide ((57343:Int)<n)=decide (57343<n):=by rw[decide_eq_decide];omega
  rw[a1,a2,a3];rfl
 rw[h];clear h;obtain⟨m,hm⟩:=xe (n:Int)
 have h0:0<=m:=ga
 rw[<-hm];clear hm;by_cases h1:m<=1114111<;>by_cases h2:m<55296<;>by_cases h3:57343<m <;>
  (go_enter func298,ntmps298;go_wp2;go_ret;exact⟨by simp[h1,h2,h3],rfl⟩)
theorem aF9 (n:Nat) (hn:n<=1000000000) (w:World):CP 285 #[I6 n] w λx w'=>x=.returned (if jZ n=true then .tuple #[Sv (Utf8.encode (n:Int)),I6 0] else .tuple #[Sv ⟨#[]⟩,I6 2])/\w'=w:=by
 have HI:=f8 (aCs n w);have hw:IntKind.i32.wrap (n:Int)=n:=IntWalk.i32_in _ ⟨by omega,by omega⟩;obtain⟨q,hq⟩:=xe (jZ n)
 rw[<-hq] at HI ⊢;clear hq hn;cases q
 ·go_enter func285,ntmps285
  go_wp2_with (go_at_call 298;refine HI.mono ?_;rintro e w1 ⟨rfl,rfl⟩)
  refine ig (v:=.tuple #[Sv ⟨#[]⟩,I6 2]) (by simp[results,results285,go_sem]) rfl ?_;exact⟨by simp,rfl⟩
 ·go_enter func285,ntmps285
  go_wp2_with (go_at_call 298;refine HI.mono ?_;rintro e w1 ⟨rfl,rfl⟩)
  refine ig (v:=.tuple #[Sv (Utf8.encode (n:Int)),I6 0]) (by simp[results,results285,go_sem]) rfl ?_;exact⟨by simp,rfl⟩
theorem aG2 (s:BA) (hs:s.size<=1000000) (w:World) (hT:Tabs w):CP 132 #[Sv s] w λx w'=>x=.returned (.bool (Lib.validD s.data.toList))/\BB w w':=by
 have HV:=f8 (Tryz.utf8_ValidString s w ga hT.1);clear hT;go_enter func132,ntmps132
 go_wp2_with (go_at_call 191;refine HV.mono ?_;rintro e w1 ⟨rfl,hb⟩)
 go_ret;exact⟨rfl,hb⟩
theorem aNz:∀n:Fin 256,n.val≠34->n.val≠92->n.val≠110->n.val≠114->n.val≠116->Lib.indexByte [34,92,110,114,116] (UInt8.ofNat n.val) = -1:=by decide +kernel
theorem hexI_lt (c:UInt8):iO c<16:=by
 have:∀n:Fin 256,iO (UInt8.ofNat n.val)<16:=by decide +kernel
 have:=this ⟨c.toNat,c.toNat_lt⟩
 simpa using this
theorem aF0 (c:UInt8) (l:List UInt8) (n:Nat) (h:¬ iO c<0):kU (c :: l) n=kU l (16 * n+(iO c).toNat):=by simp[kU,h]
theorem aF1 (c:UInt8) (l:List UInt8) (n:Nat) (h:iO c<0):kU (c :: l) n=none:=by simp[kU,h]
theorem rZ (v k:Nat) (b:UInt8) (hk:Lib.indexByte [34,92,110,114,116] (v:Int).toNat.toUInt8=(k:Int)) (ac:k<5) (hb:(⟨#[34,92,10,13,9]⟩:BA).extract k (k+1)=⟨#[b]⟩)
 (s:BA) (hs:s.size<=1000000) (h0:0<s.size) (hc:s[0].toNat=v) (he:fI s.data.toList=([b],1,0)) (w:World) :
 CP 263 #[Sv s] w λx w'=>x=.returned (.tuple #[Sv ⟨(fI s.data.toList).1.toArray⟩,I6 ((fI s.data.toList).2.1:Int),I6 (fI s.data.toList).2.2])/\BB w w':=by
 rw[he];have HI:=f8 (Tryz.strings_IndexByte ⟨#[34,92,110,114,116]⟩ (v:Int) w);rw[show(⟨#[34,92,110,114,116]⟩:BA).data.toList=[34,92,110,114,116] from rfl,hk] at HI;have HB:=f8 hb;clear hk hb he;have aa:(0:Int)<(s.size:Int):=ga
 have ab:(0:Int)<=(k:Int):=ga
 go_enter func263,ntmps263
 go_wp2_with (go_at_call 55;refine HI.mono ?_;rintro e w1 ⟨rfl,rfl⟩)
 refine ig (v:=.tuple #[Sv ⟨#[b]⟩,I6 1,I6 0]) (by simp[results,results263,go_sem,HB.o]) rfl ?_;exact⟨rfl,gx _ _⟩
theorem esc_of (l:List UInt8) (c:UInt8) (r:List UInt8) (hl:l=c :: r) (h:c.toNat≠34/\c.toNat≠92/\c.toNat≠110/\c.toNat≠114/\c.toNat≠116) (q:List UInt8 × List UInt8 × Bool) (hq:q=Lib.cut (Lib.trimPrefix l [117,123]) [125]) :
 fI l=(if Lib.hasPrefix l [117,123]=false\/q.2.2=false\/q.1.length<1\/6<q.1.length then ([],0,13) else
  match kU q.1 0 with
  | none=>([],0,13)
  | some n=>if jZ n=false then ([],0,16) else ((Utf8.encode (n:Int)).data.toList,q.1.length+3,0):List UInt8 × Nat × Int):=by
 subst hl;unfold fI;dsimp only;rw[f9 h.1,f9 h.2.1,f9 h.2.2.1,f9 h.2.2.2.1,f9 h.2.2.2.2,<-hq];rfl
theorem escape2 (s:BA) (hs:s.size<=1000000) (h0:0<s.size) (hc:s[0].toNat≠34/\s[0].toNat≠92/\s[0].toNat≠110/\s[0].toNat≠114/\s[0].toNat≠116) (w:World) (hN:NumVars w) :
 CP 263 #[Sv s] w λx w'=>x=.returned (.tuple #[Sv ⟨(fI s.data.toList).1.toArray⟩,I6 ((fI s.data.toList).2.1:Int),I6 (fI s.data.toList).2.2])/\BB w w':=by
 obtain⟨m,hm⟩:=hN.2.2;have hl:s.data.toList=s[0] :: s.data.toList.drop 1:=by
  have:=pI s 0 h0
  simpa using this
 obtain⟨q,hq⟩:=xe (Lib.cut (Lib.trimPrefix s.data.toList [117,123]) [125])
 have hE:=esc_of s.data.toList s[0] _ hl hc q hq;obtain⟨v,hv⟩:=xe (s[0].toNat:Nat)
 have hi:=Tryz.strings_IndexByte ⟨#[34,92,110,114,116]⟩ (v:Int) w;have hx:Lib.indexByte (⟨#[34,92,110,114,116]⟩:BA).data.toList (v:Int).toNat.toUInt8 = -1:=by
  have h:=aNz ⟨s[0].toNat,s[0].toNat_lt⟩ hc.1 hc.2.1 hc.2.2.1 hc.2.2.2.1 hc.2.2.2.2;rw[hv];exact h
 rw[hx] at hi;have HI:=f8 hi;have ap:=Tryz.strings_TrimPrefix s ⟨#[117,123]⟩ w;rw[show(⟨#[117,123]⟩:BA).data.toList=[117,123] from rfl] at ap;obtain⟨st,an⟩:=xe (⟨(Lib.trimPrefix s.data.toList [117,123]).toArray⟩:BA)
 have a8:(Lib.trimPrefix s.data.toList [117,123]).length<=s.size:=by
  unfold Lib.trimPrefix;have:s.data.toList.length=s.size:=rfl;split
  ·rw[ju];omega
  ·omega
 have af:=Tryz.strings_Cut st ⟨#[125]⟩ m w (by rw[an,bE];omega) hm;rw[show st.data.toList=Lib.trimPrefix s.data.toList [117,123] by rw[an],show(⟨#[125]⟩:BA).data.toList=[125] from rfl,<-hq] at af;rw[<-an] at ap;have am:=λw'=>Tryz.strings_HasPrefix s ⟨#[117,123]⟩ w';rw[show(⟨#[117,123]⟩:BA).data.toList=[117,123] from rfl] at am;obtain⟨hp,ag⟩:=xe (Lib.hasPrefix s.data.toList [117,123])
 rw[<-ag] at am hE;obtain⟨q1,q2,q3⟩:=q;dsimp only at af hE;have ai:(⟨q1.toArray⟩:BA).size=q1.length:=bE q1;have ar:=sC (Lib.trimPrefix s.data.toList [117,123]) [125];rw[<-hq] at ar;dsimp only at ar;obtain⟨sq,ao⟩:=xe (⟨q1.toArray⟩:BA)
 obtain⟨sr,ay⟩:=xe (⟨q2.toArray⟩:BA)
 rw[<-ao,<-ay] at af;rw[<-ao] at ai;have a2:sq.data.toList=q1:=by rw[ao]
 have bh:sq.size<=1000000:=ga
 obtain⟨aj,al,ah,HE,a7⟩:=h_5 ap af am hE a2;rw[<-ai] at hE;have hz:=hE;clear hz hE ap af am hi hx hq hl hc an a8 ag hm hN ar ao ay a2 hs;have bg:(0:Int)<(s.size:Int):=ga
 have bd:((s[0].toNat:Nat):Int)=(v:Int):=by rw[hv]
 clear hv;cases hp
 ·go_enter func263,ntmps263
  go_wp2_with (first
  | (go_at_call 46;refine(ah.o _).mono ?_;rintro e w2 ⟨rfl,ab⟩;obtain rfl:=ab.symm)
  | (go_at_call 50;(refine al.mono ?_;rintro e w1 ⟨rfl,nn,aa⟩;have ac:=f8 (show BB w w1 from aa▸below_drewN w nn);clear aa))
  | (go_at_call 284;refine aj.mono ?_;rintro e w1 ⟨rfl,aa⟩;obtain rfl:=aa.symm)
  | (go_at_call 55;refine HI.mono ?_;rintro e w1 ⟨rfl,aa⟩;obtain rfl:=aa.symm))
  refine ig (v:=.tuple #[Sv ⟨#[]⟩,I6 0,I6 13]) (by simp[results,results263,go_sem]) rfl ?_;exact⟨by rw[HE.o];simp,ac.o⟩
 cases q3
 ·go_enter func263,ntmps263
  go_wp2_with (first
  | (go_at_call 46;refine(ah.o _).mono ?_;rintro e w2 ⟨rfl,ab⟩;obtain rfl:=ab.symm)
  | (go_at_call 50;(refine al.mono ?_;rintro e w1 ⟨rfl,nn,aa⟩;have ac:=f8 (show BB w w1 from aa▸below_drewN w nn);clear aa))
  | (go_at_call 284;refine aj.mono ?_;rintro e w1 ⟨rfl,aa⟩;obtain rfl:=aa.symm)
  | (go_at_call 55;refine HI.mono ?_;rintro e w1 ⟨rfl,aa⟩;obtain rfl:=aa.symm))
  refine ig (v:=.tuple #[Sv ⟨#[]⟩,I6 0,I6 13]) (by simp[results,results263,go_sem]) rfl ?_;exact⟨by rw[HE.o];simp,ac.o⟩
 by_cases hA:q1.length<1
 ·have a1:(sq.size:Int)<1:=ga
  go_enter func263,ntmps263
  go_wp2_with (first
  | (go_at_call 46;refine(ah.o _).mono ?_;rintro e w2 ⟨rfl,ab⟩;obtain rfl:=ab.symm)
  | (go_at_call 50;(refine al.mono ?_;rintro e w1 ⟨rfl,nn,aa⟩;have ac:=f8 (show BB w w1 from aa▸below_drewN w nn);clear aa))
  | (go_at_call 284;refine aj.mono ?_;rintro e w1 ⟨rfl,aa⟩;obtain rfl:=aa.symm)
  | (go_at_call 55;refine HI.mono ?_;rintro e w1 ⟨rfl,aa⟩;obtain rfl:=aa.symm))
  refine ig (v:=.tuple #[Sv ⟨#[]⟩,I6 0,I6 13]) (by simp[results,results263,go_sem]) rfl ?_;exact⟨by rw[HE.o];simp[hA],ac.o⟩
 by_cases hB:6<q1.length
 ·have a1:¬ (sq.size:Int)<1:=ga
  have bb:(6:Int)<(sq.size:Int):=ga
  go_enter func263,ntmps263
  go_wp2_with (first
  | (go_at_call 46;refine(ah.o _).mono ?_;rintro e w2 ⟨rfl,ab⟩;obtain rfl:=ab.symm)
  | (go_at_call 50;(refine al.mono ?_;rintro e w1 ⟨rfl,nn,aa⟩;have ac:=f8 (show BB w w1 from aa▸below_drewN w nn);clear aa))
  | (go_at_call 284;refine aj.mono ?_;rintro e w1 ⟨rfl,aa⟩;obtain rfl:=aa.symm)
  | (go_at_call 55;refine HI.mono ?_;rintro e w1 ⟨rfl,aa⟩;obtain rfl:=aa.symm))
  refine ig (v:=.tuple #[Sv ⟨#[]⟩,I6 0,I6 13]) (by simp[results,results263,go_sem]) rfl ?_;exact⟨by rw[HE.o];simp[hB],ac.o⟩
 have a1:¬ (sq.size:Int)<1:=ga
 have bb:¬ (6:Int)<(sq.size:Int):=ga
 have au:=f8 (show fI s.data.toList=(match kU q1 0 with
  | none=>([],0,13)
  | some n=>if jZ n=false then ([],0,16) else ((Utf8.encode (n:Int)).data.toList,q1.length+3,0):List UInt8 × Nat × Int) by rw[HE.o,f9 (λh=>h.elim (λh=>nomatch h) λh=>h.elim (λh=>nomatch h) λh=>h.elim hA hB)])
 clear HE;have ba:sq.size<=6:=ga
 go_enter func263,ntmps263
 go_wp2_with (first
  | (go_at_call 46;refine(ah.o _).mono ?_;rintro e w2 ⟨rfl,ab⟩;obtain rfl:=ab.symm)
  | (go_at_call 50;(refine al.mono ?_;rintro e w1 ⟨rfl,nn,aa⟩;have ac:=f8 (show BB w w1 from aa▸below_drewN w nn);clear aa))
  | (go_at_call 284;refine aj.mono ?_;rintro e w1 ⟨rfl,aa⟩;obtain rfl:=aa.symm)
  | (go_at_call 55;refine HI.mono ?_;rintro e w1 ⟨rfl,aa⟩;obtain rfl:=aa.symm))
 go_loopw [9,47] (λnv iv wr=>∃n k:Nat,nv=I6 n/\iv=I6 k/\k<=sq.size/\n<16 ^ k/\kU q1 0=kU (q1.drop k) n/\wr=w1) (λ_ iv _=>sq.size-(intOf iv).toNat)
 case atStart=>exact⟨0,0,rfl,rfl,ii _,by decide,rfl,rfl⟩
 case round =>
  obtain⟨n,k,rfl,rfl,hk,hn,a3,rfl⟩:=hrel;have aq:=f8 a3;clear a3;by_cases a9:k<sq.size
  ·have a6:(k:Int)<(sq.size:Int):=ga
   have bc:(0:Int)<=(k:Int):=ga
   have hd:=pI sq k a9;rw[a7.o] at hd;have hH:=aEy sq[k] wr;have ax:=hexI_lt sq[k];have bf:n<16777216 / 16:=ix hn (by have:16 ^ k<=16 ^ 5:=Nat.pow_le_pow_right gb ga;omega);have a4:16 * n+16<=16 ^ (k+1):=by rw[Nat.pow_succ];omega
   obtain⟨d,av⟩:=xe (iO sq[k])
   have ae:=λh:iO sq[k]<0=>aF1 sq[k] (q1.drop (k+1)) n h;have ad:=λh:¬ iO sq[k]<0=>aF0 sq[k] (q1.drop (k+1)) n h;rw[<-hd,<-aq.o,<-av] at ae ad;rw[<-av] at hH ax;obtain⟨HH,HN,HP⟩:=h_3 hH ae ad;clear ae ad hH hd av aq hn;by_cases a0:d<0
   ·go_wp2_with (go_at_call 264;refine HH.mono ?_;rintro e w2 ⟨rfl,ab⟩;obtain rfl:=ab.symm)
    refine ig (v:=.tuple #[Sv ⟨#[]⟩,I6 0,I6 13]) (by simp[results,results263,go_sem]) rfl ?_;exact⟨by rw[au.o,HN.o a0];rfl,ac.o⟩
   ·have e1:IntKind.i64.wrap (16 * (n:Int))=16 * n:=ip _ ⟨by omega,by omega⟩;have e2:IntKind.i64.wrap (16 * (n:Int)+d)=16 * n+d:=ip _ ⟨by omega,by omega⟩;have be:0<=d:=ga
    go_wp2_with (go_at_call 264;refine HH.mono ?_;rintro e w2 ⟨rfl,ab⟩;obtain rfl:=ab.symm)
    refine⟨⟨16 * n+d.toNat,k+1,by congr 1;omega,by go_num,by omega,by omega,HP.o a0,trivial⟩,by simp[intOf];omega⟩
  ·obtain rfl:k=sq.size:=ga
   have a5:n<16777216:=ix hn (Nat.pow_le_pow_right (n:=16) gb ba);have ak:=f8 (aF9 n ga wr);have aw:=f8 (show fI s.data.toList=(if jZ n=false then ([],0,16) else ((Utf8.encode (n:Int)).data.toList,q1.length+3,0):List UInt8 × Nat × Int) by
    rw[au.o,aq.o,ph (Nat.le_of_eq ai.symm)];rfl)
   clear au aq hn;obtain⟨pp,az⟩:=xe (jZ n)
   rw[<-az] at ak aw;clear az;cases pp
   ·simp only[og,kz] at ak;go_wp2_with (go_at_call 285;refine ak.mono ?_;rintro e w2 ⟨rfl,ab⟩;obtain rfl:=ab.symm)
    refine ig (v:=.tuple #[Sv ⟨#[]⟩,I6 0,I6 16]) (by simp[results,results263,go_sem]) rfl ?_;exact⟨by rw[aw.o];simp,ac.o⟩
   ·simp only[je] at ak;go_wp2_with (go_at_call 285;refine ak.mono ?_;rintro e w2 ⟨rfl,ab⟩;obtain rfl:=ab.symm)
    refine ig (v:=.tuple #[Sv (Utf8.encode (n:Int)),I6 ((sq.size:Int)+3),I6 0]) (by simp[results,results263,go_sem,ai]) rfl ?_;exact⟨by rw[aw.o,ai];simp,ac.o⟩
theorem aF7 (s:BA) (hs:s.size<=1000000) (h0:0<s.size) (w:World) (hN:NumVars w) :
 CP 263 #[Sv s] w λx w'=>x=.returned (.tuple #[Sv ⟨(fI s.data.toList).1.toArray⟩,I6 ((fI s.data.toList).2.1:Int),I6 (fI s.data.toList).2.2])/\BB w w':=by
 have hl:s.data.toList=s[0] :: s.data.toList.drop 1:=by
  have:=pI s 0 h0
  simpa using this
 by_cases h1:s[0].toNat=34
 ·exact rZ 34 0 34 gb gb rfl s hs h0 h1 (by rw[hl];unfold fI;dsimp only;rw[gw h1]) w
 by_cases h2:s[0].toNat=92
 ·exact rZ 92 1 92 gb gb rfl s hs h0 h2 (by rw[hl];unfold fI;dsimp only;rw[f9 h1,gw h2]) w
 by_cases h3:s[0].toNat=110
 ·exact rZ 110 2 10 gb gb rfl s hs h0 h3 (by rw[hl];unfold fI;dsimp only;rw[f9 h1,f9 h2,gw h3]) w
 by_cases h4:s[0].toNat=114
 ·exact rZ 114 3 13 gb gb rfl s hs h0 h4 (by rw[hl];unfold fI;dsimp only;rw[f9 h1,f9 h2,f9 h3,gw h4]) w
 by_cases h5:s[0].toNat=116
 ·exact rZ 116 4 9 gb gb rfl s hs h0 h5 (by rw[hl];unfold fI;dsimp only;rw[f9 h1,f9 h2,f9 h3,f9 h4,gw h5]) w
 exact escape2 s hs h0 ⟨h1,h2,h3,h4,h5⟩ w hN
section
attribute [local go_sem] cQ fE cS dJ bV cA
theorem aA7 (f:Nat) (l:List UInt8) (i:Nat) (acc:List UInt8) (h:l=[]):cN f l i acc=.inr none:=by subst h;cases f<;>rfl
theorem strGo_q (f:Nat) (c:UInt8) (l:List UInt8) (i:Nat) (acc:List UInt8) (h:c.toNat=34):cN (f+1) (c :: l) i acc=.inl (i+1,acc):=by
 rw[cN,gw h]
theorem strGo_c (f:Nat) (c:UInt8) (l:List UInt8) (i:Nat) (acc:List UInt8) (h:c.toNat<32\/c.toNat=127):cN (f+1) (c :: l) i acc=.inr (some (i,6)):=by
 rw[cN,f9 ga,gw h]
theorem strGo_p (f:Nat) (c:UInt8) (l:List UInt8) (i:Nat) (acc:List UInt8) (h:¬ c.toNat<32/\c.toNat≠34/\c.toNat≠127/\c.toNat≠92):cN (f+1) (c :: l) i acc=cN f l (i+1) (acc++[c]):=by
 rw[cN,f9 ga,f9 ga,gw ga]
theorem strGo_0 (f:Nat) (c:UInt8) (l:List UInt8) (i:Nat) (acc:List UInt8) (h:c.toNat=92) (hl:l=[]):cN (f+1) (c :: l) i acc=.inr none:=by
 rw[cN,f9 ga,f9 ga,f9 ga,gw hl]
theorem strGo_f (f:Nat) (c:UInt8) (l:List UInt8) (i:Nat) (acc:List UInt8) (h:c.toNat=92) (hl:l≠[]) (he:(fI l).2.2≠0):cN (f+1) (c :: l) i acc=.inr (some (i,(fI l).2.2)):=by
 rw[cN,f9 ga,f9 ga,f9 ga,f9 hl];dsimp only;rw[gw he]
theorem strGo_e (f:Nat) (c:UInt8) (l:List UInt8) (i:Nat) (acc:List UInt8) (h:c.toNat=92) (hl:l≠[]) (he:(fI l).2.2=0):cN (f+1) (c :: l) i acc=cN f (l.drop (fI l).2.1) (i+1+(fI l).2.1) (acc++(fI l).1):=by
 rw[cN,f9 ga,f9 ga,f9 ga,f9 hl];dsimp only;rw[f9 ga]
theorem aHt (n:Int):(Utf8.encode n).data.toList.length<=4:=by
 unfold Utf8.encode;dsimp only
 repeat' split
 all_goals simp
theorem aJa (l:List UInt8):(fI l).2.1<=l.length+3/\(fI l).1.length<=4:=by
 unfold fI;cases l with
 | nil=>simp
 | cons c r =>
   dsimp only;have h:=sC (Lib.trimPrefix (c :: r) [117,123]) [125];have h2:(Lib.trimPrefix (c :: r) [117,123]).length<=(c :: r).length:=by
    unfold Lib.trimPrefix;split
    ·rw[ju];omega
    ·exact gy _
   have hN:∀(x:List UInt8) (k:Nat) (e:Int),x.length<=4->k<=(c :: r).length+3->((x,k,e):List UInt8 × Nat × Int).2.1<=(c :: r).length+3/\((x,k,e):List UInt8 × Nat × Int).1.length<=4:=λx k e h1 h2=>⟨h2,h1⟩
   split;· exact hN _ _ _ gb ga
   split;· exact hN _ _ _ gb ga
   split;· exact hN _ _ _ gb ga
   split;· exact hN _ _ _ gb ga
   split;· exact hN _ _ _ gb ga
   split;· exact hN _ _ _ gb ga
   split;· exact hN _ _ _ gb ga
   split;· exact hN _ _ _ gb ga
   exact hN _ _ _ (aHt _) ga
theorem sK {B b:Nat} {bs:List Value} {w w':World} (h:IsBld B b bs w) (hk:∀i,B<=i->i<w.heap.size->w'.heap[i]?=w.heap[i]?):IsBld B b bs w':=by
 have ab:∀(i:Nat) (o:Obj),w.heap[i]?=some o->i<w.heap.size:=λi o h=>by
  rcases mf i w.heap.size with q|q
  ·exact q
  ·rw[ow q] at h;cases h
 have aa:∀{e:TypeId} {n:Nat} {v:Value} {m:Nat} {xs:List Value},w.ownsRowF B e n v m xs->w'.ownsRowF B e n v m xs:=λh=>by
  refine⟨h.1,h.2.elim .inl λ⟨g,cap,cur,fz,e1,e2,e3,e4⟩=>.inr ⟨g,cap,cur,fz,e1,e2,(hk g e2 (ab g _ e3)).trans e3,e4⟩⟩
 rcases h with ⟨hB,v,hbk,ho,hne⟩|⟨hB,v,hbk,ho,hne⟩
 ·exact .inl ⟨hB,v,(hk b hB (ab b _ hbk)).trans hbk,aa ho,hne⟩
 ·exact .inr ⟨hB,v,(hk b hB (ab b _ hbk)).trans hbk,aa ho,hne⟩
theorem iP {w w4 w5:World} {row:Option Nat} (h:w.grownBy w4 row) (hb:Below w.heap.size w4 w5):w.grownBy w5 row :=
 ⟨hb.os.trans h.os,hb.tape.trans h.tape,hb.output.trans h.output,io h.size hb.size,λi hi hne=>(hb.block i hi).trans (h.block i hi hne)⟩
theorem bN {w4 w5:World} {B b:Nat} {s:BA} {r:Rd} (h:IsRd w4 b s r) (hb:Below B w4 w5) (hlt:b<B):IsRd w5 b s r:=⟨(hb.block b hlt).trans h.at_,h.ok⟩
theorem rY (s:BA) (k:Nat):(s.extract k s.size).data.toList=s.data.toList.drop k:=by
 rw[ByteArray.data_extract,Array.toList_extract];rw[List.extract_eq_take_drop];rw[mr (by rw[ju];exact gy _)]
theorem uQ (b:Nat) (s:BA) (r:Rd) (ad:Nat) (w:World) (h:IsRd w b s r) (cn:ad+1<=s.size) (hs:s.size<=100000) (hT:Tabs w) (hN:NumVars w) :
 CP 214 #[Pt b 0,I6 ad] w λx w'=>x=.returned (.tuple #[])/\IsRd w' b s (iD s.data.toList ad r)/\w.grownBy w' (some b):=by
 have a9:s.data.toList.length=s.size:=rfl;obtain⟨HR,HT,HN⟩:=h_3 h hT hN;have cd:=f8 (show BB w (w.alloc (.cells #[.pointer none,Z0] 112)) from(bR w).alloc lr _);have ca:=f8 (lP w);have bc:=f8 h.lt;clear h hT hN;go_enter func214,ntmps214
 go_wp2
 go_loopw [5] (λiv wr=>∃(k f:Nat) (acc:List UInt8),iv=I6 k/\s.size-k<f/\k<=300000/\acc.length<=4 * k/\cN (s.data.toList.length+1) (s.data.toList.drop (ad+1)) (ad+1) []=cN f (s.data.toList.drop k) k acc/\IsBld w.heap.size w.heap.size (Lib.byteCells acc) wr/\BB w wr) (λiv _=>s.size-(intOf iv).toNat)
 case atStart=>exact⟨ad+1,s.data.toList.length+1,[],rfl,by omega,by omega,ii _,rfl,ca.o,cd.o⟩
 case round =>
  obtain⟨k,f,acc,rfl,hf,hk,cl,bz,bt,am⟩:=hrel;have av:=f8 (HR.grown (aU am none) ge);obtain⟨W,hW,hw⟩:=av.put;have HG:=f8 (aU am (some b));obtain⟨a8,aw,ak⟩:=h_3 bz bt am;have ay:=f8 am.size;clear bz bt am;by_cases bo:k<s.size
  ·obtain⟨f,rfl⟩:∃f',f=f'+1:=⟨f-1,by omega⟩
   have bg:(k:Int)<(s.size:Int):=ga
   have co:(0:Int)<=(k:Int):=ga
   have hd:=pI s k bo;have b7:(Lib.byteCells acc).length<=4 * s.size:=by simp[Lib.byteCells];omega
   have b5:=f8 (λ(c:Int)=>cY w.heap.size w.heap.size (Lib.byteCells acc) c wr aw.o ga ay.o);have bn:=f8 (show CP 54 #[Pt w.heap.size 0] wr λe w2=>e=.returned (Sv ⟨acc.toArray⟩)/\IsBld w.heap.size w.heap.size (Lib.byteCells acc) w2/\Below w.heap.size wr w2 from(Tryz.Builder_String_any_k _ _ _ wr aw.o ay.o).mono λe w2 ⟨he,h1,hb,_⟩=>⟨he,h1,hb⟩);have bm:=f8 (bH b s r k 6 wr av.o);have hQ:=strGo_q f s[k] (s.data.toList.drop (k+1)) k acc;have hC:=strGo_c f s[k] (s.data.toList.drop (k+1)) k acc
   have hP:=strGo_p f s[k] (s.data.toList.drop (k+1)) k acc;have h0:=strGo_0 f s[k] (s.data.toList.drop (k+1)) k acc;have hF:=strGo_f f s[k] (s.data.toList.drop (k+1)) k acc;have hE:=strGo_e f s[k] (s.data.toList.drop (k+1)) k acc;rw[<-hd,<-a8.o] at hQ hC hP h0 hF hE;obtain⟨HQ,bv,HP,H0,HF,HE⟩:=h_6 hQ hC hP h0 hF hE;clear hQ hC hP h0 hF hE hd a8;have ar:s[k].toNat=34\/(s[k].toNat<32\/s[k].toNat=127)\/(¬ s[k].toNat<32/\s[k].toNat≠34/\s[k].toNat≠127/\s[k].toNat≠92)\/s[k].toNat=92:=ga
   rcases ar with hc|hc|hc|hc
   ·have HC:=f8 hc;have a2:((s[k].toNat:Int)==34)=true:=by simp;omega
    have a0:¬ (s[k].toNat:Int)<32:=ga
    have ae:((s[k].toNat:Int)==127)=false:=by simp;omega
    have a1:((s[k].toNat:Int)==92)=false:=by simp;omega
    have ax:((s[k].toNat:Int) != 92)=true:=by simp;omega
    clear hc;obtain⟨vd,bf⟩:=xe (Lib.validD acc)
    have bh:=λw2 hT2=>aG2 ⟨acc.toArray⟩ (by rw[bE];omega) w2 hT2;rw[show(⟨acc.toArray⟩:BA).data.toList=acc from rfl,<-bf] at bh;obtain⟨bj,bi⟩:=h_2 bh bf;have br:=f8 (λw' (h':IsBld w.heap.size w.heap.size (Lib.byteCells acc) w') (hz:w.heap.size<=w'.heap.size)=>(show CP 54 #[Pt w.heap.size 0] w' λe w2=>e=.returned (Sv ⟨acc.toArray⟩)/\Below w.heap.size w' w2 from(Tryz.Builder_String_any_k _ _ _ w' h' hz).mono λe w2 ⟨he,_,hb,_⟩=>⟨he,hb⟩));clear bh bf;subst hw;have bl:k+1<=s.size:=bo;cases vd
    ·go_wp2_with (first
      | (go_at_call 54;refine(br.o w4 b4.o ce.o).mono ?_;rintro e w5 ⟨rfl,aj⟩;have aq:=f8 (bN b0.o aj bc.o);have ba:=f8 (iP cb.o aj);clear aj;obtain⟨W5,be,bb⟩:=aq.put;subst bb)
      | (go_at_call 162;refine(bH b s r ad 16 w3 a6.o).mono ?_;rintro e w4 ⟨rfl,h4,a4⟩;have b0:=f8 h4;have cb:=f8 ((aU af.o (some b)).trans a4);have b4:=f8 (sK ao.o (λi h1 h2=>a4.block i h2 (λe=>by cases e;exact absurd h1 (Nat.not_le.2 bc.o))));have ce:=f8 (io af.size a4.size);clear h4 a4)
      | (go_at_call 132;refine(bj.o w2 (HT.below aa.o)).mono ?_;rintro e w3 ⟨rfl,ac⟩;have af:=f8 (aa.trans (ac.mono aa.size));have ao:=f8 (IsBld.ext ap.o ac);have a6:=f8 (HR.grown (aU af.o none) ge);clear ac)
      | (go_at_call 54;refine bn.mono ?_;rintro e w2 ⟨rfl,h2,ab⟩;have aa:=f8 (ak.trans ab);have ap:=f8 h2;clear ab h2))
     refine ig (iu rfl _ _ _) rfl ?_;refine⟨rfl,?_,ba.trans (bQ _ _ _ _)⟩;rw[iD,HQ.o HC.o];dsimp only;rw[gw bi.symm];exact dK W5 b s { (r.fail ad 16) with k:=3,b:=⟨acc.toArray⟩,nx:=k+1 } be ⟨(λe=>nomatch e),bl,aq.ok.p⟩ _ rfl
    ·go_wp2_with (first
      | (go_at_call 54;refine(br.o w3 ao.o af.size).mono ?_;rintro e w5 ⟨rfl,aj⟩;have aq:=f8 (bN a6.o aj bc.o);have ba:=f8 (iP (aU af.o (some b)) aj);clear aj;obtain⟨W5,be,bb⟩:=aq.put;subst bb)
      | (go_at_call 132;refine(bj.o w2 (HT.below aa.o)).mono ?_;rintro e w3 ⟨rfl,ac⟩;have af:=f8 (aa.trans (ac.mono aa.size));have ao:=f8 (IsBld.ext ap.o ac);have a6:=f8 (HR.grown (aU af.o none) ge);clear ac)
      | (go_at_call 54;refine bn.mono ?_;rintro e w2 ⟨rfl,h2,ab⟩;have aa:=f8 (ak.trans ab);have ap:=f8 h2;clear ab h2))
     refine ig (iu rfl _ _ _) rfl ?_;refine⟨rfl,?_,ba.trans (bQ _ _ _ _)⟩;rw[iD,HQ.o HC.o];dsimp only;rw[f9 (by rw[<-bi.o];decide)];exact dK W5 b s { r with k:=3,b:=⟨acc.toArray⟩,nx:=k+1 } be ⟨(λe=>nomatch e),bl,aq.ok.p⟩ _ rfl
   ·have HC:=f8 hc;by_cases bq:s[k].toNat<32
    ·have a2:((s[k].toNat:Int)==34)=false:=by simp;omega
     have a0:(s[k].toNat:Int)<32:=ga
     have ae:((s[k].toNat:Int)==127)=false:=by simp;omega
     have a1:((s[k].toNat:Int)==92)=false:=by simp;omega
     have ax:((s[k].toNat:Int) != 92)=true:=by simp;omega
     clear hc bq;subst hw;go_wp2_with (go_at_call 162;refine bm.mono ?_;rintro e w2 ⟨rfl,h2,ag⟩;obtain⟨an,au⟩:=h_2 h2 ag;clear h2 ag)
     refine ig (iu rfl _ _ _) rfl ?_;exact⟨rfl,by rw[iD,bv.o HC.o];exact an.o,HG.trans au.o⟩
    ·have a2:((s[k].toNat:Int)==34)=false:=by simp;omega
     have a0:¬ (s[k].toNat:Int)<32:=ga
     have ae:((s[k].toNat:Int)==127)=true:=by simp;omega
     have a1:((s[k].toNat:Int)==92)=false:=by simp;omega
     have ax:((s[k].toNat:Int) != 92)=true:=by simp;omega
     clear hc bq;subst hw;go_wp2_with (go_at_call 162;refine bm.mono ?_;rintro e w2 ⟨rfl,h2,ag⟩;obtain⟨an,au⟩:=h_2 h2 ag;clear h2 ag)
     refine ig (iu rfl _ _ _) rfl ?_;exact⟨rfl,by rw[iD,bv.o HC.o];exact an.o,HG.trans au.o⟩
   ·have HC:=f8 hc;have a2:((s[k].toNat:Int)==34)=false:=by simp;omega
    have a0:¬ (s[k].toNat:Int)<32:=ga
    have ae:((s[k].toNat:Int)==127)=false:=by simp;omega
    have a1:((s[k].toNat:Int)==92)=false:=by simp;omega
    have ax:((s[k].toNat:Int) != 92)=true:=by simp;omega
    clear hc;subst hw;go_wp2_with (go_at_call 53;refine(b5.o _).mono ?_;rintro e w2 ⟨rfl,h2,ab,ch⟩;obtain⟨ap,aa⟩:=h_2 h2 ab;clear h2 ab ch)
    refine⟨⟨k+1,f,acc++[s[k]],by go_num,by omega,by omega,by simp;omega,HP.o HC.o,?_,ak.trans aa.o⟩,by simp[intOf];omega⟩;have e4:Lib.byteCells (acc++[s[k]])=Lib.byteCells acc++[.int .u8 s[k].toNat]:=by simp[Lib.byteCells]
    rw[e4];exact .inr ap.o
   ·have HC:=f8 hc;have a2:((s[k].toNat:Int)==34)=false:=by simp;omega
    have a0:¬ (s[k].toNat:Int)<32:=ga
    have ae:((s[k].toNat:Int)==127)=false:=by simp;omega
    have a1:((s[k].toNat:Int)==92)=true:=by simp;omega
    have ax:((s[k].toNat:Int) != 92)=false:=by simp;omega
    clear hc;by_cases bx:k+1<s.size
    ·have cg:(k:Int)+1<(s.size:Int):=ga
     have ck:(k:Int)+1<=(s.size:Int):=ga
     obtain⟨es,a5⟩:=xe (s.extract (k+1) s.size)
     have ah:es.data.toList=s.data.toList.drop (k+1):=by
      rw[a5,rY]
     have a7:es.size=s.size-(k+1):=by
      have h1:es.data.toList.length=es.size:=rfl;rw[<-h1,ah,ju,a9]
     have al:=aF7 es ga ga wr (HN.below ak.o);have a3:=aJa es.data.toList;rw[ah] at al a3;have bd:s.data.toList.drop (k+1)≠[]:=by
      intro h;have h1:=congrArg List.length h;rw[ju,a9] at h1;simp only[i7] at h1;omega
     rw[ju,a9] at a3;have hF:=HF.o HC.o bd;have hE:=HE.o HC.o bd;obtain⟨q,hq⟩:=xe (fI (s.data.toList.drop (k+1)))
     rw[<-hq] at al a3 hF hE;obtain⟨q1,q2,q3⟩:=q;dsimp only at al a3 hF hE;obtain⟨qs,az⟩:=xe (⟨q1.toArray⟩:BA)
     have cm:qs.size=q1.length:=by rw[az,bE]
     have bw:Lib.byteCells (acc++q1)=Lib.byteCells acc++Lib.strCells qs:=by rw[az];simp[Lib.byteCells,Lib.strCells]
     rw[<-az] at al;obtain⟨bk,cj,b1,b2,b9⟩:=h_5 al hF hE bw a5;clear al hF hE hq az bw ah bd a5 a7;have cc:=f8 (λ(w2:World) (h2:BB wr w2)=>lY w.heap.size w.heap.size (Lib.byteCells acc) qs w2 (IsBld.ext aw.o h2) ga (io ay.o h2.size));have b3:=f8 (λ(w2:World) (h2:BB wr w2)=>bH b s r k q3 w2 (av.grown (aU h2 none) ge));subst hw;have bu:=f8 (show(s.extract (k+1) s.size)=es from b9.symm);by_cases bp:q3=0
     ·subst bp;go_wp2_with (first
       | (go_at_call 65;refine(cc.o w2 aa.o).mono ?_;rintro e w3 ⟨rfl,h3,ac,b6⟩;obtain⟨ao,af⟩:=h_2 h3 ac;clear h3 ac b6)
       | (go_at_call 263;rw[show(s.extract (k+1) s.size)=es from bu.o];refine bk.mono ?_;rintro e w2 ⟨rfl,ab⟩;have aa:=f8 ab;clear ab))
      refine⟨⟨k+1+q2,f,acc++q1,by congr 1;omega,by omega,by omega,by rw[ik];omega,?_,?_,(ak.trans (aa.mono ay.o)).trans af.o⟩,by simp[intOf];omega⟩
      ·rw[b1.o trivial,List.drop_drop]
      ·rw[b2.o];exact .inr ao.o
     ·go_wp2_with (first
       | (go_at_call 162;refine(b3.o w2 aa.o).mono ?_;rintro e w3 ⟨rfl,h3,bs⟩;obtain⟨b8,cf⟩:=h_2 h3 bs;clear h3 bs)
       | (go_at_call 263;rw[show(s.extract (k+1) s.size)=es from bu.o];refine bk.mono ?_;rintro e w2 ⟨rfl,ab⟩;have aa:=f8 ab;clear ab))
      refine ig (iu rfl _ _ _) rfl ?_;exact⟨rfl,by rw[iD,cj.o bp];exact b8.o,HG.trans ((aU aa.o (some b)).trans cf.o)⟩
    ·have cg:¬ ((k:Int)+1<(s.size:Int)):=ga
     subst hw;go_wp2;refine⟨⟨k+1,f,acc,by go_num,by omega,by omega,by omega,?_,aw.o,ak.o⟩,by simp[intOf];omega⟩;have e0:s.data.toList.drop (k+1)=[]:=ph ga;rw[H0.o HC.o e0,aA7 f _ _ _ e0]
  ·have ci:=f8 (bH b s r ad 4 wr av.o);have ai:=aA7 f (s.data.toList.drop k) k acc (ph ga);rw[<-a8.o] at ai;have HE:=f8 ai;have bg:¬ (k:Int)<(s.size:Int):=ga
   clear ai;subst hw;go_wp2_with (go_at_call 162;refine ci.mono ?_;rintro e w2 ⟨rfl,h2,ag⟩;obtain⟨an,au⟩:=h_2 h2 ag;clear h2 ag)
   refine jj (iu rfl _ _ _) rfl ?_;exact⟨rfl,by rw[iD,HE.o];exact an.o,HG.trans au.o⟩
end
section
attribute [local go_sem] cQ fE cS dJ bV cA
def TB (w:World) (b:Nat):Prop:=∃w0,Tabs w0/\NumVars w0/\BB w0 w/\w0.heap.size<=b
theorem TB.tabs {w:World} {b:Nat} (h:TB w b):Tabs w:=by
 obtain⟨w0,h1,_,h2,_⟩:=h;exact h1.below h2
theorem TB.nums {w:World} {b:Nat} (h:TB w b):NumVars w:=by
 obtain⟨w0,_,h1,h2,_⟩:=h;exact h1.below h2
theorem TB.grown {w w':World} {b:Nat} {row:Option Nat} (h:TB w b) (hg:w.grownBy w' row) (hr:row=none\/row=some b):TB w' b:=by
 obtain⟨w0,h1,h2,h3,h4⟩:=h;refine⟨w0,h1,h2,⟨hg.os.trans h3.os,hg.tape.trans h3.tape,hg.output.trans h3.output,io h3.size hg.size,λi hi=>?_⟩,h4⟩;rw[hg.block i (ix hi h3.size) (by rcases hr with rfl|rfl<;>(intro e;cases e)  <;> omega)];exact h3.block i hi
theorem TB.below {w w':World} {b:Nat} (h:TB w b) (hb:BB w w'):TB w' b:=h.grown (aU hb none) (.inl rfl)
theorem uR (b:Nat) (s:BA) (r:Rd) (ab:Nat) (w:World) (h:IsRd w b s r) (cw:ab<s.size) (hs:s.size<=100000) (cn:r.d=false/\r.x=false) (cm:TB w b) :
 CP 219 #[Pt b 0,I6 ab] w λx w'=>x=.returned (.tuple #[])/\IsRd w' b s (jE s.data.toList s ab r)/\w.grownBy w' (some b):=by
 have c3:s.data.toList.length=s.size:=rfl;obtain⟨HR,ce,b8⟩:=h_3 h cm cn;have a9:=f8 h.ok;clear cm cn;obtain⟨W,hW,hw⟩:=h.put;have HW:=f8 hw;have cR:(ab:Int)<(s.size:Int):=ga
 have cy:(0:Int)<=(ab:Int):=ga
 have cf:=lQ s ab cw
 obtain⟨m,hm⟩:=xe (decide (s[ab].toNat=45):Bool)
 obtain⟨f,hf⟩:=xe (if s.data.toList[ab]?=some 45 then ab+1 else ab)
 have bw:f=if m=true then ab+1 else ab:=by
  rw[hf,cf,hm];have:(some s[ab]=some (45:UInt8)) ↔ (decide (s[ab].toNat=45)=true):=by
   rw[jw,lw];exact⟨λe=>by rw[e];rfl,λe=>UInt8.toNat_inj.1 e⟩
  simp only[this]
 have bo:f<=s.size:=by rw[bw];split<;>omega
 have bv:((s[ab].toNat:Int)==45)=m:=by rw[hm,n8];simp;omega
 have ao:=f8 (λ(w':World) (h':w'=w)=>aAh b s r f w' (h'▸HR.o) bo ga);obtain⟨tq,a0⟩:=xe (bP s.data.toList f bI)
 have bm:f<=tq:=a0▸jW _ _ _;have ag:tq<=s.size:=a0▸aCb _ _ _ bo;rw[<-a0] at ao;obtain⟨HF,bf,bz⟩:=h_3 hf bw a0;clear hf bw a0 cf hm h;subst hw;go_enter func219,ntmps219
 go_upto_if 15 with (fail)
 go_cut [4] (λv wz=>v=I6 f/\wz=(cT W b (rdA s r.nx r.k r.p r.t r.b r.n r.sc r.d r.x r.e r.o)))
 case first =>
  cases m
  ·have e1:f=ab:=bf.o;go_wp2
   go_meet
   exact⟨by rw[e1],rfl⟩
  ·have e1:f=ab+1:=bf.o;go_wp2
   go_meet
   exact⟨by rw[e1];go_num,rfl⟩
 case rest =>
 obtain⟨rfl,aw⟩:=hcut;obtain⟨wb,a1⟩:=xe wc
 rw[<-a1] at aw ⊢;clear a1;subst aw;have ao:=f8 (ao.o _ rfl);clear bv bf;by_cases bb:tq=f
 ·have b0:((tq:Int)==(f:Int))=true:=by simp;omega
  have b7:=f8 (bH b s r ab 13 _ HR.o);have cr:=f8 bb;clear bb;go_wp2_with (first
   | (go_at_call 162;refine b7.mono ?_;rintro e w2 ⟨rfl,h2,cb⟩;obtain⟨ct,c2⟩:=h_2 h2 cb;clear h2 cb)
   | (go_at_call 212;refine ao.mono ?_;rintro e w2 ⟨rfl,rfl⟩))
  refine ig (iu rfl _ _ _) rfl ?_;refine⟨rfl,?_,c2.o⟩;unfold jE;dsimp only;rw[<-HF.o,<-bz.o,gw cr.o];exact ct.o
 have b0:((tq:Int)==(f:Int))=false:=by simp;omega
 have cl:=f8 bb;clear bb;obtain⟨ai,ax⟩:=xe (decide (s.data.toList[tq]?=some 46/\(s.data.toList[tq+1]?.any bI)=true):Bool)
 have ac:=f8 ax;clear ax;go_upto_region 7 with (go_at_call 212;refine ao.mono ?_;rintro e w2 ⟨rfl,rfl⟩)
 go_cut [57] (λv wz=>v=.bool ai/\wz=(cT W b (rdA s (tq:Int) r.k r.p r.t r.b r.n r.sc r.d r.x r.e r.o)))
 case first =>
  have an:=ac.o;by_cases h1:tq+1<s.size
  ·have cu:(tq:Int)+1<(s.size:Int):=ga
   have b9:(tq:Int)<(s.size:Int):=ga
   have cz:(0:Int)<=(tq:Int):=ga
   have c4:(0:Int)<=(tq:Int)+1:=ga
   have g1:=lQ s tq ga;have g2:=lQ s (tq+1) h1;rw[g1,g2] at an;by_cases bp:s[tq].toNat=46
   ·have cx:((s[tq].toNat:Int)==46)=true:=by simp;omega
    have ap:ai=bI s[tq+1]:=by
     rw[an];have:(some s[tq]=some (46:UInt8)):=by rw[lw];exact UInt8.toNat_inj.1 bp
     simp[this]
    have cg:=f8 (λw'=>nH s[tq+1] w');rw[<-ap] at cg;clear an ap bp g1 g2;go_wp2_with (go_at_call 218;refine(cg.o _).mono ?_;rintro e w2 ⟨rfl,az⟩;obtain rfl:=az.symm)
    go_meet
    exact⟨rfl,rfl⟩
   ·have cx:((s[tq].toNat:Int)==46)=false:=by simp;omega
    have ap:ai=false:=by
     rw[an];have:¬ (some s[tq]=some (46:UInt8)):=by rw[lw];exact λe=>bp (by rw[e];rfl)
     simp[this]
    clear an g1 g2;go_wp2
    go_meet
    exact⟨by rw[ap],rfl⟩
  ·have cu:¬ (tq:Int)+1<(s.size:Int):=ga
   have ap:ai=false:=by
    rw[an,ng (i:=tq+1) ga];simp
   clear an;go_wp2
   go_meet
   exact⟨by rw[ap],rfl⟩
 case rest =>
 obtain⟨rfl,aw⟩:=hcut;obtain⟨wb,a1⟩:=xe wc
 rw[<-a1] at aw ⊢;clear a1;subst aw;have cc:IsRd (cT W b (rdA s (tq:Int) r.k r.p r.t r.b r.n r.sc r.d r.x r.e r.o)) b s { r with nx:=tq }:=dK W b s { r with nx:=tq } hW ⟨a9.t0,ag,a9.p⟩ _ rfl;obtain⟨ch,cv⟩:=h_2 cc ag;clear cc ao;obtain⟨q1,q2,q3,hq⟩:∃(q1:Nat) (q2 q3:Bool),(q1,q2,q3)=if ai=true then (bP s.data.toList (tq+1) bI,true,false) else if s.data.toList[tq]?=some 100 then (tq+1,true,true) else (tq,false,false):=⟨_,_,_,rfl⟩
 have HQ:=f8 hq;have a2:q1<=s.size:=by
  cases ai
  ·rw[f9 gb] at hq;split at hq
   ·rename_i h;cases hq
    obtain⟨h1,_⟩:=List.getElem?_eq_some_iff.1 h;exact h1
   ·cases hq;exact ag
  ·rw[gw rfl] at hq;cases hq
   have hd:=ac.symm;rw[jw] at hd;have h2:tq+1<s.data.toList.length:=by
    rcases mf (tq+1) s.data.toList.length with h|h
    ·exact h
    ·rw[ng h] at hd;exact absurd hd.2 ge
   exact aCb _ _ _ ga
 clear hq
 go_upto_if 57 with (fail)
 go_cut [] (λwz=>wz=cT W b (rdA s q1 r.k r.p r.t r.b r.n r.sc q2 q3 r.e r.o))
 case first =>
  have ar:r.d=false:=b8.1;have am:r.x=false:=b8.2;cases ai
  ·have hq:=HQ.o;rw[f9 gb] at hq;by_cases cp:tq<s.size
   ·have b9:(tq:Int)<(s.size:Int):=ga
    have cz:(0:Int)<=(tq:Int):=ga
    have g1:=lQ s tq cp;rw[g1] at hq;by_cases al:s[tq].toNat=100
    ·have bi:((s[tq].toNat:Int)==100)=true:=by simp;omega
     have:(some s[tq]=some (100:UInt8)):=by rw[lw];exact UInt8.toNat_inj.1 al
     rw[gw this] at hq;clear this al g1;have ah:=f8 hq;clear hq ar am;go_wp2
     go_meet
     have hq:=ah.o;cases hq
     rfl
    ·have bi:((s[tq].toNat:Int)==100)=false:=by simp;omega
     have:¬ (some s[tq]=some (100:UInt8)):=by rw[lw];exact λe=>al (by rw[e];rfl)
     rw[f9 this] at hq;clear this g1;have ah:=f8 hq;clear hq;obtain⟨b1,av⟩:=h_2 ar am;clear ar am;go_wp2
     go_meet
     have hq:=ah.o;cases hq
     rw[b1.o,av.o]
   ·have b9:¬ (tq:Int)<(s.size:Int):=ga
    rw[ng (i:=tq) ga,f9 ge] at hq;have ah:=f8 hq;clear hq;obtain⟨b1,av⟩:=h_2 ar am;clear ar am;go_wp2
    go_meet
    have hq:=ah.o;cases hq
    rw[b1.o,av.o]
  ·have hq:=HQ.o;rw[gw rfl] at hq;have hd:=ac.symm;rw[jw] at hd;have h2:tq+1<=s.size:=by
    rcases mf (tq+1) s.data.toList.length with h|h
    ·omega
    ·rw[ng h] at hd;exact absurd hd.2 ge
   have b2:=aAh b s _ (tq+1) _ ch.o h2 ga;rw[show bP s.data.toList (tq+1) bI=q1 by cases hq;rfl] at b2;have cj:q2=true/\q3=false:=by cases hq;exact⟨rfl,rfl⟩
   obtain⟨aq,ah,av⟩:=h_3 b2 cj am;clear hq hd b2 cj ar am;go_wp2_with (go_at_call 212;refine aq.mono ?_;rintro e w2 ⟨rfl,rfl⟩)
   go_meet
   rw[ah.1,ah.2,av.o]
 case rest =>
 obtain⟨wR,cd⟩:=xe wc
 rw[<-cd] at hcut ⊢;clear cd;have aq:=f8 (show IsRd wR b s { r with nx:=q1,d:=q2,x:=q3 } from hcut▸dK W b s { r with nx:=q1,d:=q2,x:=q3 } hW ⟨a9.t0,a2,a9.p⟩ _ rfl);have bt:=f8 (show((cT W b (rdA s r.nx r.k r.p r.t r.b r.n r.sc r.d r.x r.e r.o))).grownBy wR (some b) from hcut▸bQ _ _ _ _);have be:tq<=q1:=by
  have hq:=HQ.o;cases ai
  ·rw[f9 gb] at hq;split at hq<;>(cases hq;omega)
  ·rw[gw rfl] at hq;cases hq
   have:=jW s.data.toList (tq+1) bI;omega
 have bs:ab<=f:=by rw[HF.o];split<;>omega
 have b4:=f8 (show(q1,q2,q3)=if s.data.toList[tq]?=some 46/\(s.data.toList[tq+1]?.any bI)=true then (bP s.data.toList (tq+1) bI,true,false) else if s.data.toList[tq]?=some 100 then (tq+1,true,true) else (tq,false,false) by
  rw[HQ.o,ac.o];simp only[jw])
 clear hcut HQ ac ch cv;have bk:=f8 (show b<wR.heap.size from aq.lt);have HC:=f8 (λ(w':World) (h:BB wR w')=>(show w'.cell? ⟨b,0,none⟩=some (Sv s)/\w'.cell? ⟨b,1,none⟩=some (I6 q1) from⟨aA ((h.block b bk.o).trans aq.at_) 0,aA ((h.block b bk.o).trans aq.at_) 1⟩));have c8:(ab:Int)<=(q1:Int):=ga
 have c6:(q1:Int)<=(s.size:Int):=ga
 have c5:(0:Int)<=(q1:Int):=ga
 obtain⟨tx,a3⟩:=xe (s.extract ab q1)
 have bn:tx.size<=s.size:=by rw[a3,k9];omega
 have a5:=λw'=>Tryz.strings_TrimSuffix tx ⟨#[100]⟩ w' ga;rw[show(⟨#[100]⟩:BA).data.toList=[100] from rfl] at a5;obtain⟨st,a7⟩:=xe (⟨(Lib.trimSuffix tx.data.toList [100]).toArray⟩:BA)
 have b5:st.size<=s.size:=by
  rw[a7,bE];have h1:tx.data.toList.length=tx.size:=rfl;unfold Lib.trimSuffix;split
  ·rw[ma];omega
  ·omega
 rw[<-a7] at a5;obtain⟨z1,z2,z3,hz⟩:∃(z1:Int) (z2:Nat) (z3:Int),(z1,z2,z3)=jM st.data.toList:=⟨_,_,_,rfl⟩
 have a4:=λ(w':World) (h:BB wR w')=>aLm st ga w' ((ce.grown bt.o (.inr rfl)).below h).tabs ((ce.grown bt.o (.inr rfl)).below h).nums;rw[<-hz] at a4;dsimp only at a4;have ci:=f8 (show(z1,z2,z3)=jM (Lib.trimSuffix (s.extract ab q1).data.toList [100]) by rw[hz,a7,a3]);obtain⟨b3,a8,c7⟩:=h_3 a5 a4 a3;have cL:=a3.symm;have cq:=b4.o;clear hz a7 a5 a4 bn b5 a3 cq bs be bm ag bo a2;go_upto_region 13 with (fail)
 go_cut [6,7] (λpv ev wz=>∃N:Nat,pv=.pointer (So N 0)/\ev=I6 z3/\wR.heap.size<=N/\wz.heap[N]?=some (.cells #[I6 z1,I6 (z2:Int)] 170)/\BB wR wz)
 case first =>
  refine iz (S:=(λw'=>BB wR w')) gd ((gx _ _).drew) (λhS=>?_);refine tC 0 HC ?_;refine tC 1 HC ?_;refine tC 2 HC ?_;refine tC 3 HC ?_;refine tC 4 HC ?_;refine tC 5 HC ?_;refine tC 6 HC ?_;refine tC 7 HC ?_;refine tC 8 HC ?_;refine tC 9 HC ?_;refine ry [10,15] ?_;refine AllReadyH.cons (o:=_) rfl (λK hK=>?_) ?_
  ·go_simp;go_at_call 151;refine(b3.o _).mono ?_;rintro e w1 ⟨rfl,bu⟩;obtain rfl:=bu.symm;refine kOQ hK (hS) λhS=>?_;clear hK K
   refine ry [11,15] ?_;refine AllReadyH.cons (o:=_) rfl (λK hK=>?_) ?_
   ·go_simp;go_at_call 265;refine(a8.o _ hS).mono ?_;rintro e w2 ⟨rfl,ad⟩;refine kOQ hK (hS.trans (ad.mono hS.size)) λhS=>?_;clear hK K
    refine tC 12 HC ?_;refine tC 13 HC ?_;refine tC 14 HC ?_;refine yr 15 λK hK=>?_;go_simp;refine kOQ hK (hS.trans (((gx _ _).alloc lr _).mono hS.size)) λhS=>?_;clear hK K
    refine yr 16 λK hK=>?_;go_simp;refine kOQ hK (((gx wR.heap.size wR).drew).trans (ad.alloc ad.size _)) λhS=>?_;clear hK K
    refine tC 17 HC ?_;refine iq gd ?_ _
    (try dsimp only)
    have au:=f8 hS;clear hS;go_wp2
    go_meet
    refine⟨_,rfl,rfl,ad.size,ib _ _,au.o⟩
   refine arQ λK hK=>?_;go_simp;refine kOQ hK (hS.trans (((gx _ _).alloc lr _).mono hS.size)) λhS=>?_;clear hK K
   refine yr 11 λK hK=>?_;go_simp;go_at_call 265;refine(a8.o _ hS).mono ?_;rintro e w2 ⟨rfl,ad⟩;refine kOQ hK (hS.trans (ad.mono hS.size)) λhS=>?_;clear hK K
   refine tC 12 HC ?_;refine tC 13 HC ?_;refine tC 14 HC ?_;refine yr 16 λK hK=>?_;have hB:w2.heap[wR.heap.size]?=some (.cells #[I6 0,I6 0] 170):=aB ad (ib wR.drew _);obtain⟨z0,b6⟩:=c_2 hB;have y0:=aF hB 0;have y1:=aF hB 1
   (try dsimp only at z0 b6)
   have HB:=f8 hB;clear hB;go_simp;refine kOQ hK ((hS.setCell (p:=⟨wR.heap.size,0,none⟩) lr _).setCell (p:=⟨wR.heap.size,1,none⟩) lr _) λhS=>?_;clear hK K
   refine tC 17 HC ?_;refine iq gd ?_ _
   (try dsimp only)
   have au:=f8 hS;clear hS;go_wp2
   go_meet
   exact⟨_,rfl,rfl,gy _,aG (o:=1) (I6 (z2:Int)) (aG (o:=0) (I6 z1) HB.o),au.o⟩
  refine arQ λK hK=>?_;go_simp;refine kOQ hK (hS.trans (((gx _ _).alloc lr _).mono hS.size)) λhS=>?_;clear hK K
  refine yr 10 λK hK=>?_;go_simp;go_at_call 151;refine(b3.o _).mono ?_;rintro e w1 ⟨rfl,bu⟩;obtain rfl:=bu.symm;refine kOQ hK (hS) λhS=>?_;clear hK K
  refine yr 11 λK hK=>?_;go_simp;go_at_call 265;refine(a8.o _ hS).mono ?_;rintro e w2 ⟨rfl,ad⟩;refine kOQ hK (hS.trans (ad.mono hS.size)) λhS=>?_;clear hK K
  refine tC 12 HC ?_;refine tC 13 HC ?_;refine tC 14 HC ?_;refine yr 16 λK hK=>?_;have hB:w2.heap[wR.heap.size]?=some (.cells #[I6 0,I6 0] 170):=aB ad (ib wR.drew _);obtain⟨z0,b6⟩:=c_2 hB;have y0:=aF hB 0;have y1:=aF hB 1
  (try dsimp only at z0 b6)
  have HB:=f8 hB;clear hB;go_simp;refine kOQ hK ((hS.setCell (p:=⟨wR.heap.size,0,none⟩) lr _).setCell (p:=⟨wR.heap.size,1,none⟩) lr _) λhS=>?_;clear hK K
  refine tC 17 HC ?_;refine iq gd ?_ _
  (try dsimp only)
  have au:=f8 hS;clear hS;go_wp2
  go_meet
  exact⟨_,rfl,rfl,gy _,aG (o:=1) (I6 (z2:Int)) (aG (o:=0) (I6 z1) HB.o),au.o⟩
 case rest =>
 obtain⟨N,rfl,rfl,bq,ay,bc⟩:=hcut;obtain⟨w6,ca⟩:=xe wc
 rw[<-ca] at ay bc ⊢;clear ca;have bj:=f8 (aq.grown (aU bc none) ge);have bh:=f8 (bt.trans (aU bc (some b)));have ck:N≠b:=by have:=bk.o;omega
 obtain⟨af,br⟩:=h_2 ck ay;have ba:=f8 (show N<w6.heap.size by
  rcases mf N w6.heap.size with q|q
  ·exact q
  ·rw[ow q] at ay;cases ay)
 clear bq ay bc ck b3 a8 HC;by_cases h3:z3=0
 ·subst h3;go_upto_region 16 with (fail)
  have ae:=bj;have bx:=bh;have aj:=br;have bl:=ba;clear bj bh br ba;obtain⟨r2,ak⟩:=xe ({ r with nx:=q1,d:=q2,x:=q3 }:Rd)
  rw[<-ak] at ae;have bg:=f8 (show jE s.data.toList s ab r={ r2 with k:=2,n:=z1,sc:=z2 } by
   rw[ak];unfold jE;dsimp only;rw[<-HF.o,<-bz.o,f9 cl.o,<-b4.o];dsimp only;rw[<-ci.o];dsimp only;rw[f9 ge])
  clear ak;obtain⟨W2,bd,az⟩:=ae.put;subst az;have aa:=f8 (λ(w':World) (h:w'.heap[N]?=some (.cells #[I6 z1,I6 (z2:Int)] 170))=>(show w'.cell? ⟨N,0,none⟩=some (I6 z1)/\w'.cell? ⟨N,1,none⟩=some (I6 (z2:Int)) from⟨aA h 0,aA h 1⟩));refine iz (S:=(λw'=>w'.heap[N]?=some (.cells #[I6 z1,I6 (z2:Int)] 170))) gd (aj.o) (λhS=>?_);refine tC 0 aa ?_;refine tC 1 aa ?_;refine tC 2 aa ?_;refine tC 3 aa ?_;refine tC 4 aa ?_;refine tC 5 aa ?_;refine yr 6 λK hK=>?_;go_simp;refine kOQ hK ((aJ W2 b _ N af.o).trans ((aJ W2 b _ N af.o).symm.trans aj.o)) λhS=>?_;clear hK K
  refine tC 7 aa ?_;refine tC 8 aa ?_;refine tC 9 aa ?_;refine yr 10 λK hK=>?_;go_simp;refine kOQ hK ((aJ W2 b _ N af.o).trans ((aJ W2 b _ N af.o).symm.trans aj.o)) λhS=>?_;clear hK K
  refine iq gd ?_ _
  (try dsimp only)
  clear hS;go_wp2;refine jj (iu rfl _ _ _) rfl ?_;refine⟨rfl,?_,bx.trans ((bQ _ _ _ _).trans ⟨rfl,rfl,rfl,gy _,λ_ _ _=>rfl⟩)⟩;rw[bg.o];exact(dK W2 b s { r2 with k:=2,n:=z1,sc:=z2 } bd ⟨(λe=>nomatch e),ae.ok.nx,ae.ok.p⟩ _ rfl).grown (row:=none) ⟨rfl,rfl,rfl,gy _,λ_ _ _=>rfl⟩ ge
 ·have b7:=f8 (bH b s _ ab z3 w6 bj.o);go_upto_region 16 with (go_at_call 162;refine b7.mono ?_;rintro e w7 ⟨rfl,h7,a6⟩;have ae:=f8 h7;have bx:=f8 (bh.trans a6);have aj:=f8 ((a6.block N ba.o (by intro e;cases e;exact af.o rfl)).trans br.o);have bl:=f8 (ix ba.o a6.size);clear h7 a6)
  have co:=f8 h3;clear h3;obtain⟨r2,ak⟩:=xe (Rd.fail { r with nx:=q1,d:=q2,x:=q3 } ab z3:Rd)
  rw[<-ak] at ae;have bg:=f8 (show jE s.data.toList s ab r={ r2 with k:=2,n:=z1,sc:=z2 } by
   rw[ak];unfold jE;dsimp only;rw[<-HF.o,<-bz.o,f9 cl.o,<-b4.o];dsimp only;rw[<-ci.o];dsimp only;rw[gw co.o])
  clear ak;obtain⟨W2,bd,az⟩:=ae.put;subst az;have aa:=f8 (λ(w':World) (h:w'.heap[N]?=some (.cells #[I6 z1,I6 (z2:Int)] 170))=>(show w'.cell? ⟨N,0,none⟩=some (I6 z1)/\w'.cell? ⟨N,1,none⟩=some (I6 (z2:Int)) from⟨aA h 0,aA h 1⟩));refine iz (S:=(λw'=>w'.heap[N]?=some (.cells #[I6 z1,I6 (z2:Int)] 170))) gd (aj.o) (λhS=>?_);refine tC 0 aa ?_;refine tC 1 aa ?_;refine tC 2 aa ?_;refine tC 3 aa ?_;refine tC 4 aa ?_;refine tC 5 aa ?_;refine yr 6 λK hK=>?_;go_simp;refine kOQ hK ((aJ W2 b _ N af.o).trans ((aJ W2 b _ N af.o).symm.trans aj.o)) λhS=>?_;clear hK K
  refine tC 7 aa ?_;refine tC 8 aa ?_;refine tC 9 aa ?_;refine yr 10 λK hK=>?_;go_simp;refine kOQ hK ((aJ W2 b _ N af.o).trans ((aJ W2 b _ N af.o).symm.trans aj.o)) λhS=>?_;clear hK K
  refine iq gd ?_ _
  (try dsimp only)
  clear hS;go_wp2;refine jj (iu rfl _ _ _) rfl ?_;refine⟨rfl,?_,bx.trans ((bQ _ _ _ _).trans ⟨rfl,rfl,rfl,gy _,λ_ _ _=>rfl⟩)⟩;rw[bg.o];exact(dK W2 b s { r2 with k:=2,n:=z1,sc:=z2 } bd ⟨(λe=>nomatch e),ae.ok.nx,ae.ok.p⟩ _ rfl).grown (row:=none) ⟨rfl,rfl,rfl,gy _,λ_ _ _=>rfl⟩ ge
end
section
attribute [local go_sem] cQ fE cS dJ bV cA
abbrev tokV (r:Rd):Value:=.agg #[I6 r.k,I6 r.p,.string r.t,.string r.b,I6 r.n,I6 r.sc,.bool r.d,.bool r.x]
theorem adv_bad (b:Nat) (s:BA) (r:Rd) (w:World) (h:IsRd w b s r) (he:r.e≠0) :
 CP 163 #[Pt b 0] w λx w'=>x=.returned (tokV r)/\IsRd w' b s (r.adv s)/\w.grownBy w' (some b):=by
 have HS:=f8 (show r.adv s=r by unfold Rd.adv;rw[gw he]);have HR:=f8 h;obtain⟨W,hW,hw⟩:=h.put;clear h;subst hw;go_enter func163,ntmps163
 go_wp2;refine ig (v:=tokV r) (by simp[results,results163,go_sem]) rfl ?_;refine⟨rfl,?_,?_⟩
 ·rw[HS.o];exact(HR.alloc _).alloc _
 ·exact(jq _ _ _).trans (jq _ _ _)
end
abbrev tokA (r:Rd):Array Value:=#[I6 r.k,I6 r.p,.string r.t,.string r.b,I6 r.n,I6 r.sc,.bool r.d,.bool r.x]
abbrev tokO (r:Rd):Obj:=.cells (tokA r) 172
abbrev tokZ:Obj:=.cells #[I6 0,I6 0,.string ⟨#[]⟩,.string ⟨#[]⟩,I6 0,I6 0,.bool false,.bool false] 172
theorem yM (b o j:Nat):(⟨b,o,none⟩:Addr).add j=⟨b,o+j,none⟩:=by unfold Addr.add;split<;>simp_all
theorem lT {w:World} {N:Nat} {r:Rd} {t:TypeId} {fr:Nat × Nat} (h:w.heap[N]?=some (.cells (tokA r) t fr)):(loadCellsFrom ⟨N,0,none⟩ 0 8 #[]).run prog w=.ok (tokA r) w:=by
 have:=qj (P:=prog) w ⟨N,0,none⟩ (tokA r).toList (λj v hv=>by
  rw[yM,ir,aA h j];simpa using hv)
 exact this
theorem ld_rd {w:World} {b:Nat} {s:BA} {r:Rd} (h:IsRd w b s r):(loadCellsFrom ⟨b,2,none⟩ 0 8 #[]).run prog w=.ok (tokA r) w:=by
 have:=qj (P:=prog) w ⟨b,2,none⟩ (tokA r).toList (λj v hv=>by
  have hj:j<8:=(List.getElem?_eq_some_iff.1 hv).1;rw[yM,aA h.at_ (2+j),<-hv];have:j=0\/j=1\/j=2\/j=3\/j=4\/j=5\/j=6\/j=7:=ga
  rcases this with rfl|rfl|rfl|rfl|rfl|rfl|rfl|rfl<;>rfl)
 exact this
theorem aC1 {w:World} {N:Nat} {aa:Array Value} (h:w.heap[N]?=some (.cells aa 172 (0,0))) (hc:aa.size=8) (r:Rd) :
 (storeCells ⟨N,0,none⟩ [I6 r.k,I6 r.p,Sv r.t,Sv r.b,I6 r.n,I6 r.sc,.bool r.d,.bool r.x] 0).run prog w=.ok () (w.setRow N (tokA r)):=by
 have:=run_storeCells_from (P:=prog) N 172 [I6 r.k,I6 r.p,Sv r.t,Sv r.b,I6 r.n,I6 r.sc,.bool r.d,.bool r.x] 0 aa w h (by rw[hc];rfl) gj
 simpa using this
theorem infoTok:(prog.info? 172).map (·.size)=some 8:=by kernel_rfl
theorem mC (w:World) (z:Array Value) (hz:z.size=8) (r:Rd) :
 (storeCells ⟨w.heap.size,0,none⟩ [I6 r.k,I6 r.p,Sv r.t,Sv r.b,I6 r.n,I6 r.sc,.bool r.d,.bool r.x] 0).run prog (w.alloc (.cells z 172))=.ok () (w.alloc (tokO r)):=by
 have:=run_storeCells_new (P:=prog) w 172 z (tokA r) (by rw[infoTok];rfl) (by rw[hz];rfl) gj;exact this
theorem aE4 (w:World) (b:Nat) (cs aa:Array Value):(cT w b cs).setRow b aa=cT w b aa:=by
 unfold World.setRow cT;congr 1;apply qm;intro k;simp only[mv,mq];by_cases hk:b=k
 ·subst hk;by_cases hb:b<w.heap.size<;>simp[hb]
 ·simp[hk]
theorem st_rd {W:World} {b:Nat} (hb:b<W.heap.size) (s:BA) (nx k0 p0:Int) (t0 b0:BA) (n0 aa:Int) (d0 x0:Bool) (e o:Int) (k p:Int) (t q:BA) (n sc:Int) (d x:Bool) :
 (storeCells ⟨b,2,none⟩ [I6 k,I6 p,Sv t,Sv q,I6 n,I6 sc,.bool d,.bool x] 0).run prog (cT W b (rdA s nx k0 p0 t0 b0 n0 aa d0 x0 e o))=.ok () (cT W b (rdA s nx k p t q n sc d x e o)):=by
 have:=run_storeCells_at (P:=prog) b 2 174 [I6 k,I6 p,Sv t,Sv q,I6 n,I6 sc,.bool d,.bool x] 0 (rdA s nx k0 p0 t0 b0 n0 aa d0 x0 e o) (cT W b (rdA s nx k0 p0 t0 b0 n0 aa d0 x0 e o)) (mV W b _ hb) ge gj;rw[this,aE4];rfl
/-! ### the next token,by its first byte -/
def r1F (a:Nat) (o:Nat):Rd:=⟨a,0,a,⟨#[]⟩,⟨#[]⟩,0,0,false,false,0,o⟩
def kP (s:BA) (a o:Nat) (c:UInt8):Rd :=
 if c.toNat=34 then iD s.data.toList a (r1F a o) else if c.toNat=120/\Lib.hasPrefix (s.data.toList.drop a) [120,34]=true then jS s.data.toList a (r1F a o) else if nQ c then { r1F a o with nx:=bP s.data.toList a mN,k:=1 }
  else if bI c||c.toNat==45 then jE s.data.toList s a (r1F a o) else if Lib.hasPrefix (s.data.toList.drop a) [46,46] then { r1F a o with nx:=a+2,k:=5 } else if symL.contains c then { r1F a o with nx:=a+1,k:=5 } else (r1F a o).fail a 13
def lU (s:BA) (a:Nat) (r2:Rd):Rd:=if r2.e=0 then { r2 with t:=s.extract a r2.nx } else r2
theorem pP {s:BA} {r:Rd} (he:r.e=0) (h:s.data.toList[bP s.data.toList r.nx spC]?=none):r.adv s=r1F (bP s.data.toList r.nx spC) r.o:=by
 unfold Rd.adv;rw[f9 (by simp[he])];dsimp only;rw[h];rfl
theorem pO {s:BA} {r:Rd} {c:UInt8} (he:r.e=0) (h:s.data.toList[bP s.data.toList r.nx spC]?=some c):r.adv s=lU s (bP s.data.toList r.nx spC) (kP s (bP s.data.toList r.nx spC) r.o c):=by
 unfold Rd.adv;rw[f9 (by simp[he])];dsimp only;rw[h];rfl
def aBm (s:BA) (a:Nat) (r2:Rd):Prop:=a<=r2.nx/\(r2.e=0->r2.k≠0)
theorem nF (r:Rd) (p:Nat) (e:Int):(r.fail p e).nx=r.nx:=by unfold Rd.fail;split<;>rfl
theorem oW:∀(f:Nat) (l:List UInt8) (i:Nat) (acc:List UInt8) (j:Nat) (e:Int),cN f l i acc=.inr (some (j,e))->e≠0
 | 0,_,_,_,_,_,h=>by simp[cN] at h
 | _+1,[],_,_,_,_,h=>by simp[cN] at h
 | f+1,c :: l,i,acc,j,e,h=>by
   unfold cN at h;split at h
   ·cases h
   split at h
   ·cases h;decide
   split at h
   ·exact oW f _ _ _ _ _ h
   split at h
   ·cases h
   dsimp only at h;split at h
   ·rename_i hne;cases h;exact hne
   ·exact oW f _ _ _ _ _ h
theorem aIx (s:BA) (a o:Nat):aBm s a (iD s.data.toList a (r1F a o)):=by
 unfold iD;split
 ·rename_i i b h;have:=rF _ _ _ _ _ _ h;exact⟨by dsimp only;omega,λ_=>by simp⟩
 ·rename_i i e h;refine⟨by rw[nF];exact gy _,λhe=>?_⟩;have aa:e≠0:=oW _ _ _ _ _ _ h;exact absurd he (Rd.fail_e _ _ _ aa)
 ·refine⟨by rw[nF];exact gy _,λhe=>absurd he (Rd.fail_e _ _ _ gb)⟩
theorem aIz (s:BA) (a o:Nat):aBm s a (jS s.data.toList a (r1F a o)):=by
 unfold jS;split
 ·rename_i i b h;have:=(sI _ _ _ _ _ _ h).1;exact⟨by dsimp only;omega,λ_=>by simp⟩
 ·refine⟨by rw[nF];exact gy _,λhe=>absurd he (Rd.fail_e _ _ _ gb)⟩
 ·refine⟨by rw[nF];exact gy _,λhe=>absurd he (Rd.fail_e _ _ _ gb)⟩
theorem aIy (s:BA) (a o:Nat):aBm s a (jE s.data.toList s a (r1F a o)):=by
 unfold jE;dsimp only;have h1:a<=(if s.data.toList[a]?=some 45 then a+1 else a):=by split<;>omega
 obtain⟨f,hf⟩:=xe ((if s.data.toList[a]?=some 45 then a+1 else a))
 rw[<-hf] at h1 ⊢;have h2:=jW s.data.toList f bI;obtain⟨tq,aa⟩:=xe (bP s.data.toList f bI)
 rw[<-aa] at h2 ⊢;have h3:=jW s.data.toList (tq+1) bI;split
 ·exact⟨by rw[nF];exact gy _,λhe=>absurd he (Rd.fail_e _ _ _ gb)⟩
 ·obtain⟨q,hq⟩:=xe ((if s.data.toList[tq]?=some 46/\(s.data.toList[tq+1]?.any bI)=true then (bP s.data.toList (tq+1) bI,true,false) else if s.data.toList[tq]?=some 100 then (tq+1,true,true) else (tq,false,false)))
  rw[<-hq];have h4:tq<=q.1:=by
   rw[hq];split
   ·dsimp only;omega
   ·split<;>dsimp only<;>omega
  refine⟨?_,λ_=>by simp⟩;dsimp only;split
  ·rw[nF];dsimp only;omega
  ·dsimp only;omega
theorem fin_ok {s:BA} {a:Nat} {r2:Rd} (h:r2.Ok s) (hm:aBm s a r2):(lU s a r2).Ok s:=by
 unfold lU;split
 ·rename_i he;exact⟨λhk=>absurd hk (hm.2 he),h.nx,h.p⟩
 ·exact h
end Go.Proofs.YtoodnaghjpkjfaaGreatDoor
