/- A part. -/
import Derived.Test.YtoodnaghjpkjfaaGreatDoorSE13Mrg
import Derived.Deep.Cut
namespace Go.Proofs.YtoodnaghjpkjfaaGreatDoor
open Tryz
set_option linter.unusedVariables false
set_option maxRecDepth 100000
set_option maxHeartbeats 64000000
set_option linter.unusedSimpArgs false
open Go Go.RowKit Go.Shelf
theorem aAf (n a b:Int) (p:Bool) (hp:p=(decide (a<=n)&&decide (n<=b))) (w:World):CP 68 #[I6 n,I6 a,I6 b] w λe w'=>e=.returned (.bool p)/\w'=w:=by
 by_cases h1:a<=n
 ·by_cases h2:n<=b
  ·have hq:p=true:=by rw[hp,lg h1,lg h2];rfl
   clear hp;subst hq;go_enter func68,ntmps68
   go_wp2;go_ret;exact⟨rfl,rfl⟩
  ·have hq:p=false:=by rw[hp,lg h1,mc h2];rfl
   clear hp;subst hq;go_enter func68,ntmps68
   go_wp2;go_ret;exact⟨rfl,rfl⟩
 ·have hq:p=false:=by rw[hp,mc h1];rfl
  clear hp;subst hq;go_enter func68,ntmps68
  go_wp2;go_ret;exact⟨rfl,rfl⟩
def inQ (n a b:Int):Bool:=decide (a<=n)&&decide (n<=b)
theorem bO (n a b:Int) (w:World):CP 68 #[I6 n,I6 a,I6 b] w λe w'=>e=.returned (.bool (inQ n a b))/\w'=w:=aAf n a b _ rfl w
theorem aJy (v:Nat) (h:v<=1048576):((⟨#[115,110,97,112,115,104,111,116,46]⟩:BA)++⟨(Lib.repeatL [48] (7-(aE (v:Int)).size)).toArray⟩)++aE (v:Int)=qH v:=by
 apply kn;apply lk;have hi:Lib.itoa (v:Int)=Lib.decDigits v:=by unfold Lib.itoa;rw[f9 ga];rfl
 have hz:(aE (v:Int)).size=(Lib.decDigits v).length:=by unfold aE;rw[hi];simp[ByteArray.size]
 have hr:∀c:Nat,Lib.repeatL [48] c=List.replicate c (48:UInt8):=by
  intro c
  induction c with
  | zero=>rfl
  | succ c ih=>rw[List.replicate_succ,<-ih];rfl
 rw[aDv,hz,hr];unfold dO aMs aE;rw[hi];simp
theorem zQ (v:Nat) (h:v<=1048576):(Lib.decDigits v).length<=7:=by
 have hd:=oJ v 6;by_cases hl:(Lib.decDigits v).length<=7
 ·exact hl
 ·exfalso;have h1:∀(k n:Nat),n<10 ^ k->0<k->(Lib.decDigits n).length<=k:=by
   intro k
   induction k with
   | zero=>intro n _ h;omega
   | succ k ih =>
     intro n hn _;rw[Lib.decDigits];split
     ·simp
     ·rename_i hg;have hk:0<k:=by
       rcases pi k with h0|h0
       ·subst h0;omega
       ·exact h0
      have:=ih (n / 10) (by rw[Nat.pow_succ] at hn;omega) hk;rw[ik,py];omega
  exact hl (h1 7 v ga ga)
theorem aDu (v:Nat) (h:v<=1048576) (w:World) (hT:Tabs w) :
 CP 29 #[I6 v] w (Rt (.tuple #[Sv (qH v),I6 0]) w):=by
 have HI:=f8 (bM (v:Int) (by unfold I64;omega) w hT);have HN:=f8 (aAf v 0 1048576 true (by rw[lg ga,lg ga];rfl) w);have hi:Lib.itoa (v:Int)=Lib.decDigits v:=by unfold Lib.itoa;rw[f9 ga];rfl
 have hz:(aE (v:Int)).size<=7:=by
  have:=zQ v h;unfold aE;rw[hi]
  simpa [ByteArray.size] using this
 have hE:=aJy v h;obtain⟨s,hs⟩:=xe (aE (v:Int))
 rw[<-hs] at HI hz hE;obtain⟨c,hc⟩:=xe (7-s.size)
 rw[<-hc] at hE;have HR:=f8 (λw=>Tryz.strings_Repeat ⟨#[48]⟩ c w ga (by have:(⟨#[48]⟩:BA).size=1:=rfl;rw[this];omega));have e7:(⟨#[48]⟩:BA).data.toList=[48]:=rfl;simp only[e7] at HR;obtain⟨r,hr⟩:=xe (⟨(Lib.repeatL [48] c).toArray⟩:BA)
 rw[<-hr] at hE;simp only[<-hr] at HR;have af:r.size<=7:=by
  rw[hr];have hq:∀c:Nat,Lib.repeatL [48] c=List.replicate c (48:UInt8):=by
   intro c
   induction c with
   | zero=>rfl
   | succ c ih=>rw[List.replicate_succ,<-ih];rfl
  rw[hq];simp[ByteArray.size];omega
 have ae:IntKind.i64.wrap (7-(s.size:Int))=(c:Int):=(ip _ ga).trans ga;have ad:(s.size:Int)<=7:=ga
 have HE:=f8 hE;clear hE hs hc hi h hr e7 hz;go_enter func29,ntmps29
 go_wp2_with (first
  | (go_at_call 68;refine HN.mono ?_;rintro e w3 ⟨rfl,ab⟩;obtain rfl:=ab.symm)
  | (go_at_call 69;refine(HR.o _).mono ?_;rintro e w4 ⟨rfl,ac⟩)
  | (go_at_call 64;refine HI.mono ?_;rintro e w5 ⟨rfl,aa⟩))
 go_ret2
 exact⟨by first|rfl|(rw[HE.o];rfl),aa.trans (ac.mono aa.size)⟩
def CntAt (w:World) (g:Nat) (s:BA) (n:Int):Prop:=∃cs T fz,w.heap[g]?=some (.cells cs T fz)/\cs[0]?=some (.string s)/\cs[1]?=some (I6 n)
theorem CntAt.same {w w':World} {g:Nat} {s:BA} {n:Int} (h:CntAt w g s n) (hs:∀o,w.heap[g]?=some o->w'.heap[g]?=some o):CntAt w' g s n:=by
 obtain⟨cs,T,fz,h1,h2,h3⟩:=h;exact⟨cs,T,fz,hs _ h1,h2,h3⟩
theorem CntAt.ext {w w':World} {g:Nat} {s:BA} {n:Int} (h:CntAt w g s n) (hb:BB w w'):CntAt w' g s n:=h.same λo ho=>aB hb ho
theorem CntAt.alloc {w:World} {g:Nat} {s:BA} {n:Int} (h:CntAt w g s n) (o:Obj):CntAt (w.alloc o) g s n:=h.same λx hx=>aC o hx
theorem CntAt.c0 {w:World} {g:Nat} {s:BA} {n:Int} (h:CntAt w g s n):w.cell? ⟨g,0,none⟩=some (Sv s):=by
 obtain⟨cs,T,fz,h1,h2,h3⟩:=h;rw[aA h1];exact h2
theorem CntAt.c1 {w:World} {g:Nat} {s:BA} {n:Int} (h:CntAt w g s n):w.cell? ⟨g,1,none⟩=some (I6 n):=by
 obtain⟨cs,T,fz,h1,h2,h3⟩:=h;rw[aA h1];exact h3
theorem Turn.below {S:Nat->Prop} {N:Nat} {w w':World} (h:Turn S w w') (hS:∀k,S k->N<=k) (hN:N<=w.heap.size):Below N w w' :=
 ⟨h.os,h.tape,h.output,h.size,λk hk=>h.block k ga (λhk'=>by have:=hS k hk';omega)⟩
def NB (w:World) (N:Nat):Prop:=∃w0,Tabs w0/\NumVars w0/\BB w0 w/\w0.heap.size<=N
theorem NB.num {w:World} {N:Nat} (h:NB w N):NumVars w:=by
 obtain⟨w0,h1,h2,h3,h4⟩:=h;exact h2.below h3
theorem NB.turn {w w':World} {N:Nat} {S:Nat->Prop} (h:NB w N) (ht:Turn S w w') (hS:∀k,S k->N<=k):NB w' N:=by
 obtain⟨w0,h1,h2,h3,h4⟩:=h;exact⟨w0,h1,h2,h3.trans (ht.below (λk hk=>by have:=hS k hk;omega) h3.size),h4⟩
theorem NB.below {w w':World} {N:Nat} (h:NB w N) (hb:BB w w'):NB w' N:=h.turn (S:=λ_=>False) (Turn.of_below hb) (λk h=>h.elim)
theorem aJ6:(prog.info? 87).map (λi=>(i.zero,i.size,i.bytes))=some (some (.agg #[Sv ByteArray.empty,I6 0]),2,24):=by kernel_rfl
theorem aLr (N:Nat) (s a b a2 b2:BA) (hs:s.size<=1000) (hc:tO s a b) (hb:b.size<=1000) (ak:tO b a2 b2) (al:a2.size<=1000) (n:Int) (ap:dE a2.data.toList=true) (hv:dD a2.data.toList=n)
 (c cb R:Nat) (lp:Value) (v e t:Int) (w:World) (aj:w.heap[cb]?=some (.cells #[Pt R 5] 57)) (hR:w.heap[R]?=some (rdO lp v e t none 0 0)) (au:w.heap[c]?=some (scO s)) (ad:NB w N) (a7:N<=c) (ai:R≠c/\cb≠c/\cb≠R) :
 CP 49 #[Pt c 0,Pt cb 0] w λr w'=>r=.returned (.tuple #[])/\∃g cap,w.heap.size<=g/\CntAt w' g a n/\1<=cap/\w'.heap[R]?=some (rdO lp v e t (So g 0) 1 cap)/\w'.heap[c]?=some (scO b2)/\Turn (λk=>k=c\/k=R) w w':=by
 obtain⟨ti,hi,a3,a0,a1⟩:=jr aJ6;have HP:f7 (CP 20 #[Pt c 0] w.drew _):=f8 (tZ s a b hs hc c w.drew au (ad.below ((bR w).drew)).num);have ay:=f8 (λ(w2:World) (h2:w2.heap[c]?=some (scO b)) (ht:Turn (λk=>k=c) w.drew w2)=>mS b a2 b2 hb ak n al ap hv c w2 h2 ((ad.below ((bR w).drew)).turn ht (λk hk=>by omega)).num (λw' ht'=>(((ad.below ((bR w).drew)).turn ht (λk hk=>by omega)).turn ht' (λk hk=>by omega)).num))
 have HC:=f8 (λ(w':World) (h:w'.heap[cb]?=some (.cells #[Pt R 5] 57)/\w'.heap[R]?=some (rdO lp v e t none 0 0))=>(show w'.cell? ⟨cb,0,none⟩=some (Pt R 5)/\w'.cell? ⟨R,5,none⟩=some Z0 from⟨aA h.1 0,aA h.2 5⟩));have a5:f7 (w.drew.heap[cb]?=_):=f8 aj;have HR:f7 (w.drew.heap[R]?=_):=f8 hR;have ac:=f8 (show R≠c/\cb≠c/\cb≠R from ai);clear hs hc hb ak al ap hv aj hR au ad a7 ai;go_enter func49,ntmps49
 go_upto_region 0 with (fail)
 refine aP 11 (λw'=>w'.heap[cb]?=some (.cells #[Pt R 5] 57)/\w'.heap[R]?=some (rdO lp v e t none 0 0)) gd gd gd gb (⟨a5.o,HR.o⟩) (λhS=>?_);simp only[zdm,zdn,zdp,zdq];refine tC 0 HC ?_;refine tC 1 HC ?_;refine tC 2 HC ?_;refine tC 3 HC ?_;refine tC 4 HC ?_;refine tC 6 HC ?_;refine yr 5 λK hK=>?_;go_simp;go_at_call 20;refine HP.mono ?_;rintro x w2 ⟨rfl,h2,ae⟩;obtain⟨H2,am⟩:=h_2 h2 ae;have HQ:=f8 (ay.o w2 h2 ae);refine kOQ hK (⟨ae.keep hS.1 ac.2.1,ae.keep hS.2 ac.1⟩) λhS=>?_;clear hK K
 refine yr 7 λK hK=>?_;go_simp;go_at_call 12;refine HQ.mono ?_;rintro x w3 ⟨rfl,h3,ag⟩;obtain⟨H3,ao⟩:=h_2 h3 ag;refine kOQ hK (⟨ag.keep hS.1 ac.2.1,ag.keep hS.2 ac.1⟩) λhS=>?_;clear hK K
 refine tC 8 HC ?_;refine yr 9 λK hK=>?_;go_simp;refine kOQ hK (⟨aC _ hS.1,aC _ hS.2⟩) λhS=>?_;clear hK K
 refine yr 10 λK hK=>?_;refine step_append_lies _ gh _ _ _ gh w3.heap.size 87 ti _ 2 24 underlying23 hi a3 a0 a1 rfl ga Z0 0 [] gh (lf _ _ _ _) ⟨w3.heap.size,0,none⟩ 1 1 [Sv a,I6 n] gh gh (World.news_of_block (ib w3 _)) gj ga (by unfold maxLen;omega) ga ge (w3.heap.size+1) ge ?_;intro gg cap w4 ab aa az aw
 obtain⟨a6,ax,bc⟩:=h_3 ab aa az;have H4:=f8 (aL aa (aC (.cells #[Sv a,I6 n] 87) H3.o) (by simp[Value.ownBlock]));refine kOQ hK (⟨aL aa hS.1 (by simp[Value.ownBlock]),aL aa hS.2 (by simp[Value.ownBlock])⟩) λhS=>?_;clear hK K
 refine iq gd ?_ _
 (try dsimp only)
 have HS:=f8 hS;have r5:=aF hS.2 5;have q5:=aA hS.2 5
 (try dsimp only at q5)
 clear hS;go_wp2;obtain⟨_,h|⟨g9,ah,af,a8,bd,aq,a4,ba,bb,an⟩⟩:=a6.o
 ·exact absurd h.2 ge
 obtain⟨rfl,rfl⟩:gg=g9/\cap=ah:=by injection a8 with q1 q2 q3;injection q1 with q1;injection q1 with q1;exact⟨q1,q3⟩
 have ar:=aG (o:=5) (Sl (So gg 0) 1 cap) HS.2;simp only[jm,jn,jo] at ar;have av:gg≠R:=λh=>by
  have:=HS.2;rw[<-h,aq] at this;cases this
 have e0:af[0]?=some (Sv a):=by
  have:=congrArg (·[0]?) an
  simpa [mw] using this
 have e1:af[1]?=some (I6 n):=by
  have:=congrArg (·[1]?) an
  simpa [mw] using this
 have a9:w.heap.size<=w3.heap.size:=by have h1:=am.size;have h2:=ao.size;simp at h1;omega
 exact jj (iu rfl _ _ _) rfl ⟨rfl,gg,cap,by omega,⟨af,_,_,aD _ _ aq (by exact av),e0,e1⟩,a4,ar,aD _ _ H4.o (by exact ac.1.symm),(((((Turn.of_below (bR w).drew:Turn _ w w.drew).trans (am.mono λk hk=>.inl hk)).trans (ao.mono λk hk=>.inl hk)).trans (Turn.of_below ((gx _ w3).alloc lr (.cells #[Sv a,I6 n] 87)))).trans (Turn.of_grown ax.o (λr hr=>by cases hr))).trans (Turn.setCell ⟨R,5,none⟩ _ (.inr rfl))⟩
theorem sB (word ln:BA) (hw:word.size<=1000) (hp:Lib.hasPrefix ln.data.toList (word++⟨#[32]⟩).data.toList=false) (R L i n cap:Nat) (v e t:Int) (ap:Option Addr) (an ac:Nat) (fv:Value) (w:World) (h:w.heap[R]?=some (rdO (Sl (So L i) (n+1) cap) v e t ap an ac)) (hl:w.cell? ⟨L,i,none⟩=some (Sv ln)) (hn:n<=1000) :
 CP 15 #[Pt R 0,Sv word,fv] w λr w'=>r=.returned (.tuple #[])/\BB w w':=by
 have H:=f8 (aAq word ln hw hp R L i n cap v e t ap an ac w h hl hn);clear hp h hl;go_enter func15,ntmps15
 go_wp2;refine lx 1 ?_;rw[jk];go_wp2_with (go_at_call 11;refine H.mono ?_;rintro x w3 ⟨rfl,aa⟩)
 exact ig (iu rfl _ _ _) rfl ⟨rfl,aa⟩
theorem aJs (ln:BA) (hp:Lib.hasPrefix ln.data.toList (⟨#[115,116,97,116,101,32]⟩:BA).data.toList=false) (R L i n cap:Nat) (v e t:Int) (ap:Option Addr) (an ac:Nat) (w:World) (h:w.heap[R]?=some (rdO (Sl (So L i) (n+1) cap) v e t ap an ac)) (hl:w.cell? ⟨L,i,none⟩=some (Sv ln)) (hn:n<=1000) :
 CP 13 #[Pt R 0] w λr w'=>r=.returned (.tuple #[])/\BB w w':=by
 have H:=f8 (λ(w:World)=>Tryz.strings_HasPrefix ln ⟨#[115,116,97,116,101,32]⟩ w);rw[hp] at H;have c0:=aA h 0;have ab:=aA h 10
 (try dsimp only at c0 ab)
 have ad:(0:Int)<(n:Int)+1:=ga
 clear hp h;go_enter func13,ntmps13
 go_wp2;refine lx 1 ?_;rw[jk];go_wp2_with (go_at_call 46;refine(H.o _).mono ?_;rintro x w3 ⟨rfl,aa⟩;obtain rfl:=aa.symm)
 exact jj (iu rfl _ _ _) rfl ⟨rfl,gx _ _⟩
theorem Turn.fresh {S S2:Nat->Prop} {w w2 w3:World} (h:Turn S w w2) (h2:Turn S2 w2 w3) (hS:∀k,k<w.heap.size->S2 k->S k):Turn S w w3 :=
 ⟨h2.os.trans h.os,h2.tape.trans h.tape,h2.output.trans h.output,io h.size h2.size,λk hk hn=>(h2.block k (ix hk h.size) (λh'=>hn (hS k hk h'))).trans (h.block k hk hn)⟩
theorem pN {w w':World} {a:Addr} {v:Value} (hb:BB w w') (h:w.cell? a=some v):w'.cell? a=some v :=
 (jg (hb.block _ (o9 _ _ h))).trans h
theorem kB (R o:Nat) (w:World):CP 16 #[Pt R o] w λr w'=>r=.returned (.func (.func 49) #[] #[Pt w.heap.size 0])/\w'=w.alloc (.cells #[Pt R o] 57):=by
 go_enter func16,ntmps16
 go_wp2;go_ret;exact⟨rfl,rfl⟩
theorem aO5 (N:Nat) (word ac aj s a b a2 b2:BA) (hw:word.size<=1000) (ao:Lib.hasPrefix ac.data.toList (word++⟨#[32]⟩).data.toList=true) (a1:(⟨(Lib.trimPrefix ac.data.toList (word++⟨#[32]⟩).data.toList).toArray⟩:BA)=s) (a0:Lib.hasPrefix aj.data.toList (word++⟨#[32]⟩).data.toList=false)
 (hs:s.size<=1000) (hc:tO s a b) (hb:b.size<=1000) (au:tO b a2 b2) (av:a2.size<=1000) (k:Int) (a3:dE a2.data.toList=true) (hv:dD a2.data.toList=k)
 (cb R L i m cap:Nat) (hm:m+1<=cap/\m<=900) (v e t:Int) (la:Array Value) (LT:TypeId) (w:World) (hL:w.heap[L]?=some (.cells la LT)) (l0:la[i]?=some (Sv ac)) (l1:la[i+1]?=some (Sv aj)) (ag:w.heap[cb]?=some (.cells #[Pt R 5] 57)) (hR:w.heap[R]?=some (rdO (Sl (So L i) (m+1+1) (cap+1)) v e t none 0 0)) (ap:NB w N) (bf:N<=R/\N<=w.heap.size) (ab:cb≠R/\L≠R) :
 CP 15 #[Pt R 0,Sv word,.func (.func 49) #[] #[Pt cb 0]] w λr w'=>r=.returned (.tuple #[])/\∃g gc,CntAt w' g a k/\w.heap.size<=g/\1<=gc/\w'.heap[R]?=some (rdO (Sl (So L (i+1)) (m+1) cap) v e t (So g 0) 1 gc)/\Turn (λq=>q=R) w w':=by
 have bl:∀args w,(callFunc 49 args).run prog w=.ok (.enter 49 args) w:=jd func49 gd rfl;have H1:=f8 (aAp word ac s hw ao a1 R L i m cap ga v e t none 0 0 w hR ((aA hL _).trans l0) ga hm.1);have H2:=f8 (λ(c:Nat) (w1:World) (h1:w1.heap[c]?=some (scO s)) (hc':w.heap.size<=c) (af:w1.heap[R]?=some (rdO (Sl (So L (i+1)) (m+1) cap) v e t none 0 0)) (ht:Turn (λq=>q=R) w w1) =>
  aLr N s a b a2 b2 hs hc hb au av k a3 hv c cb R _ v e t w1 (ht.keep ag ab.1) af h1 (ap.turn ht (λq hq=>by omega)) ga ⟨by have:=ltOf hR;omega,by have:=ltOf ag;omega,ab.1⟩)
 have H3:=f8 (λ(g gc:Nat) (w':World) (h:w'.heap[R]?=some (rdO (Sl (So L (i+1)) (m+1) cap) v e t (So g 0) 1 gc)) (hl:w'.heap[L]?=some (.cells la LT))=>aAq word aj hw a0 R L (i+1) m cap v e t (So g 0) 1 gc w' h ((aA hl _).trans l1) ga);obtain⟨HL,az⟩:=h_2 hL ab;have bg:=f8 (ltOf hR);have bk:=f8 (ltOf hL);clear ao a1 a0 hc hb au av a3 hv hL l0 l1 ag hR ap bf ab hm;go_enter func15,ntmps15
 go_wp2;refine lx 2 ?_;rw[jk];go_upto_region 3 with (first
  | (go_at_call 11;refine H1.mono ?_;rintro x w1 ⟨c,rfl,a8,ay,af,a4⟩;obtain⟨bb,aw,bi,ae⟩:=h_4 a8 ay af a4;clear a8 ay af a4)
  | (go_at_call 49;refine(H2.o c w1 bb.o aw.o bi.o ae.o).mono ?_;rintro x w2 ⟨rfl,g,gc,a6,a5,a7,ad,aa,aq⟩;have am:=aA ad 10;have bh:=aF ad 10;have s1:=aA aa 1;(try dsimp only at am s1);obtain⟨al,a9,bc,ba,be⟩:=h_5 a6 a5 a7 ad aq;clear a6 a5 a7 ad aa aq))
 have hT:Turn (λq=>q=R) w w2:=ae.fresh be.o (λq hq hk=>by have:=aw.o;rcases hk with h|h<;>omega);have ar:w2.heap[L]?=some (.cells la LT):=hT.keep HL.o az.2;have ai:=aG (o:=10) (.bool false) ba.o;simp only[jm,jn,jo] at ai;have ax:=f8 ai;have bd:=f8 (aD ⟨R,10,none⟩ (.bool false) ar az.2);have bj:=f8 (hT.trans (Turn.setCell (R:=λq=>q=R) ⟨R,10,none⟩ (.bool false) rfl));have an:g≠R:=by have:=al.o;have:=bg.o;have:=ae.size;omega
 have ak:=f8 (a9.same (w':=w2.setCell ⟨R,10,none⟩ (.bool false)) λo ho=>aD _ _ ho an);clear hT ar ai an;go_wp2;rw[jk];clear am bh s1;go_wp2_with (go_at_call 11;refine(H3.o g gc _ ax.o bd.o).mono ?_;rintro x w3 ⟨rfl,ah⟩)
 exact ig (iu rfl _ _ _) rfl ⟨rfl,g,gc,ak.ext ah,by have:=al.o;have:=ae.size;omega,bc.o,aB ah ax.o,bj.trans (Turn.of_below ah)⟩
theorem effs_no (ln:BA) (hp:Lib.hasPrefix ln.data.toList (⟨#[100,101,108,105,118,101,114]⟩++⟨#[32]⟩:BA).data.toList=false) (R L i n cap:Nat) (v e t:Int) (ap:Option Addr) (an ac:Nat) (w:World) (h:w.heap[R]?=some (rdO (Sl (So L i) (n+1) cap) v e t ap an ac)) (hl:w.cell? ⟨L,i,none⟩=some (Sv ln)) (hn:n<=1000) (af:Lib.hasPrefix ln.data.toList (⟨#[114,101,113,117,101,115,116]⟩++⟨#[32]⟩:BA).data.toList=false) :
 CP 26 #[Pt R 0] w λr w'=>r=.returned (.tuple #[])/\BB w w':=by
 have H1:=f8 (λfv (w':World) (h:w'.heap[R]?=some (rdO (Sl (So L i) (n+1) cap) v e t ap an ac)) (hl:w'.cell? ⟨L,i,none⟩=some (Sv ln))=>sB ⟨#[100,101,108,105,118,101,114]⟩ ln gt hp R L i n cap v e t ap an ac fv w' h hl hn);have H2:=f8 (λfv (w':World) (h:w'.heap[R]?=some (rdO (Sl (So L i) (n+1) cap) v e t ap an ac)) (hl:w'.cell? ⟨L,i,none⟩=some (Sv ln))=>sB ⟨#[114,101,113,117,101,115,116]⟩ ln gt af R L i n cap v e t ap an ac fv w' h hl hn);have HR:=f8 h;have HL:=f8 hl
 have HB:=f8 ((bR w).alloc lr (.cells #[Pt R 0] 42));have c9:=aA (aB HB.o h) 9
 (try dsimp only at c9)
 clear hp af h hl;go_enter func26,ntmps26
 go_wp2;refine lx 1 ?_;rw[jk];go_upto_region 3 with (go_at_call 15;refine(H1.o _ _ (aB HB.o HR.o) (pN HB.o HL.o)).mono ?_;rintro x w3 ⟨rfl,ab⟩;have aa:=f8 (HB.trans (ab.mono ge));have n9:=aA (aB aa.o HR.o) 9;have nb:=aA (aB ab (ib w _)) 0;(try dsimp only at n9 nb);clear ab)
 clear c9;go_upto_region 4 with (go_at_call 15;refine(H2.o _ _ (aB aa.o HR.o) (pN aa.o HL.o)).mono ?_;rintro x w4 ⟨rfl,ad⟩;have ae:=f8 (aa.trans (ad.mono aa.size));have q9:=aA (aB ae.o HR.o) 9;have qb:=pN ad nb;(try dsimp only at q9);clear ad)
 clear n9 nb;go_wp2;exact ig (iu rfl _ _ _) rfl ⟨rfl,ae.o⟩
theorem dec3_no (ln:BA) (hp:Lib.hasPrefix ln.data.toList (⟨#[113,117,101,117,101,100]⟩++⟨#[32]⟩:BA).data.toList=false) (R L i n cap:Nat) (v e t:Int) (ap:Option Addr) (an ac:Nat) (w:World) (h:w.heap[R]?=some (rdO (Sl (So L i) (n+1) cap) v e t ap an ac)) (hl:w.cell? ⟨L,i,none⟩=some (Sv ln)) (hn:n<=1000) (B4 B5:Nat) (h4:w.heap[B4]?=some (.cells #[Pt R 0] 42)) (h5:w.heap[B5]?=some (.cells #[Pt R 1] 47)) :
 CP 18 #[Pt B4 0,Pt B5 0] w λr w'=>r=.returned (.tuple #[])/\BB w w':=by
 have HE:=f8 (λfv=>sB ⟨#[113,117,101,117,101,100]⟩ ln gt hp R L i n cap v e t ap an ac fv w h hl hn);have b4:=aA h4 0;have b5:=aA h5 0
 (try dsimp only at b4 b5)
 clear hp h hl h4 h5;go_enter func18,ntmps18
 go_wp2_with (go_at_call 15;refine(HE.o _).mono ?_;rintro x w3 ⟨rfl,aa⟩)
 exact jj (iu rfl _ _ _) rfl ⟨rfl,aa⟩
theorem dec4_no (ln:BA) (hp:Lib.hasPrefix ln.data.toList (⟨#[108,101,116,116,101,114]⟩++⟨#[32]⟩:BA).data.toList=false) (R L i n cap:Nat) (v e t:Int) (ap:Option Addr) (an ac:Nat) (w:World) (h:w.heap[R]?=some (rdO (Sl (So L i) (n+1) cap) v e t ap an ac)) (hl:w.cell? ⟨L,i,none⟩=some (Sv ln)) (hn:n<=1000) (B4 B5:Nat) (h4:w.heap[B4]?=some (.cells #[Pt R 0] 42)) (h5:w.heap[B5]?=some (.cells #[Pt R 1] 47)) :
 CP 22 #[Pt B4 0,Pt B5 0] w λr w'=>r=.returned (.tuple #[])/\BB w w':=by
 have HE:=f8 (λfv=>sB ⟨#[108,101,116,116,101,114]⟩ ln gt hp R L i n cap v e t ap an ac fv w h hl hn);have b4:=aA h4 0;have b5:=aA h5 0
 (try dsimp only at b4 b5)
 clear hp h hl h4 h5;go_enter func22,ntmps22
 go_wp2_with (go_at_call 15;refine(HE.o _).mono ?_;rintro x w3 ⟨rfl,aa⟩)
 exact jj (iu rfl _ _ _) rfl ⟨rfl,aa⟩
theorem dec2_no (ln:BA) (hp:Lib.hasPrefix ln.data.toList (⟨#[115,101,110,116]⟩++⟨#[32]⟩:BA).data.toList=false) (R L i n cap:Nat) (v e t:Int) (ap:Option Addr) (an ac:Nat) (w:World) (h:w.heap[R]?=some (rdO (Sl (So L i) (n+1) cap) v e t ap an ac)) (hl:w.cell? ⟨L,i,none⟩=some (Sv ln)) (hn:n<=1000) (B4 B5:Nat) (h4:w.heap[B4]?=some (.cells #[Pt R 0] 42)) (h5:w.heap[B5]?=some (.cells #[Pt R 1] 47)) :
 CP 17 #[Pt B4 0,Pt B5 0] w λr w'=>r=.returned (.tuple #[])/\BB w w':=by
 have HE:=f8 (λfv (w':World) (hw':w'=w.drew.alloc (.cells #[Pt R 6] 57))=>sB ⟨#[115,101,110,116]⟩ ln gt hp R L i n cap v e t ap an ac fv w' (by rw[hw'];exact aC _ h) (by rw[hw'];exact pN ((bR w).drew.alloc lr _) hl) hn);have HC:=f8 (λ(w':World) (h:w'.heap[B4]?=some (.cells #[Pt R 0] 42)/\w'.heap[B5]?=some (.cells #[Pt R 1] 47))=>(show w'.cell? ⟨B4,0,none⟩=some (Pt R 0)/\w'.cell? ⟨B5,0,none⟩=some (Pt R 1) from⟨aA h.1 0,aA h.2 0⟩));have ab:f7 (w.drew.heap[B4]?=_):=f8 h4
 have ad:f7 (w.drew.heap[B5]?=_):=f8 h5;clear hp h hl h4 h5;go_enter func17,ntmps17
 go_upto_region 0 with (fail)
 refine iz (S:=(λw'=>w'.heap[B4]?=some (.cells #[Pt R 0] 42)/\w'.heap[B5]?=some (.cells #[Pt R 1] 47))) gd (⟨ab.o,ad.o⟩) (λhS=>?_);refine tC 0 HC ?_;refine tC 1 HC ?_;refine tC 2 HC ?_;refine tC 3 HC ?_;refine yr 4 λK hK=>?_;go_simp;go_at_call 16;refine(kB _ _ _).mono ?_;rintro x w1 ⟨rfl,rfl⟩;refine kOQ hK (⟨aC _ hS.1,aC _ hS.2⟩) λhS=>?_;clear hK K
 refine yr 5 λK hK=>?_;go_simp;go_at_call 15;refine(HE.o _ _ rfl).mono ?_;rintro x w2 ⟨rfl,aa⟩;have HT:=f8 aa;refine kOQ hK (⟨aB aa hS.1,aB aa hS.2⟩) λhS=>?_;clear hK K
 refine iq gd ?_ _
 (try dsimp only)
 clear hS;exact jj (iu rfl _ _ _) rfl ⟨rfl,((bR w).drew.alloc lr _).trans (HT.mono ge)⟩
theorem aO6 (N:Nat) (ab ae s a b a2 b2:BA) (ag:Lib.hasPrefix ab.data.toList (⟨#[97,114,114,105,118,101,100]⟩++⟨#[32]⟩:BA).data.toList=true) (an:(⟨(Lib.trimPrefix ab.data.toList (⟨#[97,114,114,105,118,101,100]⟩++⟨#[32]⟩:BA).data.toList).toArray⟩:BA)=s) (am:Lib.hasPrefix ae.data.toList (⟨#[97,114,114,105,118,101,100]⟩++⟨#[32]⟩:BA).data.toList=false)
 (hs:s.size<=1000) (hc:tO s a b) (hb:b.size<=1000) (ai:tO b a2 b2) (aj:a2.size<=1000) (k:Int) (ao:dE a2.data.toList=true) (hv:dD a2.data.toList=k)
 (R L i m cap:Nat) (hm:m+1<=cap/\m<=900) (v e t:Int) (la:Array Value) (LT:TypeId) (w:World) (hL:w.heap[L]?=some (.cells la LT)) (l0:la[i]?=some (Sv ab)) (l1:la[i+1]?=some (Sv ae)) (hR:w.heap[R]?=some (rdO (Sl (So L i) (m+1+1) (cap+1)) v e t none 0 0)) (ah:NB w N) (ak:N<=R) (af:L≠R) (B4 B5:Nat) (h4:w.heap[B4]?=some (.cells #[Pt R 0] 42)) (h5:w.heap[B5]?=some (.cells #[Pt R 1] 47)) (aa:B4≠R/\B5≠R) :
 CP 14 #[Pt B4 0,Pt B5 0] w λr w'=>r=.returned (.tuple #[])/\∃g gc,CntAt w' g a k/\w.heap.size<=g/\1<=gc/\w'.heap[R]?=some (rdO (Sl (So L (i+1)) (m+1) cap) v e t (So g 0) 1 gc)/\Turn (λq=>q=R) w w':=by
 have ad:BB w (w.drew.alloc (.cells #[Pt R 5] 57)):=(bR w).drew.alloc lr _;have HE:=f8 (λ(w':World) (hw':w'=w.drew.alloc (.cells #[Pt R 5] 57))=>aO5 N ⟨#[97,114,114,105,118,101,100]⟩ ab ae s a b a2 b2 gt ag an am hs hc hb ai aj k ao hv w.heap.size R L i m cap hm v e t la LT w' (by rw[hw'];exact aC _ hL) l0 l1 (by rw[hw'];exact ib w.drew _) (by rw[hw'];exact aC _ hR) (by rw[hw'];exact ah.below ad) ⟨ak,by rw[hw'];have:=ltOf hR;simp;omega⟩ ⟨by have:=ltOf hR;omega,af⟩)
 have HC:=f8 (λ(w':World) (h:w'.heap[B4]?=some (.cells #[Pt R 0] 42)/\w'.heap[B5]?=some (.cells #[Pt R 1] 47))=>(show w'.cell? ⟨B4,0,none⟩=some (Pt R 0)/\w'.cell? ⟨B5,0,none⟩=some (Pt R 1) from⟨aA h.1 0,aA h.2 0⟩));have ap:f7 (w.drew.heap[B4]?=_):=f8 h4;have aw:f7 (w.drew.heap[B5]?=_):=f8 h5;obtain⟨al,ar⟩:=h_2 aa ad;clear ag an am hs hc hb ai aj ao hv hm hL l0 l1 hR ah ak af h4 h5 aa ad;go_enter func14,ntmps14
 go_upto_region 0 with (fail)
 refine iz (S:=(λw'=>w'.heap[B4]?=some (.cells #[Pt R 0] 42)/\w'.heap[B5]?=some (.cells #[Pt R 1] 47))) gd (⟨ap.o,aw.o⟩) (λhS=>?_);refine tC 0 HC ?_;refine tC 1 HC ?_;refine tC 2 HC ?_;refine tC 3 HC ?_;refine yr 4 λK hK=>?_;go_simp;go_at_call 16;refine(kB _ _ _).mono ?_;rintro x w1 ⟨rfl,rfl⟩;refine kOQ hK (⟨aC _ hS.1,aC _ hS.2⟩) λhS=>?_;clear hK K
 refine yr 5 λK hK=>?_;go_simp;go_at_call 15;refine(HE.o _ rfl).mono ?_;rintro x w2 ⟨rfl,g,gc,av,ax,au,aq,ac⟩;have HX:=f8 (ie av (ie ax (ie au aq)));have HT:=f8 ac;refine kOQ hK (⟨ac.keep hS.1 (by have:=al.o;omega),ac.keep hS.2 (by have:=al.o;omega)⟩) λhS=>?_;clear hK K
 refine iq gd ?_ _
 (try dsimp only)
 clear hS;obtain⟨h1,h2,h3,h5⟩:=HX.o;exact jj (iu rfl _ _ _) rfl ⟨rfl,g,gc,h1,by simp at h2;omega,h3,h5,(Turn.of_below ar.o).trans HT.o⟩
end Go.Proofs.YtoodnaghjpkjfaaGreatDoor
