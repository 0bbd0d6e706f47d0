/- A part. -/
import Derived.Test.YtoodnaghjpkjfaaGreatDoorSE6Mrg
import Derived.Lib.MinMax
import Derived.Lib.Repeat
namespace Go.Proofs.YtoodnaghjpkjfaaGreatDoor
open Tryz
set_option linter.unusedVariables false
set_option maxRecDepth 100000
set_option maxHeartbeats 64000000
set_option linter.unusedSimpArgs false
open Go Go.RowKit Go.Shelf
def inB (n lo hi:Int):Bool:=decide (lo<=n)&&decide (n<=hi)
theorem xE (n lo hi:Int) (w:World):CP 279 #[I6 n,I6 lo,I6 hi] w λe w'=>e=.returned (.bool (inB n lo hi))/\w=w':=by
 go_enter func279,ntmps279
 by_cases h1:lo<=n<;>by_cases h2:n<=hi
 all_goals go_wp2
 all_goals go_ret
 all_goals exact⟨by simp[inB, *],rfl⟩
theorem xF {n lo hi:Int} (h1:lo<=n) (h2:n<=hi):inB n lo hi=true:=by simp[inB, *]
theorem aKz (y:Nat) (h1:1<=y) (h2:y<=9999) (w:World):CP 296 #[I6 y] w λe w'=>e=.returned (.bool (uG y))/\w=w':=by
 have HI:=f8 (λw=>(xE y 1 9999 w).mono (R':=λe w'=>e=.returned (.bool true)/\w=w') (λe w' h=>⟨h.1.trans (by rw[xF ga ga]),h.2⟩));have e4:(y:Int).tmod 4=((y % 4:Nat):Int):=by rw[nw ga];omega
 have ak:(y:Int).tmod 100=((y % 100:Nat):Int):=by rw[nw ga];omega
 have ai:(y:Int).tmod 400=((y % 400:Nat):Int):=by rw[nw ga];omega
 obtain⟨r4,aj⟩:=xe (((y % 4:Nat):Int):Int)
 obtain⟨aa,ad⟩:=xe (((y % 100:Nat):Int):Int)
 obtain⟨ab,ac⟩:=xe (((y % 400:Nat):Int):Int)
 have HL:f7 (uG y=((r4==0)&&(!(aa==0)||(ab==0)))):=f8 (by
  unfold uG;rw[show(r4==0)=(y % 4==0) by rw[aj,n8];simp;omega,show(aa==0)=(y % 100==0) by rw[ad,n8];simp;omega,show(ab==0)=(y % 400==0) by rw[ac,n8];simp;omega])
 rw[<-aj] at e4;rw[<-ad] at ak;rw[<-ac] at ai;have w4:IntKind.i64.wrap r4=r4:=ip _ ga;have al:IntKind.i64.wrap aa=aa:=ip _ ga;have ao:IntKind.i64.wrap ab=ab:=ip _ ga;obtain⟨p4,am⟩:∃p,(r4==0)=p:=⟨_,rfl⟩
 obtain⟨ag,ae⟩:∃p,(aa==0)=p:=⟨_,rfl⟩
 obtain⟨ah,af⟩:∃p,(ab==0)=p:=⟨_,rfl⟩
 rw[am,ae,af] at HL;have an:(aa != 0) = !ag:=by rw[bne,ae]
 clear aj ad ac;go_enter func296,ntmps296
 cases p4<;>cases ag<;>cases ah
 all_goals go_wp2_with (go_at_call 279;refine(HI.o _).mono ?_;rintro e w' ⟨rfl,rfl⟩)
 all_goals go_ret
 all_goals exact⟨by rw[HL.o];rfl,rfl⟩
theorem uN (y:Nat) (h1:1<=y) (h2:y<=10000) (w:World):CP 280 #[I6 y] w λe w'=>e=.returned (I6 (eB y))/\w=w':=by
 obtain⟨x,hx⟩:=xe (((y-1:Nat):Int):Int)
 obtain⟨a,ha⟩:=xe ((((y-1) / 4:Nat):Int):Int)
 obtain⟨b,hb⟩:=xe ((((y-1) / 100:Nat):Int):Int)
 obtain⟨c,hc⟩:=xe ((((y-1) / 400:Nat):Int):Int)
 have e0:(y:Int)-1=x:=ga
 have e4:x.tdiv 4=a:=by rw[od ga];omega
 have af:x.tdiv 100=b:=by rw[od ga];omega
 have ac:x.tdiv 400=c:=by rw[od ga];omega
 have aa:(y-1) / 100<=(y-1) / 4:=Nat.div_le_div_left gb gb;have HR:f7 (((eB y:Nat):Int)=365 * x+a-b+c):=f8 (by unfold eB;omega);have ag:0<=x/\x<=9999:=ga
 have ae:0<=a/\a<=9999:=ga
 have ab:0<=b/\b<=9999:=ga
 have ad:0<=c/\c<=9999:=ga
 clear hx ha hb hc aa;have w0:IntKind.i64.wrap x=x:=ip _ ga;have w1:IntKind.i64.wrap (365 * x)=365 * x:=ip _ ga;have w2:IntKind.i64.wrap a=a:=ip _ ga;have w3:IntKind.i64.wrap (365 * x+a)=365 * x+a:=ip _ ga;have w4:IntKind.i64.wrap b=b:=ip _ ga;have w5:IntKind.i64.wrap (365 * x+a-b)=365 * x+a-b:=ip _ ga;have w6:IntKind.i64.wrap c=c:=ip _ ga;have w7:IntKind.i64.wrap (365 * x+a-b+c)=365 * x+a-b+c:=ip _ ga;clear ag ae ab ad
 go_enter func280,ntmps280
 go_wp2;go_ret;exact⟨retI HR.symm,rfl⟩
theorem mon0 (w:World):(Instr.index 324 (.agg #[I6 31,I6 28,I6 31,I6 30,I6 31,I6 30,I6 31,I6 31,I6 30,I6 31,I6 30,I6 31]) (I6 0)).run prog w=.ok (I6 31) w:=by
 simp[Instr.index,my underlying324,asIntOf,part,go_sem]
theorem mon1 (w:World):(Instr.index 324 (.agg #[I6 31,I6 28,I6 31,I6 30,I6 31,I6 30,I6 31,I6 31,I6 30,I6 31,I6 30,I6 31]) (I6 1)).run prog w=.ok (I6 28) w:=by
 simp[Instr.index,my underlying324,asIntOf,part,go_sem]
theorem mon2 (w:World):(Instr.index 324 (.agg #[I6 31,I6 28,I6 31,I6 30,I6 31,I6 30,I6 31,I6 31,I6 30,I6 31,I6 30,I6 31]) (I6 2)).run prog w=.ok (I6 31) w:=by
 simp[Instr.index,my underlying324,asIntOf,part,go_sem]
theorem mon3 (w:World):(Instr.index 324 (.agg #[I6 31,I6 28,I6 31,I6 30,I6 31,I6 30,I6 31,I6 31,I6 30,I6 31,I6 30,I6 31]) (I6 3)).run prog w=.ok (I6 30) w:=by
 simp[Instr.index,my underlying324,asIntOf,part,go_sem]
theorem mon4 (w:World):(Instr.index 324 (.agg #[I6 31,I6 28,I6 31,I6 30,I6 31,I6 30,I6 31,I6 31,I6 30,I6 31,I6 30,I6 31]) (I6 4)).run prog w=.ok (I6 31) w:=by
 simp[Instr.index,my underlying324,asIntOf,part,go_sem]
theorem mon5 (w:World):(Instr.index 324 (.agg #[I6 31,I6 28,I6 31,I6 30,I6 31,I6 30,I6 31,I6 31,I6 30,I6 31,I6 30,I6 31]) (I6 5)).run prog w=.ok (I6 30) w:=by
 simp[Instr.index,my underlying324,asIntOf,part,go_sem]
theorem mon6 (w:World):(Instr.index 324 (.agg #[I6 31,I6 28,I6 31,I6 30,I6 31,I6 30,I6 31,I6 31,I6 30,I6 31,I6 30,I6 31]) (I6 6)).run prog w=.ok (I6 31) w:=by
 simp[Instr.index,my underlying324,asIntOf,part,go_sem]
theorem mon7 (w:World):(Instr.index 324 (.agg #[I6 31,I6 28,I6 31,I6 30,I6 31,I6 30,I6 31,I6 31,I6 30,I6 31,I6 30,I6 31]) (I6 7)).run prog w=.ok (I6 31) w:=by
 simp[Instr.index,my underlying324,asIntOf,part,go_sem]
theorem mon8 (w:World):(Instr.index 324 (.agg #[I6 31,I6 28,I6 31,I6 30,I6 31,I6 30,I6 31,I6 31,I6 30,I6 31,I6 30,I6 31]) (I6 8)).run prog w=.ok (I6 30) w:=by
 simp[Instr.index,my underlying324,asIntOf,part,go_sem]
theorem mon9 (w:World):(Instr.index 324 (.agg #[I6 31,I6 28,I6 31,I6 30,I6 31,I6 30,I6 31,I6 31,I6 30,I6 31,I6 30,I6 31]) (I6 9)).run prog w=.ok (I6 31) w:=by
 simp[Instr.index,my underlying324,asIntOf,part,go_sem]
theorem mon10 (w:World):(Instr.index 324 (.agg #[I6 31,I6 28,I6 31,I6 30,I6 31,I6 30,I6 31,I6 31,I6 30,I6 31,I6 30,I6 31]) (I6 10)).run prog w=.ok (I6 30) w:=by
 simp[Instr.index,my underlying324,asIntOf,part,go_sem]
theorem mon11 (w:World):(Instr.index 324 (.agg #[I6 31,I6 28,I6 31,I6 30,I6 31,I6 30,I6 31,I6 31,I6 30,I6 31,I6 30,I6 31]) (I6 11)).run prog w=.ok (I6 31) w:=by
 simp[Instr.index,my underlying324,asIntOf,part,go_sem]
theorem qN (y m:Nat) (h1:1<=y) (h2:y<=9999) (h3:1<=m) (h4:m<=12) (w:World):CP 281 #[I6 y,I6 m] w λe w'=>e=.returned (I6 (bJ y m))/\w=w':=by
 have HL:=f8 (aKz y h1 h2);obtain⟨p,hp⟩:∃p,uG y=p:=⟨_,rfl⟩
 rw[hp] at HL;have HP:=f8 hp;clear hp;have:m=1\/m=2\/m=3\/m=4\/m=5\/m=6\/m=7\/m=8\/m=9\/m=10\/m=11\/m=12:=ga
 clear h3 h4;rcases this with rfl|rfl|rfl|rfl|rfl|rfl|rfl|rfl|rfl|rfl|rfl|rfl
 ·have hm:=mon0;go_enter func281,ntmps281
  go_wp2;go_ret;exact⟨retI (by simp[bJ,qM]),rfl⟩
 ·cases p
  all_goals have hm:=mon1
  all_goals go_enter func281,ntmps281
  all_goals go_wp2_with (go_at_call 296;refine(HL.o _).mono ?_;rintro e w' ⟨rfl,rfl⟩)
  all_goals go_ret
  all_goals exact⟨retI (by simp[bJ,qM,HP.o]),rfl⟩
 ·have hm:=mon2;go_enter func281,ntmps281
  go_wp2;go_ret;exact⟨retI (by simp[bJ,qM]),rfl⟩
 ·have hm:=mon3;go_enter func281,ntmps281
  go_wp2;go_ret;exact⟨retI (by simp[bJ,qM]),rfl⟩
 ·have hm:=mon4;go_enter func281,ntmps281
  go_wp2;go_ret;exact⟨retI (by simp[bJ,qM]),rfl⟩
 ·have hm:=mon5;go_enter func281,ntmps281
  go_wp2;go_ret;exact⟨retI (by simp[bJ,qM]),rfl⟩
 ·have hm:=mon6;go_enter func281,ntmps281
  go_wp2;go_ret;exact⟨retI (by simp[bJ,qM]),rfl⟩
 ·have hm:=mon7;go_enter func281,ntmps281
  go_wp2;go_ret;exact⟨retI (by simp[bJ,qM]),rfl⟩
 ·have hm:=mon8;go_enter func281,ntmps281
  go_wp2;go_ret;exact⟨retI (by simp[bJ,qM]),rfl⟩
 ·have hm:=mon9;go_enter func281,ntmps281
  go_wp2;go_ret;exact⟨retI (by simp[bJ,qM]),rfl⟩
 ·have hm:=mon10;go_enter func281,ntmps281
  go_wp2;go_ret;exact⟨retI (by simp[bJ,qM]),rfl⟩
 ·have hm:=mon11;go_enter func281,ntmps281
  go_wp2;go_ret;exact⟨retI (by simp[bJ,qM]),rfl⟩
theorem aIf (d:Int) (n:Nat) (hd:d+719162=n) (hn:n<=3652058) (w:World):CP 254 #[I6 d] w λe w'=>e=.returned (.tuple #[I6 (iU n),I6 (uW n),I6 (uX n),I6 0])/\w=w':=by
 have HI:=f8 (λw=>(xE d (-719162) 2932896 w).mono (R':=λe w'=>e=.returned (.bool true)/\w=w') (λe w' h=>⟨h.1.trans (by rw[xF ga ga]),h.2⟩));obtain⟨s0,ae⟩:=xe (sN n)
 have ar:=zX n;rw[<-ae] at ar;have a3:=f8 (show n<eB (s0+1) by rw[ae];exact yH n hn);have a1:=f8 (show eM n s0=iU n by rw[ae];rfl);obtain⟨q,hq⟩:=xe (((n / 365:Nat):Int):Int)
 have a0:(n:Int).tdiv 365=q:=by rw[od ga];omega
 have wq:IntKind.i64.wrap q=q:=ip _ ga;have a7:IntKind.i64.wrap (q+1)=q+1:=ip _ ga;have a2:min (q+1) 9999=(s0:Int):=by rw[ae];unfold sN;omega
 have wn:IntKind.i64.wrap (n:Int)=n:=ip _ ga;obtain⟨au,HN⟩:=h_2 ar hn;clear ae hq ar hn;go_enter func254,ntmps254
 go_wp2_with (go_at_call 279;refine(HI.o _).mono ?_;rintro e w' ⟨rfl,rfl⟩)
 go_loopw [2] (λy wr=>∃k:Nat,wr=w/\y=I6 k/\1<=k/\k<=9999/\eM n k=iU n/\n<eB (k+1)) (λy _=>(intOf y).toNat)
 case atStart=>exact⟨s0,rfl,rfl,au.1,au.2,a1.o,a3.o⟩
 case round =>
  obtain⟨k,rfl,rfl,aa,ah,af,av⟩:=hrel;obtain⟨wl,rfl⟩:=xe (wr:World)
  have HB:=f8 (uN k aa ga);by_cases ac:n<eB k
  ·have an:(n:Int)<(eB k:Int):=ga
   have aw:2<=k:=by
    rcases mf k 2 with h|h
    ·obtain rfl:k=1:=ga
     rw[yI] at ac;omega
    ·exact h
   have wk:IntKind.i64.wrap ((k:Int)-1)=(k:Int)-1:=ip _ ga;have HK:=f8 (show eM n (k-1)=iU n by rw[aDb n k ac aa];exact af);have a6:=f8 (show n<eB (k-1+1) by rw[show k-1+1=k by omega];exact ac);have ag:=f8 (ie ah aw);clear af av ac aa ah aw;go_wp2_with (go_at_call 280;refine(HB.o _).mono ?_;rintro e w' ⟨rfl,rfl⟩)
   go_roundw
   case rel=>exact⟨k-1,trivial,by rw[show((k-1:Nat):Int)=(k:Int)-1 by have:=ag.o;omega],by have:=ag.o;omega,by have:=ag.o;omega,HK.o,a6.o⟩
   case measure=>have:=ag.o;simp[intOf];omega
  ·have an:¬ (n:Int)<(eB k:Int):=ga
   have ab:k=iU n:=by rw[<-af,aDa n k ac aa]
   have ad:n-eB k<bC k 12 1:=by have:=rA k aa;omega
   obtain⟨r0,ao⟩:=xe (n-eB k)
   have a8:(n:Int)-(eB k:Int)=r0:=ga
   have a9:IntKind.i64.wrap (r0:Int)=r0:=ip _ (by have:=HN.o;omega);have a4:=f8 (show cK k 12 1 r0=uM n by rw[ao];unfold uM;rw[<-ab]);have az:=f8 (show r0<bC k 12 1 by rw[ao];exact ad);have a5:=f8 (show r0<=3652058 by have:=HN.o;omega);have ax:=f8 ab;have ay:=f8 (λ(m:Nat) (h1:1<=m) (h2:m<=12)=>qN k m aa ah h1 h2);clear af av ac aa ah ab ad ao;go_wp2_with (go_at_call 280;refine(HB.o _).mono ?_;rintro e w' ⟨rfl,rfl⟩)
   go_loopw [3,6] (λmm rr ws=>∃(m f r:Nat),ws=wl/\mm=I6 m/\rr=I6 r/\m+f=13/\1<=m/\r<=3652058/\r<bC k f m/\cK k f m r=uM n) (λmm _ _=>13-(intOf mm).toNat)
   case atStart=>exact⟨1,12,r0,rfl,rfl,rfl,rfl,by decide,a5.o,az.o,a4.o⟩
   case round =>
    obtain⟨m,f,r,rfl,rfl,rfl,aq,ak,ap,aj,al⟩:=hrel;obtain⟨g,rfl⟩:∃g,f=g+1:=by
     rcases f with _|g
     ·simp[bC] at aj
     ·exact⟨g,rfl⟩
    have HM:=f8 (ay.o m ak ga);by_cases ai:bJ k m<=r
    ·have am:(bJ k m:Int)<=(r:Int):=ga
     have e1:(r:Int)-(bJ k m:Int)=((r-bJ k m:Nat):Int):=ga
     have w1:IntKind.i64.wrap ((r-bJ k m:Nat):Int)=((r-bJ k m:Nat):Int):=ip _ ga;have w2:IntKind.i64.wrap ((m:Int)+1)=(m:Int)+1:=ip _ ga;have HS:=f8 (show r-bJ k m<bC k g (m+1) by simp only[bC] at aj;omega);have HG:=f8 (show cK k g (m+1) (r-bJ k m)=uM n by rw[<-al];simp only[cK,ai,je]);have HF:=f8 (ie aq (ie ak ap));clear aq ak ap aj al ai;go_wp2_with (go_at_call 281;refine(HM.o _).mono ?_;rintro e w' ⟨rfl,rfl⟩)
     go_roundw
     case rel=>exact⟨m+1,g,r-bJ k m,trivial,by go_num,rfl,by have:=HF.o;omega,by omega,by have:=HF.o;omega,HS.o,HG.o⟩
     case measure=>have:=HF.o;simp[intOf];omega
    ·have am:¬ (bJ k m:Int)<=(r:Int):=ga
     have w2:IntKind.i64.wrap ((r:Int)+1)=(r:Int)+1:=ip _ ga;have HG:=f8 (show uM n=(m,r) by rw[<-al];simp only[cK,ai,kz]);clear aq ak ap aj al ai;go_wp2_with (go_at_call 281;refine(HM.o _).mono ?_;rintro e w' ⟨rfl,rfl⟩)
     refine ig (v:=.tuple #[I6 k,I6 m,I6 ((r:Int)+1),I6 0]) (by simp[results,results254,go_sem]) rfl ?_;refine⟨?_,rfl⟩;unfold uW uX;rw[HG.o,<-ax.o];rfl
theorem aCd (c:UInt8):∀k,Lib.repeatL [c] k=List.replicate k c
 | 0=>rfl
 | k+1=>by rw[Lib.repeatL,aCd c k,List.replicate_succ];rfl
theorem eW (k n:Nat) (hk:k<=10) (hn:n<=9999) (w:World) (hT:Tabs w):CP 255 #[I6 n,I6 k] w (Rt (Sv ⟨(dS k n).toArray⟩) w):=by
 have aa:=bY n 4 ga gb;obtain⟨s,hs⟩:=xe (aE (n:Int):BA)
 have ab:s=⟨(Lib.decDigits n).toArray⟩:=by rw[hs];unfold aE;rw[Lib.itoa_nonneg]
 have ad:s.size=(Lib.decDigits n).length:=by rw[ab,bE]
 obtain⟨c,hc⟩:=xe (k-s.size:Nat)
 have hI:=λw hT=>(bM (n:Int) ⟨by omega,by omega⟩ w hT)
 rw[<-hs] at hI;have HI:=f8 (hI w hT);obtain⟨z,hz⟩:=xe (⟨(Lib.repeatL (⟨#[48]⟩:BA).data.toList c).toArray⟩:BA)
 have hR:=λw=>Tryz.strings_Repeat ⟨#[48]⟩ c w ga (by have:(⟨#[48]⟩:BA).size=1:=rfl;rw[this];omega);rw[<-hz] at hR;have HR:=f8 hR;have ag:z.size=c:=by rw[hz,bE,Lib.repeatL_length];simp
 have ae:max 0 ((k:Int)-(s.size:Int))=(c:Int):=ga
 have hg:z.size+s.size<=9223372036854775807:=ga
 have wk:IntKind.i64.wrap ((k:Int)-(s.size:Int))=(k:Int)-(s.size:Int):=ip _ ga;have HF:f7 (z++s=⟨(dS k n).toArray⟩):=f8 (by
  rw[hz,ab,bD];unfold dS;rw[<-ad,<-hc,show(⟨#[48]⟩:BA).data.toList=[48] from rfl,aCd])
 clear hs ab ad hI hz hR aa hc hn hk;go_enter func255,ntmps255
 go_wp2_with (first
  | (go_at_call 69;refine(HR.o _).mono ?_;rintro e w2 ⟨rfl,af⟩)
  | (go_at_call 64;refine HI.mono ?_;rintro e w1 ⟨rfl,ac⟩))
 go_ret;exact⟨by rw[HF.o];rfl,ac.trans (af.mono ac.size)⟩
theorem sH (d:Int) (n:Nat) (hd:d+719162=n) (hn:n<=3652058) (w:World) (hT:Tabs w):CP 194 #[I6 d] w (Rt (.tuple #[Sv ⟨(cF n).toArray⟩,I6 0]) w):=by
 obtain⟨⟨y1,y2⟩,⟨m1,m2⟩,d1,d2⟩:=sG n hn;have HC:=f8 (aIf d n hd hn w);have HY:=f8 (eW 4 (iU n) gb ga);have HM:=f8 (eW 2 (uW n) gb ga);have HD:=f8 (eW 2 (uX n) gb ga);obtain⟨a,ha⟩:=xe (⟨(dS 4 (iU n)).toArray⟩:BA)
 obtain⟨b,hb⟩:=xe (⟨(dS 2 (uW n)).toArray⟩:BA)
 obtain⟨c,hc⟩:=xe (⟨(dS 2 (uX n)).toArray⟩:BA)
 rw[<-ha] at HY;rw[<-hb] at HM;rw[<-hc] at HD;have za:a.size=4:=by rw[ha,bE,cZ 4 _ ga gb]
 have zb:b.size=2:=by rw[hb,bE,cZ 2 _ ga gb]
 have zc:c.size=2:=by rw[hc,bE,cZ 2 _ ga gb]
 have HF:f7 (a++⟨#[45]⟩++b++⟨#[45]⟩++c=⟨(cF n).toArray⟩):=f8 (by
  rw[ha,hb,hc,show(⟨#[45]⟩:BA)=⟨[45].toArray⟩ from rfl,bD,bD,bD,bD];unfold cF;simp)
 clear ha hb hc y1 y2 m1 m2 d1 d2 hd hn;go_enter func194,ntmps194
 go_wp2_with (first
  | (go_at_call 255;refine(HD.o w2 ((hT.below aa).below ab)).mono ?_;rintro e w3 ⟨rfl,ac⟩)
  | (go_at_call 255;refine(HM.o w1 (hT.below aa)).mono ?_;rintro e w2 ⟨rfl,ab⟩)
  | (go_at_call 255;refine(HY.o w hT).mono ?_;rintro e w1 ⟨rfl,aa⟩)
  | (go_at_call 254;refine HC.mono ?_;rintro e w0 ⟨rfl,rfl⟩))
 refine ig (v:=.tuple #[Sv (a++⟨#[45]⟩++b++⟨#[45]⟩++c),I6 0]) (by simp[results,results194,go_sem]) rfl ?_;exact⟨by rw[HF.o],(aa.trans (ab.mono aa.size)).trans (ac.mono (aa.trans (ab.mono aa.size)).size)⟩
theorem aGg (ms:Int) (n:Nat) (hm:ms+62135596800000=n) (hn:n<=315537897599999) (w:World):CP 256 #[I6 ms] w λe w'=>e=.returned (.tuple #[I6 (-719162+((n / 86400000:Nat):Int)),I6 ((n % 86400000:Nat):Int),I6 0])/\w=w':=by
 have HI:=f8 (λw=>(xE ms (-62135596800000) 253402300799999 w).mono (R':=λe w'=>e=.returned (.bool true)/\w=w') (λe w' h=>⟨h.1.trans (by rw[xF ga ga]),h.2⟩));obtain⟨q,hq⟩:=xe (((n / 86400000:Nat):Int):Int)
 obtain⟨r,hr⟩:=xe (((n % 86400000:Nat):Int):Int)
 rw[<-hq,<-hr];have e1:(n:Int).tdiv 86400000=q:=by rw[od ga];omega
 have e2:(n:Int).tmod 86400000=r:=by rw[nw ga];omega
 have wn:IntKind.i64.wrap (n:Int)=n:=ip _ ga;have wq:IntKind.i64.wrap q=q:=ip _ ga;have wr:IntKind.i64.wrap r=r:=ip _ ga;have aa:IntKind.i64.wrap (-719162+q) = -719162+q:=ip _ ga;clear hq hr hn;go_enter func256,ntmps256
 go_wp2_with (go_at_call 279;refine(HI.o _).mono ?_;rintro e w' ⟨rfl,rfl⟩)
 refine ig (v:=.tuple #[I6 (-719162+q),I6 r,I6 0]) (by simp[results,results256,go_sem]) rfl ?_;exact⟨rfl,rfl⟩
theorem yR (ms:Int) (n:Nat) (hm:ms+62135596800000=n) (hn:n<=315537897599999) (w:World) (hT:Tabs w):CP 195 #[I6 ms] w (Rt (.tuple #[Sv ⟨(cO n).toArray⟩,I6 0]) w):=by
 obtain⟨dn,ak⟩:=xe (n / 86400000)
 obtain⟨r,hr⟩:=xe (n % 86400000)
 have HS:=f8 (aGg ms n hm hn w);rw[<-ak,<-hr] at HS;have au:r<86400000:=by rw[hr];exact Nat.mod_lt _ gb
 have HC:=f8 (sH (-719162+(dn:Int)) dn ga ga);obtain⟨dt,ai⟩:=xe (⟨(cF dn).toArray⟩:BA)
 rw[<-ai] at HC;have aw:dt.size=10:=by rw[ai,bE,pK _ ga]
 obtain⟨ab,ag⟩:=xe (r / 1000)
 obtain⟨h,hh⟩:=xe (ab / 3600)
 obtain⟨mi,ap⟩:=xe (ab / 60 % 60)
 obtain⟨se,ao⟩:=xe (ab % 60)
 obtain⟨ml,am⟩:=xe (r % 1000)
 have e1:(r:Int).tdiv 1000=ab:=by rw[od ga];omega
 have e2:(ab:Int).tdiv 3600=h:=by rw[od ga];omega
 obtain⟨ah,al⟩:=xe (ab / 60)
 have e3:(ab:Int).tdiv 60=ah:=by rw[od ga];omega
 have e4:(ah:Int).tmod 60=mi:=by rw[nw ga];omega
 have e5:(ab:Int).tmod 60=se:=by rw[nw ga];omega
 have e6:(r:Int).tmod 1000=ml:=by rw[nw ga];omega
 have w1:IntKind.i64.wrap (ab:Int)=ab:=ip _ ga;have w2:IntKind.i64.wrap (h:Int)=h:=ip _ ga;have w3:IntKind.i64.wrap (ah:Int)=ah:=ip _ ga;have w4:IntKind.i64.wrap (mi:Int)=mi:=ip _ ga;have w5:IntKind.i64.wrap (se:Int)=se:=ip _ ga;have w6:IntKind.i64.wrap (ml:Int)=ml:=ip _ ga;have HA:=f8 (eW 2 h gb ga);have HB:=f8 (eW 2 mi gb ga);have HD:=f8 (eW 2 se gb ga);have HE:=f8 (eW 3 ml gb ga)
 obtain⟨a,ha⟩:=xe (⟨(dS 2 h).toArray⟩:BA)
 obtain⟨b,hb⟩:=xe (⟨(dS 2 mi).toArray⟩:BA)
 obtain⟨c,hc⟩:=xe (⟨(dS 2 se).toArray⟩:BA)
 obtain⟨d,hd⟩:=xe (⟨(dS 3 ml).toArray⟩:BA)
 rw[<-ha] at HA;rw[<-hb] at HB;rw[<-hc] at HD;rw[<-hd] at HE;have za:a.size=2:=by rw[ha,bE,cZ 2 _ ga gb]
 have zb:b.size=2:=by rw[hb,bE,cZ 2 _ ga gb]
 have zc:c.size=2:=by rw[hc,bE,cZ 2 _ ga gb]
 have zd:d.size=3:=by rw[hd,bE,cZ 3 _ ga gb]
 have an:f7 (dt++(⟨#[84]⟩++a++⟨#[58]⟩++b++⟨#[58]⟩++c)=⟨(cF dn++(84 :: (dS 2 h++58 :: (dS 2 mi++58 :: dS 2 se)))).toArray⟩):=f8 (by
  rw[ai,ha,hb,hc,show(⟨#[84]⟩:BA)=⟨[84].toArray⟩ from rfl,show(⟨#[58]⟩:BA)=⟨[58].toArray⟩ from rfl,bD,bD,bD,bD,bD,bD];simp)
 have HT:f7 (cO n=cF dn++(84 :: (dS 2 h++58 :: (dS 2 mi++58 :: dS 2 se)))++(if ml=0 then [] else 46 :: dS 3 ml)++[90]):=f8 (by
  unfold cO tP;rw[<-ak,<-hr,<-ag,<-hh,<-ap,<-ao,<-am];simp)
 obtain⟨aq,ax⟩:=h_2 hd am;clear ak hr ai ha hb hc hd ag hh ap ao am al au hm hn;by_cases hz:ml=0
 ·have av:((ml:Int)==0)=true:=by simp[hz]
  have HZ:=f8 hz;clear hz;go_enter func195,ntmps195
  go_wp2_with (first
   | (go_at_call 255;refine(HD.o w3 (((hT.below aa).below ac).below ad)).mono ?_;rintro e w4 ⟨rfl,aj⟩)
   | (go_at_call 255;refine(HB.o w2 ((hT.below aa).below ac)).mono ?_;rintro e w3 ⟨rfl,ad⟩)
   | (go_at_call 255;refine(HA.o w1 (hT.below aa)).mono ?_;rintro e w2 ⟨rfl,ac⟩)
   | (go_at_call 194;refine(HC.o w hT).mono ?_;rintro e w1 ⟨rfl,aa⟩)
   | (go_at_call 256;refine HS.mono ?_;rintro e w0 ⟨rfl,rfl⟩))
  refine ig (v:=.tuple #[Sv (dt++(⟨#[84]⟩++a++⟨#[58]⟩++b++⟨#[58]⟩++c)++⟨#[90]⟩),I6 0]) (by simp[results,results195,go_sem]) rfl ?_;have hb:=aa.trans (ac.mono aa.size);have af:=hb.trans (ad.mono hb.size);refine⟨?_,af.trans (aj.mono af.size)⟩;rw[an.o,show(⟨#[90]⟩:BA)=⟨[90].toArray⟩ from rfl,bD,HT.o,gw HZ.o];simp
 ·have av:((ml:Int)==0)=false:=by simp[hz]
  have HZ:=f8 hz;clear hz;go_enter func195,ntmps195
  go_wp2_with (first
   | (go_at_call 255;refine(HE.o w4 ((((hT.below aa).below ac).below ad).below aj)).mono ?_;rintro e w5 ⟨rfl,ar⟩)
   | (go_at_call 255;refine(HD.o w3 (((hT.below aa).below ac).below ad)).mono ?_;rintro e w4 ⟨rfl,aj⟩)
   | (go_at_call 255;refine(HB.o w2 ((hT.below aa).below ac)).mono ?_;rintro e w3 ⟨rfl,ad⟩)
   | (go_at_call 255;refine(HA.o w1 (hT.below aa)).mono ?_;rintro e w2 ⟨rfl,ac⟩)
   | (go_at_call 194;refine(HC.o w hT).mono ?_;rintro e w1 ⟨rfl,aa⟩)
   | (go_at_call 256;refine HS.mono ?_;rintro e w0 ⟨rfl,rfl⟩))
  refine ig (v:=.tuple #[Sv (dt++(⟨#[84]⟩++a++⟨#[58]⟩++b++⟨#[58]⟩++c)++(⟨#[46]⟩++d)++⟨#[90]⟩),I6 0]) (by simp[results,results195,go_sem]) rfl ?_;have hb:=aa.trans (ac.mono aa.size);have af:=hb.trans (ad.mono hb.size);have ae:=af.trans (aj.mono af.size);refine⟨?_,ae.trans (ar.mono ae.size)⟩;rw[an.o,show(⟨#[90]⟩:BA)=⟨[90].toArray⟩ from rfl,show(⟨#[46]⟩:BA)=⟨[46].toArray⟩ from rfl,aq.o,bD,bD,bD,HT.o,f9 HZ.o];simp
theorem oR (n:Int) (m:Nat) (hm:m=n.natAbs) (hb:m<=999999999999999) (w:World):CP 278 #[I6 n] w λe w'=>e=.returned (I6 (m:Int))/\w=w':=by
 have w1:IntKind.i64.wrap (-n) = -n:=ip _ ga;have aa:max n (-n)=(m:Int):=ga
 clear hm hb;go_enter func278,ntmps278
 go_wp2;go_ret;exact⟨rfl,rfl⟩
theorem aFc (m s:Nat) (hs:1<=s) (t:BA) (ht:t=⟨(Lib.decDigits m).toArray⟩) (c:Nat) (hc:c=s+1-t.size) (z:BA) (hz:z=⟨(Lib.repeatL (⟨#[48]⟩:BA).data.toList c).toArray⟩) (u:BA) (hu:u=z++t) (p:Nat) (hp:p=u.size-s) :
 u.extract 0 p++⟨#[46]⟩++u.extract p u.size=⟨(iS m s).toArray⟩:=by
 have ab:t.size=(Lib.decDigits m).length:=by rw[ht,bE]
 have hr:Lib.repeatL (⟨#[48]⟩:BA).data.toList c=List.replicate c 48:=aCd 48 c;have aa:u=⟨(List.replicate c 48++Lib.decDigits m).toArray⟩:=by rw[hu,hz,ht,bD,hr]
 have ac:u.size=c+(Lib.decDigits m).length:=by rw[aa,bE];simp
 have ad:¬ s=0:=ga
 rw[iS,f9 ad,<-ab,<-hc,ab,<-ac,<-hp,aa,ByteArray.extract_mk,ByteArray.extract_mk,show(⟨#[46]⟩:BA)=⟨[46].toArray⟩ from rfl,bD,bD];congr 2;rw[ka];congr 1;rw[bE,mr ge];rfl
theorem iZ (n:Int) (s:Nat) (h1:n.natAbs<=999999999999999) (h2:s<=12) (w:World):CP 277 #[.agg #[I6 n,I6 (s:Int)]] w (Rt (I6 0) w):=by
 obtain⟨m,hm⟩:=xe n.natAbs
 have HA:=f8 (λw=>oR n m hm ga w);have k1:¬ (999999999999999:Int)<(m:Int):=ga
 have k2:¬ n < -999999999999999:=ga
 have k3:¬ (s:Int)<0:=ga
 have k4:¬ (12:Int)<(s:Int):=ga
 clear hm h1 h2;go_enter func277,ntmps277
 go_wp2_with (go_at_call 278;refine(HA.o _).mono ?_;rintro e w' ⟨rfl,rfl⟩)
 go_ret;exact⟨rfl,(bR w).alloc lr _⟩
theorem aDo (n:Int) (m s:Nat) (hm:m=n.natAbs) (ak:m<=999999999999999) (hs:s=0) (aa:0<=n) (w:World) (hT:Tabs w) :
 CP 253 #[.agg #[I6 n,I6 (s:Int)]] w (Rt (.tuple #[Sv ⟨(dB n s).toArray⟩,I6 0]) w):=by
 have ao:=f8 (iZ n s ga ga (w.alloc (.cells #[I6 n,I6 (s:Int)] 170)));have ap:=f8 (λw=>oR n m hm ga w);have ag:=bY m 15 ga gb;obtain⟨t,ht⟩:=xe (aE (m:Int):BA)
 have ad:t=⟨(Lib.decDigits m).toArray⟩:=by rw[ht];unfold aE;rw[Lib.itoa_nonneg]
 have ai:t.size=(Lib.decDigits m).length:=by rw[ad,bE]
 have hI:=λw hT=>(bM (m:Int) ⟨by omega,by omega⟩ w hT)
 rw[<-ht] at hI;obtain⟨HI,an,au⟩:=h_3 hI ad ai;have az:t.size<=15:=ga
 have ah:BB w (w.alloc (.cells #[I6 n,I6 (s:Int)] 170)):=(bR w).alloc lr _;have af:=f8 ah;have ar:=f8 (ib w (.cells #[I6 n,I6 (s:Int)] 170));have HC:=f8 (λ(w':World) (h:w'.heap[w.heap.size]?=some (.cells #[I6 n,I6 (s:Int)] 170))=>(show Ce w' w.heap.size 0 (I6 n)/\Ce w' w.heap.size 1 (I6 (s:Int)) from⟨aA h 0,aA h 1⟩));have av:¬ n<0:=ga
 have a0:¬ (0:Int)<(s:Int):=ga
 obtain⟨HM,a1,HS,ay⟩:=h_4 hm ak hs aa;clear hm ak hs aa hI ht ad ai ag ah;go_enter func253,ntmps253
 go_wp2_with (first
  | (fail)
  | (go_at_call 64;refine(HI.o w1 (hT.below (af.trans (ae.mono ge)))).mono ?_;rintro e w2 ⟨rfl,ab⟩;have aq:=f8 (aB ab aj.o);have al:=f8 ab;have aw:=HC.o w2 aq.o;clear ab)
  | (go_at_call 278;refine(ap.o _).mono ?_;rintro e w' ⟨rfl,rfl⟩)
  | (go_at_call 277;refine ao.mono ?_;rintro e w1 ⟨rfl,ac⟩;have aj:=f8 (aB ac ar.o);have ae:=f8 ac;have ax:=HC.o w1 aj.o;clear ac))
 refine ig (v:=.tuple #[Sv t,I6 0]) (by simp[results,results253,go_sem]) rfl ?_;refine⟨?_,(af.trans (ae.mono ge)).trans (al.mono (af.trans (ae.mono ge)).size)⟩;have am:=HS.o;subst am;rw[an.o];unfold dB iS;rw[<-HM.o,f9 ga];rfl
theorem aBw (n:Int) (m s:Nat) (hm:m=n.natAbs) (ak:m<=999999999999999) (hs:s=0) (aa:n<0) (w:World) (hT:Tabs w) :
 CP 253 #[.agg #[I6 n,I6 (s:Int)]] w (Rt (.tuple #[Sv ⟨(dB n s).toArray⟩,I6 0]) w):=by
 have ao:=f8 (iZ n s ga ga (w.alloc (.cells #[I6 n,I6 (s:Int)] 170)));have aq:=f8 (λw=>oR n m hm ga w);have ag:=bY m 15 ga gb;obtain⟨t,ht⟩:=xe (aE (m:Int):BA)
 have ad:t=⟨(Lib.decDigits m).toArray⟩:=by rw[ht];unfold aE;rw[Lib.itoa_nonneg]
 have ai:t.size=(Lib.decDigits m).length:=by rw[ad,bE]
 have hI:=λw hT=>(bM (m:Int) ⟨by omega,by omega⟩ w hT)
 rw[<-ht] at hI;obtain⟨HI,an,av⟩:=h_3 hI ad ai;have az:t.size<=15:=ga
 have ah:BB w (w.alloc (.cells #[I6 n,I6 (s:Int)] 170)):=(bR w).alloc lr _;have af:=f8 ah;have au:=f8 (ib w (.cells #[I6 n,I6 (s:Int)] 170));have HC:=f8 (λ(w':World) (h:w'.heap[w.heap.size]?=some (.cells #[I6 n,I6 (s:Int)] 170))=>(show Ce w' w.heap.size 0 (I6 n)/\Ce w' w.heap.size 1 (I6 (s:Int)) from⟨aA h 0,aA h 1⟩));have ap:n<0:=ga
 have a0:¬ (0:Int)<(s:Int):=ga
 obtain⟨HM,a1,HS,ay⟩:=h_4 hm ak hs aa;clear hm ak hs aa hI ht ad ai ag ah;go_enter func253,ntmps253
 go_wp2_with (first
  | (fail)
  | (go_at_call 64;refine(HI.o w1 (hT.below (af.trans (ae.mono ge)))).mono ?_;rintro e w2 ⟨rfl,ab⟩;have ar:=f8 (aB ab aj.o);have al:=f8 ab;have aw:=HC.o w2 ar.o;clear ab)
  | (go_at_call 278;refine(aq.o _).mono ?_;rintro e w' ⟨rfl,rfl⟩)
  | (go_at_call 277;refine ao.mono ?_;rintro e w1 ⟨rfl,ac⟩;have aj:=f8 (aB ac au.o);have ae:=f8 ac;have ax:=HC.o w1 aj.o;clear ac))
 refine ig (v:=.tuple #[Sv (⟨#[45]⟩++t),I6 0]) (by simp[results,results253,go_sem]) rfl ?_;refine⟨?_,(af.trans (ae.mono ge)).trans (al.mono (af.trans (ae.mono ge)).size)⟩;have am:=HS.o;subst am;rw[an.o];unfold dB iS;rw[<-HM.o,gw ap];rw[show(⟨#[45]⟩:BA)=⟨[45].toArray⟩ from rfl,bD];rfl
theorem aDp (n:Int) (m s:Nat) (hm:m=n.natAbs) (an:m<=999999999999999) (hs:1<=s/\s<=12) (aa:0<=n) (w:World) (hT:Tabs w) :
 CP 253 #[.agg #[I6 n,I6 (s:Int)]] w (Rt (.tuple #[Sv ⟨(dB n s).toArray⟩,I6 0]) w):=by
 have av:=f8 (iZ n s ga ga (w.alloc (.cells #[I6 n,I6 (s:Int)] 170)));have aw:=f8 (λw=>oR n m hm ga w);have af:=bY m 15 ga gb;obtain⟨t,ht⟩:=xe (aE (m:Int):BA)
 have ae:t=⟨(Lib.decDigits m).toArray⟩:=by rw[ht];unfold aE;rw[Lib.itoa_nonneg]
 have al:t.size=(Lib.decDigits m).length:=by rw[ae,bE]
 have hI:=λw hT=>(bM (m:Int) ⟨by omega,by omega⟩ w hT)
 rw[<-ht] at hI;obtain⟨HI,au,a0⟩:=h_3 hI ae al;have bc:t.size<=15:=ga
 have ag:BB w (w.alloc (.cells #[I6 n,I6 (s:Int)] 170)):=(bR w).alloc lr _;have ao:=f8 ag;have ay:=f8 (ib w (.cells #[I6 n,I6 (s:Int)] 170));have HC:=f8 (λ(w':World) (h:w'.heap[w.heap.size]?=some (.cells #[I6 n,I6 (s:Int)] 170))=>(show Ce w' w.heap.size 0 (I6 n)/\Ce w' w.heap.size 1 (I6 (s:Int)) from⟨aA h 0,aA h 1⟩));have a3:¬ n<0:=ga
 have bf:(0:Int)<(s:Int):=ga
 obtain⟨HM,bb,HS,ba⟩:=h_4 hm an hs aa;clear hm an hs aa hI ht ae al af ag;obtain⟨c,hc⟩:=xe (s+1-t.size:Nat)
 have bd:IntKind.i64.wrap ((s:Int)+1)=(s:Int)+1:=ip _ (by have:=HS.o;omega);have a2:IntKind.i64.wrap ((s:Int)+1-(t.size:Int))=(s:Int)+1-(t.size:Int):=ip _ (by have:=HS.o;omega);have aq:max 0 ((s:Int)+1-(t.size:Int))=(c:Int):=ga
 have a1:c<=13:=by have:=HS.o;omega
 obtain⟨z,hz⟩:=xe (⟨(Lib.repeatL (⟨#[48]⟩:BA).data.toList c).toArray⟩:BA)
 have hR:=λw=>Tryz.strings_Repeat ⟨#[48]⟩ c w ga (by have:(⟨#[48]⟩:BA).size=1:=rfl;rw[this];omega);rw[<-hz] at hR;have HR:=f8 hR;have a7:z.size=c:=by rw[hz,bE,Lib.repeatL_length];simp
 have hg:z.size+t.size<=9223372036854775807:=ga
 have HZ:=f8 hz;obtain⟨u,hu⟩:=xe (z++t:BA)
 have ax:u.size=z.size+t.size:=by rw[hu];simp
 have be:s+1<=u.size/\u.size<=28:=ga
 obtain⟨HU,a5⟩:=h_2 hu hc;obtain⟨p,hp⟩:=xe (u.size-s:Nat)
 have wp:IntKind.i64.wrap ((u.size:Int)-(s:Int))=(p:Int):=by rw[ip _ ga];omega
 have p0:(0:Int)<=(p:Int):=ga
 have p1:(p:Int)<=(u.size:Int):=ga
 have p2:p<=u.size:=ga
 obtain⟨x1,ah⟩:∃x,u.extract 0 p=x:=⟨_,rfl⟩
 obtain⟨x2,ap⟩:∃x,u.extract p u.size=x:=⟨_,rfl⟩
 have z1:x1.size<=28:=by rw[<-ah,k9];omega
 have z2:x2.size<=28:=by rw[<-ap,k9];omega
 have g1:x1.size+1<=9223372036854775807:=ga
 have g2:x1.size+1+x2.size<=9223372036854775807:=ga
 have g3:1+(x1.size+1+x2.size)<=9223372036854775807:=ga
 have e1:(9223372036854775807<x1.size+1)=False:=eq_false ga;have e2:(9223372036854775807<x1.size+1+x2.size)=False:=eq_false ga;have HG:=f8 (show x1++⟨#[46]⟩++x2=⟨(iS m s).toArray⟩ by rw[<-ah,<-ap];exact aFc m s (by have:=HS.o;omega) t au.o c hc z hz u hu p hp);clear hR hz hc hu hp z1 z2 ax;go_enter func253,ntmps253
 go_upto_region 7 with (first
  | (go_at_call 69;refine(HR.o _).mono ?_;rintro e w3 ⟨rfl,ad⟩;have ai:=f8 (aB ad aj.o);have az:=f8 ad;have a6:=HC.o w3 ai.o;clear ad)
  | (go_at_call 64;refine(HI.o w1 (hT.below (ao.trans (ak.mono ge)))).mono ?_;rintro e w2 ⟨rfl,ab⟩;have aj:=f8 (aB ab am.o);have ar:=f8 ab;have a4:=HC.o w2 aj.o;clear ab)
  | (go_at_call 278;refine(aw.o _).mono ?_;rintro e w' ⟨rfl,rfl⟩)
  | (go_at_call 277;refine av.mono ?_;rintro e w1 ⟨rfl,ac⟩;have am:=f8 (aB ac ay.o);have ak:=f8 ac;have a9:=HC.o w1 am.o;clear ac))
 rw[<-HU.o];refine aP 16 (λw'=>w'.heap[w.heap.size]?=some (.cells #[I6 n,I6 (s:Int)] 170)) gd gd gd gb (ai.o) (λhS=>?_);simp only[zdm,zdn,zdp,zdq];refine tC 0 HC ?_;refine tC 1 HC ?_;refine tC 2 HC ?_;refine tC 3 HC ?_;refine tC 4 HC ?_;refine tC 5 HC ?_;refine tC 6 HC ?_;refine tC 7 HC ?_;refine tC 8 HC ?_;refine tC 9 HC ?_;refine tC 10 HC ?_;refine tC 11 HC ?_;refine tC 12 HC ?_;refine tC 13 HC ?_;refine tC 14 HC ?_;refine tC 15 HC ?_;refine iq gd ?_ _
 (try dsimp only)
 have bg:=f8 hS;have a8:=HC.o _ hS;clear hS;go_wp2;refine ig (v:=.tuple #[Sv (x1++⟨#[46]⟩++x2),I6 0]) (by simp[results,results253,go_sem]) rfl ?_;have b1:=ao.trans (ak.mono ge);have b2:=b1.trans (ar.mono b1.size);have b3:=b2.trans (az.mono b2.size);refine⟨?_,b3.drew⟩;rw[HG.o];unfold dB;rw[<-HM.o,f9 ga]
 skip
theorem aBx (n:Int) (m s:Nat) (hm:m=n.natAbs) (an:m<=999999999999999) (hs:1<=s/\s<=12) (aa:n<0) (w:World) (hT:Tabs w) :
 CP 253 #[.agg #[I6 n,I6 (s:Int)]] w (Rt (.tuple #[Sv ⟨(dB n s).toArray⟩,I6 0]) w):=by
 have av:=f8 (iZ n s ga ga (w.alloc (.cells #[I6 n,I6 (s:Int)] 170)));have ax:=f8 (λw=>oR n m hm ga w);have af:=bY m 15 ga gb;obtain⟨t,ht⟩:=xe (aE (m:Int):BA)
 have ae:t=⟨(Lib.decDigits m).toArray⟩:=by rw[ht];unfold aE;rw[Lib.itoa_nonneg]
 have al:t.size=(Lib.decDigits m).length:=by rw[ae,bE]
 have hI:=λw hT=>(bM (m:Int) ⟨by omega,by omega⟩ w hT)
 rw[<-ht] at hI;obtain⟨HI,au,a1⟩:=h_3 hI ae al;have bc:t.size<=15:=ga
 have ag:BB w (w.alloc (.cells #[I6 n,I6 (s:Int)] 170)):=(bR w).alloc lr _;have ao:=f8 ag;have az:=f8 (ib w (.cells #[I6 n,I6 (s:Int)] 170));have HC:=f8 (λ(w':World) (h:w'.heap[w.heap.size]?=some (.cells #[I6 n,I6 (s:Int)] 170))=>(show Ce w' w.heap.size 0 (I6 n)/\Ce w' w.heap.size 1 (I6 (s:Int)) from⟨aA h 0,aA h 1⟩));have aw:n<0:=ga
 have bf:(0:Int)<(s:Int):=ga
 obtain⟨HM,bb,HS,ba⟩:=h_4 hm an hs aa;clear hm an hs aa hI ht ae al af ag;obtain⟨c,hc⟩:=xe (s+1-t.size:Nat)
 have bd:IntKind.i64.wrap ((s:Int)+1)=(s:Int)+1:=ip _ (by have:=HS.o;omega);have a3:IntKind.i64.wrap ((s:Int)+1-(t.size:Int))=(s:Int)+1-(t.size:Int):=ip _ (by have:=HS.o;omega);have aq:max 0 ((s:Int)+1-(t.size:Int))=(c:Int):=ga
 have a2:c<=13:=by have:=HS.o;omega
 obtain⟨z,hz⟩:=xe (⟨(Lib.repeatL (⟨#[48]⟩:BA).data.toList c).toArray⟩:BA)
 have hR:=λw=>Tryz.strings_Repeat ⟨#[48]⟩ c w ga (by have:(⟨#[48]⟩:BA).size=1:=rfl;rw[this];omega);rw[<-hz] at hR;have HR:=f8 hR;have a7:z.size=c:=by rw[hz,bE,Lib.repeatL_length];simp
 have hg:z.size+t.size<=9223372036854775807:=ga
 have HZ:=f8 hz;obtain⟨u,hu⟩:=xe (z++t:BA)
 have ay:u.size=z.size+t.size:=by rw[hu];simp
 have be:s+1<=u.size/\u.size<=28:=ga
 obtain⟨HU,a5⟩:=h_2 hu hc;obtain⟨p,hp⟩:=xe (u.size-s:Nat)
 have wp:IntKind.i64.wrap ((u.size:Int)-(s:Int))=(p:Int):=by rw[ip _ ga];omega
 have p0:(0:Int)<=(p:Int):=ga
 have p1:(p:Int)<=(u.size:Int):=ga
 have p2:p<=u.size:=ga
 obtain⟨x1,ah⟩:∃x,u.extract 0 p=x:=⟨_,rfl⟩
 obtain⟨x2,ap⟩:∃x,u.extract p u.size=x:=⟨_,rfl⟩
 have z1:x1.size<=28:=by rw[<-ah,k9];omega
 have z2:x2.size<=28:=by rw[<-ap,k9];omega
 have g1:x1.size+1<=9223372036854775807:=ga
 have g2:x1.size+1+x2.size<=9223372036854775807:=ga
 have g3:1+(x1.size+1+x2.size)<=9223372036854775807:=ga
 have e1:(9223372036854775807<x1.size+1)=False:=eq_false ga;have e2:(9223372036854775807<x1.size+1+x2.size)=False:=eq_false ga;have HG:=f8 (show x1++⟨#[46]⟩++x2=⟨(iS m s).toArray⟩ by rw[<-ah,<-ap];exact aFc m s (by have:=HS.o;omega) t au.o c hc z hz u hu p hp);clear hR hz hc hu hp z1 z2 ay;go_enter func253,ntmps253
 go_upto_region 7 with (first
  | (go_at_call 69;refine(HR.o _).mono ?_;rintro e w3 ⟨rfl,ad⟩;have ai:=f8 (aB ad aj.o);have a0:=f8 ad;have a6:=HC.o w3 ai.o;clear ad)
  | (go_at_call 64;refine(HI.o w1 (hT.below (ao.trans (ak.mono ge)))).mono ?_;rintro e w2 ⟨rfl,ab⟩;have aj:=f8 (aB ab am.o);have ar:=f8 ab;have a4:=HC.o w2 aj.o;clear ab)
  | (go_at_call 278;refine(ax.o _).mono ?_;rintro e w' ⟨rfl,rfl⟩)
  | (go_at_call 277;refine av.mono ?_;rintro e w1 ⟨rfl,ac⟩;have am:=f8 (aB ac az.o);have ak:=f8 ac;have a9:=HC.o w1 am.o;clear ac))
 rw[<-HU.o];refine aP 16 (λw'=>w'.heap[w.heap.size]?=some (.cells #[I6 n,I6 (s:Int)] 170)) gd gd gd gb (ai.o) (λhS=>?_);simp only[zdm,zdn,zdp,zdq];refine tC 0 HC ?_;refine tC 1 HC ?_;refine tC 2 HC ?_;refine tC 3 HC ?_;refine tC 4 HC ?_;refine tC 5 HC ?_;refine tC 6 HC ?_;refine tC 7 HC ?_;refine tC 8 HC ?_;refine tC 9 HC ?_;refine tC 10 HC ?_;refine tC 11 HC ?_;refine tC 12 HC ?_;refine tC 13 HC ?_;refine tC 14 HC ?_;refine tC 15 HC ?_;refine iq gd ?_ _
 (try dsimp only)
 have bg:=f8 hS;have a8:=HC.o _ hS;clear hS;go_wp2;refine ig (v:=.tuple #[Sv (⟨#[45]⟩++(x1++⟨#[46]⟩++x2)),I6 0]) (by simp[results,results253,go_sem]) rfl ?_;have b1:=ao.trans (ak.mono ge);have b2:=b1.trans (ar.mono b1.size);have b3:=b2.trans (a0.mono b2.size);refine⟨?_,b3.drew⟩;rw[HG.o];unfold dB;rw[<-HM.o,gw aw];rw[show(⟨#[45]⟩:BA)=⟨[45].toArray⟩ from rfl,bD];rfl
theorem vP (n:Int) (s:Nat) (h1:n.natAbs<=999999999999999) (h2:s<=12) (w:World) (hT:Tabs w) :
 CP 253 #[.agg #[I6 n,I6 (s:Int)]] w (Rt (.tuple #[Sv ⟨(dB n s).toArray⟩,I6 0]) w):=by
 by_cases hs:s=0<;>by_cases hn:n<0
 ·exact aBw n _ s rfl h1 hs hn w hT
 ·exact aDo n _ s rfl h1 hs ga w hT
 ·exact aBx n _ s rfl h1 ga hn w hT
 ·exact aDp n _ s rfl h1 ga ga w hT
def aMs:List UInt8:=[115,110,97,112,115,104,111,116,46]
def qH (v:Nat):BA:=⟨(aMs++dO v 6).toArray⟩
theorem aDv (v:Nat):(qH v).data.toList=aMs++dO v 6:=by unfold qH;simp
end Go.Proofs.YtoodnaghjpkjfaaGreatDoor
