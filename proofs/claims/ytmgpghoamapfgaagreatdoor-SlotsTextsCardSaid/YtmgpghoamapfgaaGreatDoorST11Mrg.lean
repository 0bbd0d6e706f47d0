/- A part. -/
import Derived.Test.YtmgpghoamapfgaaGreatDoorST6Mrg
import Derived.Lib.MinMax
import Derived.Lib.Repeat
namespace Go.Proofs.YtmgpghoamapfgaaGreatDoor
set_option linter.unusedVariables false
set_option maxRecDepth 100000
set_option maxHeartbeats 16000000
set_option linter.unusedSimpArgs false
section
open Go Go.RowKit
def inB (n lo hi:Int):Bool:=decide (lo<=n)&&decide (n<=hi)
theorem vG (n lo hi:Int) (w:World):CP 271 #[I6 n,I6 lo,I6 hi] w fun e w'=>e=.returned (.bool (inB n lo hi))/\w=w':=by
 go_enter Tryz.func271,Tryz.ntmps271
 by_cases h1:lo<=n<;>by_cases h2:n<=hi
 all_goals go_wp2
 all_goals go_ret
 all_goals exact⟨by simp[inB, *],rfl⟩
theorem vH {n lo hi:Int} (h1:lo<=n) (h2:n<=hi):inB n lo hi=true:=by simp[inB, *]
theorem aK4 (y:Nat) (h1:1<=y) (h2:y<=9999) (w:World):CP 321 #[I6 y] w fun e w'=>e=.returned (.bool (sM y))/\w=w':=by
 have HI:=hid (fun w=>(vG y 1 9999 w).mono (R':=fun e w'=>e=.returned (.bool true)/\w=w') (fun e w' h=>⟨h.1.trans (by rw[vH ga ga]),h.2⟩));have e4:(y:Int).tmod 4=((y % 4:Nat):Int):=by rw[Int.tmod_eq_emod_of_nonneg ga];omega
 have e100:(y:Int).tmod 100=((y % 100:Nat):Int):=by rw[Int.tmod_eq_emod_of_nonneg ga];omega
 have e400:(y:Int).tmod 400=((y % 400:Nat):Int):=by rw[Int.tmod_eq_emod_of_nonneg ga];omega
 obtain⟨r4,hr4⟩:=ez (((y % 4:Nat):Int):Int)
 obtain⟨r100,hr100⟩:=ez (((y % 100:Nat):Int):Int)
 obtain⟨r400,hr400⟩:=ez (((y % 400:Nat):Int):Int)
 have HL:Hid (sM y=((r4==0)&&(!(r100==0)||(r400==0)))):=hid (by
  unfold sM;rw[show(r4==0)=(y % 4==0) by rw[hr4,Bool.eq_iff_iff];simp;omega,show(r100==0)=(y % 100==0) by rw[hr100,Bool.eq_iff_iff];simp;omega,show(r400==0)=(y % 400==0) by rw[hr400,Bool.eq_iff_iff];simp;omega])
 rw[<-hr4] at e4;rw[<-hr100] at e100;rw[<-hr400] at e400;have w4:IntKind.i64.wrap r4=r4:=IntWalk.i64_in _ ga;have w100:IntKind.i64.wrap r100=r100:=IntWalk.i64_in _ ga;have w400:IntKind.i64.wrap r400=r400:=IntWalk.i64_in _ ga;obtain⟨p4,hp4⟩:∃p,(r4==0)=p:=⟨_,rfl⟩
 obtain⟨p100,hp100⟩:∃p,(r100==0)=p:=⟨_,rfl⟩
 obtain⟨p400,hp400⟩:∃p,(r400==0)=p:=⟨_,rfl⟩
 rw[hp4,hp100,hp400] at HL;have n100:(r100 != 0) = !p100:=by rw[bne,hp100]
 clear hr4 hr100 hr400;go_enter Tryz.func321,Tryz.ntmps321
 cases p4<;>cases p100<;>cases p400
 all_goals go_wp2_with (go_at_call 271;refine(HI.out _).mono ?_;rintro e w' ⟨rfl,rfl⟩)
 all_goals go_ret
 all_goals exact⟨by rw[HL.out];rfl,rfl⟩
theorem sS (y:Nat) (h1:1<=y) (h2:y<=10000) (w:World):CP 272 #[I6 y] w fun e w'=>e=.returned (I6 (eA y))/\w=w':=by
 obtain⟨x,hx⟩:=ez (((y-1:Nat):Int):Int)
 obtain⟨a,ha⟩:=ez ((((y-1) / 4:Nat):Int):Int)
 obtain⟨b,hb⟩:=ez ((((y-1) / 100:Nat):Int):Int)
 obtain⟨c,hc⟩:=ez ((((y-1) / 400:Nat):Int):Int)
 have e0:(y:Int)-1=x:=by omega
 have e4:x.tdiv 4=a:=by rw[Int.tdiv_eq_ediv_of_nonneg ga];omega
 have e100:x.tdiv 100=b:=by rw[Int.tdiv_eq_ediv_of_nonneg ga];omega
 have e400:x.tdiv 400=c:=by rw[Int.tdiv_eq_ediv_of_nonneg ga];omega
 have hle:(y-1) / 100<=(y-1) / 4:=Nat.div_le_div_left gc gc;have HR:Hid (((eA y:Nat):Int)=365 * x+a-b+c):=hid (by unfold eA;omega);have hx':0<=x/\x<=9999:=by omega
 have ha':0<=a/\a<=9999:=by omega
 have hb':0<=b/\b<=9999:=by omega
 have hc':0<=c/\c<=9999:=by omega
 clear hx ha hb hc hle;have w0:IntKind.i64.wrap x=x:=IntWalk.i64_in _ ga;have w1:IntKind.i64.wrap (365 * x)=365 * x:=IntWalk.i64_in _ ga;have w2:IntKind.i64.wrap a=a:=IntWalk.i64_in _ ga;have w3:IntKind.i64.wrap (365 * x+a)=365 * x+a:=IntWalk.i64_in _ ga;have w4:IntKind.i64.wrap b=b:=IntWalk.i64_in _ ga;have w5:IntKind.i64.wrap (365 * x+a-b)=365 * x+a-b:=IntWalk.i64_in _ ga;have w6:IntKind.i64.wrap c=c:=IntWalk.i64_in _ ga;have w7:IntKind.i64.wrap (365 * x+a-b+c)=365 * x+a-b+c:=IntWalk.i64_in _ ga;clear hx' ha' hb' hc'
 go_enter Tryz.func272,Tryz.ntmps272
 go_wp2;go_ret;exact⟨retI HR.out.symm,rfl⟩
theorem mon0 (w:World):(Instr.index 331 (.agg #[I6 31,I6 28,I6 31,I6 30,I6 31,I6 30,I6 31,I6 31,I6 30,I6 31,I6 30,I6 31]) (I6 0)).run Tryz.prog w=.ok (I6 31) w:=by
 simp[Instr.index,run_underlying Tryz.underlying331,asIntOf,part,go_sem]
theorem mon1 (w:World):(Instr.index 331 (.agg #[I6 31,I6 28,I6 31,I6 30,I6 31,I6 30,I6 31,I6 31,I6 30,I6 31,I6 30,I6 31]) (I6 1)).run Tryz.prog w=.ok (I6 28) w:=by
 simp[Instr.index,run_underlying Tryz.underlying331,asIntOf,part,go_sem]
theorem mon2 (w:World):(Instr.index 331 (.agg #[I6 31,I6 28,I6 31,I6 30,I6 31,I6 30,I6 31,I6 31,I6 30,I6 31,I6 30,I6 31]) (I6 2)).run Tryz.prog w=.ok (I6 31) w:=by
 simp[Instr.index,run_underlying Tryz.underlying331,asIntOf,part,go_sem]
theorem mon3 (w:World):(Instr.index 331 (.agg #[I6 31,I6 28,I6 31,I6 30,I6 31,I6 30,I6 31,I6 31,I6 30,I6 31,I6 30,I6 31]) (I6 3)).run Tryz.prog w=.ok (I6 30) w:=by
 simp[Instr.index,run_underlying Tryz.underlying331,asIntOf,part,go_sem]
theorem mon4 (w:World):(Instr.index 331 (.agg #[I6 31,I6 28,I6 31,I6 30,I6 31,I6 30,I6 31,I6 31,I6 30,I6 31,I6 30,I6 31]) (I6 4)).run Tryz.prog w=.ok (I6 31) w:=by
 simp[Instr.index,run_underlying Tryz.underlying331,asIntOf,part,go_sem]
theorem mon5 (w:World):(Instr.index 331 (.agg #[I6 31,I6 28,I6 31,I6 30,I6 31,I6 30,I6 31,I6 31,I6 30,I6 31,I6 30,I6 31]) (I6 5)).run Tryz.prog w=.ok (I6 30) w:=by
 simp[Instr.index,run_underlying Tryz.underlying331,asIntOf,part,go_sem]
theorem mon6 (w:World):(Instr.index 331 (.agg #[I6 31,I6 28,I6 31,I6 30,I6 31,I6 30,I6 31,I6 31,I6 30,I6 31,I6 30,I6 31]) (I6 6)).run Tryz.prog w=.ok (I6 31) w:=by
 simp[Instr.index,run_underlying Tryz.underlying331,asIntOf,part,go_sem]
theorem mon7 (w:World):(Instr.index 331 (.agg #[I6 31,I6 28,I6 31,I6 30,I6 31,I6 30,I6 31,I6 31,I6 30,I6 31,I6 30,I6 31]) (I6 7)).run Tryz.prog w=.ok (I6 31) w:=by
 simp[Instr.index,run_underlying Tryz.underlying331,asIntOf,part,go_sem]
theorem mon8 (w:World):(Instr.index 331 (.agg #[I6 31,I6 28,I6 31,I6 30,I6 31,I6 30,I6 31,I6 31,I6 30,I6 31,I6 30,I6 31]) (I6 8)).run Tryz.prog w=.ok (I6 30) w:=by
 simp[Instr.index,run_underlying Tryz.underlying331,asIntOf,part,go_sem]
theorem mon9 (w:World):(Instr.index 331 (.agg #[I6 31,I6 28,I6 31,I6 30,I6 31,I6 30,I6 31,I6 31,I6 30,I6 31,I6 30,I6 31]) (I6 9)).run Tryz.prog w=.ok (I6 31) w:=by
 simp[Instr.index,run_underlying Tryz.underlying331,asIntOf,part,go_sem]
theorem mon10 (w:World):(Instr.index 331 (.agg #[I6 31,I6 28,I6 31,I6 30,I6 31,I6 30,I6 31,I6 31,I6 30,I6 31,I6 30,I6 31]) (I6 10)).run Tryz.prog w=.ok (I6 30) w:=by
 simp[Instr.index,run_underlying Tryz.underlying331,asIntOf,part,go_sem]
theorem mon11 (w:World):(Instr.index 331 (.agg #[I6 31,I6 28,I6 31,I6 30,I6 31,I6 30,I6 31,I6 31,I6 30,I6 31,I6 30,I6 31]) (I6 11)).run Tryz.prog w=.ok (I6 31) w:=by
 simp[Instr.index,run_underlying Tryz.underlying331,asIntOf,part,go_sem]
theorem pD (y m:Nat) (h1:1<=y) (h2:y<=9999) (h3:1<=m) (h4:m<=12) (w:World):CP 273 #[I6 y,I6 m] w fun e w'=>e=.returned (I6 (bE y m))/\w=w':=by
 have HL:=hid (aK4 y h1 h2);obtain⟨p,hp⟩:∃p,sM y=p:=⟨_,rfl⟩
 rw[hp] at HL;have HP:=hid hp;clear hp;have:m=1\/m=2\/m=3\/m=4\/m=5\/m=6\/m=7\/m=8\/m=9\/m=10\/m=11\/m=12:=by omega
 clear h3 h4;rcases this with rfl | rfl | rfl | rfl | rfl | rfl | rfl | rfl | rfl | rfl | rfl | rfl
 ·have hm:=mon0;go_enter Tryz.func273,Tryz.ntmps273
  go_wp2;go_ret;exact⟨retI (by simp[bE,pC]),rfl⟩
 ·cases p
  all_goals have hm:=mon1
  all_goals go_enter Tryz.func273,Tryz.ntmps273
  all_goals go_wp2_with (go_at_call 321;refine(HL.out _).mono ?_;rintro e w' ⟨rfl,rfl⟩)
  all_goals go_ret
  all_goals exact⟨retI (by simp[bE,pC,HP.out]),rfl⟩
 ·have hm:=mon2;go_enter Tryz.func273,Tryz.ntmps273
  go_wp2;go_ret;exact⟨retI (by simp[bE,pC]),rfl⟩
 ·have hm:=mon3;go_enter Tryz.func273,Tryz.ntmps273
  go_wp2;go_ret;exact⟨retI (by simp[bE,pC]),rfl⟩
 ·have hm:=mon4;go_enter Tryz.func273,Tryz.ntmps273
  go_wp2;go_ret;exact⟨retI (by simp[bE,pC]),rfl⟩
 ·have hm:=mon5;go_enter Tryz.func273,Tryz.ntmps273
  go_wp2;go_ret;exact⟨retI (by simp[bE,pC]),rfl⟩
 ·have hm:=mon6;go_enter Tryz.func273,Tryz.ntmps273
  go_wp2;go_ret;exact⟨retI (by simp[bE,pC]),rfl⟩
 ·have hm:=mon7;go_enter Tryz.func273,Tryz.ntmps273
  go_wp2;go_ret;exact⟨retI (by simp[bE,pC]),rfl⟩
 ·have hm:=mon8;go_enter Tryz.func273,Tryz.ntmps273
  go_wp2;go_ret;exact⟨retI (by simp[bE,pC]),rfl⟩
 ·have hm:=mon9;go_enter Tryz.func273,Tryz.ntmps273
  go_wp2;go_ret;exact⟨retI (by simp[bE,pC]),rfl⟩
 ·have hm:=mon10;go_enter Tryz.func273,Tryz.ntmps273
  go_wp2;go_ret;exact⟨retI (by simp[bE,pC]),rfl⟩
 ·have hm:=mon11;go_enter Tryz.func273,Tryz.ntmps273
  go_wp2;go_ret;exact⟨retI (by simp[bE,pC]),rfl⟩
theorem aHn (d:Int) (n:Nat) (hd:d+719162=n) (hn:n<=3652058) (w:World):CP 220 #[I6 d] w fun e w'=>e=.returned (.tuple #[I6 (iF n),I6 (tA n),I6 (tB n),I6 0])/\w=w':=by
 have HI:=hid (fun w=>(vG d (-719162) 2932896 w).mono (R':=fun e w'=>e=.returned (.bool true)/\w=w') (fun e w' h=>⟨h.1.trans (by rw[vH ga ga]),h.2⟩));obtain⟨s0,hs0⟩:=ez (rB n)
 have hs1:=xY n;rw[<-hs0] at hs1;have HST:=hid (show n<eA (s0+1) by rw[hs0];exact wP n hn);have HCY:=hid (show eJ n s0=iF n by rw[hs0];rfl);obtain⟨q,hq⟩:=ez (((n / 365:Nat):Int):Int)
 have e365:(n:Int).tdiv 365=q:=by rw[Int.tdiv_eq_ediv_of_nonneg ga];omega
 have wq:IntKind.i64.wrap q=q:=IntWalk.i64_in _ ga;have wq1:IntKind.i64.wrap (q+1)=q+1:=IntWalk.i64_in _ ga;have emin:min (q+1) 9999=(s0:Int):=by rw[hs0];unfold rB;omega
 have wn:IntKind.i64.wrap (n:Int)=n:=IntWalk.i64_in _ ga;have HS1:=hid hs1;have HN:=hid hn;clear hs0 hq hs1 hn;go_enter Tryz.func220,Tryz.ntmps220
 go_wp2_with (go_at_call 271;refine(HI.out _).mono ?_;rintro e w' ⟨rfl,rfl⟩)
 go_loopw [2] (fun y wr=>∃k:Nat,wr=w/\y=I6 k/\1<=k/\k<=9999/\eJ n k=iF n/\n<eA (k+1)) (fun y _=>(intOf y).toNat)
 case atStart=>exact⟨s0,rfl,rfl,HS1.out.1,HS1.out.2,HCY.out,HST.out⟩
 case round =>
  obtain⟨k,rfl,rfl,hk1,hk2,hky,hkb⟩:=hrel;obtain⟨wl,rfl⟩:=ez (wr:World)
  have HB:=hid (sS k hk1 ga);by_cases hlt:n<eA k
  ·have hlt':(n:Int)<(eA k:Int):=by omega
   have hk3:2<=k:=by
    rcases Nat.lt_or_ge k 2 with h | h
    ·obtain rfl:k=1:=by omega
     rw[wQ] at hlt;omega
    ·exact h
   have wk:IntKind.i64.wrap ((k:Int)-1)=(k:Int)-1:=IntWalk.i64_in _ ga;have HK:=hid (show eJ n (k-1)=iF n by rw[aCh n k hlt hk1];exact hky);have HK2:=hid (show n<eA (k-1+1) by rw[show k-1+1=k by omega];exact hlt);have HKK:=hid (And.intro hk2 hk3);clear hky hkb hlt hk1 hk2 hk3;go_wp2_with (go_at_call 272;refine(HB.out _).mono ?_;rintro e w' ⟨rfl,rfl⟩)
   go_roundw
   case rel=>exact⟨k-1,trivial,by rw[show((k-1:Nat):Int)=(k:Int)-1 by have:=HKK.out;omega],by have:=HKK.out;omega,by have:=HKK.out;omega,HK.out,HK2.out⟩
   case measure=>have:=HKK.out;simp[intOf];omega
  ·have hlt':¬ (n:Int)<(eA k:Int):=by omega
   have hky':k=iF n:=by rw[<-hky,aCg n k hlt hk1]
   have hsum:n-eA k<aZ k 12 1:=by have:=pN k hk1;omega
   obtain⟨r0,hr0⟩:=ez (n-eA k)
   have er0:(n:Int)-(eA k:Int)=r0:=by omega
   have wr0:IntKind.i64.wrap (r0:Int)=r0:=IntWalk.i64_in _ (by have:=HN.out;omega);have HMD:=hid (show cA k 12 1 r0=sQ n by rw[hr0];unfold sQ;rw[<-hky']);have HSM:=hid (show r0<aZ k 12 1 by rw[hr0];exact hsum);have HRN:=hid (show r0<=3652058 by have:=HN.out;omega);have HKY:=hid hky';have HMC:=hid (fun (m:Nat) (h1:1<=m) (h2:m<=12)=>pD k m hk1 hk2 h1 h2);clear hky hkb hlt hk1 hk2 hky' hsum hr0;go_wp2_with (go_at_call 272;refine(HB.out _).mono ?_;rintro e w' ⟨rfl,rfl⟩)
   go_loopw [3,6] (fun mm rr ws=>∃(m f r:Nat),ws=wl/\mm=I6 m/\rr=I6 r/\m+f=13/\1<=m/\r<=3652058/\r<aZ k f m/\cA k f m r=sQ n) (fun mm _ _=>13-(intOf mm).toNat)
   case atStart=>exact⟨1,12,r0,rfl,rfl,rfl,rfl,by decide,HRN.out,HSM.out,HMD.out⟩
   case round =>
    obtain⟨m,f,r,rfl,rfl,rfl,hmf,hm1,hrn,hrs,hmd⟩:=hrel;obtain⟨g,rfl⟩:∃g,f=g+1:=by
     rcases f with _ | g
     ·simp[aZ] at hrs
     ·exact⟨g,rfl⟩
    have HM:=hid (HMC.out m hm1 ga);by_cases hle:bE k m<=r
    ·have hle':(bE k m:Int)<=(r:Int):=by omega
     have e1:(r:Int)-(bE k m:Int)=((r-bE k m:Nat):Int):=by omega
     have w1:IntKind.i64.wrap ((r-bE k m:Nat):Int)=((r-bE k m:Nat):Int):=IntWalk.i64_in _ ga;have w2:IntKind.i64.wrap ((m:Int)+1)=(m:Int)+1:=IntWalk.i64_in _ ga;have HS:=hid (show r-bE k m<aZ k g (m+1) by simp only[aZ] at hrs;omega);have HG:=hid (show cA k g (m+1) (r-bE k m)=sQ n by rw[<-hmd];simp only[cA,hle,if_true]);have HF:=hid (And.intro hmf (And.intro hm1 hrn));clear hmf hm1 hrn hrs hmd hle;go_wp2_with (go_at_call 273;refine(HM.out _).mono ?_;rintro e w' ⟨rfl,rfl⟩)
     go_roundw
     case rel=>exact⟨m+1,g,r-bE k m,trivial,by go_num,rfl,by have:=HF.out;omega,by omega,by have:=HF.out;omega,HS.out,HG.out⟩
     case measure=>have:=HF.out;simp[intOf];omega
    ·have hle':¬ (bE k m:Int)<=(r:Int):=by omega
     have w2:IntKind.i64.wrap ((r:Int)+1)=(r:Int)+1:=IntWalk.i64_in _ ga;have HG:=hid (show sQ n=(m,r) by rw[<-hmd];simp only[cA,hle,if_false]);clear hmf hm1 hrn hrs hmd hle;go_wp2_with (go_at_call 273;refine(HM.out _).mono ?_;rintro e w' ⟨rfl,rfl⟩)
     refine bodyPost_ret (v:=.tuple #[I6 k,I6 m,I6 ((r:Int)+1),I6 0]) (by simp[results,Tryz.results220,go_sem]) rfl ?_;refine⟨?_,rfl⟩;unfold tA tB;rw[HG.out,<-HKY.out];rfl
end
section
open Go Go.RowKit Go.Shelf
theorem aB8 (c:UInt8):∀k,Lib.repeatL [c] k=List.replicate k c
 | 0=>rfl
 | k+1=>by rw[Lib.repeatL,aB8 c k,List.replicate_succ];rfl
theorem eR (k n:Nat) (hk:k<=10) (hn:n<=9999) (w:World) (hT:Tabs w):CP 221 #[I6 n,I6 k] w (Rt (.string ⟨(dS k n).toArray⟩) w):=by
 have hlen:=bU n 4 ga gc;obtain⟨s,hs⟩:=ez (aF (n:Int):ByteArray)
 have hsD:s=⟨(Lib.decDigits n).toArray⟩:=by rw[hs];unfold aF;rw[Lib.itoa_nonneg]
 have hss:s.size=(Lib.decDigits n).length:=by rw[hsD,aU]
 obtain⟨c,hc⟩:=ez (k-s.size:Nat)
 have hI:=fun w hT=>(bZ (n:Int) ⟨by omega,by omega⟩ w hT)
 rw[<-hs] at hI;have HI:=hid (hI w hT);obtain⟨z,hz⟩:=ez (⟨(Lib.repeatL (⟨#[48]⟩:ByteArray).data.toList c).toArray⟩:ByteArray)
 have hR:=fun w=>Tryz.strings_Repeat ⟨#[48]⟩ c w ga (by have:(⟨#[48]⟩:ByteArray).size=1:=rfl;rw[this];omega);rw[<-hz] at hR;have HR:=hid hR;have hzs:z.size=c:=by rw[hz,aU,Lib.repeatL_length];simp
 have emax:max 0 ((k:Int)-(s.size:Int))=(c:Int):=by omega
 have hg:z.size+s.size<=9223372036854775807:=by omega
 have wk:IntKind.i64.wrap ((k:Int)-(s.size:Int))=(k:Int)-(s.size:Int):=IntWalk.i64_in _ ga;have HF:Hid (z++s=⟨(dS k n).toArray⟩):=hid (by
  rw[hz,hsD,bA];unfold dS;rw[<-hss,<-hc,show(⟨#[48]⟩:ByteArray).data.toList=[48] from rfl,aB8])
 clear hs hsD hss hI hz hR hlen hc hn hk;go_enter Tryz.func221,Tryz.ntmps221
 go_wp2_with (first
  | (go_at_call 245;refine(HR.out _).mono ?_;rintro e w2 ⟨rfl,hb2⟩)
  | (go_at_call 35;refine HI.out.mono ?_;rintro e w1 ⟨rfl,hb1⟩))
 go_ret;exact⟨by rw[HF.out];rfl,hb1.trans (hb2.mono hb1.size)⟩
theorem qW (d:Int) (n:Nat) (hd:d+719162=n) (hn:n<=3652058) (w:World) (hT:Tabs w):CP 136 #[I6 d] w (Rt (.tuple #[.string ⟨(bY n).toArray⟩,I6 0]) w):=by
 obtain⟨⟨y1,y2⟩,⟨m1,m2⟩,d1,d2⟩:=qV n hn;have HC:=hid (aHn d n hd hn w);have HY:=hid (eR 4 (iF n) gc ga);have HM:=hid (eR 2 (tA n) gc ga);have HD:=hid (eR 2 (tB n) gc ga);obtain⟨a,ha⟩:=ez (⟨(dS 4 (iF n)).toArray⟩:ByteArray)
 obtain⟨b,hb⟩:=ez (⟨(dS 2 (tA n)).toArray⟩:ByteArray)
 obtain⟨c,hc⟩:=ez (⟨(dS 2 (tB n)).toArray⟩:ByteArray)
 rw[<-ha] at HY;rw[<-hb] at HM;rw[<-hc] at HD;have za:a.size=4:=by rw[ha,aU,cV 4 _ ga gc]
 have zb:b.size=2:=by rw[hb,aU,cV 2 _ ga gc]
 have zc:c.size=2:=by rw[hc,aU,cV 2 _ ga gc]
 have HF:Hid (a++⟨#[45]⟩++b++⟨#[45]⟩++c=⟨(bY n).toArray⟩):=hid (by
  rw[ha,hb,hc,show(⟨#[45]⟩:ByteArray)=⟨[45].toArray⟩ from rfl,bA,bA,bA,bA];unfold bY;simp)
 clear ha hb hc y1 y2 m1 m2 d1 d2 hd hn;go_enter Tryz.func136,Tryz.ntmps136
 go_wp2_with (first
  | (go_at_call 221;refine(HD.out w2 ((hT.below hb1).below hb2)).mono ?_;rintro e w3 ⟨rfl,hb3⟩)
  | (go_at_call 221;refine(HM.out w1 (hT.below hb1)).mono ?_;rintro e w2 ⟨rfl,hb2⟩)
  | (go_at_call 221;refine(HY.out w hT).mono ?_;rintro e w1 ⟨rfl,hb1⟩)
  | (go_at_call 220;refine HC.out.mono ?_;rintro e w0 ⟨rfl,rfl⟩))
 refine bodyPost_ret (v:=.tuple #[.string (a++⟨#[45]⟩++b++⟨#[45]⟩++c),I6 0]) (by simp[results,Tryz.results136,go_sem]) rfl ?_;exact⟨by rw[HF.out],(hb1.trans (hb2.mono hb1.size)).trans (hb3.mono (hb1.trans (hb2.mono hb1.size)).size)⟩
theorem aFz (ms:Int) (n:Nat) (hm:ms+62135596800000=n) (hn:n<=315537897599999) (w:World):CP 222 #[I6 ms] w fun e w'=>e=.returned (.tuple #[I6 (-719162+((n / 86400000:Nat):Int)),I6 ((n % 86400000:Nat):Int),I6 0])/\w=w':=by
 have HI:=hid (fun w=>(vG ms (-62135596800000) 253402300799999 w).mono (R':=fun e w'=>e=.returned (.bool true)/\w=w') (fun e w' h=>⟨h.1.trans (by rw[vH ga ga]),h.2⟩));obtain⟨q,hq⟩:=ez (((n / 86400000:Nat):Int):Int)
 obtain⟨r,hr⟩:=ez (((n % 86400000:Nat):Int):Int)
 rw[<-hq,<-hr];have e1:(n:Int).tdiv 86400000=q:=by rw[Int.tdiv_eq_ediv_of_nonneg ga];omega
 have e2:(n:Int).tmod 86400000=r:=by rw[Int.tmod_eq_emod_of_nonneg ga];omega
 have wn:IntKind.i64.wrap (n:Int)=n:=IntWalk.i64_in _ ga;have wq:IntKind.i64.wrap q=q:=IntWalk.i64_in _ ga;have wr:IntKind.i64.wrap r=r:=IntWalk.i64_in _ ga;have wq1:IntKind.i64.wrap (-719162+q) = -719162+q:=IntWalk.i64_in _ ga;clear hq hr hn;go_enter Tryz.func222,Tryz.ntmps222
 go_wp2_with (go_at_call 271;refine(HI.out _).mono ?_;rintro e w' ⟨rfl,rfl⟩)
 refine bodyPost_ret (v:=.tuple #[I6 (-719162+q),I6 r,I6 0]) (by simp[results,Tryz.results222,go_sem]) rfl ?_;exact⟨rfl,rfl⟩
theorem wW (ms:Int) (n:Nat) (hm:ms+62135596800000=n) (hn:n<=315537897599999) (w:World) (hT:Tabs w):CP 137 #[I6 ms] w (Rt (.tuple #[.string ⟨(cH n).toArray⟩,I6 0]) w):=by
 obtain⟨dn,hdn⟩:=ez (n / 86400000)
 obtain⟨r,hr⟩:=ez (n % 86400000)
 have HS:=hid (aFz ms n hm hn w);rw[<-hdn,<-hr] at HS;have hrl:r<86400000:=by rw[hr];exact Nat.mod_lt _ gc
 have HC:=hid (qW (-719162+(dn:Int)) dn ga ga);obtain⟨dt,hdt⟩:=ez (⟨(bY dn).toArray⟩:ByteArray)
 rw[<-hdt] at HC;have zdt:dt.size=10:=by rw[hdt,aU,oD _ ga]
 obtain⟨sec,hsec⟩:=ez (r / 1000)
 obtain⟨h,hh⟩:=ez (sec / 3600)
 obtain⟨mi,hmi⟩:=ez (sec / 60 % 60)
 obtain⟨se,hse⟩:=ez (sec % 60)
 obtain⟨ml,hml⟩:=ez (r % 1000)
 have e1:(r:Int).tdiv 1000=sec:=by rw[Int.tdiv_eq_ediv_of_nonneg ga];omega
 have e2:(sec:Int).tdiv 3600=h:=by rw[Int.tdiv_eq_ediv_of_nonneg ga];omega
 obtain⟨s60,hs60⟩:=ez (sec / 60)
 have e3:(sec:Int).tdiv 60=s60:=by rw[Int.tdiv_eq_ediv_of_nonneg ga];omega
 have e4:(s60:Int).tmod 60=mi:=by rw[Int.tmod_eq_emod_of_nonneg ga];omega
 have e5:(sec:Int).tmod 60=se:=by rw[Int.tmod_eq_emod_of_nonneg ga];omega
 have e6:(r:Int).tmod 1000=ml:=by rw[Int.tmod_eq_emod_of_nonneg ga];omega
 have w1:IntKind.i64.wrap (sec:Int)=sec:=IntWalk.i64_in _ ga;have w2:IntKind.i64.wrap (h:Int)=h:=IntWalk.i64_in _ ga;have w3:IntKind.i64.wrap (s60:Int)=s60:=IntWalk.i64_in _ ga;have w4:IntKind.i64.wrap (mi:Int)=mi:=IntWalk.i64_in _ ga;have w5:IntKind.i64.wrap (se:Int)=se:=IntWalk.i64_in _ ga;have w6:IntKind.i64.wrap (ml:Int)=ml:=IntWalk.i64_in _ ga;have HA:=hid (eR 2 h gc ga);have HB:=hid (eR 2 mi gc ga);have HD:=hid (eR 2 se gc ga);have HE:=hid (eR 3 ml gc ga)
 obtain⟨a,ha⟩:=ez (⟨(dS 2 h).toArray⟩:ByteArray)
 obtain⟨b,hb⟩:=ez (⟨(dS 2 mi).toArray⟩:ByteArray)
 obtain⟨c,hc⟩:=ez (⟨(dS 2 se).toArray⟩:ByteArray)
 obtain⟨d,hd⟩:=ez (⟨(dS 3 ml).toArray⟩:ByteArray)
 rw[<-ha] at HA;rw[<-hb] at HB;rw[<-hc] at HD;rw[<-hd] at HE;have za:a.size=2:=by rw[ha,aU,cV 2 _ ga gc]
 have zb:b.size=2:=by rw[hb,aU,cV 2 _ ga gc]
 have zc:c.size=2:=by rw[hc,aU,cV 2 _ ga gc]
 have zd:d.size=3:=by rw[hd,aU,cV 3 _ ga gc]
 have HCK:Hid (dt++(⟨#[84]⟩++a++⟨#[58]⟩++b++⟨#[58]⟩++c)=⟨(bY dn++(84 :: (dS 2 h++58 :: (dS 2 mi++58 :: dS 2 se)))).toArray⟩):=hid (by
  rw[hdt,ha,hb,hc,show(⟨#[84]⟩:ByteArray)=⟨[84].toArray⟩ from rfl,show(⟨#[58]⟩:ByteArray)=⟨[58].toArray⟩ from rfl,bA,bA,bA,bA,bA,bA];simp)
 have HT:Hid (cH n=bY dn++(84 :: (dS 2 h++58 :: (dS 2 mi++58 :: dS 2 se)))++(if ml=0 then [] else 46 :: dS 3 ml)++[90]):=hid (by
  unfold cH rV;rw[<-hdn,<-hr,<-hsec,<-hh,<-hmi,<-hse,<-hml];simp)
 have HDV:=hid hd;have HMS:=hid hml;clear hdn hr hdt ha hb hc hd hsec hh hmi hse hml hs60 hrl hm hn;by_cases hz:ml=0
 ·have hz':((ml:Int)==0)=true:=by simp[hz]
  have HZ:=hid hz;clear hz;go_enter Tryz.func137,Tryz.ntmps137
  go_wp2_with (first
   | (go_at_call 221;refine(HD.out w3 (((hT.below hb1).below hb2).below hb3)).mono ?_;rintro e w4 ⟨rfl,hb4⟩)
   | (go_at_call 221;refine(HB.out w2 ((hT.below hb1).below hb2)).mono ?_;rintro e w3 ⟨rfl,hb3⟩)
   | (go_at_call 221;refine(HA.out w1 (hT.below hb1)).mono ?_;rintro e w2 ⟨rfl,hb2⟩)
   | (go_at_call 136;refine(HC.out w hT).mono ?_;rintro e w1 ⟨rfl,hb1⟩)
   | (go_at_call 222;refine HS.out.mono ?_;rintro e w0 ⟨rfl,rfl⟩))
  refine bodyPost_ret (v:=.tuple #[.string (dt++(⟨#[84]⟩++a++⟨#[58]⟩++b++⟨#[58]⟩++c)++⟨#[90]⟩),I6 0]) (by simp[results,Tryz.results137,go_sem]) rfl ?_;have hb:=hb1.trans (hb2.mono hb1.size);have hb':=hb.trans (hb3.mono hb.size);refine⟨?_,hb'.trans (hb4.mono hb'.size)⟩;rw[HCK.out,show(⟨#[90]⟩:ByteArray)=⟨[90].toArray⟩ from rfl,bA,HT.out,if_pos HZ.out];simp
 ·have hz':((ml:Int)==0)=false:=by simp[hz]
  have HZ:=hid hz;clear hz;go_enter Tryz.func137,Tryz.ntmps137
  go_wp2_with (first
   | (go_at_call 221;refine(HE.out w4 ((((hT.below hb1).below hb2).below hb3).below hb4)).mono ?_;rintro e w5 ⟨rfl,hb5⟩)
   | (go_at_call 221;refine(HD.out w3 (((hT.below hb1).below hb2).below hb3)).mono ?_;rintro e w4 ⟨rfl,hb4⟩)
   | (go_at_call 221;refine(HB.out w2 ((hT.below hb1).below hb2)).mono ?_;rintro e w3 ⟨rfl,hb3⟩)
   | (go_at_call 221;refine(HA.out w1 (hT.below hb1)).mono ?_;rintro e w2 ⟨rfl,hb2⟩)
   | (go_at_call 136;refine(HC.out w hT).mono ?_;rintro e w1 ⟨rfl,hb1⟩)
   | (go_at_call 222;refine HS.out.mono ?_;rintro e w0 ⟨rfl,rfl⟩))
  refine bodyPost_ret (v:=.tuple #[.string (dt++(⟨#[84]⟩++a++⟨#[58]⟩++b++⟨#[58]⟩++c)++(⟨#[46]⟩++d)++⟨#[90]⟩),I6 0]) (by simp[results,Tryz.results137,go_sem]) rfl ?_;have hb:=hb1.trans (hb2.mono hb1.size);have hb':=hb.trans (hb3.mono hb.size);have hb'':=hb'.trans (hb4.mono hb'.size);refine⟨?_,hb''.trans (hb5.mono hb''.size)⟩;rw[HCK.out,show(⟨#[90]⟩:ByteArray)=⟨[90].toArray⟩ from rfl,show(⟨#[46]⟩:ByteArray)=⟨[46].toArray⟩ from rfl,HDV.out,bA,bA,bA,HT.out,if_neg HZ.out];simp
end
end Go.Proofs.YtmgpghoamapfgaaGreatDoor
