/- A part. -/
import Derived.Test.YteladbdfiannjaaGreatDoorSX10Mrg
import Derived.Lib.MinMax
import Derived.Lib.Repeat
namespace Go.Proofs.YteladbdfiannjaaGreatDoor
set_option linter.unusedVariables false
set_option maxRecDepth 100000
set_option maxHeartbeats 64000000
set_option linter.unusedSimpArgs false
section
open Go Go.RowKit Go.Shelf
def aC5:List UInt8:=[115,110,97,112,115,104,111,116,46]
def kG (v:Nat):ByteArray:=⟨(aC5++xW v 6).toArray⟩
theorem tO (v:Nat):(kG v).data.toList=aC5++xW v 6:=by unfold kG;simp
end
section
open Go Go.RowKit
def inB (n lo hi:Int):Bool:=decide (lo≤n)&&decide (n≤hi)
theorem nR (n lo hi:Int) (w:World):Calls Tryz.prog 338 #[.int .i64 n,.int .i64 lo,.int .i64 hi] w fun e w'=>e=.returned (.bool (inB n lo hi))∧w=w':=by
 go_enter Tryz.func338,Tryz.ntmps338
 by_cases h1:lo≤n<;>by_cases h2:n≤hi
 all_goals go_wp2
 all_goals go_ret
 all_goals exact⟨by simp[inB, *],rfl⟩
theorem nS {n lo hi:Int} (h1:lo≤n) (h2:n≤hi):inB n lo hi=true:=by simp[inB, *]
theorem aA6 (y:Nat) (h1:1≤y) (h2:y≤9999) (w:World):Calls Tryz.prog 356 #[.int .i64 y] w fun e w'=>e=.returned (.bool (mH y))∧w=w':=by
 have HI:=hid (fun w=>(nR y 1 9999 w).mono (R':=fun e w'=>e=.returned (.bool true)∧w=w') (fun e w' h=>⟨h.1.trans (by rw[nS (by omega) (by omega)]),h.2⟩))
 have e4:(y:Int).tmod 4=((y % 4:Nat):Int):=by rw[Int.tmod_eq_emod_of_nonneg (by omega)];omega
 have e100:(y:Int).tmod 100=((y % 100:Nat):Int):=by rw[Int.tmod_eq_emod_of_nonneg (by omega)];omega
 have e400:(y:Int).tmod 400=((y % 400:Nat):Int):=by rw[Int.tmod_eq_emod_of_nonneg (by omega)];omega
 obtain⟨r4,hr4⟩:∃r:Int,r=((y % 4:Nat):Int):=⟨_,rfl⟩
 obtain⟨r100,hr100⟩:∃r:Int,r=((y % 100:Nat):Int):=⟨_,rfl⟩
 obtain⟨r400,hr400⟩:∃r:Int,r=((y % 400:Nat):Int):=⟨_,rfl⟩
 have HL:Hid (mH y=((r4==0)&&(!(r100==0)||(r400==0)))):=hid (by
  unfold mH
  rw[show(r4==0)=(y % 4==0) by rw[hr4,Bool.eq_iff_iff];simp;omega,show(r100==0)=(y % 100==0) by rw[hr100,Bool.eq_iff_iff];simp;omega,show(r400==0)=(y % 400==0) by rw[hr400,Bool.eq_iff_iff];simp;omega])
 rw[←hr4] at e4;rw[←hr100] at e100;rw[←hr400] at e400
 have w4:IntKind.i64.wrap r4=r4:=IntWalk.i64_in _ (by omega)
 have w100:IntKind.i64.wrap r100=r100:=IntWalk.i64_in _ (by omega)
 have w400:IntKind.i64.wrap r400=r400:=IntWalk.i64_in _ (by omega)
 obtain⟨p4,hp4⟩:∃p,(r4==0)=p:=⟨_,rfl⟩
 obtain⟨p100,hp100⟩:∃p,(r100==0)=p:=⟨_,rfl⟩
 obtain⟨p400,hp400⟩:∃p,(r400==0)=p:=⟨_,rfl⟩
 rw[hp4,hp100,hp400] at HL
 have n100:(r100 != 0) = !p100:=by rw[bne,hp100]
 clear hr4 hr100 hr400
 go_enter Tryz.func356,Tryz.ntmps356
 cases p4<;>cases p100<;>cases p400
 all_goals go_wp2_with (go_at_call 338;refine(HI.out _).mono ?_;rintro e w' ⟨rfl,rfl⟩)
 all_goals go_ret
 all_goals exact⟨by rw[HL.out];rfl,rfl⟩
theorem vM (y:Nat) (h1:1≤y) (h2:y≤10000) (w:World):Calls Tryz.prog 339 #[.int .i64 y] w fun e w'=>e=.returned (.int .i64 (dX y))∧w=w':=by
 obtain⟨x,hx⟩:∃x:Int,x=((y-1:Nat):Int):=⟨_,rfl⟩
 obtain⟨a,ha⟩:∃a:Int,a=(((y-1) / 4:Nat):Int):=⟨_,rfl⟩
 obtain⟨b,hb⟩:∃b:Int,b=(((y-1) / 100:Nat):Int):=⟨_,rfl⟩
 obtain⟨c,hc⟩:∃c:Int,c=(((y-1) / 400:Nat):Int):=⟨_,rfl⟩
 have e0:(y:Int)-1=x:=by omega
 have e4:x.tdiv 4=a:=by rw[Int.tdiv_eq_ediv_of_nonneg (by omega)];omega
 have e100:x.tdiv 100=b:=by rw[Int.tdiv_eq_ediv_of_nonneg (by omega)];omega
 have e400:x.tdiv 400=c:=by rw[Int.tdiv_eq_ediv_of_nonneg (by omega)];omega
 have hle:(y-1) / 100≤(y-1) / 4:=Nat.div_le_div_left (by decide) (by decide)
 have HR:Hid (((dX y:Nat):Int)=365 * x+a-b+c):=hid (by unfold dX;omega)
 have hx':0≤x∧x≤9999:=by omega
 have ha':0≤a∧a≤9999:=by omega
 have hb':0≤b∧b≤9999:=by omega
 have hc':0≤c∧c≤9999:=by omega
 clear hx ha hb hc hle
 have w0:IntKind.i64.wrap x=x:=IntWalk.i64_in _ (by omega)
 have w1:IntKind.i64.wrap (365 * x)=365 * x:=IntWalk.i64_in _ (by omega)
 have w2:IntKind.i64.wrap a=a:=IntWalk.i64_in _ (by omega)
 have w3:IntKind.i64.wrap (365 * x+a)=365 * x+a:=IntWalk.i64_in _ (by omega)
 have w4:IntKind.i64.wrap b=b:=IntWalk.i64_in _ (by omega)
 have w5:IntKind.i64.wrap (365 * x+a-b)=365 * x+a-b:=IntWalk.i64_in _ (by omega)
 have w6:IntKind.i64.wrap c=c:=IntWalk.i64_in _ (by omega)
 have w7:IntKind.i64.wrap (365 * x+a-b+c)=365 * x+a-b+c:=IntWalk.i64_in _ (by omega)
 clear hx' ha' hb' hc'
 go_enter Tryz.func339,Tryz.ntmps339
 go_wp2
 go_ret
 exact⟨retI HR.out.symm,rfl⟩
theorem mon0 (w:World):(Instr.index 378 (.agg #[.int .i64 31,.int .i64 28,.int .i64 31,.int .i64 30,.int .i64 31,.int .i64 30,.int .i64 31,.int .i64 31,.int .i64 30,.int .i64 31,.int .i64 30,.int .i64 31]) (.int .i64 0)).run Tryz.prog w=.ok (.int .i64 31) w:=by
 simp[Instr.index,run_underlying Tryz.underlying378,asIntOf,part,go_sem]
theorem mon1 (w:World):(Instr.index 378 (.agg #[.int .i64 31,.int .i64 28,.int .i64 31,.int .i64 30,.int .i64 31,.int .i64 30,.int .i64 31,.int .i64 31,.int .i64 30,.int .i64 31,.int .i64 30,.int .i64 31]) (.int .i64 1)).run Tryz.prog w=.ok (.int .i64 28) w:=by
 simp[Instr.index,run_underlying Tryz.underlying378,asIntOf,part,go_sem]
theorem mon2 (w:World):(Instr.index 378 (.agg #[.int .i64 31,.int .i64 28,.int .i64 31,.int .i64 30,.int .i64 31,.int .i64 30,.int .i64 31,.int .i64 31,.int .i64 30,.int .i64 31,.int .i64 30,.int .i64 31]) (.int .i64 2)).run Tryz.prog w=.ok (.int .i64 31) w:=by
 simp[Instr.index,run_underlying Tryz.underlying378,asIntOf,part,go_sem]
theorem mon3 (w:World):(Instr.index 378 (.agg #[.int .i64 31,.int .i64 28,.int .i64 31,.int .i64 30,.int .i64 31,.int .i64 30,.int .i64 31,.int .i64 31,.int .i64 30,.int .i64 31,.int .i64 30,.int .i64 31]) (.int .i64 3)).run Tryz.prog w=.ok (.int .i64 30) w:=by
 simp[Instr.index,run_underlying Tryz.underlying378,asIntOf,part,go_sem]
theorem mon4 (w:World):(Instr.index 378 (.agg #[.int .i64 31,.int .i64 28,.int .i64 31,.int .i64 30,.int .i64 31,.int .i64 30,.int .i64 31,.int .i64 31,.int .i64 30,.int .i64 31,.int .i64 30,.int .i64 31]) (.int .i64 4)).run Tryz.prog w=.ok (.int .i64 31) w:=by
 simp[Instr.index,run_underlying Tryz.underlying378,asIntOf,part,go_sem]
theorem mon5 (w:World):(Instr.index 378 (.agg #[.int .i64 31,.int .i64 28,.int .i64 31,.int .i64 30,.int .i64 31,.int .i64 30,.int .i64 31,.int .i64 31,.int .i64 30,.int .i64 31,.int .i64 30,.int .i64 31]) (.int .i64 5)).run Tryz.prog w=.ok (.int .i64 30) w:=by
 simp[Instr.index,run_underlying Tryz.underlying378,asIntOf,part,go_sem]
theorem mon6 (w:World):(Instr.index 378 (.agg #[.int .i64 31,.int .i64 28,.int .i64 31,.int .i64 30,.int .i64 31,.int .i64 30,.int .i64 31,.int .i64 31,.int .i64 30,.int .i64 31,.int .i64 30,.int .i64 31]) (.int .i64 6)).run Tryz.prog w=.ok (.int .i64 31) w:=by
 simp[Instr.index,run_underlying Tryz.underlying378,asIntOf,part,go_sem]
theorem mon7 (w:World):(Instr.index 378 (.agg #[.int .i64 31,.int .i64 28,.int .i64 31,.int .i64 30,.int .i64 31,.int .i64 30,.int .i64 31,.int .i64 31,.int .i64 30,.int .i64 31,.int .i64 30,.int .i64 31]) (.int .i64 7)).run Tryz.prog w=.ok (.int .i64 31) w:=by
 simp[Instr.index,run_underlying Tryz.underlying378,asIntOf,part,go_sem]
theorem mon8 (w:World):(Instr.index 378 (.agg #[.int .i64 31,.int .i64 28,.int .i64 31,.int .i64 30,.int .i64 31,.int .i64 30,.int .i64 31,.int .i64 31,.int .i64 30,.int .i64 31,.int .i64 30,.int .i64 31]) (.int .i64 8)).run Tryz.prog w=.ok (.int .i64 30) w:=by
 simp[Instr.index,run_underlying Tryz.underlying378,asIntOf,part,go_sem]
theorem mon9 (w:World):(Instr.index 378 (.agg #[.int .i64 31,.int .i64 28,.int .i64 31,.int .i64 30,.int .i64 31,.int .i64 30,.int .i64 31,.int .i64 31,.int .i64 30,.int .i64 31,.int .i64 30,.int .i64 31]) (.int .i64 9)).run Tryz.prog w=.ok (.int .i64 31) w:=by
 simp[Instr.index,run_underlying Tryz.underlying378,asIntOf,part,go_sem]
theorem mon10 (w:World):(Instr.index 378 (.agg #[.int .i64 31,.int .i64 28,.int .i64 31,.int .i64 30,.int .i64 31,.int .i64 30,.int .i64 31,.int .i64 31,.int .i64 30,.int .i64 31,.int .i64 30,.int .i64 31]) (.int .i64 10)).run Tryz.prog w=.ok (.int .i64 30) w:=by
 simp[Instr.index,run_underlying Tryz.underlying378,asIntOf,part,go_sem]
theorem mon11 (w:World):(Instr.index 378 (.agg #[.int .i64 31,.int .i64 28,.int .i64 31,.int .i64 30,.int .i64 31,.int .i64 30,.int .i64 31,.int .i64 31,.int .i64 30,.int .i64 31,.int .i64 30,.int .i64 31]) (.int .i64 11)).run Tryz.prog w=.ok (.int .i64 31) w:=by
 simp[Instr.index,run_underlying Tryz.underlying378,asIntOf,part,go_sem]
theorem xP (y m:Nat) (h1:1≤y) (h2:y≤9999) (h3:1≤m) (h4:m≤12) (w:World):Calls Tryz.prog 340 #[.int .i64 y,.int .i64 m] w fun e w'=>e=.returned (.int .i64 (cB y m))∧w=w':=by
 have HL:=hid (aA6 y h1 h2)
 obtain⟨p,hp⟩:∃p,mH y=p:=⟨_,rfl⟩
 rw[hp] at HL
 have HP:=hid hp
 clear hp
 have:m=1∨m=2∨m=3∨m=4∨m=5∨m=6∨m=7∨m=8∨m=9∨m=10∨m=11∨m=12:=by omega
 clear h3 h4
 rcases this with rfl | rfl | rfl | rfl | rfl | rfl | rfl | rfl | rfl | rfl | rfl | rfl
 ·have hm:=mon0
  go_enter Tryz.func340,Tryz.ntmps340
  go_wp2
  go_ret
  exact⟨retI (by simp[cB,kJ]),rfl⟩
 ·cases p
  all_goals have hm:=mon1
  all_goals go_enter Tryz.func340,Tryz.ntmps340
  all_goals go_wp2_with (go_at_call 356;refine(HL.out _).mono ?_;rintro e w' ⟨rfl,rfl⟩)
  all_goals go_ret
  all_goals exact⟨retI (by simp[cB,kJ,HP.out]),rfl⟩
 ·have hm:=mon2
  go_enter Tryz.func340,Tryz.ntmps340
  go_wp2
  go_ret
  exact⟨retI (by simp[cB,kJ]),rfl⟩
 ·have hm:=mon3
  go_enter Tryz.func340,Tryz.ntmps340
  go_wp2
  go_ret
  exact⟨retI (by simp[cB,kJ]),rfl⟩
 ·have hm:=mon4
  go_enter Tryz.func340,Tryz.ntmps340
  go_wp2
  go_ret
  exact⟨retI (by simp[cB,kJ]),rfl⟩
 ·have hm:=mon5
  go_enter Tryz.func340,Tryz.ntmps340
  go_wp2
  go_ret
  exact⟨retI (by simp[cB,kJ]),rfl⟩
 ·have hm:=mon6
  go_enter Tryz.func340,Tryz.ntmps340
  go_wp2
  go_ret
  exact⟨retI (by simp[cB,kJ]),rfl⟩
 ·have hm:=mon7
  go_enter Tryz.func340,Tryz.ntmps340
  go_wp2
  go_ret
  exact⟨retI (by simp[cB,kJ]),rfl⟩
 ·have hm:=mon8
  go_enter Tryz.func340,Tryz.ntmps340
  go_wp2
  go_ret
  exact⟨retI (by simp[cB,kJ]),rfl⟩
 ·have hm:=mon9
  go_enter Tryz.func340,Tryz.ntmps340
  go_wp2
  go_ret
  exact⟨retI (by simp[cB,kJ]),rfl⟩
 ·have hm:=mon10
  go_enter Tryz.func340,Tryz.ntmps340
  go_wp2
  go_ret
  exact⟨retI (by simp[cB,kJ]),rfl⟩
 ·have hm:=mon11
  go_enter Tryz.func340,Tryz.ntmps340
  go_wp2
  go_ret
  exact⟨retI (by simp[cB,kJ]),rfl⟩
theorem yJ (d:Int) (n:Nat) (hd:d+719162=n) (hn:n≤3652058) (w:World):Calls Tryz.prog 296 #[.int .i64 d] w fun e w'=>e=.returned (.tuple #[.int .i64 (jV n),.int .i64 (aB5 n),.int .i64 (aB6 n),.int .i64 0])∧w=w':=by
 have HI:=hid (fun w=>(nR d (-719162) 2932896 w).mono (R':=fun e w'=>e=.returned (.bool true)∧w=w') (fun e w' h=>⟨h.1.trans (by rw[nS (by omega) (by omega)]),h.2⟩))
 obtain⟨s0,hs0⟩:∃s,s=lP n:=⟨_,rfl⟩
 have hs1:=pR n
 rw[←hs0] at hs1
 have HST:=hid (show n<dX (s0+1) by rw[hs0];exact oM n hn)
 have HCY:=hid (show cR n s0=jV n by rw[hs0];rfl)
 obtain⟨q,hq⟩:∃q:Int,q=((n / 365:Nat):Int):=⟨_,rfl⟩
 have e365:(n:Int).tdiv 365=q:=by rw[Int.tdiv_eq_ediv_of_nonneg (by omega)];omega
 have wq:IntKind.i64.wrap q=q:=IntWalk.i64_in _ (by omega)
 have wq1:IntKind.i64.wrap (q+1)=q+1:=IntWalk.i64_in _ (by omega)
 have emin:min (q+1) 9999=(s0:Int):=by rw[hs0];unfold lP;omega
 have wn:IntKind.i64.wrap (n:Int)=n:=IntWalk.i64_in _ (by omega)
 have HS1:=hid hs1
 have HN:=hid hn
 clear hs0 hq hs1 hn
 go_enter Tryz.func296,Tryz.ntmps296
 go_wp2_with (go_at_call 338;refine(HI.out _).mono ?_;rintro e w' ⟨rfl,rfl⟩)
 go_loopw [2] (fun y wr=>∃k:Nat,wr=w∧y=.int .i64 k∧1≤k∧k≤9999∧cR n k=jV n∧n<dX (k+1)) (fun y _=>(intOf y).toNat)
 case atStart=>exact⟨s0,rfl,rfl,HS1.out.1,HS1.out.2,HCY.out,HST.out⟩
 case round =>
  obtain⟨k,rfl,rfl,hk1,hk2,hky,hkb⟩:=hrel
  obtain⟨wl,rfl⟩:∃wl:World,wl=wr:=⟨_,rfl⟩
  have HB:=hid (vM k hk1 (by omega))
  by_cases hlt:n<dX k
  ·have hlt':(n:Int)<(dX k:Int):=by omega
   have hk3:2≤k:=by
    rcases Nat.lt_or_ge k 2 with h | h
    ·obtain rfl:k=1:=by omega
     rw[oN] at hlt;omega
    ·exact h
   have wk:IntKind.i64.wrap ((k:Int)-1)=(k:Int)-1:=IntWalk.i64_in _ (by omega)
   have HK:=hid (show cR n (k-1)=jV n by rw[sV n k hlt hk1];exact hky)
   have HK2:=hid (show n<dX (k-1+1) by rw[show k-1+1=k by omega];exact hlt)
   have HKK:=hid (And.intro hk2 hk3)
   clear hky hkb hlt hk1 hk2 hk3
   go_wp2_with (go_at_call 339;refine(HB.out _).mono ?_;rintro e w' ⟨rfl,rfl⟩)
   go_roundw
   case rel=>exact⟨k-1,trivial,by rw[show((k-1:Nat):Int)=(k:Int)-1 by have:=HKK.out;omega],by have:=HKK.out;omega,by have:=HKK.out;omega,HK.out,HK2.out⟩
   case measure=>have:=HKK.out;simp[intOf];omega
  ·have hlt':¬ (n:Int)<(dX k:Int):=by omega
   have hky':k=jV n:=by rw[←hky,sU n k hlt hk1]
   have hsum:n-dX k<dA k 12 1:=by have:=sT k hk1;omega
   obtain⟨r0,hr0⟩:∃r,r=n-dX k:=⟨_,rfl⟩
   have er0:(n:Int)-(dX k:Int)=r0:=by omega
   have wr0:IntKind.i64.wrap (r0:Int)=r0:=IntWalk.i64_in _ (by have:=HN.out;omega)
   have HMD:=hid (show eV k 12 1 r0=mL n by rw[hr0];unfold mL;rw[←hky'])
   have HSM:=hid (show r0<dA k 12 1 by rw[hr0];exact hsum)
   have HRN:=hid (show r0≤3652058 by have:=HN.out;omega)
   have HKY:=hid hky'
   have HMC:=hid (fun (m:Nat) (h1:1≤m) (h2:m≤12)=>xP k m hk1 hk2 h1 h2)
   clear hky hkb hlt hk1 hk2 hky' hsum hr0
   go_wp2_with (go_at_call 339;refine(HB.out _).mono ?_;rintro e w' ⟨rfl,rfl⟩)
   go_loopw [3,6] (fun mm rr ws=>∃(m f r:Nat),ws=wl∧mm=.int .i64 m∧rr=.int .i64 r∧m+f=13∧1≤m∧r≤3652058∧r<dA k f m∧eV k f m r=mL n) (fun mm _ _=>13-(intOf mm).toNat)
   case atStart=>exact⟨1,12,r0,rfl,rfl,rfl,rfl,by decide,HRN.out,HSM.out,HMD.out⟩
   case round =>
    obtain⟨m,f,r,rfl,rfl,rfl,hmf,hm1,hrn,hrs,hmd⟩:=hrel
    obtain⟨g,rfl⟩:∃g,f=g+1:=by
     rcases f with _ | g
     ·simp[dA] at hrs
     ·exact⟨g,rfl⟩
    have HM:=hid (HMC.out m hm1 (by omega))
    by_cases hle:cB k m≤r
    ·have hle':(cB k m:Int)≤(r:Int):=by omega
     have e1:(r:Int)-(cB k m:Int)=((r-cB k m:Nat):Int):=by omega
     have w1:IntKind.i64.wrap ((r-cB k m:Nat):Int)=((r-cB k m:Nat):Int):=IntWalk.i64_in _ (by omega)
     have w2:IntKind.i64.wrap ((m:Int)+1)=(m:Int)+1:=IntWalk.i64_in _ (by omega)
     have HS:=hid (show r-cB k m<dA k g (m+1) by simp only[dA] at hrs;omega)
     have HG:=hid (show eV k g (m+1) (r-cB k m)=mL n by rw[←hmd];simp only[eV,hle,if_true])
     have HF:=hid (And.intro hmf (And.intro hm1 hrn))
     clear hmf hm1 hrn hrs hmd hle
     go_wp2_with (go_at_call 340;refine(HM.out _).mono ?_;rintro e w' ⟨rfl,rfl⟩)
     go_roundw
     case rel=>exact⟨m+1,g,r-cB k m,trivial,by go_num,rfl,by have:=HF.out;omega,by omega,by have:=HF.out;omega,HS.out,HG.out⟩
     case measure=>have:=HF.out;simp[intOf];omega
    ·have hle':¬ (cB k m:Int)≤(r:Int):=by omega
     have w2:IntKind.i64.wrap ((r:Int)+1)=(r:Int)+1:=IntWalk.i64_in _ (by omega)
     have HG:=hid (show mL n=(m,r) by rw[←hmd];simp only[eV,hle,if_false])
     clear hmf hm1 hrn hrs hmd hle
     go_wp2_with (go_at_call 340;refine(HM.out _).mono ?_;rintro e w' ⟨rfl,rfl⟩)
     refine bodyPost_ret (v:=.tuple #[.int .i64 k,.int .i64 m,.int .i64 ((r:Int)+1),.int .i64 0]) (by simp[results,Tryz.results296,go_sem]) rfl ?_
     refine⟨?_,rfl⟩
     unfold aB5 aB6
     rw[HG.out,←HKY.out]
     rfl
end
section
open Go Go.RowKit Go.Shelf
theorem rN (c:UInt8):∀k,Lib.repeatL [c] k=List.replicate k c
 | 0=>rfl
 | k+1=>by rw[Lib.repeatL,rN c k,List.replicate_succ];rfl
theorem cV (k n:Nat) (hk:k≤10) (hn:n≤9999) (w:World) (hT:Tabs w):Calls Tryz.prog 297 #[.int .i64 n,.int .i64 k] w fun e w'=>e=.returned (.string ⟨(fD k n).toArray⟩)∧Below w.heap.size w w':=by
 have hlen:=bQ n 4 (by omega) (by decide)
 obtain⟨s,hs⟩:∃s:ByteArray,s=aF (n:Int):=⟨_,rfl⟩
 have hsD:s=⟨(Lib.decDigits n).toArray⟩:=by rw[hs];unfold aF;rw[Lib.itoa_nonneg]
 have hss:s.size=(Lib.decDigits n).length:=by rw[hsD,cD]
 obtain⟨c,hc⟩:∃c:Nat,c=k-s.size:=⟨_,rfl⟩
 have hI:=fun w hT=>(bD (n:Int) ⟨by omega,by omega⟩ w hT)
 rw[←hs] at hI
 have HI:=hid (hI w hT)
 obtain⟨z,hz⟩:∃z:ByteArray,z=⟨(Lib.repeatL (⟨#[48]⟩:ByteArray).data.toList c).toArray⟩:=⟨_,rfl⟩
 have hR:=fun w=>Tryz.strings_Repeat ⟨#[48]⟩ c w (by omega) (by have:(⟨#[48]⟩:ByteArray).size=1:=rfl;rw[this];omega)
 rw[←hz] at hR
 have HR:=hid hR
 have hzs:z.size=c:=by rw[hz,cD,Lib.repeatL_length];simp
 have emax:max 0 ((k:Int)-(s.size:Int))=(c:Int):=by omega
 have hg:z.size+s.size≤9223372036854775807:=by omega
 have wk:IntKind.i64.wrap ((k:Int)-(s.size:Int))=(k:Int)-(s.size:Int):=IntWalk.i64_in _ (by omega)
 have HF:Hid (z++s=⟨(fD k n).toArray⟩):=hid (by
  rw[hz,hsD,aX]
  unfold fD
  rw[←hss,←hc,show(⟨#[48]⟩:ByteArray).data.toList=[48] from rfl,rN])
 clear hs hsD hss hI hz hR hlen hc hn hk
 go_enter Tryz.func297,Tryz.ntmps297
 go_wp2_with (first
  | (go_at_call 102;refine(HR.out _).mono ?_;rintro e w2 ⟨rfl,hb2⟩)
  | (go_at_call 80;refine HI.out.mono ?_;rintro e w1 ⟨rfl,hb1⟩))
 go_ret
 exact⟨by rw[HF.out];rfl,hb1.trans (hb2.mono hb1.size)⟩
theorem lO (d:Int) (n:Nat) (hd:d+719162=n) (hn:n≤3652058) (w:World) (hT:Tabs w):Calls Tryz.prog 249 #[.int .i64 d] w fun e w'=>e=.returned (.tuple #[.string ⟨(eI n).toArray⟩,.int .i64 0])∧Below w.heap.size w w':=by
 obtain⟨⟨y1,y2⟩,⟨m1,m2⟩,d1,d2⟩:=zA n hn
 have HC:=hid (yJ d n hd hn w)
 have HY:=hid (cV 4 (jV n) (by decide) (by omega))
 have HM:=hid (cV 2 (aB5 n) (by decide) (by omega))
 have HD:=hid (cV 2 (aB6 n) (by decide) (by omega))
 obtain⟨a,ha⟩:∃a:ByteArray,a=⟨(fD 4 (jV n)).toArray⟩:=⟨_,rfl⟩
 obtain⟨b,hb⟩:∃a:ByteArray,a=⟨(fD 2 (aB5 n)).toArray⟩:=⟨_,rfl⟩
 obtain⟨c,hc⟩:∃a:ByteArray,a=⟨(fD 2 (aB6 n)).toArray⟩:=⟨_,rfl⟩
 rw[←ha] at HY;rw[←hb] at HM;rw[←hc] at HD
 have za:a.size=4:=by rw[ha,cD,cH 4 _ (by omega) (by decide)]
 have zb:b.size=2:=by rw[hb,cD,cH 2 _ (by omega) (by decide)]
 have zc:c.size=2:=by rw[hc,cD,cH 2 _ (by omega) (by decide)]
 have HF:Hid (a++⟨#[45]⟩++b++⟨#[45]⟩++c=⟨(eI n).toArray⟩):=hid (by
  rw[ha,hb,hc,show(⟨#[45]⟩:ByteArray)=⟨[45].toArray⟩ from rfl,aX,aX,aX,aX]
  unfold eI;simp)
 clear ha hb hc y1 y2 m1 m2 d1 d2 hd hn
 go_enter Tryz.func249,Tryz.ntmps249
 go_wp2_with (first
  | (go_at_call 297;refine(HD.out w2 ((hT.below hb1).below hb2)).mono ?_;rintro e w3 ⟨rfl,hb3⟩)
  | (go_at_call 297;refine(HM.out w1 (hT.below hb1)).mono ?_;rintro e w2 ⟨rfl,hb2⟩)
  | (go_at_call 297;refine(HY.out w hT).mono ?_;rintro e w1 ⟨rfl,hb1⟩)
  | (go_at_call 296;refine HC.out.mono ?_;rintro e w0 ⟨rfl,rfl⟩))
 refine bodyPost_ret (v:=.tuple #[.string (a++⟨#[45]⟩++b++⟨#[45]⟩++c),.int .i64 0]) (by simp[results,Tryz.results249,go_sem]) rfl ?_
 exact⟨by rw[HF.out],(hb1.trans (hb2.mono hb1.size)).trans (hb3.mono (hb1.trans (hb2.mono hb1.size)).size)⟩
theorem wM (ms:Int) (n:Nat) (hm:ms+62135596800000=n) (hn:n≤315537897599999) (w:World):Calls Tryz.prog 298 #[.int .i64 ms] w fun e w'=>e=.returned (.tuple #[.int .i64 (-719162+((n / 86400000:Nat):Int)),.int .i64 ((n % 86400000:Nat):Int),.int .i64 0])∧w=w':=by
 have HI:=hid (fun w=>(nR ms (-62135596800000) 253402300799999 w).mono (R':=fun e w'=>e=.returned (.bool true)∧w=w') (fun e w' h=>⟨h.1.trans (by rw[nS (by omega) (by omega)]),h.2⟩))
 obtain⟨q,hq⟩:∃q:Int,q=((n / 86400000:Nat):Int):=⟨_,rfl⟩
 obtain⟨r,hr⟩:∃q:Int,q=((n % 86400000:Nat):Int):=⟨_,rfl⟩
 rw[←hq,←hr]
 have e1:(n:Int).tdiv 86400000=q:=by rw[Int.tdiv_eq_ediv_of_nonneg (by omega)];omega
 have e2:(n:Int).tmod 86400000=r:=by rw[Int.tmod_eq_emod_of_nonneg (by omega)];omega
 have wn:IntKind.i64.wrap (n:Int)=n:=IntWalk.i64_in _ (by omega)
 have wq:IntKind.i64.wrap q=q:=IntWalk.i64_in _ (by omega)
 have wr:IntKind.i64.wrap r=r:=IntWalk.i64_in _ (by omega)
 have wq1:IntKind.i64.wrap (-719162+q) = -719162+q:=IntWalk.i64_in _ (by omega)
 clear hq hr hn
 go_enter Tryz.func298,Tryz.ntmps298
 go_wp2_with (go_at_call 338;refine(HI.out _).mono ?_;rintro e w' ⟨rfl,rfl⟩)
 refine bodyPost_ret (v:=.tuple #[.int .i64 (-719162+q),.int .i64 r,.int .i64 0]) (by simp[results,Tryz.results298,go_sem]) rfl ?_
 exact⟨rfl,rfl⟩
theorem oQ (ms:Int) (n:Nat) (hm:ms+62135596800000=n) (hn:n≤315537897599999) (w:World) (hT:Tabs w):Calls Tryz.prog 250 #[.int .i64 ms] w fun e w'=>e=.returned (.tuple #[.string ⟨(gN n).toArray⟩,.int .i64 0])∧Below w.heap.size w w':=by
 obtain⟨dn,hdn⟩:∃k,k=n / 86400000:=⟨_,rfl⟩
 obtain⟨r,hr⟩:∃k,k=n % 86400000:=⟨_,rfl⟩
 have HS:=hid (wM ms n hm hn w)
 rw[←hdn,←hr] at HS
 have hrl:r<86400000:=by rw[hr];exact Nat.mod_lt _ (by decide)
 have HC:=hid (lO (-719162+(dn:Int)) dn (by omega) (by omega))
 obtain⟨dt,hdt⟩:∃a:ByteArray,a=⟨(eI dn).toArray⟩:=⟨_,rfl⟩
 rw[←hdt] at HC
 have zdt:dt.size=10:=by rw[hdt,cD,jR _ (by omega)]
 obtain⟨sec,hsec⟩:∃k,k=r / 1000:=⟨_,rfl⟩
 obtain⟨h,hh⟩:∃k,k=sec / 3600:=⟨_,rfl⟩
 obtain⟨mi,hmi⟩:∃k,k=sec / 60 % 60:=⟨_,rfl⟩
 obtain⟨se,hse⟩:∃k,k=sec % 60:=⟨_,rfl⟩
 obtain⟨ml,hml⟩:∃k,k=r % 1000:=⟨_,rfl⟩
 have e1:(r:Int).tdiv 1000=sec:=by rw[Int.tdiv_eq_ediv_of_nonneg (by omega)];omega
 have e2:(sec:Int).tdiv 3600=h:=by rw[Int.tdiv_eq_ediv_of_nonneg (by omega)];omega
 obtain⟨s60,hs60⟩:∃k,k=sec / 60:=⟨_,rfl⟩
 have e3:(sec:Int).tdiv 60=s60:=by rw[Int.tdiv_eq_ediv_of_nonneg (by omega)];omega
 have e4:(s60:Int).tmod 60=mi:=by rw[Int.tmod_eq_emod_of_nonneg (by omega)];omega
 have e5:(sec:Int).tmod 60=se:=by rw[Int.tmod_eq_emod_of_nonneg (by omega)];omega
 have e6:(r:Int).tmod 1000=ml:=by rw[Int.tmod_eq_emod_of_nonneg (by omega)];omega
 have w1:IntKind.i64.wrap (sec:Int)=sec:=IntWalk.i64_in _ (by omega)
 have w2:IntKind.i64.wrap (h:Int)=h:=IntWalk.i64_in _ (by omega)
 have w3:IntKind.i64.wrap (s60:Int)=s60:=IntWalk.i64_in _ (by omega)
 have w4:IntKind.i64.wrap (mi:Int)=mi:=IntWalk.i64_in _ (by omega)
 have w5:IntKind.i64.wrap (se:Int)=se:=IntWalk.i64_in _ (by omega)
 have w6:IntKind.i64.wrap (ml:Int)=ml:=IntWalk.i64_in _ (by omega)
 have HA:=hid (cV 2 h (by decide) (by omega))
 have HB:=hid (cV 2 mi (by decide) (by omega))
 have HD:=hid (cV 2 se (by decide) (by omega))
 have HE:=hid (cV 3 ml (by decide) (by omega))
 obtain⟨a,ha⟩:∃a:ByteArray,a=⟨(fD 2 h).toArray⟩:=⟨_,rfl⟩
 obtain⟨b,hb⟩:∃a:ByteArray,a=⟨(fD 2 mi).toArray⟩:=⟨_,rfl⟩
 obtain⟨c,hc⟩:∃a:ByteArray,a=⟨(fD 2 se).toArray⟩:=⟨_,rfl⟩
 obtain⟨d,hd⟩:∃a:ByteArray,a=⟨(fD 3 ml).toArray⟩:=⟨_,rfl⟩
 rw[←ha] at HA;rw[←hb] at HB;rw[←hc] at HD;rw[←hd] at HE
 have za:a.size=2:=by rw[ha,cD,cH 2 _ (by omega) (by decide)]
 have zb:b.size=2:=by rw[hb,cD,cH 2 _ (by omega) (by decide)]
 have zc:c.size=2:=by rw[hc,cD,cH 2 _ (by omega) (by decide)]
 have zd:d.size=3:=by rw[hd,cD,cH 3 _ (by omega) (by decide)]
 have HCK:Hid (dt++(⟨#[84]⟩++a++⟨#[58]⟩++b++⟨#[58]⟩++c)=⟨(eI dn++(84 :: (fD 2 h++58 :: (fD 2 mi++58 :: fD 2 se)))).toArray⟩):=hid (by
  rw[hdt,ha,hb,hc,show(⟨#[84]⟩:ByteArray)=⟨[84].toArray⟩ from rfl,show(⟨#[58]⟩:ByteArray)=⟨[58].toArray⟩ from rfl,aX,aX,aX,aX,aX,aX]
  simp)
 have HT:Hid (gN n=eI dn++(84 :: (fD 2 h++58 :: (fD 2 mi++58 :: fD 2 se)))++(if ml=0 then [] else 46 :: fD 3 ml)++[90]):=hid (by
  unfold gN sQ;rw[←hdn,←hr,←hsec,←hh,←hmi,←hse,←hml];simp)
 have HDV:=hid hd
 have HMS:=hid hml
 clear hdn hr hdt ha hb hc hd hsec hh hmi hse hml hs60 hrl hm hn
 by_cases hz:ml=0
 ·have hz':((ml:Int)==0)=true:=by simp[hz]
  have HZ:=hid hz
  clear hz
  go_enter Tryz.func250,Tryz.ntmps250
  go_wp2_with (first
   | (go_at_call 297;refine(HD.out w3 (((hT.below hb1).below hb2).below hb3)).mono ?_;rintro e w4 ⟨rfl,hb4⟩)
   | (go_at_call 297;refine(HB.out w2 ((hT.below hb1).below hb2)).mono ?_;rintro e w3 ⟨rfl,hb3⟩)
   | (go_at_call 297;refine(HA.out w1 (hT.below hb1)).mono ?_;rintro e w2 ⟨rfl,hb2⟩)
   | (go_at_call 249;refine(HC.out w hT).mono ?_;rintro e w1 ⟨rfl,hb1⟩)
   | (go_at_call 298;refine HS.out.mono ?_;rintro e w0 ⟨rfl,rfl⟩))
  refine bodyPost_ret (v:=.tuple #[.string (dt++(⟨#[84]⟩++a++⟨#[58]⟩++b++⟨#[58]⟩++c)++⟨#[90]⟩),.int .i64 0]) (by simp[results,Tryz.results250,go_sem]) rfl ?_
  have hb:=hb1.trans (hb2.mono hb1.size)
  have hb':=hb.trans (hb3.mono hb.size)
  refine⟨?_,hb'.trans (hb4.mono hb'.size)⟩
  rw[HCK.out,show(⟨#[90]⟩:ByteArray)=⟨[90].toArray⟩ from rfl,aX,HT.out,if_pos HZ.out]
  simp
 ·have hz':((ml:Int)==0)=false:=by simp[hz]
  have HZ:=hid hz
  clear hz
  go_enter Tryz.func250,Tryz.ntmps250
  go_wp2_with (first
   | (go_at_call 297;refine(HE.out w4 ((((hT.below hb1).below hb2).below hb3).below hb4)).mono ?_;rintro e w5 ⟨rfl,hb5⟩)
   | (go_at_call 297;refine(HD.out w3 (((hT.below hb1).below hb2).below hb3)).mono ?_;rintro e w4 ⟨rfl,hb4⟩)
   | (go_at_call 297;refine(HB.out w2 ((hT.below hb1).below hb2)).mono ?_;rintro e w3 ⟨rfl,hb3⟩)
   | (go_at_call 297;refine(HA.out w1 (hT.below hb1)).mono ?_;rintro e w2 ⟨rfl,hb2⟩)
   | (go_at_call 249;refine(HC.out w hT).mono ?_;rintro e w1 ⟨rfl,hb1⟩)
   | (go_at_call 298;refine HS.out.mono ?_;rintro e w0 ⟨rfl,rfl⟩))
  refine bodyPost_ret (v:=.tuple #[.string (dt++(⟨#[84]⟩++a++⟨#[58]⟩++b++⟨#[58]⟩++c)++(⟨#[46]⟩++d)++⟨#[90]⟩),.int .i64 0]) (by simp[results,Tryz.results250,go_sem]) rfl ?_
  have hb:=hb1.trans (hb2.mono hb1.size)
  have hb':=hb.trans (hb3.mono hb.size)
  have hb'':=hb'.trans (hb4.mono hb'.size)
  refine⟨?_,hb''.trans (hb5.mono hb''.size)⟩
  rw[HCK.out,show(⟨#[90]⟩:ByteArray)=⟨[90].toArray⟩ from rfl,show(⟨#[46]⟩:ByteArray)=⟨[46].toArray⟩ from rfl,HDV.out,aX,aX,aX,HT.out,if_neg HZ.out]
  simp
end
section
open Go Go.RowKit Go.Shelf
theorem jJ (n:Int) (m:Nat) (hm:m=n.natAbs) (hb:m≤999999999999999) (w:World):Calls Tryz.prog 337 #[.int .i64 n] w fun e w'=>e=.returned (.int .i64 (m:Int))∧w=w':=by
 have w1:IntKind.i64.wrap (-n) = -n:=IntWalk.i64_in _ (by omega)
 have emax:max n (-n)=(m:Int):=by omega
 clear hm hb
 go_enter Tryz.func337,Tryz.ntmps337
 go_wp2
 go_ret
 exact⟨rfl,rfl⟩
theorem uV (m s:Nat) (hs:1≤s) (t:ByteArray) (ht:t=⟨(Lib.decDigits m).toArray⟩) (c:Nat) (hc:c=s+1-t.size) (z:ByteArray) (hz:z=⟨(Lib.repeatL (⟨#[48]⟩:ByteArray).data.toList c).toArray⟩) (u:ByteArray) (hu:u=z++t) (p:Nat) (hp:p=u.size-s) :
 u.extract 0 p++⟨#[46]⟩++u.extract p u.size=⟨(hC m s).toArray⟩:=by
 have hts:t.size=(Lib.decDigits m).length:=by rw[ht,cD]
 have hr:Lib.repeatL (⟨#[48]⟩:ByteArray).data.toList c=List.replicate c 48:=rN 48 c
 have hul:u=⟨(List.replicate c 48++Lib.decDigits m).toArray⟩:=by rw[hu,hz,ht,aX,hr]
 have hus:u.size=c+(Lib.decDigits m).length:=by rw[hul,cD];simp
 have hs0:¬ s=0:=by omega
 rw[hC,if_neg hs0,←hts,←hc,hts,←hus,←hp,hul,ByteArray.extract_mk,ByteArray.extract_mk,show(⟨#[46]⟩:ByteArray)=⟨[46].toArray⟩ from rfl,aX,aX]
 congr 2
 rw[List.append_assoc]
 congr 1
 rw[cD,List.take_of_length_le (by simp)]
 rfl
theorem eX (n:Int) (s:Nat) (h1:n.natAbs≤999999999999999) (h2:s≤12) (w:World):Calls Tryz.prog 336 #[.agg #[.int .i64 n,.int .i64 (s:Int)]] w fun e w'=>e=.returned (.int .i64 0)∧Below w.heap.size w w':=by
 obtain⟨m,hm⟩:∃m,m=n.natAbs:=⟨_,rfl⟩
 have HA:=hid (fun w=>jJ n m hm (by omega) w)
 have k1:¬ (999999999999999:Int)<(m:Int):=by omega
 have k2:¬ n < -999999999999999:=by omega
 have k3:¬ (s:Int)<0:=by omega
 have k4:¬ (12:Int)<(s:Int):=by omega
 clear hm h1 h2
 go_enter Tryz.func336,Tryz.ntmps336
 go_wp2_with (go_at_call 337;refine(HA.out _).mono ?_;rintro e w' ⟨rfl,rfl⟩)
 go_ret
 exact⟨rfl,(bR w).alloc lr _⟩
theorem tH (n:Int) (m s:Nat) (hm:m=n.natAbs) (hmb:m≤999999999999999) (hs:s=0) (hneg:0≤n) (w:World) (hT:Tabs w) :
 Calls Tryz.prog 295 #[.agg #[.int .i64 n,.int .i64 (s:Int)]] w fun e w'=>e=.returned (.tuple #[.string ⟨(eT n s).toArray⟩,.int .i64 0])∧Below w.heap.size w w':=by
 have HCK:=hid (eX n s (by omega) (by omega) (w.alloc (.cells #[.int .i64 n,.int .i64 (s:Int)] 268)))
 have HAB:=hid (fun w=>jJ n m hm (by omega) w)
 have hlen:=bQ m 15 (by omega) (by decide)
 obtain⟨t,ht⟩:∃t:ByteArray,t=aF (m:Int):=⟨_,rfl⟩
 have htD:t=⟨(Lib.decDigits m).toArray⟩:=by rw[ht];unfold aF;rw[Lib.itoa_nonneg]
 have hts:t.size=(Lib.decDigits m).length:=by rw[htD,cD]
 have hI:=fun w hT=>(bD (m:Int) ⟨by omega,by omega⟩ w hT)
 rw[←ht] at hI
 have HI:=hid hI
 have HTD:=hid htD
 have HTS:=hid hts
 have htz:t.size≤15:=by omega
 have hb0:Below w.heap.size w (w.alloc (.cells #[.int .i64 n,.int .i64 (s:Int)] 268)):=(bR w).alloc lr _
 have HB0:=hid hb0
 have HX0:=hid (heap_alloc_new w (.cells #[.int .i64 n,.int .i64 (s:Int)] 268))
 have HC:=hid (fun (w':World) (h:w'.heap[w.heap.size]?=some (.cells #[.int .i64 n,.int .i64 (s:Int)] 268))=>(show w'.cell? ⟨w.heap.size,0,none⟩=some (.int .i64 n)∧w'.cell? ⟨w.heap.size,1,none⟩=some (.int .i64 (s:Int)) from⟨aA h 0,aA h 1⟩))
 have hn0:¬ n<0:=by omega
 have hs0:¬ (0:Int)<(s:Int):=by omega
 have HM:=hid hm
 have HMB:=hid hmb
 have HS:=hid hs
 have HNG:=hid hneg
 clear hm hmb hs hneg hI ht htD hts hlen hb0
 go_enter Tryz.func295,Tryz.ntmps295
 go_wp2_with (first
  | (fail)
  | (go_at_call 80;refine(HI.out w1 (hT.below (HB0.out.trans (HB1.out.mono (by simp))))).mono ?_;rintro e w2 ⟨rfl,hb2⟩;have HX2:=hid (aB hb2 HX1.out);have HB2:=hid hb2;have hc2:=HC.out w2 HX2.out;clear hb2)
  | (go_at_call 337;refine(HAB.out _).mono ?_;rintro e w' ⟨rfl,rfl⟩)
  | (go_at_call 336;refine HCK.out.mono ?_;rintro e w1 ⟨rfl,hb1⟩;have HX1:=hid (aB hb1 HX0.out);have HB1:=hid hb1;have hc1:=HC.out w1 HX1.out;clear hb1))
 refine bodyPost_ret (v:=.tuple #[.string t,.int .i64 0]) (by simp[results,Tryz.results295,go_sem]) rfl ?_
 refine⟨?_,(HB0.out.trans (HB1.out.mono (by simp))).trans (HB2.out.mono (HB0.out.trans (HB1.out.mono (by simp))).size)⟩
 have hs':=HS.out
 subst hs'
 rw[HTD.out]
 unfold eT hC
 rw[←HM.out,if_neg (by omega)]
 rfl
theorem rD (n:Int) (m s:Nat) (hm:m=n.natAbs) (hmb:m≤999999999999999) (hs:s=0) (hneg:n<0) (w:World) (hT:Tabs w) :
 Calls Tryz.prog 295 #[.agg #[.int .i64 n,.int .i64 (s:Int)]] w fun e w'=>e=.returned (.tuple #[.string ⟨(eT n s).toArray⟩,.int .i64 0])∧Below w.heap.size w w':=by
 have HCK:=hid (eX n s (by omega) (by omega) (w.alloc (.cells #[.int .i64 n,.int .i64 (s:Int)] 268)))
 have HAB:=hid (fun w=>jJ n m hm (by omega) w)
 have hlen:=bQ m 15 (by omega) (by decide)
 obtain⟨t,ht⟩:∃t:ByteArray,t=aF (m:Int):=⟨_,rfl⟩
 have htD:t=⟨(Lib.decDigits m).toArray⟩:=by rw[ht];unfold aF;rw[Lib.itoa_nonneg]
 have hts:t.size=(Lib.decDigits m).length:=by rw[htD,cD]
 have hI:=fun w hT=>(bD (m:Int) ⟨by omega,by omega⟩ w hT)
 rw[←ht] at hI
 have HI:=hid hI
 have HTD:=hid htD
 have HTS:=hid hts
 have htz:t.size≤15:=by omega
 have hb0:Below w.heap.size w (w.alloc (.cells #[.int .i64 n,.int .i64 (s:Int)] 268)):=(bR w).alloc lr _
 have HB0:=hid hb0
 have HX0:=hid (heap_alloc_new w (.cells #[.int .i64 n,.int .i64 (s:Int)] 268))
 have HC:=hid (fun (w':World) (h:w'.heap[w.heap.size]?=some (.cells #[.int .i64 n,.int .i64 (s:Int)] 268))=>(show w'.cell? ⟨w.heap.size,0,none⟩=some (.int .i64 n)∧w'.cell? ⟨w.heap.size,1,none⟩=some (.int .i64 (s:Int)) from⟨aA h 0,aA h 1⟩))
 have hn0:n<0:=by omega
 have hs0:¬ (0:Int)<(s:Int):=by omega
 have HM:=hid hm
 have HMB:=hid hmb
 have HS:=hid hs
 have HNG:=hid hneg
 clear hm hmb hs hneg hI ht htD hts hlen hb0
 go_enter Tryz.func295,Tryz.ntmps295
 go_wp2_with (first
  | (fail)
  | (go_at_call 80;refine(HI.out w1 (hT.below (HB0.out.trans (HB1.out.mono (by simp))))).mono ?_;rintro e w2 ⟨rfl,hb2⟩;have HX2:=hid (aB hb2 HX1.out);have HB2:=hid hb2;have hc2:=HC.out w2 HX2.out;clear hb2)
  | (go_at_call 337;refine(HAB.out _).mono ?_;rintro e w' ⟨rfl,rfl⟩)
  | (go_at_call 336;refine HCK.out.mono ?_;rintro e w1 ⟨rfl,hb1⟩;have HX1:=hid (aB hb1 HX0.out);have HB1:=hid hb1;have hc1:=HC.out w1 HX1.out;clear hb1))
 refine bodyPost_ret (v:=.tuple #[.string (⟨#[45]⟩++t),.int .i64 0]) (by simp[results,Tryz.results295,go_sem]) rfl ?_
 refine⟨?_,(HB0.out.trans (HB1.out.mono (by simp))).trans (HB2.out.mono (HB0.out.trans (HB1.out.mono (by simp))).size)⟩
 have hs':=HS.out
 subst hs'
 rw[HTD.out]
 unfold eT hC
 rw[←HM.out,if_pos hn0]
 rw[show(⟨#[45]⟩:ByteArray)=⟨[45].toArray⟩ from rfl,aX];rfl
theorem tI (n:Int) (m s:Nat) (hm:m=n.natAbs) (hmb:m≤999999999999999) (hs:1≤s∧s≤12) (hneg:0≤n) (w:World) (hT:Tabs w) :
 Calls Tryz.prog 295 #[.agg #[.int .i64 n,.int .i64 (s:Int)]] w fun e w'=>e=.returned (.tuple #[.string ⟨(eT n s).toArray⟩,.int .i64 0])∧Below w.heap.size w w':=by
 have HCK:=hid (eX n s (by omega) (by omega) (w.alloc (.cells #[.int .i64 n,.int .i64 (s:Int)] 268)))
 have HAB:=hid (fun w=>jJ n m hm (by omega) w)
 have hlen:=bQ m 15 (by omega) (by decide)
 obtain⟨t,ht⟩:∃t:ByteArray,t=aF (m:Int):=⟨_,rfl⟩
 have htD:t=⟨(Lib.decDigits m).toArray⟩:=by rw[ht];unfold aF;rw[Lib.itoa_nonneg]
 have hts:t.size=(Lib.decDigits m).length:=by rw[htD,cD]
 have hI:=fun w hT=>(bD (m:Int) ⟨by omega,by omega⟩ w hT)
 rw[←ht] at hI
 have HI:=hid hI
 have HTD:=hid htD
 have HTS:=hid hts
 have htz:t.size≤15:=by omega
 have hb0:Below w.heap.size w (w.alloc (.cells #[.int .i64 n,.int .i64 (s:Int)] 268)):=(bR w).alloc lr _
 have HB0:=hid hb0
 have HX0:=hid (heap_alloc_new w (.cells #[.int .i64 n,.int .i64 (s:Int)] 268))
 have HC:=hid (fun (w':World) (h:w'.heap[w.heap.size]?=some (.cells #[.int .i64 n,.int .i64 (s:Int)] 268))=>(show w'.cell? ⟨w.heap.size,0,none⟩=some (.int .i64 n)∧w'.cell? ⟨w.heap.size,1,none⟩=some (.int .i64 (s:Int)) from⟨aA h 0,aA h 1⟩))
 have hn0:¬ n<0:=by omega
 have hs0:(0:Int)<(s:Int):=by omega
 have HM:=hid hm
 have HMB:=hid hmb
 have HS:=hid hs
 have HNG:=hid hneg
 clear hm hmb hs hneg hI ht htD hts hlen hb0
 obtain⟨c,hc⟩:∃c:Nat,c=s+1-t.size:=⟨_,rfl⟩
 have wsx:IntKind.i64.wrap ((s:Int)+1)=(s:Int)+1:=IntWalk.i64_in _ (by have:=HS.out;omega)
 have wsy:IntKind.i64.wrap ((s:Int)+1-(t.size:Int))=(s:Int)+1-(t.size:Int):=IntWalk.i64_in _ (by have:=HS.out;omega)
 have emax:max 0 ((s:Int)+1-(t.size:Int))=(c:Int):=by omega
 have hcz:c≤13:=by have:=HS.out;omega
 obtain⟨z,hz⟩:∃z:ByteArray,z=⟨(Lib.repeatL (⟨#[48]⟩:ByteArray).data.toList c).toArray⟩:=⟨_,rfl⟩
 have hR:=fun w=>Tryz.strings_Repeat ⟨#[48]⟩ c w (by omega) (by have:(⟨#[48]⟩:ByteArray).size=1:=rfl;rw[this];omega)
 rw[←hz] at hR
 have HR:=hid hR
 have hzs:z.size=c:=by rw[hz,cD,Lib.repeatL_length];simp
 have hg:z.size+t.size≤9223372036854775807:=by omega
 have HZ:=hid hz
 obtain⟨u,hu⟩:∃u:ByteArray,u=z++t:=⟨_,rfl⟩
 have huz:u.size=z.size+t.size:=by rw[hu];simp
 have hus:s+1≤u.size∧u.size≤28:=by omega
 have HU:=hid hu
 have HCC:=hid hc
 obtain⟨p,hp⟩:∃p:Nat,p=u.size-s:=⟨_,rfl⟩
 have wp:IntKind.i64.wrap ((u.size:Int)-(s:Int))=(p:Int):=by rw[IntWalk.i64_in _ (by omega)];omega
 have p0:(0:Int)≤(p:Int):=by omega
 have p1:(p:Int)≤(u.size:Int):=by omega
 have p2:p≤u.size:=by omega
 obtain⟨x1,hx1⟩:∃x,u.extract 0 p=x:=⟨_,rfl⟩
 obtain⟨x2,hx2⟩:∃x,u.extract p u.size=x:=⟨_,rfl⟩
 have z1:x1.size≤28:=by rw[←hx1,ByteArray.size_extract];omega
 have z2:x2.size≤28:=by rw[←hx2,ByteArray.size_extract];omega
 have g1:x1.size+1≤9223372036854775807:=by omega
 have g2:x1.size+1+x2.size≤9223372036854775807:=by omega
 have g3:1+(x1.size+1+x2.size)≤9223372036854775807:=by omega
 have e1:(9223372036854775807<x1.size+1)=False:=eq_false (by omega)
 have e2:(9223372036854775807<x1.size+1+x2.size)=False:=eq_false (by omega)
 have HG:=hid (show x1++⟨#[46]⟩++x2=⟨(hC m s).toArray⟩ by rw[←hx1,←hx2];exact uV m s (by have:=HS.out;omega) t HTD.out c hc z hz u hu p hp)
 clear hR hz hc hu hp z1 z2 huz
 go_enter Tryz.func295,Tryz.ntmps295
 go_upto_region 7 with (first
  | (go_at_call 102;refine(HR.out _).mono ?_;rintro e w3 ⟨rfl,hb3⟩;have HX3:=hid (aB hb3 HX2.out);have HB3:=hid hb3;have hc4:=HC.out w3 HX3.out;clear hb3)
  | (go_at_call 80;refine(HI.out w1 (hT.below (HB0.out.trans (HB1.out.mono (by simp))))).mono ?_;rintro e w2 ⟨rfl,hb2⟩;have HX2:=hid (aB hb2 HX1.out);have HB2:=hid hb2;have hc2:=HC.out w2 HX2.out;clear hb2)
  | (go_at_call 337;refine(HAB.out _).mono ?_;rintro e w' ⟨rfl,rfl⟩)
  | (go_at_call 336;refine HCK.out.mono ?_;rintro e w1 ⟨rfl,hb1⟩;have HX1:=hid (aB hb1 HX0.out);have HB1:=hid hb1;have hc1:=HC.out w1 HX1.out;clear hb1))
 rw[←HU.out]
 refine aQ 16 (fun w'=>w'.heap[w.heap.size]?=some (.cells #[.int .i64 n,.int .i64 (s:Int)] 268)) (by kernel_rfl) (by kernel_rfl) (by kernel_rfl) (by decide) (HX3.out) (fun hS=>?_)
 simp only[zdm,zdn,zdp,zdq]
 refine tkQ 0 (v:=?_) ?_ hS ?_;rotate_left;· intro w' hw';have hcells:=HC.out w' hw';go_simp;(try rfl)
 simp only[Act.put,pq]
 refine tkQ 1 (v:=?_) ?_ hS ?_;rotate_left;· intro w' hw';have hcells:=HC.out w' hw';go_simp;(try rfl)
 simp only[Act.put,pq]
 refine tkQ 2 (v:=?_) ?_ hS ?_;rotate_left;· intro w' hw';have hcells:=HC.out w' hw';go_simp;(try rfl)
 simp only[Act.put,pq]
 refine tkQ 3 (v:=?_) ?_ hS ?_;rotate_left;· intro w' hw';have hcells:=HC.out w' hw';go_simp;(try rfl)
 simp only[Act.put,pq]
 refine tkQ 4 (v:=?_) ?_ hS ?_;rotate_left;· intro w' hw';have hcells:=HC.out w' hw';go_simp;(try rfl)
 simp only[Act.put,pq]
 refine tkQ 5 (v:=?_) ?_ hS ?_;rotate_left;· intro w' hw';have hcells:=HC.out w' hw';go_simp;(try rfl)
 simp only[Act.put,pq]
 refine tkQ 6 (v:=?_) ?_ hS ?_;rotate_left;· intro w' hw';have hcells:=HC.out w' hw';go_simp;(try rfl)
 simp only[Act.put,pq]
 refine tkQ 7 (v:=?_) ?_ hS ?_;rotate_left;· intro w' hw';have hcells:=HC.out w' hw';go_simp;(try rfl)
 simp only[Act.put,pq]
 refine tkQ 8 (v:=?_) ?_ hS ?_;rotate_left;· intro w' hw';have hcells:=HC.out w' hw';go_simp;(try rfl)
 simp only[Act.put,pq]
 refine tkQ 9 (v:=?_) ?_ hS ?_;rotate_left;· intro w' hw';have hcells:=HC.out w' hw';go_simp;(try rfl)
 simp only[Act.put,pq]
 refine tkQ 10 (v:=?_) ?_ hS ?_;rotate_left;· intro w' hw';have hcells:=HC.out w' hw';go_simp;(try rfl)
 simp only[Act.put,pq]
 refine tkQ 11 (v:=?_) ?_ hS ?_;rotate_left;· intro w' hw';have hcells:=HC.out w' hw';go_simp;(try rfl)
 simp only[Act.put,pq]
 refine tkQ 12 (v:=?_) ?_ hS ?_;rotate_left;· intro w' hw';have hcells:=HC.out w' hw';go_simp;(try rfl)
 simp only[Act.put,pq]
 refine tkQ 13 (v:=?_) ?_ hS ?_;rotate_left;· intro w' hw';have hcells:=HC.out w' hw';go_simp;(try rfl)
 simp only[Act.put,pq]
 refine tkQ 14 (v:=?_) ?_ hS ?_;rotate_left;· intro w' hw';have hcells:=HC.out w' hw';go_simp;(try rfl)
 simp only[Act.put,pq]
 refine tkQ 15 (v:=?_) ?_ hS ?_;rotate_left;· intro w' hw';have hcells:=HC.out w' hw';go_simp;(try rfl)
 simp only[Act.put,pq]
 refine wpAnyH_done (by kernel_rfl) ?_ _
 (try dsimp only)
 have HXS:=hid hS
 have hc9:=HC.out _ hS
 clear hS
 go_wp2
 refine bodyPost_ret (v:=.tuple #[.string (x1++⟨#[46]⟩++x2),.int .i64 0]) (by simp[results,Tryz.results295,go_sem]) rfl ?_
 have b1:=HB0.out.trans (HB1.out.mono (by simp))
 have b2:=b1.trans (HB2.out.mono b1.size)
 have b3:=b2.trans (HB3.out.mono b2.size)
 refine⟨?_,b3.drew⟩
 rw[HG.out]
 unfold eT
 rw[←HM.out,if_neg (by omega)]
 skip
theorem rE (n:Int) (m s:Nat) (hm:m=n.natAbs) (hmb:m≤999999999999999) (hs:1≤s∧s≤12) (hneg:n<0) (w:World) (hT:Tabs w) :
 Calls Tryz.prog 295 #[.agg #[.int .i64 n,.int .i64 (s:Int)]] w fun e w'=>e=.returned (.tuple #[.string ⟨(eT n s).toArray⟩,.int .i64 0])∧Below w.heap.size w w':=by
 have HCK:=hid (eX n s (by omega) (by omega) (w.alloc (.cells #[.int .i64 n,.int .i64 (s:Int)] 268)))
 have HAB:=hid (fun w=>jJ n m hm (by omega) w)
 have hlen:=bQ m 15 (by omega) (by decide)
 obtain⟨t,ht⟩:∃t:ByteArray,t=aF (m:Int):=⟨_,rfl⟩
 have htD:t=⟨(Lib.decDigits m).toArray⟩:=by rw[ht];unfold aF;rw[Lib.itoa_nonneg]
 have hts:t.size=(Lib.decDigits m).length:=by rw[htD,cD]
 have hI:=fun w hT=>(bD (m:Int) ⟨by omega,by omega⟩ w hT)
 rw[←ht] at hI
 have HI:=hid hI
 have HTD:=hid htD
 have HTS:=hid hts
 have htz:t.size≤15:=by omega
 have hb0:Below w.heap.size w (w.alloc (.cells #[.int .i64 n,.int .i64 (s:Int)] 268)):=(bR w).alloc lr _
 have HB0:=hid hb0
 have HX0:=hid (heap_alloc_new w (.cells #[.int .i64 n,.int .i64 (s:Int)] 268))
 have HC:=hid (fun (w':World) (h:w'.heap[w.heap.size]?=some (.cells #[.int .i64 n,.int .i64 (s:Int)] 268))=>(show w'.cell? ⟨w.heap.size,0,none⟩=some (.int .i64 n)∧w'.cell? ⟨w.heap.size,1,none⟩=some (.int .i64 (s:Int)) from⟨aA h 0,aA h 1⟩))
 have hn0:n<0:=by omega
 have hs0:(0:Int)<(s:Int):=by omega
 have HM:=hid hm
 have HMB:=hid hmb
 have HS:=hid hs
 have HNG:=hid hneg
 clear hm hmb hs hneg hI ht htD hts hlen hb0
 obtain⟨c,hc⟩:∃c:Nat,c=s+1-t.size:=⟨_,rfl⟩
 have wsx:IntKind.i64.wrap ((s:Int)+1)=(s:Int)+1:=IntWalk.i64_in _ (by have:=HS.out;omega)
 have wsy:IntKind.i64.wrap ((s:Int)+1-(t.size:Int))=(s:Int)+1-(t.size:Int):=IntWalk.i64_in _ (by have:=HS.out;omega)
 have emax:max 0 ((s:Int)+1-(t.size:Int))=(c:Int):=by omega
 have hcz:c≤13:=by have:=HS.out;omega
 obtain⟨z,hz⟩:∃z:ByteArray,z=⟨(Lib.repeatL (⟨#[48]⟩:ByteArray).data.toList c).toArray⟩:=⟨_,rfl⟩
 have hR:=fun w=>Tryz.strings_Repeat ⟨#[48]⟩ c w (by omega) (by have:(⟨#[48]⟩:ByteArray).size=1:=rfl;rw[this];omega)
 rw[←hz] at hR
 have HR:=hid hR
 have hzs:z.size=c:=by rw[hz,cD,Lib.repeatL_length];simp
 have hg:z.size+t.size≤9223372036854775807:=by omega
 have HZ:=hid hz
 obtain⟨u,hu⟩:∃u:ByteArray,u=z++t:=⟨_,rfl⟩
 have huz:u.size=z.size+t.size:=by rw[hu];simp
 have hus:s+1≤u.size∧u.size≤28:=by omega
 have HU:=hid hu
 have HCC:=hid hc
 obtain⟨p,hp⟩:∃p:Nat,p=u.size-s:=⟨_,rfl⟩
 have wp:IntKind.i64.wrap ((u.size:Int)-(s:Int))=(p:Int):=by rw[IntWalk.i64_in _ (by omega)];omega
 have p0:(0:Int)≤(p:Int):=by omega
 have p1:(p:Int)≤(u.size:Int):=by omega
 have p2:p≤u.size:=by omega
 obtain⟨x1,hx1⟩:∃x,u.extract 0 p=x:=⟨_,rfl⟩
 obtain⟨x2,hx2⟩:∃x,u.extract p u.size=x:=⟨_,rfl⟩
 have z1:x1.size≤28:=by rw[←hx1,ByteArray.size_extract];omega
 have z2:x2.size≤28:=by rw[←hx2,ByteArray.size_extract];omega
 have g1:x1.size+1≤9223372036854775807:=by omega
 have g2:x1.size+1+x2.size≤9223372036854775807:=by omega
 have g3:1+(x1.size+1+x2.size)≤9223372036854775807:=by omega
 have e1:(9223372036854775807<x1.size+1)=False:=eq_false (by omega)
 have e2:(9223372036854775807<x1.size+1+x2.size)=False:=eq_false (by omega)
 have HG:=hid (show x1++⟨#[46]⟩++x2=⟨(hC m s).toArray⟩ by rw[←hx1,←hx2];exact uV m s (by have:=HS.out;omega) t HTD.out c hc z hz u hu p hp)
 clear hR hz hc hu hp z1 z2 huz
 go_enter Tryz.func295,Tryz.ntmps295
 go_upto_region 7 with (first
  | (go_at_call 102;refine(HR.out _).mono ?_;rintro e w3 ⟨rfl,hb3⟩;have HX3:=hid (aB hb3 HX2.out);have HB3:=hid hb3;have hc4:=HC.out w3 HX3.out;clear hb3)
  | (go_at_call 80;refine(HI.out w1 (hT.below (HB0.out.trans (HB1.out.mono (by simp))))).mono ?_;rintro e w2 ⟨rfl,hb2⟩;have HX2:=hid (aB hb2 HX1.out);have HB2:=hid hb2;have hc2:=HC.out w2 HX2.out;clear hb2)
  | (go_at_call 337;refine(HAB.out _).mono ?_;rintro e w' ⟨rfl,rfl⟩)
  | (go_at_call 336;refine HCK.out.mono ?_;rintro e w1 ⟨rfl,hb1⟩;have HX1:=hid (aB hb1 HX0.out);have HB1:=hid hb1;have hc1:=HC.out w1 HX1.out;clear hb1))
 rw[←HU.out]
 refine aQ 16 (fun w'=>w'.heap[w.heap.size]?=some (.cells #[.int .i64 n,.int .i64 (s:Int)] 268)) (by kernel_rfl) (by kernel_rfl) (by kernel_rfl) (by decide) (HX3.out) (fun hS=>?_)
 simp only[zdm,zdn,zdp,zdq]
 refine tkQ 0 (v:=?_) ?_ hS ?_;rotate_left;· intro w' hw';have hcells:=HC.out w' hw';go_simp;(try rfl)
 simp only[Act.put,pq]
 refine tkQ 1 (v:=?_) ?_ hS ?_;rotate_left;· intro w' hw';have hcells:=HC.out w' hw';go_simp;(try rfl)
 simp only[Act.put,pq]
 refine tkQ 2 (v:=?_) ?_ hS ?_;rotate_left;· intro w' hw';have hcells:=HC.out w' hw';go_simp;(try rfl)
 simp only[Act.put,pq]
 refine tkQ 3 (v:=?_) ?_ hS ?_;rotate_left;· intro w' hw';have hcells:=HC.out w' hw';go_simp;(try rfl)
 simp only[Act.put,pq]
 refine tkQ 4 (v:=?_) ?_ hS ?_;rotate_left;· intro w' hw';have hcells:=HC.out w' hw';go_simp;(try rfl)
 simp only[Act.put,pq]
 refine tkQ 5 (v:=?_) ?_ hS ?_;rotate_left;· intro w' hw';have hcells:=HC.out w' hw';go_simp;(try rfl)
 simp only[Act.put,pq]
 refine tkQ 6 (v:=?_) ?_ hS ?_;rotate_left;· intro w' hw';have hcells:=HC.out w' hw';go_simp;(try rfl)
 simp only[Act.put,pq]
 refine tkQ 7 (v:=?_) ?_ hS ?_;rotate_left;· intro w' hw';have hcells:=HC.out w' hw';go_simp;(try rfl)
 simp only[Act.put,pq]
 refine tkQ 8 (v:=?_) ?_ hS ?_;rotate_left;· intro w' hw';have hcells:=HC.out w' hw';go_simp;(try rfl)
 simp only[Act.put,pq]
 refine tkQ 9 (v:=?_) ?_ hS ?_;rotate_left;· intro w' hw';have hcells:=HC.out w' hw';go_simp;(try rfl)
 simp only[Act.put,pq]
 refine tkQ 10 (v:=?_) ?_ hS ?_;rotate_left;· intro w' hw';have hcells:=HC.out w' hw';go_simp;(try rfl)
 simp only[Act.put,pq]
 refine tkQ 11 (v:=?_) ?_ hS ?_;rotate_left;· intro w' hw';have hcells:=HC.out w' hw';go_simp;(try rfl)
 simp only[Act.put,pq]
 refine tkQ 12 (v:=?_) ?_ hS ?_;rotate_left;· intro w' hw';have hcells:=HC.out w' hw';go_simp;(try rfl)
 simp only[Act.put,pq]
 refine tkQ 13 (v:=?_) ?_ hS ?_;rotate_left;· intro w' hw';have hcells:=HC.out w' hw';go_simp;(try rfl)
 simp only[Act.put,pq]
 refine tkQ 14 (v:=?_) ?_ hS ?_;rotate_left;· intro w' hw';have hcells:=HC.out w' hw';go_simp;(try rfl)
 simp only[Act.put,pq]
 refine tkQ 15 (v:=?_) ?_ hS ?_;rotate_left;· intro w' hw';have hcells:=HC.out w' hw';go_simp;(try rfl)
 simp only[Act.put,pq]
 refine wpAnyH_done (by kernel_rfl) ?_ _
 (try dsimp only)
 have HXS:=hid hS
 have hc9:=HC.out _ hS
 clear hS
 go_wp2
 refine bodyPost_ret (v:=.tuple #[.string (⟨#[45]⟩++(x1++⟨#[46]⟩++x2)),.int .i64 0]) (by simp[results,Tryz.results295,go_sem]) rfl ?_
 have b1:=HB0.out.trans (HB1.out.mono (by simp))
 have b2:=b1.trans (HB2.out.mono b1.size)
 have b3:=b2.trans (HB3.out.mono b2.size)
 refine⟨?_,b3.drew⟩
 rw[HG.out]
 unfold eT
 rw[←HM.out,if_pos hn0]
 rw[show(⟨#[45]⟩:ByteArray)=⟨[45].toArray⟩ from rfl,aX];rfl
theorem wC (n:Int) (s:Nat) (h1:n.natAbs≤999999999999999) (h2:s≤12) (w:World) (hT:Tabs w) :
 Calls Tryz.prog 295 #[.agg #[.int .i64 n,.int .i64 (s:Int)]] w fun e w'=>e=.returned (.tuple #[.string ⟨(eT n s).toArray⟩,.int .i64 0])∧Below w.heap.size w w':=by
 by_cases hs:s=0<;>by_cases hn:n<0
 ·exact rD n _ s rfl h1 hs hn w hT
 ·exact tH n _ s rfl h1 hs (by omega) w hT
 ·exact rE n _ s rfl h1 (by omega) hn w hT
 ·exact tI n _ s rfl h1 (by omega) (by omega) w hT
end
end Go.Proofs.YteladbdfiannjaaGreatDoor
