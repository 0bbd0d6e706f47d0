/-
  calendar: in, Leap, before, monthDays, Civil: what CalLaw's functions say. Conditions: years from 1 to 9999, months from 1 to 12, days in the calendar's limits.
-/
import Derived.Test.YtmgpghoamapfgaaGreatDoorJN7Mrg
import Derived.Lib.MinMax
import Derived.Lib.Repeat
namespace Go.Proofs.YtmgpghoamapfgaaGreatDoor
set_option linter.unusedVariables false
set_option maxRecDepth 100000
set_option maxHeartbeats 16000000
set_option linter.unusedSimpArgs false
section
open Go Go.RowKit
def inB (n lo hi:Int):Bool:=decide (lo≤n)&&decide (n≤hi)
theorem inC_call (n lo hi:Int) (w:World):Calls Tryz.prog 271 #[.int .i64 n,.int .i64 lo,.int .i64 hi] w fun e w'=>e=.returned (.bool (inB n lo hi))∧w=w':=by
 go_enter Tryz.func271,Tryz.ntmps271
 by_cases h1:lo≤n<;>by_cases h2:n≤hi
 all_goals go_wp2
 all_goals go_ret
 all_goals exact⟨by simp[inB, *],rfl⟩
theorem inB_true {n lo hi:Int} (h1:lo≤n) (h2:n≤hi):inB n lo hi=true:=by simp[inB, *]
theorem leap_call (y:Nat) (h1:1≤y) (h2:y≤9999) (w:World):Calls Tryz.prog 321 #[.int .i64 y] w fun e w'=>e=.returned (.bool (leapY y))∧w=w':=by
 have HI:=hid (fun w=>(inC_call y 1 9999 w).mono (R':=fun e w'=>e=.returned (.bool true)∧w=w') (fun e w' h=>⟨h.1.trans (by rw[inB_true (by omega) (by omega)]),h.2⟩))
 have e4:(y:Int).tmod 4=((y % 4:Nat):Int):=by rw[Int.tmod_eq_emod_of_nonneg (by omega)];omega
 have e100:(y:Int).tmod 100=((y % 100:Nat):Int):=by rw[Int.tmod_eq_emod_of_nonneg (by omega)];omega
 have e400:(y:Int).tmod 400=((y % 400:Nat):Int):=by rw[Int.tmod_eq_emod_of_nonneg (by omega)];omega
 obtain⟨r4,hr4⟩:∃r:Int,r=((y % 4:Nat):Int):=⟨_,rfl⟩
 obtain⟨r100,hr100⟩:∃r:Int,r=((y % 100:Nat):Int):=⟨_,rfl⟩
 obtain⟨r400,hr400⟩:∃r:Int,r=((y % 400:Nat):Int):=⟨_,rfl⟩
 have HL:Hid (leapY y=((r4==0)&&(!(r100==0)||(r400==0)))):=hid (by
  unfold leapY
  rw[show(r4==0)=(y % 4==0) by rw[hr4,Bool.eq_iff_iff];simp;omega,show(r100==0)=(y % 100==0) by rw[hr100,Bool.eq_iff_iff];simp;omega,show(r400==0)=(y % 400==0) by rw[hr400,Bool.eq_iff_iff];simp;omega])
 rw[←hr4] at e4;rw[←hr100] at e100;rw[←hr400] at e400
 have w4:IntKind.i64.wrap r4=r4:=IntWalk.i64_in _ (by omega)
 have w100:IntKind.i64.wrap r100=r100:=IntWalk.i64_in _ (by omega)
 have w400:IntKind.i64.wrap r400=r400:=IntWalk.i64_in _ (by omega)
 obtain⟨p4,hp4⟩:∃p,(r4==0)=p:=⟨_,rfl⟩
 obtain⟨p100,hp100⟩:∃p,(r100==0)=p:=⟨_,rfl⟩
 obtain⟨p400,hp400⟩:∃p,(r400==0)=p:=⟨_,rfl⟩
 rw[hp4,hp100,hp400] at HL
 have n100:(r100 != 0) = !p100:=by rw[bne,hp100]
 clear hr4 hr100 hr400
 go_enter Tryz.func321,Tryz.ntmps321
 cases p4<;>cases p100<;>cases p400
 all_goals go_wp2_with (go_at_call 271;refine(HI.out _).mono ?_;rintro e w' ⟨rfl,rfl⟩)
 all_goals go_ret
 all_goals exact⟨by rw[HL.out];rfl,rfl⟩
theorem before_call (y:Nat) (h1:1≤y) (h2:y≤10000) (w:World):Calls Tryz.prog 272 #[.int .i64 y] w fun e w'=>e=.returned (.int .i64 (befY y))∧w=w':=by
 obtain⟨x,hx⟩:∃x:Int,x=((y-1:Nat):Int):=⟨_,rfl⟩
 obtain⟨a,ha⟩:∃a:Int,a=(((y-1) / 4:Nat):Int):=⟨_,rfl⟩
 obtain⟨b,hb⟩:∃b:Int,b=(((y-1) / 100:Nat):Int):=⟨_,rfl⟩
 obtain⟨c,hc⟩:∃c:Int,c=(((y-1) / 400:Nat):Int):=⟨_,rfl⟩
 have e0:(y:Int)-1=x:=by omega
 have e4:x.tdiv 4=a:=by rw[Int.tdiv_eq_ediv_of_nonneg (by omega)];omega
 have e100:x.tdiv 100=b:=by rw[Int.tdiv_eq_ediv_of_nonneg (by omega)];omega
 have e400:x.tdiv 400=c:=by rw[Int.tdiv_eq_ediv_of_nonneg (by omega)];omega
 have hle:(y-1) / 100≤(y-1) / 4:=Nat.div_le_div_left (by decide) (by decide)
 have HR:Hid (((befY y:Nat):Int)=365 * x+a-b+c):=hid (by unfold befY;omega)
 have hx':0≤x∧x≤9999:=by omega
 have ha':0≤a∧a≤9999:=by omega
 have hb':0≤b∧b≤9999:=by omega
 have hc':0≤c∧c≤9999:=by omega
 clear hx ha hb hc hle
 have w0:IntKind.i64.wrap x=x:=IntWalk.i64_in _ (by omega)
 have w1:IntKind.i64.wrap (365 * x)=365 * x:=IntWalk.i64_in _ (by omega)
 have w2:IntKind.i64.wrap a=a:=IntWalk.i64_in _ (by omega)
 have w3:IntKind.i64.wrap (365 * x+a)=365 * x+a:=IntWalk.i64_in _ (by omega)
 have w4:IntKind.i64.wrap b=b:=IntWalk.i64_in _ (by omega)
 have w5:IntKind.i64.wrap (365 * x+a-b)=365 * x+a-b:=IntWalk.i64_in _ (by omega)
 have w6:IntKind.i64.wrap c=c:=IntWalk.i64_in _ (by omega)
 have w7:IntKind.i64.wrap (365 * x+a-b+c)=365 * x+a-b+c:=IntWalk.i64_in _ (by omega)
 clear hx' ha' hb' hc'
 go_enter Tryz.func272,Tryz.ntmps272
 go_wp2
 go_ret
 exact⟨retI HR.out.symm,rfl⟩
theorem mon0 (w:World):(Instr.index 331 (.agg #[.int .i64 31,.int .i64 28,.int .i64 31,.int .i64 30,.int .i64 31,.int .i64 30,.int .i64 31,.int .i64 31,.int .i64 30,.int .i64 31,.int .i64 30,.int .i64 31]) (.int .i64 0)).run Tryz.prog w=.ok (.int .i64 31) w:=by
 simp[Instr.index,run_underlying Tryz.underlying331,asIntOf,part,go_sem]
theorem mon1 (w:World):(Instr.index 331 (.agg #[.int .i64 31,.int .i64 28,.int .i64 31,.int .i64 30,.int .i64 31,.int .i64 30,.int .i64 31,.int .i64 31,.int .i64 30,.int .i64 31,.int .i64 30,.int .i64 31]) (.int .i64 1)).run Tryz.prog w=.ok (.int .i64 28) w:=by
 simp[Instr.index,run_underlying Tryz.underlying331,asIntOf,part,go_sem]
theorem mon2 (w:World):(Instr.index 331 (.agg #[.int .i64 31,.int .i64 28,.int .i64 31,.int .i64 30,.int .i64 31,.int .i64 30,.int .i64 31,.int .i64 31,.int .i64 30,.int .i64 31,.int .i64 30,.int .i64 31]) (.int .i64 2)).run Tryz.prog w=.ok (.int .i64 31) w:=by
 simp[Instr.index,run_underlying Tryz.underlying331,asIntOf,part,go_sem]
theorem mon3 (w:World):(Instr.index 331 (.agg #[.int .i64 31,.int .i64 28,.int .i64 31,.int .i64 30,.int .i64 31,.int .i64 30,.int .i64 31,.int .i64 31,.int .i64 30,.int .i64 31,.int .i64 30,.int .i64 31]) (.int .i64 3)).run Tryz.prog w=.ok (.int .i64 30) w:=by
 simp[Instr.index,run_underlying Tryz.underlying331,asIntOf,part,go_sem]
theorem mon4 (w:World):(Instr.index 331 (.agg #[.int .i64 31,.int .i64 28,.int .i64 31,.int .i64 30,.int .i64 31,.int .i64 30,.int .i64 31,.int .i64 31,.int .i64 30,.int .i64 31,.int .i64 30,.int .i64 31]) (.int .i64 4)).run Tryz.prog w=.ok (.int .i64 31) w:=by
 simp[Instr.index,run_underlying Tryz.underlying331,asIntOf,part,go_sem]
theorem mon5 (w:World):(Instr.index 331 (.agg #[.int .i64 31,.int .i64 28,.int .i64 31,.int .i64 30,.int .i64 31,.int .i64 30,.int .i64 31,.int .i64 31,.int .i64 30,.int .i64 31,.int .i64 30,.int .i64 31]) (.int .i64 5)).run Tryz.prog w=.ok (.int .i64 30) w:=by
 simp[Instr.index,run_underlying Tryz.underlying331,asIntOf,part,go_sem]
theorem mon6 (w:World):(Instr.index 331 (.agg #[.int .i64 31,.int .i64 28,.int .i64 31,.int .i64 30,.int .i64 31,.int .i64 30,.int .i64 31,.int .i64 31,.int .i64 30,.int .i64 31,.int .i64 30,.int .i64 31]) (.int .i64 6)).run Tryz.prog w=.ok (.int .i64 31) w:=by
 simp[Instr.index,run_underlying Tryz.underlying331,asIntOf,part,go_sem]
theorem mon7 (w:World):(Instr.index 331 (.agg #[.int .i64 31,.int .i64 28,.int .i64 31,.int .i64 30,.int .i64 31,.int .i64 30,.int .i64 31,.int .i64 31,.int .i64 30,.int .i64 31,.int .i64 30,.int .i64 31]) (.int .i64 7)).run Tryz.prog w=.ok (.int .i64 31) w:=by
 simp[Instr.index,run_underlying Tryz.underlying331,asIntOf,part,go_sem]
theorem mon8 (w:World):(Instr.index 331 (.agg #[.int .i64 31,.int .i64 28,.int .i64 31,.int .i64 30,.int .i64 31,.int .i64 30,.int .i64 31,.int .i64 31,.int .i64 30,.int .i64 31,.int .i64 30,.int .i64 31]) (.int .i64 8)).run Tryz.prog w=.ok (.int .i64 30) w:=by
 simp[Instr.index,run_underlying Tryz.underlying331,asIntOf,part,go_sem]
theorem mon9 (w:World):(Instr.index 331 (.agg #[.int .i64 31,.int .i64 28,.int .i64 31,.int .i64 30,.int .i64 31,.int .i64 30,.int .i64 31,.int .i64 31,.int .i64 30,.int .i64 31,.int .i64 30,.int .i64 31]) (.int .i64 9)).run Tryz.prog w=.ok (.int .i64 31) w:=by
 simp[Instr.index,run_underlying Tryz.underlying331,asIntOf,part,go_sem]
theorem mon10 (w:World):(Instr.index 331 (.agg #[.int .i64 31,.int .i64 28,.int .i64 31,.int .i64 30,.int .i64 31,.int .i64 30,.int .i64 31,.int .i64 31,.int .i64 30,.int .i64 31,.int .i64 30,.int .i64 31]) (.int .i64 10)).run Tryz.prog w=.ok (.int .i64 30) w:=by
 simp[Instr.index,run_underlying Tryz.underlying331,asIntOf,part,go_sem]
theorem mon11 (w:World):(Instr.index 331 (.agg #[.int .i64 31,.int .i64 28,.int .i64 31,.int .i64 30,.int .i64 31,.int .i64 30,.int .i64 31,.int .i64 31,.int .i64 30,.int .i64 31,.int .i64 30,.int .i64 31]) (.int .i64 11)).run Tryz.prog w=.ok (.int .i64 31) w:=by
 simp[Instr.index,run_underlying Tryz.underlying331,asIntOf,part,go_sem]
theorem mdays_call (y m:Nat) (h1:1≤y) (h2:y≤9999) (h3:1≤m) (h4:m≤12) (w:World):Calls Tryz.prog 273 #[.int .i64 y,.int .i64 m] w fun e w'=>e=.returned (.int .i64 (mdays y m))∧w=w':=by
 have HL:=hid (leap_call y h1 h2)
 obtain⟨p,hp⟩:∃p,leapY y=p:=⟨_,rfl⟩
 rw[hp] at HL
 have HP:=hid hp
 clear hp
 have:m=1∨m=2∨m=3∨m=4∨m=5∨m=6∨m=7∨m=8∨m=9∨m=10∨m=11∨m=12:=by omega
 clear h3 h4
 rcases this with rfl | rfl | rfl | rfl | rfl | rfl | rfl | rfl | rfl | rfl | rfl | rfl
 ·have hm:=mon0
  go_enter Tryz.func273,Tryz.ntmps273
  go_wp2
  go_ret
  exact⟨retI (by simp[mdays,mlen]),rfl⟩
 ·cases p
  all_goals have hm:=mon1
  all_goals go_enter Tryz.func273,Tryz.ntmps273
  all_goals go_wp2_with (go_at_call 321;refine(HL.out _).mono ?_;rintro e w' ⟨rfl,rfl⟩)
  all_goals go_ret
  all_goals exact⟨retI (by simp[mdays,mlen,HP.out]),rfl⟩
 ·have hm:=mon2
  go_enter Tryz.func273,Tryz.ntmps273
  go_wp2
  go_ret
  exact⟨retI (by simp[mdays,mlen]),rfl⟩
 ·have hm:=mon3
  go_enter Tryz.func273,Tryz.ntmps273
  go_wp2
  go_ret
  exact⟨retI (by simp[mdays,mlen]),rfl⟩
 ·have hm:=mon4
  go_enter Tryz.func273,Tryz.ntmps273
  go_wp2
  go_ret
  exact⟨retI (by simp[mdays,mlen]),rfl⟩
 ·have hm:=mon5
  go_enter Tryz.func273,Tryz.ntmps273
  go_wp2
  go_ret
  exact⟨retI (by simp[mdays,mlen]),rfl⟩
 ·have hm:=mon6
  go_enter Tryz.func273,Tryz.ntmps273
  go_wp2
  go_ret
  exact⟨retI (by simp[mdays,mlen]),rfl⟩
 ·have hm:=mon7
  go_enter Tryz.func273,Tryz.ntmps273
  go_wp2
  go_ret
  exact⟨retI (by simp[mdays,mlen]),rfl⟩
 ·have hm:=mon8
  go_enter Tryz.func273,Tryz.ntmps273
  go_wp2
  go_ret
  exact⟨retI (by simp[mdays,mlen]),rfl⟩
 ·have hm:=mon9
  go_enter Tryz.func273,Tryz.ntmps273
  go_wp2
  go_ret
  exact⟨retI (by simp[mdays,mlen]),rfl⟩
 ·have hm:=mon10
  go_enter Tryz.func273,Tryz.ntmps273
  go_wp2
  go_ret
  exact⟨retI (by simp[mdays,mlen]),rfl⟩
 ·have hm:=mon11
  go_enter Tryz.func273,Tryz.ntmps273
  go_wp2
  go_ret
  exact⟨retI (by simp[mdays,mlen]),rfl⟩
theorem civil_call (d:Int) (n:Nat) (hd:d+719162=n) (hn:n≤3652058) (w:World):Calls Tryz.prog 220 #[.int .i64 d] w fun e w'=>e=.returned (.tuple #[.int .i64 (civY n),.int .i64 (civM n),.int .i64 (civD n),.int .i64 0])∧w=w':=by
 have HI:=hid (fun w=>(inC_call d (-719162) 2932896 w).mono (R':=fun e w'=>e=.returned (.bool true)∧w=w') (fun e w' h=>⟨h.1.trans (by rw[inB_true (by omega) (by omega)]),h.2⟩))
 obtain⟨s0,hs0⟩:∃s,s=yStart n:=⟨_,rfl⟩
 have hs1:=yStart_le n
 rw[←hs0] at hs1
 have HST:=hid (show n<befY (s0+1) by rw[hs0];exact befY_start n hn)
 have HCY:=hid (show yearGo n s0=civY n by rw[hs0];rfl)
 obtain⟨q,hq⟩:∃q:Int,q=((n / 365:Nat):Int):=⟨_,rfl⟩
 have e365:(n:Int).tdiv 365=q:=by rw[Int.tdiv_eq_ediv_of_nonneg (by omega)];omega
 have wq:IntKind.i64.wrap q=q:=IntWalk.i64_in _ (by omega)
 have wq1:IntKind.i64.wrap (q+1)=q+1:=IntWalk.i64_in _ (by omega)
 have emin:min (q+1) 9999=(s0:Int):=by rw[hs0];unfold yStart;omega
 have wn:IntKind.i64.wrap (n:Int)=n:=IntWalk.i64_in _ (by omega)
 have HS1:=hid hs1
 have HN:=hid hn
 clear hs0 hq hs1 hn
 go_enter Tryz.func220,Tryz.ntmps220
 go_wp2_with (go_at_call 271;refine(HI.out _).mono ?_;rintro e w' ⟨rfl,rfl⟩)
 go_loopw [2] (fun y wr=>∃k:Nat,wr=w∧y=.int .i64 k∧1≤k∧k≤9999∧yearGo n k=civY n∧n<befY (k+1)) (fun y _=>(intOf y).toNat)
 case atStart=>exact⟨s0,rfl,rfl,HS1.out.1,HS1.out.2,HCY.out,HST.out⟩
 case round =>
  obtain⟨k,rfl,rfl,hk1,hk2,hky,hkb⟩:=hrel
  obtain⟨wl,rfl⟩:∃wl:World,wl=wr:=⟨_,rfl⟩
  have HB:=hid (before_call k hk1 (by omega))
  by_cases hlt:n<befY k
  ·have hlt':(n:Int)<(befY k:Int):=by omega
   have hk3:2≤k:=by
    rcases Nat.lt_or_ge k 2 with h | h
    ·obtain rfl:k=1:=by omega
     rw[befY_one] at hlt;omega
    ·exact h
   have wk:IntKind.i64.wrap ((k:Int)-1)=(k:Int)-1:=IntWalk.i64_in _ (by omega)
   have HK:=hid (show yearGo n (k-1)=civY n by rw[yearGo_down n k hlt hk1];exact hky)
   have HK2:=hid (show n<befY (k-1+1) by rw[show k-1+1=k by omega];exact hlt)
   have HKK:=hid (And.intro hk2 hk3)
   clear hky hkb hlt hk1 hk2 hk3
   go_wp2_with (go_at_call 272;refine(HB.out _).mono ?_;rintro e w' ⟨rfl,rfl⟩)
   go_roundw
   case rel=>exact⟨k-1,trivial,by rw[show((k-1:Nat):Int)=(k:Int)-1 by have:=HKK.out;omega],by have:=HKK.out;omega,by have:=HKK.out;omega,HK.out,HK2.out⟩
   case measure=>have:=HKK.out;simp[intOf];omega
  ·have hlt':¬ (n:Int)<(befY k:Int):=by omega
   have hky':k=civY n:=by rw[←hky,yearGo_stop n k hlt hk1]
   have hsum:n-befY k<sumFrom k 12 1:=by have:=year_len k hk1;omega
   obtain⟨r0,hr0⟩:∃r,r=n-befY k:=⟨_,rfl⟩
   have er0:(n:Int)-(befY k:Int)=r0:=by omega
   have wr0:IntKind.i64.wrap (r0:Int)=r0:=IntWalk.i64_in _ (by have:=HN.out;omega)
   have HMD:=hid (show monthGo k 12 1 r0=civMD n by rw[hr0];unfold civMD;rw[←hky'])
   have HSM:=hid (show r0<sumFrom k 12 1 by rw[hr0];exact hsum)
   have HRN:=hid (show r0≤3652058 by have:=HN.out;omega)
   have HKY:=hid hky'
   have HMC:=hid (fun (m:Nat) (h1:1≤m) (h2:m≤12)=>mdays_call k m hk1 hk2 h1 h2)
   clear hky hkb hlt hk1 hk2 hky' hsum hr0
   go_wp2_with (go_at_call 272;refine(HB.out _).mono ?_;rintro e w' ⟨rfl,rfl⟩)
   go_loopw [3,6] (fun mm rr ws=>∃(m f r:Nat),ws=wl∧mm=.int .i64 m∧rr=.int .i64 r∧m+f=13∧1≤m∧r≤3652058∧r<sumFrom k f m∧monthGo k f m r=civMD n) (fun mm _ _=>13-(intOf mm).toNat)
   case atStart=>exact⟨1,12,r0,rfl,rfl,rfl,rfl,by decide,HRN.out,HSM.out,HMD.out⟩
   case round =>
    obtain⟨m,f,r,rfl,rfl,rfl,hmf,hm1,hrn,hrs,hmd⟩:=hrel
    obtain⟨g,rfl⟩:∃g,f=g+1:=by
     rcases f with _ | g
     ·simp[sumFrom] at hrs
     ·exact⟨g,rfl⟩
    have HM:=hid (HMC.out m hm1 (by omega))
    by_cases hle:mdays k m≤r
    ·have hle':(mdays k m:Int)≤(r:Int):=by omega
     have e1:(r:Int)-(mdays k m:Int)=((r-mdays k m:Nat):Int):=by omega
     have w1:IntKind.i64.wrap ((r-mdays k m:Nat):Int)=((r-mdays k m:Nat):Int):=IntWalk.i64_in _ (by omega)
     have w2:IntKind.i64.wrap ((m:Int)+1)=(m:Int)+1:=IntWalk.i64_in _ (by omega)
     have HS:=hid (show r-mdays k m<sumFrom k g (m+1) by simp only[sumFrom] at hrs;omega)
     have HG:=hid (show monthGo k g (m+1) (r-mdays k m)=civMD n by rw[←hmd];simp only[monthGo,hle,if_true])
     have HF:=hid (And.intro hmf (And.intro hm1 hrn))
     clear hmf hm1 hrn hrs hmd hle
     go_wp2_with (go_at_call 273;refine(HM.out _).mono ?_;rintro e w' ⟨rfl,rfl⟩)
     go_roundw
     case rel=>exact⟨m+1,g,r-mdays k m,trivial,by go_num,rfl,by have:=HF.out;omega,by omega,by have:=HF.out;omega,HS.out,HG.out⟩
     case measure=>have:=HF.out;simp[intOf];omega
    ·have hle':¬ (mdays k m:Int)≤(r:Int):=by omega
     have w2:IntKind.i64.wrap ((r:Int)+1)=(r:Int)+1:=IntWalk.i64_in _ (by omega)
     have HG:=hid (show civMD n=(m,r) by rw[←hmd];simp only[monthGo,hle,if_false])
     clear hmf hm1 hrn hrs hmd hle
     go_wp2_with (go_at_call 273;refine(HM.out _).mono ?_;rintro e w' ⟨rfl,rfl⟩)
     refine bodyPost_ret (v:=.tuple #[.int .i64 k,.int .i64 m,.int .i64 ((r:Int)+1),.int .i64 0]) (by simp[results,Tryz.results220,go_sem]) rfl ?_
     refine⟨?_,rfl⟩
     unfold civM civD
     rw[HG.out,←HKY.out]
     rfl
end
section
open Go Go.RowKit Go.Shelf
theorem repeat1 (c:UInt8):∀k,Lib.repeatL [c] k=List.replicate k c
 | 0=>rfl
 | k+1=>by rw[Lib.repeatL,repeat1 c k,List.replicate_succ];rfl
theorem padded_call (k n:Nat) (hk:k≤10) (hn:n≤9999) (w:World) (hT:Tabs w):Calls Tryz.prog 221 #[.int .i64 n,.int .i64 k] w fun e w'=>e=.returned (.string ⟨(padB k n).toArray⟩)∧Below w.heap.size w w':=by
 have hlen:=decDigits_le n 4 (by omega) (by decide)
 obtain⟨s,hs⟩:∃s:ByteArray,s=itoaB (n:Int):=⟨_,rfl⟩
 have hsD:s=⟨(Lib.decDigits n).toArray⟩:=by rw[hs];unfold itoaB;rw[Lib.itoa_nonneg]
 have hss:s.size=(Lib.decDigits n).length:=by rw[hsD,bSize]
 obtain⟨c,hc⟩:∃c:Nat,c=k-s.size:=⟨_,rfl⟩
 have hI:=fun w hT=>(itoa_call (n:Int) ⟨by omega,by omega⟩ w hT)
 rw[←hs] at hI
 have HI:=hid (hI w hT)
 obtain⟨z,hz⟩:∃z:ByteArray,z=⟨(Lib.repeatL (⟨#[48]⟩:ByteArray).data.toList c).toArray⟩:=⟨_,rfl⟩
 have hR:=fun w=>Tryz.strings_Repeat ⟨#[48]⟩ c w (by omega) (by have:(⟨#[48]⟩:ByteArray).size=1:=rfl;rw[this];omega)
 rw[←hz] at hR
 have HR:=hid hR
 have hzs:z.size=c:=by rw[hz,bSize,Lib.repeatL_length];simp
 have emax:max 0 ((k:Int)-(s.size:Int))=(c:Int):=by omega
 have hg:z.size+s.size≤9223372036854775807:=by omega
 have wk:IntKind.i64.wrap ((k:Int)-(s.size:Int))=(k:Int)-(s.size:Int):=IntWalk.i64_in _ (by omega)
 have HF:Hid (z++s=⟨(padB k n).toArray⟩):=hid (by
  rw[hz,hsD,bAppend]
  unfold padB
  rw[←hss,←hc,show(⟨#[48]⟩:ByteArray).data.toList=[48] from rfl,repeat1])
 clear hs hsD hss hI hz hR hlen hc hn hk
 go_enter Tryz.func221,Tryz.ntmps221
 go_wp2_with (first
  | (go_at_call 245;refine(HR.out _).mono ?_;rintro e w2 ⟨rfl,hb2⟩)
  | (go_at_call 35;refine HI.out.mono ?_;rintro e w1 ⟨rfl,hb1⟩))
 go_ret
 exact⟨by rw[HF.out];rfl,hb1.trans (hb2.mono hb1.size)⟩
theorem calText_call (d:Int) (n:Nat) (hd:d+719162=n) (hn:n≤3652058) (w:World) (hT:Tabs w):Calls Tryz.prog 136 #[.int .i64 d] w fun e w'=>e=.returned (.tuple #[.string ⟨(dateB n).toArray⟩,.int .i64 0])∧Below w.heap.size w w':=by
 obtain⟨⟨y1,y2⟩,⟨m1,m2⟩,d1,d2⟩:=civ_all n hn
 have HC:=hid (civil_call d n hd hn w)
 have HY:=hid (padded_call 4 (civY n) (by decide) (by omega))
 have HM:=hid (padded_call 2 (civM n) (by decide) (by omega))
 have HD:=hid (padded_call 2 (civD n) (by decide) (by omega))
 obtain⟨a,ha⟩:∃a:ByteArray,a=⟨(padB 4 (civY n)).toArray⟩:=⟨_,rfl⟩
 obtain⟨b,hb⟩:∃a:ByteArray,a=⟨(padB 2 (civM n)).toArray⟩:=⟨_,rfl⟩
 obtain⟨c,hc⟩:∃a:ByteArray,a=⟨(padB 2 (civD n)).toArray⟩:=⟨_,rfl⟩
 rw[←ha] at HY;rw[←hb] at HM;rw[←hc] at HD
 have za:a.size=4:=by rw[ha,bSize,padB_len 4 _ (by omega) (by decide)]
 have zb:b.size=2:=by rw[hb,bSize,padB_len 2 _ (by omega) (by decide)]
 have zc:c.size=2:=by rw[hc,bSize,padB_len 2 _ (by omega) (by decide)]
 have HF:Hid (a++⟨#[45]⟩++b++⟨#[45]⟩++c=⟨(dateB n).toArray⟩):=hid (by
  rw[ha,hb,hc,show(⟨#[45]⟩:ByteArray)=⟨[45].toArray⟩ from rfl,bAppend,bAppend,bAppend,bAppend]
  unfold dateB;simp)
 clear ha hb hc y1 y2 m1 m2 d1 d2 hd hn
 go_enter Tryz.func136,Tryz.ntmps136
 go_wp2_with (first
  | (go_at_call 221;refine(HD.out w2 ((hT.below hb1).below hb2)).mono ?_;rintro e w3 ⟨rfl,hb3⟩)
  | (go_at_call 221;refine(HM.out w1 (hT.below hb1)).mono ?_;rintro e w2 ⟨rfl,hb2⟩)
  | (go_at_call 221;refine(HY.out w hT).mono ?_;rintro e w1 ⟨rfl,hb1⟩)
  | (go_at_call 220;refine HC.out.mono ?_;rintro e w0 ⟨rfl,rfl⟩))
 refine bodyPost_ret (v:=.tuple #[.string (a++⟨#[45]⟩++b++⟨#[45]⟩++c),.int .i64 0]) (by simp[results,Tryz.results136,go_sem]) rfl ?_
 exact⟨by rw[HF.out],(hb1.trans (hb2.mono hb1.size)).trans (hb3.mono (hb1.trans (hb2.mono hb1.size)).size)⟩
theorem split_call (ms:Int) (n:Nat) (hm:ms+62135596800000=n) (hn:n≤315537897599999) (w:World):Calls Tryz.prog 222 #[.int .i64 ms] w fun e w'=>e=.returned (.tuple #[.int .i64 (-719162+((n / 86400000:Nat):Int)),.int .i64 ((n % 86400000:Nat):Int),.int .i64 0])∧w=w':=by
 have HI:=hid (fun w=>(inC_call ms (-62135596800000) 253402300799999 w).mono (R':=fun e w'=>e=.returned (.bool true)∧w=w') (fun e w' h=>⟨h.1.trans (by rw[inB_true (by omega) (by omega)]),h.2⟩))
 obtain⟨q,hq⟩:∃q:Int,q=((n / 86400000:Nat):Int):=⟨_,rfl⟩
 obtain⟨r,hr⟩:∃q:Int,q=((n % 86400000:Nat):Int):=⟨_,rfl⟩
 rw[←hq,←hr]
 have e1:(n:Int).tdiv 86400000=q:=by rw[Int.tdiv_eq_ediv_of_nonneg (by omega)];omega
 have e2:(n:Int).tmod 86400000=r:=by rw[Int.tmod_eq_emod_of_nonneg (by omega)];omega
 have wn:IntKind.i64.wrap (n:Int)=n:=IntWalk.i64_in _ (by omega)
 have wq:IntKind.i64.wrap q=q:=IntWalk.i64_in _ (by omega)
 have wr:IntKind.i64.wrap r=r:=IntWalk.i64_in _ (by omega)
 have wq1:IntKind.i64.wrap (-719162+q) = -719162+q:=IntWalk.i64_in _ (by omega)
 clear hq hr hn
 go_enter Tryz.func222,Tryz.ntmps222
 go_wp2_with (go_at_call 271;refine(HI.out _).mono ?_;rintro e w' ⟨rfl,rfl⟩)
 refine bodyPost_ret (v:=.tuple #[.int .i64 (-719162+q),.int .i64 r,.int .i64 0]) (by simp[results,Tryz.results222,go_sem]) rfl ?_
 exact⟨rfl,rfl⟩
theorem timeText_call (ms:Int) (n:Nat) (hm:ms+62135596800000=n) (hn:n≤315537897599999) (w:World) (hT:Tabs w):Calls Tryz.prog 137 #[.int .i64 ms] w fun e w'=>e=.returned (.tuple #[.string ⟨(timeB n).toArray⟩,.int .i64 0])∧Below w.heap.size w w':=by
 obtain⟨dn,hdn⟩:∃k,k=n / 86400000:=⟨_,rfl⟩
 obtain⟨r,hr⟩:∃k,k=n % 86400000:=⟨_,rfl⟩
 have HS:=hid (split_call ms n hm hn w)
 rw[←hdn,←hr] at HS
 have hrl:r<86400000:=by rw[hr];exact Nat.mod_lt _ (by decide)
 have HC:=hid (calText_call (-719162+(dn:Int)) dn (by omega) (by omega))
 obtain⟨dt,hdt⟩:∃a:ByteArray,a=⟨(dateB dn).toArray⟩:=⟨_,rfl⟩
 rw[←hdt] at HC
 have zdt:dt.size=10:=by rw[hdt,bSize,dateB_len _ (by omega)]
 obtain⟨sec,hsec⟩:∃k,k=r / 1000:=⟨_,rfl⟩
 obtain⟨h,hh⟩:∃k,k=sec / 3600:=⟨_,rfl⟩
 obtain⟨mi,hmi⟩:∃k,k=sec / 60 % 60:=⟨_,rfl⟩
 obtain⟨se,hse⟩:∃k,k=sec % 60:=⟨_,rfl⟩
 obtain⟨ml,hml⟩:∃k,k=r % 1000:=⟨_,rfl⟩
 have e1:(r:Int).tdiv 1000=sec:=by rw[Int.tdiv_eq_ediv_of_nonneg (by omega)];omega
 have e2:(sec:Int).tdiv 3600=h:=by rw[Int.tdiv_eq_ediv_of_nonneg (by omega)];omega
 obtain⟨s60,hs60⟩:∃k,k=sec / 60:=⟨_,rfl⟩
 have e3:(sec:Int).tdiv 60=s60:=by rw[Int.tdiv_eq_ediv_of_nonneg (by omega)];omega
 have e4:(s60:Int).tmod 60=mi:=by rw[Int.tmod_eq_emod_of_nonneg (by omega)];omega
 have e5:(sec:Int).tmod 60=se:=by rw[Int.tmod_eq_emod_of_nonneg (by omega)];omega
 have e6:(r:Int).tmod 1000=ml:=by rw[Int.tmod_eq_emod_of_nonneg (by omega)];omega
 have w1:IntKind.i64.wrap (sec:Int)=sec:=IntWalk.i64_in _ (by omega)
 have w2:IntKind.i64.wrap (h:Int)=h:=IntWalk.i64_in _ (by omega)
 have w3:IntKind.i64.wrap (s60:Int)=s60:=IntWalk.i64_in _ (by omega)
 have w4:IntKind.i64.wrap (mi:Int)=mi:=IntWalk.i64_in _ (by omega)
 have w5:IntKind.i64.wrap (se:Int)=se:=IntWalk.i64_in _ (by omega)
 have w6:IntKind.i64.wrap (ml:Int)=ml:=IntWalk.i64_in _ (by omega)
 have HA:=hid (padded_call 2 h (by decide) (by omega))
 have HB:=hid (padded_call 2 mi (by decide) (by omega))
 have HD:=hid (padded_call 2 se (by decide) (by omega))
 have HE:=hid (padded_call 3 ml (by decide) (by omega))
 obtain⟨a,ha⟩:∃a:ByteArray,a=⟨(padB 2 h).toArray⟩:=⟨_,rfl⟩
 obtain⟨b,hb⟩:∃a:ByteArray,a=⟨(padB 2 mi).toArray⟩:=⟨_,rfl⟩
 obtain⟨c,hc⟩:∃a:ByteArray,a=⟨(padB 2 se).toArray⟩:=⟨_,rfl⟩
 obtain⟨d,hd⟩:∃a:ByteArray,a=⟨(padB 3 ml).toArray⟩:=⟨_,rfl⟩
 rw[←ha] at HA;rw[←hb] at HB;rw[←hc] at HD;rw[←hd] at HE
 have za:a.size=2:=by rw[ha,bSize,padB_len 2 _ (by omega) (by decide)]
 have zb:b.size=2:=by rw[hb,bSize,padB_len 2 _ (by omega) (by decide)]
 have zc:c.size=2:=by rw[hc,bSize,padB_len 2 _ (by omega) (by decide)]
 have zd:d.size=3:=by rw[hd,bSize,padB_len 3 _ (by omega) (by decide)]
 have HCK:Hid (dt++(⟨#[84]⟩++a++⟨#[58]⟩++b++⟨#[58]⟩++c)=⟨(dateB dn++(84 :: (padB 2 h++58 :: (padB 2 mi++58 :: padB 2 se)))).toArray⟩):=hid (by
  rw[hdt,ha,hb,hc,show(⟨#[84]⟩:ByteArray)=⟨[84].toArray⟩ from rfl,show(⟨#[58]⟩:ByteArray)=⟨[58].toArray⟩ from rfl,bAppend,bAppend,bAppend,bAppend,bAppend,bAppend]
  simp)
 have HT:Hid (timeB n=dateB dn++(84 :: (padB 2 h++58 :: (padB 2 mi++58 :: padB 2 se)))++(if ml=0 then [] else 46 :: padB 3 ml)++[90]):=hid (by
  unfold timeB clockB;rw[←hdn,←hr,←hsec,←hh,←hmi,←hse,←hml];simp)
 have HDV:=hid hd
 have HMS:=hid hml
 clear hdn hr hdt ha hb hc hd hsec hh hmi hse hml hs60 hrl hm hn
 by_cases hz:ml=0
 ·have hz':((ml:Int)==0)=true:=by simp[hz]
  have HZ:=hid hz
  clear hz
  go_enter Tryz.func137,Tryz.ntmps137
  go_wp2_with (first
   | (go_at_call 221;refine(HD.out w3 (((hT.below hb1).below hb2).below hb3)).mono ?_;rintro e w4 ⟨rfl,hb4⟩)
   | (go_at_call 221;refine(HB.out w2 ((hT.below hb1).below hb2)).mono ?_;rintro e w3 ⟨rfl,hb3⟩)
   | (go_at_call 221;refine(HA.out w1 (hT.below hb1)).mono ?_;rintro e w2 ⟨rfl,hb2⟩)
   | (go_at_call 136;refine(HC.out w hT).mono ?_;rintro e w1 ⟨rfl,hb1⟩)
   | (go_at_call 222;refine HS.out.mono ?_;rintro e w0 ⟨rfl,rfl⟩))
  refine bodyPost_ret (v:=.tuple #[.string (dt++(⟨#[84]⟩++a++⟨#[58]⟩++b++⟨#[58]⟩++c)++⟨#[90]⟩),.int .i64 0]) (by simp[results,Tryz.results137,go_sem]) rfl ?_
  have hb:=hb1.trans (hb2.mono hb1.size)
  have hb':=hb.trans (hb3.mono hb.size)
  refine⟨?_,hb'.trans (hb4.mono hb'.size)⟩
  rw[HCK.out,show(⟨#[90]⟩:ByteArray)=⟨[90].toArray⟩ from rfl,bAppend,HT.out,if_pos HZ.out]
  simp
 ·have hz':((ml:Int)==0)=false:=by simp[hz]
  have HZ:=hid hz
  clear hz
  go_enter Tryz.func137,Tryz.ntmps137
  go_wp2_with (first
   | (go_at_call 221;refine(HE.out w4 ((((hT.below hb1).below hb2).below hb3).below hb4)).mono ?_;rintro e w5 ⟨rfl,hb5⟩)
   | (go_at_call 221;refine(HD.out w3 (((hT.below hb1).below hb2).below hb3)).mono ?_;rintro e w4 ⟨rfl,hb4⟩)
   | (go_at_call 221;refine(HB.out w2 ((hT.below hb1).below hb2)).mono ?_;rintro e w3 ⟨rfl,hb3⟩)
   | (go_at_call 221;refine(HA.out w1 (hT.below hb1)).mono ?_;rintro e w2 ⟨rfl,hb2⟩)
   | (go_at_call 136;refine(HC.out w hT).mono ?_;rintro e w1 ⟨rfl,hb1⟩)
   | (go_at_call 222;refine HS.out.mono ?_;rintro e w0 ⟨rfl,rfl⟩))
  refine bodyPost_ret (v:=.tuple #[.string (dt++(⟨#[84]⟩++a++⟨#[58]⟩++b++⟨#[58]⟩++c)++(⟨#[46]⟩++d)++⟨#[90]⟩),.int .i64 0]) (by simp[results,Tryz.results137,go_sem]) rfl ?_
  have hb:=hb1.trans (hb2.mono hb1.size)
  have hb':=hb.trans (hb3.mono hb.size)
  have hb'':=hb'.trans (hb4.mono hb'.size)
  refine⟨?_,hb''.trans (hb5.mono hb''.size)⟩
  rw[HCK.out,show(⟨#[90]⟩:ByteArray)=⟨[90].toArray⟩ from rfl,show(⟨#[46]⟩:ByteArray)=⟨[46].toArray⟩ from rfl,HDV.out,bAppend,bAppend,bAppend,HT.out,if_neg HZ.out]
  simp
end
end Go.Proofs.YtmgpghoamapfgaaGreatDoor
