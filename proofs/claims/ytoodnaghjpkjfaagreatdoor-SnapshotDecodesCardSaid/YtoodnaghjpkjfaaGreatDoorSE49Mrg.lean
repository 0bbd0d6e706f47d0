/- A part. -/
import Derived.Test.YtoodnaghjpkjfaaGreatDoorSE47Mrg
import Derived.Test.YtoodnaghjpkjfaaGreatDoorSE48Mrg
namespace Go.Proofs.YtoodnaghjpkjfaaGreatDoor
open Tryz
set_option linter.unusedVariables false
set_option maxRecDepth 100000
set_option maxHeartbeats 64000000
set_option linter.unusedSimpArgs false
open Go Go.RowKit Go.Shelf
theorem aGo (w:World):CP 7 #[.agg #[I6 0,I6 0,I6 0,Z0,Z0,Z0,Z0,Z0,Z0],.agg #[I6 0,I6 0,I6 0,Z0,Z0,Z0,Z0,Z0,Z0]] w λr w'=>r=.returned (.bool true)/\BB w w' :=
 wE 0 0 0 none none 0 0 0 w (λw' _=>(pY w').mono λr w2 h=>⟨h.1,by rw[h.2];exact gx _ _⟩)
section
attribute [-go_sem] loadCellsFrom storeCells
attribute [local go_sem] mG mF mB mA
theorem vY (s:ByteArray) (w:World) (hT:Tabs w) (hZ:ZTab w) (hN:NumVars w) :
 CP 3 #[Sv s] w (Rt (.bool true) w):=by
 obtain⟨m,hm⟩:=xe (min s.size 4000:Nat)
 have aq:min (s.size:Int) 4000=(m:Int):=ga
 have a3:m<=s.size:=ga
 have ap:(m:Int)<=(s.size:Int):=ga
 have a1:(0:Int)<=(m:Int):=ga
 obtain⟨t,ax⟩:∃t,s.extract 0 m=t:=⟨_,rfl⟩
 have ht:t.size<=4000:=by rw[<-ax,k9];omega
 have HD:=f8 (aLk t ht w hT hZ hN);have HV:=f8 (λ(W:World) (h:BB w W)=>(ie (hT.below h) (ie (hZ.below h) (hN.below h))));clear hm a3 hT hZ hN ht;go_enter func3,ntmps3
 go_upto_region 2 with (fail)
 have ae:(prog.info? 30).map (·.size)=some 9:=by kernel_rfl
 have a4:=f8 ae;clear aq ap a1 ax ae;have aw:=f8 (λ(w1:World) (vs:List Value) (hl:vs.length=9) (h1:∀v∈vs,v.oneCell'=true)=>vR w1 30 #[I6 0,I6 0,I6 0,Z0,Z0,Z0,Z0,Z0,Z0] vs (by rw[hl];exact a4.o) hl.symm h1)
 go_upto_region 3 with (go_at_call 5;refine HD.mono ?_;rintro e w1 ⟨⟨c,d,rfl,hd,hB,ai⟩|rfl,ah⟩<;>(first|have sq:=aw.o w1 [I6 c.v,I6 c.e,I6 c.t,.slice c.na c.nl c.nc,.slice c.aa c.al c.ac,.slice c.sa c.sl c.sc,.slice c.qa c.ql c.qc,.slice c.la c.ll c.lc,.slice c.pa c.pl c.pc] rfl gj|have sq:=aw.o w1 [I6 0,I6 0,I6 0,Z0,Z0,Z0,Z0,Z0,Z0] rfl gj))
 ·clear sq;obtain⟨T,hT⟩:=xe w1.heap.size
  obtain⟨w2,ag⟩:=xe (w1.alloc (.cells #[I6 c.v,I6 c.e,I6 c.t,Sl c.na c.nl c.nc,Sl c.aa c.al c.ac,Sl c.sa c.sl c.sc,Sl c.qa c.ql c.qc,Sl c.la c.ll c.lc,Sl c.pa c.pl c.pc] 30))
  rw[<-ag,<-hT];have ak:w2.heap[T]?=some (.cells #[I6 c.v,I6 c.e,I6 c.t,Sl c.na c.nl c.nc,Sl c.aa c.al c.ac,Sl c.sa c.sl c.sc,Sl c.qa c.ql c.qc,Sl c.la c.ll c.lc,Sl c.pa c.pl c.pc] 30):=by rw[ag,hT];exact ib w1 _
  have aj:BB w w2:=by rw[ag];exact ah.alloc ah.size _
  have av:IsSn (· < w2.heap.size) w2 c d:=by
   rw[ag];exact hd.same λb hb=>⟨by rw[jb];omega,dA w1 _ _ hb.2⟩
  obtain⟨ao,ab,a2,an,a5⟩:=h_5 ak aj av hB ai;clear hT ag ak aj av hd hB ai ah;go_upto_region 7 with (go_at_call 6;refine(rV w2 (HV.o w2 ab.o).1 (HV.o w2 ab.o).2.2 (aFa w2 (HV.o w2 ab.o).1 (HV.o w2 ab.o).2.1)).mono ?_;rintro e w3 ⟨rfl,ad⟩;have am:=f8 ad;have hl:=nO (P:=prog) (vs:=[I6 c.v,I6 c.e,I6 c.t,Sl c.na c.nl c.nc,Sl c.aa c.al c.ac,Sl c.sa c.sl c.sc,Sl c.qa c.ql c.qc,Sl c.la c.ll c.lc,Sl c.pa c.pl c.pc]) (aB ad ao.o);clear ad)
  have ad:=ab.trans (am.mono ab.size);have au:IsSn (· < w3.heap.size) w3 c d:=a2.same λb hb=>⟨ix hb am.size,am.block b hb⟩
  have ai:=tH c d w3 au (HV.o w3 ad).1 (HV.o w3 ad).2.1 an.zn (λx hx=>by have:=(an.zl x hx).2;omega) (λh=>io (aAe d au an.o h) gb);rw[a5.o] at ai;obtain⟨ay,af⟩:=h_2 ai ad;have a0:(loadCellsFrom ⟨T,0,none⟩ 0 9 #[]).run prog w3=.ok #[I6 c.v,I6 c.e,I6 c.t,Sl c.na c.nl c.nc,Sl c.aa c.al c.ac,Sl c.sa c.sl c.sc,Sl c.qa c.ql c.qc,Sl c.la c.ll c.lc,Sl c.pa c.pl c.pc] w3:=hl;clear ad au ai hl;go_wp2_with (go_at_call 8;refine ay.mono ?_;rintro e w4 ⟨rfl,ar⟩)
  go_ret;exact⟨rfl,af.trans (ar.mono af.size)⟩
 ·clear sq;obtain⟨T,hT⟩:=xe w1.heap.size
  obtain⟨w2,ag⟩:=xe (w1.alloc (.cells #[I6 0,I6 0,I6 0,Z0,Z0,Z0,Z0,Z0,Z0] 30))
  rw[<-ag,<-hT];have ak:w2.heap[T]?=some (.cells #[I6 0,I6 0,I6 0,Z0,Z0,Z0,Z0,Z0,Z0] 30):=by rw[ag,hT];exact ib w1 _
  have aj:BB w w2:=by rw[ag];exact ah.alloc ah.size _
  obtain⟨ao,ab⟩:=h_2 ak aj;clear hT ag ak aj ah;go_upto_region 6 with (go_at_call 6;refine(rV w2 (HV.o w2 ab.o).1 (HV.o w2 ab.o).2.2 (aFa w2 (HV.o w2 ab.o).1 (HV.o w2 ab.o).2.1)).mono ?_;rintro e w3 ⟨rfl,ad⟩;have am:=f8 ad;have hl:=nO (P:=prog) (vs:=[I6 0,I6 0,I6 0,Z0,Z0,Z0,Z0,Z0,Z0]) (aB ad ao.o);clear ad)
  have a0:(loadCellsFrom ⟨T,0,none⟩ 0 9 #[]).run prog w3=.ok #[I6 0,I6 0,I6 0,Z0,Z0,Z0,Z0,Z0,Z0] w3:=hl;have az:=f8 (aGo w3);have af:=f8 (ab.trans (am.mono ab.size));clear hl;go_wp2_with (go_at_call 7;refine az.mono ?_;rintro e w4 ⟨rfl,ar⟩)
  go_ret;exact⟨rfl,af.trans (ar.mono af.size)⟩
end
end Go.Proofs.YtoodnaghjpkjfaaGreatDoor
