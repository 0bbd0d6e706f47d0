/- A part. -/
import Derived.Test.YtoodnaghjpkjfaaGreatDoorSE14Mrg
namespace Go.Proofs.YtoodnaghjpkjfaaGreatDoor
open Tryz
set_option linter.unusedVariables false
set_option maxRecDepth 100000
set_option maxHeartbeats 64000000
set_option linter.unusedSimpArgs false
open Go Go.RowKit Go.Shelf
def mD (d d2:St):Bool:=decide (d.e=d2.e/\d.ps=d2.ps)
theorem yQ (c c2:VC) (d d2:Val) (w:World) (hd:IsVal (· < w.heap.size) w c d) (ac:IsVal (· < w.heap.size) w c2 d2) :
 CP 127 #[c.v,c2.v] w (Rt (.bool (cM d d2==0)) w):=by
 obtain⟨wb,aa⟩:=xe (((w.alloc (vObj c)).alloc (vObj c2)))
 have hb:BB w wb:=by rw[aa];exact((bR w).alloc lr _).alloc ge _
 have hs:=hb.size;have hc:=sE c c2 d d2 wb (hd.same λb q=>⟨by omega,hb.block b q⟩) (ac.same λb q=>⟨by omega,hb.block b q⟩);have HB:=f8 hb;rw[aa] at hc;obtain⟨ad,HC⟩:=h_2 aa hc;clear aa hb hc hs hd ac;go_enter func127,ntmps127
 go_wp2_with (go_at_call 130;refine HC.mono ?_;rintro e w1 ⟨rfl,ab⟩)
 go_ret;rw[<-ad.o] at ab;exact⟨rfl,HB.trans (ab.mono HB.size)⟩
structure TwoV (w w1:World) (c c2:MC) (d d2:Msg):Prop where
 t1:Ten w1 w.heap.size c
 t2:Ten w1 (w.heap.size+1) c2
 bel:BB w w1
 val:CP 127 #[.agg #[I6 c.b.k,I6 c.b.i,I6 c.b.s,.string c.b.t,.slice c.b.la c.b.ll c.b.lc,.slice c.b.fa c.b.fl c.b.fc],.agg #[I6 c2.b.k,I6 c2.b.i,I6 c2.b.s,.string c2.b.t,.slice c2.b.la c2.b.ll c2.b.lc,.slice c2.b.fa c2.b.fl c2.b.fc]] w1
  (Rt (.bool (cM d.b d2.b==0)) w1)
 es:IsInts (· < w1.heap.size) w1 c.a c.n c.c d.es
 es2:IsInts (· < w1.heap.size) w1 c2.a c2.n c2.c d2.es
section
theorem cX (x:Int):Lib.compareInt x x=0:=by simp[Lib.compareInt]
theorem gF {x y:Int} (h:Lib.compareInt x y=0):x=y:=by
 unfold Lib.compareInt at h
 repeat' split at h
 all_goals first|omega|cases h
theorem cmpI_zero:∀{xs ys:List Int},lB xs ys=0 ↔ xs=ys
 | [],[]=>by simp[lB]
 | [],_ :: _=>by simp[lB]
 | _ :: _,[]=>by simp[lB]
 | x :: r,y :: s=>by
   rw[lB];by_cases h:Lib.compareInt x y=0
   ·rw[f9 gv,cmpI_zero];have:=gF h;simp[this]
   ·rw[gw h];constructor
    ·intro h1;exact absurd h1 h
    ·intro h1;injection h1 with h2 _;subst h2;exact absurd (cX x) h
theorem gG:∀(xs:List UInt8),Lib.compareBytes xs xs=0
 | []=>rfl
 | a :: r=>by
   rw[Lib.compareBytes,f9 ge,f9 ge];exact gG r
mutual
theorem aBf:∀(d:Val),cM d d=0
 | .mk k i s t l ns fs=>by
   rw[cM,cX,cX,cX,gG,xZ l,yC fs ns];rfl
theorem xZ:∀(l:List Val),aY l l=0
 | []=>rfl
 | d :: l=>by
   rw[aY,aBf d,f9 ge];exact xZ l
theorem yC:∀(l:List Val) (ns:List ByteArray),aW ns l ns l=0
 | [],ns=>by rw[aW]
 | d :: l,ns=>by
   rw[aW,gG,aBf d,f9 (by simp[orL])];exact yC l ns.tail
end
end
theorem aLw (x y:Int) (w:World):CP 184 #[I6 x,I6 y] w λe w'=>e=.returned (I6 (Lib.compareInt x y))/\w=w':=by
 go_enter func184,ntmps184
 go_wp2_with (go_at_call 182;refine(Tryz.cmp_Compare_int _ _ _).mono ?_;rintro e w' ⟨rfl,rfl⟩)
 go_ret;exact⟨rfl,rfl⟩
theorem aD5 (S S':Nat->Prop) (a a':Option Addr) (n c n' c':Nat) (xs ys:List Int) (w:World) (hx:IsInts S w a n c xs) (hy:IsInts S' w a' n' c' ys) :
 CP 183 #[Sl a n c,Sl a' n' c',.func (.func 184) #[] #[]] w λe w'=>e=.returned (I6 (lB xs ys))/\w=w':=by
 have au:∀args w,(callFunc 184 args).run prog w=.ok (.enter 184 args) w:=jd func184 gd rfl;have al:=hx.big;have ai:=hy.big;have HL:=f8 hx.len;have ad:=f8 hy.len;obtain⟨HX,HY⟩:=h_2 hx hy;clear hx hy;go_enter func183,ntmps183
 go_wp2
 go_loop [13] (λi=>∃k:Nat,k<=n/\k<=n'/\i=I6 k/\lB xs ys=lB (xs.drop k) (ys.drop k)) (λi=>n-(intOf i).toNat)
 case atStart=>exact⟨0,ii _,ii _,rfl,rfl⟩
 case round =>
  obtain⟨k,hk,ap,rfl,ab⟩:=hrel;have HA:=f8 ab;clear ab;have an:(n:Int)<=9223372036854775807:=ga
  have aj:(n':Int)<=9223372036854775807:=ga
  by_cases ar:k<n
  ·have af:k<xs.length:=by have:=HL.o;omega
   obtain⟨b,o,rfl,hb,hc⟩:=HX.slot (show 0<n by omega);have ao:=hc k af;clear hc;have am:(k:Int)<(n:Int):=ga
   by_cases ag:k<n'
   ·have ac:k<ys.length:=by have:=ad.o;omega
    obtain⟨b',o',rfl,aq,ak⟩:=HY.slot (show 0<n' by omega);have ah:=ak k ac;clear ak;have aa:(k:Int)<(n':Int):=ga
    have hd:=aLu xs ys k af ac;obtain⟨z,hz⟩:=xe (xs[k])
    obtain⟨y,hy⟩:=xe (ys[k])
    rw[<-hz,<-hy] at hd;rw[<-hz] at ao;rw[<-hy] at ah;clear hz hy;obtain⟨r,hr⟩:=xe (Lib.compareInt z y)
    rw[<-hr] at hd;have HD:=f8 hd;have ae:=(aLw z y w)
    rw[<-hr] at ae;have HC:=f8 ae;clear hr hd ae;by_cases h0:r=0
    ·subst h0;go_wp2_with (go_at_call 184;refine HC.mono ?_;rintro e w' ⟨rfl,rfl⟩)
     go_round
     case rel=>exact⟨k+1,by omega,by omega,by go_num,by rw[HA.o,HD.o,f9 ge]⟩
     case measure=>simp[intOf];omega
    ·have H0:=f8 h0;go_wp2_with (go_at_call 184;refine HC.mono ?_;rintro e w' ⟨rfl,rfl⟩)
     go_ret;exact⟨by rw[HA.o,HD.o,gw H0.o];rfl,rfl⟩
   ·obtain rfl:k=n':=ga
    have r:=f8 (HA.trans (aLt xs ys k af ad.symm));go_wp2;go_ret;exact⟨by rw[r.o];rfl,rfl⟩
  ·obtain rfl:k=n:=ga
   by_cases ag:k<n'
   ·have aa:(k:Int)<(n':Int):=ga
    have r:=f8 (HA.trans (aI8 xs ys k HL.symm (by have:=ad.o;omega)));go_wp2;go_ret;exact⟨by rw[r.o];rfl,rfl⟩
   ·obtain rfl:k=n':=ga
    have r:=f8 (HA.trans (aOe xs ys k HL.symm ad.symm));go_wp2;go_ret;exact⟨by rw[r.o];rfl,rfl⟩
end Go.Proofs.YtoodnaghjpkjfaaGreatDoor
