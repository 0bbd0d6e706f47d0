/-
  Equality: manifoldlaw29.sameStamp, manifoldlaw29.same, value.Equal, stamp.Compare's and message.Equal's parts. Condition: all can be read as data.
-/
import Derived.Test.YteladbdfiannjaaGreatDoorSP11Mrg
import Derived.Test.YteladbdfiannjaaGreatDoorSP12Mrg
namespace Go.Proofs.YteladbdfiannjaaGreatDoor
set_option linter.unusedVariables false
set_option maxRecDepth 100000
set_option maxHeartbeats 64000000
set_option linter.unusedSimpArgs false
section
open Go Go.RowKit Go.Shelf
def stEqB (d d2:St):Bool:=decide (d.e=d2.e∧d.ps=d2.ps)
theorem valEqual_call (c c2:VC) (d d2:Val) (w:World) (hd:IsVal (· < w.heap.size) w c d) (hd2:IsVal (· < w.heap.size) w c2 d2) :
 Calls Tryz.prog 115 #[c.v,c2.v] w fun e w'=>e=.returned (.bool (cmpV d d2==0))∧Below w.heap.size w w':=by
 obtain⟨wb,hwb⟩:∃wb,wb=((w.alloc (vObj c)).alloc (vObj c2)):=⟨_,rfl⟩
 have hb:Below w.heap.size w wb:=by rw[hwb];exact((Below.refl _ w).alloc (Nat.le_refl _) _).alloc (by simp) _
 have hs:=hb.size
 have hc:=compare_call c c2 d d2 wb (hd.same fun b q=>⟨by omega,hb.block b q⟩) (hd2.same fun b q=>⟨by omega,hb.block b q⟩)
 have HB:=hid hb
 rw[hwb] at hc
 have HWB:=hid hwb
 have HC:=hid hc
 clear hwb hb hc hs hd hd2
 go_enter Tryz.func115,Tryz.ntmps115
 go_wp2_with (go_at_call 106;refine HC.out.mono ?_;rintro e w1 ⟨rfl,hb1⟩)
 go_ret
 rw[←HWB.out] at hb1
 exact⟨rfl,HB.out.trans (hb1.mono HB.out.size)⟩
end
section
open Go Go.RowKit Go.Shelf
def msgEqB (d d2:Msg):Bool:=stEqB d.st d2.st&&(decide (d.m=d2.m)&&(decide (d.es=d2.es)&&(cmpV d.b d2.b==0)))
structure TwoV (w w1:World) (c c2:MC) (d d2:Msg):Prop where
 t1:Ten w1 w.heap.size c
 t2:Ten w1 (w.heap.size+1) c2
 bel:Below w.heap.size w w1
 val:Calls Tryz.prog 115 #[.agg #[.int .i64 c.b.k,.int .i64 c.b.i,.int .i64 c.b.s,.string c.b.t,.slice c.b.la c.b.ll c.b.lc,.slice c.b.fa c.b.fl c.b.fc],.agg #[.int .i64 c2.b.k,.int .i64 c2.b.i,.int .i64 c2.b.s,.string c2.b.t,.slice c2.b.la c2.b.ll c2.b.lc,.slice c2.b.fa c2.b.fl c2.b.fc]] w1
  fun e w'=>e=.returned (.bool (cmpV d.b d2.b==0))∧Below w1.heap.size w1 w'
 es:IsInts (· < w1.heap.size) w1 c.a c.n c.c d.es
 es2:IsInts (· < w1.heap.size) w1 c2.a c2.n c2.c d2.es
theorem twoV (c c2:MC) (d d2:Msg) (w:World) (hd:IsMsg (· < w.heap.size) w c d) (hd2:IsMsg (· < w.heap.size) w c2 d2) (w1:World) (hb:Below ((w.alloc (mObj c)).alloc (mObj c2)).heap.size ((w.alloc (mObj c)).alloc (mObj c2)) w1):TwoV w w1 c c2 d d2:=by
 have hb0:Below w.heap.size w ((w.alloc (mObj c)).alloc (mObj c2)):=((Below.refl _ w).alloc (Nat.le_refl _) _).alloc (by simp) _
 have hbw:Below w.heap.size w w1:=hb0.trans (hb.mono hb0.size)
 have hd1:IsMsg (· < w1.heap.size) w1 c d:=hd.same fun b h=>⟨Nat.lt_of_lt_of_le h hbw.size,hbw.block b h⟩
 have hd3:IsMsg (· < w1.heap.size) w1 c2 d2:=hd2.same fun b h=>⟨Nat.lt_of_lt_of_le h hbw.size,hbw.block b h⟩
 exact⟨tenOf (heapExt hb (heapAlloc _ (heap_alloc_new w _))),tenOf (heapExt hb (heapNewAt _ _ _ (by simp))),hbw,valEqual_call _ _ _ _ w1 hd1.b hd3.b,hd1.es,hd3.es⟩
end
section
open Go Go.RowKit
theorem cmpInt_refl (x:Int):Lib.compareInt x x=0:=by simp[Lib.compareInt]
theorem cmpInt_zero {x y:Int} (h:Lib.compareInt x y=0):x=y:=by
 unfold Lib.compareInt at h
 repeat' split at h
 all_goals first | omega | cases h
theorem cmpI_zero:∀{xs ys:List Int},cmpI xs ys=0 ↔ xs=ys
 | [],[]=>by simp[cmpI]
 | [],_ :: _=>by simp[cmpI]
 | _ :: _,[]=>by simp[cmpI]
 | x :: r,y :: s=>by
   rw[cmpI]
   by_cases h:Lib.compareInt x y=0
   ·rw[if_neg (by simpa using h),cmpI_zero]
    have:=cmpInt_zero h
    simp[this]
   ·rw[if_pos h]
    constructor
    ·intro h1;exact absurd h1 h
    ·intro h1;injection h1 with h2 _;subst h2;exact absurd (cmpInt_refl x) h
theorem cmpB_refl:∀(xs:List UInt8),Lib.compareBytes xs xs=0
 | []=>rfl
 | a :: r=>by
   rw[Lib.compareBytes,if_neg (by simp),if_neg (by simp)]
   exact cmpB_refl r
mutual
theorem cmpV_refl:∀(d:Val),cmpV d d=0
 | .mk k i s t l ns fs=>by
   rw[cmpV,cmpInt_refl,cmpInt_refl,cmpInt_refl,cmpB_refl,cmpVs_refl l,cmpFs_refl fs ns]
   rfl
theorem cmpVs_refl:∀(l:List Val),cmpVs l l=0
 | []=>rfl
 | d :: l=>by
   rw[cmpVs,cmpV_refl d,if_neg (by simp)]
   exact cmpVs_refl l
theorem cmpFs_refl:∀(l:List Val) (ns:List ByteArray),cmpFs ns l ns l=0
 | [],ns=>by rw[cmpFs]
 | d :: l,ns=>by
   rw[cmpFs,cmpB_refl,cmpV_refl d,if_neg (by simp[orL])]
   exact cmpFs_refl l ns.tail
end
theorem stEqB_refl (d:St):stEqB d d=true:=by simp[stEqB]
theorem msgEqB_refl (d:Msg):msgEqB d d=true:=by simp[msgEqB,stEqB_refl,cmpV_refl]
end
section
open Go Go.RowKit Go.Shelf
theorem cmp1_call (x y:Int) (w:World):Calls Tryz.prog 183 #[.int .i64 x,.int .i64 y] w fun e w'=>e=.returned (.int .i64 (Lib.compareInt x y))∧w=w':=by
 go_enter Tryz.func183,Tryz.ntmps183
 go_wp2_with (go_at_call 169;refine(Tryz.cmp_Compare_int _ _ _).mono ?_;rintro e w' ⟨rfl,rfl⟩)
 go_ret
 exact⟨rfl,rfl⟩
theorem cmpInts_call (S S':Nat→Prop) (a a':Option Addr) (n c n' c':Nat) (xs ys:List Int) (w:World) (hx:IsInts S w a n c xs) (hy:IsInts S' w a' n' c' ys) :
 Calls Tryz.prog 182 #[.slice a n c,.slice a' n' c',.func (.func 183) #[] #[]] w fun e w'=>e=.returned (.int .i64 (cmpI xs ys))∧w=w':=by
 have hen:∀args w,(callFunc 183 args).run Tryz.prog w=.ok (.enter 183 args) w:=enters_of Tryz.func183 (by kernel_rfl) rfl
 have hbig:=hx.big
 have hbig':=hy.big
 have HL:=hid hx.len
 have HL':=hid hy.len
 have HX:=hid hx
 have HY:=hid hy
 clear hx hy
 go_enter Tryz.func182,Tryz.ntmps182
 go_wp2
 go_loop [13] (fun i=>∃k:Nat,k≤n∧k≤n'∧i=.int .i64 k∧cmpI xs ys=cmpI (xs.drop k) (ys.drop k)) (fun i=>n-(intOf i).toNat)
 case atStart=>exact⟨0,Nat.zero_le _,Nat.zero_le _,rfl,rfl⟩
 case round =>
  obtain⟨k,hk,hk',rfl,hall⟩:=hrel
  have HA:=hid hall
  clear hall
  have hn63:(n:Int)≤9223372036854775807:=by omega
  have hn63':(n':Int)≤9223372036854775807:=by omega
  by_cases hlt:k<n
  ·have hkl:k<xs.length:=by have:=HL.out;omega
   obtain⟨b,o,rfl,hb,hc⟩:=HX.out.slot (show 0<n by omega)
   have hck:=hc k hkl
   clear hc
   have hlt':(k:Int)<(n:Int):=by omega
   by_cases hlt2:k<n'
   ·have hkl':k<ys.length:=by have:=HL'.out;omega
    obtain⟨b',o',rfl,hb',hc'⟩:=HY.out.slot (show 0<n' by omega)
    have hck':=hc' k hkl'
    clear hc'
    have hlt2':(k:Int)<(n':Int):=by omega
    have hd:=cmpI_drop xs ys k hkl hkl'
    obtain⟨z,hz⟩:∃z,z=xs[k]:=⟨_,rfl⟩
    obtain⟨y,hy⟩:∃y,y=ys[k]:=⟨_,rfl⟩
    rw[←hz,←hy] at hd
    rw[←hz] at hck
    rw[←hy] at hck'
    clear hz hy
    obtain⟨r,hr⟩:∃r,r=Lib.compareInt z y:=⟨_,rfl⟩
    rw[←hr] at hd
    have HD:=hid hd
    have hcc:=(cmp1_call z y w)
    rw[←hr] at hcc
    have HC:=hid hcc
    clear hr hd hcc
    by_cases h0:r=0
    ·subst h0
     go_wp2_with (go_at_call 183;refine HC.out.mono ?_;rintro e w' ⟨rfl,rfl⟩)
     go_round
     case rel=>exact⟨k+1,by omega,by omega,by go_num,by rw[HA.out,HD.out,if_neg (by simp)]⟩
     case measure=>simp[intOf];omega
    ·have H0:=hid h0
     go_wp2_with (go_at_call 183;refine HC.out.mono ?_;rintro e w' ⟨rfl,rfl⟩)
     go_ret
     exact⟨by rw[HA.out,HD.out,if_pos H0.out];rfl,rfl⟩
   ·obtain rfl:k=n':=by omega
    have r:=hid (HA.out.trans (cmpI_long xs ys k hkl HL'.out.symm))
    go_wp2
    go_ret
    exact⟨by rw[r.out];rfl,rfl⟩
  ·obtain rfl:k=n:=by omega
   by_cases hlt2:k<n'
   ·have hlt2':(k:Int)<(n':Int):=by omega
    have r:=hid (HA.out.trans (cmpI_short xs ys k HL.out.symm (by have:=HL'.out;omega)))
    go_wp2
    go_ret
    exact⟨by rw[r.out];rfl,rfl⟩
   ·obtain rfl:k=n':=by omega
    have r:=hid (HA.out.trans (cmpI_end xs ys k HL.out.symm HL'.out.symm))
    go_wp2
    go_ret
    exact⟨by rw[r.out];rfl,rfl⟩
end
end Go.Proofs.YteladbdfiannjaaGreatDoor
