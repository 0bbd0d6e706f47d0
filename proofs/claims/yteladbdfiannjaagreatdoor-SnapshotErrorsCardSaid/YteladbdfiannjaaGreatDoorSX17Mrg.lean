/- A part. -/
import Derived.Test.YteladbdfiannjaaGreatDoorSX16Mrg
import Derived.Test.YteladbdfiannjaaGreatDoorSX4Mrg
namespace Go.Proofs.YteladbdfiannjaaGreatDoor
set_option linter.unusedVariables false
set_option maxRecDepth 100000
set_option maxHeartbeats 64000000
set_option linter.unusedSimpArgs false
section
open Go Go.RowKit Go.Shelf
def hU (d d2:St):Bool:=decide (d.e=d2.e∧d.ps=d2.ps)
theorem oP (c c2:VC) (d d2:Val) (w:World) (hd:IsVal (· < w.heap.size) w c d) (hd2:IsVal (· < w.heap.size) w c2 d2) :
 Calls Tryz.prog 115 #[c.v,c2.v] w fun e w'=>e=.returned (.bool (dJ d d2==0))∧Below w.heap.size w w':=by
 obtain⟨wb,hwb⟩:∃wb,wb=((w.alloc (vObj c)).alloc (vObj c2)):=⟨_,rfl⟩
 have hb:Below w.heap.size w wb:=by rw[hwb];exact((bR w).alloc lr _).alloc (by simp) _
 have hs:=hb.size
 have hc:=iP c c2 d d2 wb (hd.same fun b q=>⟨by omega,hb.block b q⟩) (hd2.same fun b q=>⟨by omega,hb.block b q⟩)
 have HB:=hid hb
 rw[hwb] at hc
 have HWB:=hid hwb
 have HC:=hid hc
 clear hwb hb hc hs hd hd2
 go_enter Tryz.func115,Tryz.ntmps115
 go_wp2_with (go_at_call 106;refine HC.out.mono ?_;rintro e w1 ⟨rfl,hb1⟩)
 go_ret
 rw[←HWB.out] at hb1
 exact⟨rfl,HB.out.trans (hb1.mono HB.out.size)⟩
end
section
open Go Go.RowKit Go.Shelf
end
section
open Go Go.RowKit
theorem gV (x:Int):Lib.compareInt x x=0:=by simp[Lib.compareInt]
theorem jG {x y:Int} (h:Lib.compareInt x y=0):x=y:=by
 unfold Lib.compareInt at h
 repeat' split at h
 all_goals first | omega | cases h
theorem cmpI_zero:∀{xs ys:List Int},gK xs ys=0 ↔ xs=ys
 | [],[]=>by simp[gK]
 | [],_ :: _=>by simp[gK]
 | _ :: _,[]=>by simp[gK]
 | x :: r,y :: s=>by
   rw[gK]
   by_cases h:Lib.compareInt x y=0
   ·rw[if_neg (by simpa using h),cmpI_zero]
    have:=jG h
    simp[this]
   ·rw[if_pos h]
    constructor
    ·intro h1;exact absurd h1 h
    ·intro h1;injection h1 with h2 _;subst h2;exact absurd (gV x) h
theorem qR:∀(xs:List UInt8),Lib.compareBytes xs xs=0
 | []=>rfl
 | a :: r=>by
   rw[Lib.compareBytes,if_neg (by simp),if_neg (by simp)]
   exact qR r
end
section
open Go Go.RowKit Go.Shelf
theorem aB3 (x y:Int) (w:World):Calls Tryz.prog 183 #[.int .i64 x,.int .i64 y] w fun e w'=>e=.returned (.int .i64 (Lib.compareInt x y))∧w=w':=by
 go_enter Tryz.func183,Tryz.ntmps183
 go_wp2_with (go_at_call 169;refine(Tryz.cmp_Compare_int _ _ _).mono ?_;rintro e w' ⟨rfl,rfl⟩)
 go_ret
 exact⟨rfl,rfl⟩
theorem sP (S S':Nat→Prop) (a a':Option Addr) (n c n' c':Nat) (xs ys:List Int) (w:World) (hx:IsInts S w a n c xs) (hy:IsInts S' w a' n' c' ys) :
 Calls Tryz.prog 182 #[.slice a n c,.slice a' n' c',.func (.func 183) #[] #[]] w fun e w'=>e=.returned (.int .i64 (gK xs ys))∧w=w':=by
 have hen:∀args w,(callFunc 183 args).run Tryz.prog w=.ok (.enter 183 args) w:=enters_of Tryz.func183 (by kernel_rfl) rfl
 have hbig:=hx.big
 have hbig':=hy.big
 have HL:=hid hx.len
 have HL':=hid hy.len
 have HX:=hid hx
 have HY:=hid hy
 clear hx hy
 go_enter Tryz.func182,Tryz.ntmps182
 go_wp2
 go_loop [13] (fun i=>∃k:Nat,k≤n∧k≤n'∧i=.int .i64 k∧gK xs ys=gK (xs.drop k) (ys.drop k)) (fun i=>n-(intOf i).toNat)
 case atStart=>exact⟨0,Nat.zero_le _,Nat.zero_le _,rfl,rfl⟩
 case round =>
  obtain⟨k,hk,hk',rfl,hall⟩:=hrel
  have HA:=hid hall
  clear hall
  have hn63:(n:Int)≤9223372036854775807:=by omega
  have hn63':(n':Int)≤9223372036854775807:=by omega
  by_cases hlt:k<n
  ·have hkl:k<xs.length:=by have:=HL.out;omega
   obtain⟨b,o,rfl,hb,hc⟩:=HX.out.slot (show 0<n by omega)
   have hck:=hc k hkl
   clear hc
   have hlt':(k:Int)<(n:Int):=by omega
   by_cases hlt2:k<n'
   ·have hkl':k<ys.length:=by have:=HL'.out;omega
    obtain⟨b',o',rfl,hb',hc'⟩:=HY.out.slot (show 0<n' by omega)
    have hck':=hc' k hkl'
    clear hc'
    have hlt2':(k:Int)<(n':Int):=by omega
    have hd:=aB1 xs ys k hkl hkl'
    obtain⟨z,hz⟩:∃z,z=xs[k]:=⟨_,rfl⟩
    obtain⟨y,hy⟩:∃y,y=ys[k]:=⟨_,rfl⟩
    rw[←hz,←hy] at hd
    rw[←hz] at hck
    rw[←hy] at hck'
    clear hz hy
    obtain⟨r,hr⟩:∃r,r=Lib.compareInt z y:=⟨_,rfl⟩
    rw[←hr] at hd
    have HD:=hid hd
    have hcc:=(aB3 z y w)
    rw[←hr] at hcc
    have HC:=hid hcc
    clear hr hd hcc
    by_cases h0:r=0
    ·subst h0
     go_wp2_with (go_at_call 183;refine HC.out.mono ?_;rintro e w' ⟨rfl,rfl⟩)
     go_round
     case rel=>exact⟨k+1,by omega,by omega,by go_num,by rw[HA.out,HD.out,if_neg (by simp)]⟩
     case measure=>simp[intOf];omega
    ·have H0:=hid h0
     go_wp2_with (go_at_call 183;refine HC.out.mono ?_;rintro e w' ⟨rfl,rfl⟩)
     go_ret
     exact⟨by rw[HA.out,HD.out,if_pos H0.out];rfl,rfl⟩
   ·obtain rfl:k=n':=by omega
    have r:=hid (HA.out.trans (aB0 xs ys k hkl HL'.out.symm))
    go_wp2
    go_ret
    exact⟨by rw[r.out];rfl,rfl⟩
  ·obtain rfl:k=n:=by omega
   by_cases hlt2:k<n'
   ·have hlt2':(k:Int)<(n':Int):=by omega
    have r:=hid (HA.out.trans (yE xs ys k HL.out.symm (by have:=HL'.out;omega)))
    go_wp2
    go_ret
    exact⟨by rw[r.out];rfl,rfl⟩
   ·obtain rfl:k=n':=by omega
    have r:=hid (HA.out.trans (aDi xs ys k HL.out.symm HL'.out.symm))
    go_wp2
    go_ret
    exact⟨by rw[r.out];rfl,rfl⟩
end
end Go.Proofs.YteladbdfiannjaaGreatDoor
