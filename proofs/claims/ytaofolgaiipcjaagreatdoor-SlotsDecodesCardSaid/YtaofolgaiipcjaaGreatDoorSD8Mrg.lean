/- A part. -/
import Derived.Test.YtaofolgaiipcjaaGreatDoorSD7Mrg
import Derived.Test.YtaofolgaiipcjaaGreatDoorSD4Mrg
namespace Go.Proofs.YtaofolgaiipcjaaGreatDoor
set_option linter.unusedVariables false
set_option maxRecDepth 100000
set_option maxHeartbeats 16000000
set_option linter.unusedSimpArgs false
section
open Go Go.RowKit Go.Shelf
def jBn (d d2:St):Bool:=decide (d.e=d2.e∧d.ps=d2.ps)
theorem uF (c c2:VC) (d d2:Val) (w:World) (hd:IsVal (· < w.heap.size) w c d) (hd2:IsVal (· < w.heap.size) w c2 d2) :
 Calls Tryz.prog 50 #[c.v,c2.v] w fun e w'=>e=.returned (.bool (cmpV d d2==0))∧Below w.heap.size w w':=by
 obtain⟨wb,hwb⟩:∃wb,wb=((w.alloc (vObj c)).alloc (vObj c2)):=⟨_,rfl⟩
 have hb:Below w.heap.size w wb:=by rw[hwb];exact((bR w).alloc lr _).alloc (by simp) _
 have hs:=hb.size;have hc:=qD c c2 d d2 wb (hd.same fun b q=>⟨by omega,hb.block b q⟩) (hd2.same fun b q=>⟨by omega,hb.block b q⟩);have HB:=hid hb;rw[hwb] at hc;have HWB:=hid hwb;have HC:=hid hc;clear hwb hb hc hs hd hd2;go_enter Tryz.func50,Tryz.ntmps50
 go_wp2_with (go_at_call 72;refine HC.out.mono ?_;rintro e w1 ⟨rfl,hb1⟩)
 go_ret;rw[←HWB.out] at hb1;exact⟨rfl,HB.out.trans (hb1.mono HB.out.size)⟩
end
section
open Go Go.RowKit Go.Shelf
def uT (d d2:Msg):Bool:=jBn d.st d2.st&&(decide (d.m=d2.m)&&(decide (d.es=d2.es)&&(cmpV d.b d2.b==0)))
structure TwoV (w w1:World) (c c2:MC) (d d2:Msg):Prop where
 t1:Ten w1 w.heap.size c
 t2:Ten w1 (w.heap.size+1) c2
 bel:Below w.heap.size w w1
 val:Calls Tryz.prog 50 #[.agg #[.int .i64 c.b.k,.int .i64 c.b.i,.int .i64 c.b.s,.string c.b.t,.slice c.b.la c.b.ll c.b.lc,.slice c.b.fa c.b.fl c.b.fc],.agg #[.int .i64 c2.b.k,.int .i64 c2.b.i,.int .i64 c2.b.s,.string c2.b.t,.slice c2.b.la c2.b.ll c2.b.lc,.slice c2.b.fa c2.b.fl c2.b.fc]] w1
  fun e w'=>e=.returned (.bool (cmpV d.b d2.b==0))∧Below w1.heap.size w1 w'
 es:IsInts (· < w1.heap.size) w1 c.a c.n c.c d.es
 es2:IsInts (· < w1.heap.size) w1 c2.a c2.n c2.c d2.es
theorem twoV (c c2:MC) (d d2:Msg) (w:World) (hd:IsMsg (· < w.heap.size) w c d) (hd2:IsMsg (· < w.heap.size) w c2 d2) (w1:World) (hb:Below ((w.alloc (mObj c)).alloc (mObj c2)).heap.size ((w.alloc (mObj c)).alloc (mObj c2)) w1):TwoV w w1 c c2 d d2:=by
 have hb0:Below w.heap.size w ((w.alloc (mObj c)).alloc (mObj c2)):=((bR w).alloc lr _).alloc (by simp) _;have hbw:Below w.heap.size w w1:=hb0.trans (hb.mono hb0.size);have hd1:IsMsg (· < w1.heap.size) w1 c d:=hd.same fun b h=>⟨Nat.lt_of_lt_of_le h hbw.size,hbw.block b h⟩
 have hd3:IsMsg (· < w1.heap.size) w1 c2 d2:=hd2.same fun b h=>⟨Nat.lt_of_lt_of_le h hbw.size,hbw.block b h⟩
 exact⟨tenOf (jB hb (jD _ (heap_alloc_new w _))),tenOf (jB hb (jK _ _ _ (by simp))),hbw,uF _ _ _ _ w1 hd1.b hd3.b,hd1.es,hd3.es⟩
end
section
open Go Go.RowKit
theorem jBd (x:Int):Lib.compareInt x x=0:=by simp[Lib.compareInt]
theorem jHk {x y:Int} (h:Lib.compareInt x y=0):x=y:=by
 unfold Lib.compareInt at h
 repeat' split at h
 all_goals first | omega | cases h
theorem cmpI_zero:∀{xs ys:List Int},cmpI xs ys=0 ↔ xs=ys
 | [],[]=>by simp[cmpI]
 | [],_ :: _=>by simp[cmpI]
 | _ :: _,[]=>by simp[cmpI]
 | x :: r,y :: s=>by
   rw[cmpI];by_cases h:Lib.compareInt x y=0
   ·rw[if_neg (by simpa using h),cmpI_zero];have:=jHk h;simp[this]
   ·rw[if_pos h];constructor
    ·intro h1;exact absurd h1 h
    ·intro h1;injection h1 with h2 _;subst h2;exact absurd (jBd x) h
theorem jFy:∀(xs:List UInt8),Lib.compareBytes xs xs=0
 | []=>rfl
 | a :: r=>by
   rw[Lib.compareBytes,if_neg (by simp),if_neg (by simp)];exact jFy r
end
section
open Go Go.RowKit
theorem jFx:∀{xs ys:List UInt8},Lib.compareBytes xs ys=0→xs=ys
 | [],[],_=>rfl
 | [],_ :: _,h=>by simp[Lib.compareBytes] at h
 | _ :: _,[],h=>by simp[Lib.compareBytes] at h
 | a :: r,b :: q,h=>by
   rw[Lib.compareBytes] at h;split at h
   ·simp at h
   ·rename_i h1;split at h
    ·simp at h
    ·rename_i h2;have hab:a=b:=UInt8.le_antisymm (UInt8.not_lt.1 h2) (UInt8.not_lt.1 h1);rw[hab,jFx h]
end
section
open Go Go.RowKit
def lex (x y:Int):Int:=if x≠0 then x else y
theorem lex_neg {x y x' y':Int} (h:x' = -x) (h':y' = -y):lex x' y' = -lex x y:=by
 subst h;subst h';unfold lex;split<;>split<;>omega
def Tri (x y z:Int):Prop:=(x≤0→y≤0→z≤0)∧(z≤0→0≤y→x≤0)∧(0≤x→z≤0→y≤0)∧(y≤0→0≤z→0≤x)∧(0≤z→x≤0→0≤y)∧(0≤y→0≤x→0≤z)
theorem lex_tri {x y z x' y' z':Int} (h:Tri x y z) (h':Tri x' y' z'):Tri (lex x x') (lex y y') (lex z z'):=by
 unfold Tri at *;unfold lex;by_cases hx:x=0<;>by_cases hy:y=0<;>by_cases hz:z=0<;>simp only[hx,hy,hz,ne_eq,not_true_eq_false,not_false_eq_true,if_true,if_false]<;>first | exact h' | omega
def Sg (x:Int):Prop:=x = -1∨x=0∨x=1
theorem lex_sg {x y:Int} (h:Sg x) (h':Sg y):Sg (lex x y):=by unfold lex;split<;>assumption
theorem tri0:Tri 0 0 0:=by unfold Tri;omega
theorem jHl (x y:Int):Lib.compareInt y x = -Lib.compareInt x y:=by unfold Lib.compareInt;split<;>split<;>(try split)<;>omega
theorem jN1 (x y:Int):Sg (Lib.compareInt x y):=by unfold Lib.compareInt Sg;split<;>(try split)<;>omega
theorem jKm (x y z:Int):Tri (Lib.compareInt x y) (Lib.compareInt y z) (Lib.compareInt x z):=by
 unfold Lib.compareInt Tri;by_cases h1:x<y<;>by_cases h2:y<z<;>by_cases h3:x<z<;>by_cases h4:x > y<;>by_cases h5:y > z<;>by_cases h6:x > z<;>simp[h1,h2,h3,h4,h5,h6]<;>omega
theorem vY (a b:UInt8) (r q:List UInt8):Lib.compareBytes (a :: r) (b :: q)=lex (Lib.compareInt a.toNat b.toNat) (Lib.compareBytes r q):=by
 rw[Lib.compareBytes,lex,Lib.compareInt];by_cases h1:a<b
 ·have:(a.toNat:Int)<b.toNat:=by have:=UInt8.lt_iff_toNat_lt.1 h1;omega
  simp[h1,this]
 ·by_cases h2:b<a
  ·have h3:(b.toNat:Int)<a.toNat:=by have:=UInt8.lt_iff_toNat_lt.1 h2;omega
   have h4:¬ (a.toNat:Int)<b.toNat:=by omega
   simp[h1,h2,h3,h4]
  ·have h3:¬ (b.toNat:Int)<a.toNat:=fun h=>h2 (UInt8.lt_iff_toNat_lt.2 (by omega));have h4:¬ (a.toNat:Int)<b.toNat:=fun h=>h1 (UInt8.lt_iff_toNat_lt.2 (by omega));simp[h1,h2,h3,h4]
theorem yS:∀(xs ys:List UInt8),Lib.compareBytes ys xs = -Lib.compareBytes xs ys
 | [],[]=>rfl
 | [],_ :: _=>rfl
 | _ :: _,[]=>rfl
 | a :: r,b :: q=>by rw[vY,vY];exact lex_neg (jHl _ _) (yS r q)
theorem xX:∀(xs ys:List UInt8),Sg (Lib.compareBytes xs ys)
 | [],[]=>.inr (.inl rfl)
 | [],_ :: _=>.inl rfl
 | _ :: _,[]=>.inr (.inr rfl)
 | a :: r,b :: q=>by rw[vY];exact lex_sg (jN1 _ _) (xX r q)
theorem jAk:∀(xs ys zs:List UInt8),Tri (Lib.compareBytes xs ys) (Lib.compareBytes ys zs) (Lib.compareBytes xs zs)
 | [],[],[]=>tri0
 | [],[],_ :: _=>by simp only[Lib.compareBytes,Tri];omega
 | [],_ :: _,[]=>by simp only[Lib.compareBytes,Tri];omega
 | _ :: _,[],[]=>by simp only[Lib.compareBytes,Tri];omega
 | [],b :: q,c :: t=>by
   have h:=xX (b :: q) (c :: t);rw[show Lib.compareBytes [] (b :: q) = -1 from rfl,show Lib.compareBytes [] (c :: t) = -1 from rfl];simp only[Tri,Sg] at *;omega
 | a :: r,[],c :: t=>by
   have h:=xX (a :: r) (c :: t);rw[show Lib.compareBytes [] (c :: t) = -1 from rfl,show Lib.compareBytes (a :: r) []=1 from rfl];simp only[Tri,Sg] at *;omega
 | a :: r,b :: q,[]=>by
   have h:=xX (a :: r) (b :: q);rw[show Lib.compareBytes (a :: r) []=1 from rfl,show Lib.compareBytes (b :: q) []=1 from rfl];simp only[Tri,Sg] at *;omega
 | a :: r,b :: q,c :: t=>by rw[vY,vY,vY];exact lex_tri (jKm _ _ _) (jAk r q t)
end
end Go.Proofs.YtaofolgaiipcjaaGreatDoor
