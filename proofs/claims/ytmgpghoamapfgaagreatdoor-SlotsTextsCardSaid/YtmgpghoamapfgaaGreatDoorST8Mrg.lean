/- A part. -/
import Derived.Test.YtmgpghoamapfgaaGreatDoorST7Mrg
import Derived.Test.YtmgpghoamapfgaaGreatDoorST4Mrg
namespace Go.Proofs.YtmgpghoamapfgaaGreatDoor
set_option linter.unusedVariables false
set_option maxRecDepth 100000
set_option maxHeartbeats 16000000
set_option linter.unusedSimpArgs false
section
open Go Go.RowKit Go.Shelf
def lC (d d2:St):Bool:=decide (d.e=d2.e/\d.ps=d2.ps)
theorem kS (c c2:VC) (d d2:Val) (w:World) (hd:IsVal (· < w.heap.size) w c d) (hd2:IsVal (· < w.heap.size) w c2 d2) :
 CP 155 #[c.v,c2.v] w (Rt (.bool (cN d d2==0)) w):=by
 obtain⟨wb,hwb⟩:=ez (((w.alloc (vObj c)).alloc (vObj c2)))
 have hb:BB w wb:=by rw[hwb];exact((bR w).alloc lr _).alloc gd _
 have hs:=hb.size;have hc:=gK c c2 d d2 wb (hd.same fun b q=>⟨by omega,hb.block b q⟩) (hd2.same fun b q=>⟨by omega,hb.block b q⟩);have HB:=hid hb;rw[hwb] at hc;have HWB:=hid hwb;have HC:=hid hc;clear hwb hb hc hs hd hd2;go_enter Tryz.func155,Tryz.ntmps155
 go_wp2_with (go_at_call 68;refine HC.out.mono ?_;rintro e w1 ⟨rfl,hb1⟩)
 go_ret;rw[<-HWB.out] at hb1;exact⟨rfl,HB.out.trans (hb1.mono HB.out.size)⟩
end
section
open Go Go.RowKit Go.Shelf
def gG (d d2:Msg):Bool:=lC d.st d2.st&&(decide (d.m=d2.m)&&(decide (d.es=d2.es)&&(cN d.b d2.b==0)))
structure TwoV (w w1:World) (c c2:MC) (d d2:Msg):Prop where
 t1:Ten w1 w.heap.size c
 t2:Ten w1 (w.heap.size+1) c2
 bel:BB w w1
 val:CP 155 #[.agg #[I6 c.b.k,I6 c.b.i,I6 c.b.s,.string c.b.t,.slice c.b.la c.b.ll c.b.lc,.slice c.b.fa c.b.fl c.b.fc],.agg #[I6 c2.b.k,I6 c2.b.i,I6 c2.b.s,.string c2.b.t,.slice c2.b.la c2.b.ll c2.b.lc,.slice c2.b.fa c2.b.fl c2.b.fc]] w1
  (Rt (.bool (cN d.b d2.b==0)) w1)
 es:IsInts (· < w1.heap.size) w1 c.a c.n c.c d.es
 es2:IsInts (· < w1.heap.size) w1 c2.a c2.n c2.c d2.es
theorem twoV (c c2:MC) (d d2:Msg) (w:World) (hd:IsMsg (· < w.heap.size) w c d) (hd2:IsMsg (· < w.heap.size) w c2 d2) (w1:World) (hb:BB ((w.alloc (mObj c)).alloc (mObj c2)) w1):TwoV w w1 c c2 d d2:=by
 have hb0:BB w ((w.alloc (mObj c)).alloc (mObj c2)):=((bR w).alloc lr _).alloc gd _;have hbw:BB w w1:=hb0.trans (hb.mono hb0.size);have hd1:IsMsg (· < w1.heap.size) w1 c d:=hd.same fun b h=>⟨Nat.lt_of_lt_of_le h hbw.size,hbw.block b h⟩
 have hd3:IsMsg (· < w1.heap.size) w1 c2 d2:=hd2.same fun b h=>⟨Nat.lt_of_lt_of_le h hbw.size,hbw.block b h⟩
 exact⟨tenOf (aB hb (aD _ (heap_alloc_new w _))),tenOf (aB hb (aS _ _ _ gd)),hbw,kS _ _ _ _ w1 hd1.b hd3.b,hd1.es,hd3.es⟩
end
section
open Go Go.RowKit
theorem iT (x:Int):Lib.compareInt x x=0:=by simp[Lib.compareInt]
theorem aEx {x y:Int} (h:Lib.compareInt x y=0):x=y:=by
 unfold Lib.compareInt at h
 repeat' split at h
 all_goals first | omega | cases h
theorem cmpI_zero:∀{xs ys:List Int},kH xs ys=0 ↔ xs=ys
 | [],[]=>by simp[kH]
 | [],_ :: _=>by simp[kH]
 | _ :: _,[]=>by simp[kH]
 | x :: r,y :: s=>by
   rw[kH];by_cases h:Lib.compareInt x y=0
   ·rw[if_neg gt,cmpI_zero];have:=aEx h;simp[this]
   ·rw[if_pos h];constructor
    ·intro h1;exact absurd h1 h
    ·intro h1;injection h1 with h2 _;subst h2;exact absurd (iT x) h
theorem lI:∀(xs:List UInt8),Lib.compareBytes xs xs=0
 | []=>rfl
 | a :: r=>by
   rw[Lib.compareBytes,if_neg gd,if_neg gd];exact lI r
mutual
theorem lH:∀(d:Val),cN d d=0
 | .mk k i s t l ns fs=>by
   rw[cN,iT,iT,iT,lI,wE l,wG fs ns];rfl
theorem wE:∀(l:List Val),eO l l=0
 | []=>rfl
 | d :: l=>by
   rw[eO,lH d,if_neg gd];exact wE l
theorem wG:∀(l:List Val) (ns:List ByteArray),eE ns l ns l=0
 | [],ns=>by rw[eE]
 | d :: l,ns=>by
   rw[eE,lI,lH d,if_neg (by simp[orL])];exact wG l ns.tail
end
theorem aFy (d:St):lC d d=true:=by simp[lC]
theorem aDg (d:Msg):gG d d=true:=by simp[gG,aFy,lH]
end
section
open Go Go.RowKit
theorem rU:∀{xs ys:List UInt8},Lib.compareBytes xs ys=0->xs=ys
 | [],[],_=>rfl
 | [],_ :: _,h=>by simp[Lib.compareBytes] at h
 | _ :: _,[],h=>by simp[Lib.compareBytes] at h
 | a :: r,b :: q,h=>by
   rw[Lib.compareBytes] at h;split at h
   ·simp at h
   ·rename_i h1;split at h
    ·simp at h
    ·rename_i h2;have hab:a=b:=UInt8.le_antisymm (UInt8.not_lt.1 h2) (UInt8.not_lt.1 h1);rw[hab,rU h]
end
section
open Go Go.RowKit
def lex (x y:Int):Int:=if x≠0 then x else y
theorem orL_lex (x:Int) (r:List Int):orL (x :: r)=lex x (orL r):=rfl
theorem gH {x y x' y':Int} (h:x' = -x) (h':y' = -y):lex x' y' = -lex x y:=by
 subst h;subst h';unfold lex;split<;>split<;>omega
def Tri (x y z:Int):Prop:=(x<=0->y<=0->z<=0)/\(z<=0->0<=y->x<=0)/\(0<=x->z<=0->y<=0)/\(y<=0->0<=z->0<=x)/\(0<=z->x<=0->0<=y)/\(0<=y->0<=x->0<=z)
theorem lex_tri {x y z x' y' z':Int} (h:Tri x y z) (h':Tri x' y' z'):Tri (lex x x') (lex y y') (lex z z'):=by
 unfold Tri at *;unfold lex;by_cases hx:x=0<;>by_cases hy:y=0<;>by_cases hz:z=0<;>simp only[hx,hy,hz,ne_eq,not_true_eq_false,not_false_eq_true,if_true,if_false]<;>first | exact h' | omega
def Sg (x:Int):Prop:=x = -1\/x=0\/x=1
theorem lex_sg {x y:Int} (h:Sg x) (h':Sg y):Sg (lex x y):=by unfold lex;split<;>assumption
theorem tri0:Tri 0 0 0:=by unfold Tri;omega
theorem kR (x y:Int):Lib.compareInt y x = -Lib.compareInt x y:=by unfold Lib.compareInt;split<;>split<;>(try split)<;>omega
theorem aKv (x y:Int):Sg (Lib.compareInt x y):=by unfold Lib.compareInt Sg;split<;>(try split)<;>omega
theorem aHg (x y z:Int):Tri (Lib.compareInt x y) (Lib.compareInt y z) (Lib.compareInt x z):=by
 unfold Lib.compareInt Tri;by_cases h1:x<y<;>by_cases h2:y<z<;>by_cases h3:x<z<;>by_cases h4:x > y<;>by_cases h5:y > z<;>by_cases h6:x > z<;>simp[h1,h2,h3,h4,h5,h6]<;>omega
theorem lJ (a b:UInt8) (r q:List UInt8):Lib.compareBytes (a :: r) (b :: q)=lex (Lib.compareInt a.toNat b.toNat) (Lib.compareBytes r q):=by
 rw[Lib.compareBytes,lex,Lib.compareInt];by_cases h1:a<b
 ·have:(a.toNat:Int)<b.toNat:=by have:=UInt8.lt_iff_toNat_lt.1 h1;omega
  simp[h1,this]
 ·by_cases h2:b<a
  ·have h3:(b.toNat:Int)<a.toNat:=by have:=UInt8.lt_iff_toNat_lt.1 h2;omega
   have h4:¬ (a.toNat:Int)<b.toNat:=by omega
   simp[h1,h2,h3,h4]
  ·have h3:¬ (b.toNat:Int)<a.toNat:=fun h=>h2 (UInt8.lt_iff_toNat_lt.2 ga);have h4:¬ (a.toNat:Int)<b.toNat:=fun h=>h1 (UInt8.lt_iff_toNat_lt.2 ga);simp[h1,h2,h3,h4]
theorem iE:∀(xs ys:List UInt8),Lib.compareBytes ys xs = -Lib.compareBytes xs ys
 | [],[]=>rfl
 | [],_ :: _=>rfl
 | _ :: _,[]=>rfl
 | a :: r,b :: q=>by rw[lJ,lJ];exact gH (kR _ _) (iE r q)
theorem jI:∀(xs ys:List UInt8),Sg (Lib.compareBytes xs ys)
 | [],[]=>.inr (.inl rfl)
 | [],_ :: _=>.inl rfl
 | _ :: _,[]=>.inr (.inr rfl)
 | a :: r,b :: q=>by rw[lJ];exact lex_sg (aKv _ _) (jI r q)
theorem nM:∀(xs ys zs:List UInt8),Tri (Lib.compareBytes xs ys) (Lib.compareBytes ys zs) (Lib.compareBytes xs zs)
 | [],[],[]=>tri0
 | [],[],_ :: _=>by simp only[Lib.compareBytes,Tri];omega
 | [],_ :: _,[]=>by simp only[Lib.compareBytes,Tri];omega
 | _ :: _,[],[]=>by simp only[Lib.compareBytes,Tri];omega
 | [],b :: q,c :: t=>by
   have h:=jI (b :: q) (c :: t);rw[show Lib.compareBytes [] (b :: q) = -1 from rfl,show Lib.compareBytes [] (c :: t) = -1 from rfl];simp only[Tri,Sg] at *;omega
 | a :: r,[],c :: t=>by
   have h:=jI (a :: r) (c :: t);rw[show Lib.compareBytes [] (c :: t) = -1 from rfl,show Lib.compareBytes (a :: r) []=1 from rfl];simp only[Tri,Sg] at *;omega
 | a :: r,b :: q,[]=>by
   have h:=jI (a :: r) (b :: q);rw[show Lib.compareBytes (a :: r) []=1 from rfl,show Lib.compareBytes (b :: q) []=1 from rfl];simp only[Tri,Sg] at *;omega
 | a :: r,b :: q,c :: t=>by rw[lJ,lJ,lJ];exact lex_tri (aHg _ _ _) (nM r q t)
theorem aA4 (d d':Val) (l l':List Val):eO (d :: l) (d' :: l')=lex (cN d d') (eO l l'):=by rw[eO,lex]
theorem aA5 (ns ns':List ByteArray) (d d':Val) (l l':List Val):eE ns (d :: l) ns' (d' :: l')=lex (lex (Lib.compareBytes (ns.headD ByteArray.empty).data.toList (ns'.headD ByteArray.empty).data.toList) (lex (cN d d') 0)) (eE ns.tail l ns'.tail l'):=by rw[eE,lex];rfl
mutual
theorem rT:∀(d d2:Val),cN d2 d = -cN d d2
 | .mk k i s t l ns fs,.mk k' i' s' t' l' ns' fs'=>by
   rw[cN,cN];simp only[orL_lex];exact gH (kR _ _) (gH (kR _ _) (gH (kR _ _) (gH (iE _ _) (gH (wF l l') (gH (wH fs ns ns' fs') rfl)))))
theorem wF:∀(l l':List Val),eO l' l = -eO l l'
 | [],[]=>by simp[eO]
 | [],_ :: _=>by simp[eO]
 | _ :: _,[]=>by simp[eO]
 | d :: l,d' :: l'=>by rw[aA4,aA4];exact gH (rT d d') (wF l l')
theorem wH:∀(l:List Val) (ns ns':List ByteArray) (l':List Val),eE ns' l' ns l = -eE ns l ns' l'
 | [],ns,ns',[]=>by simp[eE]
 | [],ns,ns',_ :: _=>by simp[eE]
 | _ :: _,ns,ns',[]=>by simp[eE]
 | d :: l,ns,ns',d' :: l'=>by rw[aA5,aA5];exact gH (gH (iE _ _) (gH (rT d d') rfl)) (wH l ns.tail ns'.tail l')
end
end
end Go.Proofs.YtmgpghoamapfgaaGreatDoor
