/- A part. -/
import Derived.Test.YtoodnaghjpkjfaaGreatDoorSE15Mrg
namespace Go.Proofs.YtoodnaghjpkjfaaGreatDoor
open Tryz
set_option linter.unusedVariables false
set_option maxRecDepth 100000
set_option maxHeartbeats 64000000
set_option linter.unusedSimpArgs false
open Go Go.RowKit Go.Shelf
section
theorem rP (x:Int) (r:List Int):orL (x :: r)=0 ↔ x=0/\orL r=0:=by
 rw[orL];by_cases h:x=0
 ·simp[h]
 ·simp[h]
theorem kK:∀{xs ys:List UInt8},Lib.compareBytes xs ys=0->xs=ys
 | [],[],_=>rfl
 | [],_ :: _,h=>by simp[Lib.compareBytes] at h
 | _ :: _,[],h=>by simp[Lib.compareBytes] at h
 | a :: r,b :: q,h=>by
   rw[Lib.compareBytes] at h;split at h
   ·simp at h
   ·rename_i h1;split at h
    ·simp at h
    ·rename_i h2;have aa:a=b:=UInt8.le_antisymm (UInt8.not_lt.1 h2) (UInt8.not_lt.1 h1);rw[aa,kK h]
mutual
theorem aBe:∀(d d2:Val),cM d d2=0->cM d2 d=0
 | .mk k i s t l ns fs,.mk k' i' s' t' l' ns' fs',h=>by
   rw[cM] at h ⊢;simp only[rP] at h ⊢;obtain⟨h1,h2,h3,h4,h5,h6,h7⟩:=h;refine⟨?_,?_,?_,?_,xY l l' h5,yB fs ns ns' fs' h6,h7⟩
   ·rw[gF h1,cX]
   ·rw[gF h2,cX]
   ·rw[gF h3,cX]
   ·rw[kK h4,gG]
theorem xY:∀(l l':List Val),aY l l'=0->aY l' l=0
 | [],[],_=>rfl
 | [],_ :: _,h=>by rw[aY] at h;cases h
 | _ :: _,[],h=>by rw[aY] at h;cases h
 | d :: l,d' :: l',h=>by
   rw[aY] at h ⊢;by_cases h1:cM d d'=0
   ·rw[f9 (by simpa using h1)] at h;rw[f9 (by simpa using aBe d d' h1)];exact xY l l' h
   ·rw[gw h1] at h;exact absurd h h1
theorem yB:∀(l:List Val) (ns aa:List ByteArray) (l':List Val),aW ns l aa l'=0->aW aa l' ns l=0
 | [],ns,aa,[],_=>by rw[aW]
 | [],ns,aa,_ :: _,h=>by rw[aW] at h;cases h
 | _ :: _,ns,aa,[],h=>by rw[aW] at h;cases h
 | d :: l,ns,aa,d' :: l',h=>by
   rw[aW] at h ⊢;by_cases h1:orL [Lib.compareBytes (ns.headD ByteArray.empty).data.toList (aa.headD ByteArray.empty).data.toList,cM d d']=0
   ·rw[f9 (by simpa using h1)] at h;simp only[rP] at h1;obtain⟨h2,h3,h4⟩:=h1;have h5:orL [Lib.compareBytes (aa.headD ByteArray.empty).data.toList (ns.headD ByteArray.empty).data.toList,cM d' d]=0:=by
     simp only[rP];exact⟨by rw[kK h2,gG],aBe d d' h3,h4⟩
    rw[f9 (λh=>h h5)];exact yB l ns.tail aa.tail l' h
   ·rw[gw h1] at h;exact absurd h h1
end
end
def aFj (d d2:St):Int:=orL [Lib.compareInt d.e d2.e,lB d.ps d2.ps]
theorem aI7 (d d2:St):(aFj d d2==0)=mD d d2:=by
 rw[n8];simp only[mg,aFj,orL,mD,jw];constructor
 ·intro h;by_cases h1:Lib.compareInt d.e d2.e=0
  ·rw[f9 (by simpa using h1)] at h;by_cases h2:lB d.ps d2.ps=0
   ·exact⟨gF h1,cmpI_zero.1 h2⟩
   ·rw[gw h2] at h;exact absurd h h2
  ·rw[gw h1] at h;exact absurd h h1
 ·rintro⟨h1,h2⟩;rw[h1,h2,cX,cmpI_zero.2 rfl];rfl
theorem vT (c c2:SC) (d d2:St) (w:World) (hd:IsSt (· < w.heap.size) w c d) (ab:IsSt (· < w.heap.size) w c2 d2):CP 128 #[c.v,c2.v] w (Rt (I6 (aFj d d2)) w):=by
 have aa:f7 (BB w ((w.alloc (.cells #[I6 c.e,Sl c.a c.n c.c] 63)).alloc (.cells #[I6 c2.e,Sl c2.a c2.n c2.c] 63))):=f8 (((bR w).alloc lr _).alloc ge _);have ad:f7 (∀w',BB ((w.alloc (.cells #[I6 c.e,Sl c.a c.n c.c] 63)).alloc (.cells #[I6 c2.e,Sl c2.a c2.n c2.c] 63)) w'->CP 183 #[Sl c.a c.n c.c,Sl c2.a c2.n c2.c,.func (.func 184) #[] #[]] w' (Rt (I6 (lB d.ps d2.ps)) w')):=f8 λw' h=>by
  have hb:=aa.trans (h.mono aa.size);exact(aD5 _ _ _ _ _ _ _ _ _ _ w' (hd.ps.same (S':=λb=>b<w'.heap.size) λb q=>⟨ix q hb.size,hb.block b q⟩) (ab.ps.same (S':=λb=>b<w'.heap.size) λb q=>⟨ix q hb.size,hb.block b q⟩)).mono λe w2 ⟨he,hw⟩=>⟨he,by rw[hw];exact gx _ _⟩
 have HC:f7 (∀w',BB ((w.alloc (.cells #[I6 c.e,Sl c.a c.n c.c] 63)).alloc (.cells #[I6 c2.e,Sl c2.a c2.n c2.c] 63)) w'->Ce w' w.heap.size 0 (I6 c.e)/\Ce w' w.heap.size 1 (Sl c.a c.n c.c)/\w'.cell? ⟨w.heap.size+1,0,none⟩=some (I6 c2.e)/\w'.cell? ⟨w.heap.size+1,1,none⟩=some (Sl c2.a c2.n c2.c)):=f8 λw' h=>by
  have h0:=aB h (aC (.cells #[I6 c2.e,Sl c2.a c2.n c2.c] 63) (ib w (.cells #[I6 c.e,Sl c.a c.n c.c] 63)));have h1:=aB h (aN (w.alloc (.cells #[I6 c.e,Sl c.a c.n c.c] 63)) (.cells #[I6 c2.e,Sl c2.a c2.n c2.c] 63) (w.heap.size+1) ge);exact⟨aA h0 0,aA h0 1,aA h1 0,aA h1 1⟩
 have R:f7 (aFj d d2=orL [Lib.compareInt c.e c2.e,lB d.ps d2.ps]):=f8 (by rw[hd.e,ab.e];rfl);clear hd ab;go_enter func128,ntmps128
 go_upto_region 1 with (fail)
 refine aP 12 (λw'=>BB ((w.alloc (.cells #[I6 c.e,Sl c.a c.n c.c] 63)).alloc (.cells #[I6 c2.e,Sl c2.a c2.n c2.c] 63)) w') gd gd gd gb ((gx _ _).drew) (λhS=>?_);simp only[zdm,zdn,zdp,zdq];refine tC 0 HC ?_;refine tC 1 HC ?_;refine tC 2 HC ?_;refine tC 3 HC ?_;refine tC 5 HC ?_;refine tC 6 HC ?_;refine tC 7 HC ?_;refine tC 8 HC ?_;refine yr 4 λK hK=>?_;go_simp;go_at_call 182;refine(Tryz.cmp_Compare_int _ _ _).mono ?_;rintro e w1 ⟨rfl,rfl⟩;refine kOQ hK (hS) λhS=>?_;clear hK K
 refine yr 9 λK hK=>?_;go_simp;go_at_call 183;refine(ad.o _ hS).mono ?_;rintro e w2 ⟨rfl,ac⟩;refine kOQ hK (hS.trans (ac.mono hS.size)) λhS=>?_;clear hK K
 refine yr 10 λK hK=>?_;go_simp;refine kOQ hK (hS.trans (((gx _ _).alloc lr _).mono hS.size)) λhS=>?_;clear hK K
 refine yr 11 λK hK=>?_;go_simp;go_at_call 181;refine(aH7 [Lib.compareInt c.e c2.e,lB d.ps d2.ps] w2 _ ge).mono ?_;rintro e w3 ⟨rfl,rfl⟩;refine kOQ hK (hS) λhS=>?_;clear hK K
 refine iq gd ?_ _
 (try dsimp only)
 go_wp2;go_ret;exact⟨by rw[R.o];rfl,aa.trans (hS.mono aa.size)⟩
theorem jV (c c2:SC) (d d2:St) (w:World) (hd:IsSt (· < w.heap.size) w c d) (aa:IsSt (· < w.heap.size) w c2 d2):CP 73 #[c.v,c2.v] w (Rt (.bool (mD d d2)) w):=by
 have hb:BB w ((w.alloc (.cells #[I6 c.e,Sl c.a c.n c.c] 63)).alloc (.cells #[I6 c2.e,Sl c2.a c2.n c2.c] 63)):=(((bR w).alloc lr _).alloc ge _)
 obtain⟨u,hu⟩:=xe (aFj d d2)
 have hc:=vT c c2 d d2 ((w.alloc (.cells #[I6 c.e,Sl c.a c.n c.c] 63)).alloc (.cells #[I6 c2.e,Sl c2.a c2.n c2.c] 63)) (hd.same λb q=>⟨ix q hb.size,hb.block b q⟩) (aa.same λb q=>⟨ix q hb.size,hb.block b q⟩);rw[<-hu] at hc;obtain⟨ab,HB⟩:=h_2 hc hb;have R:=f8 (show mD d d2=(u==0) by rw[hu,aI7]);have h0:=(aC (.cells #[I6 c2.e,Sl c2.a c2.n c2.c] 63) (ib w (.cells #[I6 c.e,Sl c.a c.n c.c] 63)))
 obtain⟨e0,e1⟩:=c_2 h0;clear hc hb hd aa hu h0;go_enter func73,ntmps73
 go_wp2_with (go_at_call 128;refine ab.mono ?_;rintro e w2 ⟨rfl,ac⟩)
 go_ret;exact⟨retB R.symm,HB.trans (ac.mono HB.size)⟩
end Go.Proofs.YtoodnaghjpkjfaaGreatDoor
