/- A part. -/
import Derived.Test.YtoodnaghjpkjfaaGreatDoorSE3Mrg
namespace Go.Proofs.YtoodnaghjpkjfaaGreatDoor
open Tryz
set_option linter.unusedVariables false
set_option maxRecDepth 100000
set_option maxHeartbeats 64000000
set_option linter.unusedSimpArgs false
open Go Go.RowKit Go.Shelf
def orL:List Int->Int
 | []=>0
 | x :: r=>if x≠0 then x else orL r
theorem aE7 (xs:List Int) (k:Nat) (h:k<xs.length):orL (xs.drop k)=if xs[k]≠0 then xs[k] else orL (xs.drop (k+1)):=by
 rw[i8 h,orL]
theorem or_call (a:Option Addr) (n c:Nat) (xs:List Int) (w:World) (aa:n=xs.length) (ag:n * 8<=140737488351232) (ad:0<n->∃b o,a=some ⟨b,o,none⟩/\∀(j:Nat) (h:j<xs.length),w.cell? ⟨b,o+j,none⟩=some (I6 xs[j])):CP 181 #[Sl a n c] w λe w'=>e=.returned (I6 (orL xs))/\w=w':=by
 obtain⟨HL,ae⟩:=h_2 aa ad;clear aa ad;go_enter func181,ntmps181
 go_wp2
 go_loop [8] (λi=>∃k:Nat,k<=n/\i=I6 k/\orL xs=orL (xs.drop k)) (λi=>n-(intOf i).toNat)
 case atStart=>exact⟨0,ii _,rfl,rfl⟩
 case round =>
  obtain⟨k,hk,rfl,ab⟩:=hrel;have HA:=f8 ab;clear ab;by_cases aj:k<n
  ·obtain⟨b,o,rfl,hc⟩:=ae.o (show 0<n by omega);have ac:k<xs.length:=by have:=HL.o;omega
   have ah:=hc k ac;clear hc;have ai:(k:Int)<(n:Int):=ga
   have af:(n:Int)<=9223372036854775807:=ga
   have hd:=aE7 xs k ac;obtain⟨z,hz⟩:=xe (xs[k])
   rw[<-hz] at ah hd;have HD:=f8 hd;clear hz hd;by_cases h0:z=0
   ·subst h0;go_wp2
    go_round
    case rel=>exact⟨k+1,by omega,by go_num,by rw[HA.o,HD.o,f9 ge]⟩
    case measure=>simp[intOf];omega
   ·have H0:=f8 h0;go_wp2;go_ret;exact⟨by rw[HA.o,HD.o,gw H0.o];rfl,rfl⟩
  ·obtain rfl:k=n:=ga
   go_wp2;go_ret;exact⟨by rw[HA.o,HL.o,km];rfl,rfl⟩
theorem aH7 (xs:List Int) (w:World) (t:TypeId) (hbig:xs.length * 8<=140737488351232):CP 181 #[Sl (So w.heap.size 0) xs.length xs.length] (w.alloc (.cells (xs.map (Value.int .i64)).toArray t)) λe w'=>e=.returned (I6 (orL xs))/\w.alloc (.cells (xs.map (Value.int .i64)).toArray t)=w' :=
 or_call _ _ _ xs _ rfl hbig λ_=>⟨_,_,rfl,λj hj=>by rw[aA (ib w _)];simp[hj]⟩
def lB:List Int->List Int->Int
 | [],[]=>0
 | [],_ :: _ => -1
 | _ :: _,[]=>1
 | x :: r,y :: s=>if Lib.compareInt x y≠0 then Lib.compareInt x y else lB r s
theorem aLu (xs ys:List Int) (k:Nat) (h:k<xs.length) (h2:k<ys.length):lB (xs.drop k) (ys.drop k)=if Lib.compareInt xs[k] ys[k]≠0 then Lib.compareInt xs[k] ys[k] else lB (xs.drop (k+1)) (ys.drop (k+1)):=by
 rw[i8 h,i8 h2,lB]
theorem aLt (xs ys:List Int) (k:Nat) (h:k<xs.length) (h2:ys.length=k):lB (xs.drop k) (ys.drop k)=1:=by
 subst h2;rw[i8 h,km,lB]
theorem aI8 (xs ys:List Int) (k:Nat) (h:xs.length=k) (h2:k<ys.length):lB (xs.drop k) (ys.drop k) = -1:=by
 subst h;rw[i8 h2,km,lB]
theorem aOe (xs ys:List Int) (k:Nat) (h:xs.length=k) (h2:ys.length=k):lB (xs.drop k) (ys.drop k)=0:=by
 subst h;rw[<-h2,km,h2,km,lB]
section
mutual
def cM:Val->Val->Int
 | .mk k i s t l ns fs,.mk k' i' s' t' l' ns' fs'=>orL [Lib.compareInt k k',Lib.compareInt i i',Lib.compareInt s s',Lib.compareBytes t.data.toList t'.data.toList,aY l l',aW ns fs ns' fs']
def aY:List Val->List Val->Int
 | [],[]=>0
 | [],_ :: _ => -1
 | _ :: _,[]=>1
 | d :: l,d' :: l'=>if cM d d'≠0 then cM d d' else aY l l'
def aW (ns:List BA):List Val->List BA->List Val->Int
 | [],_,[]=>0
 | [],_,_ :: _ => -1
 | _ :: _,_,[]=>1
 | d :: l,ns',d' :: l'=>if orL [Lib.compareBytes (ns.headD ByteArray.empty).data.toList (ns'.headD ByteArray.empty).data.toList,cM d d']≠0 then orL [Lib.compareBytes (ns.headD ByteArray.empty).data.toList (ns'.headD ByteArray.empty).data.toList,cM d d'] else aW ns.tail l ns'.tail l'
end
theorem aI5 (l l':List Val) (k:Nat) (h:k<l.length) (h2:k<l'.length):aY (l.drop k) (l'.drop k)=if cM l[k] l'[k]≠0 then cM l[k] l'[k] else aY (l.drop (k+1)) (l'.drop (k+1)):=by
 rw[i8 h,i8 h2,aY]
theorem aI4 (l l':List Val) (k:Nat) (h:k<l.length) (h2:l'.length=k):aY (l.drop k) (l'.drop k)=1:=by
 subst h2;rw[i8 h,km,aY]
theorem aFh (l l':List Val) (k:Nat) (h:l.length=k) (h2:k<l'.length):aY (l.drop k) (l'.drop k) = -1:=by
 subst h;rw[i8 h2,km,aY]
theorem aLs (l l':List Val) (k:Nat) (h:l.length=k) (h2:l'.length=k):aY (l.drop k) (l'.drop k)=0:=by
 subst h;rw[<-h2,km,h2,km,aY]
theorem xI (ns:List BA) (k:Nat) (h:k<ns.length):(ns.drop k).headD ByteArray.empty=ns[k]:=by rw[i8 h];rfl
theorem aIa (ns aa:List BA) (l l':List Val) (k:Nat) (h:k<l.length) (h2:k<l'.length) (hn:k<ns.length) (ab:k<aa.length):aW (ns.drop k) (l.drop k) (aa.drop k) (l'.drop k) =
 if orL [Lib.compareBytes ns[k].data.toList aa[k].data.toList,cM l[k] l'[k]]≠0 then orL [Lib.compareBytes ns[k].data.toList aa[k].data.toList,cM l[k] l'[k]] else aW (ns.drop (k+1)) (l.drop (k+1)) (aa.drop (k+1)) (l'.drop (k+1)):=by
 rw[i8 h,i8 h2,aW,xI ns k hn,xI aa k ab,List.tail_drop,List.tail_drop]
theorem aI9 (ns aa:List BA) (l l':List Val) (k:Nat) (h:k<l.length) (h2:l'.length=k):aW (ns.drop k) (l.drop k) (aa.drop k) (l'.drop k)=1:=by
 subst h2;rw[i8 h,km,aW]
theorem aFk (ns aa:List BA) (l l':List Val) (k:Nat) (h:l.length=k) (h2:k<l'.length):aW (ns.drop k) (l.drop k) (aa.drop k) (l'.drop k) = -1:=by
 subst h;rw[i8 h2,km,aW]
theorem aLv (ns aa:List BA) (l l':List Val) (k:Nat) (h:l.length=k) (h2:l'.length=k):aW (ns.drop k) (l.drop k) (aa.drop k) (l'.drop k)=0:=by
 subst h;rw[show l.drop l.length=[] from km,<-h2,show l'.drop l'.length=[] from km,aW]
theorem aNw (nm aa:BA) (d d2:Val)
 (ih:∀(d2:Val) (c c2:VC) (w:World),IsVal (· < w.heap.size) w c d->IsVal (· < w.heap.size) w c2 d2->CP 130 #[c.v,c2.v] w (Rt (I6 (cM d d2)) w))
 (c c2:VC) (w:World) (hd:IsVal (· < w.heap.size) w c d) (ac:IsVal (· < w.heap.size) w c2 d2) :
 CP 188 #[.agg #[Sv nm,I6 c.k,I6 c.i,I6 c.s,Sv c.t,Sl c.la c.ll c.lc,Sl c.fa c.fl c.fc],.agg #[Sv aa,I6 c2.k,I6 c2.i,I6 c2.s,Sv c2.t,Sl c2.la c2.ll c2.lc,Sl c2.fa c2.fl c2.fc]] w (Rt (I6 (orL [Lib.compareBytes nm.data.toList aa.data.toList,cM d d2])) w):=by
 have ab:f7 (BB w ((w.alloc (.cells #[Sv nm,I6 c.k,I6 c.i,I6 c.s,Sv c.t,Sl c.la c.ll c.lc,Sl c.fa c.fl c.fc] 204)).alloc (.cells #[Sv aa,I6 c2.k,I6 c2.i,I6 c2.s,Sv c2.t,Sl c2.la c2.ll c2.lc,Sl c2.fa c2.fl c2.fc] 204))):=f8 (((bR w).alloc lr _).alloc ge _);obtain⟨u,hu⟩:=xe (cM d d2)
 have HV:f7 (∀w',BB ((w.alloc (.cells #[Sv nm,I6 c.k,I6 c.i,I6 c.s,Sv c.t,Sl c.la c.ll c.lc,Sl c.fa c.fl c.fc] 204)).alloc (.cells #[Sv aa,I6 c2.k,I6 c2.i,I6 c2.s,Sv c2.t,Sl c2.la c2.ll c2.lc,Sl c2.fa c2.fl c2.fc] 204)) w'->CP 130 #[.agg #[I6 c.k,I6 c.i,I6 c.s,Sv c.t,Sl c.la c.ll c.lc,Sl c.fa c.fl c.fc],.agg #[I6 c2.k,I6 c2.i,I6 c2.s,Sv c2.t,Sl c2.la c2.ll c2.lc,Sl c2.fa c2.fl c2.fc]] w' (Rt (I6 u) w')):=f8 λw' h=>by
  rw[hu];have hb:=ab.trans (h.mono ab.size);have hs:=hb.size;exact ih d2 c c2 w' (hd.same λb q=>⟨by omega,hb.block b q⟩) (ac.same λb q=>⟨by omega,hb.block b q⟩)
 have HC:f7 (∀w',BB ((w.alloc (.cells #[Sv nm,I6 c.k,I6 c.i,I6 c.s,Sv c.t,Sl c.la c.ll c.lc,Sl c.fa c.fl c.fc] 204)).alloc (.cells #[Sv aa,I6 c2.k,I6 c2.i,I6 c2.s,Sv c2.t,Sl c2.la c2.ll c2.lc,Sl c2.fa c2.fl c2.fc] 204)) w'->Ce w' w.heap.size 0 (Sv nm)/\Ce w' w.heap.size 1 (I6 c.k)/\Ce w' w.heap.size 2 (I6 c.i)/\Ce w' w.heap.size 3 (I6 c.s)/\Ce w' w.heap.size 4 (Sv c.t)/\Ce w' w.heap.size 5 (Sl c.la c.ll c.lc)/\Ce w' w.heap.size 6 (Sl c.fa c.fl c.fc)/\w'.cell? ⟨w.heap.size+1,0,none⟩=some (Sv aa)/\w'.cell? ⟨w.heap.size+1,1,none⟩=some (I6 c2.k)/\w'.cell? ⟨w.heap.size+1,2,none⟩=some (I6 c2.i)/\w'.cell? ⟨w.heap.size+1,3,none⟩=some (I6 c2.s)/\w'.cell? ⟨w.heap.size+1,4,none⟩=some (Sv c2.t)/\w'.cell? ⟨w.heap.size+1,5,none⟩=some (Sl c2.la c2.ll c2.lc)/\w'.cell? ⟨w.heap.size+1,6,none⟩=some (Sl c2.fa c2.fl c2.fc)):=f8 λw' h=>by
  have h1:w'.heap[w.heap.size]?=some (.cells #[Sv nm,I6 c.k,I6 c.i,I6 c.s,Sv c.t,Sl c.la c.ll c.lc,Sl c.fa c.fl c.fc] 204 (0,0)):=aB h (aC _ (ib w _));have h2:w'.heap[w.heap.size+1]?=some (.cells #[Sv aa,I6 c2.k,I6 c2.i,I6 c2.s,Sv c2.t,Sl c2.la c2.ll c2.lc,Sl c2.fa c2.fl c2.fc] 204 (0,0)):=aB h (aN _ _ _ ge);exact⟨aA h1 0,aA h1 1,aA h1 2,aA h1 3,aA h1 4,aA h1 5,aA h1 6,aA h2 0,aA h2 1,aA h2 2,aA h2 3,aA h2 4,aA h2 5,aA h2 6⟩
 have R:=f8 (show orL [Lib.compareBytes nm.data.toList aa.data.toList,cM d d2]=orL [Lib.compareBytes nm.data.toList aa.data.toList,u] by rw[hu]);clear hu hd ac ih;go_enter func188,ntmps188
 go_upto_region 1 with (fail)
 refine aP 12 (λw'=>BB ((w.alloc (.cells #[Sv nm,I6 c.k,I6 c.i,I6 c.s,Sv c.t,Sl c.la c.ll c.lc,Sl c.fa c.fl c.fc] 204)).alloc (.cells #[Sv aa,I6 c2.k,I6 c2.i,I6 c2.s,Sv c2.t,Sl c2.la c2.ll c2.lc,Sl c2.fa c2.fl c2.fc] 204)) w') gd gd gd gb ((gx _ _).drew) (λhS=>?_);simp only[zdm,zdn,zdp,zdq];refine tC 0 HC ?_;refine tC 1 HC ?_;refine tC 2 HC ?_;refine tC 3 HC ?_;refine tC 5 HC ?_;refine tC 6 HC ?_;refine tC 7 HC ?_;refine tC 8 HC ?_;refine yr 4 λK hK=>?_;go_simp;go_at_call 185;refine(Tryz.strings_Compare _ _ _).mono ?_;rintro e w1 ⟨rfl,rfl⟩;refine hK.out _ _ (hS) (λhS=>?_);clear hK K
 (try simp only[Act.put,pr])
 refine yr 9 λK hK=>?_;go_simp;go_at_call 130;refine(HV.o _ hS).mono ?_;rintro e w2 ⟨rfl,ad⟩;refine hK.out _ _ (hS.trans (ad.mono hS.size)) (λhS=>?_);clear hK K
 (try simp only[Act.put,pr])
 refine yr 10 λK hK=>?_;go_simp;refine hK.out _ _ (hS.trans (((gx _ _).alloc lr _).mono hS.size)) (λhS=>?_);clear hK K
 (try simp only[Act.put,pr])
 refine yr 11 λK hK=>?_;go_simp;go_at_call 181;refine(aH7 [Lib.compareBytes nm.data.toList aa.data.toList,u] w2 _ ge).mono ?_;rintro e w3 ⟨rfl,rfl⟩;refine hK.out _ _ (hS) (λhS=>?_);clear hK K
 (try simp only[Act.put,pr])
 refine iq gd ?_ _
 (try dsimp only)
 go_wp2;go_ret;exact⟨by rw[R.o];rfl,ab.trans (hS.mono ab.size)⟩
theorem aI6 (a a':Option Addr) (n c n' c':Nat) (l l':List Val) (w:World) (aj:n=l.length) (ac:n'=l'.length) (ay:n * 88<=140737488351232) (au:n' * 88<=140737488351232) (hv:l=[]\/∃b o,a=some ⟨b,o,none⟩/\b<w.heap.size/\IsVals (· < w.heap.size) w b o l) (a7:l'=[]\/∃b o,a'=some ⟨b,o,none⟩/\b<w.heap.size/\IsVals (· < w.heap.size) w b o l')
 (ih:∀d∈l,∀(d2:Val) (c c2:VC) (w:World),IsVal (· < w.heap.size) w c d->IsVal (· < w.heap.size) w c2 d2->CP 130 #[c.v,c2.v] w (Rt (I6 (cM d d2)) w)) :
 CP 186 #[Sl a n c,Sl a' n' c',.func (.func 130) #[] #[]] w (Rt (I6 (aY l l')) w):=by
 have bg:∀args w,(callFunc 130 args).run prog w=.ok (.enter 130 args) w:=jd func130 gd rfl;obtain⟨HL,am⟩:=h_2 aj ac;clear aj ac;go_enter func186,ntmps186
 go_wp2
 go_loopw [13] (λi wr=>∃k:Nat,k<=n/\k<=n'/\i=I6 k/\aY l l'=aY (l.drop k) (l'.drop k)/\BB w wr) (λi _=>n-(intOf i).toNat)
 case atStart=>exact⟨0,ii _,ii _,rfl,rfl,gx _ _⟩
 case round =>
  obtain⟨k,hk,bb,rfl,ah,aa⟩:=hrel;have HA:=f8 ah;clear ah;have a9:=aa.size;have a4:(n:Int)<=9223372036854775807:=ga
  have av:(n':Int)<=9223372036854775807:=ga
  by_cases bd:k<n
  ·have ae:k<l.length:=by have:=HL.o;omega
   rcases hv with h0|⟨b,o,rfl,hb,hvs⟩
   ·exfalso;rw[h0] at ae;simp at ae
   obtain⟨x,hx,aq⟩:=hvs.get k ae;obtain⟨bc,ba,bh,a8,bf,be⟩:=hx.same (w':=wr) (aa.block b hb);clear hx;have az:(k:Int)<(n:Int):=ga
   by_cases ao:k<n'
   ·have ab:k<l'.length:=by have:=am.o;omega
    rcases a7 with h0|⟨b',o',rfl,hb',hvs'⟩
    ·exfalso;rw[h0] at ab;simp at ab
    have ag:(k:Int)<(n':Int):=ga
    obtain⟨wA,ad⟩:=xe (wr.alloc (.cells #[I6 x.k,I6 x.i,I6 x.s,Sv x.t,Sl x.la x.ll x.lc,Sl x.fa x.fl x.fc] 67))
    have an:BB wr wA:=by rw[ad];exact(gx _ wr).alloc lr _
    obtain⟨y,hy,aw⟩:=hvs'.get k ab;obtain⟨a6,a1,a2,a3,ax,a5⟩:=hy.same (w':=wA) ((an.block b' ga).trans (aa.block b' hb'));clear hy;obtain⟨wB,ai⟩:=xe (wA.alloc (.cells #[I6 y.k,I6 y.i,I6 y.s,Sv y.t,Sl y.la y.ll y.lc,Sl y.fa y.fl y.fc] 67))
    have af:BB wr wB:=by rw[ai];exact an.alloc an.size _
    have ap:=af.size;have a0:wB.heap[wr.heap.size]?=some (.cells #[I6 x.k,I6 x.i,I6 x.s,Sv x.t,Sl x.la x.ll x.lc,Sl x.fa x.fl x.fc] 67 (0,0)):=by rw[ai,ad];exact aC _ (ib wr _)
    have hd:=aI5 l l' k ae ab;obtain⟨r,hr⟩:=xe (cM l[k] l'[k])
    rw[<-hr] at hd;have HD:=f8 hd;have al:=ih l[k] (kc ae) l'[k] x y wB (aq.same λq hq=>⟨by omega,(af.block q ga).trans (aa.block q hq)⟩) (aw.same λq hq=>⟨by omega,(af.block q ga).trans (aa.block q hq)⟩);rw[<-hr] at al;rw[ai,ad] at al;rw[ad] at a6 a1 a2 a3 ax a5;rw[ai,ad] at af;have HC:=f8 al;have ak:=f8 (aa.trans (af.mono aa.size));clear hr hd al hvs hvs' aq aw ad ai an af a0 ap;by_cases h0:r=0
    ·subst h0;go_wp2_with (go_at_call 130;refine HC.mono ?_;rintro e w4 ⟨rfl,ar⟩)
     go_roundw
     case rel=>exact⟨k+1,by omega,by omega,by go_num,by rw[HA.o,HD.o,f9 ge],ak.trans (ar.mono ak.size)⟩
     case measure=>simp[intOf];omega
    ·have H0:=f8 h0;go_wp2_with (go_at_call 130;refine HC.mono ?_;rintro e w4 ⟨rfl,ar⟩)
     go_ret;exact⟨by rw[HA.o,HD.o,gw H0.o];rfl,ak.trans (ar.mono ak.size)⟩
   ·obtain rfl:k=n':=ga
    have r:=f8 (HA.trans (aI4 l l' k ae am.symm));clear hvs aq;go_wp2;go_ret;exact⟨by rw[r.o];rfl,aa.alloc ga _⟩
  ·obtain rfl:k=n:=ga
   by_cases ao:k<n'
   ·have ag:(k:Int)<(n':Int):=ga
    have r:=f8 (HA.trans (aFh l l' k HL.symm (by have:=am.o;omega)));go_wp2;go_ret;exact⟨by rw[r.o];rfl,aa⟩
   ·obtain rfl:k=n':=ga
    have r:=f8 (HA.trans (aLs l l' k HL.symm am.symm));go_wp2;go_ret;exact⟨by rw[r.o];rfl,aa⟩
theorem aIb (a a':Option Addr) (n c n' c':Nat) (ns ab:List BA) (l l':List Val) (w:World) (an:n=l.length) (ad:n'=l'.length) (a2:ns.length=l.length) (am:ab.length=l'.length) (a8:n * 104<=140737488351232) (a3:n' * 104<=140737488351232) (hv:l=[]\/∃b o,a=some ⟨b,o,none⟩/\b<w.heap.size/\IsFlds (· < w.heap.size) w b o ns l) (bj:l'=[]\/∃b o,a'=some ⟨b,o,none⟩/\b<w.heap.size/\IsFlds (· < w.heap.size) w b o ab l')
 (ih:∀d∈l,∀(d2:Val) (c c2:VC) (w:World),IsVal (· < w.heap.size) w c d->IsVal (· < w.heap.size) w c2 d2->CP 130 #[c.v,c2.v] w (Rt (I6 (cM d d2)) w)) :
 CP 187 #[Sl a n c,Sl a' n' c',.func (.func 188) #[] #[]] w (Rt (I6 (aW ns l ab l')) w):=by
 have bs:∀args w,(callFunc 188 args).run prog w=.ok (.enter 188 args) w:=jd func188 gd rfl;obtain⟨HL,aq⟩:=h_2 an ad;clear an ad;obtain⟨HN,a7⟩:=h_2 a2 am;clear a2 am;go_enter func187,ntmps187
 go_wp2
 go_loopw [13] (λi wr=>∃k:Nat,k<=n/\k<=n'/\i=I6 k/\aW ns l ab l'=aW (ns.drop k) (l.drop k) (ab.drop k) (l'.drop k)/\BB w wr) (λi _=>n-(intOf i).toNat)
 case atStart=>exact⟨0,ii _,ii _,rfl,rfl,gx _ _⟩
 case round =>
  obtain⟨k,hk,bn,rfl,ak,aa⟩:=hrel;have HA:=f8 ak;clear ak;have bl:=aa.size;have bg:(n:Int)<=9223372036854775807:=ga
  have a4:(n':Int)<=9223372036854775807:=ga
  by_cases bo:k<n
  ·have af:k<l.length:=by have:=HL.o;omega
   rcases hv with h0|⟨b,o,rfl,hb,hvs⟩
   ·exfalso;rw[h0] at af;simp at af
   have a5:k<ns.length:=by have:=HN.o;omega
   obtain⟨⟨av,_⟩,x,hx,a0⟩:=hvs.get HN.o k af a5;obtain⟨nx,au⟩:=xe (ns[k])
   rw[<-au] at av;have be:wr.cell? ⟨b,o+k * 7,none⟩=some (Sv nx):=(jg (w:=w) (a:=⟨b,o+k * 7,none⟩) (aa.block b hb)).trans av;clear av;obtain⟨bp,bm,bt,bk,br,bq⟩:=hx.same (w':=wr) (aa.block b hb);clear hx;have ba:(k:Int)<(n:Int):=ga
   by_cases aw:k<n'
   ·have ac:k<l'.length:=by have:=aq.o;omega
    rcases bj with h0|⟨b',o',rfl,hb',hvs'⟩
    ·exfalso;rw[h0] at ac;simp at ac
    have ah:(k:Int)<(n':Int):=ga
    obtain⟨wA,ae⟩:=xe (wr.alloc (.cells #[Sv nx,I6 x.k,I6 x.i,I6 x.s,Sv x.t,Sl x.la x.ll x.lc,Sl x.fa x.fl x.fc] 204))
    have aj:BB wr wA:=by rw[ae];exact(gx _ wr).alloc lr _
    have ai:k<ab.length:=by have:=a7.o;omega
    obtain⟨⟨az,_⟩,y,hy,a6⟩:=hvs'.get a7.o k ac ai;obtain⟨ny,ay⟩:=xe (ab[k])
    rw[<-ay] at az;have ar:wA.cell? ⟨b',o'+k * 7,none⟩=some (Sv ny):=(jg (w:=w) (a:=⟨b',o'+k * 7,none⟩) ((aj.block b' ga).trans (aa.block b' hb'))).trans az;clear az;obtain⟨bi,bc,bd,bf,a9,bh⟩:=hy.same (w':=wA) ((aj.block b' ga).trans (aa.block b' hb'));clear hy;obtain⟨wB,al⟩:=xe (wA.alloc (.cells #[Sv ny,I6 y.k,I6 y.i,I6 y.s,Sv y.t,Sl y.la y.ll y.lc,Sl y.fa y.fl y.fc] 204))
    have ag:BB wr wB:=by rw[al];exact aj.alloc aj.size _
    have ax:=ag.size;have bb:wB.heap[wr.heap.size]?=some (.cells #[Sv nx,I6 x.k,I6 x.i,I6 x.s,Sv x.t,Sl x.la x.ll x.lc,Sl x.fa x.fl x.fc] 204 (0,0)):=by rw[al,ae];exact aC _ (ib wr _)
    have hd:=aIa ns ab l l' k af ac a5 ai;rw[<-au,<-ay] at hd;obtain⟨r,hr⟩:=xe (orL [Lib.compareBytes nx.data.toList ny.data.toList,cM l[k] l'[k]])
    rw[<-hr] at hd;have HD:=f8 hd;have ap:=aNw nx ny l[k] l'[k] (ih l[k] (kc af)) x y wB (a0.same λq hq=>⟨by omega,(ag.block q ga).trans (aa.block q hq)⟩) (a6.same λq hq=>⟨by omega,(ag.block q ga).trans (aa.block q hq)⟩);rw[<-hr] at ap;rw[al,ae] at ap;rw[ae] at bi bc bd bf a9 bh ar;rw[al,ae] at ag;have HC:=f8 ap;have ao:=f8 (aa.trans (ag.mono aa.size));clear hr hd ap hvs hvs' a0 a6 ae al aj ag bb ax au ay;by_cases h0:r=0
    ·subst h0;go_wp2_with (go_at_call 188;refine HC.mono ?_;rintro e w4 ⟨rfl,a1⟩)
     go_roundw
     case rel=>exact⟨k+1,by omega,by omega,by go_num,by rw[HA.o,HD.o,f9 ge],ao.trans (a1.mono ao.size)⟩
     case measure=>simp[intOf];omega
    ·have H0:=f8 h0;go_wp2_with (go_at_call 188;refine HC.mono ?_;rintro e w4 ⟨rfl,a1⟩)
     go_ret;exact⟨by rw[HA.o,HD.o,gw H0.o];rfl,ao.trans (a1.mono ao.size)⟩
   ·obtain rfl:k=n':=ga
    have r:=f8 (HA.trans (aI9 ns ab l l' k af aq.symm));clear hvs a0;go_wp2;go_ret;exact⟨by rw[r.o];rfl,aa.alloc ga _⟩
  ·obtain rfl:k=n:=ga
   by_cases aw:k<n'
   ·have ah:(k:Int)<(n':Int):=ga
    have r:=f8 (HA.trans (aFk ns ab l l' k HL.symm (by have:=aq.o;omega)));go_wp2;go_ret;exact⟨by rw[r.o];rfl,aa⟩
   ·obtain rfl:k=n':=ga
    have r:=f8 (HA.trans (aLv ns ab l l' k HL.symm aq.symm));go_wp2;go_ret;exact⟨by rw[r.o];rfl,aa⟩
theorem aOc (d d2:Val) (ac:∀d'∈(match d with | .mk _ _ _ _ l _ _=>l),∀(d2:Val) (c c2:VC) (w:World),IsVal (· < w.heap.size) w c d'->IsVal (· < w.heap.size) w c2 d2->CP 130 #[c.v,c2.v] w (Rt (I6 (cM d' d2)) w))
 (al:∀d'∈(match d with | .mk _ _ _ _ _ _ fs=>fs),∀(d2:Val) (c c2:VC) (w:World),IsVal (· < w.heap.size) w c d'->IsVal (· < w.heap.size) w c2 d2->CP 130 #[c.v,c2.v] w (Rt (I6 (cM d' d2)) w))
 (c c2:VC) (w:World) (hd:IsVal (· < w.heap.size) w c d) (ab:IsVal (· < w.heap.size) w c2 d2) :
 CP 130 #[c.v,c2.v] w (Rt (I6 (cM d d2)) w):=by
 obtain⟨k,i,s,t,l,ns,fs⟩:=d;obtain⟨k',i',s',t',l',ae,ad⟩:=d2;dsimp only at ac al;have aa:f7 (BB w ((w.alloc (.cells #[I6 c.k,I6 c.i,I6 c.s,Sv c.t,Sl c.la c.ll c.lc,Sl c.fa c.fl c.fc] 67)).alloc (.cells #[I6 c2.k,I6 c2.i,I6 c2.s,Sv c2.t,Sl c2.la c2.ll c2.lc,Sl c2.fa c2.fl c2.fc] 67))):=f8 (((bR w).alloc lr _).alloc ge _);obtain⟨u,hu⟩:=xe (aY l l')
 obtain⟨u',ak⟩:∃u',u'=aW ns fs ae ad:=⟨_,rfl⟩
 have R:f7 (cM (.mk k i s t l ns fs) (.mk k' i' s' t' l' ae ad)=orL [Lib.compareInt c.k c2.k,Lib.compareInt c.i c2.i,Lib.compareInt c.s c2.s,Lib.compareBytes c.t.data.toList c2.t.data.toList,u,u']):=by
  obtain⟨⟨h1,h2,h3,h4,_⟩,_⟩:=hd;obtain⟨⟨g1,g2,g3,g4,_⟩,_⟩:=ab;exact f8 (by rw[cM,h1,h2,h3,h4,g1,g2,g3,g4,hu,ak])
 have HV:f7 (∀w',BB ((w.alloc (.cells #[I6 c.k,I6 c.i,I6 c.s,Sv c.t,Sl c.la c.ll c.lc,Sl c.fa c.fl c.fc] 67)).alloc (.cells #[I6 c2.k,I6 c2.i,I6 c2.s,Sv c2.t,Sl c2.la c2.ll c2.lc,Sl c2.fa c2.fl c2.fc] 67)) w'->CP 186 #[Sl c.la c.ll c.lc,Sl c2.la c2.ll c2.lc,.func (.func 130) #[] #[]] w' (Rt (I6 u) w')):=f8 λw' h=>by
  rw[hu];have hb:=aa.trans (h.mono aa.size);have hs:=hb.size;obtain⟨⟨_,_,_,_,ok,ao,_⟩,hv,_⟩:=(hd.same λb q=>⟨by omega,hb.block b q⟩:IsVal (· < w'.heap.size) w' c _)
  obtain⟨⟨_,_,_,_,af,ag,_⟩,aq,_⟩:=(ab.same λb q=>⟨by omega,hb.block b q⟩:IsVal (· < w'.heap.size) w' c2 _)
  exact aI6 _ _ _ _ _ _ l l' w' ao ag ok.l af.l hv aq ac
 have HF:f7 (∀w',BB ((w.alloc (.cells #[I6 c.k,I6 c.i,I6 c.s,Sv c.t,Sl c.la c.ll c.lc,Sl c.fa c.fl c.fc] 67)).alloc (.cells #[I6 c2.k,I6 c2.i,I6 c2.s,Sv c2.t,Sl c2.la c2.ll c2.lc,Sl c2.fa c2.fl c2.fc] 67)) w'->CP 187 #[Sl c.fa c.fl c.fc,Sl c2.fa c2.fl c2.fc,.func (.func 188) #[] #[]] w' (Rt (I6 u') w')):=f8 λw' h=>by
  rw[ak];have hb:=aa.trans (h.mono aa.size);have hs:=hb.size;obtain⟨⟨_,_,_,_,ok,_,an,am⟩,_,hf⟩:=(hd.same λb q=>⟨by omega,hb.block b q⟩:IsVal (· < w'.heap.size) w' c _)
  obtain⟨⟨_,_,_,_,af,_,aj,ah⟩,_,ap⟩:=(ab.same λb q=>⟨by omega,hb.block b q⟩:IsVal (· < w'.heap.size) w' c2 _)
  exact aIb _ _ _ _ _ _ ns ae fs ad w' an aj am ah ok.f af.f hf ap al
 have HC:f7 (∀w',BB ((w.alloc (.cells #[I6 c.k,I6 c.i,I6 c.s,Sv c.t,Sl c.la c.ll c.lc,Sl c.fa c.fl c.fc] 67)).alloc (.cells #[I6 c2.k,I6 c2.i,I6 c2.s,Sv c2.t,Sl c2.la c2.ll c2.lc,Sl c2.fa c2.fl c2.fc] 67)) w'->Ce w' w.heap.size 0 (I6 c.k)/\Ce w' w.heap.size 1 (I6 c.i)/\Ce w' w.heap.size 2 (I6 c.s)/\Ce w' w.heap.size 3 (Sv c.t)/\Ce w' w.heap.size 4 (Sl c.la c.ll c.lc)/\Ce w' w.heap.size 5 (Sl c.fa c.fl c.fc)/\w'.cell? ⟨w.heap.size+1,0,none⟩=some (I6 c2.k)/\w'.cell? ⟨w.heap.size+1,1,none⟩=some (I6 c2.i)/\w'.cell? ⟨w.heap.size+1,2,none⟩=some (I6 c2.s)/\w'.cell? ⟨w.heap.size+1,3,none⟩=some (Sv c2.t)/\w'.cell? ⟨w.heap.size+1,4,none⟩=some (Sl c2.la c2.ll c2.lc)/\w'.cell? ⟨w.heap.size+1,5,none⟩=some (Sl c2.fa c2.fl c2.fc)):=f8 λw' h=>by
  have h1:w'.heap[w.heap.size]?=some (.cells #[I6 c.k,I6 c.i,I6 c.s,Sv c.t,Sl c.la c.ll c.lc,Sl c.fa c.fl c.fc] 67 (0,0)):=aB h (aC _ (ib w _));have h2:w'.heap[w.heap.size+1]?=some (.cells #[I6 c2.k,I6 c2.i,I6 c2.s,Sv c2.t,Sl c2.la c2.ll c2.lc,Sl c2.fa c2.fl c2.fc] 67 (0,0)):=aB h (aN _ _ _ ge);exact⟨aA h1 0,aA h1 1,aA h1 2,aA h1 3,aA h1 4,aA h1 5,aA h2 0,aA h2 1,aA h2 2,aA h2 3,aA h2 4,aA h2 5⟩
 clear hu ak hd ab ac al;go_enter func130,ntmps130
 go_upto_region 1 with (fail)
 refine aP 32 (λw'=>BB ((w.alloc (.cells #[I6 c.k,I6 c.i,I6 c.s,Sv c.t,Sl c.la c.ll c.lc,Sl c.fa c.fl c.fc] 67)).alloc (.cells #[I6 c2.k,I6 c2.i,I6 c2.s,Sv c2.t,Sl c2.la c2.ll c2.lc,Sl c2.fa c2.fl c2.fc] 67)) w') gd gd gd gb ((gx _ _).drew) (λhS=>?_);simp only[zdm,zdn,zdp,zdq];refine tC 0 HC ?_;refine tC 1 HC ?_;refine tC 2 HC ?_;refine tC 3 HC ?_;refine tC 5 HC ?_;refine tC 6 HC ?_;refine tC 7 HC ?_;refine tC 8 HC ?_;refine tC 10 HC ?_;refine tC 11 HC ?_;refine tC 12 HC ?_;refine tC 13 HC ?_;refine tC 15 HC ?_;refine tC 16 HC ?_;refine tC 17 HC ?_;refine tC 18 HC ?_;refine tC 20 HC ?_;refine tC 21 HC ?_;refine tC 22 HC ?_;refine tC 23 HC ?_;refine tC 25 HC ?_;refine tC 26 HC ?_;refine tC 27 HC ?_;refine tC 28 HC ?_;refine yr 4 λK hK=>?_;go_simp;go_at_call 182;refine(Tryz.cmp_Compare_int _ _ _).mono ?_;rintro e w1 ⟨rfl,rfl⟩;refine hK.out _ _ (hS) (λhS=>?_);clear hK K
 (try simp only[Act.put,pr])
 refine yr 9 λK hK=>?_;go_simp;go_at_call 182;refine(Tryz.cmp_Compare_int _ _ _).mono ?_;rintro e w1 ⟨rfl,rfl⟩;refine hK.out _ _ (hS) (λhS=>?_);clear hK K
 (try simp only[Act.put,pr])
 refine yr 14 λK hK=>?_;go_simp;go_at_call 182;refine(Tryz.cmp_Compare_int _ _ _).mono ?_;rintro e w1 ⟨rfl,rfl⟩;refine hK.out _ _ (hS) (λhS=>?_);clear hK K
 (try simp only[Act.put,pr])
 refine yr 19 λK hK=>?_;go_simp;go_at_call 185;refine(Tryz.strings_Compare _ _ _).mono ?_;rintro e w1 ⟨rfl,rfl⟩;refine hK.out _ _ (hS) (λhS=>?_);clear hK K
 (try simp only[Act.put,pr])
 refine yr 24 λK hK=>?_;go_simp;go_at_call 186;refine(HV.o _ hS).mono ?_;rintro e w1 ⟨rfl,ai⟩;refine hK.out _ _ (hS.trans (ai.mono hS.size)) (λhS=>?_);clear hK K
 (try simp only[Act.put,pr])
 refine yr 29 λK hK=>?_;go_simp;go_at_call 187;refine(HF.o _ hS).mono ?_;rintro e w2 ⟨rfl,ai⟩;refine hK.out _ _ (hS.trans (ai.mono hS.size)) (λhS=>?_);clear hK K
 (try simp only[Act.put,pr])
 refine yr 30 λK hK=>?_;go_simp;refine hK.out _ _ (hS.trans (((gx _ _).alloc lr _).mono hS.size)) (λhS=>?_);clear hK K
 (try simp only[Act.put,pr])
 refine yr 31 λK hK=>?_;go_simp;go_at_call 181;refine(aH7 [Lib.compareInt c.k c2.k,Lib.compareInt c.i c2.i,Lib.compareInt c.s c2.s,Lib.compareBytes c.t.data.toList c2.t.data.toList,u,u'] w2 _ ge).mono ?_;rintro e w3 ⟨rfl,rfl⟩;refine hK.out _ _ (hS) (λhS=>?_);clear hK K
 (try simp only[Act.put,pr])
 refine iq gd ?_ _
 (try dsimp only)
 go_wp2;go_ret;exact⟨by rw[R.o];rfl,aa.trans (hS.mono aa.size)⟩
theorem aOd:∀(z:Nat) (d:Val),Val.sz d<=z->∀(d2:Val) (c c2:VC) (w:World),IsVal (· < w.heap.size) w c d->IsVal (· < w.heap.size) w c2 d2->CP 130 #[c.v,c2.v] w (Rt (I6 (cM d d2)) w):=by
 intro z
 induction z with
 | zero=>intro d hz;obtain⟨k,i,s,t,l,ns,fs⟩:=d;simp[Val.sz] at hz
 | succ z ih =>
   intro d hz d2 c c2 w hd aa;obtain⟨k,i,s,t,l,ns,fs⟩:=d;simp only[Val.sz] at hz;have sub:∀(r:List Val),Val.szs r<=z->∀d'∈r,Val.sz d'<=z:=λr hr d' hm=>by
    obtain⟨j,hj,rfl⟩:=n5 hm;exact io (Val.szs_get r j hj) hr
   exact aOc (.mk k i s t l ns fs) d2 (λd' hm=>ih d' (sub l ga d' hm)) (λd' hm=>ih d' (sub fs ga d' hm)) c c2 w hd aa
theorem sE (c c2:VC) (d d2:Val) (w:World) (hd:IsVal (· < w.heap.size) w c d) (hd2:IsVal (· < w.heap.size) w c2 d2):CP 130 #[c.v,c2.v] w (Rt (I6 (cM d d2)) w) :=
 aOd _ d lr d2 c c2 w hd hd2
end
end Go.Proofs.YtoodnaghjpkjfaaGreatDoor
