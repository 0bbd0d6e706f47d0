/- A part. -/
import Derived.Test.YtoodnaghjpkjfaaGreatDoorSE9Mrg
import Derived.Test.YtoodnaghjpkjfaaGreatDoorSE7Mrg
import Derived.Test.YtoodnaghjpkjfaaGreatDoorSE10Mrg
namespace Go.Proofs.YtoodnaghjpkjfaaGreatDoor
open Tryz
set_option linter.unusedVariables false
set_option maxRecDepth 100000
set_option maxHeartbeats 64000000
set_option linter.unusedSimpArgs false
open Go Go.RowKit Go.Shelf
def ZTab (w:World):Prop:=TabAt 7 Lib.deBruijn64tab w
theorem ZTab.below {w w':World} (h:ZTab w) (hb:BB w w'):ZTab w':=λj hj =>
 (jg (w:=w) (a:=⟨7,j,none⟩) (hb.block _ (o9 w _ (h j hj)))).trans (h j hj)
theorem wQ (w:World):CP 260 #[I6 16] w λe w'=>e=.returned (.bool true)/\w=w':=by
 go_enter func260,ntmps260
 go_wp2;go_ret;exact⟨rfl,rfl⟩
theorem aA1 (w:World) (hZ:ZTab w):CP 261 #[.int .u64 16] w λe w'=>e=.returned (I6 4)/\w=w':=by
 refine(Tryz.bits_TrailingZeros 16 gb w (λ_=>hZ)).mono λe w' ⟨he,hw⟩=>⟨?_,hw.symm⟩
 rw[he,show Lib.ctz 64 16=4 by decide +kernel];rfl
def digB:BA:=⟨#[48,49,50,51,52,53,54,55,56,57,97,98,99,100,101,102,103,104,105,106,107,108,109,110,111,112,113,114,115,116,117,118,119,120,121,122]⟩
theorem aHx:∀c:Nat,(h:c<16)->(digB[c]'(ix h gb)).toNat=(kT c).toNat:=by decide
theorem and15 (c:Nat) (hc:c<128):bits BinOp.and IntKind.u64 (c:Int) 15=((c % 16:Nat):Int):=by
 have h:∀c:Fin 128,bits BinOp.and IntKind.u64 ((c.val:Nat):Int) 15=((c.val % 16:Nat):Int):=by decide +kernel
 exact h ⟨c,hc⟩
theorem aF4 (c:Nat) (hc:c<16) (w:World) (hZ:ZTab w) :
 CP 200 #[Z0,.int .u64 (c:Int),I6 16,.bool false,.bool false] w (Rt (.tuple #[Z0,Sv ⟨#[kT c]⟩]) w):=by
 have HZ:=f8 (λw' (h:BB w w')=>aA1 w' (hZ.below h));have HD:=f8 (aHx c hc);have ae:¬ (16:Int)<=(c:Int):=ga
 have q0:(0:Int)<=(c:Int):=ga
 have af:(c:Int)<36:=ga
 have ac:c<36:=ga
 go_enter func200,ntmps200
 go_wp2_with (first
  | (go_at_call 261;refine(HZ.o _ ((bR w).alloc lr _)).mono ?_;rintro e w' ⟨rfl,rfl⟩)
  | (go_at_call 260;refine(wQ _).mono ?_;rintro e w' ⟨rfl,rfl⟩))
 have aa:Tryz.zeroCells294.size=65:=by kernel_rfl
 generalize Tryz.zeroCells294=A at aa ⊢
 go_loopw [1,13] (λu i wr=>u=.int .u64 (c:Int)/\i=I6 65/\wr=w.alloc (.cells A 294)) (λu _ _=>0)
 case atStart=>exact⟨rfl,rfl,rfl⟩
 case round =>
  obtain⟨rfl,rfl,rfl⟩:=hrel;go_wp2;have ab:=λW h=>run_convert_bytes_back (P:=prog) W 40 9 5 ⟨w.heap.size,64,none⟩ 1 [kT c] underlying40 underlying5 underlying9 h;simp only[py] at ab;rw[ab _ (λj hj=>by
   have ad:j=0:=by simpa using hj
   subst ad;rw[show(⟨w.heap.size,64,none⟩:Addr).add 0=⟨w.heap.size,64,none⟩ from rfl,aA (ib w _) 64];have hd:=HD.o;simp only[digB] at hd;simp[aa,hd])]
  simp only[Result.andThen];rw[o5];go_wp2;exact ig (v:=.tuple #[Z0,Sv ⟨#[kT c]⟩]) (by simp[results,results200,go_sem]) rfl ⟨rfl,(bR w).alloc lr _⟩
theorem aF3 (c:Nat) (ap:16<=c) (hc:c<128) (w:World) (hZ:ZTab w) :
 CP 200 #[Z0,.int .u64 (c:Int),I6 16,.bool false,.bool false] w (Rt (.tuple #[Z0,Sv ⟨#[kT (c / 16),kT (c % 16)]⟩]) w):=by
 have HZ:=f8 (λw' (h:BB w w')=>aA1 w' (hZ.below h));obtain⟨q,hq⟩:=xe (c / 16)
 obtain⟨r,hr⟩:=xe (c % 16)
 have ac:q<16:=ga
 have ad:r<16:=ga
 have HD:=f8 (ie (aHx q ac) (aHx r ad));have ha:=and15 c hc;rw[<-hr] at ha;have an:(16:Int)<=(c:Int):=ga
 have ao:¬ (16:Int)<=(q:Int):=ga
 have q0:(0:Int)<=(q:Int):=ga
 have r0:(0:Int)<=(r:Int):=ga
 have aq:(q:Int)<36:=ga
 have ak:(r:Int)<36:=ga
 have af:q<36:=ga
 have aj:r<36:=ga
 have al:((c:Int) / 2 ^ 4)=(q:Int):=ga
 have ai:((c:Int) / 16)=(q:Int):=ga
 rw[<-hq,<-hr];clear hq hr;go_enter func200,ntmps200
 go_wp2_with (first
  | (go_at_call 261;refine(HZ.o _ ((bR w).alloc lr _)).mono ?_;rintro e w' ⟨rfl,rfl⟩)
  | (go_at_call 260;refine(wQ _).mono ?_;rintro e w' ⟨rfl,rfl⟩))
 have ab:Tryz.zeroCells294.size=65:=by kernel_rfl
 generalize Tryz.zeroCells294=A at ab ⊢;obtain⟨A',aa⟩:∃A',A'=A.setIfInBounds 64 (.int .u8 ((kT r).toNat:Int)):=⟨_,rfl⟩
 have ag:A'.size=65:=by rw[aa];simp[ab]
 have HA:=f8 aa;clear aa
 go_loopw [1,13] (λu i wr=>(u=.int .u64 (c:Int)/\i=I6 65/\wr=w.alloc (.cells A 294))\/(u=.int .u64 (q:Int)/\i=I6 64/\wr=w.alloc (.cells A' 294))) (λu _ _=>(intOf u).toNat)
 case atStart=>exact .inl ⟨rfl,rfl,rfl⟩
 case round =>
  rcases hrel with ⟨rfl,rfl,rfl⟩|⟨rfl,rfl,rfl⟩
  ·go_wp2;obtain⟨hd,he⟩:=HD.o;simp only[digB] at hd he;refine⟨.inr ⟨rfl,rfl,?_⟩,?_⟩
   ·rw[HA.o,<-he]
   ·simp[intOf];omega
  ·go_wp2;have ae:=λW h=>run_convert_bytes_back (P:=prog) W 40 9 5 ⟨w.heap.size,63,none⟩ 2 [kT q,kT r] underlying40 underlying5 underlying9 h;simp only[im,i7,ir,Nat.reduceAdd] at ae;rw[ae _ (λj hj=>by
    obtain⟨hd,he⟩:=HD.o;simp only[digB] at hd he;have am:j<2:=hj;have ah:j=0\/j=1:=ga
    rcases ah with rfl|rfl
    ·rw[show(⟨w.heap.size,63,none⟩:Addr).add 0=⟨w.heap.size,63,none⟩ from rfl,aA (ib w _) 63];rw[mq];simp[ag,hd]
    ·rw[show(⟨w.heap.size,63,none⟩:Addr).add 1=⟨w.heap.size,64,none⟩ from rfl,aA (ib w _) 64];rw[mq,HA.o,mq];simp[ab])]
   simp only[Result.andThen];rw[o5];go_wp2;exact ig (v:=.tuple #[Z0,Sv ⟨#[kT q,kT r]⟩]) (by simp[results,results200,go_sem]) rfl ⟨rfl,(bR w).alloc lr _⟩
theorem aD0 (c:Nat) (hc:c<128) (w:World) (hZ:ZTab w) :
 CP 200 #[Z0,.int .u64 (c:Int),I6 16,.bool false,.bool false] w (Rt (.tuple #[Z0,Sv ⟨(kZ c).toArray⟩]) w):=by
 unfold kZ;by_cases h:c<16
 ·rw[gw h];exact aF4 c h w hZ
 ·rw[f9 h];exact aF3 c ga hc w hZ
theorem aLb (c:Nat) (hc:c<128) (w:World) (hZ:ZTab w) :
 CP 139 #[I6 (c:Int),I6 16] w (Rt (Sv ⟨(kZ c).toArray⟩) w):=by
 have HB:=f8 (aD0 c hc w hZ);have wc:IntKind.u64.wrap (c:Int)=(c:Int):=by rw[IntKind.wrap_u64];omega
 have c0:¬ (c:Int)<0:=ga
 clear hZ hc;go_enter func139,ntmps139
 go_wp2_with (go_at_call 200;refine HB.mono ?_;rintro e w1 ⟨rfl,aa⟩)
 go_ret;exact⟨rfl,aa⟩
theorem xN (c:Nat) (hc:c<128) (w:World) (hZ:ZTab w) :
 CP 86 #[I6 (c:Int),I6 16] w (Rt (Sv ⟨(kZ c).toArray⟩) w):=by
 have HB:=f8 (aLb c hc w hZ);clear hZ hc;go_enter func86,ntmps86
 go_wp2_with (go_at_call 139;refine HB.mono ?_;rintro e w1 ⟨rfl,aa⟩)
 go_ret;exact⟨rfl,aa⟩
theorem aNy (s:BA) (k:Nat) (h:k<s.size):Lib.byteCells (34 :: (s.data.toList.take (k+1)).flatMap dP)=Lib.byteCells (34 :: (s.data.toList.take k).flatMap dP)++Lib.byteCells (dP s[k]):=by
 rw[List.take_add_one,lQ s k h];simp[Lib.byteCells]
theorem esc_len (s:BA) (k:Nat) (h:k<=s.size) (hs:s.size<=1000000):(Lib.byteCells (34 :: (s.data.toList.take k).flatMap dP)).length<=6000001:=by
 have h1:=jJ dP 6 aF8 (s.data.toList.take k);have h2:(s.data.toList.take k).length<=k:=by simp;omega
 simp only[Lib.byteCells,jy,im];omega
theorem esc_q (b:UInt8) (c:Nat) (h:b.toNat=c) (h1:c=34\/c=92):Lib.byteCells (dP b)=[.int .u8 92]++[.int .u8 (c:Int)]:=by
 rw[dP,gw (by rw[h];exact h1)];simp[Lib.byteCells,h]
theorem esc_n (b:UInt8) (h:b.toNat=10):Lib.byteCells (dP b)=Lib.strCells ⟨#[92,110]⟩:=by
 rw[dP,f9 ga,gw h];rfl
theorem esc_r (b:UInt8) (h:b.toNat=13):Lib.byteCells (dP b)=Lib.strCells ⟨#[92,114]⟩:=by
 rw[dP,f9 ga,f9 ga,gw h];rfl
theorem esc_t (b:UInt8) (h:b.toNat=9):Lib.byteCells (dP b)=Lib.strCells ⟨#[92,116]⟩:=by
 rw[dP,f9 ga,f9 ga,f9 ga,gw h];rfl
theorem esc_c (b:UInt8) (c:Nat) (h:b.toNat=c) (h1:(c<32/\c≠10/\c≠13/\c≠9)\/c=127) (x:BA) (hx:x=⟨(kZ c).toArray⟩):Lib.byteCells (dP b)=Lib.strCells (⟨#[92,117,123]⟩++x++⟨#[125]⟩):=by
 rw[dP,f9 ga,f9 ga,f9 ga,f9 ga,gw ga,h,hx];simp[Lib.strCells,Lib.byteCells,p8]
theorem esc_p (b:UInt8) (c:Nat) (h:b.toNat=c) (h1:32<=c/\c≠34/\c≠92/\c≠127):Lib.byteCells (dP b)=[.int .u8 (c:Int)]:=by
 rw[dP,f9 ga,f9 ga,f9 ga,f9 ga,f9 ga];simp[Lib.byteCells,h]
theorem jG (s:BA) (w:World) (hs:s.size<=1000000) (hT:Tabs w) (hZ:ZTab w) :
 CP 38 #[Sv s] w (Rt (Sv ⟨(aQ s.data.toList).toArray⟩) w):=by
 have bo:=f8 (lP w);have bd:=f8 hZ;have a3:=f8 (show BB w (w.alloc (.cells #[.pointer none,Z0] 112)) from(bR w).alloc lr _);have bg:=f8 (cY w.heap.size w.heap.size [] 34 (w.alloc (.cells #[.pointer none,Z0] 112)) (lP w) ge ge);clear hT hZ;go_enter func38,ntmps38
 go_wp2_with (go_at_call 53;refine bg.mono ?_;rintro e w1 ⟨rfl,h1,a5,bi⟩)
 obtain⟨be,a0⟩:=h_2 h1 a5;clear h1 a5 bi
 go_loopw [9] (λi wr=>∃k:Nat,k<=s.size/\i=I6 k/\IsBld w.heap.size w.heap.size (Lib.byteCells (34 :: (s.data.toList.take k).flatMap dP)) wr/\Below w.heap.size w1 wr) (λi _=>s.size-(intOf i).toNat)
 case atStart=>exact⟨0,ii _,rfl,.inr (by simpa [Lib.byteCells] using be.o),gx _ _⟩
 case round =>
  obtain⟨k,hk,rfl,ah,an⟩:=hrel;obtain⟨wp,rfl⟩:=xe (wr:World)
  have af:w.heap.size<=wp.heap.size:=by have h1:=(a3.trans a0.o).size;have h2:=an.size;omega
  have a8:=f8 (bd.below ((a3.trans (a0.mono ge)).trans an));have ae:=esc_len s k hk hs;by_cases bk:k<s.size
  ·have bc:(k:Int)<(s.size:Int):=ga
   have bn:(0:Int)<=(k:Int):=ga
   have ab:=f8 (aNy s k bk);have a9:=f8 ae;have ax:=f8 (cY w.heap.size w.heap.size _ 92 wp ah ga af);have a1:=f8 (λ(x:BA) (hx:x.size<=6)=>lY w.heap.size w.heap.size _ x wp ah ga af);have ar:=f8 (λ(x:BA) (w3:World) (h3:BB wp w3) (hx:x.size<=6)=>lY w.heap.size w.heap.size _ x w3 (ah.ext h3) ga (io af h3.size));have ba:=λc:Int=>cY w.heap.size w.heap.size _ c wp ah ga af;obtain⟨a2,ag,ao⟩:=h_3 ba an af;clear ah an af ba ae;go_upto_region 8 with (fail)
   have az:s[k].toNat<256:=s[k].toNat_lt;obtain⟨c,hc⟩:∃c:Nat,s[k].toNat=c:=⟨_,rfl⟩
   rw[hc] at az ⊢;have bf:=f8 (a2.o (c:Int));have HC:=f8 hc;have hcase:c=34\/c=92\/c=10\/c=13\/c=9\/(c<32/\c≠10/\c≠13/\c≠9)\/c=127\/(32<=c/\c≠34/\c≠92/\c≠127):=ga
   clear hc;rcases hcase with hcase|hcase|hcase|hcase|hcase|hcase|hcase|hcase
   ·have ai:((c:Int)==34)=true:=by simp;omega
    have al:((c:Int)==92)=false:=by simp;omega
    have am:((c:Int)==10)=false:=by simp;omega
    have ak:((c:Int)==13)=false:=by simp;omega
    have q9:((c:Int)==9)=false:=by simp;omega
    have ac:((c:Int)==127)=false:=by simp;omega
    have aj:¬ (c:Int)<32:=ga
    have hE:=esc_q s[k] c HC.o ga;have HE:=f8 hE;clear hE hcase;go_wp2_with (first
     | (go_at_call 53;refine(cY w.heap.size w.heap.size _ (c:Int) w3 (.inr h3) (by have:=a9.o;rw[ik];simp only[im,i7];omega) (io ao.o aa.size)).mono ?_;rintro e w4 ⟨rfl,h4,ad,ay⟩)
     | (go_at_call 53;refine ax.mono ?_;rintro e w3 ⟨rfl,h3,aa,av⟩))
    go_roundw
    case rel=>exact⟨k+1,by omega,by go_num,.inr (by rw[ab.o,HE.o,<-ka];exact h4),ag.trans (aa.trans ad)⟩
    case measure=>simp[intOf];omega
   ·have ai:((c:Int)==34)=false:=by simp;omega
    have al:((c:Int)==92)=true:=by simp;omega
    have am:((c:Int)==10)=false:=by simp;omega
    have ak:((c:Int)==13)=false:=by simp;omega
    have q9:((c:Int)==9)=false:=by simp;omega
    have ac:((c:Int)==127)=false:=by simp;omega
    have aj:¬ (c:Int)<32:=ga
    have hE:=esc_q s[k] c HC.o ga;have HE:=f8 hE;clear hE hcase;go_wp2_with (first
     | (go_at_call 53;refine(cY w.heap.size w.heap.size _ (c:Int) w3 (.inr h3) (by have:=a9.o;rw[ik];simp only[im,i7];omega) (io ao.o aa.size)).mono ?_;rintro e w4 ⟨rfl,h4,ad,ay⟩)
     | (go_at_call 53;refine ax.mono ?_;rintro e w3 ⟨rfl,h3,aa,av⟩))
    go_roundw
    case rel=>exact⟨k+1,by omega,by go_num,.inr (by rw[ab.o,HE.o,<-ka];exact h4),ag.trans (aa.trans ad)⟩
    case measure=>simp[intOf];omega
   ·have ai:((c:Int)==34)=false:=by simp;omega
    have al:((c:Int)==92)=false:=by simp;omega
    have am:((c:Int)==10)=true:=by simp;omega
    have ak:((c:Int)==13)=false:=by simp;omega
    have q9:((c:Int)==9)=false:=by simp;omega
    have ac:((c:Int)==127)=false:=by simp;omega
    have aj:(c:Int)<32:=ga
    have hE:=esc_n s[k] (HC.trans ga);have HE:=f8 hE;clear hE hcase;go_wp2_with (go_at_call 65;refine(a1.o ⟨#[92,110]⟩ gb).mono ?_;rintro e w3 ⟨rfl,h3,aa,av⟩)
    go_roundw
    case rel=>exact⟨k+1,by omega,by go_num,.inr (by rw[ab.o,HE.o];exact h3),ag.trans aa⟩
    case measure=>simp[intOf];omega
   ·have ai:((c:Int)==34)=false:=by simp;omega
    have al:((c:Int)==92)=false:=by simp;omega
    have am:((c:Int)==10)=false:=by simp;omega
    have ak:((c:Int)==13)=true:=by simp;omega
    have q9:((c:Int)==9)=false:=by simp;omega
    have ac:((c:Int)==127)=false:=by simp;omega
    have aj:(c:Int)<32:=ga
    have hE:=esc_r s[k] (HC.trans ga);have HE:=f8 hE;clear hE hcase;go_wp2_with (go_at_call 65;refine(a1.o ⟨#[92,114]⟩ gb).mono ?_;rintro e w3 ⟨rfl,h3,aa,av⟩)
    go_roundw
    case rel=>exact⟨k+1,by omega,by go_num,.inr (by rw[ab.o,HE.o];exact h3),ag.trans aa⟩
    case measure=>simp[intOf];omega
   ·have ai:((c:Int)==34)=false:=by simp;omega
    have al:((c:Int)==92)=false:=by simp;omega
    have am:((c:Int)==10)=false:=by simp;omega
    have ak:((c:Int)==13)=false:=by simp;omega
    have q9:((c:Int)==9)=true:=by simp;omega
    have ac:((c:Int)==127)=false:=by simp;omega
    have aj:(c:Int)<32:=ga
    have hE:=esc_t s[k] (HC.trans ga);have HE:=f8 hE;clear hE hcase;go_wp2_with (go_at_call 65;refine(a1.o ⟨#[92,116]⟩ gb).mono ?_;rintro e w3 ⟨rfl,h3,aa,av⟩)
    go_roundw
    case rel=>exact⟨k+1,by omega,by go_num,.inr (by rw[ab.o,HE.o];exact h3),ag.trans aa⟩
    case measure=>simp[intOf];omega
   ·have ai:((c:Int)==34)=false:=by simp;omega
    have al:((c:Int)==92)=false:=by simp;omega
    have am:((c:Int)==10)=false:=by simp;omega
    have ak:((c:Int)==13)=false:=by simp;omega
    have q9:((c:Int)==9)=false:=by simp;omega
    have ac:((c:Int)==127)=false:=by simp;omega
    have aj:(c:Int)<32:=ga
    obtain⟨x,hx⟩:=xe (⟨(kZ c).toArray⟩:BA)
    have bl:x.size<=2:=by rw[hx,bE];exact xG c
    have ap:=f8 (xN c ga wp (a8.o));rw[<-hx] at ap;have hE:=esc_c s[k] c HC.o ga x hx;have aq:(⟨#[92,117,123]⟩++x++⟨#[125]⟩:BA).size<=6:=by rw[ly,ly];have:(⟨#[92,117,123]⟩:BA).size=3:=rfl;have:(⟨#[125]⟩:BA).size=1:=rfl;omega
    obtain⟨a4,HE⟩:=h_2 aq hE;clear hE hcase hx aq;go_wp2_with (first
     | (go_at_call 65;refine(ar.o _ w3 aw.o a4.o).mono ?_;rintro e w4 ⟨rfl,h4,ad,ay⟩)
     | (go_at_call 86;refine ap.mono ?_;rintro e w3 ⟨rfl,aa⟩;have aw:=f8 aa;clear aa))
    go_roundw
    case rel=>exact⟨k+1,by omega,by go_num,.inr (by rw[ab.o,HE.o];exact h4),ag.trans ((aw.mono ao.o).trans ad)⟩
    case measure=>simp[intOf];omega
   ·have ai:((c:Int)==34)=false:=by simp;omega
    have al:((c:Int)==92)=false:=by simp;omega
    have am:((c:Int)==10)=false:=by simp;omega
    have ak:((c:Int)==13)=false:=by simp;omega
    have q9:((c:Int)==9)=false:=by simp;omega
    have ac:((c:Int)==127)=true:=by simp;omega
    have aj:¬ (c:Int)<32:=ga
    obtain⟨x,hx⟩:=xe (⟨(kZ c).toArray⟩:BA)
    have bl:x.size<=2:=by rw[hx,bE];exact xG c
    have ap:=f8 (xN c ga wp (a8.o));rw[<-hx] at ap;have hE:=esc_c s[k] c HC.o ga x hx;have aq:(⟨#[92,117,123]⟩++x++⟨#[125]⟩:BA).size<=6:=by rw[ly,ly];have:(⟨#[92,117,123]⟩:BA).size=3:=rfl;have:(⟨#[125]⟩:BA).size=1:=rfl;omega
    obtain⟨a4,HE⟩:=h_2 aq hE;clear hE hcase hx aq;go_wp2_with (first
     | (go_at_call 65;refine(ar.o _ w3 aw.o a4.o).mono ?_;rintro e w4 ⟨rfl,h4,ad,ay⟩)
     | (go_at_call 86;refine ap.mono ?_;rintro e w3 ⟨rfl,aa⟩;have aw:=f8 aa;clear aa))
    go_roundw
    case rel=>exact⟨k+1,by omega,by go_num,.inr (by rw[ab.o,HE.o];exact h4),ag.trans ((aw.mono ao.o).trans ad)⟩
    case measure=>simp[intOf];omega
   ·have ai:((c:Int)==34)=false:=by simp;omega
    have al:((c:Int)==92)=false:=by simp;omega
    have am:((c:Int)==10)=false:=by simp;omega
    have ak:((c:Int)==13)=false:=by simp;omega
    have q9:((c:Int)==9)=false:=by simp;omega
    have ac:((c:Int)==127)=false:=by simp;omega
    have aj:¬ (c:Int)<32:=ga
    have hE:=esc_p s[k] c HC.o ga;have HE:=f8 hE;clear hE hcase;go_wp2_with (go_at_call 53;refine bf.mono ?_;rintro e w3 ⟨rfl,h3,aa,av⟩)
    go_roundw
    case rel=>exact⟨k+1,by omega,by go_num,.inr (by rw[ab.o,HE.o];exact h3),ag.trans aa⟩
    case measure=>simp[intOf];omega
  ·obtain rfl:k=s.size:=ga
   have a6:s.data.toList.length=s.size:=rfl;have au:s.data.toList.take s.size=s.data.toList:=mr (by rw[a6];exact gy _);rw[au] at ah ae;have a7:BB w wp:=(a3.trans (a0.mono ge)).trans an;have bm:=f8 (cY w.heap.size w.heap.size _ 34 wp ah ga af);clear a6
   have bj:f7 (∀w' ,IsBld w.heap.size w.heap.size (Lib.byteCells (aQ s.data.toList)) w'->w.heap.size<=w'.heap.size->CP 54 #[Pt w.heap.size 0] w' λe w2=>e=.returned (Sv ⟨(aQ s.data.toList).toArray⟩)/\Below w.heap.size w' w2):=f8 λw' h hn=>(Tryz.Builder_String_any_k _ _ _ w' h hn).mono λe w2 ⟨he,_,hb,_⟩=>⟨he,hb⟩
   obtain⟨bh,ao⟩:=h_2 a7 af;clear ah an au a7 ae;go_wp2_with (first
    | (go_at_call 54;refine(bj.o w4 (.inr (by have e:Lib.byteCells (aQ s.data.toList)=Lib.byteCells (34 :: s.data.toList.flatMap dP)++[.int .u8 34]:=(by simp[aQ,Lib.byteCells]);rw[e];exact h4)) (io ao.o ad.size)).mono ?_;rintro e w5 ⟨rfl,bb⟩)
    | (go_at_call 53;refine bm.mono ?_;rintro e w4 ⟨rfl,h4,ad,ay⟩))
   go_ret;exact⟨rfl,(bh.trans ad).trans bb⟩
def lowB:BA:=⟨#[48,49,50,51,52,53,54,55,56,57,97,98,99,100,101,102]⟩
theorem aN9:∀c:Nat,c<16->lowB.extract c (c+1)=⟨#[kT c]⟩:=by decide
theorem aLq (s:BA) (k:Nat) (h:k<s.size):Lib.byteCells ((s.data.toList.take (k+1)).flatMap fA)=Lib.byteCells ((s.data.toList.take k).flatMap fA)++Lib.byteCells (fA s[k]):=by
 rw[List.take_add_one,lQ s k h];simp[Lib.byteCells]
theorem aOa (s:BA) (k:Nat) (h:k<=s.size) (hs:s.size<=1000000):(Lib.byteCells ((s.data.toList.take k).flatMap fA)).length<=2000000:=by
 have h1:=jJ fA 2 (λc=>by simp[fA]) (s.data.toList.take k);have h2:(s.data.toList.take k).length<=k:=by simp;omega
 simp only[Lib.byteCells,jy];omega
theorem jF (s:BA) (w:World) (hs:s.size<=1000000) :
 CP 36 #[Sv s] w (Rt (Sv ⟨(gV s.data.toList).toArray⟩) w):=by
 have ar:=f8 (lP w);have al:=f8 (show BB w (w.alloc (.cells #[.pointer none,Z0] 112)) from(bR w).alloc lr _);go_enter func36,ntmps36
 go_wp2
 go_loopw [7] (λi wr=>∃k:Nat,k<=s.size/\i=I6 k/\IsBld w.heap.size w.heap.size (Lib.byteCells ((s.data.toList.take k).flatMap fA)) wr/\Below w.heap.size (w.alloc (.cells #[.pointer none,Z0] 112)) wr) (λi _=>s.size-(intOf i).toNat)
 case atStart=>exact⟨0,ii _,rfl,by simpa [Lib.byteCells] using ar.o,gx _ _⟩
 case round =>
  obtain⟨k,hk,rfl,ac,ab⟩:=hrel;obtain⟨wp,rfl⟩:=xe (wr:World)
  have ae:w.heap.size<=wp.heap.size:=by have h1:=al.size;have h2:=ab.size;omega
  have aa:=aOa s k hk hs;by_cases a0:k<s.size
  ·have ap:(k:Int)<(s.size:Int):=ga
   have a5:(0:Int)<=(k:Int):=ga
   have af:=f8 (aLq s k a0);have a1:=f8 (λ(x:BA) (w3:World) (h3:BB wp w3) (hx:x.size<=6)=>lY w.heap.size w.heap.size _ x w3 (ac.ext h3) ga (io ae h3.size));obtain⟨au,ax⟩:=h_2 ab ae;clear ac ab ae aa;have ao:s[k].toNat<256:=s[k].toNat_lt;obtain⟨q,hq⟩:=xe (s[k].toNat / 16:Nat)
   obtain⟨r,hr⟩:=xe (s[k].toNat % 16:Nat)
   have ag:q<16:=ga
   have ah:r<16:=ga
   have wq:IntKind.u8.wrap ((s[k].toNat:Int) / 16)=(q:Int):=by rw[o7 _ ga];omega
   have a4:(s[k].toNat:Int).tmod 16=(r:Int):=by rw[nw ga];omega
   have a3:IntKind.u8.wrap ((q:Int)+1)=(q:Int)+1:=o7 _ ga;have a7:IntKind.u8.wrap ((r:Int)+1)=(r:Int)+1:=o7 _ ga;have lq:(q:Int)+1<=16:=ga
   have lr:(r:Int)+1<=16:=ga
   have a9:(0:Int)<=(q:Int)+1:=ga
   have a2:(0:Int)<=(r:Int)+1:=ga
   have ba:(q:Int)<=(q:Int)+1:=ga
   have bd:(r:Int)<=(r:Int)+1:=ga
   obtain⟨x,hx⟩:∃x:BA,(⟨#[48,49,50,51,52,53,54,55,56,57,97,98,99,100,101,102]⟩:BA).extract q (q+1)=x:=⟨_,rfl⟩
   obtain⟨y,hy⟩:∃y:BA,(⟨#[48,49,50,51,52,53,54,55,56,57,97,98,99,100,101,102]⟩:BA).extract r (r+1)=y:=⟨_,rfl⟩
   have ex:x=⟨#[kT q]⟩:=by rw[<-hx];exact aN9 q ag
   have ey:y=⟨#[kT r]⟩:=by rw[<-hy];exact aN9 r ah
   have bb:x.size=1:=by rw[ex];rfl
   have am:y.size=1:=by rw[ey];rfl
   have av:=f8 (show x++y=⟨(fA s[k]).toArray⟩ by rw[ex,ey,fA,<-hq,<-hr];rfl);have be:x.size+y.size<=9223372036854775807:=ga
   have ay:=f8 (show(x++y).size<=6 by rw[ly];omega);clear hq hr ex ey;go_upto_region 5 with (fail)
   refine sO 21 (λw'=>BB wp w') gd gd gd gb ((gx _ wp).drew) (λhS=>?_);simp only[zdm,zdn,zdp,zdq];refine tA 0 ?_;refine tA 1 ?_;refine tA 2 ?_;refine tA 3 ?_;refine tA 4 ?_;refine tA 5 ?_;refine tA 6 ?_;refine tA 7 ?_;refine tA 8 ?_;refine tA 9 ?_;refine tA 10 ?_;refine tA 11 ?_;refine tA 12 ?_;refine tA 13 ?_;refine tA 14 ?_;refine tA 15 ?_;refine tA 16 ?_;refine tA 17 ?_;refine tA 18 ?_;refine tA 19 ?_;refine tA 20 ?_;refine iq gd ?_ _
   (try dsimp only)
   have ak:=f8 hS;clear hS;go_wp2_with (go_at_call 65;refine(a1.o _ _ ak.o ay.o).mono ?_;rintro e w3 ⟨rfl,h3,aq,bc⟩)
   go_roundw
   case rel=>exact⟨k+1,by omega,by go_num,(.inr (by rw[af.o];have e:Lib.byteCells (fA s[k])=Lib.strCells (x++y):=(by rw[av.o];simp[Lib.strCells,Lib.byteCells]);rw[e];exact h3)),au.trans ((ak.mono ax.o).trans aq)⟩
   case measure=>simp[intOf];omega
  ·obtain rfl:k=s.size:=ga
   have ai:s.data.toList.length=s.size:=rfl;have ad:s.data.toList.take s.size=s.data.toList:=mr (by rw[ai];exact gy _);rw[ad] at ac aa;have aj:BB w wp:=al.trans (ab.mono ge);obtain⟨y,hy⟩:=xe (⟨(s.data.toList.flatMap fA).toArray⟩:BA)
   have az:=f8 ((Tryz.Builder_String_any_k w.heap.size w.heap.size _ wp ac ae).mono λe w2 ⟨he,_,hb,_⟩=>(show e=Ending.returned (Sv y)/\Below w.heap.size wp w2 from⟨by rw[he,hy],hb⟩));have am:y.size<=2000000:=by rw[hy,bE];simpa [Lib.byteCells] using aa
   have a6:2+y.size<=9223372036854775807:=ga
   have a8:2+y.size+1<=9223372036854775807:=ga
   have HF:=f8 (show(⟨#[120,34]⟩:BA)++y++⟨#[34]⟩=⟨(gV s.data.toList).toArray⟩ by
    rw[hy,show(⟨#[120,34]⟩:BA)=⟨[120,34].toArray⟩ from rfl,show(⟨#[34]⟩:BA)=⟨[34].toArray⟩ from rfl,bD,bD];rfl)
   have aw:=f8 aj;clear ac ab ad aj aa hy am ai;go_wp2_with (go_at_call 54;refine az.mono ?_;rintro e w5 ⟨rfl,an⟩)
   go_ret;exact⟨by rw[<-HF.o];rfl,aw.trans an⟩
section
theorem aE8 (n:Int) (s:Nat) (h1:n.natAbs<=999999999999999) (h2:s<=12) (w:World) (hT:Tabs w):CP 193 #[I6 n,I6 (s:Int)] w (Rt (Sv ⟨(dB n s).toArray⟩) w):=by
 have HD:=f8 (λw hT=>vP n s h1 h2 w hT);clear h1 h2;obtain⟨t,ht⟩:=xe (⟨(dB n s).toArray⟩:BA)
 rw[<-ht] at HD ⊢;clear ht;go_enter func193,ntmps193
 go_wp2_with (go_at_call 253;refine(HD.o _ hT).mono ?_;rintro e w1 ⟨rfl,aa⟩)
 go_ret;exact⟨rfl,aa⟩
section
variable (s:Int) (t:BA) (la:Option Addr) (ll lc:Nat) (fa:Option Addr) (fl fc:Nat) (w:World)
set_option maxRecDepth 100000
set_option maxHeartbeats 4000000
theorem aGc (b:Int) :
 CP 135 #[.agg #[I6 1,I6 b,I6 s,Sv t,Sl la ll lc,Sl fa fl fc]] w (Rt (Sv ⟨(Lib.formatBool (b==1)).toArray⟩) w):=by
 go_enter func135,ntmps135
 go_wp2_with (go_at_call 192;refine(Tryz.strconv_FormatBool _ _).mono ?_;rintro e w' ⟨rfl,rfl⟩)
 go_ret;exact⟨rfl,(bR w).alloc lr _⟩
theorem aGb (i:Int) (hi:I64 i) (hT:Tabs w) :
 CP 135 #[.agg #[I6 2,I6 i,I6 s,Sv t,Sl la ll lc,Sl fa fl fc]] w (Rt (Sv (aE i)) w):=by
 have aa:BB w (w.alloc (.cells #[I6 2,I6 i,I6 s,Sv t,Sl la ll lc,Sl fa fl fc] 67)):=(bR w).alloc lr _;have HI:=f8 (bM i hi _ (hT.below aa));have ab:=f8 aa;clear aa;go_enter func135,ntmps135
 go_wp2_with (go_at_call 64;refine HI.mono ?_;rintro e w1 ⟨rfl,ac⟩)
 go_ret;exact⟨rfl,ab.trans (ac.mono ab.size)⟩
theorem aGa (i:Int) (z:Nat) (h1:i.natAbs<=999999999999999) (h2:z<=12) (hz:s=(z:Int)) (hT:Tabs w) :
 CP 135 #[.agg #[I6 3,I6 i,I6 s,Sv t,Sl la ll lc,Sl fa fl fc]] w (Rt (Sv ⟨(if s=0 then dB i s.toNat++[100] else dB i s.toNat).toArray⟩) w):=by
 subst hz;have ab:BB w (w.alloc (.cells #[I6 3,I6 i,I6 (z:Int),Sv t,Sl la ll lc,Sl fa fl fc] 67)):=(bR w).alloc lr _;have hN:=aE8 i z h1 h2 _ (hT.below ab);have aa:=aFe i z h2 ga;obtain⟨x,hx⟩:=xe (⟨(dB i z).toArray⟩:BA)
 have ae:x.size<=41:=by rw[hx,bE];exact aa
 have ag:x.size+1<=9223372036854775807:=ga
 rw[<-hx] at hN;obtain⟨HN,ad,HE⟩:=h_3 hN ab ab;have HA:=f8 (ib w (.cells #[I6 3,I6 i,I6 (z:Int),Sv t,Sl la ll lc,Sl fa fl fc] 67));have HX:=f8 hx;by_cases h0:z=0
 ·have af:((z:Int)==0)=true:=by simp;omega
  have hF:(if (z:Int)=0 then dB i (z:Int).toNat++[100] else dB i (z:Int).toNat)=dB i z++[100]:=by rw[gw ga];rfl
  rw[hF];have HF:f7 (x++⟨#[100]⟩=(⟨(dB i z++[100]).toArray⟩:BA)):=f8 (by rw[hx,show(⟨#[100]⟩:BA)=⟨[100].toArray⟩ from rfl,bD]);clear ab hN hx ae h1 h2 aa hF h0;go_enter func135,ntmps135
  go_wp2_with (go_at_call 193;refine HN.mono ?_;rintro e w1 ⟨rfl,ac⟩;have hq:=aB ac HA.o;have q2:=aA hq 2;(try dsimp only at q2))
  go_ret;exact⟨by rw[<-HF.o];rfl,ad.trans (ac.mono ad.size)⟩
 ·have af:((z:Int)==0)=false:=by simp;omega
  have hF:(if (z:Int)=0 then dB i (z:Int).toNat++[100] else dB i (z:Int).toNat)=dB i z:=by rw[f9 ga];rfl
  rw[hF];clear ab hN hx ae h1 h2 aa hF h0;go_enter func135,ntmps135
  go_wp2_with (go_at_call 193;refine HN.mono ?_;rintro e w1 ⟨rfl,ac⟩;have hq:=aB ac HA.o;have q2:=aA hq 2;(try dsimp only at q2))
  go_ret;exact⟨by rw[<-HX.o];rfl,ad.trans (ac.mono ad.size)⟩
theorem aG9 (i:Int) (hs:t.size<=1000000) (hT:Tabs w) (hZ:ZTab w) :
 CP 135 #[.agg #[I6 4,I6 i,I6 s,Sv t,Sl la ll lc,Sl fa fl fc]] w (Rt (Sv ⟨(aQ t.data.toList).toArray⟩) w):=by
 have aa:BB w (w.alloc (.cells #[I6 4,I6 i,I6 s,Sv t,Sl la ll lc,Sl fa fl fc] 67)):=(bR w).alloc lr _;have HI:=f8 (jG t _ hs (hT.below aa) (hZ.below aa));have ab:=f8 aa;clear aa;go_enter func135,ntmps135
 go_wp2_with (go_at_call 38;refine HI.mono ?_;rintro e w1 ⟨rfl,ac⟩)
 go_ret;exact⟨rfl,ab.trans (ac.mono ab.size)⟩
theorem aG8 (i:Int) (hs:t.size<=1000000) :
 CP 135 #[.agg #[I6 5,I6 i,I6 s,Sv t,Sl la ll lc,Sl fa fl fc]] w (Rt (Sv ⟨(gV t.data.toList).toArray⟩) w):=by
 have aa:BB w (w.alloc (.cells #[I6 5,I6 i,I6 s,Sv t,Sl la ll lc,Sl fa fl fc] 67)):=(bR w).alloc lr _;have HI:=f8 (jF t (w.alloc (.cells #[I6 5,I6 i,I6 s,Sv t,Sl la ll lc,Sl fa fl fc] 67)) hs);have ab:=f8 aa;clear aa;go_enter func135,ntmps135
 go_wp2_with (go_at_call 36;refine HI.mono ?_;rintro e w1 ⟨rfl,ac⟩)
 go_ret;exact⟨rfl,ab.trans (ac.mono ab.size)⟩
theorem aG7 (i:Int) (n:Nat) (hd:i+719162=n) (hn:n<=3652058) (hT:Tabs w) (hZ:ZTab w) :
 CP 135 #[.agg #[I6 6,I6 i,I6 s,Sv t,Sl la ll lc,Sl fa fl fc]] w (Rt (Sv ⟨(100 :: 97 :: 116 :: 101 :: 32 :: aQ (cF n)).toArray⟩) w):=by
 have ac:BB w (w.alloc (.cells #[I6 6,I6 i,I6 s,Sv t,Sl la ll lc,Sl fa fl fc] 67)):=(bR w).alloc lr _;have aa:=pK n hn;have hI:=sH i n hd hn _ (hT.below ac);obtain⟨x,hx⟩:=xe (⟨(cF n).toArray⟩:BA)
 have af:x.size=10:=by rw[hx,bE,aa]
 rw[<-hx] at hI;have ae:x.data.toList=cF n:=by rw[hx]
 have HQ:=f8 (λw' (h:BB w w')=>jG x w' ga (hT.below h) (hZ.below h));rw[ae] at HQ;obtain⟨y,hy⟩:=xe (⟨(aQ (cF n)).toArray⟩:BA)
 have ah:y.size<=100:=by rw[hy,bE];have:=iK (cF n);omega
 have ai:5+y.size<=9223372036854775807:=ga
 rw[<-hy] at HQ;have HF:f7 ((⟨#[100,97,116,101,32]⟩:BA)++y=⟨(100 :: 97 :: 116 :: 101 :: 32 :: aQ (cF n)).toArray⟩):=f8 (by rw[hy,show(⟨#[100,97,116,101,32]⟩:BA)=⟨[100,97,116,101,32].toArray⟩ from rfl,bD];rfl);obtain⟨HI,ab⟩:=h_2 hI ac;clear ac hI aa hx af ae hy ah hd hn hT hZ;go_enter func135,ntmps135
 go_wp2_with (first
  | (go_at_call 38;refine(HQ.o w1 (ab.trans (ad.mono ab.size))).mono ?_;rintro e w2 ⟨rfl,ag⟩)
  | (go_at_call 194;refine HI.mono ?_;rintro e w1 ⟨rfl,ad⟩))
 go_ret;have h2:=ab.trans (ad.mono ab.size);exact⟨by rw[<-HF.o];rfl,h2.trans (ag.mono h2.size)⟩
theorem aG6 (i:Int) (n:Nat) (hd:i+62135596800000=n) (hn:n<=315537897599999) (hT:Tabs w) (hZ:ZTab w) :
 CP 135 #[.agg #[I6 7,I6 i,I6 s,Sv t,Sl la ll lc,Sl fa fl fc]] w (Rt (Sv ⟨(116 :: 105 :: 109 :: 101 :: 32 :: aQ (cO n)).toArray⟩) w):=by
 have ac:BB w (w.alloc (.cells #[I6 7,I6 i,I6 s,Sv t,Sl la ll lc,Sl fa fl fc] 67)):=(bR w).alloc lr _;have aa:=aA5 n hn;have hI:=yR i n hd hn _ (hT.below ac);obtain⟨x,hx⟩:=xe (⟨(cO n).toArray⟩:BA)
 have af:x.size<=25:=by rw[hx,bE];exact aa
 rw[<-hx] at hI;have ae:x.data.toList=cO n:=by rw[hx]
 have HQ:=f8 (λw' (h:BB w w')=>jG x w' ga (hT.below h) (hZ.below h));rw[ae] at HQ;obtain⟨y,hy⟩:=xe (⟨(aQ (cO n)).toArray⟩:BA)
 have ah:y.size<=200:=by rw[hy,bE];have:=iK (cO n);omega
 have ai:5+y.size<=9223372036854775807:=ga
 rw[<-hy] at HQ;have HF:f7 ((⟨#[116,105,109,101,32]⟩:BA)++y=⟨(116 :: 105 :: 109 :: 101 :: 32 :: aQ (cO n)).toArray⟩):=f8 (by rw[hy,show(⟨#[116,105,109,101,32]⟩:BA)=⟨[116,105,109,101,32].toArray⟩ from rfl,bD];rfl);obtain⟨HI,ab⟩:=h_2 hI ac;clear ac hI aa hx af ae hy ah hd hn hT hZ;go_enter func135,ntmps135
 go_wp2_with (first
  | (go_at_call 38;refine(HQ.o w1 (ab.trans (ad.mono ab.size))).mono ?_;rintro e w2 ⟨rfl,ag⟩)
  | (go_at_call 195;refine HI.mono ?_;rintro e w1 ⟨rfl,ad⟩))
 go_ret;have h2:=ab.trans (ad.mono ab.size);exact⟨by rw[<-HF.o];rfl,h2.trans (ag.mono h2.size)⟩
end
end
section
attribute [local go_sem ↓] Go.wp_at_zero Go.wp_at_succ
theorem yU (i0 s0:Int) (t0:ByteArray) (la:Option Addr) (ll lc:Nat) (fa:Option Addr) (fl fc:Nat) (l:List Val) (ns:List ByteArray) (fs:List Val) (w:World) (hd:IsVal (· < w.heap.size) w ⟨8,i0,s0,t0,la,ll,lc,fa,fl,fc⟩ (.mk 8 i0 s0 t0 l ns fs))
 (xs:List ByteArray) (bd:xs.length=ll)
 (L:Nat) (a6:∀x∈xs,x.data.toList.length<=L) (a7:ll * (L+3)<=140737488355328)
 (bi:∀j (h:j<l.length) (hj:j<xs.length) (x:VC) (w':World),BB w w'->IsVal (· < w'.heap.size) w' x l[j]->CP 135 #[.agg #[I6 x.k,I6 x.i,I6 x.s,Sv x.t,Sl x.la x.ll x.lc,Sl x.fa x.fl x.fc]] w' (Rt (Sv xs[j]) w')) :
 CP 135 #[.agg #[I6 8,I6 i0,I6 s0,Sv t0,Sl la ll lc,Sl fa fl fc]] w (Rt (Sv (⟨#[91]⟩++cE xs ⟨#[44,32]⟩++⟨#[93]⟩)) w):=by
 obtain⟨⟨_,_,_,_,a9,aq,bc,bj⟩,hv,hf⟩:=hd;dsimp only at aq bc hv hf;have ap:ll * 88<=140737488351232:=a9.l;have HF:=f8 aq;clear bc aq hf bj;clear a9;obtain⟨ti,hi,br,bn,bp⟩:=jr vA;obtain⟨w0,ax⟩:=xe (w.alloc (.cells #[I6 8,I6 i0,I6 s0,Sv t0,Sl la ll lc,Sl fa fl fc] 67))
 have a5:BB w w0:=by rw[ax];exact(bR w).alloc lr _
 have bg:=f8 a5;clear a5;have bo:=f8 ax;clear ax;have bf:=f8 a6;clear a6;have al:=f8 bd;clear bd;have az:=f8 bi;clear bi;have be:=f8 a7;clear a7;go_enter func135,ntmps135
 go_wp2;rw[<-bo.o]
 go_loopw [3,78] (λvv i wr=>∃(k:Nat) (v:Value),v=vv/\k<=ll/\i=I6 k/\wr.ownsRow w0.heap.size 9 1 v k ((xs.take k).map Value.string)/\BB w0 wr) (λ_ i _=>ll-(intOf i).toNat)
 case atStart=>exact⟨0,_,rfl,ii _,rfl,lf _ _ _ _,gx _ _⟩
 case round =>
  obtain⟨k,v,rfl,hk,rfl,ab,ak⟩:=hrel;have aw:=f8 ak;have aa:BB w wr:=bg.trans (ak.mono bg.size);have an:=f8 aa;by_cases bs:k<ll
  ·rcases hv with rfl|⟨b,o,rfl,hb,hvs⟩
   ·exfalso;have:=HF.o;simp at this;omega
   ·have a3:k<l.length:=by have:=HF.o;omega
    have ba:k<xs.length:=by have:=al.o;omega
    obtain⟨x,hx,bh⟩:=hvs.get k a3;obtain⟨tz,a1⟩:=xe (xs[k])
    have bq:=f8 a1;have bu:=hx.same (w':=wr) (aa.block b hb);obtain⟨bb,bw,b0,bv,bz,bx⟩:=bu;have bl:(k:Int)<(ll:Int):=ga
    have bm:=aa.size;have ad:BB wr (wr.alloc (Obj.cells #[Value.int IntKind.i64 x.k,Value.int IntKind.i64 x.i,Value.int IntKind.i64 x.s,Value.string x.t,Value.slice x.la x.ll x.lc,Value.slice x.fa x.fl x.fc] 67 (0,0))):=(gx _ wr).alloc lr _;have ao:=f8 ad
    have bt:=f8 (a1▸az.o k a3 ba x (wr.alloc (Obj.cells #[Value.int IntKind.i64 x.k,Value.int IntKind.i64 x.i,Value.int IntKind.i64 x.s,Value.string x.t,Value.slice x.la x.ll x.lc,Value.slice x.fa x.fl x.fc] 67 (0,0))) (aa.trans (ad.mono bm)) (bh.same λb hb=>⟨by have:=ad.size;omega,(ad.block b ga).trans (aa.block b hb)⟩));have aj:k+1<=maxLen:=by unfold maxLen;omega
    have ah:(k+1) * 16<=140737488355328:=ga
    have ai:=f8 ab;clear ab;clear hx bh a1 ak aa ad;go_wp2_with (first
     | (go_at_call 135;refine bt.mono ?_;rintro e w1 ⟨rfl,ar⟩)
     | (at_builtin;refine qq _ gh _ _ 43 gh w0.heap.size 9 ti _ 1 16 underlying43 hi br bn bp rfl ga _ _ _ gh ((fS ai.o (ao.trans (ar.mono ao.size))).alloc _) ⟨w1.heap.size,0,none⟩ 1 1 [.string tz] gh gh (cell_one_new _ _ _) gj aj ah (by have:=aw.size;have:=ao.size;have:=ar.size;simp at *;omega) ?_;intro v' w5 af ae a2 ay;obtain⟨bk,HG⟩:=h_2 af ae;clear af ae a2 ay))
    go_roundw
    case rel =>
     have a4:BB w0 (wr.alloc (Obj.cells #[Value.int IntKind.i64 x.k,Value.int IntKind.i64 x.i,Value.int IntKind.i64 x.s,Value.string x.t,Value.slice x.la x.ll x.lc,Value.slice x.fa x.fl x.fc] 67 (0,0))):=aw.trans (ao.mono aw.size);have ag:BB w0 w1:=a4.trans (ar.mono a4.size);refine⟨k+1,_,rfl,by omega,by go_num,?_,(ag.alloc ag.size _).grown HG.o (by have:=ag.size;simp;omega) (λr e=>rO ai.o r e)⟩;have h:=bk.o;rw[mh ba,<-bq.o,kh];exact h
    case measure=>simp[intOf];omega
  ·obtain rfl:k=ll:=ga
   clear bs;rw[mr (by have:=al.o;omega)] at ab;rcases pi k with h0|h0
   ·subst h0;have bb:xs=[]:=kr al.o;subst bb;obtain⟨a,c,rfl⟩:∃a c,v=Sl a 0 c:=by
     rcases ab.2 with ⟨rfl,_⟩|⟨g,cap,cur,rfl,_⟩
     ·exact⟨_,_,rfl⟩
     ·exact⟨_,_,rfl⟩
    have ac:f7 (CP 196 #[Sl a 0 c] wr (Rt (Sv (cE [] ⟨#[44,32]⟩)) wr)):=f8 (uY _ _ _ (λw' h=>(Tryz.strings_Join_none a c ⟨#[44,32]⟩ w').mono λe w2 ⟨he,hw⟩=>⟨he,by rw[hw];exact gx _ _⟩));clear ab ak;have s1:1+(cE [] ⟨#[44,32]⟩).size<=9223372036854775807:=by decide
    have s2:1+(cE [] ⟨#[44,32]⟩).size+1<=9223372036854775807:=by decide
    go_wp2_with (go_at_call 196;refine ac.o.mono ?_;rintro e w3 ⟨rfl,au⟩)
    go_ret;exact⟨rfl,an.trans (au.mono an.size)⟩
   obtain⟨g,av,rfl,hj⟩:=lE ab al.symm h0 L bf.o ⟨#[44,32]⟩ be.o;have HJ:=f8 hj;have ac:f7 (CP 196 #[Sl (So g 0) k av] wr (Rt (Sv (cE xs ⟨#[44,32]⟩)) wr)):=f8 (uY _ _ _ HJ.o);have am:=iM xs ⟨#[44,32]⟩ L bf.o;rw[al.o] at am;have a8:=be.o;have a0:(cE xs ⟨#[44,32]⟩).size<=140737488355328:=by simp at am;rw[Nat.mul_add] at a8 am;omega
   have s1:1+(cE xs ⟨#[44,32]⟩).size<=9223372036854775807:=ga
   have s2:1+(cE xs ⟨#[44,32]⟩).size+1<=9223372036854775807:=ga
   clear hj ab ak am a8 a0;go_wp2_with (go_at_call 196;refine ac.o.mono ?_;rintro e w3 ⟨rfl,au⟩)
   go_ret;exact⟨rfl,an.trans (au.mono an.size)⟩
theorem yS (i0 s0:Int) (t0:BA) (la:Option Addr) (ll lc:Nat) (fa:Option Addr) (fc:Nat) (w:World) :
 CP 135 #[.agg #[I6 9,I6 i0,I6 s0,Sv t0,Sl la ll lc,Sl fa 0 fc]] w (Rt (Sv (recT [])) w):=by
 obtain⟨w0,ab⟩:=xe (w.alloc (.cells #[I6 9,I6 i0,I6 s0,Sv t0,Sl la ll lc,Sl fa 0 fc] 67))
 have ad:BB w w0:=by rw[ab];exact(bR w).alloc lr _
 have ae:=f8 ad;clear ad;have ah:=f8 ab;clear ab;go_enter func135,ntmps135
 go_wp2;rw[<-ah.o]
 go_loopw [3,97] (λvv i wr=>vv=Sl none 0 0/\i=I6 0/\BB w0 wr) (λ_ i _=>0)
 case atStart=>exact⟨rfl,rfl,gx _ _⟩
 case round =>
  obtain⟨rfl,rfl,ac⟩:=hrel;have af:=f8 (ae.trans (ac.mono ae.size));have aa:f7 (CP 196 #[Z0] wr (Rt (Sv (cE [] ⟨#[44,32]⟩)) wr)):=f8 (uY _ _ _ (λw' h=>(Tryz.strings_Join_none none 0 ⟨#[44,32]⟩ w').mono λe w2 ⟨he,hw⟩=>⟨he,by rw[hw];exact gx _ _⟩));clear ac;have s1:1+(cE [] ⟨#[44,32]⟩).size<=9223372036854775807:=by decide
  have s2:1+(cE [] ⟨#[44,32]⟩).size+1<=9223372036854775807:=by decide
  go_wp2_with (go_at_call 196;refine aa.o.mono ?_;rintro e w3 ⟨rfl,ag⟩)
  go_ret;exact⟨rfl,af.trans (ag.mono af.size)⟩
end
section
attribute [local go_sem ↓] Go.wp_at_zero Go.wp_at_succ
theorem aBu (i0 s0:Int) (t0:BA) (la:Option Addr) (ll lc:Nat) (fa:Option Addr) (fl fc:Nat) (d:Val) (ns:List BA) (fs:List Val) (w:World) (hd:IsVal (· < w.heap.size) w ⟨10,i0,s0,t0,la,ll,lc,fa,fl,fc⟩ (.mk 10 i0 s0 t0 [d] ns fs))
 (y:BA) (hy:y.size<=100000000) (ht:t0.size<=1000)
 (ah:∀(x:VC) (w':World),BB w w'->IsVal (· < w'.heap.size) w' x d->CP 135 #[.agg #[I6 x.k,I6 x.i,I6 x.s,Sv x.t,Sl x.la x.ll x.lc,Sl x.fa x.fl x.fc]] w' (Rt (Sv y) w')) :
 CP 135 #[.agg #[I6 10,I6 i0,I6 s0,Sv t0,Sl la ll lc,Sl fa fl fc]] w (Rt (Sv (t0++⟨#[40]⟩++y++⟨#[41]⟩)) w):=by
 obtain⟨⟨_,_,_,_,al,ad,_,_⟩,hv,_⟩:=hd;dsimp only at ad hv;have ae:ll=1:=ad;subst ae;clear al ad;rcases hv with h0|⟨b,o,rfl,hb,hvs⟩
 ·cases h0
 obtain⟨x,hx,ac⟩:=hvs.get 0 ge;rw[Nat.zero_mul,Nat.add_zero] at hx;simp only[k8] at ac;obtain⟨w0,ab⟩:=xe (w.alloc (.cells #[I6 10,I6 i0,I6 s0,Sv t0,Sl (So b o) 1 lc,Sl fa fl fc] 67))
 have aa:BB w w0:=by rw[ab];exact(bR w).alloc lr _
 have af:w0.heap[w.heap.size]?=some (.cells #[I6 10,I6 i0,I6 s0,Sv t0,Sl (So b o) 1 lc,Sl fa fl fc] 67):=by rw[ab];exact ib w _
 have ag:=f8 aa;have HC:=f8 (λ(w':World) (h:BB w0 w') =>
  have q:=aB h af;have h2:=aa.trans (h.mono aa.size);have a:=hx.same (w':=w') (h2.block b hb)
  (show(Ce w' w.heap.size 3 (Sv t0)/\Ce w' w.heap.size 4 (Sl (So b o) 1 lc))/\Ce w' b o (I6 x.k)/\w'.cell? ⟨b,o+1,none⟩=some (I6 x.i)/\w'.cell? ⟨b,o+2,none⟩=some (I6 x.s)/\w'.cell? ⟨b,o+3,none⟩=some (Sv x.t)/\w'.cell? ⟨b,o+4,none⟩=some (Sl x.la x.ll x.lc)/\w'.cell? ⟨b,o+5,none⟩=some (Sl x.fa x.fl x.fc) from⟨⟨aA q 3,aA q 4⟩,a.k,a.i,a.s,a.t,a.l,a.f⟩))
 have am:=f8 (λ(w':World) (h:BB w0 w')=>ah x w' (aa.trans (h.mono aa.size)) (ac.same λb' hb'=>⟨ix hb' (aa.trans (h.mono aa.size)).size,(aa.trans (h.mono aa.size)).block b' hb'⟩));have ai:=f8 ab;have s1:(9223372036854775807<t0.size+1)=False:=eq_false ga;have s2:(9223372036854775807<t0.size+1+y.size)=False:=eq_false ga;have s3:(9223372036854775807<t0.size+1+y.size+1)=False:=eq_false ga;clear hx ac ah aa af ab hvs hy ht;go_enter func135,ntmps135
 go_upto_region 38 with (fail)
 rw[<-ai.o];refine aP 10 (λw'=>BB w0 w') gd gd gd gb ((gx _ w0).drew) (λhS=>?_);simp only[zdm,zdn,zdp,zdq];refine tC 0 HC ?_;refine tC 1 HC ?_;refine tC 2 HC ?_;refine tC 3 HC ?_;refine tC 4 HC ?_;refine tC 5 HC ?_;refine tC 6 HC ?_;refine yr 7 λK hK=>?_;go_simp;go_at_call 135;refine(am.o _ hS).mono ?_;rintro e w1 ⟨rfl,ak⟩;refine kOQ hK (hS.trans (ak.mono hS.size)) λhS=>?_;clear hK K
 refine tC 8 HC ?_;refine tC 9 HC ?_;refine iq gd ?_ _
 (try dsimp only)
 have aj:=f8 hS;clear hS;go_wp2;go_ret;exact⟨rfl,ag.trans (aj.mono ag.size)⟩
end
theorem lJ:∀(ns:List BA) (xs:List (List UInt8)),ns.length=xs.length->(dZ ns xs).length=xs.length
 | [],[],_=>rfl
 | [],_ :: _,h=>by simp at h
 | _ :: _,[],h=>by simp at h
 | n :: ns,x :: xs,h=>by rw[dZ,im,im,lJ ns xs gv]
theorem xO:∀(ns:List BA) (xs:List (List UInt8)) (j:Nat) (h:j<(dZ ns xs).length) (h1:j<ns.length) (h2:j<xs.length),(dZ ns xs)[j]=ns[j].data.toList++58 :: 32 :: xs[j]
 | n :: ns,x :: xs,0,_,_,_=>rfl
 | n :: ns,x :: xs,j+1,h,h1,h2=>by
   simp only[dZ,qp];exact xO ns xs j (by simpa [dZ] using h) (by simpa using h1) (by simpa using h2)
theorem sz_pos (d:Val):1<=Val.sz d:=by obtain⟨k,i,s,t,l,ns,fs⟩:=d;rw[Val.sz];omega
theorem mapData (l:List (List UInt8)):(l.map (λx=>(⟨x.toArray⟩:BA))).map (·.data.toList)=l:=by
 rw[List.map_map];exact(List.map_congr_left (λx _=>rfl)).trans (List.map_id _)
theorem aEs (l:List (List UInt8)) (aa:BA):cE (l.map (λx=>(⟨x.toArray⟩:BA))) aa=⟨(Lib.join l aa.data.toList).toArray⟩:=by
 unfold cE;rw[mapData]
theorem dH (l:List Val):(bF l).length=l.length:=by rw[jB,jy]
theorem Good.kidLen {n:Nat} {d d':Val} (h:Good n d) (hn:n<=4096) (hd:d'∈gH d):(txt d').length<=33554432:=(h.kid hd).len hn
theorem rD:∀(z:Nat) (d:Val),Val.sz d<=z->∀(c:VC) (w:World),Good 4096 d->IsVal (· < w.heap.size) w c d->Tabs w->ZTab w ->
 CP 135 #[c.v] w (Rt (Sv ⟨(txt d).toArray⟩) w)
 | 0,d,h,_,_,_,_,_,_=>absurd (sz_pos d) ga
 | z+1,.mk k i s t l ns fs,hz,⟨ck,ci,cs,ct,la,ll,lc,fa,fl,fc⟩,w,hg,hd,hT,hZ=>by
   have ar:=hd;obtain⟨⟨h1,h2,h3,h4,aq,ae,ag,ak⟩,hv,hf⟩:=ar;dsimp only at h1 h2 h3 h4 ae ag;subst h1;subst h2;subst h3;subst h4;obtain⟨k1,k2,hr⟩:=hg.self;have av:1<=ck:=k1;have az:ck<=10:=k2;have an:Val.szs l<=z/\Val.szs fs<=z:=by rw[Val.sz] at hz;omega
   have hk:ck=1\/ck=2\/ck=3\/ck=4\/ck=5\/ck=6\/ck=7\/ck=8\/ck=9\/ck=10:=ga
   simp only[nM] at hr;rcases hk with rfl|rfl|rfl|rfl|rfl|rfl|rfl|rfl|rfl|rfl
   ·have h:=aGc cs ct la ll lc fa fl fc w ci;have e:txt (.mk 1 ci cs ct l ns fs)=Lib.formatBool (ci==1):=by
     simp[txt,eF,Lib.formatBool];by_cases h1:ci=1<;>simp[h1]<;>kernel_rfl
    rw[e];exact h
   ·exact aGb cs ct la ll lc fa fl fc w ci aq.i hT
   ·simp at hr;obtain⟨a,b⟩:=oH hr;have ha:=bA a;have hb:=bA b;have h:=aGa cs ct la ll lc fa fl fc w ci cs.toNat ga ga ga hT;have e:txt (.mk 3 ci cs ct l ns fs)=(if cs=0 then dB ci cs.toNat++[100] else dB ci cs.toNat):=by simp[txt,eF]
    rw[e];exact h
   ·simp at hr;have ax:=vO hr;have h:=aG9 cs ct la ll lc fa fl fc w ci ga hT hZ;have e:txt (.mk 4 ci cs ct l ns fs)=aQ ct.data.toList:=by simp[txt,eF]
    rw[e];exact h
   ·simp at hr;have aw:=fQ gb hr;have h:=aG8 cs ct la ll lc fa fl fc w ci ga;have e:txt (.mk 5 ci cs ct l ns fs)=gV ct.data.toList:=by simp[txt,eF]
    rw[e];exact h
   ·simp at hr;have hb:=bA hr;have h:=aG7 cs ct la ll lc fa fl fc w ci (ci+719162).toNat ga ga hT hZ;have e:txt (.mk 6 ci cs ct l ns fs)=100 :: 97 :: 116 :: 101 :: 32 :: aQ (cF (ci+719162).toNat):=by simp[txt,eF]
    rw[e];exact h
   ·simp at hr;have hb:=bA hr;have h:=aG6 cs ct la ll lc fa fl fc w ci (ci+62135596800000).toNat ga ga hT hZ;have e:txt (.mk 7 ci cs ct l ns fs)=116 :: 105 :: 109 :: 101 :: 32 :: aQ (cO (ci+62135596800000).toNat):=by simp[txt,eF]
    rw[e];exact h
   ·-- a list
    simp at hr;have hl:=fQ gb hr;have h:=yU ci cs ct la ll lc fa fl fc l ns fs w hd ((bF l).map (λx=>(⟨x.toArray⟩:ByteArray))) (by rw[jy,dH];exact ae.symm) 33554432
     (λx hx=>by
       obtain⟨y,hy,rfl⟩:=List.mem_map.1 hx;rw[jB] at hy;obtain⟨d',al,rfl⟩:=List.mem_map.1 hy;exact hg.kidLen lr (by simp[gH];exact al))
     (by rw[ae];omega)
     (λj hj hj2 x w' hb hx=>by
       have e:((bF l).map (λx=>(⟨x.toArray⟩:ByteArray)))[j]=⟨(txt l[j]).toArray⟩:=by
        rw[List.getElem_map];congr 2;simp only[jB,List.getElem_map]
       rw[e];exact rD z l[j] (by have:=Val.szs_get l j hj;omega) x w' (hg.kid (by simp[gH])) hx (hT.below hb) (hZ.below hb))
    have e:txt (.mk 8 ci cs ct l ns fs)=91 :: (Lib.join (bF l) [44,32]++[93]):=by simp[txt]
    rw[e];rw[aEs] at h;rw[show(⟨(91 :: (Lib.join (bF l) [44,32]++[93])).toArray⟩:ByteArray)=⟨#[91]⟩++⟨(Lib.join (bF l) [44,32]).toArray⟩++⟨#[93]⟩ by rw[show(⟨#[91]⟩:ByteArray)=⟨[91].toArray⟩ from rfl,show(⟨#[93]⟩:ByteArray)=⟨[93].toArray⟩ from rfl,bD,bD];rfl];exact h
   ·-- a record
    have aa:fD ns=0:=by simpa using hr
    have e:txt (.mk 9 ci cs ct l ns fs)=123 :: (Lib.join (dZ ns (bF fs)) [44,32]++[125]):=by simp[txt]
    rw[e];have e2:(⟨(123 :: (Lib.join (dZ ns (bF fs)) [44,32]++[125])).toArray⟩:ByteArray)=recT ((dZ ns (bF fs)).map (λx=>(⟨x.toArray⟩:ByteArray))):=by
     unfold recT;rw[aEs,show(⟨#[123]⟩:ByteArray)=⟨[123].toArray⟩ from rfl,show(⟨#[125]⟩:ByteArray)=⟨[125].toArray⟩ from rfl,bD,bD];rfl
    rw[e2];have ac:ns.length=(bF fs).length:=by rw[dH];exact ak
    rcases pi fl with h0|h0
    ·have ao:fs=[]:=kr ga;have am:ns=[]:=kr ga;subst ao;subst am;subst h0;exact yS ci cs ct la ll lc fa fc w
    have ay:fl<=64:=by
     unfold fD at aa;split at aa
     ·cases aa
     ·rename_i hle;omega
    have aj:∀n∈ns,n.data.toList.length<=32:=by
     unfold fD at aa;split at aa
     ·cases aa
     ·exact lV _ _ aa
    have ai:∀d'∈fs,d'∈gH (.mk 9 ci cs ct l ns fs):=λd' h=>by simp[gH];exact h
    refine aBv ci cs ct la ll lc fa fl fc l ns fs w hd _ (λj=>if h:j<fs.length then ⟨(txt fs[j]).toArray⟩ else ⟨#[]⟩) h0 (by rw[jy,lJ _ _ ac,dH];exact ag.symm)
     (λj hj hn=>by
       have ad:j<fs.length:=by rw[jy,lJ _ _ ac,dH] at hj;exact hj
       rw[List.getElem_map,xO ns (bF fs) j (by simpa using hj) hn (by rw[dH];exact ad),dif_pos ad];have e3:(bF fs)[j]'(by rw[dH];exact ad)=txt fs[j]:=by simp only[jB,List.getElem_map]
       rw[e3];apply kn;simp[p8])
     33554500
     (λx hx=>by
       obtain⟨y,hy,rfl⟩:=List.mem_map.1 hx;obtain⟨j,hj,rfl⟩:=n5 hy;have ad:j<fs.length:=by rw[lJ _ _ ac,dH] at hj;exact hj
       have ap:j<ns.length:=ga
       rw[xO ns (bF fs) j hj ap (by rw[dH];exact ad)];have e3:(bF fs)[j]'(by rw[dH];exact ad)=txt fs[j]:=by simp only[jB,List.getElem_map]
       rw[e3];have a1:=aj ns[j] (kc _);have a2:=hg.kidLen lr (ai fs[j] (kc _));simp;simp at a1;omega)
     ga
     (λj hj x w' hb hx=>by
       rw[dif_pos hj];exact rD z fs[j] (by have:=Val.szs_get fs j hj;omega) x w' (hg.kid (ai _ (kc _))) hx (hT.below hb) (hZ.below hb))
   ·-- a variant
    have ab:dG ct l.length=0:=by simpa using hr
    have af:l.length=1/\ct.data.toList.length<=32:=by
     unfold dG at ab;split at ab
     ·cases ab
     ·rename_i hx;have au:=qR (by simpa using hx);split at ab
      ·cases ab
      ·have:=fQ gb ab;constructor
       ·omega
       ·exact au
    obtain⟨d',rfl⟩:∃d',l=[d']:=by
     match l,af.1 with
     | [d'],_=>exact⟨d',rfl⟩
    have e:txt (.mk 10 ci cs ct [d'] ns fs)=ct.data.toList++40 :: (txt d'++[41]):=by simp[txt,bF]
    rw[e];have ah:d'∈gH (.mk 10 ci cs ct [d'] ns fs):=by simp[gH]
    have h:=aBu ci cs ct la ll lc fa fl fc d' ns fs w hd ⟨(txt d').toArray⟩ (by have:=hg.kidLen lr ah;rw[bE];omega) (by have:=af.2;rw[tQ] at this;omega)
     (λx w' hb hx=>rD z d' (by have h1:=an.1;simp only[Val.szs] at h1;omega) x w' (hg.kid ah) hx (hT.below hb) (hZ.below hb))
    have e2:(⟨(ct.data.toList++40 :: (txt d'++[41])).toArray⟩:ByteArray)=ct++⟨#[40]⟩++⟨(txt d').toArray⟩++⟨#[41]⟩:=by
     apply kn;simp[p8]
    rw[e2];exact h
theorem aJp (d:Val) (c:VC) (w:World) (hg:Good 4096 d) (hd:IsVal (· < w.heap.size) w c d) (hT:Tabs w) (hZ:ZTab w) :
 CP 135 #[c.v] w (Rt (Sv ⟨(txt d).toArray⟩) w):=rD _ d lr c w hg hd hT hZ
def eE (d:Val):BA × Int :=
 if fH d=false/\bG d≠0 then (⟨#[]⟩,bG d) else if 65536<(txt d).length then (⟨#[]⟩,5) else (⟨(txt d).toArray⟩,0)
theorem gA (d:Val):(eE d).1.size<=65536:=by
 unfold eE;split
 ·exact ii _
 ·split
  ·exact ii _
  ·rw[bE];omega
theorem zG (s:BA) (hs:65536<s.size) (w:World):CP 134 #[Sv s] w λe w'=>e=.returned (.tuple #[Sv ⟨#[]⟩,I6 5])/\w=w':=by
 have aa:(65536:Int)<(s.size:Int):=ga
 go_enter func134,ntmps134
 go_wp2;exact ig (v:=.tuple #[Sv ⟨#[]⟩,I6 5]) (by simp[results,results134,go_sem]) rfl ⟨rfl,rfl⟩
theorem zH (s:BA) (w:World):CP 134 #[Sv s] w λe w'=>e=.returned (.tuple #[Sv (if 65536<s.size then ⟨#[]⟩ else s),I6 (if 65536<s.size then 5 else 0)])/\w=w':=by
 by_cases h:65536<s.size
 ·rw[gw h,gw h];exact zG s h w
 ·rw[f9 h,f9 h];exact rU s ga w
theorem aNb (c:VC) (d:Val) (w:World) (hd:IsVal (· < w.heap.size) w c d) (hT:Tabs w) (hn:fH d=false) (h0:bG d≠0) :
 CP 83 #[c.v] w (Rt (.tuple #[Sv ⟨#[]⟩,I6 (bG d)]) w):=by
 have ab:BB w (w.alloc (vObj c)):=(bR w).alloc lr _;have af:=f8 ab;have HC:=f8 (lO c d w hd hT _ ab);obtain⟨x,hx⟩:=xe (bG d)
 rw[<-hx] at HC h0 ⊢;have ai:(x==0)=false:=by simp;exact h0
 have ah:(x != 0)=true:=by simp;exact h0
 have ac:=f8 (λw=>bT c.k c.i c.s c.t c.la c.ll c.lc c.fa c.fl c.fc w);rw[<-iN hd,hn] at ac;have aa:f7 (∀w2,BB (w.alloc (vObj c)) w2->Six w2 w.heap.size c/\BB w w2):=f8 λw2 h=>⟨sixOf (aB h (ib w _)),ab.trans (h.mono ab.size)⟩
 clear hd hT h0 ab hx hn;obtain⟨k,i,s,tt,la,ll,lc,fa,fl,fc⟩:=c;dsimp only[vObj,VC.v] at HC ac aa af ⊢;go_enter func83,ntmps83
 go_wp2_with (first
  | (go_at_call 110;refine HC.mono ?_;rintro e w2 ⟨rfl,ae⟩;obtain⟨⟨j1,j2,j3,j4,j5,j6⟩,ad⟩:=aa.o _ ae)
  | (go_at_call 109;refine(ac.o _).mono ?_;rintro e w4 ⟨rfl,ag⟩))
 exact ig (v:=.tuple #[Sv ⟨#[]⟩,I6 x]) (by simp[results,results83,go_sem]) rfl ⟨rfl,ad.trans (ag.mono ad.size)⟩
theorem litG_ok (c:VC) (d:Val) (w:World) (hd:IsVal (· < w.heap.size) w c d) (hT:Tabs w) (hZ:ZTab w) (h0:bG d=0) :
 CP 83 #[c.v] w λe w'=>e=.returned (.tuple #[Sv (if 65536<(⟨(txt d).toArray⟩:BA).size then ⟨#[]⟩ else ⟨(txt d).toArray⟩),I6 (if 65536<(⟨(txt d).toArray⟩:BA).size then 5 else 0)])/\BB w w':=by
 have ab:BB w (w.alloc (vObj c)):=(bR w).alloc lr _;have ag:=f8 ab;have HC:=f8 (lO c d w hd hT _ ab);rw[h0] at HC;have ad:f7 (∀w',BB w w'->CP 135 #[c.v] w' (Rt (Sv ⟨(txt d).toArray⟩) w')):=f8 λw' h=>aJp d c w' (good_of h0) (hd.same λb q=>⟨ix q h.size,h.block b q⟩) (hT.below h) (hZ.below h);obtain⟨t,ht⟩:=xe (⟨(txt d).toArray⟩:BA)
 rw[<-ht] at ad ⊢;have ae:=f8 (λw=>zH t w);obtain⟨u,hu⟩:=xe (if 65536<t.size then ⟨#[]⟩ else t:BA)
 obtain⟨v,hv⟩:=xe (if 65536<t.size then 5 else 0:Int)
 rw[<-hu,<-hv] at ae ⊢;have aa:f7 (∀w2,BB (w.alloc (vObj c)) w2->Six w2 w.heap.size c/\BB w w2):=f8 λw2 h=>⟨sixOf (aB h (ib w _)),ab.trans (h.mono ab.size)⟩
 clear hd hT hZ h0 ab ht hu hv;obtain⟨k,i,s,tt,la,ll,lc,fa,fl,fc⟩:=c;dsimp only[vObj,VC.v] at HC ad aa ag ⊢;go_enter func83,ntmps83
 go_wp2_with (first
  | (go_at_call 110;refine HC.mono ?_;rintro e w2 ⟨rfl,af⟩;obtain⟨⟨j1,j2,j3,j4,j5,j6⟩,ac⟩:=aa.o _ af)
  | (go_at_call 135;refine(ad.o _ ac).mono ?_;rintro e w4 ⟨rfl,ah⟩)
  | (go_at_call 134;refine(ae.o _).mono ?_;rintro e w5 ⟨rfl,rfl⟩))
 exact ig (v:=.tuple #[Sv u,I6 v]) (by simp[results,results83,go_sem]) rfl ⟨rfl,ac.trans (ah.mono ac.size)⟩
theorem aKr (c:VC) (d:Val) (w:World) (hd:IsVal (· < w.heap.size) w c d) (hT:Tabs w) (hn:fH d=true) (h0:bG d≠0) (hk:c.k=0) :
 CP 83 #[c.v] w (Rt (.tuple #[Sv ⟨#[110,117,108,108]⟩,I6 0]) w):=by
 have ab:BB w (w.alloc (vObj c)):=(bR w).alloc lr _;have aj:=f8 ab;have HC:=f8 (lO c d w hd hT _ ab);obtain⟨x,hx⟩:=xe (bG d)
 rw[<-hx] at HC h0;have an:(x==0)=false:=by simp;exact h0
 have am:(x != 0)=true:=by simp;exact h0
 have ac:=f8 (λw=>bT c.k c.i c.s c.t c.la c.ll c.lc c.fa c.fl c.fc w);rw[<-iN hd,hn] at ac;have ah:=f8 (λw=>yT c.s c.i c.t c.la c.ll c.lc c.fa c.fl c.fc w);have aa:f7 (∀w2,BB (w.alloc (vObj c)) w2->Six w2 w.heap.size c/\BB w w2):=f8 λw2 h=>⟨sixOf (aB h (ib w _)),ab.trans (h.mono ab.size)⟩
 have ak:=f8 (λw=>rU ⟨#[110,117,108,108]⟩ gb w);clear hd hT h0 ab hx hn;obtain⟨k,i,s,tt,la,ll,lc,fa,fl,fc⟩:=c;dsimp only[vObj,VC.v] at HC ac ah aa aj hk ⊢;subst hk;go_enter func83,ntmps83
 go_wp2_with (first
  | (go_at_call 110;refine HC.mono ?_;rintro e w2 ⟨rfl,ad⟩;obtain⟨⟨j1,j2,j3,j4,j5,j6⟩,al⟩:=aa.o _ ad;have ae:=f8 ad;clear ad)
  | (go_at_call 109;refine(ac.o _).mono ?_;rintro e w4 ⟨rfl,af⟩;obtain⟨⟨l1,l2,l3,l4,l5,l6⟩,ag⟩:=aa.o _ (ae.trans (af.mono ae.size));clear af j1 j2 j3 j4 j5 j6)
  | (go_at_call 135;refine(ah.o _).mono ?_;rintro e w6 ⟨rfl,ai⟩)
  | (go_at_call 134;refine(ak.o _).mono ?_;rintro e w7 ⟨rfl,rfl⟩))
 exact ig (v:=.tuple #[Sv ⟨#[110,117,108,108]⟩,I6 0]) (by simp[results,results83,go_sem]) rfl ⟨rfl,ag.trans (ai.mono ag.size)⟩
theorem kF (c:VC) (d:Val) (w:World) (hd:IsVal (· < w.heap.size) w c d) (hT:Tabs w) (hZ:ZTab w) :
 CP 83 #[c.v] w (Rt (.tuple #[Sv (eE d).1,I6 (eE d).2]) w):=by
 unfold eE;by_cases h0:bG d=0
 ·rw[f9 (λh=>h.2 h0)];have h:=litG_ok c d w hd hT hZ h0;rw[bE] at h;split<;>rename_i hl<;>simp only[hl,je,kz] at h<;>exact h
 by_cases hn:fH d=true
 ·rw[f9 (by rw[hn];simp)];have hk:c.k=0:=by
   have h:=iN hd;rw[hn] at h;have h2:eO c.k c.i c.s c.t c.ll c.fl=true:=h.symm;unfold eO at h2;simp only[kg,mg] at h2;exact h2.1
  have aa:aAz d=0:=by obtain⟨k,i,s,t,l,ns,fs⟩:=d;obtain⟨h,_⟩:=hd;exact h.1.symm.trans hk
  have ht:txt d=[110,117,108,108]:=by
   obtain⟨k,i,s,t,l,ns,fs⟩:=d;have ab:k=0:=aa;subst ab;simp[txt,eF]
  rw[ht];exact aKr c d w hd hT hn h0 hk
 ·rw[gw ⟨by simpa using hn,h0⟩];exact aNb c d w hd hT (by simpa using hn) h0
end Go.Proofs.YtoodnaghjpkjfaaGreatDoor
