/- A part. -/
import Derived.Test.YtmgpghoamapfgaaGreatDoorST46Mrg
import Derived.Test.YtmgpghoamapfgaaGreatDoorST37Mrg
import Derived.Test.YtmgpghoamapfgaaGreatDoorST43Mrg
import Derived.Test.YtmgpghoamapfgaaGreatDoorST45Mrg
import Derived.Test.YtmgpghoamapfgaaGreatDoorST47Mrg
namespace Go.Proofs.YtmgpghoamapfgaaGreatDoor
set_option linter.unusedVariables false
set_option maxRecDepth 100000
set_option maxHeartbeats 16000000
set_option linter.unusedSimpArgs false
section
open Go Go.RowKit
def aNx (d:Slot):Prop:=d.items.length<=8/\d.vals.length<=8
def aNy (d:Slot) (w:World) (e:Ending) (w':World):Prop:=(∃b,e=.returned (.bool b)/\(b=true->aNx d))/\BB w w'
theorem uC (c:SlC) (d:Slot) (w:World) (hd:IsSl (· < w.heap.size) w c d):CP 30 #[c.v] w (aNy d w):=by
 obtain⟨⟨kk,ki,ks,kt,kla,kll,klc,kfa,kfl,kfc⟩,cn,ct,ia,il,ic,wa,wl,wc⟩:=c;have hbig:il * 152<=140737488351232:=hd.items.big;have hbig2:wl * 88<=140737488351232:=hd.vals.big;have Hq:=hid hd.items.len;have Hp:=hid hd.vals.len;dsimp only at Hq Hp;obtain⟨wb,hwb⟩:=ez (w.alloc (.cells #[I6 kk,I6 ki,I6 ks,.string kt,.slice kla kll klc,.slice kfa kfl kfc,I6 cn,I6 ct,.slice ia il ic,.slice wa wl wc] 66))
 have hb0:BB w wb:=by rw[hwb];exact(bR w).alloc lr _
 have g1:wb.heap[w.heap.size]?=some (.cells #[I6 kk,I6 ki,I6 ks,.string kt,.slice kla kll klc,.slice kfa kfl kfc,I6 cn,I6 ct,.slice ia il ic,.slice wa wl wc] 66):=by rw[hwb];exact heap_alloc_new w _
 have HD:Hid (∀w',BB wb w'->IsSl (· < w'.heap.size) w' ⟨⟨kk,ki,ks,kt,kla,kll,klc,kfa,kfl,kfc⟩,cn,ct,ia,il,ic,wa,wl,wc⟩ d):=hid fun w' h=>by
  have hb:=hb0.trans (h.mono hb0.size);exact hd.same fun b q=>⟨Nat.lt_of_lt_of_le q hb.size,hb.block b q⟩
 have Hw:Hid (∀w',BB wb w'->CP 45 #[.agg #[I6 kk,I6 ki,I6 ks,.string kt,.slice kla kll klc,.slice kfa kfl kfc]] w' (SomeB w')):=hid fun w' h=>mW ⟨kk,ki,ks,kt,kla,kll,klc,kfa,kfl,kfc⟩ d.k w' (HD.out w' h).k;have e0:=aA g1 0;have e1:=aA g1 1;have e2:=aA g1 2;have e3:=aA g1 3;have e4:=aA g1 4;have e5:=aA g1 5;have e6:=aA g1 6;have e7:=aA g1 7;have e8:=aA g1 8;have e9:=aA g1 9
 (try dsimp only at e0 e1 e2 e3 e4 e5 e6 e7 e8 e9)
 rw[hwb] at e0 e1 e2 e3 e4 e5 e6 e7 e8 e9;have Hc:=hid hwb;have Ha:=hid hb0;have G1:=hid g1;clear hwb hb0 g1 hd;dsimp only[SlC.v];go_enter Tryz.func30,Tryz.ntmps30
 by_cases h1:(8:Int)<(il:Int)
 ·go_wp2;go_ret;exact⟨⟨_,rfl,fun h=>by cases h⟩,by have h:=Ha.out;rw[Hc.out] at h;exact h⟩
 by_cases h2:(8:Int)<(wl:Int)
 ·go_wp2;go_ret;exact⟨⟨_,rfl,fun h=>by cases h⟩,by have h:=Ha.out;rw[Hc.out] at h;exact h⟩
 have Hj:=hid (show aNx d from⟨by have:=Hq.out;omega,by have:=Hp.out;omega⟩);go_upto_region 3 with (go_at_call 45;refine(Hw.out _ (by rw[Hc.out];exact Below.refl _ _)).mono ?_;rintro e w2 ⟨⟨bb,rfl⟩,hb2⟩;rw[<-Hc.out] at hb2;have Hd:=hid hb2;clear hb2;cases bb)
 ·go_ret;exact⟨⟨_,rfl,fun h=>by cases h⟩,Ha.out.trans (Hd.out.mono Ha.out.size)⟩
 go_wp2;clear e0 e1 e2 e3 e4 e5 e6 e7 e8 e9
 go_loopw [3] (fun i wr=>∃k:Nat,k<=il/\i=I6 k/\BB wb wr) (fun i _=>il-(intOf i).toNat)
 case atStart=>exact⟨0,Nat.zero_le _,rfl,Hd.out⟩
 case round =>
  obtain⟨k,hk,rfl,hr⟩:=hrel;obtain⟨wp,rfl⟩:=ez (wr:World)
  have gb:=aB hr G1.out;have e0:=aA gb 0;have e1:=aA gb 1;have e2:=aA gb 2;have e3:=aA gb 3;have e4:=aA gb 4;have e5:=aA gb 5;have e6:=aA gb 6;have e7:=aA gb 7;have e8:=aA gb 8;have e9:=aA gb 9
  (try dsimp only at e0 e1 e2 e3 e4 e5 e6 e7 e8 e9)
  have HR:=hid hr;clear gb hr;by_cases hlt:k<il
  ·have hkl:k<d.items.length:=by have:=Hq.out;omega
   obtain⟨b,o,rfl,hb,hx⟩:=(HD.out wp HR.out).items.slot (show 0<il by omega);obtain⟨x,hxa,hxi⟩:=hx k hkl;obtain⟨x0,x1,x2,x3,x4,x5,x6,x7,x8,x9⟩:=hxa.m;have hlt':(k:Int)<(il:Int):=by omega
   have hk0:(0:Int)<=(k:Int):=by omega
   clear hx hxa;go_upto_region 7 with (fail)
   clear x0 x1 x2 x3 x4 x5 x6 x7 x8 x9 e0 e1 e2 e3 e4 e5 e6 e7 e8 e9;obtain⟨⟨xe,xa,xn,xc⟩,xm,xb,xbn,xbc,⟨yk,yi,ys,yt,yla,yll,ylc,yfa,yfl,yfc⟩⟩:=x;obtain⟨wq,hwq⟩:=ez (wp.alloc (mObj ⟨⟨xe,xa,xn,xc⟩,xm,xb,xbn,xbc,⟨yk,yi,ys,yt,yla,yll,ylc,yfa,yfl,yfc⟩⟩))
   have g5:wq.heap[wp.heap.size]?=some (mObj ⟨⟨xe,xa,xn,xc⟩,xm,xb,xbn,xbc,⟨yk,yi,ys,yt,yla,yll,ylc,yfa,yfl,yfc⟩⟩):=by rw[hwq];exact heap_alloc_new _ _
   have hbq:BB wp wq:=by rw[hwq];exact(Below.refl _ _).alloc lr _
   dsimp only[mObj] at hwq g5 ⊢;rw[<-hwq];have e0:=aA g5 0;have e1:=aA g5 1;have e2:=aA g5 2;have e3:=aA g5 3;have e4:=aA g5 4;have e5:=aA g5 5;have e6:=aA g5 6;have e7:=aA g5 7;have e8:=aA g5 8;have e9:=aA g5 9
   (try dsimp only at e0 e1 e2 e3 e4 e5 e6 e7 e8 e9)
   have Hf:=hid (mW ⟨yk,yi,ys,yt,yla,yll,ylc,yfa,yfl,yfc⟩ d.items[k].b wq (hxi.b.same fun b q=>⟨Nat.lt_of_lt_of_le q hbq.size,hbq.block b q⟩));dsimp only[VC.v] at Hf;have Hk:=hid (HR.out.trans (hbq.mono HR.out.size));clear hwq g5 hxi hbq hb;by_cases h3:(40:Int)<(xbn:Int)
   ·go_wp2;go_ret;exact⟨⟨_,rfl,fun h=>by cases h⟩,Ha.out.trans (Hk.out.mono Ha.out.size)⟩
   by_cases h4:(600:Int)<(xn:Int)
   ·go_wp2;go_ret;exact⟨⟨_,rfl,fun h=>by cases h⟩,Ha.out.trans (Hk.out.mono Ha.out.size)⟩
   go_wp2_with (go_at_call 45;refine Hf.out.mono ?_;rintro e w5 ⟨⟨bb,rfl⟩,hb5⟩;have Hb:=hid (Hk.out.trans (hb5.mono Hk.out.size));clear hb5;cases bb)
   ·go_ret;exact⟨⟨_,rfl,fun h=>by cases h⟩,Ha.out.trans (Hb.out.mono Ha.out.size)⟩
   ·go_roundw
    case rel=>exact⟨k+1,by omega,by go_num,Hb.out⟩
    case measure=>simp[intOf];omega
  ·obtain rfl:k=il:=by omega
   go_wp2;clear e0 e1 e2 e3 e4 e5 e6 e7 e8 e9
   go_loopw [5] (fun i wr=>∃j:Nat,j<=wl/\i=I6 j/\BB wb wr) (fun i _=>wl-(intOf i).toNat)
   case atStart=>exact⟨0,Nat.zero_le _,rfl,HR.out⟩
   case round =>
    clear HR;obtain⟨j,hj,rfl,hr⟩:=hrel;obtain⟨wq,rfl⟩:=ez (wr:World)
    have gb:=aB hr G1.out;have e0:=aA gb 0;have e1:=aA gb 1;have e2:=aA gb 2;have e3:=aA gb 3;have e4:=aA gb 4;have e5:=aA gb 5;have e6:=aA gb 6;have e7:=aA gb 7;have e8:=aA gb 8;have e9:=aA gb 9
    (try dsimp only at e0 e1 e2 e3 e4 e5 e6 e7 e8 e9)
    have HR:=hid hr;clear gb hr hlt;by_cases hlt:j<wl
    ·have hkl:j<d.vals.length:=by have:=Hp.out;omega
     obtain⟨b,o,rfl,hb,hx⟩:=(HD.out wq HR.out).vals.slot (show 0<wl by omega);obtain⟨x,hxa,hxi⟩:=hx j hkl;obtain⟨x0,x1,x2,x3,x4,x5⟩:=hxa.val;have hlt':(j:Int)<(wl:Int):=by omega
     have hk0:(0:Int)<=(j:Int):=by omega
     obtain⟨yk,yi,ys,yt,yla,yll,ylc,yfa,yfl,yfc⟩:=x;have Hf:=hid (mW ⟨yk,yi,ys,yt,yla,yll,ylc,yfa,yfl,yfc⟩ d.vals[j] wq hxi);dsimp only[VC.v] at Hf
     (try dsimp only at x0 x1 x2 x3 x4 x5)
     clear hx hxa hxi hb;go_wp2_with (go_at_call 45;refine Hf.out.mono ?_;rintro e w5 ⟨⟨bb,rfl⟩,hb5⟩;have Hb:=hid (HR.out.trans (hb5.mono HR.out.size));clear hb5;cases bb)
     ·go_ret;exact⟨⟨_,rfl,fun h=>by cases h⟩,Ha.out.trans (Hb.out.mono Ha.out.size)⟩
     ·go_roundw
      case rel=>exact⟨j+1,by omega,by go_num,Hb.out⟩
      case measure=>simp[intOf];omega
    ·obtain rfl:j=wl:=by omega
     go_wp2;go_ret;exact⟨⟨_,rfl,fun _=>Hj.out⟩,Ha.out.trans (HR.out.mono Ha.out.size)⟩
def SmSta (d:Sta):Prop:=d.l.length<=10/\∀x∈d.l,aNx x
def aNw (d:Sta) (w:World) (e:Ending) (w':World):Prop:=(∃b,e=.returned (.bool b)/\(b=true->SmSta d))/\BB w w'
theorem xC (c:StC) (d:Sta) (w:World) (hd:IsSta (· < w.heap.size) w c d):CP 6 #[c.v] w (aNw d w):=by
 obtain⟨sn,st,a,sl,sc⟩:=c;have hbig:sl * 152<=140737488351232:=hd.l.big;have HL:=hid hd.l.len;dsimp only at HL;obtain⟨wb,hwb⟩:=ez (w.alloc (.cells #[I6 sn,I6 st,.slice a sl sc] 24))
 have hb0:BB w wb:=by rw[hwb];exact(bR w).alloc lr _
 have g1:wb.heap[w.heap.size]?=some (.cells #[I6 sn,I6 st,.slice a sl sc] 24):=by rw[hwb];exact heap_alloc_new w _
 have HD:Hid (∀w',BB wb w'->IsSta (· < w'.heap.size) w' ⟨sn,st,a,sl,sc⟩ d):=hid fun w' h=>by
  have hb:=hb0.trans (h.mono hb0.size);exact hd.same fun b q=>⟨Nat.lt_of_lt_of_le q hb.size,hb.block b q⟩
 have e0:=aA g1 0;have e1:=aA g1 1;have e2:=aA g1 2
 (try dsimp only at e0 e1 e2)
 rw[hwb] at e0 e1 e2;have Hc:=hid hwb;have Ha:=hid hb0;have G1:=hid g1;clear hwb hb0 g1 hd;dsimp only[StC.v];go_enter Tryz.func6,Tryz.ntmps6
 by_cases h1:(10:Int)<(sl:Int)
 ·go_wp2;go_ret;exact⟨⟨_,rfl,fun h=>by cases h⟩,by have h:=Ha.out;rw[Hc.out] at h;exact h⟩
 go_wp2;clear e0 e1 e2
 go_loopw [3] (fun i wr=>∃k:Nat,k<=sl/\i=I6 k/\BB wb wr/\∀j (h:j<d.l.length),j<k->aNx d.l[j]) (fun i _=>sl-(intOf i).toNat)
 case atStart=>exact⟨0,Nat.zero_le _,rfl,by rw[Hc.out];exact Below.refl _ _,fun j _ h=>absurd h ga⟩
 case round =>
  obtain⟨k,hk,rfl,hr,hall⟩:=hrel;obtain⟨wp,rfl⟩:=ez (wr:World)
  have gb:=aB hr G1.out;have e0:=aA gb 0;have e1:=aA gb 1;have e2:=aA gb 2
  (try dsimp only at e0 e1 e2)
  have HR:=hid hr;have Hi:=hid hall;clear gb hr hall;by_cases hlt:k<sl
  ·have hkl:k<d.l.length:=by have:=HL.out;omega
   obtain⟨b,o,rfl,hb,hx⟩:=(HD.out wp HR.out).l.slot (show 0<sl by omega);obtain⟨x,hxa,hxi⟩:=hx k hkl;obtain⟨x0,x1,x2,x3,x4,x5,x6,x7,x8,x9⟩:=hxa.slot;have hlt':(k:Int)<(sl:Int):=by omega
   have hk0:(0:Int)<=(k:Int):=by omega
   have Hf:=hid (uC x d.l[k] wp hxi);dsimp only[SlC.v] at Hf;clear hx hxa hxi hb;go_wp2_with (go_at_call 30;refine Hf.out.mono ?_;rintro e w5 ⟨⟨bb,rfl,hbb⟩,hb5⟩;have Hb:=hid (HR.out.trans (hb5.mono HR.out.size));have Hx:=hid hbb;clear hb5 hbb;cases bb)
   ·go_ret;exact⟨⟨_,rfl,fun h=>by cases h⟩,Ha.out.trans (Hb.out.mono Ha.out.size)⟩
   ·go_roundw
    case rel=>exact⟨k+1,by omega,by go_num,Hb.out,fun j hj hjk=>by
     by_cases hj':j<k
     ·exact Hi.out j hj hj'
     ·obtain rfl:j=k:=by omega
      exact Hx.out gd⟩
    case measure=>simp[intOf];omega
  ·obtain rfl:k=sl:=by omega
   go_wp2;go_ret;exact⟨⟨_,rfl,fun _=>⟨by have:=HL.out;omega,fun x hx=>by
    obtain⟨j,hj,rfl⟩:=List.getElem_of_mem hx;exact Hi.out j hj (by have:=HL.out;omega)⟩⟩,Ha.out.trans (HR.out.mono Ha.out.size)⟩
end
section
open Go Go.RowKit Go.Shelf
theorem slEqR (d:Slot):iM d d=true:=by
 simp only[iM,lH,vT aDg,vT (f:=valEqB) (fun d=>by simp[valEqB,lH]),decide_true,Bool.and_true,beq_self_eq_true]
theorem staEqR (d:Sta):mU d d=true:=by simp[mU,vT slEqR]
/-! the lines of a state's text can be read -/
theorem kO {n:Int} (h:n.natAbs<9223372036854775808):I64 n:=⟨by omega,by omega⟩
theorem aEn {m:Msg} (h:(dJ m).2=0) {a b c e:ByteArray} (hp:gF 4 (dJ m).1=[a,b,c,e]):e.size<=65536:=by
 unfold dJ at h hp;by_cases h0:eY m=0
 ·rw[if_neg (by simpa using h0)] at h hp;by_cases h1:(bG m.b).2=0
  ·rw[if_neg (by simpa using h1)] at hp;rw[uR m _ h0] at hp;simp only[List.cons.injEq] at hp;rw[<-hp.2.2.2.1];exact dC _
  ·rw[if_pos h1] at h;exact absurd h h1
 ·rw[if_pos h0] at h;exact absurd h h0
theorem bsz (a b:ByteArray):(a++b).size=a.size+b.size:=ByteArray.size_append
theorem aJ7 {x:Slot} (g:SlGood x) (p:ByteArray × ByteArray) (hp:p∈kT x):LnOK p.1 p.2:=by
 unfold kT at hp;rcases List.mem_cons.1 hp with rfl | hp
 ·have z1:=bX x.n (kO g.n);have z2:=bX x.t (kO g.t);have z3:=dC x.k;have z4:(⟨#[32]⟩:ByteArray).size=1:=rfl;refine⟨?_,fun _=>?_,fun h=>absurd (show wSlot=wItem from h) gc,fun _ h=>absurd rfl h⟩
  ·dsimp only;rw[bsz,bsz,bsz,bsz,z4];omega
  ·dsimp only;rw[nA x.n _ g.n];dsimp only;rw[nA x.t _ g.t];exact z3
 ·rcases List.mem_append.1 hp with hp | hp
  ·obtain⟨m,hm,rfl⟩:=List.mem_map.1 hp;have z:=oB m;exact⟨by dsimp only;omega,fun h=>absurd (show wItem=wSlot from h) gc,fun _ a b c e h=>aEn (g.items m hm).1 h,fun _ _ h=>absurd rfl h⟩
  ·obtain⟨v,hv,rfl⟩:=List.mem_map.1 hp;exact LnOK.small (dC v)
theorem aMn {d:Sta} (hn:d.n.natAbs<9223372036854775808) (ht:d.t.natAbs<9223372036854775808) (h:∀x∈d.l,SlGood x) (p:ByteArray × ByteArray) (hp:p∈(lns (oL d)).map jS):LnOK p.1 p.2:=by
 rw[pA d h] at hp;rcases List.mem_cons.1 hp with rfl | hp
 ·have z1:=bX d.n (kO hn);have z2:=bX d.t (kO ht);have z4:(⟨#[32]⟩:ByteArray).size=1:=rfl;exact LnOK.small (by dsimp only;rw[bsz,bsz,z4];omega)
 ·obtain⟨x,hx,hp⟩:=List.mem_flatMap.1 hp;exact aJ7 (h x hx) p hp
theorem aEh {α β:Type} (f:α->List β) (k:Nat):∀l:List α,(∀x∈l,(f x).length<=k)->(l.flatMap f).length<=l.length * k
 | [],_=>by simp
 | a :: r,h=>by
   have h1:=h a (List.mem_cons_self ..);have h2:=aEh f k r fun x hx=>h x (List.mem_cons_of_mem _ hx);rw[List.flatMap_cons,List.length_append,List.length_cons,Nat.add_mul];omega
theorem aK2 {d:Sta} (h:∀x∈d.l,SlGood x) (hs:SmSta d):((lns (oL d)).map jS).length<=1999:=by
 rw[pA d h,List.length_cons];have q:=aEh kT 17 d.l fun x hx=>by
  have a:=hs.2 x hx;have b:=a.1;have c:=a.2;unfold kT;rw[List.length_cons,List.length_append,List.length_map,List.length_map];omega
 have a:=hs.1;have c2:d.l.length * 17<=10 * 17:=Nat.mul_le_mul_right _ a;omega
theorem aFx {d:Sta} (hn:d.n.natAbs<9223372036854775808) (ht:d.t.natAbs<9223372036854775808) (h:∀x∈d.l,SlGood x) (hs:SmSta d):(oL d).length<=1000000000:=by
 have q:=fB eL 1500000 d.l fun x hx=>by
  have a:=hs.2 x hx;have b:=a.1;have c:=a.2;have g:=h x hx;have e1:=lQ x (kO g.n) (kO g.t);have e2:=fB dM 110006 x.items (fun m _=>gW m);have e3:=fB gD 65543 x.vals (fun m _=>nR m);have b2:x.items.length * 110006<=8 * 110006:=Nat.mul_le_mul_right _ b;have c2:x.vals.length * 65543<=8 * 65543:=Nat.mul_le_mul_right _ c;unfold eL;rw[List.length_append,List.length_append];omega
 have a:=hs.1;have c2:d.l.length * 1500000<=10 * 1500000:=Nat.mul_le_mul_right _ a;have e:(kW d.n d.t).length<=100:=by
  unfold kW;rw[pF];have:=bX _ (kO hn);have:=bX _ (kO ht);have:wState.size=5:=rfl;omega
 unfold oL;rw[List.length_append];omega
theorem SmSta.sz {d:Sta} (h:SmSta d):Sz 2000 d.l:=⟨by have:=h.1;omega,fun x hx=>by have:=h.2 x hx;have a:=this.1;have b:=this.2;omega⟩
theorem IsSta.namedL {S:Nat->Prop} {w:World} {c:StC} {d:Sta} (h:IsSta S w c d):∀x∈d.l,aCf x:=fun x hx=>by
 rcases h.l.at' with e | ⟨b,o,_,_,q⟩
 ·rw[e] at hx;exact absurd hx gd
 ·obtain⟨j,hj,rfl⟩:=List.getElem_of_mem hx;obtain⟨y,_,hy⟩:=q j hj;have hy':IsSl S w y d.l[j]:=hy;refine⟨IsVal.named hy'.k,fun m hm=>?_,fun v hv=>?_⟩
  ·rcases hy'.items.at' with e | ⟨b,o,_,_,q⟩
   ·rw[e] at hm;exact absurd hm gd
   ·obtain⟨i,hi,rfl⟩:=List.getElem_of_mem hm;obtain⟨z,_,hz⟩:=q i hi;have hz':IsMsg S w z d.l[j].items[i]:=hz;exact IsVal.named hz'.b
  ·rcases hy'.vals.at' with e | ⟨b,o,_,_,q⟩
   ·rw[e] at hv;exact absurd hv gd
   ·obtain⟨i,hi,rfl⟩:=List.getElem_of_mem hv;obtain⟨z,_,hz⟩:=q i hi;have hz':IsVal S w z d.l[j].vals[i]:=hz;exact IsVal.named hz'
theorem aFu (c:StC) (d:Sta) (w:World) (hd:IsSta (· < w.heap.size) w c d) (hT:Tabs w) (hZ:ZTab w) (hNV:NumVars w) :
 CP 3 #[c.v] w (Rt (.bool true) w):=by
 obtain⟨sn,st,a,sl,sc⟩:=c;obtain⟨wb,hwb⟩:=ez (w.alloc (.cells #[I6 sn,I6 st,.slice a sl sc] 24))
 have hb0:BB w wb:=by rw[hwb];exact(bR w).alloc lr _
 have hg:wb.heap[w.heap.size]?=some (.cells #[I6 sn,I6 st,.slice a sl sc] 24):=by rw[hwb];exact heap_alloc_new w _
 have HK:Hid (∀W,BB w W->CP 5 #[] W (Rt (.bool true) W)):=hid fun W h=>aDu W (hT.below h);have HV:=hid (fun (W:World) (h:BB w W)=>(And.intro (hT.below h) (And.intro (hZ.below h) (hNV.below h))));have HD:Hid (∀W,BB w W->IsSta (· < W.heap.size) W ⟨sn,st,a,sl,sc⟩ d):=hid fun W h=>hd.same fun b q=>⟨Nat.lt_of_lt_of_le q h.size,h.block b q⟩
 have HG:Hid (∀w',BB wb w'->Ce w' w.heap.size 0 (I6 sn)/\Ce w' w.heap.size 1 (I6 st)/\Ce w' w.heap.size 2 (.slice a sl sc)):=hid fun w' h=>by
  have h1:=aB h hg;exact⟨aA h1 0,aA h1 1,aA h1 2⟩
 have HN:=hid hd.namedL;have Ha:=hid hb0;have Hc:=hid hwb;have hk:=HK.out wb hb0;rw[hwb] at hk;have Hs:=hid hk;clear hd hT hZ hNV hb0 hwb hg hk;dsimp only[StC.v];go_enter Tryz.func3,Tryz.ntmps3
 obtain⟨k0,k1,k2⟩:=HG.out wb (Below.refl _ _);rw[Hc.out] at k0 k1 k2
 go_upto_if 15 with (first
  | (go_at_call 5;refine Hs.out.mono ?_;rintro e w1 ⟨rfl,hb1⟩;rw[<-Hc.out] at hb1;have Hn:=hid hb1;clear k0 k1 k2 hb1;obtain⟨k0,k1,k2⟩:=HG.out w1 Hn.out;have Hj:=hid (xC ⟨sn,st,a,sl,sc⟩ d w1 (HD.out w1 (Ha.out.trans (Hn.out.mono Ha.out.size)))))
  | (go_at_call 6;refine Hj.out.mono ?_;rintro e w2 ⟨⟨sb,rfl,hsm⟩,hb2⟩;have HS:=hid hsm;have Hd:=hid (Hn.out.trans (hb2.mono Hn.out.size));clear hsm hb2 k0 k1 k2))
 cases sb with
 | false =>
   go_wp2_with (go_at_call 5;refine(HK.out w2 (Ha.out.trans (Hd.out.mono Ha.out.size))).mono ?_;rintro e w3 ⟨rfl,hb3⟩)
   go_ret;exact⟨rfl,Ha.out.trans ((Hd.out.trans (hb3.mono Hd.out.size)).mono Ha.out.size)⟩
 | true =>
   have He:=hid (HS.out rfl);clear HS Hj Hs;obtain⟨k0,k1,k2⟩:=HG.out w2 Hd.out;have hbw2:=Ha.out.trans (Hd.out.mono Ha.out.size);obtain⟨T,hT⟩:=ez ((mQ d).1)
   obtain⟨E,hE⟩:=ez ((mQ d).2)
   have hen:=zY ⟨sn,st,a,sl,sc⟩ d w2 (HD.out w2 hbw2) (HV.out w2 hbw2).1 (HV.out w2 hbw2).2.1 He.out.sz;rw[<-hT,<-hE] at hen;have Ht:=hid hen;have Hg:=hid (And.intro hT hE);clear hen hT hE hbw2;go_upto_region 4 with (go_at_call 7;refine Ht.out.mono ?_;rintro e w3 ⟨rfl,hb3⟩;have Hm:=hid (Hd.out.trans (hb3.mono Hd.out.size));clear hb3)
   clear k0 k1 k2 Ht;obtain⟨k0,k1,k2⟩:=HG.out w3 Hm.out;have hbw3:=Ha.out.trans (Hm.out.mono Ha.out.size);have hlt:=aBs ⟨sn,st,a,sl,sc⟩ d w3 (HD.out w3 hbw3) (HV.out w3 hbw3).1 (HV.out w3 hbw3).2.1 He.out.sz;rw[<-Hg.out.1,<-Hg.out.2] at hlt;have Hr:=hid hlt;clear hlt hbw3;go_upto_region 5 with (go_at_call 8;refine Hr.out.mono ?_;rintro e w4 ⟨rfl,hb4⟩;have Hl:=hid (Hm.out.trans (hb4.mono Hm.out.size));clear hb4)
   clear k0 k1 k2 Hr;have e2:(E != E)=false:=by simp
   by_cases h0:E=0
   ·subst h0;have hgd:=vM Hg.out.2.symm HN.out;have htx:=aKo Hg.out.2.symm HN.out;obtain⟨⟨a1,a2⟩,g,ee⟩:=hgd;have hTT:T=⟨(oL d).toArray⟩:=by rw[Hg.out.1,ee]
    have hbw4:=Ha.out.trans (Hl.out.mono Ha.out.size);have hdc:=aB5 T w4 (by rw[hTT,aU];exact aFx a1 a2 g He.out) (by rw[hTT];exact aK2 g He.out) (fun x hx=>by rw[hTT] at hx;exact aMn a1 a2 g x hx) (HV.out w4 hbw4).1 (HV.out w4 hbw4).2.1 (HV.out w4 hbw4).2.2;rw[<-Hg.out.1] at htx;have Ho:=hid htx;have Hu:=hid hdc;clear a1 a2 g ee hTT htx hdc hbw4;go_upto_region 10 with (go_at_call 9;refine Hu.out.mono ?_;rintro e w5 ⟨c2,d2,E2,rfl,hi,hE,hb5⟩;have HI:=hid hi;have HE:=hid hE;have Hb:=hid (Hl.out.trans (hb5.mono Hl.out.size));clear hi hE hb5)
    obtain⟨cn,ct,ca,cl,cc⟩:=c2;have hE2:E2=0/\d2=d:=by
     rcases HE.out with ⟨q,hq⟩ | ⟨_,hq,_⟩
     ·rw[Ho.out] at hq;exact⟨q,(Option.some.inj hq).symm⟩
     ·rw[Ho.out] at hq;cases hq
    obtain⟨rfl,rfl⟩:=hE2;clear HE Ho Hu;dsimp only[StC.v] at HI ⊢;obtain⟨U,hU⟩:=ez w5.heap.size
    obtain⟨w6,hw6⟩:=ez (w5.alloc (.cells #[I6 cn,I6 ct,.slice ca cl cc] 24))
    rw[<-hw6,<-hU];have hz6:w6.heap[U]?=some (.cells #[I6 cn,I6 ct,.slice ca cl cc] 24):=by rw[hw6,hU];exact heap_alloc_new w5 _
    have hb6:BB wb w6:=by rw[hw6];exact Hb.out.alloc Hb.out.size _
    have hi6:IsSta (· < w6.heap.size) w6 ⟨cn,ct,ca,cl,cc⟩ d2:=by
     rw[hw6];exact HI.out.same fun b hb=>⟨by rw[World.size_alloc];omega,cW w5 _ _ hb.2⟩
    obtain⟨⟨j0,j1,j2⟩,_⟩:=fR hz6;obtain⟨k0,k1,k2⟩:=HG.out w6 hb6;have hsm:=aB4 ⟨cn,ct,ca,cl,cc⟩ ⟨sn,st,a,sl,sc⟩ d2 d2 w6 hi6 (HD.out w6 (Ha.out.trans (hb6.mono Ha.out.size)));rw[staEqR] at hsm;have Hh:=hid hsm;have Hv:=hid hb6;clear hU hw6 hz6 hi6 hsm hb6 HI;dsimp only[StC.v] at Hh;go_wp2_with (go_at_call 10;refine Hh.out.mono ?_;rintro e w7 ⟨rfl,hb7⟩)
    go_ret;exact⟨rfl,Ha.out.trans ((Hv.out.trans (hb7.mono Hv.out.size)).mono Ha.out.size)⟩
   ·have h1:(E==0)=false:=by simp;exact h0
    have h2:(E != 0)=true:=by simp;exact h0
    clear h0;go_wp2;go_ret;exact⟨rfl,Ha.out.trans (Hl.out.mono Ha.out.size)⟩
end
end Go.Proofs.YtmgpghoamapfgaaGreatDoor
