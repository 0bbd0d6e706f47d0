/- A part. -/
import Derived.Test.YtmgpghoamapfgaaGreatDoorST1Mrg
import Derived.Sort.CutIn
import Derived.Deep.LoopGhost
namespace Go.Proofs.YtmgpghoamapfgaaGreatDoor
set_option linter.unusedVariables false
set_option maxRecDepth 100000
set_option maxHeartbeats 16000000
set_option linter.unusedSimpArgs false
open Go Go.RowKit
structure SmW (lb:Nat) (w w':World):Prop where
 b:Below lb w w'
 n:w.heap.size<=w'.heap.size
 o:∀k,k<w.heap.size->k≠lb->w'.heap[k]?=w.heap[k]?
 l:∃m,w'.heap[lb]?=some (.cells #[I6 m] 3)
theorem SmW.trans {lb:Nat} {w w' w'':World} (h:SmW lb w w') (h':SmW lb w' w''):SmW lb w w'' :=
 ⟨h.b.trans h'.b,Nat.le_trans h.n h'.n,fun k hk hne=>(h'.o k (Nat.lt_of_lt_of_le hk h.n) hne).trans (h.o k hk hne),h'.l⟩
theorem SmW.alloc {lb:Nat} {w w':World} (h:SmW lb w w') (hlb:lb<w.heap.size) (o:Obj):SmW lb w (w'.alloc o) :=
 ⟨h.b.alloc (by have:=h.n;omega) o,by have:=h.n;simp;omega,fun k hk hne=>(Below.heap_alloc _ _ _ (by have:=h.n;omega)).trans (h.o k hk hne),h.l.imp fun m hm=>aD _ hm⟩
theorem SmW.set {lb:Nat} {w w':World} (h:SmW lb w w') (m:Int):SmW lb w (w'.setCell ⟨lb,0,none⟩ (I6 m)) :=
 ⟨h.b.setCell (p:=⟨lb,0,none⟩) lr _,by simpa [World.setCell] using h.n,fun k hk hne=>(Below.heap_setCell _ _ _ _ hne).trans (h.o k hk hne),by
   obtain⟨x,hx⟩:=h.l;exact⟨m,aE _ hx⟩⟩
theorem SmW.refl {lb:Nat} {w:World} {m:Int} (h:w.heap[lb]?=some (.cells #[I6 m] 3)):SmW lb w w:=⟨Below.refl _ _,Nat.le_refl _,fun _ _ _=>rfl,m,h⟩
def aHt (lb:Nat) (w:World) (e:Ending) (w':World):Prop:=(∃b,e=.returned (.bool b))/\SmW lb w w'
theorem sm_step (lb N:Nat) (ih:∀n,n<N->∀(d:Val) (c:VC) (lv:Int) (w:World),Val.sz d<=n->IsVal (· < lb) w c d->(∃m,w.heap[lb]?=some (.cells #[I6 m] 3))->CP 90 #[c.v,I6 lv,.pointer (some ⟨lb,0,none⟩)] w (aHt lb w))
 (k0 i0 s0:Int) (t0:ByteArray) (la:Option Addr) (ll lc:Nat) (fa:Option Addr) (fl fc:Nat) (l:List Val) (ns:List ByteArray) (fs:List Val) (lv:Int) (w:World) (hN:Val.sz (.mk k0 i0 s0 t0 l ns fs)<=N) (hd:IsVal (· < lb) w ⟨k0,i0,s0,t0,la,ll,lc,fa,fl,fc⟩ (.mk k0 i0 s0 t0 l ns fs)) (m:Int) (hm:w.heap[lb]?=some (.cells #[I6 m] 3)) :
 CP 90 #[.agg #[I6 k0,I6 i0,I6 s0,.string t0,.slice la ll lc,.slice fa fl fc],I6 lv,.pointer (some ⟨lb,0,none⟩)] w (aHt lb w):=by
 obtain⟨⟨_,_,_,_,hok,hll,hfl,hns⟩,hv,hf⟩:=hd;dsimp only at hll hfl hv hf;have hreach:ll * 88<=140737488351232:=hok.l;have hreachf:fl * 104<=140737488351232:=hok.f;have hts:t0.size<=140737488351232:=hok.t;have HL:=hid hll;clear hll;have HF:=hid hfl;clear hfl;have HNS:=hid hns;clear hns;have hszl:∀k (h:k<l.length),Val.sz l[k]<N:=fun k h=>by have:=Val.szs_get l k h;simp only[Val.sz] at hN;omega
 have hszf:∀k (h:k<fs.length),Val.sz fs[k]<N:=fun k h=>by have:=Val.szs_get fs k h;simp only[Val.sz] at hN;omega
 clear hN hok;have hlw:=ltOf hm;have c1:=aA hm 0;have f1:=aC hm 0
 (try dsimp only at c1)
 have HM:=hid hm;have HV:=hid hv;have HVF:=hid hf;clear hm hv hf;go_enter Tryz.func90,Tryz.ntmps90
 go_upto_region 2 with (fail)
 obtain⟨q,hq⟩:=ez (wrap64 (m-1))
 rw[<-hq];clear hq;obtain⟨w1,hw1⟩:=ez ((w.setCell ⟨lb,0,none⟩ (I6 q)).alloc (.cells #[I6 k0,I6 i0,I6 s0,.string t0,.slice la ll lc,.slice fa fl fc] 36))
 rw[<-hw1];have h1:SmW lb w w1:=by rw[hw1];exact((SmW.refl HM.out).set q).alloc hlw _
 have g1:w1.heap[w.heap.size]?=some (.cells #[I6 k0,I6 i0,I6 s0,.string t0,.slice la ll lc,.slice fa fl fc] 36):=by rw[hw1];exact aS _ _ _ (by simp[World.setCell])
 have gl:w1.heap[lb]?=some (.cells #[I6 q] 3):=by rw[hw1];exact aD _ (aE _ HM.out)
 have z1:w1.heap.size=w.heap.size+1:=by rw[hw1];simp[World.setCell]
 have e0:=aA g1 0;have e1:=aA g1 1;have e2:=aA g1 2;have e3:=aA g1 3;have e4:=aA g1 4;have e5:=aA g1 5;have c2:=aA gl 0
 (try dsimp only at c2 e0 e1 e2 e3 e4 e5)
 have H1:=hid h1;have G1:=hid g1;have GL:=hid gl;clear hw1 c1 f1 h1 g1 gl HM;by_cases h1:q<0
 ·go_wp2;go_ret;exact⟨⟨_,rfl⟩,H1.out⟩
 by_cases h2:lv=0
 ·subst h2;go_wp2;go_ret;exact⟨⟨_,rfl⟩,H1.out⟩
 have h2':(lv==0)=false:=by simp[h2]
 by_cases h3:(2000:Int)<t0.size
 ·go_wp2;go_ret;exact⟨⟨_,rfl⟩,H1.out⟩
 go_wp2;clear e0 e1 e2 e3 e4 e5 c2
 go_loopw [7] (fun i wr=>∃k:Nat,k<=ll/\i=I6 k/\SmW lb w1 wr) (fun i _=>ll-(intOf i).toNat)
 case atStart=>exact⟨0,Nat.zero_le _,rfl,SmW.refl GL.out⟩
 case round =>
  obtain⟨k,hk,rfl,hr⟩:=hrel;obtain⟨wp,rfl⟩:=ez (wr:World)
  have gb:=(hr.o w.heap.size ga ga).trans G1.out;have HR:=hid hr;have e0:=aA gb 0;have e1:=aA gb 1;have e2:=aA gb 2;have e3:=aA gb 3;have e4:=aA gb 4;have e5:=aA gb 5
  (try dsimp only at e0 e1 e2 e3 e4 e5)
  clear hr gb;by_cases hlt:k<ll
  ·have hkl:k<l.length:=by have:=HL.out;omega
   obtain⟨b,o,rfl,hb,hvs⟩:∃b o,la=some ⟨b,o,none⟩/\b<lb/\IsVals (· < lb) w b o l:=by
    rcases HV.out with h0 | h
    ·rw[h0] at hkl;simp at hkl
    ·exact h
   have hbw:Below lb w wp:=H1.out.b.trans HR.out.b;obtain⟨x,hx,hxa⟩:=IsVals.get (IsVals.same (S':=(· < lb)) (fun b q=>⟨q,hbw.block b q⟩) (hbw.block b hb) hvs) k hkl;have hlt':(k:Int)<(ll:Int):=by omega
   have hk0:(0:Int)<=(k:Int):=by omega
   have HIH:=hid (ih (Val.sz l[k]) (hszl k hkl) l[k] x (wrap64 (lv-1)) wp lr hxa HR.out.l);obtain⟨x0,x1,x2,x3,x4,x5⟩:=hx;clear hxa hvs hbw hb;go_wp2_with (go_at_call 90;refine HIH.out.mono ?_;rintro e w4 ⟨⟨bb,rfl⟩,h4⟩;have H4:=hid h4;clear h4;cases bb)
   ·go_ret;exact⟨⟨_,rfl⟩,(H1.out.trans HR.out).trans H4.out⟩
   ·go_roundw
    case rel=>exact⟨k+1,by omega,by go_num,HR.out.trans H4.out⟩
    case measure=>simp[intOf];omega
  ·obtain rfl:k=ll:=by omega
   go_wp2;clear e0 e1 e2 e3 e4 e5
   go_loopw [8] (fun i wr=>∃k2:Nat,k2<=fl/\i=I6 k2/\SmW lb w1 wr) (fun i _=>fl-(intOf i).toNat)
   case atStart=>exact⟨0,Nat.zero_le _,rfl,HR.out⟩
   case round =>
    clear HR;obtain⟨j,hj,rfl,hr⟩:=hrel;obtain⟨wq,rfl⟩:=ez (wr:World)
    have gb:=(hr.o w.heap.size ga ga).trans G1.out;have HR:=hid hr;have e0:=aA gb 0;have e1:=aA gb 1;have e2:=aA gb 2;have e3:=aA gb 3;have e4:=aA gb 4;have e5:=aA gb 5
    (try dsimp only at e0 e1 e2 e3 e4 e5)
    clear hr gb hlt;by_cases hlt:j<fl
    ·have hkl:j<fs.length:=by have:=HF.out;omega
     have hkn:j<ns.length:=by have:=HNS.out;omega
     obtain⟨b,o,rfl,hb,hvs⟩:∃b o,fa=some ⟨b,o,none⟩/\b<lb/\IsFlds (· < lb) w b o ns fs:=by
      rcases HVF.out with h0 | h
      ·rw[h0] at hkl;simp at hkl
      ·exact h
     have hbw:Below lb w wq:=H1.out.b.trans HR.out.b;obtain⟨⟨hn,hnz⟩,x,hx,hxa⟩:=IsFlds.get (IsFlds.same (S':=(· < lb)) (fun b q=>⟨q,hbw.block b q⟩) (hbw.block b hb) hvs) HNS.out j hkl hkn;have hlt':(j:Int)<(fl:Int):=by omega
     have hk0:(0:Int)<=(j:Int):=by omega
     have HIH:=hid (ih (Val.sz fs[j]) (hszf j hkl) fs[j] x (wrap64 (lv-1)) wq lr hxa HR.out.l);obtain⟨x0,x1,x2,x3,x4,x5⟩:=hx;obtain⟨nm,hnm⟩:=ez (ns[j])
     rw[<-hnm] at hn hnz;clear hxa hvs hbw hb hnm;by_cases h9:(100:Int)<nm.size
     ·go_wp2;go_ret;exact⟨⟨_,rfl⟩,H1.out.trans HR.out⟩
     go_wp2_with (go_at_call 90;refine HIH.out.mono ?_;rintro e w4 ⟨⟨bb,rfl⟩,h4⟩;have H4:=hid h4;clear h4;cases bb)
     ·go_ret;exact⟨⟨_,rfl⟩,(H1.out.trans HR.out).trans H4.out⟩
     ·go_roundw
      case rel=>exact⟨j+1,by omega,by go_num,HR.out.trans H4.out⟩
      case measure=>simp[intOf];omega
    ·obtain rfl:j=fl:=by omega
     go_wp2;go_ret;exact⟨⟨_,rfl⟩,H1.out.trans HR.out⟩
theorem sm_any (lb:Nat):∀(n:Nat) (d:Val) (c:VC) (lv:Int) (w:World),Val.sz d<=n->IsVal (· < lb) w c d->(∃m,w.heap[lb]?=some (.cells #[I6 m] 3))->CP 90 #[c.v,I6 lv,.pointer (some ⟨lb,0,none⟩)] w (aHt lb w):=by
 intro n
 induction n using Nat.strongRecOn with
 | _ N ih =>
   intro d c lv w hN hd hm;obtain⟨m,hm⟩:=hm;obtain⟨k,i,s,t,l,ns,fs⟩:=d;obtain⟨k0,i0,s0,t0,la,ll,lc,fa,fl,fc⟩:=c;have hd':=hd;obtain⟨⟨hk,hi,hs,ht,_⟩,_,_⟩:=hd';dsimp only at hk hi hs ht;subst hk;subst hi;subst hs;subst ht;exact sm_step lb N (fun n hn d c lv w h1 h2 h3=>ih n hn d c lv w h1 h2 h3) _ _ _ _ la ll lc fa fl fc l ns fs lv w hN hd m hm
def SomeB (w:World) (e:Ending) (w':World):Prop:=(∃b,e=.returned (.bool b))/\BB w w'
theorem mW (c:VC) (d:Val) (w:World) (hd:IsVal (· < w.heap.size) w c d):CP 45 #[c.v] w (SomeB w):=by
 obtain⟨wl,hwl⟩:=ez ((w.alloc (.cells #[I6 c.k,I6 c.i,I6 c.s,.string c.t,.slice c.la c.ll c.lc,.slice c.fa c.fl c.fc] 36)).alloc (.cells #[I6 300] 3))
 have hb:BB w wl:=by rw[hwl];exact((bR w).alloc lr _).alloc gd _
 have hc:=sm_any (w.heap.size+1) _ d c 12 wl lr (hd.same fun b q=>⟨by omega,hb.block b q⟩) ⟨300,by rw[hwl];exact aS _ _ _ gd⟩;rw[hwl] at hc;have HC:=hid hc;have HWL:=hid hwl;have HB:=hid hb;clear hc hb hwl hd;obtain⟨k0,i0,s0,t0,la,ll,lc,fa,fl,fc⟩:=c;dsimp only[VC.v] at HC ⊢;go_enter Tryz.func45,Tryz.ntmps45
 go_wp2_with (go_at_call 90;refine HC.out.mono ?_;rintro e w4 ⟨⟨bb,rfl⟩,h4⟩)
 go_ret;exact⟨⟨_,rfl⟩,HB.out.trans ((by rw[HWL.out];exact h4.b:Below (w.heap.size+1) wl w4).mono ga)⟩
end Go.Proofs.YtmgpghoamapfgaaGreatDoor
