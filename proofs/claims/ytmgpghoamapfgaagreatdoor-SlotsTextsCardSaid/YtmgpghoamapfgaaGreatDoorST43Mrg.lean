/- A part. -/
import Derived.Test.YtmgpghoamapfgaaGreatDoorST41Mrg
import Derived.Test.YtmgpghoamapfgaaGreatDoorST42Mrg
import Derived.Test.YtmgpghoamapfgaaGreatDoorST35Mrg
namespace Go.Proofs.YtmgpghoamapfgaaGreatDoor
set_option linter.unusedVariables false
set_option maxRecDepth 100000
set_option maxHeartbeats 16000000
set_option linter.unusedSimpArgs false
open Go Go.RowKit Go.Shelf
attribute [local go_sem] Oper.semAt_some
theorem aAz (s:ByteArray) (w:World):Calls Tryz.prog 41 #[.string s] w fun e w' =>
 e=.returned (.func (.func 79) #[] #[.pointer (some ⟨w.heap.size,0,none⟩)])/\w'=w.alloc (.cells #[.string s] 9):=by
 go_enter Tryz.func41,Tryz.ntmps41
 go_wp2;go_ret;exact⟨rfl,rfl⟩
def DecPost (s:ByteArray) (w:World) (x:Ending) (w':World):Prop :=
 ∃(c:StC) (d:Sta) (E:Int),x=.returned (.tuple #[c.v,I6 E])/\IsSta (fun b=>w.heap.size<=b/\b<w'.heap.size) w' c d/\((E=0/\aN9 s=some d)\/(E=3/\aN9 s=none/\d=⟨0,0,[]⟩))/\Below w.heap.size w w'
abbrev sZ:Array Value:=#[I6 0,I6 0,.slice none 0 0]
theorem fR {W:World} {b:Nat} {u v x:Value} {t:TypeId} (h:W.heap[b]?=some (.cells #[u,v,x] t (0,0))) :
 (W.cell? ⟨b,0,none⟩=some u/\W.cell? ⟨b,1,none⟩=some v/\W.cell? ⟨b,2,none⟩=some x)/\W.frozen? ⟨b,0,none⟩=false/\W.frozen? ⟨b,1,none⟩=false/\W.frozen? ⟨b,2,none⟩=false:=by
 refine⟨⟨?_,?_,?_⟩,?_,?_,?_⟩<;>simp[World.cell?,World.frozen?,h]
theorem decRes {tmps:Array Value} {W:World} {R:Nat} {x y z v:Value} (h2:tmps.getD 2 undef=.pointer (some ⟨R,0,none⟩)) (h3:tmps.getD 3 undef=.pointer (some ⟨R+1,0,none⟩))
 (hR:W.heap[R]?=some (.cells #[x,y,z] 24 (0,0))) (hE:W.heap[R+1]?=some (.cells #[v] 27 (0,0))) :
 (results Tryz.f9 tmps).run Tryz.prog W=.ok (.tuple #[.agg #[x,y,z],v]) W:=by
 have h2':tmps[2]?.getD undef=.pointer (some ⟨R,0,none⟩):=by simpa using h2
 have h3':tmps[3]?.getD undef=.pointer (some ⟨R+1,0,none⟩):=by simpa using h3
 obtain⟨⟨c0,c1,c2⟩,_⟩:=fR hR;have e0:=(aY hE).1;simp[results,Tryz.results9,go_sem,h2',h3',c0,c1,c2,e0]
theorem aC7 {A:World} {R:Nat} {x y z v:Value} (hR:A.heap[R]?=some (.cells #[x,y,z] 24 (0,0))) (hE:A.heap[R+1]?=some (.cells #[v] 27 (0,0))) (p q r e:Value) :
 ((((A.setCell ⟨R,0,none⟩ p).setCell ⟨R,1,none⟩ q).setCell ⟨R,2,none⟩ r).setCell ⟨R+1,0,none⟩ e).heap[R]?=some (.cells #[p,q,r] 24 (0,0)) /\
 ((((A.setCell ⟨R,0,none⟩ p).setCell ⟨R,1,none⟩ q).setCell ⟨R,2,none⟩ r).setCell ⟨R+1,0,none⟩ e).heap[R+1]?=some (.cells #[e] 27 (0,0)) /\
 ∀k,k≠R->k≠R+1->((((A.setCell ⟨R,0,none⟩ p).setCell ⟨R,1,none⟩ q).setCell ⟨R,2,none⟩ r).setCell ⟨R+1,0,none⟩ e).heap[k]?=A.heap[k]?:=by
 refine⟨?_,?_,fun k h1 h2=>?_⟩
 ·exact(Below.heap_setCell _ _ _ _ gi).trans (dQ (dQ (dQ hR)))
 ·exact dQ ((Below.heap_setCell _ _ _ _ gi).trans ((Below.heap_setCell _ _ _ _ gi).trans ((Below.heap_setCell _ _ _ _ gi).trans hE)))
 ·exact(Below.heap_setCell _ _ _ _ gi).trans ((Below.heap_setCell _ _ _ _ gi).trans ((Below.heap_setCell _ _ _ _ gi).trans (Below.heap_setCell _ _ _ _ gi)))
theorem aC5 {s:ByteArray} {w Wf:World} {R D:Nat} {tmps:Array Value} {c:StC} {d:Sta} {E:Int} (hRw:R=w.heap.size) (h2:tmps.getD 2 undef=.pointer (some ⟨R,0,none⟩)) (h3:tmps.getD 3 undef=.pointer (some ⟨R+1,0,none⟩))
 (hR:Wf.heap[R]?=some (.cells #[I6 c.n,I6 c.t,.slice c.a c.l c.c] 24 (0,0))) (hE:Wf.heap[R+1]?=some (.cells #[I6 E] 27 (0,0))) (hD:R+2<=D) (hbw:Below R w Wf)
 (hsta:IsSta (fun k=>D<k/\k<Wf.heap.size) Wf c d) (halt:(E=0/\aN9 s=some d)\/(E=3/\aN9 s=none/\d=⟨0,0,[]⟩)) :
 ∃v,(results Tryz.f9 tmps).run Tryz.prog (Wf.putObj D (.deferred none))=.ok v (Wf.putObj D (.deferred none))/\DecPost s w (.returned v) (Wf.putObj D (.deferred none)):=by
 refine⟨_,decRes (R:=R) h2 h3 ((World.putObj_heap_other ga).trans hR) ((World.putObj_heap_other ga).trans hE),c,d,E,rfl,hsta.same fun k hk=>⟨⟨by omega,by simp only[World.putObj,Array.size_setIfInBounds];exact hk.2⟩,World.putObj_heap_other ga⟩,halt,?_⟩;rw[<-hRw];exact hbw.grown (grownBy_putObj' Wf D _) (by rw[hRw];exact hbw.size) (fun k e=>by cases e;omega)
theorem aB5 (s:ByteArray) (w:World) (hs:s.size<=1000000000) (hp:(jY s).length<=1999) (hln:∀x∈jY s,LnOK x.1 x.2) (hT:Tabs w) (hZ:ZTab w) (hNV:NumVars w) :
 Calls Tryz.prog 9 #[.string s] w (DecPost s w):=by
 obtain⟨n,hn⟩:=ez (9:Nat)
 rw[<-callsIn_wide (n:=n)];obtain⟨F,hFe⟩:=ez Fence.wide
 have hF:∀f,F.fn f:=fun f=>by rw[hFe];trivial
 have hro:F.round=none:=by rw[hFe];rfl
 have h1:1<=n:=by omega
 have Hi:=hid hn;clear hn;have HC:=hid (fun (k:Nat) (f:FuncId) (args:Array Value) (w:World) (R:Ending->World->Prop) (h:Calls Tryz.prog f args w R)=>(show CallsIn F k Tryz.prog f args w R by rw[hFe];exact callsIn_wide.2 h));rw[<-hFe];have Hr:=hid hFe;clear hFe;obtain⟨R,hR⟩:=ez w.heap.size
 obtain⟨A1,hA1⟩:=ez (((w.alloc (.cells sZ 24)).alloc (.cells #[I6 0] 27)).alloc (.cells sZ 24))
 obtain⟨A2,hA2⟩:=ez (A1.alloc (.cells #[.string s] 9))
 have hS1:A1.heap.size=R+3:=by rw[hA1,hR];simp
 have hS2:A2.heap.size=R+4:=by rw[hA2,World.size_alloc,hS1]
 have a0:A1.heap[R]?=some (.cells sZ 24 (0,0)):=by
  rw[hA1,hR];exact(Below.heap_alloc _ _ _ gj).trans ((Below.heap_alloc _ _ _ gd).trans (World.alloc_heap_new w _))
 have a1:A1.heap[R+1]?=some (.cells #[I6 0] 27 (0,0)):=by
  rw[hA1,hR];have h:=World.alloc_heap_new (w.alloc (.cells sZ 24)) (.cells #[I6 0] 27);rw[World.size_alloc] at h;exact(Below.heap_alloc _ _ _ gd).trans h
 have a2:A1.heap[R+2]?=some (.cells sZ 24 (0,0)):=by
  rw[hA1,hR];have h:=World.alloc_heap_new ((w.alloc (.cells sZ 24)).alloc (.cells #[I6 0] 27)) (.cells sZ 24);rwa[World.size_alloc,World.size_alloc] at h
 have hb1:Below R w A1:=by rw[hA1,hR];exact(((bR w).alloc lr _).alloc gd _).alloc gj _
 have hb2:Below R w A2:=by rw[hA2];exact hb1.alloc ga _
 have k0:A2.heap[R]?=some (.cells sZ 24 (0,0)):=by rw[hA2];exact aD _ a0
 have k1:A2.heap[R+1]?=some (.cells #[I6 0] 27 (0,0)):=by rw[hA2];exact aD _ a1
 have k2:A2.heap[R+2]?=some (.cells sZ 24 (0,0)):=by rw[hA2];exact aD _ a2
 have k3:A2.heap[R+3]?=some (.cells #[.string s] 9 (0,0)):=by rw[hA2,<-hS1];exact heap_alloc_new A1 _
 have hlc:=HC.out (n-1) _ _ _ _ (aAz s A1);rw[hS1,<-hA2] at hlc;have Hq:=hid hlc;have He:=hid (fun (W:World) (h:Below R w W)=>(And.intro (hT.below (by rw[hR] at h;exact h)) (And.intro (hZ.below (by rw[hR] at h;exact h)) (hNV.below (by rw[hR] at h;exact h)))));have Hm:=aG4 F Hr.out (n-1) (by have:=Hi.out;omega) s hs (R+3) (A2.heap.size+2) A2 k3;have Ht:=hid hA1;have Hc:=hid hS2;have HR:=hid hR;have HP:=hid hp;have Hp:=hid hln;have HK:=hid (And.intro k0 (And.intro k1 k2));have Hb:=hid hb2;clear hlc hA1 hA2 hS1 hS2 a0 a1 a2 hb1 hb2 k0 k1 k2 k3 hT hZ hNV hs hp hln;clear hR
 refine callsIn_of_wp_marks Tryz.func9 rfl (hF _) ?_ hro;simp only[Tryz.ntmps9,List.size_toArray,List.length_cons,List.length_nil,Nat.reduceAdd,Nat.reduceSub,Array.replicate_succ,Array.replicate_zero,List.push_toArray,List.append_toArray,List.nil_append,List.cons_append]
 gi_upto_region 2 with (fail)
 rw[<-Ht.out,show w.heap.size+1+1=R+2 by rw[HR.out],<-HR.out]
 gi_wp2_with (gi_at_call 41;refine Hq.out.mono ?_;rintro e A ⟨rfl,hA⟩;obtain rfl:=hA)
 refine yX hF hro h1 (enc:=encP) (w0:=A) (xs:=jY s) gh (fun args w=>by simp[go_sem,callFunc];rfl) (fun x=>by rfl) (M:=A.heap.size+2+4) (G:=NumVars) (R:=fun k=>A.heap.size+2<=k/\k<A.heap.size+2+4) (R':=fun k=>R+4<=k/\k<R+10) Hm (Below.refl _ _) (fun k hk=>by have:=Hc.out;omega) ga ga (by have:=Hc.out;omega) (by have:=Hc.out;omega)
  (fun p W=>∃d,dR ⟨0,0,[]⟩ p=some d/\StOwn (R+10) (R+2) W d/\Below R w W/\W.heap[R]?=some (.cells sZ 24 (0,0))/\W.heap[R+1]?=some (.cells #[I6 0] 27 (0,0)))
  (fun p W=>Below R w W/\W.heap[R]?=some (.cells sZ 24 (0,0))/\W.heap[R+1]?=some (.cells #[I6 3] 27 (0,0))/\dR ⟨0,0,[]⟩ p=none/\p <+: jY s)
  ?hI ?hIx ?hG ?h0 (fun x=>{ tmps:=#[.string s,undef,.pointer (some ⟨R,0,none⟩),.pointer (some ⟨R+1,0,none⟩),.pointer (some ⟨R+2,0,none⟩),.string x.1,.string x.2,undef,undef,.string s,.func (.func 79) #[] #[.pointer (some ⟨R+3,0,none⟩)],.string x.1,.string x.2,undef,undef,undef,undef,undef,undef,undef,undef,undef,undef,undef,undef,undef,undef,undef,undef,undef,undef,undef],defers:=[] }) ?hassign ?hbody ?hdone ?hstop
 case hI =>
  rintro p X Y ⟨d,h1,h2,h3,h4,h5⟩ ht;have hb:Below R X Y:=⟨ht.os,ht.tape,ht.output,ht.size,fun k hk=>ht.block k (by have:=h3.size;have:=HR.out;omega) ga⟩
  obtain⟨sv,g1,_⟩:=id h2;exact⟨d,h1,h2.move (ht.block _ (ltOf g1) ga) (fun k hk hl=>ht.block k hl ga) ht.size,h3.trans hb,ht.keep h4 ga,ht.keep h5 ga⟩
 case hIx =>
  rintro p X Y ⟨h3,h4,h5,h6⟩ ht;have hb:Below R X Y:=⟨ht.os,ht.tape,ht.output,ht.size,fun k hk=>ht.block k (by have:=h3.size;have:=HR.out;omega) ga⟩
  exact⟨h3.trans hb,ht.keep h4 ga,ht.keep h5 ga,h6⟩
 case hG =>
  rintro p X ⟨d,h1,h2,h3,_⟩;exact(He.out X h3).2.2
 case h0=>exact⟨⟨0,0,[]⟩,rfl,⟨.slice none 0 0,HK.out.2.2,⟨by decide,by decide⟩,⟨by decide,by decide⟩,.inl ⟨rfl,World.ownsRow_nil _ _ _ _⟩⟩,Hb.out,HK.out.1,HK.out.2.1⟩
 case hassign =>
  intro l x W K hK
  gi_wp2
  exact hK
 case hbody =>
  rintro l p x W ⟨d,hrd,hst,hbw,hr0,hr1⟩ hM hpx;have hx:x∈jY s:=hpx.subset gd;have hpl:p.length<=1999:=by
   have h1:=hpx.length_le;simp at h1;have:=HP.out;omega
  have hsz:Sz p.length d.l:=by
   have h:=rK p 0 ⟨0,0,[]⟩ d ⟨Nat.le_refl _,fun x hx=>absurd hx gd⟩ hrd;rw[Nat.zero_add] at h;exact h
  have hrc:=CallsIn.inRound l (HC.out (n-1-1-1) _ _ _ _ (aJf (R+10) (R+2) d x.1 x.2 W hst ga (by have:=Hc.out;omega) p.length hsz ga (fun W' h=>He.out W' (hbw.trans (h.mono ga))) (Hp.out x hx)));have Hn:=hid hrc;have Hg:=hid hrd;have HW:=hid (And.intro hr0 (And.intro hr1 (And.intro hbw (ltOf (Classical.choose_spec hst).1))));have Ho:=hid hpx;have HM:=hid hM;have hn1:1<=n-1-1:=by have:=Hi.out;omega
  clear hrc hrd hst hbw hr0 hr1 hM hpx hx hpl hsz
  gi_upto_region 6 with ((try refine⟨fun _=>hn1,?_⟩);gi_at_call 42;refine Hn.out.mono ?_;rintro e W2 ⟨bb,rfl,ht,hpost⟩;have z0:=ht.keep HW.out.1 ga;have z1:=ht.keep HW.out.2.1 ga;have Ha:=hid ht;have Hh:=hid hpost;have Z:=hid (And.intro z0 z1);obtain⟨⟨x0,x1,x2⟩,y0,y1,y2⟩:=fR z0;obtain⟨e0,e1⟩:=aY z1;clear ht hpost z0 z1;cases bb)
  ·gi_wp2
   have hd4:=aC7 Z.out.1 Z.out.2 (I6 0) (I6 0) (.slice none 0 0) (I6 3);have hbw2:Below R W W2:=⟨Ha.out.os,Ha.out.tape,Ha.out.output,Ha.out.size,fun k hk=>Ha.out.block k (by have:=HW.out.2.2.2;omega) ga⟩
   have hbf:Below R w ((((W2.setCell ⟨R,0,none⟩ (I6 0)).setCell ⟨R,1,none⟩ (I6 0)).setCell ⟨R,2,none⟩ (.slice none 0 0)).setCell ⟨R+1,0,none⟩ (I6 3)):=((((HW.out.2.2.1.trans hbw2).setCell (p:=⟨R,0,none⟩) lr _).setCell (p:=⟨R,1,none⟩) lr _).setCell (p:=⟨R,2,none⟩) lr _).setCell (p:=⟨R+1,0,none⟩) (Nat.le_succ _) _;have hsz2:W.heap.size<=((((W2.setCell ⟨R,0,none⟩ (I6 0)).setCell ⟨R,1,none⟩ (I6 0)).setCell ⟨R,2,none⟩ (.slice none 0 0)).setCell ⟨R+1,0,none⟩ (I6 3)).heap.size:=by
    have:=Ha.out.size
    simpa [World.setCell] using this
   have hno:cO d x.1 x.2=none:=by
    rcases Hh.out with ⟨h,_⟩ | ⟨_,h⟩
    ·simp at h
    ·exact h
   refine⟨hsz2,fun k hk hkl=>(hd4.2.2 k ga ga).trans (Ha.out.block k hkl ga),hbf,hd4.1,hd4.2.1,?_,Ho.out⟩;rw[jW p [x] _ _ Hg.out,dR,hno]
  ·have hbw2:Below R W W2:=⟨Ha.out.os,Ha.out.tape,Ha.out.output,Ha.out.size,fun k hk=>Ha.out.block k (by have:=HW.out.2.2.2;omega) ga⟩
   obtain⟨d',hd',hst'⟩:∃d',cO d x.1 x.2=some d'/\StOwn (R+10) (R+2) W2 d':=by
    rcases Hh.out with ⟨_,h⟩ | ⟨h,_⟩
    ·exact h
    ·simp at h
   refine⟨Ha.out.size,fun k hk hkl=>Ha.out.block k hkl ga,d',?_,hst',HW.out.2.2.1.trans hbw2,Z.out.1,Z.out.2⟩;rw[jW p [x] _ _ Hg.out,dR,hd'];rfl
 case hdone =>
  rintro D W hD ⟨d,hrd,⟨sv,hb,hI1,hI2,hsl⟩,hbw,hr0,hr1⟩ hdf;have hDR:=Hc.out;have hsz:Sz (jY s).length d.l:=by
   have h:=rK (jY s) 0 ⟨0,0,[]⟩ d ⟨Nat.le_refl _,fun x hx=>absurd hx gd⟩ hrd;rw[Nat.zero_add] at h;exact h
  have hpl:=HP.out;have hsz2:Sz 2000 d.l:=⟨by have:=hsz.1;omega,fun x hx=>by have:=hsz.2 x hx;omega⟩
  obtain⟨a,cap,hsv,hrow⟩:=Built.row' (hsl.built hsz2 gc) rfl (by show d.l.length * 152<=_;have:=hsz2.1;omega);subst hsv;have hsta:IsSta (fun k=>R+10<=k/\k<W.heap.size) W ⟨d.n,d.t,a,d.l.length,cap⟩ d:=⟨rfl,hI1,rfl,hI2,hrow⟩
  have hen:=HC.out (n-1) _ _ _ _ (zY ⟨d.n,d.t,a,d.l.length,cap⟩ d W (hsta.same fun k hk=>⟨hk.2,rfl⟩) (He.out W hbw).1 (He.out W hbw).2.1 hsz2);obtain⟨t,ht⟩:=ez ((mQ d).1)
  obtain⟨er,her⟩:=ez ((mQ d).2)
  rw[<-ht,<-her] at hen;have Hf:=hid (show aN9 s=if mQ d=(s,0) then some d else none by unfold aN9;rw[hrd]);have Hs:=hid hen;have Hd:=hid (And.intro ht her);have HW:=hid (And.intro hr0 (And.intro hr1 (And.intro hb (And.intro hdf hbw))));have Hl:=hid hsta;obtain⟨⟨x0,x1,x2⟩,_⟩:=fR hb;clear hrd hb hI1 hI2 hsl hbw hr0 hr1 hdf hsz hsz2 hrow hsta hen ht her hpl
  gi_upto_region 8 with (gi_at_call 7;refine Hs.out.mono ?_;rintro e W2 ⟨rfl,hb2⟩;have Hb:=hid hb2;clear hb2)
  clear x0 x1 x2;have Z:=hid (And.intro (aB Hb.out HW.out.1) (And.intro (aB Hb.out HW.out.2.1) (And.intro (aB Hb.out HW.out.2.2.1) (And.intro (aB Hb.out HW.out.2.2.2.1) (HW.out.2.2.2.2.trans (Hb.out.mono (by have:=ltOf HW.out.1;omega)))))));obtain⟨⟨x0,x1,x2⟩,y0,y1,y2⟩:=fR Z.out.1;obtain⟨e0,e1⟩:=aY Z.out.2.1;obtain⟨⟨u0,u1,u2⟩,_⟩:=fR Z.out.2.2.1;by_cases he:er=0
  ·subst he;obtain⟨bq,hbq⟩:∃bq,(t.toList==s.toList)=bq:=⟨_,rfl⟩
   have hbn:(t.toList != s.toList) = !bq:=by rw[<-hbq];rfl
   have Hj:=hid hbq;cases bq
   ·gi_wp2
    have hd4:=aC7 Z.out.1 Z.out.2.1 (I6 0) (I6 0) (.slice none 0 0) (I6 3);have hbf:Below R w ((((W2.setCell ⟨R,0,none⟩ (I6 0)).setCell ⟨R,1,none⟩ (I6 0)).setCell ⟨R,2,none⟩ (.slice none 0 0)).setCell ⟨R+1,0,none⟩ (I6 3)):=(((Z.out.2.2.2.2.setCell (p:=⟨R,0,none⟩) lr _).setCell (p:=⟨R,1,none⟩) lr _).setCell (p:=⟨R,2,none⟩) lr _).setCell (p:=⟨R+1,0,none⟩) (Nat.le_succ _) _;generalize ((((W2.setCell ⟨R,0,none⟩ (I6 0)).setCell ⟨R,1,none⟩ (I6 0)).setCell ⟨R,2,none⟩ (.slice none 0 0)).setCell ⟨R+1,0,none⟩ (I6 3))=Wf at hd4 hbf ⊢
    refine⟨by simp,.inl ⟨_,_,rfl,run_takeDeferred ((hd4.2.2 D ga ga).trans Z.out.2.2.2.1),?_⟩⟩;exact aC5 (c:=⟨0,0,none,0,0⟩) (d:=⟨0,0,[]⟩) HR.out rfl rfl hd4.1 hd4.2.1 ga hbf ⟨rfl,⟨by decide,by decide⟩,rfl,⟨by decide,by decide⟩,rfl,Nat.le_refl _,by decide,.inl rfl⟩ (.inr ⟨rfl,by rw[Hf.out,if_neg (fun h=>by have h1:=Hd.out.1;rw[h] at h1;have h2:=Hj.out;rw[h1] at h2;simp at h2)],rfl⟩)
   ·have hts:t=s:=by
     have h2:=Hj.out;rw[bList] at h2;exact of_decide_eq_true h2
    have Hk:=hid hts;clear hts
    gi_wp2
    have hd4:=aC7 Z.out.1 Z.out.2.1 (I6 d.n) (I6 d.t) (.slice a d.l.length cap) (I6 0);have hbf:Below R w ((((W2.setCell ⟨R,0,none⟩ (I6 d.n)).setCell ⟨R,1,none⟩ (I6 d.t)).setCell ⟨R,2,none⟩ (.slice a d.l.length cap)).setCell ⟨R+1,0,none⟩ (I6 0)):=(((Z.out.2.2.2.2.setCell (p:=⟨R,0,none⟩) lr _).setCell (p:=⟨R,1,none⟩) lr _).setCell (p:=⟨R,2,none⟩) lr _).setCell (p:=⟨R+1,0,none⟩) (Nat.le_succ _) _;have hszf:((((W2.setCell ⟨R,0,none⟩ (I6 d.n)).setCell ⟨R,1,none⟩ (I6 d.t)).setCell ⟨R,2,none⟩ (.slice a d.l.length cap)).setCell ⟨R+1,0,none⟩ (I6 0)).heap.size=W2.heap.size:=by simp[World.setCell]
    generalize ((((W2.setCell ⟨R,0,none⟩ (I6 d.n)).setCell ⟨R,1,none⟩ (I6 d.t)).setCell ⟨R,2,none⟩ (.slice a d.l.length cap)).setCell ⟨R+1,0,none⟩ (I6 0))=Wf at hd4 hbf hszf ⊢;refine⟨by simp,.inl ⟨_,_,rfl,run_takeDeferred ((hd4.2.2 D ga ga).trans Z.out.2.2.2.1),?_⟩⟩;refine aC5 (c:=⟨d.n,d.t,a,d.l.length,cap⟩) (d:=d) HR.out rfl rfl hd4.1 hd4.2.1 ga hbf (Hl.out.same fun k hk=>⟨⟨by omega,by have:=Hb.out.size;omega⟩,(hd4.2.2 k ga ga).trans (Hb.out.block k hk.2)⟩) (.inl ⟨rfl,?_⟩);rw[Hf.out,if_pos];rw[<-Hk.out,Hd.out.1];exact Prod.ext rfl Hd.out.2.symm
  ·have hx0:(er==0)=false:=by simp;exact he
   have hx1:(er != 0)=true:=by simp;exact he
   have HE:=hid he;clear he
   gi_wp2
   have hd4:=aC7 Z.out.1 Z.out.2.1 (I6 0) (I6 0) (.slice none 0 0) (I6 3);have hbf:Below R w ((((W2.setCell ⟨R,0,none⟩ (I6 0)).setCell ⟨R,1,none⟩ (I6 0)).setCell ⟨R,2,none⟩ (.slice none 0 0)).setCell ⟨R+1,0,none⟩ (I6 3)):=(((Z.out.2.2.2.2.setCell (p:=⟨R,0,none⟩) lr _).setCell (p:=⟨R,1,none⟩) lr _).setCell (p:=⟨R,2,none⟩) lr _).setCell (p:=⟨R+1,0,none⟩) (Nat.le_succ _) _;generalize ((((W2.setCell ⟨R,0,none⟩ (I6 0)).setCell ⟨R,1,none⟩ (I6 0)).setCell ⟨R,2,none⟩ (.slice none 0 0)).setCell ⟨R+1,0,none⟩ (I6 3))=Wf at hd4 hbf ⊢
   refine⟨by simp,.inl ⟨_,_,rfl,run_takeDeferred ((hd4.2.2 D ga ga).trans Z.out.2.2.2.1),?_⟩⟩;exact aC5 (c:=⟨0,0,none,0,0⟩) (d:=⟨0,0,[]⟩) HR.out rfl rfl hd4.1 hd4.2.1 ga hbf ⟨rfl,⟨by decide,by decide⟩,rfl,⟨by decide,by decide⟩,rfl,Nat.le_refl _,by decide,.inl rfl⟩ (.inr ⟨rfl,by rw[Hf.out,if_neg (fun h=>by have h1:=Hd.out.2;rw[h] at h1;exact HE.out h1)],rfl⟩)
 case hstop =>
  rintro D p W hD ⟨hbw,hr0,hr1,hrd,hpx⟩ hdf;have hDR:=Hc.out
  gi_wp2
  refine⟨by simp,.inl ⟨_,_,rfl,run_takeDeferred hdf,?_⟩⟩;exact aC5 (c:=⟨0,0,none,0,0⟩) (d:=⟨0,0,[]⟩) HR.out rfl rfl hr0 hr1 ga hbw ⟨rfl,⟨by decide,by decide⟩,rfl,⟨by decide,by decide⟩,rfl,Nat.le_refl _,by decide,.inl rfl⟩ (.inr ⟨rfl,by
   obtain⟨t,ht⟩:=hpx;unfold aN9;rw[<-ht,sJ p t _ hrd],rfl⟩)
end Go.Proofs.YtmgpghoamapfgaaGreatDoor
