/- A part. -/
import Derived.Test.YtaofolgaiipcjaaGreatDoorSD36Mrg
import Derived.Test.YtaofolgaiipcjaaGreatDoorSD37Mrg
import Derived.Test.YtaofolgaiipcjaaGreatDoorSD39Mrg
namespace Go.Proofs.YtaofolgaiipcjaaGreatDoor
set_option linter.unusedVariables false
set_option maxRecDepth 100000
set_option maxHeartbeats 16000000
set_option linter.unusedSimpArgs false
open Go Go.RowKit Go.Shelf
attribute [local go_sem] Oper.semAt_some
theorem jEm (s:ByteArray) (w:World):Calls Tryz.prog 68 #[.string s] w fun e w' =>
 e=.returned (.func (.func 168) #[] #[.pointer (some ⟨w.heap.size,0,none⟩)])∧w'=w.alloc (.cells #[.string s] 9):=by
 go_enter Tryz.func68,Tryz.ntmps68
 go_wp2;go_ret;exact⟨rfl,rfl⟩
def DecPost (s:ByteArray) (w:World) (x:Ending) (w':World):Prop :=
 ∃(c:StC) (d:Sta) (E:Int),x=.returned (.tuple #[c.v,.int .i64 E])∧IsSta (fun b=>w.heap.size≤b∧b<w'.heap.size) w' c d∧((E=0∧decS s=some d)∨(E=3∧decS s=none∧d=⟨0,0,[]⟩))∧Below w.heap.size w w'
abbrev sZ:Array Value:=#[.int .i64 0,.int .i64 0,.slice none 0 0]
theorem mH {W:World} {b:Nat} {u v x:Value} {t:TypeId} (h:W.heap[b]?=some (.cells #[u,v,x] t (0,0))) :
 (W.cell? ⟨b,0,none⟩=some u∧W.cell? ⟨b,1,none⟩=some v∧W.cell? ⟨b,2,none⟩=some x)∧W.frozen? ⟨b,0,none⟩=false∧W.frozen? ⟨b,1,none⟩=false∧W.frozen? ⟨b,2,none⟩=false:=by
 refine⟨⟨?_,?_,?_⟩,?_,?_,?_⟩<;>simp[World.cell?,World.frozen?,h]
theorem decRes {tmps:Array Value} {W:World} {R:Nat} {x y z v:Value} (h2:tmps.getD 2 undef=.pointer (some ⟨R,0,none⟩)) (h3:tmps.getD 3 undef=.pointer (some ⟨R+1,0,none⟩))
 (hR:W.heap[R]?=some (.cells #[x,y,z] 43 (0,0))) (hE:W.heap[R+1]?=some (.cells #[v] 33 (0,0))) :
 (results Tryz.f25 tmps).run Tryz.prog W=.ok (.tuple #[.agg #[x,y,z],v]) W:=by
 have h2':tmps[2]?.getD undef=.pointer (some ⟨R,0,none⟩):=by simpa using h2
 have h3':tmps[3]?.getD undef=.pointer (some ⟨R+1,0,none⟩):=by simpa using h3
 obtain⟨⟨c0,c1,c2⟩,_⟩:=mH hR;have e0:=(jM hE).1;simp[results,Tryz.results25,go_sem,h2',h3',c0,c1,c2,e0]
theorem jIj {A:World} {R:Nat} {x y z v:Value} (hR:A.heap[R]?=some (.cells #[x,y,z] 43 (0,0))) (hE:A.heap[R+1]?=some (.cells #[v] 33 (0,0))) (p q r e:Value) :
 ((((A.setCell ⟨R,0,none⟩ p).setCell ⟨R,1,none⟩ q).setCell ⟨R,2,none⟩ r).setCell ⟨R+1,0,none⟩ e).heap[R]?=some (.cells #[p,q,r] 43 (0,0)) ∧
 ((((A.setCell ⟨R,0,none⟩ p).setCell ⟨R,1,none⟩ q).setCell ⟨R,2,none⟩ r).setCell ⟨R+1,0,none⟩ e).heap[R+1]?=some (.cells #[e] 33 (0,0)) ∧
 ∀k,k≠R→k≠R+1→((((A.setCell ⟨R,0,none⟩ p).setCell ⟨R,1,none⟩ q).setCell ⟨R,2,none⟩ r).setCell ⟨R+1,0,none⟩ e).heap[k]?=A.heap[k]?:=by
 refine⟨?_,?_,fun k h1 h2=>?_⟩
 ·exact(Below.heap_setCell _ _ _ _ (by dsimp only;omega)).trans (mA (mA (mA hR)))
 ·exact mA ((Below.heap_setCell _ _ _ _ (by dsimp only;omega)).trans ((Below.heap_setCell _ _ _ _ (by dsimp only;omega)).trans ((Below.heap_setCell _ _ _ _ (by dsimp only;omega)).trans hE)))
 ·exact(Below.heap_setCell _ _ _ _ (by dsimp only;omega)).trans ((Below.heap_setCell _ _ _ _ (by dsimp only;omega)).trans ((Below.heap_setCell _ _ _ _ (by dsimp only;omega)).trans (Below.heap_setCell _ _ _ _ (by dsimp only;omega))))
theorem jIi {s:ByteArray} {w Wf:World} {R D:Nat} {tmps:Array Value} {c:StC} {d:Sta} {E:Int} (hRw:R=w.heap.size) (h2:tmps.getD 2 undef=.pointer (some ⟨R,0,none⟩)) (h3:tmps.getD 3 undef=.pointer (some ⟨R+1,0,none⟩))
 (hR:Wf.heap[R]?=some (.cells #[.int .i64 c.n,.int .i64 c.t,.slice c.a c.l c.c] 43 (0,0))) (hE:Wf.heap[R+1]?=some (.cells #[.int .i64 E] 33 (0,0))) (hD:R+2≤D) (hbw:Below R w Wf)
 (hsta:IsSta (fun k=>D<k∧k<Wf.heap.size) Wf c d) (halt:(E=0∧decS s=some d)∨(E=3∧decS s=none∧d=⟨0,0,[]⟩)) :
 ∃v,(results Tryz.f25 tmps).run Tryz.prog (Wf.putObj D (.deferred none))=.ok v (Wf.putObj D (.deferred none))∧DecPost s w (.returned v) (Wf.putObj D (.deferred none)):=by
 refine⟨_,decRes (R:=R) h2 h3 ((World.putObj_heap_other (by omega)).trans hR) ((World.putObj_heap_other (by omega)).trans hE),c,d,E,rfl,hsta.same fun k hk=>⟨⟨by omega,by simp only[World.putObj,Array.size_setIfInBounds];exact hk.2⟩,World.putObj_heap_other (by omega)⟩,halt,?_⟩;rw[←hRw];exact hbw.grown (grownBy_putObj' Wf D _) (by rw[hRw];exact hbw.size) (fun k e=>by cases e;omega)
theorem jEr (s:ByteArray) (w:World) (hs:s.size≤1000000000) (hp:(nQ s).length≤1999) (hln:∀x∈nQ s,LnOK x.1 x.2) (hT:Tabs w) (hZ:ZTab w) (hNV:NumVars w) :
 Calls Tryz.prog 25 #[.string s] w (DecPost s w):=by
 obtain⟨n,hn⟩:∃n:Nat,n=9:=⟨_,rfl⟩
 rw[←callsIn_wide (n:=n)];obtain⟨F,hFe⟩:∃F,F=Fence.wide:=⟨_,rfl⟩
 have hF:∀f,F.fn f:=fun f=>by rw[hFe];trivial
 have hro:F.round=none:=by rw[hFe];rfl
 have h1:1≤n:=by omega
 have HN9:=hid hn;clear hn;have HC:=hid (fun (k:Nat) (f:FuncId) (args:Array Value) (w:World) (R:Ending→World→Prop) (h:Calls Tryz.prog f args w R)=>(show CallsIn F k Tryz.prog f args w R by rw[hFe];exact callsIn_wide.2 h));rw[←hFe];have HFE:=hid hFe;clear hFe;obtain⟨R,hR⟩:∃R,R=w.heap.size:=⟨_,rfl⟩
 obtain⟨A1,hA1⟩:∃A1,A1=((w.alloc (.cells sZ 43)).alloc (.cells #[.int .i64 0] 33)).alloc (.cells sZ 43):=⟨_,rfl⟩
 obtain⟨A2,hA2⟩:∃A2,A2=A1.alloc (.cells #[.string s] 9):=⟨_,rfl⟩
 have hS1:A1.heap.size=R+3:=by rw[hA1,hR];simp
 have hS2:A2.heap.size=R+4:=by rw[hA2,World.size_alloc,hS1]
 have a0:A1.heap[R]?=some (.cells sZ 43 (0,0)):=by
  rw[hA1,hR];exact(Below.heap_alloc _ _ _ (by simp;omega)).trans ((Below.heap_alloc _ _ _ (by simp)).trans (World.alloc_heap_new w _))
 have a1:A1.heap[R+1]?=some (.cells #[.int .i64 0] 33 (0,0)):=by
  rw[hA1,hR];have h:=World.alloc_heap_new (w.alloc (.cells sZ 43)) (.cells #[.int .i64 0] 33);rw[World.size_alloc] at h;exact(Below.heap_alloc _ _ _ (by simp)).trans h
 have a2:A1.heap[R+2]?=some (.cells sZ 43 (0,0)):=by
  rw[hA1,hR];have h:=World.alloc_heap_new ((w.alloc (.cells sZ 43)).alloc (.cells #[.int .i64 0] 33)) (.cells sZ 43);rwa[World.size_alloc,World.size_alloc] at h
 have hb1:Below R w A1:=by rw[hA1,hR];exact(((bR w).alloc lr _).alloc (by simp) _).alloc (by simp;omega) _
 have hb2:Below R w A2:=by rw[hA2];exact hb1.alloc (by omega) _
 have k0:A2.heap[R]?=some (.cells sZ 43 (0,0)):=by rw[hA2];exact jD _ a0
 have k1:A2.heap[R+1]?=some (.cells #[.int .i64 0] 33 (0,0)):=by rw[hA2];exact jD _ a1
 have k2:A2.heap[R+2]?=some (.cells sZ 43 (0,0)):=by rw[hA2];exact jD _ a2
 have k3:A2.heap[R+3]?=some (.cells #[.string s] 9 (0,0)):=by rw[hA2,←hS1];exact heap_alloc_new A1 _
 have hlc:=HC.out (n-1) _ _ _ _ (jEm s A1);rw[hS1,←hA2] at hlc;have HLC:=hid hlc;have HTA:=hid (fun (W:World) (h:Below R w W)=>(And.intro (hT.below (hR▸h)) (And.intro (hZ.below (hR▸h)) (hNV.below (hR▸h)))));have HSQ:=jJh F HFE.out (n-1) (by have:=HN9.out;omega) s hs (R+3) (A2.heap.size+2) A2 k3;have HA1:=hid hA1;have HS2:=hid hS2;have HR:=hid hR;have HP:=hid hp;have HLN:=hid hln;have HK:=hid (And.intro k0 (And.intro k1 k2));have HB2:=hid hb2;clear hlc hA1 hA2 hS1 hS2 a0 a1 a2 hb1 hb2 k0 k1 k2 k3 hT hZ hNV hs hp hln;clear hR;refine callsIn_of_wp_marks Tryz.func25 rfl (hF _) ?_ hro
 simp only[Tryz.ntmps25,List.size_toArray,List.length_cons,List.length_nil,Nat.reduceAdd,Nat.reduceSub,Array.replicate_succ,Array.replicate_zero,List.push_toArray,List.append_toArray,List.nil_append,List.cons_append]
 gi_upto_region 2 with (fail)
 rw[←HA1.out,show w.heap.size+1+1=R+2 by rw[HR.out],←HR.out]
 gi_wp2_with (gi_at_call 68;refine HLC.out.mono ?_;rintro e A ⟨rfl,hA⟩;obtain rfl:=hA)
 refine jF0 hF hro h1 (enc:=encP) (w0:=A) (xs:=nQ s) (by rfl) (fun args w=>by simp[go_sem,callFunc];rfl) (fun x=>by rfl) (M:=A.heap.size+2+4) (G:=NumVars) (R:=fun k=>A.heap.size+2≤k∧k<A.heap.size+2+4) (R':=fun k=>R+4≤k∧k<R+10) HSQ (Below.refl _ _) (fun k hk=>by have:=HS2.out;omega) (by omega) (by omega) (by have:=HS2.out;omega) (by have:=HS2.out;omega)
  (fun p W=>∃d,qP ⟨0,0,[]⟩ p=some d∧StOwn (R+10) (R+2) W d∧Below R w W∧W.heap[R]?=some (.cells sZ 43 (0,0))∧W.heap[R+1]?=some (.cells #[.int .i64 0] 33 (0,0)))
  (fun p W=>Below R w W∧W.heap[R]?=some (.cells sZ 43 (0,0))∧W.heap[R+1]?=some (.cells #[.int .i64 3] 33 (0,0))∧qP ⟨0,0,[]⟩ p=none∧p <+: nQ s)
  ?hI ?hIx ?hG ?h0 (fun x=>{ tmps:=#[.string s,undef,.pointer (some ⟨R,0,none⟩),.pointer (some ⟨R+1,0,none⟩),.pointer (some ⟨R+2,0,none⟩),.string x.1,.string x.2,undef,undef,.string s,.func (.func 168) #[] #[.pointer (some ⟨R+3,0,none⟩)],.string x.1,.string x.2,undef,undef,undef,undef,undef,undef,undef,undef,undef,undef,undef,undef,undef,undef,undef,undef,undef,undef,undef],defers:=[] }) ?hassign ?hbody ?hdone ?hstop
 case hI =>
  rintro p X Y ⟨d,h1,h2,h3,h4,h5⟩ ht;have hb:Below R X Y:=⟨ht.os,ht.tape,ht.output,ht.size,fun k hk=>ht.block k (by have:=h3.size;have:=HR.out;omega) (by omega)⟩
  obtain⟨sv,g1,_⟩:=id h2;exact⟨d,h1,h2.move (ht.block _ (ltOf g1) (by omega)) (fun k hk hl=>ht.block k hl (by omega)) ht.size,h3.trans hb,ht.keep h4 (by omega),ht.keep h5 (by omega)⟩
 case hIx =>
  rintro p X Y ⟨h3,h4,h5,h6⟩ ht;have hb:Below R X Y:=⟨ht.os,ht.tape,ht.output,ht.size,fun k hk=>ht.block k (by have:=h3.size;have:=HR.out;omega) (by omega)⟩
  exact⟨h3.trans hb,ht.keep h4 (by omega),ht.keep h5 (by omega),h6⟩
 case hG =>
  rintro p X ⟨d,h1,h2,h3,_⟩;exact(HTA.out X h3).2.2
 case h0=>exact⟨⟨0,0,[]⟩,rfl,⟨.slice none 0 0,HK.out.2.2,⟨by decide,by decide⟩,⟨by decide,by decide⟩,.inl ⟨rfl,World.ownsRow_nil _ _ _ _⟩⟩,HB2.out,HK.out.1,HK.out.2.1⟩
 case hassign =>
  intro l x W K hK
  gi_wp2
  exact hK
 case hbody =>
  rintro l p x W ⟨d,hrd,hst,hbw,hr0,hr1⟩ hM hpx;have hx:x∈nQ s:=hpx.subset (by simp);have hpl:p.length≤1999:=by
   have h1:=hpx.length_le;simp at h1;have:=HP.out;omega
  have hsz:Sz p.length d.l:=by
   have h:=yH p 0 ⟨0,0,[]⟩ d ⟨Nat.le_refl _,fun x hx=>absurd hx (by simp)⟩ hrd;rw[Nat.zero_add] at h;exact h
  have hrc:=CallsIn.inRound l (HC.out (n-1-1-1) _ _ _ _ (jLi (R+10) (R+2) d x.1 x.2 W hst (by omega) (by have:=HS2.out;omega) p.length hsz (by omega) (fun W' h=>HTA.out W' (hbw.trans (h.mono (by omega)))) (HLN.out x hx)));have HRC:=hid hrc;have HRD:=hid hrd;have HW:=hid (And.intro hr0 (And.intro hr1 (And.intro hbw (ltOf (Classical.choose_spec hst).1))));have HPX:=hid hpx;have HM:=hid hM;have hn1:1≤n-1-1:=by have:=HN9.out;omega
  clear hrc hrd hst hbw hr0 hr1 hM hpx hx hpl hsz
  gi_upto_region 6 with ((try refine⟨fun _=>hn1,?_⟩);gi_at_call 69;refine HRC.out.mono ?_;rintro e W2 ⟨bb,rfl,ht,hpost⟩;have z0:=ht.keep HW.out.1 (by omega);have z1:=ht.keep HW.out.2.1 (by omega);have HT2:=hid ht;have HPO:=hid hpost;have Z:=hid (And.intro z0 z1);obtain⟨⟨x0,x1,x2⟩,y0,y1,y2⟩:=mH z0;obtain⟨e0,e1⟩:=jM z1;clear ht hpost z0 z1;cases bb)
  ·gi_wp2
   have hd4:=jIj Z.out.1 Z.out.2 (.int .i64 0) (.int .i64 0) (.slice none 0 0) (.int .i64 3);have hbw2:Below R W W2:=⟨HT2.out.os,HT2.out.tape,HT2.out.output,HT2.out.size,fun k hk=>HT2.out.block k (by have:=HW.out.2.2.2;omega) (by omega)⟩
   have hbf:Below R w ((((W2.setCell ⟨R,0,none⟩ (.int .i64 0)).setCell ⟨R,1,none⟩ (.int .i64 0)).setCell ⟨R,2,none⟩ (.slice none 0 0)).setCell ⟨R+1,0,none⟩ (.int .i64 3)):=((((HW.out.2.2.1.trans hbw2).setCell (p:=⟨R,0,none⟩) lr _).setCell (p:=⟨R,1,none⟩) lr _).setCell (p:=⟨R,2,none⟩) lr _).setCell (p:=⟨R+1,0,none⟩) (Nat.le_succ _) _;have hsz2:W.heap.size≤((((W2.setCell ⟨R,0,none⟩ (.int .i64 0)).setCell ⟨R,1,none⟩ (.int .i64 0)).setCell ⟨R,2,none⟩ (.slice none 0 0)).setCell ⟨R+1,0,none⟩ (.int .i64 3)).heap.size:=by
    have:=HT2.out.size
    simpa [World.setCell] using this
   have hno:nC d x.1 x.2=none:=by
    rcases HPO.out with ⟨h,_⟩ | ⟨_,h⟩
    ·simp at h
    ·exact h
   refine⟨hsz2,fun k hk hkl=>(hd4.2.2 k (by omega) (by omega)).trans (HT2.out.block k hkl (by omega)),hbf,hd4.1,hd4.2.1,?_,HPX.out⟩;rw[zF p [x] _ _ HRD.out,qP,hno]
  ·have hbw2:Below R W W2:=⟨HT2.out.os,HT2.out.tape,HT2.out.output,HT2.out.size,fun k hk=>HT2.out.block k (by have:=HW.out.2.2.2;omega) (by omega)⟩
   obtain⟨d',hd',hst'⟩:∃d',nC d x.1 x.2=some d'∧StOwn (R+10) (R+2) W2 d':=by
    rcases HPO.out with ⟨_,h⟩ | ⟨h,_⟩
    ·exact h
    ·simp at h
   refine⟨HT2.out.size,fun k hk hkl=>HT2.out.block k hkl (by omega),d',?_,hst',HW.out.2.2.1.trans hbw2,Z.out.1,Z.out.2⟩;rw[zF p [x] _ _ HRD.out,qP,hd'];rfl
 case hdone =>
  rintro D W hD ⟨d,hrd,⟨sv,hb,hI1,hI2,hsl⟩,hbw,hr0,hr1⟩ hdf;have hDR:=HS2.out;have hsz:Sz (nQ s).length d.l:=by
   have h:=yH (nQ s) 0 ⟨0,0,[]⟩ d ⟨Nat.le_refl _,fun x hx=>absurd hx (by simp)⟩ hrd;rw[Nat.zero_add] at h;exact h
  have hpl:=HP.out;have hsz2:Sz 2000 d.l:=⟨by have:=hsz.1;omega,fun x hx=>by have:=hsz.2 x hx;omega⟩
  obtain⟨a,cap,hsv,hrow⟩:=Built.row' (hsl.built hsz2 (by decide)) rfl (by show d.l.length * 152≤_;have:=hsz2.1;omega);subst hsv;have hsta:IsSta (fun k=>R+10≤k∧k<W.heap.size) W ⟨d.n,d.t,a,d.l.length,cap⟩ d:=⟨rfl,hI1,rfl,hI2,hrow⟩
  have hen:=HC.out (n-1) _ _ _ _ (jFs ⟨d.n,d.t,a,d.l.length,cap⟩ d W (hsta.same fun k hk=>⟨hk.2,rfl⟩) (HTA.out W hbw).1 (HTA.out W hbw).2.1 hsz2);obtain⟨t,ht⟩:∃t,t=(encS d).1:=⟨_,rfl⟩
  obtain⟨er,her⟩:∃er,er=(encS d).2:=⟨_,rfl⟩
  rw[←ht,←her] at hen;have HDS:=hid (show decS s=if encS d=(s,0) then some d else none by unfold decS;rw[hrd]);have HEN:=hid hen;have HTE:=hid (And.intro ht her);have HW:=hid (And.intro hr0 (And.intro hr1 (And.intro hb (And.intro hdf hbw))));have HST:=hid hsta;obtain⟨⟨x0,x1,x2⟩,_⟩:=mH hb;clear hrd hb hI1 hI2 hsl hbw hr0 hr1 hdf hsz hsz2 hrow hsta hen ht her hpl
  gi_upto_region 8 with (gi_at_call 23;refine HEN.out.mono ?_;rintro e W2 ⟨rfl,hb2⟩;have HB2:=hid hb2;clear hb2)
  clear x0 x1 x2;have Z:=hid (And.intro (jB HB2.out HW.out.1) (And.intro (jB HB2.out HW.out.2.1) (And.intro (jB HB2.out HW.out.2.2.1) (And.intro (jB HB2.out HW.out.2.2.2.1) (HW.out.2.2.2.2.trans (HB2.out.mono (by have:=ltOf HW.out.1;omega)))))));obtain⟨⟨x0,x1,x2⟩,y0,y1,y2⟩:=mH Z.out.1;obtain⟨e0,e1⟩:=jM Z.out.2.1;obtain⟨⟨u0,u1,u2⟩,_⟩:=mH Z.out.2.2.1;by_cases he:er=0
  ·subst he;obtain⟨bq,hbq⟩:∃bq,(t.toList==s.toList)=bq:=⟨_,rfl⟩
   have hbn:(t.toList != s.toList) = !bq:=by rw[←hbq];rfl
   have HBQ:=hid hbq;cases bq
   ·gi_wp2
    have hd4:=jIj Z.out.1 Z.out.2.1 (.int .i64 0) (.int .i64 0) (.slice none 0 0) (.int .i64 3);have hbf:Below R w ((((W2.setCell ⟨R,0,none⟩ (.int .i64 0)).setCell ⟨R,1,none⟩ (.int .i64 0)).setCell ⟨R,2,none⟩ (.slice none 0 0)).setCell ⟨R+1,0,none⟩ (.int .i64 3)):=(((Z.out.2.2.2.2.setCell (p:=⟨R,0,none⟩) lr _).setCell (p:=⟨R,1,none⟩) lr _).setCell (p:=⟨R,2,none⟩) lr _).setCell (p:=⟨R+1,0,none⟩) (Nat.le_succ _) _;generalize ((((W2.setCell ⟨R,0,none⟩ (.int .i64 0)).setCell ⟨R,1,none⟩ (.int .i64 0)).setCell ⟨R,2,none⟩ (.slice none 0 0)).setCell ⟨R+1,0,none⟩ (.int .i64 3))=Wf at hd4 hbf ⊢
    refine⟨by simp,.inl ⟨_,_,rfl,run_takeDeferred ((hd4.2.2 D (by omega) (by omega)).trans Z.out.2.2.2.1),?_⟩⟩;exact jIi (c:=⟨0,0,none,0,0⟩) (d:=⟨0,0,[]⟩) HR.out rfl rfl hd4.1 hd4.2.1 (by omega) hbf ⟨rfl,⟨by decide,by decide⟩,rfl,⟨by decide,by decide⟩,rfl,Nat.le_refl _,by decide,.inl rfl⟩ (.inr ⟨rfl,by rw[HDS.out,if_neg (fun h=>by have h1:=HTE.out.1;rw[h] at h1;have h2:=HBQ.out;rw[h1] at h2;simp at h2)],rfl⟩)
   ·have hts:t=s:=by
     have h2:=HBQ.out;rw[bList] at h2;exact of_decide_eq_true h2
    have HTS:=hid hts;clear hts
    gi_wp2
    have hd4:=jIj Z.out.1 Z.out.2.1 (.int .i64 d.n) (.int .i64 d.t) (.slice a d.l.length cap) (.int .i64 0);have hbf:Below R w ((((W2.setCell ⟨R,0,none⟩ (.int .i64 d.n)).setCell ⟨R,1,none⟩ (.int .i64 d.t)).setCell ⟨R,2,none⟩ (.slice a d.l.length cap)).setCell ⟨R+1,0,none⟩ (.int .i64 0)):=(((Z.out.2.2.2.2.setCell (p:=⟨R,0,none⟩) lr _).setCell (p:=⟨R,1,none⟩) lr _).setCell (p:=⟨R,2,none⟩) lr _).setCell (p:=⟨R+1,0,none⟩) (Nat.le_succ _) _
    have hszf:((((W2.setCell ⟨R,0,none⟩ (.int .i64 d.n)).setCell ⟨R,1,none⟩ (.int .i64 d.t)).setCell ⟨R,2,none⟩ (.slice a d.l.length cap)).setCell ⟨R+1,0,none⟩ (.int .i64 0)).heap.size=W2.heap.size:=by simp[World.setCell]
    generalize ((((W2.setCell ⟨R,0,none⟩ (.int .i64 d.n)).setCell ⟨R,1,none⟩ (.int .i64 d.t)).setCell ⟨R,2,none⟩ (.slice a d.l.length cap)).setCell ⟨R+1,0,none⟩ (.int .i64 0))=Wf at hd4 hbf hszf ⊢;refine⟨by simp,.inl ⟨_,_,rfl,run_takeDeferred ((hd4.2.2 D (by omega) (by omega)).trans Z.out.2.2.2.1),?_⟩⟩;refine jIi (c:=⟨d.n,d.t,a,d.l.length,cap⟩) (d:=d) HR.out rfl rfl hd4.1 hd4.2.1 (by omega) hbf (HST.out.same fun k hk=>⟨⟨by omega,by have:=HB2.out.size;omega⟩,(hd4.2.2 k (by omega) (by omega)).trans (HB2.out.block k hk.2)⟩) (.inl ⟨rfl,?_⟩);rw[HDS.out,if_pos];rw[←HTS.out,HTE.out.1]
    exact Prod.ext rfl HTE.out.2.symm
  ·have hx0:(er==0)=false:=by simp;exact he
   have hx1:(er != 0)=true:=by simp;exact he
   have HE:=hid he;clear he
   gi_wp2
   have hd4:=jIj Z.out.1 Z.out.2.1 (.int .i64 0) (.int .i64 0) (.slice none 0 0) (.int .i64 3);have hbf:Below R w ((((W2.setCell ⟨R,0,none⟩ (.int .i64 0)).setCell ⟨R,1,none⟩ (.int .i64 0)).setCell ⟨R,2,none⟩ (.slice none 0 0)).setCell ⟨R+1,0,none⟩ (.int .i64 3)):=(((Z.out.2.2.2.2.setCell (p:=⟨R,0,none⟩) lr _).setCell (p:=⟨R,1,none⟩) lr _).setCell (p:=⟨R,2,none⟩) lr _).setCell (p:=⟨R+1,0,none⟩) (Nat.le_succ _) _;generalize ((((W2.setCell ⟨R,0,none⟩ (.int .i64 0)).setCell ⟨R,1,none⟩ (.int .i64 0)).setCell ⟨R,2,none⟩ (.slice none 0 0)).setCell ⟨R+1,0,none⟩ (.int .i64 3))=Wf at hd4 hbf ⊢
   refine⟨by simp,.inl ⟨_,_,rfl,run_takeDeferred ((hd4.2.2 D (by omega) (by omega)).trans Z.out.2.2.2.1),?_⟩⟩;exact jIi (c:=⟨0,0,none,0,0⟩) (d:=⟨0,0,[]⟩) HR.out rfl rfl hd4.1 hd4.2.1 (by omega) hbf ⟨rfl,⟨by decide,by decide⟩,rfl,⟨by decide,by decide⟩,rfl,Nat.le_refl _,by decide,.inl rfl⟩ (.inr ⟨rfl,by rw[HDS.out,if_neg (fun h=>by have h1:=HTE.out.2;rw[h] at h1;exact HE.out h1)],rfl⟩)
 case hstop =>
  rintro D p W hD ⟨hbw,hr0,hr1,hrd,hpx⟩ hdf;have hDR:=HS2.out
  gi_wp2
  refine⟨by simp,.inl ⟨_,_,rfl,run_takeDeferred hdf,?_⟩⟩;exact jIi (c:=⟨0,0,none,0,0⟩) (d:=⟨0,0,[]⟩) HR.out rfl rfl hr0 hr1 (by omega) hbw ⟨rfl,⟨by decide,by decide⟩,rfl,⟨by decide,by decide⟩,rfl,Nat.le_refl _,by decide,.inl rfl⟩ (.inr ⟨rfl,by
   obtain⟨t,ht⟩:=hpx;unfold decS;rw[←ht,jAx p t _ hrd],rfl⟩)
end Go.Proofs.YtaofolgaiipcjaaGreatDoor
