/- A part. -/
import Derived.Test.YtmgpghoamapfgaaGreatDoorST26Mrg
namespace Go.Proofs.YtmgpghoamapfgaaGreatDoor
set_option linter.unusedVariables false
set_option linter.unusedSimpArgs false
open Go Go.RowKit
structure Turn (R:Nat->Prop) (X Y:World):Prop where
 os:Y.os=X.os
 tape:Y.tape=X.tape
 output:Y.output=X.output
 size:X.heap.size<=Y.heap.size
 block:∀k,k<X.heap.size->¬ R k->Y.heap[k]?=X.heap[k]?
theorem Turn.of_grown {R:Nat->Prop} {X Y:World} {row:Option Nat} (h:X.grownBy Y row) (hr:∀r,row=some r->R r):Turn R X Y :=
 ⟨h.os,h.tape,h.output,h.size,fun k hk hR=>h.block k hk (fun e=>hR (hr k e.symm))⟩
theorem Turn.of_below {R:Nat->Prop} {X Y:World} (h:BB X Y):Turn R X Y :=
 ⟨h.os,h.tape,h.output,h.size,fun k hk _=>h.block k hk⟩
theorem Turn.mono {R R':Nat->Prop} {X Y:World} (h:Turn R X Y) (hr:∀k,R k->R' k):Turn R' X Y :=
 ⟨h.os,h.tape,h.output,h.size,fun k hk hR=>h.block k hk (fun e=>hR (hr k e))⟩
theorem Turn.refl (R:Nat->Prop) (w:World):Turn R w w:=⟨rfl,rfl,rfl,Nat.le_refl _,fun _ _ _=>rfl⟩
theorem Turn.trans {R:Nat->Prop} {a b c:World} (h:Turn R a b) (k:Turn R b c):Turn R a c :=
 ⟨k.os.trans h.os,k.tape.trans h.tape,k.output.trans h.output,Nat.le_trans h.size k.size,fun i hi hR=>(k.block i (Nat.lt_of_lt_of_le hi h.size) hR).trans (h.block i hi hR)⟩
theorem Turn.setCell {R:Nat->Prop} {w:World} (a:Addr) (v:Value) (h:R a.block):Turn R w (w.setCell a v) :=
 ⟨rfl,rfl,rfl,by simp[World.setCell],fun k _ hR=>Below.heap_setCell _ _ _ _ (fun e=>hR (e▸h))⟩
theorem Turn.keep {R:Nat->Prop} {X Y:World} (h:Turn R X Y) {k:Nat} {o:Obj} (hk:X.heap[k]?=some o) (hR:¬ R k):Y.heap[k]?=some o:=(h.block k (Array.getElem?_eq_some_iff.1 hk).1 hR).trans hk
section
variable {α:Type}
def AbT (R:Nat->Prop) (J:List α->World->Prop):Prop:=∀p X Y,J p X->Turn R X Y->J p Y
def SeqT (F:Fence) (n:Nat) (P:Program) (gf:Nat) (lb:Array Value) (enc:α->Array Value) (R:Nat->Prop) (S M:Nat) (G:World->Prop) (xs:List α) (w0:World):Prop :=
 ∀(l:Nat) (J Jx:List α->World->Prop) (W:World),BB w0 W->W.heap.size=S->AbT R J->AbT R Jx->(∀p X,J p X->G X) ->
  (∀p x W1,J p W1->M<=W1.heap.size->p++[x] <+: xs->YieldAt F (n-1) P l (enc x) W1 fun e W' =>
    ((e=.returned (.bool true)/\J (p++[x]) W')\/(e=.returned (.bool false)/\Jx (p++[x]) W'))/\W1.heap.size<=W'.heap.size/\∀k,R k->k<W1.heap.size->W'.heap[k]?=W1.heap[k]?) ->
  J [] W ->
  CallsIn F n P gf (#[.func (.yield l) #[] #[]]++lb) W fun e W'=>(∃v,e=.returned v)/\(J xs W'\/∃p,Jx p W')
def aLk (R:Nat->Prop) (I Ix:List α->World->Prop) (p:List α) (W:World):Exit->Act->World->Prop
 | .normal,_,W'=>W.heap.size<=W'.heap.size/\(∀k,R k->k<W.heap.size->W'.heap[k]?=W.heap[k]?)/\I p W'
 | .ret,_,W'=>W.heap.size<=W'.heap.size/\(∀k,R k->k<W.heap.size->W'.heap[k]?=W.heap[k]?)/\Ix p W'
 | _,_,_=>False
theorem AbT.put {R:Nat->Prop} {I:List α->World->Prop} (h:AbT R I) {p:List α} {W:World} {l:Nat} (o':Obj) (hs:I p W) (hl:R l):I p (W.putObj l o') :=
 h p W _ hs (Turn.of_grown (grownBy_putObj' W l o') fun r e=>by cases e;exact hl)
theorem yX {enc:α->Array Value} {F:Fence} (hF:∀f,F.fn f) (hro:F.round=none) {n:Nat} {P:Program} {g:Operand} {ps:Array Tmp} {assign body:Code} {Q:Exit->Act->World->Prop} {a:Act} {w:World} (h1:1<=n) {gf:Nat} {lb:Array Value}
 (hg:a.eval g=.func (.func gf) #[] lb) (eg:∀args w,(callFunc gf args).run P w=.ok (.enter gf args) w) (hps:∀x,ps.size=(enc x).size)
 {R R':Nat->Prop} {M:Nat} {G:World->Prop} {xs:List α} {w0:World} (hseq:SeqT F (n-1) P gf lb enc R (w.heap.size+2) M G xs w0) (hb0:BB w0 w)
 (hRR:∀k,R k->R' k) (hR0:¬ R w.heap.size) (hR1:¬ R (w.heap.size+1)) (hD0:R' w.heap.size) (hD1:R' (w.heap.size+1))
 (I Ix:List α->World->Prop) (hI:AbT R' I) (hIx:AbT R' Ix) (hG:∀p X,I p X->G X) (h0:I [] w) (a₁:α->Act)
 (hassign:∀(l:Nat) (x:α) (W:World) (K:Act->World->Prop),K (a₁ x) W ->
   assign.wpIn (F.inRound l) (n-1-1) P (Exit.then K (fun _ _ _=>False)) { tmps:=(ps.zip (enc x)).foldl (fun t (p,v)=>t.setIfInBounds p v) a.tmps,defers:=[] } W)
 (hbody:∀(l:Nat) (p:List α) (x:α) (W:World),I p W->M<=W.heap.size->p++[x] <+: xs->body.wpIn (F.inRound l) (n-1-1) P (aLk R' I Ix (p++[x]) W) (a₁ x) W)
 (hdone:∀(D:Nat) (W:World),w.heap.size=D->I xs W->W.heap[D]?=some (.deferred (some []))->Q .normal { a with defers:={ target:=.collected D,args:=#[] } :: a.defers } W)
 (hstop:∀(D:Nat) (p:List α) (W:World),w.heap.size=D->Ix p W->W.heap[D]?=some (.deferred (some []))->Code.ret.wpIn F n P Q { a with defers:={ target:=.collected D,args:=#[] } :: a.defers } W) :
 (Code.rangeFunc g ps assign body).wpIn F n P Q a w:=by
 refine wpIn_rangeFunc fun fn _=>?_;rw[hro];obtain⟨D,hD⟩:=ez w.heap.size
 rw[<-hD] at hR0 hR1 hD0 hD1 hseq;obtain⟨rc,hrc⟩:∃rc:LoopState->Option Code->Loop,rc=fun st pe=>{ state:=st,pending:=pe,fn,tmps:=a.tmps,params:=ps,assign,body,defers:=w.heap.size }:=⟨_,rfl⟩
 obtain⟨V,hV⟩:=ez ((w.alloc (.deferred (some []))).alloc (.loop (rc .ready none)))
 have vL:V.heap[D+1]?=some (.loop (rc .ready none)):=by
  have h:=World.alloc_heap_new (w.alloc (.deferred (some []))) (.loop (rc .ready none));rw[World.size_alloc,<-hV,<-hD] at h;exact h
 have vD:V.heap[D]?=some (.deferred (some [])):=by
  rw[hV,hD];exact(Below.heap_alloc _ _ _ gd).trans (World.alloc_heap_new w _)
 have vb:BB w V:=by rw[hV];exact((bR w).alloc lr _).alloc gd _
 have vS:V.heap.size=D+2:=by rw[hV];simp[hD]
 have vI:I [] V:=hI [] w V h0 (Turn.of_below vb);refine⟨D+1,[{ target:=.collected D,args:=#[] }],V,{ target:=.fn (.func gf) lb,args:=#[.func (.yield (D+1)) #[] #[]] },V,gf,#[.func (.yield (D+1)) #[] #[]]++lb,V,?_,?_,fun f _=>hF f,?_,fun _=>h1,?_⟩
 ·rw[hV,hrc,hD];exact run_enterLoop_outer _ _ _ _ _
 ·simp only[resolve,hg];simp[go_sem]
 ·simp[invoke,go_sem,eg]
 refine(hseq (D+1)
  (fun p W=>I p W/\W.heap[D+1]?=some (.loop (rc .ready none))/\W.heap[D]?=some (.deferred (some [])))
  (fun p W=>Ix p W/\W.heap[D+1]?=some (.loop (rc .done (some .ret)))/\W.heap[D]?=some (.deferred (some [])))
  V (hb0.trans (vb.mono hb0.size)) vS
  (fun p X Y hs ht=>⟨hI p X Y hs.1 (ht.mono hRR),ht.keep hs.2.1 hR1,ht.keep hs.2.2 hR0⟩)
  (fun p X Y hs ht=>⟨hIx p X Y hs.1 (ht.mono hRR),ht.keep hs.2.1 hR1,ht.keep hs.2.2 hR0⟩)
  (fun p X h=>hG p X h.1)
  ?_ ⟨vI,vL,vD⟩).mono ?_
 ·rintro p x W ⟨wI,wL,wD⟩ hM hpx;have hy:=run_yield (P:=P) (args:=enc x) wL (by rw[hrc];simp[hps x]);rw[hrc] at hy;have hbr:=run_beginRound (P:=P) wL (by rw[hrc]);refine⟨fn,_,assign,body,hy,roundIn_of_wpIn (F:=F) (hF fn) (hassign _ x W _ ⟨_,hbr,?_⟩)⟩;obtain⟨U,hU⟩:=ez (W.putObj (D+1) (.loop { rc .ready none with state:=.busy }))
  have uL:U.heap[D+1]?=some (.loop { rc .ready none with state:=.busy }):=by rw[hU];exact World.putObj_heap_same (Array.getElem?_eq_some_iff.1 wL).1
  have uD:U.heap[D]?=some (.deferred (some [])):=by rw[hU];exact(World.putObj_heap_other ga).trans wD
  have uI:I p U:=by rw[hU];exact hI.put _ wI hD1
  have uS:U.heap.size=W.heap.size:=by rw[hU];simp[World.putObj]
  have uB:∀k,R k->U.heap[k]?=W.heap[k]?:=fun k hk=>by rw[hU];exact World.putObj_heap_other (fun e=>hR1 (e▸hk))
  have hLlt:D+1<U.heap.size:=(Array.getElem?_eq_some_iff.1 uL).1;rw[<-hU];refine wpIn_mono (hbody _ p x _ uI (by rw[uS];exact hM) hpx) ?_
  -- the round's end
  have fin:∀(jump:Option Code) (Z:World),(∀k,R' k->k<U.heap.size->Z.heap[k]?=U.heap[k]?)->∃Z',(Instr.endRound (D+1) jump).run P Z=.ok (.bool jump.isNone) Z'/\Z'=Z.putObj (D+1) (.loop (rc (if jump.isNone then .ready else .done) jump)) /\
   Z'.heap[D+1]?=some (.loop (rc (if jump.isNone then .ready else .done) jump))/\Z'.heap[D]?=some (.deferred (some [])):=fun jump Z hk=>by
   have zL:=(hk _ hD1 hLlt).trans uL;have zD:=(hk _ hD0 ga).trans uD;have hr:=run_endRound (P:=P) jump zL;rw[hrc] at hr ⊢;exact⟨_,hr,rfl,World.putObj_heap_same (Array.getElem?_eq_some_iff.1 zL).1,(World.putObj_heap_other ga).trans zD⟩
  rintro e a3 Z hp;cases e with
  | normal =>
    obtain⟨hz,hk,zI⟩:=hp;obtain⟨Z',hr,hZ,zL',zD'⟩:=fin none Z hk;refine⟨_,_,hr,.inl ⟨rfl,⟨by rw[hZ];exact hI.put _ zI hD1,zL',zD'⟩⟩,by rw[hZ];simp only[World.putObj,Array.size_setIfInBounds];omega,fun k hkx hkl=>?_⟩;rw[hZ];exact(World.putObj_heap_other (fun e=>hR1 (by rw[<-e];exact hkx))).trans ((hk k (hRR k hkx) ga).trans (uB k hkx))
  | ret =>
    obtain⟨hz,hk,zI⟩:=hp;obtain⟨Z',hr,hZ,zL',zD'⟩:=fin (some .ret) Z hk;refine⟨_,_,hr,.inr ⟨rfl,⟨by rw[hZ];exact hIx.put _ zI hD1,zL',zD'⟩⟩,by rw[hZ];simp only[World.putObj,Array.size_setIfInBounds];omega,fun k hkx hkl=>?_⟩;rw[hZ];exact(World.putObj_heap_other (fun e=>hR1 (by rw[<-e];exact hkx))).trans ((hk k (hRR k hkx) ga).trans (uB k hkx))
  | exit id=>exact hp.elim
  | goto t=>exact hp.elim
  | panic ch=>exact hp.elim
  | outgrown=>exact hp.elim
 ·rintro e W ⟨⟨v,rfl⟩,(⟨wI,wL,wD⟩ | ⟨p,wI,wL,wD⟩)⟩
  ·have hr:=run_endLoop (P:=P) wL (by rw[hrc];simp);have hr':(Instr.endLoop (D+1)).run P W=.ok none (W.putObj (D+1) (.loop { rc .ready none with state:=.exhausted })):=by rw[hr,hrc]
   exact⟨none,_,hr',hdone D _ hD.symm (hI.put _ wI hD1) ((World.putObj_heap_other ga).trans wD)⟩
  ·have hr:=run_endLoop (P:=P) wL (by rw[hrc];simp);have hr':(Instr.endLoop (D+1)).run P W=.ok (some .ret) (W.putObj (D+1) (.loop { rc .done (some .ret) with state:=.exhausted })):=by rw[hr,hrc]
   exact⟨some .ret,_,hr',hstop D p _ hD.symm (hIx.put _ wI hD1) ((World.putObj_heap_other ga).trans wD)⟩
end
end Go.Proofs.YtmgpghoamapfgaaGreatDoor
