/- A part. -/
import Derived.Test.YtoodnaghjpkjfaaGreatDoorSE12Mrg
import Derived.RangeFuncBox
namespace Go.Proofs.YtoodnaghjpkjfaaGreatDoor
open Tryz
set_option linter.unusedVariables false
set_option linter.unusedSimpArgs false
open Go Go.RowKit Go.Shelf
def Abb (bs:Nat) (J:List BA->World->Prop):Prop:=∀p A B,J p A->A.grownBy B (some bs)->J p B
def aOr (F:Fence) (n:Nat) (P:Program) (gf:Nat) (lb:Array Value) (bs:Nat) (Bx:List Nat) (xs:List BA) (w:World):Prop :=
 ∀(l:Nat) (J Jx:List BA->World->Prop) (W:World),BB w W->Abb bs J->Abb bs Jx ->
  (∀p x W1,J p W1->p++[x] <+: xs->YieldAt F (n-1) P l #[.string x] W1 λe W' =>
    (e=.returned (.bool true)/\J (p++[x]) W'/\∀k∈Bx,W'.heap[k]?=W1.heap[k]?)\/(e=.returned (.bool false)/\Jx (p++[x]) W')) ->
  J [] W ->
  CallsIn F n P gf (#[.func (.yield l) #[] #[]]++lb) W λe W'=>(∃v,e=.returned v)/\(J xs W'\/∃p,Jx p W')
def boxPost (Bx:List Nat) (I Ix:List BA->World->Prop) (p:List BA) (W:World):Exit->Act->World->Prop
 | .normal,_,W'=>KeepsOthers W W'/\(∀k∈Bx,W'.heap[k]?=W.heap[k]?)/\I p W'
 | .ret,_,W'=>KeepsOthers W W'/\Ix p W'
 | _,_,_=>False
def AbFrom (bs B:Nat) (I:List BA->World->Prop):Prop :=
 ∀p X Y row,I p X->X.grownBy Y row->(∀r,row=some r->r=bs\/(B<=r/\∃o:Obj,X.heap[r]?=some o/\o.isCells=false))->I p Y
theorem AbFrom.put {bs B:Nat} {I:List BA->World->Prop} (h:AbFrom bs B I) {p:List BA} {W:World} {l:Nat} {o:Obj} (o':Obj) (hs:I p W) (hB:B<=l) (hl:W.heap[l]?=some o) (ho:o.isCells=false):I p (W.putObj l o') :=
 h p W _ (some l) hs (o4 W l o') λr e=>by cases e;exact .inr ⟨hB,o,hl,ho⟩
theorem aN1 {F:Fence} (hF:∀f,F.fn f) (ar:F.round=none) {n:Nat} {P:Program} {g:Operand} {ps:Array Tmp} {aa ac:Code} {Q:Exit->Act->World->Prop} {a:Act} {w:World} (h1:1<=n) {gf:Nat} {lb:Array Value}
 (hg:a.eval g=.func (.func gf) #[] lb) (eg:∀args w,(callFunc gf args).run P w=.ok (.enter gf args) w) (au:ps.size=1)
 {bs:Nat} {Bx:List Nat} {xs:List BA} {w0:World} (ai:aOr F (n-1) P gf lb bs Bx xs w0) (am:BB w0 w) (av:bs<w.heap.size) (an:∀k∈Bx,k<w.heap.size)
 (I Ix:List BA->World->Prop) (hI:AbFrom bs w.heap.size I) (ah:AbFrom bs w.heap.size Ix) (h0:I [] w) (a₁:BA->Act)
 (ad:∀(l:Nat) (x:BA) (W:World) (K:Act->World->Prop),K (a₁ x) W ->
   aa.wpIn (F.inRound l) (n-1-1) P (Exit.then K (λ_ _ _=>False)) { tmps:=(ps.zip #[Value.string x]).foldl (λt (p,v)=>t.setIfInBounds p v) a.tmps,defers:=[] } W)
 (ae:∀(l:Nat) (p:List BA) (x:BA) (W:World),I p W->p++[x] <+: xs->ac.wpIn (F.inRound l) (n-1-1) P (boxPost Bx I Ix (p++[x]) W) (a₁ x) W)
 (af:∀(D:Nat) (W:World),w.heap.size<=D->I xs W->W.heap[D]?=some (.deferred (some []))->Q .normal { a with defers:={ target:=.collected D,args:=#[] } :: a.defers } W)
 (ag:∀(D:Nat) (p:List BA) (W:World),w.heap.size<=D->Ix p W->W.heap[D]?=some (.deferred (some []))->Code.ret.wpIn F n P Q { a with defers:={ target:=.collected D,args:=#[] } :: a.defers } W) :
 (Code.rangeFunc g ps aa ac).wpIn F n P Q a w:=by
 refine wpIn_rangeFunc λfn _=>?_;rw[ar];obtain⟨D,hD⟩:=xe w.heap.size
 obtain⟨rc,ab⟩:∃rc:LoopState->Option Code->Loop,rc=λst pe=>{ state:=st,pending:=pe,fn,tmps:=a.tmps,params:=ps,assign:=aa,body:=ac,defers:=w.heap.size }:=⟨_,rfl⟩
 obtain⟨V,hV⟩:=xe ((w.alloc (.deferred (some []))).alloc (.loop (rc .ready none)))
 have vL:V.heap[D+1]?=some (.loop (rc .ready none)):=by
  have h:=mj (w.alloc (.deferred (some []))) (.loop (rc .ready none));rw[jb,<-hV,<-hD] at h;exact h
 have vD:V.heap[D]?=some (.deferred (some [])):=by
  rw[hV,hD];exact(iy _ _ _ ge).trans (mj w _)
 have vb:BB w V:=by rw[hV];exact((bR w).alloc lr _).alloc ge _
 have vI:I [] V:=hI [] w V none h0 ⟨vb.os,vb.tape,vb.output,vb.size,λk hk _=>vb.block k hk⟩ λr e=>by cases e
 -- book-keeping: the loop's record and the block for deferred calls stay
 have keep:∀{X Y:World} {k:Nat} {o:Obj},X.grownBy Y (some bs)->w.heap.size<=k->X.heap[k]?=some o->Y.heap[k]?=some o:=λhgr hk hx =>
  (hgr.block _ (Array.getElem?_eq_some_iff.1 hx).1 (λe=>by cases e;omega)).trans hx
 refine⟨D+1,[{ target:=.collected D,args:=#[] }],V,{ target:=.fn (.func gf) lb,args:=#[.func (.yield (D+1)) #[] #[]] },V,gf,#[.func (.yield (D+1)) #[] #[]]++lb,V,?_,?_,λf _=>hF f,?_,λ_=>h1,?_⟩
 ·rw[hV,ab,hD];exact run_enterLoop_outer _ _ _ _ _
 ·simp only[resolve,hg];simp[go_sem]
 ·simp[invoke,go_sem,eg]
 refine(ai (D+1)
  (λp W=>I p W/\W.heap[D+1]?=some (.loop (rc .ready none))/\W.heap[D]?=some (.deferred (some [])))
  (λp W=>Ix p W/\W.heap[D+1]?=some (.loop (rc .done (some .ret)))/\W.heap[D]?=some (.deferred (some [])))
  V (am.trans (vb.mono am.size))
  (λp X Y hs hgr=>⟨hI p X Y _ hs.1 hgr (λr e=>by cases e;exact .inl rfl),keep hgr ga hs.2.1,keep hgr ga hs.2.2⟩)
  (λp X Y hs hgr=>⟨ah p X Y _ hs.1 hgr (λr e=>by cases e;exact .inl rfl),keep hgr ga hs.2.1,keep hgr ga hs.2.2⟩)
  ?_ ⟨vI,vL,vD⟩).mono ?_
 ·rintro p x W ⟨wI,wL,wD⟩ ao;have hy:=run_yield (P:=P) (args:=#[Sv x]) wL (by rw[ab];simp[au]);rw[ab] at hy;have aq:=run_beginRound (P:=P) wL (by rw[ab]);refine⟨fn,_,aa,ac,hy,roundIn_of_wpIn (F:=F) (hF fn) (ad _ x W _ ⟨_,aq,?_⟩)⟩;obtain⟨U,hU⟩:=xe (W.putObj (D+1) (.loop { rc .ready none with state:=.busy }))
  have uL:U.heap[D+1]?=some (.loop { rc .ready none with state:=.busy }):=by rw[hU];exact World.putObj_heap_same (Array.getElem?_eq_some_iff.1 wL).1
  have uD:U.heap[D]?=some (.deferred (some [])):=by rw[hU];exact(jx ga).trans wD
  have uI:I p U:=by rw[hU];exact hI.put _ wI ga wL rfl
  have uB:∀k∈Bx,U.heap[k]?=W.heap[k]?:=λk hk=>by rw[hU];exact jx (by have:=an k hk;omega)
  rw[<-hU];refine wpIn_mono (ae _ p x _ uI ao) ?_
  -- the round's end
  have fin:∀(jump:Option Code) (Z:World),KeepsOthers U Z->∃Z',(Instr.endRound (D+1) jump).run P Z=.ok (.bool jump.isNone) Z'/\Z'=Z.putObj (D+1) (.loop (rc (if jump.isNone then .ready else .done) jump)) /\
   Z.heap[D+1]?=some (.loop { rc .ready none with state:=.busy })/\Z'.heap[D+1]?=some (.loop (rc (if jump.isNone then .ready else .done) jump))/\Z'.heap[D]?=some (.deferred (some [])):=λjump Z hk=>by
   have zL:=hk.same _ _ uL rfl;have zD:=hk.same _ _ uD rfl;have hr:=run_endRound (P:=P) jump zL;rw[ab] at hr ⊢;exact⟨_,hr,rfl,by rw[ab] at zL;exact zL,World.putObj_heap_same (Array.getElem?_eq_some_iff.1 zL).1,(jx ga).trans zD⟩
  rintro e a3 Z hp;cases e with
  | normal =>
    obtain⟨hk,ap,zI⟩:=hp;obtain⟨Z',hr,hZ,zL,aj,ak⟩:=fin none Z hk;refine⟨_,_,hr,.inl ⟨rfl,⟨by rw[hZ];exact hI.put _ zI ga zL rfl,aj,ak⟩,λk hkx=>?_⟩⟩;rw[hZ];exact(jx (by have:=an k hkx;omega)).trans ((ap k hkx).trans (uB k hkx))
  | ret =>
    obtain⟨hk,zI⟩:=hp;obtain⟨Z',hr,hZ,zL,aj,ak⟩:=fin (some .ret) Z hk;exact⟨_,_,hr,.inr ⟨rfl,by rw[hZ];exact ah.put _ zI ga zL rfl,aj,ak⟩⟩
  | exit id=>exact hp.elim
  | goto t=>exact hp.elim
  | panic ch=>exact hp.elim
  | outgrown=>exact hp.elim
 ·rintro e W ⟨⟨v,rfl⟩,(⟨wI,wL,wD⟩|⟨p,wI,wL,wD⟩)⟩
  ·have hr:=run_endLoop (P:=P) wL (by rw[ab];simp);have al:(Instr.endLoop (D+1)).run P W=.ok none (W.putObj (D+1) (.loop { rc .ready none with state:=.exhausted })):=by rw[hr,ab]
   exact⟨none,_,al,af D _ ga (hI.put _ wI ga wL rfl) ((jx ga).trans wD)⟩
  ·have hr:=run_endLoop (P:=P) wL (by rw[ab];simp);have al:(Instr.endLoop (D+1)).run P W=.ok (some .ret) (W.putObj (D+1) (.loop { rc .done (some .ret) with state:=.exhausted })):=by rw[hr,ab]
   exact⟨some .ret,_,al,ag D p _ ga (ah.put _ wI ga wL rfl) ((jx ga).trans wD)⟩
section
structure Turn (R:Nat->Prop) (X Y:World):Prop where
 os:Y.os=X.os
 tape:Y.tape=X.tape
 output:Y.output=X.output
 size:X.heap.size<=Y.heap.size
 block:∀k,k<X.heap.size->¬ R k->Y.heap[k]?=X.heap[k]?
theorem Turn.of_grown {R:Nat->Prop} {X Y:World} {row:Option Nat} (h:X.grownBy Y row) (hr:∀r,row=some r->R r):Turn R X Y :=
 ⟨h.os,h.tape,h.output,h.size,λk hk hR=>h.block k hk (λe=>hR (hr k e.symm))⟩
theorem Turn.of_below {R:Nat->Prop} {X Y:World} (h:BB X Y):Turn R X Y :=
 ⟨h.os,h.tape,h.output,h.size,λk hk _=>h.block k hk⟩
theorem Turn.mono {R R':Nat->Prop} {X Y:World} (h:Turn R X Y) (hr:∀k,R k->R' k):Turn R' X Y :=
 ⟨h.os,h.tape,h.output,h.size,λk hk hR=>h.block k hk (λe=>hR (hr k e))⟩
theorem Turn.refl (R:Nat->Prop) (w:World):Turn R w w:=⟨rfl,rfl,rfl,gy _,λ_ _ _=>rfl⟩
theorem Turn.trans {R:Nat->Prop} {a b c:World} (h:Turn R a b) (k:Turn R b c):Turn R a c :=
 ⟨k.os.trans h.os,k.tape.trans h.tape,k.output.trans h.output,io h.size k.size,λi hi hR=>(k.block i (ix hi h.size) hR).trans (h.block i hi hR)⟩
theorem Turn.setCell {R:Nat->Prop} {w:World} (a:Addr) (v:Value) (h:R a.block):Turn R w (w.setCell a v) :=
 ⟨rfl,rfl,rfl,by simp[World.setCell],λk _ hR=>ij _ _ _ _ (λe=>hR (e▸h))⟩
theorem Turn.keep {R:Nat->Prop} {X Y:World} (h:Turn R X Y) {k:Nat} {o:Obj} (hk:X.heap[k]?=some o) (hR:¬ R k):Y.heap[k]?=some o:=(h.block k (Array.getElem?_eq_some_iff.1 hk).1 hR).trans hk
section
variable {α:Type}
def AbT (R:Nat->Prop) (J:List α->World->Prop):Prop:=∀p X Y,J p X->Turn R X Y->J p Y
def SeqT (F:Fence) (n:Nat) (P:Program) (gf:Nat) (lb:Array Value) (enc:α->Array Value) (R:Nat->Prop) (S M:Nat) (G:World->Prop) (xs:List α) (w0:World):Prop :=
 ∀(l:Nat) (J Jx:List α->World->Prop) (W:World),BB w0 W->W.heap.size=S->AbT R J->AbT R Jx->(∀p X,J p X->G X) ->
  (∀p x W1,J p W1->M<=W1.heap.size->p++[x] <+: xs->YieldAt F (n-1) P l (enc x) W1 λe W' =>
    ((e=.returned (.bool true)/\J (p++[x]) W')\/(e=.returned (.bool false)/\Jx (p++[x]) W'))/\W1.heap.size<=W'.heap.size/\∀k,R k->k<W1.heap.size->W'.heap[k]?=W1.heap[k]?) ->
  J [] W ->
  CallsIn F n P gf (#[.func (.yield l) #[] #[]]++lb) W λe W'=>(∃v,e=.returned v)/\(J xs W'\/∃p,Jx p W')
def aMg (R:Nat->Prop) (I Ix:List α->World->Prop) (p:List α) (W:World):Exit->Act->World->Prop
 | .normal,_,W'=>W.heap.size<=W'.heap.size/\(∀k,R k->k<W.heap.size->W'.heap[k]?=W.heap[k]?)/\I p W'
 | .ret,_,W'=>W.heap.size<=W'.heap.size/\(∀k,R k->k<W.heap.size->W'.heap[k]?=W.heap[k]?)/\Ix p W'
 | _,_,_=>False
theorem AbT.put {R:Nat->Prop} {I:List α->World->Prop} (h:AbT R I) {p:List α} {W:World} {l:Nat} (o':Obj) (hs:I p W) (hl:R l):I p (W.putObj l o') :=
 h p W _ hs (Turn.of_grown (o4 W l o') λr e=>by cases e;exact hl)
theorem aAr {enc:α->Array Value} {F:Fence} (hF:∀f,F.fn f) (ax:F.round=none) {n:Nat} {P:Program} {g:Operand} {ps:Array Tmp} {aa ac:Code} {Q:Exit->Act->World->Prop} {a:Act} {w:World} (h1:1<=n) {gf:Nat} {lb:Array Value}
 (hg:a.eval g=.func (.func gf) #[] lb) (eg:∀args w,(callFunc gf args).run P w=.ok (.enter gf args) w) (ay:∀x,ps.size=(enc x).size)
 {R R':Nat->Prop} {M:Nat} {G:World->Prop} {xs:List α} {w0:World} (ag:SeqT F (n-1) P gf lb enc R (w.heap.size+2) M G xs w0) (au:BB w0 w)
 (ak:∀k,R k->R' k) (am:¬ R w.heap.size) (af:¬ R (w.heap.size+1)) (ar:R' w.heap.size) (ae:R' (w.heap.size+1))
 (I Ix:List α->World->Prop) (hI:AbT R' I) (al:AbT R' Ix) (hG:∀p X,I p X->G X) (h0:I [] w) (a₁:α->Act)
 (ad:∀(l:Nat) (x:α) (W:World) (K:Act->World->Prop),K (a₁ x) W ->
   aa.wpIn (F.inRound l) (n-1-1) P (Exit.then K (λ_ _ _=>False)) { tmps:=(ps.zip (enc x)).foldl (λt (p,v)=>t.setIfInBounds p v) a.tmps,defers:=[] } W)
 (ah:∀(l:Nat) (p:List α) (x:α) (W:World),I p W->M<=W.heap.size->p++[x] <+: xs->ac.wpIn (F.inRound l) (n-1-1) P (aMg R' I Ix (p++[x]) W) (a₁ x) W)
 (ai:∀(D:Nat) (W:World),w.heap.size=D->I xs W->W.heap[D]?=some (.deferred (some []))->Q .normal { a with defers:={ target:=.collected D,args:=#[] } :: a.defers } W)
 (aj:∀(D:Nat) (p:List α) (W:World),w.heap.size=D->Ix p W->W.heap[D]?=some (.deferred (some []))->Code.ret.wpIn F n P Q { a with defers:={ target:=.collected D,args:=#[] } :: a.defers } W) :
 (Code.rangeFunc g ps aa ac).wpIn F n P Q a w:=by
 refine wpIn_rangeFunc λfn _=>?_;rw[ax];obtain⟨D,hD⟩:=xe w.heap.size
 rw[<-hD] at am af ar ae ag;obtain⟨rc,ab⟩:∃rc:LoopState->Option Code->Loop,rc=λst pe=>{ state:=st,pending:=pe,fn,tmps:=a.tmps,params:=ps,assign:=aa,body:=ac,defers:=w.heap.size }:=⟨_,rfl⟩
 obtain⟨V,hV⟩:=xe ((w.alloc (.deferred (some []))).alloc (.loop (rc .ready none)))
 have vL:V.heap[D+1]?=some (.loop (rc .ready none)):=by
  have h:=mj (w.alloc (.deferred (some []))) (.loop (rc .ready none));rw[jb,<-hV,<-hD] at h;exact h
 have vD:V.heap[D]?=some (.deferred (some [])):=by
  rw[hV,hD];exact(iy _ _ _ ge).trans (mj w _)
 have vb:BB w V:=by rw[hV];exact((bR w).alloc lr _).alloc ge _
 have vS:V.heap.size=D+2:=by rw[hV];simp[hD]
 have vI:I [] V:=hI [] w V h0 (Turn.of_below vb);refine⟨D+1,[{ target:=.collected D,args:=#[] }],V,{ target:=.fn (.func gf) lb,args:=#[.func (.yield (D+1)) #[] #[]] },V,gf,#[.func (.yield (D+1)) #[] #[]]++lb,V,?_,?_,λf _=>hF f,?_,λ_=>h1,?_⟩
 ·rw[hV,ab,hD];exact run_enterLoop_outer _ _ _ _ _
 ·simp only[resolve,hg];simp[go_sem]
 ·simp[invoke,go_sem,eg]
 refine(ag (D+1)
  (λp W=>I p W/\W.heap[D+1]?=some (.loop (rc .ready none))/\W.heap[D]?=some (.deferred (some [])))
  (λp W=>Ix p W/\W.heap[D+1]?=some (.loop (rc .done (some .ret)))/\W.heap[D]?=some (.deferred (some [])))
  V (au.trans (vb.mono au.size)) vS
  (λp X Y hs ht=>⟨hI p X Y hs.1 (ht.mono ak),ht.keep hs.2.1 af,ht.keep hs.2.2 am⟩)
  (λp X Y hs ht=>⟨al p X Y hs.1 (ht.mono ak),ht.keep hs.2.1 af,ht.keep hs.2.2 am⟩)
  (λp X h=>hG p X h.1)
  ?_ ⟨vI,vL,vD⟩).mono ?_
 ·rintro p x W ⟨wI,wL,wD⟩ hM av;have hy:=run_yield (P:=P) (args:=enc x) wL (by rw[ab];simp[ay x]);rw[ab] at hy;have aw:=run_beginRound (P:=P) wL (by rw[ab]);refine⟨fn,_,aa,ac,hy,roundIn_of_wpIn (F:=F) (hF fn) (ad _ x W _ ⟨_,aw,?_⟩)⟩;obtain⟨U,hU⟩:=xe (W.putObj (D+1) (.loop { rc .ready none with state:=.busy }))
  have uL:U.heap[D+1]?=some (.loop { rc .ready none with state:=.busy }):=by rw[hU];exact World.putObj_heap_same (Array.getElem?_eq_some_iff.1 wL).1
  have uD:U.heap[D]?=some (.deferred (some [])):=by rw[hU];exact(jx ga).trans wD
  have uI:I p U:=by rw[hU];exact hI.put _ wI ae
  have uS:U.heap.size=W.heap.size:=by rw[hU];simp[World.putObj]
  have uB:∀k,R k->U.heap[k]?=W.heap[k]?:=λk hk=>by rw[hU];exact jx (λe=>af (e▸hk))
  have ap:D+1<U.heap.size:=(Array.getElem?_eq_some_iff.1 uL).1;rw[<-hU];refine wpIn_mono (ah _ p x _ uI (by rw[uS];exact hM) av) ?_
  -- the round's end
  have fin:∀(jump:Option Code) (Z:World),(∀k,R' k->k<U.heap.size->Z.heap[k]?=U.heap[k]?)->∃Z',(Instr.endRound (D+1) jump).run P Z=.ok (.bool jump.isNone) Z'/\Z'=Z.putObj (D+1) (.loop (rc (if jump.isNone then .ready else .done) jump)) /\
   Z'.heap[D+1]?=some (.loop (rc (if jump.isNone then .ready else .done) jump))/\Z'.heap[D]?=some (.deferred (some [])):=λjump Z hk=>by
   have zL:=(hk _ ae ap).trans uL;have zD:=(hk _ ar ga).trans uD;have hr:=run_endRound (P:=P) jump zL;rw[ab] at hr ⊢;exact⟨_,hr,rfl,World.putObj_heap_same (Array.getElem?_eq_some_iff.1 zL).1,(jx ga).trans zD⟩
  rintro e a3 Z hp;cases e with
  | normal =>
    obtain⟨hz,hk,zI⟩:=hp;obtain⟨Z',hr,hZ,an,ao⟩:=fin none Z hk;refine⟨_,_,hr,.inl ⟨rfl,⟨by rw[hZ];exact hI.put _ zI ae,an,ao⟩⟩,by rw[hZ];simp only[World.putObj,Array.size_setIfInBounds];omega,λk hkx hkl=>?_⟩;rw[hZ];exact(jx (λe=>af (by rw[<-e];exact hkx))).trans ((hk k (ak k hkx) ga).trans (uB k hkx))
  | ret =>
    obtain⟨hz,hk,zI⟩:=hp;obtain⟨Z',hr,hZ,an,ao⟩:=fin (some .ret) Z hk;refine⟨_,_,hr,.inr ⟨rfl,⟨by rw[hZ];exact al.put _ zI ae,an,ao⟩⟩,by rw[hZ];simp only[World.putObj,Array.size_setIfInBounds];omega,λk hkx hkl=>?_⟩;rw[hZ];exact(jx (λe=>af (by rw[<-e];exact hkx))).trans ((hk k (ak k hkx) ga).trans (uB k hkx))
  | exit id=>exact hp.elim
  | goto t=>exact hp.elim
  | panic ch=>exact hp.elim
  | outgrown=>exact hp.elim
 ·rintro e W ⟨⟨v,rfl⟩,(⟨wI,wL,wD⟩|⟨p,wI,wL,wD⟩)⟩
  ·have hr:=run_endLoop (P:=P) wL (by rw[ab];simp);have aq:(Instr.endLoop (D+1)).run P W=.ok none (W.putObj (D+1) (.loop { rc .ready none with state:=.exhausted })):=by rw[hr,ab]
   exact⟨none,_,aq,ai D _ hD.symm (hI.put _ wI ae) ((jx ga).trans wD)⟩
  ·have hr:=run_endLoop (P:=P) wL (by rw[ab];simp);have aq:(Instr.endLoop (D+1)).run P W=.ok (some .ret) (W.putObj (D+1) (.loop { rc .done (some .ret) with state:=.exhausted })):=by rw[hr,ab]
   exact⟨some .ret,_,aq,aj D p _ hD.symm (al.put _ wI ae) ((jx ga).trans wD)⟩
end
end
abbrev scO (s:BA):Obj:=.cells #[.string s,.bool false] 53
def tO (s a b:BA):Prop:=(⟨(Lib.cut s.data.toList [32]).1.toArray⟩:BA)=a/\(⟨(Lib.cut s.data.toList [32]).2.1.toArray⟩:BA)=b
theorem tZ (s a b:BA) (hs:s.size<=1000) (hc:tO s a b) (c:Nat) (w:World) (h:w.heap[c]?=some (scO s)) (hN:NumVars w) :
 CP 20 #[Pt c 0] w λe w'=>e=.returned (Sv a)/\w'.heap[c]?=some (scO b)/\Turn (λk=>k=c) w w':=by
 obtain⟨m,hm⟩:=hN.2.2;obtain⟨fl,ac⟩:=xe ((Lib.cut s.data.toList [32]).2.2)
 have aa:f7 (CP 50 #[Sv s,Sv ⟨#[32]⟩] w (Rt (.tuple #[Sv a,Sv b,.bool fl]) w)):=f8 ((Tryz.strings_Cut s ⟨#[32]⟩ m w ga hm).mono λe w' ⟨he,k,hw⟩=>⟨by rw[he,<-hc.1,<-hc.2,ac],by rw[hw];exact below_drewN _ _⟩);have H:=f8 h;have c0:=aA h 0
 (try dsimp only at c0)
 clear hm ac hc hN h;go_enter func20,ntmps20
 go_upto_region 2 with (go_at_call 50;refine aa.mono ?_;rintro e w2 ⟨rfl,ab⟩;have g:=aB ab H.o;obtain⟨HB,G⟩:=h_2 ab g;clear ab)
 clear c0;have c0:=aA g 0;have f0:=aF g 0
 (try dsimp only at c0)
 have hg:=aG (o:=0) (Sv b) G.o;simp only[jm,jn,jo] at hg;have HG:=f8 hg;clear g hg;go_wp2;go_ret;exact⟨rfl,HG.o,(Turn.of_below HB.o).trans (Turn.setCell ⟨c,0,none⟩ _ rfl)⟩
theorem mS (s a b:BA) (hs:s.size<=1000) (hc:tO s a b) (n:Int) (ha:a.size<=1000) (ae:dE a.data.toList=true) (hv:dD a.data.toList=n) (c:Nat) (w:World) (h:w.heap[c]?=some (scO s)) (hN:NumVars w) (ab:∀w',Turn (λk=>k=c) w w'->NumVars w') :
 CP 12 #[Pt c 0] w λe w'=>e=.returned (I6 n)/\w'.heap[c]?=some (scO b)/\Turn (λk=>k=c) w w':=by
 have HP:=f8 (tZ s a b hs hc c w h hN);have HA:=f8 (λ(w':World) (h:Turn (λk=>k=c) w w')=>kL a ga w' (ab w' h));rw[ae,hv] at HA;clear hc ae hv h hN ab;go_enter func12,ntmps12
 go_upto_region 2 with (first
  | (go_at_call 20;refine HP.mono ?_;rintro e w2 ⟨rfl,h2,ad⟩;obtain⟨H2,ac⟩:=h_2 h2 ad;clear h2 ad)
  | (go_at_call 45;refine(HA.o _ ac.o).mono ?_;rintro e w3 ⟨ev,rfl,ag,aa⟩;obtain rfl:ev=.nilIface:=ag.elim (λh=>h.2) (λh=>by cases h.1);have af:=f8 aa;clear aa ag))
 have g:=aB af.o H2.o;have c1:=aA g 1;have f1:=aF g 1
 (try dsimp only at c1)
 have hg:=aG (o:=1) (.bool false) g;simp only[jm,jn,jo] at hg;have HG:=f8 hg;clear g hg;go_wp2;go_ret;exact⟨rfl,HG.o,(ac.trans (Turn.of_below af.o)).trans (Turn.setCell ⟨c,1,none⟩ _ rfl)⟩
abbrev rdO (lp:Value) (v e t:Int) (ap:Option Addr) (an ac:Nat):Obj:=.cells #[lp,I6 v,I6 e,I6 t,Z0,.slice ap an ac,Z0,Z0,Z0,Z0,.bool false] 46
theorem aAq (word ln:BA) (hw:word.size<=1000) (hp:Lib.hasPrefix ln.data.toList (word++⟨#[32]⟩).data.toList=false) (R L i n cap:Nat) (v e t:Int) (ap:Option Addr) (an ac:Nat) (w:World) (h:w.heap[R]?=some (rdO (Sl (So L i) (n+1) cap) v e t ap an ac)) (hl:Ce w L i (Sv ln)) (hn:n<=1000) :
 CP 11 #[Pt R 0,Sv word] w (Rt (.tuple #[.pointer none,.bool false]) w):=by
 have HC:=f8 (λ(w:World)=>Tryz.strings_CutPrefix ln (word++⟨#[32]⟩) w);rw[hp] at HC;obtain⟨tr,aa⟩:=xe (⟨(Lib.trimPrefix ln.data.toList (word++⟨#[32]⟩).data.toList).toArray⟩:BA)
 simp only[<-aa] at HC;have c0:=aA h 0;have ad:=aA h 10
 (try dsimp only at c0 ad)
 have hz:¬ 9223372036854775807<word.size+1:=ga
 have ae:(((n+1:Nat):Int)==0)=false:=by simp;omega
 have af:((n:Int)+1==0)=false:=by simp;omega
 have ag:(0:Int)<((n+1:Nat):Int):=ga
 clear aa hp h;go_enter func11,ntmps11
 go_wp2_with (go_at_call 44;refine(HC.o _).mono ?_;rintro e w3 ⟨rfl,ab⟩;obtain rfl:=ab.symm)
 go_ret2
 exact⟨rfl,gx _ _⟩
theorem aAp (word ln rest:BA) (hw:word.size<=1000) (hp:Lib.hasPrefix ln.data.toList (word++⟨#[32]⟩).data.toList=true) (hr:(⟨(Lib.trimPrefix ln.data.toList (word++⟨#[32]⟩).data.toList).toArray⟩:BA)=rest) (R L i n cap:Nat) (ad:1<=cap) (v e t:Int) (ap:Option Addr) (an ac:Nat) (w:World) (h:w.heap[R]?=some (rdO (Sl (So L i) (n+1+1) (cap+1)) v e t ap an ac)) (hl:Ce w L i (Sv ln)) (hn:n<=1000) (ae:n+1<=cap) :
 CP 11 #[Pt R 0,Sv word] w λe' w'=>∃c,e'=.returned (.tuple #[Pt c 0,.bool true])/\w'.heap[c]?=some (scO rest)/\w.heap.size<=c/\w'.heap[R]?=some (rdO (Sl (So L (i+1)) (n+1) cap) v e t ap an ac)/\Turn (λk=>k=R) w w':=by
 have HC:=f8 (λ(w:World)=>Tryz.strings_CutPrefix ln (word++⟨#[32]⟩) w);rw[hp,hr] at HC;have c0:=aA h 0;have aa:=aA h 10;have f0:=aF h 0
 (try dsimp only at c0 aa)
 have hz:¬ 9223372036854775807<word.size+1:=ga
 have H:=f8 h;clear hr hp h;go_enter func11,ntmps11
 go_upto_region 6 with (go_at_call 44;refine(HC.o _).mono ?_;rintro e w3 ⟨rfl,ab⟩;obtain rfl:=ab.symm)
 go_upto_region 7 with (fail)
 go_wp2
 go_ret2
 have hR:=aG (o:=0) (Sl (So L (i+1)) (n+1) cap) H.o;simp only[jm,jn,jo] at hR;refine⟨w.heap.size,rfl,?_,gy _,?_,?_⟩
 ·exact aN _ _ _ (by simp[World.setCell])
 ·exact aC _ hR
 ·exact Turn.trans (Turn.setCell ⟨R,0,none⟩ _ rfl) (Turn.of_below ((gx _ _).alloc lr _))
section
section
variable {P:Program} {ops:Array Oper} {Q:Exit->Act->World->Prop} {md:Region.Mode} {S:World->Prop}
def SL (st:Nat) (S:World->Prop) (L:Array Bool) (w:World):Prop:=L.getD st true=false->S w
def gI (P:Program) (md:Region.Mode) (ops:Array Oper) (Q:Exit->Act->World->Prop) (st:Nat) (S:World->Prop):Nat->Array Bool->Act->World->Prop
 | 0,listed,a,w=>Region.ready md ops listed=[]/\Q .normal a w
 | fuel+1,listed,a,w =>
   (Region.ready md ops listed=[]->Q .normal a w) /\
   ∀i∈Region.ready md ops listed,wpOp P ops Q i (λa' w'=>SL st S (listed.setIfInBounds i true) w'/\gI P md ops Q st S fuel (listed.setIfInBounds i true) a' w') a w
theorem qD {st:Nat}:∀(fuel:Nat) (listed:Array Bool) (a:Act) (w:World),gI P md ops Q st S fuel listed a w->wpAny P md ops Q fuel listed a w
 | 0,_,_,_,h=>h
 | fuel+1,_,_,_,h=>⟨h.1,λi hi=>lh (λa' w' h'=>qD fuel _ a' w' h'.2) (h.2 i hi)⟩
theorem aIk {st i:Nat} (hi:i≠st) (L:Array Bool) (w:World):SL st S (L.setIfInBounds i true) w=SL st S L w:=by
 unfold SL;have e:(L.setIfInBounds i true).getD st true=L.getD st true:=by
  simp only[jf,mq];rw[f9 hi]
 rw[e]
theorem rB {st i:Nat} {oi:Oper} {v:Value} {Y:World->Prop} {Inv:Array Bool->Prop} (ae:i≠st) (hi:ops[i]?=some oi) (ag:∀(j:Nat) (o:Oper) cs b,ops[j]?=some o->o.op≠.select cs b)
 (hQ:∀c a w,Q (.panic c) (a.put oi.dst v) w->Q (.panic c) a w)
 (hY:∀L w,Inv L->SL st S L w->Y w) (ak:∀L j,Inv L->L.getD i true=false->j∈Region.ready md ops L->j≠i->Inv (L.setIfInBounds j true)) :
 ∀(ab:Nat) (aa:Array Bool) (a:Act) (w:World),Inv aa ->
  (∀j oj,ops[j]?=some oj->j≠i->aa.getD j true=false->(∀e∈oj.after,Region.binds md e=true->e.on≠i)->oi.apart ops oj=true) ->
  i∈Region.ready md ops aa->YieldsIf P ops Y oi v a->SL st S aa w ->
  gI P md ops Q st S ab (aa.setIfInBounds i true) (a.put oi.dst v) w->gI P md ops Q st S (ab+1) aa a w:=by
 intro ab
 induction ab with
 | zero =>
   intro aa a w hI _ hr hy hS H;refine⟨λh=>(by rw[h] at hr;cases hr),λj hj=>?_⟩;by_cases ac:j=i
   ·subst ac;exact hy.wpOp hi (hY _ _ hI hS) ⟨by rw[aIk ae];exact hS,H⟩
   ·have:=ready_mono hj ac;rw[H.1] at this;cases this
 | succ ab ih =>
   intro aa a w hI ad hr hy hS H;refine⟨λh=>(by rw[h] at hr;cases hr),λj hj=>?_⟩;by_cases ac:j=i
   ·subst ac;exact hy.wpOp hi (hY _ _ hI hS) ⟨by rw[aIk ae];exact hS,H⟩
   ·have h1:=H.2 j (ready_mono hj ac);obtain⟨ah,oj,ai,al⟩:=mem_ready.1 hj;have aj:∀e∈oj.after,Region.binds md e=true->e.on≠i:=λe he hb heq=>by
     have h1:=al e he hb;have h0:=(mem_ready.1 hr).1;rw[heq] at h1;rcases mf i aa.size with h'|h'
     ·simp[h'] at h0 h1;rw[h0] at h1;cases h1
     ·simp[ow h'] at h1
    have h2:=wpOp_putIf ai (ad j oj ai ac ah aj) (λcs b=>ag i oi cs b hi) (λcs b=>ag j oj cs b ai) hQ hy h1;have af:∀k ok,ops[k]?=some ok->k≠i->(aa.setIfInBounds j true).getD k true=false ->
     (∀e∈ok.after,Region.binds md e=true->e.on≠i)->oi.apart ops ok=true:=λk ok hk hki hun hno=>by
     refine ad k ok hk hki ?_ hno;by_cases an:j=k
     ·subst an;exact ah
     ·rw[nt true an] at hun;exact hun
    have ao:Inv (aa.setIfInBounds j true):=ak aa j hI (mem_ready.1 hr).1 hj ac;refine lh (λa' w' h3=>?_) h2;have am:SL st S (aa.setIfInBounds j true) w':=by
     have:=h3.2.1;rw[Array.setIfInBounds_comm _ _ (Ne.symm ac),aIk ae] at this;exact this
    refine⟨am,ih (aa.setIfInBounds j true) a' w' ao af (ready_mono hr (Ne.symm ac)) h3.1 am ?_⟩;rw[Array.setIfInBounds_comm _ _ ac];exact h3.2.2
theorem bU {st i:Nat} {oi:Oper} {v:Value} {fuel:Nat} {listed:Array Bool} {a:Act} {w:World} (hi:ops[i]?=some oi) (hist:decide (i≠st)=true)
 (hs:Region.noSelect ops=true) (hf:Region.free md ops listed i=true) (hr:(Region.ready md ops listed).contains i=true)
 (hQ:∀c a w,Q (.panic c) (a.put oi.dst v) w->Q (.panic c) a w) (hy:YieldsIf P ops (λ_=>True) oi v a) (hS:SL st S listed w)
 (h:gI P md ops Q st S fuel (listed.setIfInBounds i true) (a.put oi.dst v) w):gI P md ops Q st S (fuel+1) listed a w :=
 rB (Inv:=λ_=>True) (ld hist) hi (Region.noSelect_spec hs) hQ (λ_ _ _ _=>trivial) (λ_ _ _ _ _ _=>trivial) fuel listed a w trivial (Region.free_spec hi hf) (by simpa using hr) hy hS h
def aDk (md:Region.Mode) (ops:Array Oper) (st i:Nat):Bool:=match ops[st]? with
 | none=>false
 | some o=>o.after.any λe=>Region.binds md e&&e.on==i
theorem lC {st i:Nat} {oi:Oper} {v:Value} {ab:Nat} {aa:Array Bool} {a:Act} {w:World} (hi:ops[i]?=some oi) (ad:decide (i≠st)=true) (hw:aDk md ops st i=true) (af:aa.getD st true=false)
 (hs:Region.noSelect ops=true) (hf:Region.free md ops aa i=true) (hr:(Region.ready md ops aa).contains i=true)
 (hQ:∀c a w,Q (.panic c) (a.put oi.dst v) w->Q (.panic c) a w) (hy:YieldsIf P ops S oi v a) (hS:SL st S aa w)
 (h:gI P md ops Q st S ab (aa.setIfInBounds i true) (a.put oi.dst v) w):gI P md ops Q st S (ab+1) aa a w:=by
 refine rB (Inv:=λL=>L.getD st true=false) (ld ad) hi (Region.noSelect_spec hs) hQ (λL w hI hSL=>hSL hI) (λL j hI hun hj hji=>?_) ab aa a w af (Region.free_spec hi hf) (by simpa using hr) hy hS h;have ac:j≠st:=λe=>by
  subst e;obtain⟨_,o,ho,ae⟩:=mem_ready.1 hj;simp only[aDk,ho,Array.any_eq_true,kg,mg] at hw;obtain⟨k,hk,hb,ag⟩:=hw;have h1:=ae _ (Array.getElem_mem hk) hb;rw[ag] at h1;rcases mf i L.size with h'|h'
  ·simp[h'] at hun h1;rw[hun] at h1;cases h1
  ·simp[ow h'] at h1
 rw[nt true ac];exact hI
theorem qE {st i:Nat} {o:Oper} {ab:Nat} {aa:Array Bool} {a:Act} {w:World} (hr:Region.ready md ops aa=[i]) (ac:(aa.setIfInBounds i true).getD st true=true) (ho:ops[i]?=some o)
 (h:∀K':Act->World->Prop,Shut (∀a w,gI P md ops Q st S ab (aa.setIfInBounds i true) a w->K' a w)->if Region.wanted o (yielded ops a.tmps)=true then Oper.wp P o a w K' Q else K' (a.put o.dst undef) w):gI P md ops Q st S (ab+1) aa a w:=by
 refine⟨λh0=>absurd (hr▸h0) ge,λj hj=>?_⟩;rw[hr] at hj;obtain rfl:=List.mem_singleton.1 hj;exact wpOp_step ho (λK' hK=>h K' (λa w hW=>hK a w ⟨(λh1=>by rw[ac] at h1;cases h1),hW⟩))
theorem nR {st:Nat} {listed:Array Bool} {a:Act} {w:World} (hr:Region.ready md ops listed=[]) (h:Q .normal a w):∀fuel,gI P md ops Q st S fuel listed a w
 | 0=>⟨hr,h⟩
 | _+1=>⟨λ_=>h,by rw[hr];simp⟩
end
end
section
section
variable {P:Program} {ops:Array Oper} {Q:Exit->Act->World->Prop} {md:Region.Mode} {S:World->Prop}
theorem tV {st i:Nat} {o:Oper} {ab:Nat} {aa:Array Bool} {a:Act} {w:World} (hr:Region.ready md ops aa=[i]) (ho:ops[i]?=some o)
 (h:∀K':Act->World->Prop,Shut (∀a w,S w->gI P md ops Q st S ab (aa.setIfInBounds i true) a w->K' a w)->if Region.wanted o (yielded ops a.tmps)=true then Oper.wp P o a w K' Q else K' (a.put o.dst undef) w):gI P md ops Q st S (ab+1) aa a w:=by
 refine⟨λh0=>absurd (hr▸h0) ge,λj hj=>?_⟩;rw[hr] at hj;obtain rfl:=List.mem_singleton.1 hj;exact wpOp_step ho (λK' hK=>h K' (λa w hS hW=>hK a w ⟨λ_=>hS,hW⟩))
theorem aDh {st i:Nat} {o os:Oper} {ab:Nat} {aa:Array Bool} {a:Act} {w:World} (hr:Region.ready md ops aa=[i,st]) (ac:(aa.setIfInBounds st true).getD st true=true) (ho:ops[i]?=some o) (ad:ops[st]?=some os)
 (h1:∀K':Act->World->Prop,Shut (∀a w,S w->gI P md ops Q st S ab (aa.setIfInBounds i true) a w->K' a w)->if Region.wanted o (yielded ops a.tmps)=true then Oper.wp P o a w K' Q else K' (a.put o.dst undef) w)
 (h2:∀K':Act->World->Prop,Shut (∀a w,gI P md ops Q st S ab (aa.setIfInBounds st true) a w->K' a w)->if Region.wanted os (yielded ops a.tmps)=true then Oper.wp P os a w K' Q else K' (a.put os.dst undef) w):gI P md ops Q st S (ab+1) aa a w:=by
 refine⟨λh0=>absurd (hr▸h0) ge,λj hj=>?_⟩;rw[hr] at hj;rcases List.mem_cons.1 hj with rfl|hj
 ·exact wpOp_step ho (λK' hK=>h1 K' (λa w hS hW=>hK a w ⟨λ_=>hS,hW⟩))
 ·obtain rfl:=List.mem_singleton.1 hj;exact wpOp_step ad (λK' hK=>h2 K' (λa w hW=>hK a w ⟨(λh1=>by rw[ac] at h1;cases h1),hW⟩))
end
theorem aC9 {w:World} {a b:Addr} {u v:Value} (h:a.block≠b.block):(w.setCell a u).setCell b v=(w.setCell b v).setCell a u:=by
 have e:((w.setCell a u).setCell b v).heap=((w.setCell b v).setCell a u).heap:=by
  apply qm;intro j;by_cases h1:j=a.block
  ·subst h1;rw[ij _ _ _ _ h];simp only[World.setCell,mv,f9 (Ne.symm h)]
  ·rw[ij (w.setCell b v) a _ _ h1];by_cases h2:j=b.block
   ·subst h2;simp only[World.setCell,mv,f9 h]
   ·rw[ij _ _ _ _ h2,ij _ _ _ _ h1,ij _ _ _ _ h2]
 show { w with heap:=_ }={ w with heap:=_ };exact congrArg (λx=>{ w with heap:=x }) e
theorem iQ {X Y:World} {row:Option Nat} {g i:Nat} {u:Value} (h:X.grownBy Y row) (hg:row=some g\/X.heap.size<=g):X.grownBy (Y.setCell ⟨g,i,none⟩ u) row :=
 ⟨h.os,h.tape,h.output,by simpa [World.setCell] using h.size,λk hk hne=>(ij _ _ _ _ (by
   rcases hg with rfl|hg
   ·exact λe=>hne (by rw[e])
   ·dsimp only;omega)).trans (h.block k hk hne)⟩
theorem set6 (l:List Value) (Q:Nat) (hl:l.length=Q) (z0 z1 z2 z3 z4 z5 v0 v1 v2 v3 v4 v5:Value) :
 ((((((l++[z0,z1,z2,z3,z4,z5]).set Q v0).set (Q+1) v1).set (Q+2) v2).set (Q+3) v3).set (Q+4) v4).set (Q+5) v5=l++[v0,v1,v2,v3,v4,v5]:=by
 subst hl;have e:∀(r:List Value) (i:Nat) (v:Value),(l++r).set (l.length+i) v=l++r.set i v:=λr i v=>by
  rw[List.set_append_right _ _ ga,show l.length+i-l.length=i by omega]
 have e0:∀(r:List Value) (v:Value),(l++r).set l.length v=l++r.set 0 v:=λr v=>e r 0 v;rw[e0,e,e,e,e,e];rfl
end
section
section
variable {P:Program} {ops:Array Oper} {Q:Exit->Act->World->Prop}
theorem aKg {n:Nat} {o:Oper} {a:Act} {w:World} {K:Act->World->Prop} (h:o.wp P a w K Q):o.wpIn Fence.wide n P a w K Q:=by
 refine⟨λ_ _=>trivial,?_⟩;have e:Fence.wide.round=none:=rfl;rw[e,Oper.semAt_none];unfold Oper.wp at h;generalize (execOp a.eval o).run P w=r at h ⊢;cases r with
 | ok x w' =>
   cases x<;>simp only[Oper.upon,Oper.uponIn] at h ⊢ <;> first
    | exact h
    | exact⟨λh=>gp,callsIn_wide.2 h⟩
    | exact⟨λh=>gp,λc cs _=>by
       obtain⟨v,w',r,s⟩:=h c cs;exact⟨v,w',r,stepsIn_wide.2 s⟩⟩
 | halt x w'=>cases x<;>simp only[Oper.upon,Oper.uponIn] at h ⊢ <;> exact h
theorem aJk {n i:Nat} {a:Act} {w:World} {K:Act->World->Prop} (hQ:¬ LetsOut Q) (h:wpOp P ops Q i K a w):wpOpIn Fence.wide n P ops Q i K a w:=by
 unfold wpOp at h;unfold wpOpIn;cases ho:ops[i]? with
 | none=>simpa [ho] using h
 | some o =>
   simp only[ho] at h ⊢;split
   ·rename_i hw;simp only[hw,je] at h;rcases h with h|⟨_,h⟩
    ·exact aKg h
    ·exact absurd h hQ
   ·rename_i hw;simp only[hw] at h;exact⟨λ_ _=>trivial,h⟩
theorem aFy {n:Nat} {md:Region.Mode} (hQ:¬ LetsOut Q):∀(aa:Nat) (L:Array Bool) (a:Act) (w:World),wpAny P md ops Q aa L a w->wpAnyIn Fence.wide n P md ops Q aa L a w:=by
 intro aa
 induction aa with
 | zero=>intro L a w h;exact h
 | succ aa ih=>intro L a w h;exact⟨h.1,λi hi=>wpOpIn_mono (λa w h=>ih _ a w h) (aJk hQ (h.2 i hi))⟩
theorem uP {F:Fence} (aa:F=Fence.wide) {id n:Nat} {a:Act} {w:World} (st:Nat) (A:Act) (W:World) (hm:P.follows .mixedOrders=true)
 (h:gI P .any ops (λe a' w'=>e=.normal/\a'=A/\w'=W) st (λw'=>w'=w.drew) ops.size (Array.replicate ops.size false) a w.drew) (hQ:Q .normal A W):(Code.region id ops true).wpIn F n P Q a w:=by
 subst aa;refine wpIn_mono (wpIn_region_any hm (aFy ?_ _ _ _ _ (qD _ _ _ _ h))) ?_
 ·rintro⟨_,_,h⟩;cases h.1
 ·rintro e a' w' ⟨rfl,rfl,rfl⟩;exact hQ
end
end
end Go.Proofs.YtoodnaghjpkjfaaGreatDoor
