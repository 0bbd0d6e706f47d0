/- A part. -/
import Derived.Test.YtmgpghoamapfgaaGreatDoorST6Mrg
import Derived.Lib.Split
import Derived.Lib.Join
import Derived.Below
import Derived.Lib.IndexBytes
import Derived.RangeFuncBox
namespace Go.Proofs.YtmgpghoamapfgaaGreatDoor
set_option linter.unusedVariables false
set_option maxRecDepth 100000
set_option maxHeartbeats 16000000
set_option linter.unusedSimpArgs false
section
open Go Go.RowKit
def spl (c:UInt8):List UInt8->List (List UInt8)
 | []=>[[]]
 | x :: r=>if x=c then [] :: spl c r else match spl c r with
   | []=>[[x]]
   | h :: t=>(x :: h) :: t
theorem tY (c:UInt8):∀l:List UInt8,c ∉ l->spl c l=[l]
 | [],_=>rfl
 | x :: r,h=>by
   have hx:¬ x=c:=fun e=>h (by rw[e];exact List.mem_cons_self ..);rw[spl,if_neg hx,tY c r (fun e=>h (List.mem_cons_of_mem _ e))]
theorem aAy (c:UInt8) (r:List UInt8):∀l:List UInt8,c ∉ l->spl c (l++c :: r)=l :: spl c r
 | [],_=>by rw[List.nil_append,spl,if_pos rfl]
 | x :: l,h=>by
   have hx:¬ x=c:=fun e=>h (by rw[e];exact List.mem_cons_self ..);rw[List.cons_append,spl,if_neg hx,aAy c r l (fun e=>h (List.mem_cons_of_mem _ e))]
theorem yJ (c:UInt8):∀l:List UInt8,∀x∈spl c l,c ∉ x/\x.length<=l.length
 | [],x,h=>by
   have:x=[]:=by simpa [spl] using h
   subst this;exact⟨List.not_mem_nil,Nat.le_refl _⟩
 | y :: r,x,h=>by
   have ih:=yJ c r;rw[spl] at h;split at h
   ·rcases List.mem_cons.1 h with rfl | h
    ·exact⟨List.not_mem_nil,Nat.zero_le _⟩
    ·have q:=ih x h;exact⟨q.1,by simp;omega⟩
   ·rename_i hy;split at h
    ·rcases List.mem_cons.1 h with rfl | h
     ·exact⟨fun e=>hy (List.mem_singleton.1 e).symm,by simp⟩
     ·exact absurd h List.not_mem_nil
    ·rename_i a t he;rcases List.mem_cons.1 h with rfl | h
     ·have q:=ih a (by rw[he];exact List.mem_cons_self ..);exact⟨fun e=>(List.mem_cons.1 e).elim (fun e=>hy e.symm) q.1,by simp;exact q.2⟩
     ·have q:=ih x (by rw[he];exact List.mem_cons_of_mem _ h);exact⟨q.1,by simp;omega⟩
theorem yK (c:UInt8):∀l:List UInt8,(spl c l).length<=l.length+1
 | []=>Nat.le_refl _
 | x :: r=>by
   have ih:=yK c r;rw[spl];split
   ·simp only[List.length_cons];omega
   ·split
    ·simp
    ·rename_i a t he;rw[he] at ih;simp only[List.length_cons] at ih ⊢;omega
theorem wU (c:UInt8) (l:List UInt8):c ∉ l\/∃a r,c ∉ a/\l=a++c :: r:=by
 induction l with
 | nil=>exact .inl List.not_mem_nil
 | cons x l ih =>
   by_cases hx:x=c
   ·exact .inr ⟨[],l,List.not_mem_nil,by rw[hx];rfl⟩
   rcases ih with h | ⟨a,r,h,rfl⟩
   ·exact .inl fun e=>(List.mem_cons.1 e).elim (fun e=>hx e.symm) h
   ·exact .inr ⟨x :: a,r,fun e=>(List.mem_cons.1 e).elim (fun e=>hx e.symm) h,rfl⟩
theorem gY (c:UInt8) (r:List UInt8):∀l:List UInt8,c ∉ l->Lib.index (l++c :: r) [c]=l.length
 | [],_=>by simp[Lib.index]
 | d :: l,h=>by
   have:=gY c r l (fun e=>h (List.mem_cons_of_mem _ e));have hc:¬ d=c:=fun e=>h (by rw[e];exact List.mem_cons_self ..);simp only[List.cons_append,Lib.index];rw[this];simp[hc];intro e;exact absurd e.symm hc
theorem sN (c:UInt8):∀l:List UInt8,c ∉ l->Lib.index l [c] = -1
 | [],_=>by simp[Lib.index]
 | d :: l,h=>by
   have:=sN c l (fun e=>h (List.mem_cons_of_mem _ e));have hc:¬ d=c:=fun e=>h (by rw[e];exact List.mem_cons_self ..);simp only[Lib.index];rw[this];simp[hc];intro e;exact absurd e.symm hc
theorem rI (c:UInt8) (l:List UInt8):(Lib.index l [c] = -1/\spl c l=[l])\/∃i:Nat,Lib.index l [c]=i/\i<l.length/\spl c l=l.take i :: spl c (l.drop (i+1)):=by
 rcases wU c l with h | ⟨a,r,h,rfl⟩
 ·exact .inl ⟨sN c l h,tY c l h⟩
 ·refine .inr ⟨a.length,gY c r a h,by simp,?_⟩;rw[aAy c r a h,List.take_left' rfl];congr 1;rw[show a++c :: r=(a++[c])++r by simp,List.drop_left' gd]
theorem aDy (c x:List UInt8):Lib.join [x] c=x:=by simp[Lib.join,List.intercalate]
theorem aDx (c x y:List UInt8) (r:List (List UInt8)):Lib.join (x :: y :: r) c=x++c++Lib.join (y :: r) c:=by simp[Lib.join,List.intercalate,List.intersperse]
theorem tZ (c:UInt8):∀ls:List (List UInt8),ls≠[]->(∀x∈ls,c ∉ x)->spl c (Lib.join ls [c])=ls
 | [],h,_=>absurd rfl h
 | [x],_,h=>by
   rw[aDy];exact tY c x (h x (List.mem_cons_self ..))
 | x :: y :: r,_,h=>by
   rw[aDx,List.append_assoc,List.singleton_append,aAy c _ x (h x (List.mem_cons_self ..)),tZ c (y :: r) gd (fun z hz=>h z (List.mem_cons_of_mem _ hz))]
end
section
open Go Go.RowKit
def cZ (s:List UInt8):Int × Bool:=((aC4 s).1,(aC4 s).2&&decide (s.length<=7))
theorem aMb (n:Nat) (h:n<10000000):cZ (Lib.decDigits n)=((n:Int),true):=by
 have h7:=aC6 n 7 ga ga;rw[cZ,aN8 n ga];simp[h7]
def iY (s:List UInt8):Option St :=
 if (cZ (Lib.cut s [47]).1).2=true/\(spl 46 (Lib.cut s [47]).2.1).all (fun x=>(cZ x).2)=true/\bI ⟨(cZ (Lib.cut s [47]).1).1,(spl 46 (Lib.cut s [47]).2.1).map fun x=>(cZ x).1⟩=0
 then some ⟨(cZ (Lib.cut s [47]).1).1,(spl 46 (Lib.cut s [47]).2.1).map fun x=>(cZ x).1⟩ else none
theorem qI (n:Int) (h:0<=n):Lib.itoa n=Lib.decDigits n.toNat:=by rw[Lib.itoa,if_neg ga]
theorem qH (n:Int) (h:0<=n) (c:UInt8) (hc:c.toNat<48):c ∉ Lib.itoa n:=fun e=>by
 rw[qI n h] at e;have:=cQ _ c e;omega
theorem rM (n:Int) (h:0<=n) (h7:n<10000000):cZ (Lib.itoa n)=(n,true):=by
 rw[qI n h,aMb n.toNat ga];congr 1;omega
theorem rH {d:St} (h:bI d=0):1<=d.e/\d.e<=1048576/\d.ps≠[]/\(∀x∈d.ps,0<=x/\x<=65535):=by
 unfold bI at h;split at h
 ·simp at h
 rename_i h1;split at h
 ·simp at h
 rename_i h2;split at h
 ·simp at h
 split at h
 ·simp at h
 rename_i h4;refine⟨by omega,by omega,h2,fun x hx=>?_⟩;have q:wS x=false:=by
  cases hb:wS x
  ·rfl
  ·exact absurd (List.any_eq_true.2 ⟨x,hx,hb⟩) h4
 unfold wS at q;simp at q;omega
theorem aD7 (d:St) (h:bI d=0):iY (cC d).data.toList=some d:=by
 obtain⟨h1,h2,h3,h4⟩:=rH h;have e1:(cC d).data.toList=Lib.itoa d.e++47 :: Lib.join (d.ps.map Lib.itoa) [46]:=by
  unfold cC;simp only[ByteArray.data_append,Array.toList_append];rw[show(aF d.e).data.toList=Lib.itoa d.e from rfl,List.append_assoc];show Lib.itoa d.e++([47]++_)=_;rw[List.singleton_append];congr 2;unfold bJ;rw[List.map_map];rfl
 have e2:Lib.cut (cC d).data.toList [47]=(Lib.itoa d.e,Lib.join (d.ps.map Lib.itoa) [46],true):=by
  rw[e1];unfold Lib.cut;rw[gY 47 _ _ (qH d.e ga 47 gc),if_pos ga];simp
 have e3:spl 46 (Lib.join (d.ps.map Lib.itoa) [46])=d.ps.map Lib.itoa:=tZ 46 _ (by simpa using h3) fun x hx=>by
  rw[List.mem_map] at hx;obtain⟨y,hy,rfl⟩:=hx;exact qH y (h4 y hy).1 46 gc
 have e4:(d.ps.map Lib.itoa).map (fun x=>(cZ x).1)=d.ps:=by
  rw[List.map_map];refine(List.map_congr_left fun x hx=>?_).trans (List.map_id _);have q:=h4 x hx;show(cZ (Lib.itoa x)).1=x;rw[rM x q.1 ga]
 have e5:(d.ps.map Lib.itoa).all (fun x=>(cZ x).2)=true:=by
  rw[List.all_eq_true];intro z hz;rw[List.mem_map] at hz;obtain⟨y,hy,rfl⟩:=hz;have q:=h4 y hy;rw[rM y q.1 ga]
 unfold iY;rw[e2];dsimp only;rw[e3,e4,e5,rM d.e ga ga];dsimp only;rw[if_pos ⟨rfl,rfl,h⟩]
end
section
open Go Go.RowKit
def Abb (bs:Nat) (J:List ByteArray->World->Prop):Prop:=∀p A B,J p A->A.grownBy B (some bs)->J p B
def aO0 (F:Fence) (n:Nat) (P:Program) (gf:Nat) (lb:Array Value) (bs:Nat) (Bx:List Nat) (xs:List ByteArray) (w:World):Prop :=
 ∀(l:Nat) (J Jx:List ByteArray->World->Prop) (W:World),BB w W->Abb bs J->Abb bs Jx ->
  (∀p x W1,J p W1->p++[x] <+: xs->YieldAt F (n-1) P l #[.string x] W1 fun e W' =>
    (e=.returned (.bool true)/\J (p++[x]) W'/\∀k∈Bx,W'.heap[k]?=W1.heap[k]?)\/(e=.returned (.bool false)/\Jx (p++[x]) W')) ->
  J [] W ->
  CallsIn F n P gf (#[.func (.yield l) #[] #[]]++lb) W fun e W'=>(∃v,e=.returned v)/\(J xs W'\/∃p,Jx p W')
def boxPost (Bx:List Nat) (I Ix:List ByteArray->World->Prop) (p:List ByteArray) (W:World):Exit->Act->World->Prop
 | .normal,_,W'=>KeepsOthers W W'/\(∀k∈Bx,W'.heap[k]?=W.heap[k]?)/\I p W'
 | .ret,_,W'=>KeepsOthers W W'/\Ix p W'
 | _,_,_=>False
def AbFrom (bs B:Nat) (I:List ByteArray->World->Prop):Prop :=
 ∀p X Y row,I p X->X.grownBy Y row->(∀r,row=some r->r=bs\/(B<=r/\∃o:Obj,X.heap[r]?=some o/\o.isCells=false))->I p Y
theorem AbFrom.put {bs B:Nat} {I:List ByteArray->World->Prop} (h:AbFrom bs B I) {p:List ByteArray} {W:World} {l:Nat} {o:Obj} (o':Obj) (hs:I p W) (hB:B<=l) (hl:W.heap[l]?=some o) (ho:o.isCells=false):I p (W.putObj l o') :=
 h p W _ (some l) hs (grownBy_putObj' W l o') fun r e=>by cases e;exact .inr ⟨hB,o,hl,ho⟩
theorem aM4 {F:Fence} (hF:∀f,F.fn f) (hro:F.round=none) {n:Nat} {P:Program} {g:Operand} {ps:Array Tmp} {assign body:Code} {Q:Exit->Act->World->Prop} {a:Act} {w:World} (h1:1<=n) {gf:Nat} {lb:Array Value}
 (hg:a.eval g=.func (.func gf) #[] lb) (eg:∀args w,(callFunc gf args).run P w=.ok (.enter gf args) w) (hps:ps.size=1)
 {bs:Nat} {Bx:List Nat} {xs:List ByteArray} {w0:World} (hseq:aO0 F (n-1) P gf lb bs Bx xs w0) (hb0:BB w0 w) (hbs:bs<w.heap.size) (hBx:∀k∈Bx,k<w.heap.size)
 (I Ix:List ByteArray->World->Prop) (hI:AbFrom bs w.heap.size I) (hIx:AbFrom bs w.heap.size Ix) (h0:I [] w) (a₁:ByteArray->Act)
 (hassign:∀(l:Nat) (x:ByteArray) (W:World) (K:Act->World->Prop),K (a₁ x) W ->
   assign.wpIn (F.inRound l) (n-1-1) P (Exit.then K (fun _ _ _=>False)) { tmps:=(ps.zip #[Value.string x]).foldl (fun t (p,v)=>t.setIfInBounds p v) a.tmps,defers:=[] } W)
 (hbody:∀(l:Nat) (p:List ByteArray) (x:ByteArray) (W:World),I p W->p++[x] <+: xs->body.wpIn (F.inRound l) (n-1-1) P (boxPost Bx I Ix (p++[x]) W) (a₁ x) W)
 (hdone:∀(D:Nat) (W:World),w.heap.size<=D->I xs W->W.heap[D]?=some (.deferred (some []))->Q .normal { a with defers:={ target:=.collected D,args:=#[] } :: a.defers } W)
 (hstop:∀(D:Nat) (p:List ByteArray) (W:World),w.heap.size<=D->Ix p W->W.heap[D]?=some (.deferred (some []))->Code.ret.wpIn F n P Q { a with defers:={ target:=.collected D,args:=#[] } :: a.defers } W) :
 (Code.rangeFunc g ps assign body).wpIn F n P Q a w:=by
 refine wpIn_rangeFunc fun fn _=>?_;rw[hro];obtain⟨D,hD⟩:=ez w.heap.size
 obtain⟨rc,hrc⟩:∃rc:LoopState->Option Code->Loop,rc=fun st pe=>{ state:=st,pending:=pe,fn,tmps:=a.tmps,params:=ps,assign,body,defers:=w.heap.size }:=⟨_,rfl⟩
 obtain⟨V,hV⟩:=ez ((w.alloc (.deferred (some []))).alloc (.loop (rc .ready none)))
 have vL:V.heap[D+1]?=some (.loop (rc .ready none)):=by
  have h:=World.alloc_heap_new (w.alloc (.deferred (some []))) (.loop (rc .ready none));rw[World.size_alloc,<-hV,<-hD] at h;exact h
 have vD:V.heap[D]?=some (.deferred (some [])):=by
  rw[hV,hD];exact(Below.heap_alloc _ _ _ gd).trans (World.alloc_heap_new w _)
 have vb:BB w V:=by rw[hV];exact((bR w).alloc lr _).alloc gd _
 have vI:I [] V:=hI [] w V none h0 ⟨vb.os,vb.tape,vb.output,vb.size,fun k hk _=>vb.block k hk⟩ fun r e=>by cases e
 -- book-keeping: the loop's record and the block for deferred calls stay
 have keep:∀{X Y:World} {k:Nat} {o:Obj},X.grownBy Y (some bs)->w.heap.size<=k->X.heap[k]?=some o->Y.heap[k]?=some o:=fun hgr hk hx =>
  (hgr.block _ (Array.getElem?_eq_some_iff.1 hx).1 (fun e=>by cases e;omega)).trans hx
 refine⟨D+1,[{ target:=.collected D,args:=#[] }],V,{ target:=.fn (.func gf) lb,args:=#[.func (.yield (D+1)) #[] #[]] },V,gf,#[.func (.yield (D+1)) #[] #[]]++lb,V,?_,?_,fun f _=>hF f,?_,fun _=>h1,?_⟩
 ·rw[hV,hrc,hD];exact run_enterLoop_outer _ _ _ _ _
 ·simp only[resolve,hg];simp[go_sem]
 ·simp[invoke,go_sem,eg]
 refine(hseq (D+1)
  (fun p W=>I p W/\W.heap[D+1]?=some (.loop (rc .ready none))/\W.heap[D]?=some (.deferred (some [])))
  (fun p W=>Ix p W/\W.heap[D+1]?=some (.loop (rc .done (some .ret)))/\W.heap[D]?=some (.deferred (some [])))
  V (hb0.trans (vb.mono hb0.size))
  (fun p X Y hs hgr=>⟨hI p X Y _ hs.1 hgr (fun r e=>by cases e;exact .inl rfl),keep hgr ga hs.2.1,keep hgr ga hs.2.2⟩)
  (fun p X Y hs hgr=>⟨hIx p X Y _ hs.1 hgr (fun r e=>by cases e;exact .inl rfl),keep hgr ga hs.2.1,keep hgr ga hs.2.2⟩)
  ?_ ⟨vI,vL,vD⟩).mono ?_
 ·rintro p x W ⟨wI,wL,wD⟩ hpx;have hy:=run_yield (P:=P) (args:=#[.string x]) wL (by rw[hrc];simp[hps]);rw[hrc] at hy;have hbr:=run_beginRound (P:=P) wL (by rw[hrc]);refine⟨fn,_,assign,body,hy,roundIn_of_wpIn (F:=F) (hF fn) (hassign _ x W _ ⟨_,hbr,?_⟩)⟩;obtain⟨U,hU⟩:=ez (W.putObj (D+1) (.loop { rc .ready none with state:=.busy }))
  have uL:U.heap[D+1]?=some (.loop { rc .ready none with state:=.busy }):=by rw[hU];exact World.putObj_heap_same (Array.getElem?_eq_some_iff.1 wL).1
  have uD:U.heap[D]?=some (.deferred (some [])):=by rw[hU];exact(World.putObj_heap_other ga).trans wD
  have uI:I p U:=by rw[hU];exact hI.put _ wI ga wL rfl
  have uB:∀k∈Bx,U.heap[k]?=W.heap[k]?:=fun k hk=>by rw[hU];exact World.putObj_heap_other (by have:=hBx k hk;omega)
  rw[<-hU];refine wpIn_mono (hbody _ p x _ uI hpx) ?_
  -- the round's end
  have fin:∀(jump:Option Code) (Z:World),KeepsOthers U Z->∃Z',(Instr.endRound (D+1) jump).run P Z=.ok (.bool jump.isNone) Z'/\Z'=Z.putObj (D+1) (.loop (rc (if jump.isNone then .ready else .done) jump)) /\
   Z.heap[D+1]?=some (.loop { rc .ready none with state:=.busy })/\Z'.heap[D+1]?=some (.loop (rc (if jump.isNone then .ready else .done) jump))/\Z'.heap[D]?=some (.deferred (some [])):=fun jump Z hk=>by
   have zL:=hk.same _ _ uL rfl;have zD:=hk.same _ _ uD rfl;have hr:=run_endRound (P:=P) jump zL;rw[hrc] at hr ⊢;exact⟨_,hr,rfl,by rw[hrc] at zL;exact zL,World.putObj_heap_same (Array.getElem?_eq_some_iff.1 zL).1,(World.putObj_heap_other ga).trans zD⟩
  rintro e a3 Z hp;cases e with
  | normal =>
    obtain⟨hk,hbx,zI⟩:=hp;obtain⟨Z',hr,hZ,zL,zL',zD'⟩:=fin none Z hk;refine⟨_,_,hr,.inl ⟨rfl,⟨by rw[hZ];exact hI.put _ zI ga zL rfl,zL',zD'⟩,fun k hkx=>?_⟩⟩;rw[hZ];exact(World.putObj_heap_other (by have:=hBx k hkx;omega)).trans ((hbx k hkx).trans (uB k hkx))
  | ret =>
    obtain⟨hk,zI⟩:=hp;obtain⟨Z',hr,hZ,zL,zL',zD'⟩:=fin (some .ret) Z hk;exact⟨_,_,hr,.inr ⟨rfl,by rw[hZ];exact hIx.put _ zI ga zL rfl,zL',zD'⟩⟩
  | exit id=>exact hp.elim
  | goto t=>exact hp.elim
  | panic ch=>exact hp.elim
  | outgrown=>exact hp.elim
 ·rintro e W ⟨⟨v,rfl⟩,(⟨wI,wL,wD⟩ | ⟨p,wI,wL,wD⟩)⟩
  ·have hr:=run_endLoop (P:=P) wL (by rw[hrc];simp);have hr':(Instr.endLoop (D+1)).run P W=.ok none (W.putObj (D+1) (.loop { rc .ready none with state:=.exhausted })):=by rw[hr,hrc]
   exact⟨none,_,hr',hdone D _ ga (hI.put _ wI ga wL rfl) ((World.putObj_heap_other ga).trans wD)⟩
  ·have hr:=run_endLoop (P:=P) wL (by rw[hrc];simp);have hr':(Instr.endLoop (D+1)).run P W=.ok (some .ret) (W.putObj (D+1) (.loop { rc .done (some .ret) with state:=.exhausted })):=by rw[hr,hrc]
   exact⟨some .ret,_,hr',hstop D p _ ga (hIx.put _ wI ga wL rfl) ((World.putObj_heap_other ga).trans wD)⟩
end
section
open Go Go.RowKit Go.Shelf
attribute [local go_sem] Oper.semAt_some
def fD (c:UInt8) (s:ByteArray):List ByteArray:=(spl c s.data.toList).map fun l=>⟨l.toArray⟩
theorem xM (x:ByteArray):x.data.toList.length=x.size:=by rw[ByteArray.size,Array.length_toList]
theorem rJ {c:UInt8} {x:ByteArray} (h:spl c x.data.toList=[x.data.toList]):fD c x=[x]:=by
 unfold fD;rw[h];rfl
theorem aCw {c:UInt8} {x:ByteArray} {i:Nat} (h:spl c x.data.toList=x.data.toList.take i :: spl c (x.data.toList.drop (i+1))):fD c x=x.extract 0 i :: fD c (x.extract (i+1) x.size):=by
 unfold fD;rw[h,List.map_cons];congr 1
 ·apply ByteArray.ext;apply Array.ext';exact(Lib.extract_from_zero x i).symm
 ·rw[Lib.extract_to_end]
theorem yL (c:UInt8) (s x:ByteArray) (h:x∈fD c s):x.size<=s.size:=by
 unfold fD at h;rw[List.mem_map] at h;obtain⟨l,hl,rfl⟩:=h;have:=(yJ c _ l hl).2;rw[xM] at this;exact this
theorem oY (c:UInt8) (s:ByteArray):(fD c s).length<=s.size+1:=by
 unfold fD;rw[List.length_map];have:=yK c s.data.toList;rw[xM] at this;exact this
def eP (bs:Nat) (w:World):Nat:=match w.cell? ⟨bs,0,none⟩ with
 | some (.string x)=>x.size
 | _=>0
theorem aY {w:World} {b:Nat} {v:Value} {t:TypeId} (h:w.heap[b]?=some (.cells #[v] t (0,0))):w.cell? ⟨b,0,none⟩=some v/\w.frozen? ⟨b,0,none⟩=false:=by
 constructor<;>simp[World.cell?,World.frozen?,h]
theorem splitIt (F:Fence) (hF:∀f,F.fn f) (hro:F.round=none) (n:Nat) (h1:1<=n) (l bs bp bv:Nat) (hbp:bs≠bp) (hbv:bs≠bv) (c:UInt8) (sp s:ByteArray) (hsp:sp.size=1) (hs:s.size<=1000000)
 (hix:∀(x:ByteArray) (w:World),CallsIn F (n-1) Tryz.prog 307 #[.string x,.string sp] w fun e w'=>e=.returned (I6 (Lib.index x.data.toList [c]))/\w'=w)
 (J Jx:List ByteArray->World->Prop) (hJ:Abb bs J)
 (hY:∀p x W1,J p W1->p++[x] <+: fD c s->YieldAt F (n-1) Tryz.prog l #[.string x] W1 fun e W' =>
   (e=.returned (.bool true)/\J (p++[x]) W'/\∀k∈[bs,bp,bv],W'.heap[k]?=W1.heap[k]?)\/(e=.returned (.bool false)/\Jx (p++[x]) W'))
 (W:World) (hS:W.heap[bs]?=some (.cells #[.string s] 9 (0,0))) (hP:W.heap[bp]?=some (.cells #[.string sp] 9 (0,0))) (hV:W.heap[bv]?=some (.cells #[I6 0] 3 (0,0))) (h0:J [] W) :
 CallsIn F n Tryz.prog 342 #[.func (.yield l) #[] #[],.pointer (some ⟨bp,0,none⟩),.pointer (some ⟨bs,0,none⟩),.pointer (some ⟨bv,0,none⟩)] W fun e W'=>(∃v,e=.returned v)/\(J (fD c s) W'\/∃p,Jx p W'):=by
 have HIX:=hid hix;have HY:=hid hY;have HJ:=hid hJ;have c1:=(aY hP).1;have hz:((sp.size:Int)==0)=false:=by rw[hsp];rfl
 have HSP:=hid hsp;have HPV:=hid (And.intro hP hV);have HS0:=hid hS;have H0:=hid h0;clear hix hY hJ hP hV hS h0 hsp;refine callsIn_of_wp Tryz.func342 rfl (hF _) ?_ hro;simp only[Tryz.ntmps342,List.size_toArray,List.length_cons,List.length_nil,Nat.reduceAdd,Nat.reduceSub,Array.replicate_succ,Array.replicate_zero,List.push_toArray,List.append_toArray,List.nil_append,List.cons_append]
 gi_wp2
 gi_loopw [] (fun wr=>∃(p:List ByteArray) (x:ByteArray),wr.heap[bs]?=some (.cells #[.string x] 9 (0,0))/\wr.heap[bp]?=some (.cells #[.string sp] 9 (0,0))/\wr.heap[bv]?=some (.cells #[I6 0] 3 (0,0))/\p++fD c x=fD c s/\x.size<=s.size/\J p wr)
  (fun wr=>eP bs wr)
 case atStart=>exact⟨[],s,HS0.out,HPV.out.1,HPV.out.2,rfl,Nat.le_refl _,H0.out⟩
 case round =>
  clear c1;obtain⟨p,x,hS,hP,hV,hx,hxs,hJp⟩:=hrel;obtain⟨c0,f0⟩:=aY hS;have c1:=(aY hP).1;have c2:=(aY hV).1;have HX:=hid hx;have HXS:=hid hxs;have HSx:=hid hS;have HPx:=hid (And.intro hP hV);have HJp:=hid hJp;clear hx hS hP hV hJp;rcases rI c x.data.toList with ⟨k1,k2⟩ | ⟨i,k1,k2,k3⟩
  ·have hIX:=HIX.out x wr;rw[k1] at hIX;have HI:=hid hIX;have he:p++[x]=fD c s:=by rw[<-HX.out,rJ k2]
   obtain⟨fn,tmps,assign,body,hy,hR⟩:=HY.out p x wr HJp.out (by rw[he];exact List.prefix_refl _);have HR:=hid hR;have HE:=hid he;clear hIX k1 k2 hR he
   gi_wp2_with (gi_at_call 307;refine HI.out.mono ?_;rintro e w2 ⟨rfl,hw⟩;obtain rfl:=hw)
   refine HR.out.mono ?_;rintro e W3 (⟨rfl,hJ3,_⟩ | ⟨rfl,hJx3⟩)
   ·gi_wp2
    go_end0
    exact⟨⟨_,rfl⟩,.inl (by rw[<-HE.out];exact hJ3)⟩
   ·gi_wp2
    go_end0
    exact⟨⟨_,rfl⟩,.inr ⟨_,hJx3⟩⟩
  ·have hIX:=HIX.out x wr;rw[k1] at hIX;have HI:=hid hIX;have hh:=aCw k3;have he:(p++[x.extract 0 i])++fD c (x.extract (i+1) x.size)=fD c s:=by rw[<-HX.out,hh];simp
   have hix:i<x.size:=by rw[xM] at k2;exact k2
   obtain⟨fn,tmps,assign,body,hy,hR⟩:=HY.out p (x.extract 0 i) wr HJp.out ⟨_,he⟩;have HR:=hid hR;have HE:=hid he;have b1:¬ ((i:Int)<0):=by omega
   have b2:(i:Int)<=(x.size:Int):=by omega
   have b3:(i:Int)+1<=(x.size:Int):=by omega
   have b4:wrap64 (i:Int)=(i:Int):=by unfold wrap64;omega
   have b5:wrap64 ((i:Int)+(sp.size:Int))=(i:Int)+1:=by rw[HSP.out];unfold wrap64;omega
   have b6:((i:Int)).toNat=i:=rfl;have HK:=hid hix;clear hIX k1 k2 k3 hR he hh hix hxs
   gi_wp2_with (gi_at_call 307;refine HI.out.mono ?_;rintro e w2 ⟨rfl,hw⟩;obtain rfl:=hw)
   refine HR.out.mono ?_;rintro e W3 (⟨rfl,hJ3,hk3⟩ | ⟨rfl,hJx3⟩)
   ·have hS3:=(hk3 bs gd).trans HSx.out;have hP3:=(hk3 bp gd).trans HPx.out.1;have hV3:=(hk3 bv gd).trans HPx.out.2;obtain⟨d0,g0⟩:=aY hS3;have d1:=(aY hP3).1;have HS3:=hid hS3;have HP3:=hid hP3;have HV3:=hid hV3;have HJ3:=hid hJ3;clear hS3 hP3 hV3 hJ3 hk3 c0 f0 c1 c2
    gi_wp2
    have hb:x.extract (i+1) x.size=x.extract ((i:Int)+1).toNat x.size:=by rw[show((i:Int)+1).toNat=i+1 by omega]
    go_roundw
    case rel =>
     refine⟨p++[x.extract 0 i],x.extract (i+1) x.size,?_,?_,?_,HE.out,?_,?_⟩
     ·rw[hb];exact Boxed.set (W:=W3) (B:=bs) (t:=9) (v:=.string x) _ HS3.out
     ·exact(Below.heap_setCell W3 ⟨bs,0,none⟩ _ bp (fun e=>hbp e.symm)).trans HP3.out
     ·exact(Below.heap_setCell W3 ⟨bs,0,none⟩ _ bv (fun e=>hbv e.symm)).trans HV3.out
     ·rw[ByteArray.size_extract];have:=HXS.out;omega
     ·exact HJ.out _ _ _ HJ3.out (grownBy_setCell' W3 bs _)
    case measure =>
     have e1:eP bs w2=x.size:=by unfold eP;rw[(aY HSx.out).1]
     have e2:∀y:ByteArray,eP bs (W3.setCell ⟨bs,0,none⟩ (.string y))=y.size:=fun y=>by
      unfold eP;rw[(aY (Boxed.set (W:=W3) (B:=bs) (t:=9) (v:=.string x) (.string y) HS3.out)).1]
     rw[e2,e1,ByteArray.size_extract];have:=HK.out;omega
   ·gi_wp2
    refine bodyPost_ret (results_none rfl _ _ _) rfl ?_;exact⟨⟨_,rfl⟩,.inr ⟨_,hJx3⟩⟩
theorem tW (s sp:ByteArray) (w:World):CP 308 #[.string s,.string sp,I6 0] w fun e w' =>
 e=.returned (.func (.func 342) #[] #[.pointer (some ⟨w.heap.size+1,0,none⟩),.pointer (some ⟨w.heap.size,0,none⟩),.pointer (some ⟨w.heap.size+2,0,none⟩)]) /\
 w'=((w.alloc (.cells #[.string s] 9)).alloc (.cells #[.string sp] 9)).alloc (.cells #[I6 0] 3):=by
 go_enter Tryz.func308,Tryz.ntmps308
 go_wp2;go_ret;exact⟨rfl,rfl⟩
theorem xB (s sp:ByteArray) (w:World):CP 241 #[.string s,.string sp] w fun e w' =>
 e=.returned (.func (.func 342) #[] #[.pointer (some ⟨w.heap.size+1,0,none⟩),.pointer (some ⟨w.heap.size,0,none⟩),.pointer (some ⟨w.heap.size+2,0,none⟩)]) /\
 w'=((w.alloc (.cells #[.string s] 9)).alloc (.cells #[.string sp] 9)).alloc (.cells #[I6 0] 3):=by
 go_enter Tryz.func241,Tryz.ntmps241
 go_wp2_with (go_at_call 308;refine(tW _ _ _).mono ?_;rintro e w2 ⟨rfl,rfl⟩)
 go_ret;exact⟨rfl,rfl⟩
theorem aAx (F:Fence) (hFe:F=Fence.wide) (c:UInt8) (n:Nat) (h1:1<=n) (s:ByteArray) (hs:s.size<=1000000) (bs:Nat) (w0:World)
 (hS:w0.heap[bs]?=some (.cells #[.string s] 9 (0,0))) (hP:w0.heap[bs+1]?=some (.cells #[.string ⟨#[c]⟩] 9 (0,0))) (hV:w0.heap[bs+2]?=some (.cells #[I6 0] 3 (0,0))) :
 aO0 F n Tryz.prog 342 #[.pointer (some ⟨bs+1,0,none⟩),.pointer (some ⟨bs,0,none⟩),.pointer (some ⟨bs+2,0,none⟩)] bs [bs,bs+1,bs+2] (fD c s) w0:=by
 subst hFe;intro l J Jx W hW hJ hJx hY h0;have up:∀{k:Nat} {o:Obj},w0.heap[k]?=some o->W.heap[k]?=some o:=fun h=>(hW.block _ (Array.getElem?_eq_some_iff.1 h).1).trans h;refine splitIt Fence.wide (fun _=>trivial) rfl n h1 l bs (bs+1) (bs+2) ga ga c ⟨#[c]⟩ s rfl hs (fun x w=>callsIn_wide.2 ((Tryz.strings_Index1 x c w).mono ?_)) J Jx hJ hY W (up hS) (up hP) (up hV) h0;rintro e w' ⟨rfl,rfl⟩;exact⟨by rw[Lib.index_one],rfl⟩
end
end Go.Proofs.YtmgpghoamapfgaaGreatDoor
