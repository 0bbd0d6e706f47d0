/- A part. -/
import Derived.Test.YtmgpghoamapfgaaGreatDoorST29Mrg
namespace Go.Proofs.YtmgpghoamapfgaaGreatDoor
set_option linter.unusedVariables false
set_option linter.unusedSimpArgs false
section
open Go Go.RowKit
section
variable {P:Program} {ops:Array Oper} {Q:Exit->Act->World->Prop} {md:Region.Mode} {S:World->Prop}
def SL (st:Nat) (S:World->Prop) (L:Array Bool) (w:World):Prop:=L.getD st true=false->S w
def gC (P:Program) (md:Region.Mode) (ops:Array Oper) (Q:Exit->Act->World->Prop) (st:Nat) (S:World->Prop):Nat->Array Bool->Act->World->Prop
 | 0,listed,a,w=>Region.ready md ops listed=[]/\Q .normal a w
 | fuel+1,listed,a,w =>
   (Region.ready md ops listed=[]->Q .normal a w) /\
   ∀i∈Region.ready md ops listed,wpOp P ops Q i (fun a' w'=>SL st S (listed.setIfInBounds i true) w'/\gC P md ops Q st S fuel (listed.setIfInBounds i true) a' w') a w
theorem oU {st:Nat}:∀(fuel:Nat) (listed:Array Bool) (a:Act) (w:World),gC P md ops Q st S fuel listed a w->wpAny P md ops Q fuel listed a w
 | 0,_,_,_,h=>h
 | fuel+1,_,_,_,h=>⟨h.1,fun i hi=>wpOp_mono (fun a' w' h'=>oU fuel _ a' w' h'.2) (h.2 i hi)⟩
theorem aHu {st i:Nat} (hi:i≠st) (L:Array Bool) (w:World):SL st S (L.setIfInBounds i true) w=SL st S L w:=by
 unfold SL;have e:(L.setIfInBounds i true).getD st true=L.getD st true:=by
  simp only[Array.getD_eq_getD_getElem?,Array.getElem?_setIfInBounds];rw[if_neg hi]
 rw[e]
theorem pO {st i:Nat} {oi:Oper} {v:Value} {Y:World->Prop} {Inv:Array Bool->Prop} (hist:i≠st) (hi:ops[i]?=some oi) (hsel:∀(j:Nat) (o:Oper) cs b,ops[j]?=some o->o.op≠.select cs b)
 (hQ:∀c a w,Q (.panic c) (a.put oi.dst v) w->Q (.panic c) a w)
 (hY:∀L w,Inv L->SL st S L w->Y w) (hInv:∀L j,Inv L->L.getD i true=false->j∈Region.ready md ops L->j≠i->Inv (L.setIfInBounds j true)) :
 ∀(fuel:Nat) (listed:Array Bool) (a:Act) (w:World),Inv listed ->
  (∀j oj,ops[j]?=some oj->j≠i->listed.getD j true=false->(∀e∈oj.after,Region.binds md e=true->e.on≠i)->oi.apart ops oj=true) ->
  i∈Region.ready md ops listed->YieldsIf P ops Y oi v a->SL st S listed w ->
  gC P md ops Q st S fuel (listed.setIfInBounds i true) (a.put oi.dst v) w->gC P md ops Q st S (fuel+1) listed a w:=by
 intro fuel
 induction fuel with
 | zero =>
   intro listed a w hI _ hr hy hS H;refine⟨fun h=>(by rw[h] at hr;cases hr),fun j hj=>?_⟩;by_cases hji:j=i
   ·subst hji;exact hy.wpOp hi (hY _ _ hI hS) ⟨by rw[aHu hist];exact hS,H⟩
   ·have:=ready_mono hj hji;rw[H.1] at this;cases this
 | succ fuel ih =>
   intro listed a w hI hfree hr hy hS H;refine⟨fun h=>(by rw[h] at hr;cases hr),fun j hj=>?_⟩;by_cases hji:j=i
   ·subst hji;exact hy.wpOp hi (hY _ _ hI hS) ⟨by rw[aHu hist];exact hS,H⟩
   ·have h1:=H.2 j (ready_mono hj hji);obtain⟨hjun,oj,hoj,hall⟩:=mem_ready.1 hj;have hnot:∀e∈oj.after,Region.binds md e=true->e.on≠i:=fun e he hb heq=>by
     have h1:=hall e he hb;have h0:=(mem_ready.1 hr).1;rw[heq] at h1;rcases Nat.lt_or_ge i listed.size with h' | h'
     ·simp[h'] at h0 h1;rw[h0] at h1;cases h1
     ·simp[Array.getElem?_eq_none h'] at h1
    have h2:=wpOp_putIf hoj (hfree j oj hoj hji hjun hnot) (fun cs b=>hsel i oi cs b hi) (fun cs b=>hsel j oj cs b hoj) hQ hy h1;have hfree':∀k ok,ops[k]?=some ok->k≠i->(listed.setIfInBounds j true).getD k true=false ->
     (∀e∈ok.after,Region.binds md e=true->e.on≠i)->oi.apart ops ok=true:=fun k ok hk hki hun hno=>by
     refine hfree k ok hk hki ?_ hno;by_cases hjk:j=k
     ·subst hjk;exact hjun
     ·rw[getD_set_ne true hjk] at hun;exact hun
    have hI':Inv (listed.setIfInBounds j true):=hInv listed j hI (mem_ready.1 hr).1 hj hji;refine wpOp_mono (fun a' w' h3=>?_) h2;have hS':SL st S (listed.setIfInBounds j true) w':=by
     have:=h3.2.1;rw[Array.setIfInBounds_comm _ _ (Ne.symm hji),aHu hist] at this;exact this
    refine⟨hS',ih (listed.setIfInBounds j true) a' w' hI' hfree' (ready_mono hr (Ne.symm hji)) h3.1 hS' ?_⟩;rw[Array.setIfInBounds_comm _ _ hji];exact h3.2.2
theorem bO {st i:Nat} {oi:Oper} {v:Value} {fuel:Nat} {listed:Array Bool} {a:Act} {w:World} (hi:ops[i]?=some oi) (hist:decide (i≠st)=true)
 (hs:Region.noSelect ops=true) (hf:Region.free md ops listed i=true) (hr:(Region.ready md ops listed).contains i=true)
 (hQ:∀c a w,Q (.panic c) (a.put oi.dst v) w->Q (.panic c) a w) (hy:YieldsIf P ops (fun _=>True) oi v a) (hS:SL st S listed w)
 (h:gC P md ops Q st S fuel (listed.setIfInBounds i true) (a.put oi.dst v) w):gC P md ops Q st S (fuel+1) listed a w :=
 pO (Inv:=fun _=>True) (of_decide_eq_true hist) hi (Region.noSelect_spec hs) hQ (fun _ _ _ _=>trivial) (fun _ _ _ _ _ _=>trivial) fuel listed a w trivial (Region.free_spec hi hf) (by simpa using hr) hy hS h
def aCo (md:Region.Mode) (ops:Array Oper) (st i:Nat):Bool:=match ops[st]? with
 | none=>false
 | some o=>o.after.any fun e=>Region.binds md e&&e.on==i
theorem kI {st i:Nat} {oi:Oper} {v:Value} {fuel:Nat} {listed:Array Bool} {a:Act} {w:World} (hi:ops[i]?=some oi) (hist:decide (i≠st)=true) (hw:aCo md ops st i=true) (hst:listed.getD st true=false)
 (hs:Region.noSelect ops=true) (hf:Region.free md ops listed i=true) (hr:(Region.ready md ops listed).contains i=true)
 (hQ:∀c a w,Q (.panic c) (a.put oi.dst v) w->Q (.panic c) a w) (hy:YieldsIf P ops S oi v a) (hS:SL st S listed w)
 (h:gC P md ops Q st S fuel (listed.setIfInBounds i true) (a.put oi.dst v) w):gC P md ops Q st S (fuel+1) listed a w:=by
 refine pO (Inv:=fun L=>L.getD st true=false) (of_decide_eq_true hist) hi (Region.noSelect_spec hs) hQ (fun L w hI hSL=>hSL hI) (fun L j hI hun hj hji=>?_) fuel listed a w hst (Region.free_spec hi hf) (by simpa using hr) hy hS h;have hjst:j≠st:=fun e=>by
  subst e;obtain⟨_,o,ho,hall⟩:=mem_ready.1 hj;simp only[aCo,ho,Array.any_eq_true,Bool.and_eq_true,beq_iff_eq] at hw;obtain⟨k,hk,hb,hon⟩:=hw;have h1:=hall _ (Array.getElem_mem hk) hb;rw[hon] at h1;rcases Nat.lt_or_ge i L.size with h' | h'
  ·simp[h'] at hun h1;rw[hun] at h1;cases h1
  ·simp[Array.getElem?_eq_none h'] at h1
 rw[getD_set_ne true hjst];exact hI
theorem oW {st i:Nat} {o:Oper} {fuel:Nat} {listed:Array Bool} {a:Act} {w:World} (hr:Region.ready md ops listed=[i]) (hst:(listed.setIfInBounds i true).getD st true=true) (ho:ops[i]?=some o)
 (h:∀K':Act->World->Prop,Shut (∀a w,gC P md ops Q st S fuel (listed.setIfInBounds i true) a w->K' a w)->if Region.wanted o (yielded ops a.tmps)=true then Oper.wp P o a w K' Q else K' (a.put o.dst undef) w):gC P md ops Q st S (fuel+1) listed a w:=by
 refine⟨fun h0=>absurd (hr▸h0) gd,fun j hj=>?_⟩;rw[hr] at hj;obtain rfl:=List.mem_singleton.1 hj;exact wpOp_step ho (fun K' hK=>h K' (fun a w hW=>hK a w ⟨(fun h1=>by rw[hst] at h1;cases h1),hW⟩))
theorem mR {st:Nat} {listed:Array Bool} {a:Act} {w:World} (hr:Region.ready md ops listed=[]) (h:Q .normal a w):∀fuel,gC P md ops Q st S fuel listed a w
 | 0=>⟨hr,h⟩
 | _+1=>⟨fun _=>h,by rw[hr];simp⟩
end
end
section
open Go Go.RowKit
section
variable {P:Program} {ops:Array Oper} {Q:Exit->Act->World->Prop} {md:Region.Mode} {S:World->Prop}
theorem sA {st i:Nat} {o:Oper} {fuel:Nat} {listed:Array Bool} {a:Act} {w:World} (hr:Region.ready md ops listed=[i]) (ho:ops[i]?=some o)
 (h:∀K':Act->World->Prop,Shut (∀a w,S w->gC P md ops Q st S fuel (listed.setIfInBounds i true) a w->K' a w)->if Region.wanted o (yielded ops a.tmps)=true then Oper.wp P o a w K' Q else K' (a.put o.dst undef) w):gC P md ops Q st S (fuel+1) listed a w:=by
 refine⟨fun h0=>absurd (hr▸h0) gd,fun j hj=>?_⟩;rw[hr] at hj;obtain rfl:=List.mem_singleton.1 hj;exact wpOp_step ho (fun K' hK=>h K' (fun a w hS hW=>hK a w ⟨fun _=>hS,hW⟩))
theorem aCn {st i:Nat} {o os:Oper} {fuel:Nat} {listed:Array Bool} {a:Act} {w:World} (hr:Region.ready md ops listed=[i,st]) (hst:(listed.setIfInBounds st true).getD st true=true) (ho:ops[i]?=some o) (hos:ops[st]?=some os)
 (h1:∀K':Act->World->Prop,Shut (∀a w,S w->gC P md ops Q st S fuel (listed.setIfInBounds i true) a w->K' a w)->if Region.wanted o (yielded ops a.tmps)=true then Oper.wp P o a w K' Q else K' (a.put o.dst undef) w)
 (h2:∀K':Act->World->Prop,Shut (∀a w,gC P md ops Q st S fuel (listed.setIfInBounds st true) a w->K' a w)->if Region.wanted os (yielded ops a.tmps)=true then Oper.wp P os a w K' Q else K' (a.put os.dst undef) w):gC P md ops Q st S (fuel+1) listed a w:=by
 refine⟨fun h0=>absurd (hr▸h0) gd,fun j hj=>?_⟩;rw[hr] at hj;rcases List.mem_cons.1 hj with rfl | hj
 ·exact wpOp_step ho (fun K' hK=>h1 K' (fun a w hS hW=>hK a w ⟨fun _=>hS,hW⟩))
 ·obtain rfl:=List.mem_singleton.1 hj;exact wpOp_step hos (fun K' hK=>h2 K' (fun a w hW=>hK a w ⟨(fun h1=>by rw[hst] at h1;cases h1),hW⟩))
end
theorem aB3 {w:World} {a b:Addr} {u v:Value} (h:a.block≠b.block):(w.setCell a u).setCell b v=(w.setCell b v).setCell a u:=by
 have e:((w.setCell a u).setCell b v).heap=((w.setCell b v).setCell a u).heap:=by
  apply Array.ext_getElem?;intro j;by_cases h1:j=a.block
  ·subst h1;rw[Below.heap_setCell _ _ _ _ h];simp only[World.setCell,Array.getElem?_modify,if_neg (Ne.symm h)]
  ·rw[Below.heap_setCell (w.setCell b v) a _ _ h1];by_cases h2:j=b.block
   ·subst h2;simp only[World.setCell,Array.getElem?_modify,if_neg h]
   ·rw[Below.heap_setCell _ _ _ _ h2,Below.heap_setCell _ _ _ _ h1,Below.heap_setCell _ _ _ _ h2]
 show { w with heap:=_ }={ w with heap:=_ };exact congrArg (fun x=>{ w with heap:=x }) e
theorem iC {X Y:World} {row:Option Nat} {g i:Nat} {u:Value} (h:X.grownBy Y row) (hg:row=some g\/X.heap.size<=g):X.grownBy (Y.setCell ⟨g,i,none⟩ u) row :=
 ⟨h.os,h.tape,h.output,by simpa [World.setCell] using h.size,fun k hk hne=>(Below.heap_setCell _ _ _ _ (by
   rcases hg with rfl | hg
   ·exact fun e=>hne (by rw[e])
   ·dsimp only;omega)).trans (h.block k hk hne)⟩
theorem set6 (l:List Value) (Q:Nat) (hl:l.length=Q) (z0 z1 z2 z3 z4 z5 v0 v1 v2 v3 v4 v5:Value) :
 ((((((l++[z0,z1,z2,z3,z4,z5]).set Q v0).set (Q+1) v1).set (Q+2) v2).set (Q+3) v3).set (Q+4) v4).set (Q+5) v5=l++[v0,v1,v2,v3,v4,v5]:=by
 subst hl;have e:∀(r:List Value) (i:Nat) (v:Value),(l++r).set (l.length+i) v=l++r.set i v:=fun r i v=>by
  rw[List.set_append_right _ _ ga,show l.length+i-l.length=i by omega]
 have e0:∀(r:List Value) (v:Value),(l++r).set l.length v=l++r.set 0 v:=fun r v=>e r 0 v;rw[e0,e,e,e,e,e];rfl
end
section
open Go Go.RowKit
section
variable {P:Program} {ops:Array Oper} {Q:Exit->Act->World->Prop}
theorem aJk {n:Nat} {o:Oper} {a:Act} {w:World} {K:Act->World->Prop} (h:o.wp P a w K Q):o.wpIn Fence.wide n P a w K Q:=by
 refine⟨fun _ _=>trivial,?_⟩;have e:Fence.wide.round=none:=rfl;rw[e,Oper.semAt_none];unfold Oper.wp at h;generalize (execOp a.eval o).run P w=r at h ⊢;cases r with
 | ok x w' =>
   cases x<;>simp only[Oper.upon,Oper.uponIn] at h ⊢ <;> first
    | exact h
    | exact⟨fun h=>gp,callsIn_wide.2 h⟩
    | exact⟨fun h=>gp,fun c cs _=>by
       obtain⟨v,w',r,s⟩:=h c cs;exact⟨v,w',r,stepsIn_wide.2 s⟩⟩
 | halt x w'=>cases x<;>simp only[Oper.upon,Oper.uponIn] at h ⊢ <;> exact h
theorem aIx {n i:Nat} {a:Act} {w:World} {K:Act->World->Prop} (hQ:¬ LetsOut Q) (h:wpOp P ops Q i K a w):wpOpIn Fence.wide n P ops Q i K a w:=by
 unfold wpOp at h;unfold wpOpIn;cases ho:ops[i]? with
 | none=>simpa [ho] using h
 | some o =>
   simp only[ho] at h ⊢;split
   ·rename_i hw;simp only[hw,if_true] at h;rcases h with h | ⟨_,h⟩
    ·exact aJk h
    ·exact absurd h hQ
   ·rename_i hw;simp only[hw] at h;exact⟨fun _ _=>trivial,h⟩
theorem aFi {n:Nat} {md:Region.Mode} (hQ:¬ LetsOut Q):∀(fuel:Nat) (L:Array Bool) (a:Act) (w:World),wpAny P md ops Q fuel L a w->wpAnyIn Fence.wide n P md ops Q fuel L a w:=by
 intro fuel
 induction fuel with
 | zero=>intro L a w h;exact h
 | succ fuel ih=>intro L a w h;exact⟨h.1,fun i hi=>wpOpIn_mono (fun a w h=>ih _ a w h) (aIx hQ (h.2 i hi))⟩
theorem sU {F:Fence} (hFe:F=Fence.wide) {id n:Nat} {a:Act} {w:World} (st:Nat) (A:Act) (W:World) (hm:P.follows .mixedOrders=true)
 (h:gC P .any ops (fun e a' w'=>e=.normal/\a'=A/\w'=W) st (fun w'=>w'=w.drew) ops.size (Array.replicate ops.size false) a w.drew) (hQ:Q .normal A W):(Code.region id ops true).wpIn F n P Q a w:=by
 subst hFe;refine wpIn_mono (wpIn_region_any hm (aFi ?_ _ _ _ _ (oU _ _ _ _ h))) ?_
 ·rintro⟨_,_,h⟩;cases h.1
 ·rintro e a' w' ⟨rfl,rfl,rfl⟩;exact hQ
end
end
end Go.Proofs.YtmgpghoamapfgaaGreatDoor
