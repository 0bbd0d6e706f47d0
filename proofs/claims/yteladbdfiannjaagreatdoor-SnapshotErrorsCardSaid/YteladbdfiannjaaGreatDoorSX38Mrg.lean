/- A part. -/
import Derived.Test.YteladbdfiannjaaGreatDoorSX1Mrg
namespace Go.Proofs.YteladbdfiannjaaGreatDoor
set_option linter.unusedVariables false
set_option linter.unusedSimpArgs false
section
open Go Go.RowKit
section
variable {P:Program} {ops:Array Oper} {Q:Exit→Act→World→Prop} {md:Region.Mode} {S:World→Prop}
def SL (st:Nat) (S:World→Prop) (L:Array Bool) (w:World):Prop:=L.getD st true=false→S w
def fI (P:Program) (md:Region.Mode) (ops:Array Oper) (Q:Exit→Act→World→Prop) (st:Nat) (S:World→Prop):Nat→Array Bool→Act→World→Prop
 | 0,listed,a,w=>Region.ready md ops listed=[]∧Q .normal a w
 | fuel+1,listed,a,w =>
   (Region.ready md ops listed=[]→Q .normal a w) ∧
   ∀i∈Region.ready md ops listed,wpOp P ops Q i (fun a' w'=>SL st S (listed.setIfInBounds i true) w'∧fI P md ops Q st S fuel (listed.setIfInBounds i true) a' w') a w
theorem mT {st:Nat}:∀(fuel:Nat) (listed:Array Bool) (a:Act) (w:World),fI P md ops Q st S fuel listed a w→wpAny P md ops Q fuel listed a w
 | 0,_,_,_,h=>h
 | fuel+1,_,_,_,h=>⟨h.1,fun i hi=>wpOp_mono (fun a' w' h'=>mT fuel _ a' w' h'.2) (h.2 i hi)⟩
theorem yP {st i:Nat} (hi:i≠st) (L:Array Bool) (w:World):SL st S (L.setIfInBounds i true) w=SL st S L w:=by
 unfold SL
 have e:(L.setIfInBounds i true).getD st true=L.getD st true:=by
  simp only[Array.getD_eq_getD_getElem?,Array.getElem?_setIfInBounds]
  rw[if_neg hi]
 rw[e]
theorem kS {st i:Nat} {oi:Oper} {v:Value} {Y:World→Prop} {Inv:Array Bool→Prop} (hist:i≠st) (hi:ops[i]?=some oi) (hsel:∀(j:Nat) (o:Oper) cs b,ops[j]?=some o→o.op≠.select cs b)
 (hQ:∀c a w,Q (.panic c) (a.put oi.dst v) w→Q (.panic c) a w)
 (hY:∀L w,Inv L→SL st S L w→Y w) (hInv:∀L j,Inv L→L.getD i true=false→j∈Region.ready md ops L→j≠i→Inv (L.setIfInBounds j true)) :
 ∀(fuel:Nat) (listed:Array Bool) (a:Act) (w:World),Inv listed →
  (∀j oj,ops[j]?=some oj→j≠i→listed.getD j true=false→(∀e∈oj.after,Region.binds md e=true→e.on≠i)→oi.apart ops oj=true) →
  i∈Region.ready md ops listed→YieldsIf P ops Y oi v a→SL st S listed w →
  fI P md ops Q st S fuel (listed.setIfInBounds i true) (a.put oi.dst v) w→fI P md ops Q st S (fuel+1) listed a w:=by
 intro fuel
 induction fuel with
 | zero =>
   intro listed a w hI _ hr hy hS H
   refine⟨fun h=>(by rw[h] at hr;cases hr),fun j hj=>?_⟩
   by_cases hji:j=i
   ·subst hji;exact hy.wpOp hi (hY _ _ hI hS) ⟨by rw[yP hist];exact hS,H⟩
   ·have:=ready_mono hj hji
    rw[H.1] at this
    cases this
 | succ fuel ih =>
   intro listed a w hI hfree hr hy hS H
   refine⟨fun h=>(by rw[h] at hr;cases hr),fun j hj=>?_⟩
   by_cases hji:j=i
   ·subst hji;exact hy.wpOp hi (hY _ _ hI hS) ⟨by rw[yP hist];exact hS,H⟩
   ·have h1:=H.2 j (ready_mono hj hji)
    obtain⟨hjun,oj,hoj,hall⟩:=mem_ready.1 hj
    have hnot:∀e∈oj.after,Region.binds md e=true→e.on≠i:=fun e he hb heq=>by
     have h1:=hall e he hb
     have h0:=(mem_ready.1 hr).1
     rw[heq] at h1
     rcases Nat.lt_or_ge i listed.size with h' | h'
     ·simp[h'] at h0 h1;rw[h0] at h1;cases h1
     ·simp[Array.getElem?_eq_none h'] at h1
    have h2:=wpOp_putIf hoj (hfree j oj hoj hji hjun hnot) (fun cs b=>hsel i oi cs b hi) (fun cs b=>hsel j oj cs b hoj) hQ hy h1
    have hfree':∀k ok,ops[k]?=some ok→k≠i→(listed.setIfInBounds j true).getD k true=false →
     (∀e∈ok.after,Region.binds md e=true→e.on≠i)→oi.apart ops ok=true:=fun k ok hk hki hun hno=>by
     refine hfree k ok hk hki ?_ hno
     by_cases hjk:j=k
     ·subst hjk;exact hjun
     ·rw[getD_set_ne true hjk] at hun;exact hun
    have hI':Inv (listed.setIfInBounds j true):=hInv listed j hI (mem_ready.1 hr).1 hj hji
    refine wpOp_mono (fun a' w' h3=>?_) h2
    have hS':SL st S (listed.setIfInBounds j true) w':=by
     have:=h3.2.1
     rw[Array.setIfInBounds_comm _ _ (Ne.symm hji),yP hist] at this
     exact this
    refine⟨hS',ih (listed.setIfInBounds j true) a' w' hI' hfree' (ready_mono hr (Ne.symm hji)) h3.1 hS' ?_⟩
    rw[Array.setIfInBounds_comm _ _ hji]
    exact h3.2.2
theorem aK {st i:Nat} {oi:Oper} {v:Value} {fuel:Nat} {listed:Array Bool} {a:Act} {w:World} (hi:ops[i]?=some oi) (hist:decide (i≠st)=true)
 (hs:Region.noSelect ops=true) (hf:Region.free md ops listed i=true) (hr:(Region.ready md ops listed).contains i=true)
 (hQ:∀c a w,Q (.panic c) (a.put oi.dst v) w→Q (.panic c) a w) (hy:YieldsIf P ops (fun _=>True) oi v a) (hS:SL st S listed w)
 (h:fI P md ops Q st S fuel (listed.setIfInBounds i true) (a.put oi.dst v) w):fI P md ops Q st S (fuel+1) listed a w :=
 kS (Inv:=fun _=>True) (of_decide_eq_true hist) hi (Region.noSelect_spec hs) hQ (fun _ _ _ _=>trivial) (fun _ _ _ _ _ _=>trivial) fuel listed a w trivial (Region.free_spec hi hf) (by simpa using hr) hy hS h
def tG (md:Region.Mode) (ops:Array Oper) (st i:Nat):Bool:=match ops[st]? with
 | none=>false
 | some o=>o.after.any fun e=>Region.binds md e&&e.on==i
theorem bX {st i:Nat} {oi:Oper} {v:Value} {fuel:Nat} {listed:Array Bool} {a:Act} {w:World} (hi:ops[i]?=some oi) (hist:decide (i≠st)=true) (hw:tG md ops st i=true) (hst:listed.getD st true=false)
 (hs:Region.noSelect ops=true) (hf:Region.free md ops listed i=true) (hr:(Region.ready md ops listed).contains i=true)
 (hQ:∀c a w,Q (.panic c) (a.put oi.dst v) w→Q (.panic c) a w) (hy:YieldsIf P ops S oi v a) (hS:SL st S listed w)
 (h:fI P md ops Q st S fuel (listed.setIfInBounds i true) (a.put oi.dst v) w):fI P md ops Q st S (fuel+1) listed a w:=by
 refine kS (Inv:=fun L=>L.getD st true=false) (of_decide_eq_true hist) hi (Region.noSelect_spec hs) hQ (fun L w hI hSL=>hSL hI) (fun L j hI hun hj hji=>?_) fuel listed a w hst (Region.free_spec hi hf) (by simpa using hr) hy hS h
 have hjst:j≠st:=fun e=>by
  subst e
  obtain⟨_,o,ho,hall⟩:=mem_ready.1 hj
  simp only[tG,ho,Array.any_eq_true,Bool.and_eq_true,beq_iff_eq] at hw
  obtain⟨k,hk,hb,hon⟩:=hw
  have h1:=hall _ (Array.getElem_mem hk) hb
  rw[hon] at h1
  rcases Nat.lt_or_ge i L.size with h' | h'
  ·simp[h'] at hun h1;rw[hun] at h1;cases h1
  ·simp[Array.getElem?_eq_none h'] at h1
 rw[getD_set_ne true hjst]
 exact hI
theorem aN {st i:Nat} {o:Oper} {fuel:Nat} {listed:Array Bool} {a:Act} {w:World} (hr:Region.ready md ops listed=[i]) (hst:(listed.setIfInBounds i true).getD st true=true) (ho:ops[i]?=some o)
 (h:∀K':Act→World→Prop,Shut (∀a w,fI P md ops Q st S fuel (listed.setIfInBounds i true) a w→K' a w)→if Region.wanted o (yielded ops a.tmps)=true then Oper.wp P o a w K' Q else K' (a.put o.dst undef) w):fI P md ops Q st S (fuel+1) listed a w:=by
 refine⟨fun h0=>absurd (hr▸h0) (by simp),fun j hj=>?_⟩
 rw[hr] at hj
 obtain rfl:=List.mem_singleton.1 hj
 exact wpOp_step ho (fun K' hK=>h K' (fun a w hW=>hK a w ⟨(fun h1=>by rw[hst] at h1;cases h1),hW⟩))
theorem eY {st:Nat} {listed:Array Bool} {a:Act} {w:World} (hr:Region.ready md ops listed=[]) (h:Q .normal a w):∀fuel,fI P md ops Q st S fuel listed a w
 | 0=>⟨hr,h⟩
 | _+1=>⟨fun _=>h,by rw[hr];simp⟩
end
end
section
open Go Go.RowKit
section
variable {P:Program} {ops:Array Oper} {Q:Exit→Act→World→Prop} {md:Region.Mode} {S:World→Prop}
theorem bF {st i:Nat} {o:Oper} {fuel:Nat} {listed:Array Bool} {a:Act} {w:World} (hr:Region.ready md ops listed=[i]) (ho:ops[i]?=some o)
 (h:∀K':Act→World→Prop,Shut (∀a w,S w→fI P md ops Q st S fuel (listed.setIfInBounds i true) a w→K' a w)→if Region.wanted o (yielded ops a.tmps)=true then Oper.wp P o a w K' Q else K' (a.put o.dst undef) w):fI P md ops Q st S (fuel+1) listed a w:=by
 refine⟨fun h0=>absurd (hr▸h0) (by simp),fun j hj=>?_⟩
 rw[hr] at hj
 obtain rfl:=List.mem_singleton.1 hj
 exact wpOp_step ho (fun K' hK=>h K' (fun a w hS hW=>hK a w ⟨fun _=>hS,hW⟩))
end
end
end Go.Proofs.YteladbdfiannjaaGreatDoor
