/- A part. -/
import Derived.Test.YtmgpghoamapfgaaGreatDoorST48Mrg
import Derived.Test.YtmgpghoamapfgaaGreatDoorST49Mrg
import Derived.Test.YtmgpghoamapfgaaGreatDoorST50Mrg
import Derived.Test.YtmgpghoamapfgaaGreatDoorST51Mrg
import Derived.Test.YtmgpghoamapfgaaGreatDoorCards
namespace Go.Proofs.YtmgpghoamapfgaaGreatDoor
set_option linter.unusedVariables false
set_option maxRecDepth 100000
set_option maxHeartbeats 16000000
set_option linter.unusedSimpArgs false
open Go Go.ChangeShapes Go.WideShapes Go.ChangeAt Go.RowKit
theorem aDr (os:Os) (started:os.Started) (H:Type) (enc:TypeId × Value->H) :
 ReturnsInHanded {} Tryz.checked os 3 .any (fun w args=>(Rows.slotsTextsSpec.pre enc Tryz.prog Tryz.f3 [] false w args/\laidMetH Tryz.prog Rows.slotsTextsRow.laid w)/\sizedMet enc Tryz.prog Tryz.f3 (OpenSpec.ofChange Rows.slotsTextsSpec) false w args)
  (Rows.slotsTextsSpec.post enc Tryz.prog Tryz.f3 false true false false):=by
 refine oZ (C:=Tryz.checked) (X:=fun w _=>laidMetH Tryz.prog Rows.slotsTextsRow.laid w) (fun _ _ _ hh h=>h.of_heap hh) own started ge Tryz.func3
  (ChangeSpec.witness_shaped (enc:=enc) (C:=Tryz.checked) (os:=os) (X:=fun w _=>laidMetH Tryz.prog Rows.slotsTextsRow.laid w) false (World.laidAll Tryz.prog os Rows.slotsTextsRow.laid) #[.agg #[I6 0,I6 0,.slice none 0 0]] 8 (World.laidAll_os _ _ _)
    (World.shaped_of_ZipB ge ge) ge ge ge
    (by rw[MakeChecks.laidMetH_plain _ _ _ ge];exact laidMet_laidAll _ ge ge)) ?_
 intro W base args ds gs before hval0 hW _ hWt hL hSh _;have hval:∀(j:Nat) t v,Tryz.f3.params[j]?=some t->args[j]?=some v->Value.okWide Tryz.prog W .any base t v:=hval0;have hW':=hW;obtain⟨p,q,hA0,hV,rfl,_,_⟩:=hW;have hA:DataW.TrodAll enc Tryz.prog W 0 (fun _=>true) true Tryz.f3.params.toList args.toList ds p:=hA0;have hLt0:∀n∈DataW.weightsEach Tryz.prog [24] ds,n<=reachBytes:=by
  have h:=hWt;obtain⟨rfl,rfl⟩:=trodVars_none hV;rw[List.append_nil] at h;exact aMo h
 rw[Tryz.params3] at hA hval;obtain⟨v0,vs0,d0,ds0,p0,q0,hargs,rfl,rfl,h0,r0⟩:=trodAll_cons hA;obtain⟨rfl,rfl,rfl⟩:=trodAll_nil r0;obtain rfl:args = #[v0]:=by cases args;simp_all
 obtain⟨rfl,rfl⟩:=trodVars_none hV;have l0:Light 24 d0:=aGx hLt0;have hLt1:=aGw hLt0;have k0:=h0;obtain⟨c0,x0,rfl,i0⟩:=arg_sta h0 l0;clear hA0 hval0;simp only[List.append_nil] at hW';have hlt:=hW'.lt;rw[MakeChecks.laidMetH_plain _ _ _ ge] at hL;have hT:Tabs W:=tabs_of hL (by simp[Rows.slotsTextsRow]) (by simp[Rows.slotsTextsRow]) (by simp[Rows.slotsTextsRow]);have hN:NumVars W:=aGq hL hSh (by simp[Rows.slotsTextsRow]) (by simp[Rows.slotsTextsRow]);have hZ:ZTab W:=zTab_of hL (by simp[Rows.slotsTextsRow]);refine(aFu c0 x0 W i0 hT hZ hN).mono fun e W' ⟨he,hb⟩=>?_;subst he
 exact⟨_,rfl,_,_,_,[],_,[],hW',trodAll_mk1 (shut_bool Tryz.underlying4 _),trodAll_mk1 (Below.trod laidOut ge (of_decide_eq_true ge) k0 hb (fun x hx=>hlt x (by simp[hx]))),rfl,hb.frame _,fun h=>by cases h⟩
theorem aJq:Tryz.pinned.checked.prog.funcNamed Rows.slotsTextsRow.func=some 3:=by kernel_rfl
theorem aIw:Tryz.f3.isWrapper Tryz.pinned.checked.prog Rows.slotsTextsRow.wrapper Rows.slotsTextsRow.mainSum:=by unfold Func.isWrapper;first | (rw[if_pos (by decide +kernel)];kernel_rfl) | (rw[if_neg (by decide +kernel)];exact⟨rfl,rfl⟩)
theorem aK9:Tryz.f3.isInstance Tryz.pinned.checked.prog Rows.slotsTextsRow.origin Rows.slotsTextsRow.targs:=of_decide_eq_true ge
theorem aJ8:Rows.SlotsTextsSaid :=
 OpenClaim.holds_of_wide 3 Tryz.f3 rfl rfl rfl rfl rfl rfl rfl ⟨rfl,rfl,rfl,rfl,rfl⟩ rfl rfl rfl rfl rfl aJq Tryz.func3 aH6
  aK9 aIw (fun os started H enc _=>aDr os started H enc)
theorem looksSTxts:true=Tryz.pinned.checked.prog.looks []:=by kernel_rfl
theorem aGk (f : FuncId) (fn : Func) (hf : Tryz.pinned.checked.prog.funcNamed "manifold/manifoldlaw30.SlotsTexts" = some f) (hfn : Tryz.pinned.checked.prog.funcs[f]? = some fn) :
 true=Tryz.pinned.checked.prog.looks []/\∀(j:Nat) t,fn.params[j]?=some t->Tryz.pinned.checked.prog.wantsStandIn t=false:=by
 obtain rfl : f = 3:=Option.some.inj ((show Tryz.prog.funcNamed "manifold/manifoldlaw30.SlotsTexts" = some 3 by kernel_rfl).symm.trans hf) |>.symm
 obtain rfl:fn=Tryz.f3:=(Option.some.inj (Tryz.func3.symm.trans hfn)).symm;refine⟨looksSTxts,fun j t ht=>?_⟩;rw[Tryz.params3] at ht;have hm:t∈[24]:=by simpa using Array.mem_of_getElem? ht
 have hall:([24].all fun u => !Tryz.prog.wantsStandIn u)=true:=by kernel_rfl
 exact(show Tryz.prog.wantsStandIn t=false by simpa using List.all_eq_true.1 hall t hm)
theorem slotsTexts_holds:Rows.SlotsTextsCardSaid :=
 Claim7.holds_tied_plain_at .later [] _ _ _ _ aJ8 (fun _ h=>by cases h) (by as_aux_lemma=>kernel_rfl) (fun _ h=>by cases h) slotsTexts_row_tie rfl ⟨rfl,rfl⟩ (by as_aux_lemma=>kernel_rfl) rfl aGk (by as_aux_lemma=>kernel_rfl)
end Go.Proofs.YtmgpghoamapfgaaGreatDoor
