/- A part. -/
import Derived.Test.YtaofolgaiipcjaaGreatDoorSD44Mrg
import Derived.Test.YtaofolgaiipcjaaGreatDoorSD45Mrg
import Derived.Test.YtaofolgaiipcjaaGreatDoorSD46Mrg
import Derived.Test.YtaofolgaiipcjaaGreatDoorCards
namespace Go.Proofs.YtaofolgaiipcjaaGreatDoor
set_option linter.unusedVariables false
set_option maxRecDepth 100000
set_option maxHeartbeats 16000000
set_option linter.unusedSimpArgs false
open Go Go.ChangeShapes Go.WideShapes Go.ChangeAt Go.RowKit
theorem jH2 (os:Os) (started:os.Started) (H:Type) (enc:TypeId × Value→H) :
 ReturnsInHanded {} Tryz.checked os 7 .any (fun w args=>(Rows.slotsDecodesSpec.pre enc Tryz.prog Tryz.f7 [] false w args∧laidMetH Tryz.prog Rows.slotsDecodesRow.laid w)∧sizedMet enc Tryz.prog Tryz.f7 (OpenSpec.ofChange Rows.slotsDecodesSpec) false w args)
  (Rows.slotsDecodesSpec.post enc Tryz.prog Tryz.f7 false true false false):=by
 refine yG (C:=Tryz.checked) (X:=fun w _=>laidMetH Tryz.prog Rows.slotsDecodesRow.laid w) (fun _ _ _ hh h=>h.of_heap hh) own started (by kernel_rfl) Tryz.func7
  (ChangeSpec.witness_shaped (enc:=enc) (C:=Tryz.checked) (os:=os) (X:=fun w _=>laidMetH Tryz.prog Rows.slotsDecodesRow.laid w) false (World.laidAll Tryz.prog os Rows.slotsDecodesRow.laid) #[.string ⟨#[]⟩] 8 (World.laidAll_os _ _ _)
    (World.shaped_of_ZipB (by kernel_rfl) (by kernel_rfl)) (by kernel_rfl) (by kernel_rfl) (by kernel_rfl)
    (by rw[MakeChecks.laidMetH_plain _ _ _ (by kernel_rfl)];exact laidMet_laidAll _ (by kernel_rfl) (by kernel_rfl))) ?_
 intro W base args ds gs before hval0 hW _ hWt hL hSh _;have hval:∀(j:Nat) t v,Tryz.f7.params[j]?=some t→args[j]?=some v→Value.okWide Tryz.prog W .any base t v:=hval0;have hW':=hW;obtain⟨p,q,hA0,hV,rfl,_,_⟩:=hW;have hA:DataW.TrodAll enc Tryz.prog W 0 (fun _=>true) true Tryz.f7.params.toList args.toList ds p:=hA0;have hLt0:∀n∈DataW.weightsEach Tryz.prog [9] ds,n≤reachBytes:=by
  have h:=hWt;obtain⟨rfl,rfl⟩:=trodVars_none hV;rw[List.append_nil] at h;exact light_of h
 rw[Tryz.params7] at hA hval;obtain⟨v0,vs0,d0,ds0,p0,q0,hargs,rfl,rfl,h0,r0⟩:=trodAll_cons hA;obtain⟨rfl,rfl,rfl⟩:=trodAll_nil r0;obtain rfl:args = #[v0]:=by cases args;simp_all
 obtain⟨rfl,rfl⟩:=trodVars_none hV;have l0:Light 9 d0:=jK7 hLt0;have hLt1:=jK6 hLt0;have k0:=h0;obtain⟨x0,rfl⟩:=arg_str (hval 0 9 v0 rfl rfl);clear hA0 hval0;simp only[List.append_nil] at hW';have hlt:=hW'.lt;rw[MakeChecks.laidMetH_plain _ _ _ (by kernel_rfl)] at hL;have hT:Tabs W:=tabs_of hL (by simp[Rows.slotsDecodesRow]) (by simp[Rows.slotsDecodesRow]) (by simp[Rows.slotsDecodesRow]);have hN:NumVars W:=jK0 hL hSh (by simp[Rows.slotsDecodesRow]) (by simp[Rows.slotsDecodesRow]);have hZ:ZTab W:=zTab_of hL (by simp[Rows.slotsDecodesRow]);refine(jJi x0 W hT hZ hN).mono fun e W' ⟨he,hb⟩=>?_
 subst he;exact⟨_,rfl,_,_,_,[],_,[],hW',trodAll_mk1 (shut_bool Tryz.underlying4 _),trodAll_mk1 (Below.trod laidOut (by kernel_rfl) (of_decide_eq_true (by kernel_rfl)) k0 hb (fun x hx=>hlt x (by simp[hx]))),rfl,hb.frame _,fun h=>by cases h⟩
theorem jLt:Tryz.pinned.checked.prog.funcNamed Rows.slotsDecodesRow.func=some 7:=by kernel_rfl
theorem jL0:Tryz.f7.isWrapper Tryz.pinned.checked.prog Rows.slotsDecodesRow.wrapper Rows.slotsDecodesRow.mainSum:=by unfold Func.isWrapper;first | (rw[if_pos (by decide +kernel)];kernel_rfl) | (rw[if_neg (by decide +kernel)];exact⟨rfl,rfl⟩)
theorem jMc:Tryz.f7.isInstance Tryz.pinned.checked.prog Rows.slotsDecodesRow.origin Rows.slotsDecodesRow.targs:=of_decide_eq_true (by kernel_rfl)
theorem jLf:Rows.SlotsDecodesSaid :=
 OpenClaim.holds_of_wide 7 Tryz.f7 rfl rfl rfl rfl rfl rfl rfl ⟨rfl,rfl,rfl,rfl,rfl⟩ rfl rfl rfl rfl rfl jLt Tryz.func7 jKe
  jMc jL0 (fun os started H enc _=>jH2 os started H enc)
theorem looksSDecs:true=Tryz.pinned.checked.prog.looks []:=by kernel_rfl
theorem jJw (f : FuncId) (fn : Func) (hf : Tryz.pinned.checked.prog.funcNamed "manifold/manifoldlaw30.SlotsDecodes" = some f) (hfn : Tryz.pinned.checked.prog.funcs[f]? = some fn) :
 true=Tryz.pinned.checked.prog.looks []∧∀(j:Nat) t,fn.params[j]?=some t→Tryz.pinned.checked.prog.wantsStandIn t=false:=by
 obtain rfl : f = 7:=Option.some.inj ((show Tryz.prog.funcNamed "manifold/manifoldlaw30.SlotsDecodes" = some 7 by kernel_rfl).symm.trans hf) |>.symm
 obtain rfl:fn=Tryz.f7:=(Option.some.inj (Tryz.func7.symm.trans hfn)).symm;refine⟨looksSDecs,fun j t ht=>?_⟩;rw[Tryz.params7] at ht;have hm:t∈[9]:=by simpa using Array.mem_of_getElem? ht
 have hall:([9].all fun u => !Tryz.prog.wantsStandIn u)=true:=by kernel_rfl
 exact(show Tryz.prog.wantsStandIn t=false by simpa using List.all_eq_true.1 hall t hm)
theorem slotsDecodes_holds:Rows.SlotsDecodesCardSaid :=
 Claim7.holds_tied_plain_at .later [] _ _ _ _ jLf (fun _ h=>by cases h) (by as_aux_lemma=>kernel_rfl) (fun _ h=>by cases h) slotsDecodes_row_tie rfl ⟨rfl,rfl⟩ (by as_aux_lemma=>kernel_rfl) rfl jJw (by as_aux_lemma=>kernel_rfl)
end Go.Proofs.YtaofolgaiipcjaaGreatDoor
