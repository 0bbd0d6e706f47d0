/- A part. -/
import Derived.Test.YtoodnaghjpkjfaaGreatDoorSE49Mrg
import Derived.Test.YtoodnaghjpkjfaaGreatDoorSE50Mrg
import Derived.Test.YtoodnaghjpkjfaaGreatDoorSE51Mrg
import Derived.Test.YtoodnaghjpkjfaaGreatDoorCards
namespace Go.Proofs.YtoodnaghjpkjfaaGreatDoor
open Go.Proofs.Tryz
set_option linter.unusedVariables false
set_option maxRecDepth 100000
set_option maxHeartbeats 64000000
set_option linter.unusedSimpArgs false
open Go Go.ChangeShapes Go.WideShapes Go.ChangeAt Go.RowKit
theorem aEp (os:Os) (started:os.Started) (H:Type) (enc:TypeId × Value->H) :
 ReturnsInHanded {} Tryz.checked os 3 .any (fun w args=>(Rows.snapshotDecodesSpec.pre enc prog Tryz.f3 [] false w args/\laidMetH prog Rows.snapshotDecodesRow.laid w)/\sizedMet enc prog Tryz.f3 (OpenSpec.ofChange Rows.snapshotDecodesSpec) false w args)
  (Rows.snapshotDecodesSpec.post enc prog Tryz.f3 false true false false):=by
 refine qI (C:=Tryz.checked) (X:=fun w _=>laidMetH prog Rows.snapshotDecodesRow.laid w) (fun _ _ _ hh h=>h.of_heap hh) own started gd func3
  (ChangeSpec.witness_shaped (enc:=enc) (C:=Tryz.checked) (os:=os) (X:=fun w _=>laidMetH prog Rows.snapshotDecodesRow.laid w) false (World.laidAll prog os Rows.snapshotDecodesRow.laid) #[.string ⟨#[]⟩] 8 (World.laidAll_os _ _ _)
    (World.shaped_of_ZipB gd gd) gd gd gd
    (by rw[MakeChecks.laidMetH_plain _ _ _ gd];exact laidMet_laidAll _ gd gd)) ?_
 intro W base args ds gs before hval0 hW _ hWt hL hSh _;have hval:∀(j:Nat) t v,Tryz.f3.params[j]?=some t->args[j]?=some v->Value.okWide prog W .any base t v:=hval0;have hW':=hW;obtain⟨p,q,hA0,hV,rfl,_,_⟩:=hW;have hA:DataW.TrodAll enc prog W 0 (fun _=>true) true Tryz.f3.params.toList args.toList ds p:=hA0;have hLt0:∀n∈DataW.weightsEach prog [9] ds,n<=reachBytes:=by
  have h:=hWt;obtain⟨rfl,rfl⟩:=trodVars_none hV;rw[nk] at h;exact aNd h
 rw[Tryz.params3] at hA hval;obtain⟨v0,vs0,d0,ds0,p0,q0,hargs,rfl,rfl,h0,r0⟩:=trodAll_cons hA;obtain⟨rfl,rfl,rfl⟩:=trodAll_nil r0;obtain rfl:args = #[v0]:=by cases args;simp_all
 obtain⟨rfl,rfl⟩:=trodVars_none hV;have l0:Light 9 d0:=aHk hLt0;have hLt1:=aHj hLt0;have k0:=h0;obtain⟨x0,rfl⟩:=arg_str (hval 0 9 v0 rfl rfl);clear hA0 hval0;simp only[nk] at hW';have hlt:=hW'.lt;rw[MakeChecks.laidMetH_plain _ _ _ gd] at hL;have hT:Tabs W:=tabs_of hL (by simp[Rows.snapshotDecodesRow]) (by simp[Rows.snapshotDecodesRow]) (by simp[Rows.snapshotDecodesRow]);have hN:NumVars W:=aH9 hL hSh (by simp[Rows.snapshotDecodesRow]) (by simp[Rows.snapshotDecodesRow]);have hZ:ZTab W:=zTab_of hL (by simp[Rows.snapshotDecodesRow])
 refine(vY x0 W hT hZ hN).mono fun e W' ⟨he,hb⟩=>?_;subst he;exact⟨_,rfl,_,_,_,[],_,[],hW',trodAll_mk1 (shut_bool underlying4 _),trodAll_mk1 (Below.trod laidOut gd (ld gd) k0 hb (fun x hx=>hlt x (by simp[hx]))),rfl,hb.frame _,fun h=>by cases h⟩
theorem aKl:Tryz.pinned.checked.prog.funcNamed Rows.snapshotDecodesRow.func=some 3:=by kernel_rfl
theorem aJj:Tryz.f3.isWrapper Tryz.pinned.checked.prog Rows.snapshotDecodesRow.wrapper Rows.snapshotDecodesRow.mainSum:=by unfold Func.isWrapper;first | (rw[gw (by decide +kernel)];kernel_rfl) | (rw[f9 (by decide +kernel)];exact⟨rfl,rfl⟩)
theorem aL3:Tryz.f3.isInstance Tryz.pinned.checked.prog Rows.snapshotDecodesRow.origin Rows.snapshotDecodesRow.targs:=ld gd
theorem aK0:Rows.SnapshotDecodesSaid :=
 OpenClaim.holds_of_wide 3 Tryz.f3 rfl rfl rfl rfl rfl rfl rfl ⟨rfl,rfl,rfl,rfl,rfl⟩ rfl rfl rfl rfl rfl aKl func3 aHs
  aL3 aJj (fun os started H enc _=>aEp os started H enc)
theorem looksSnDcT:true=Tryz.pinned.checked.prog.looks []:=by kernel_rfl
theorem aH3 (f : FuncId) (fn : Func) (hf : Tryz.pinned.checked.prog.funcNamed "manifold/manifoldlaw47.SnapshotDecodes" = some f) (hfn : Tryz.pinned.checked.prog.funcs[f]? = some fn) :
 true=Tryz.pinned.checked.prog.looks []/\∀(j:Nat) t,fn.params[j]?=some t->Tryz.pinned.checked.prog.wantsStandIn t=false:=by
 obtain rfl : f = 3:=jp ((show prog.funcNamed "manifold/manifoldlaw47.SnapshotDecodes" = some 3 by kernel_rfl).symm.trans hf) |>.symm
 obtain rfl:fn=Tryz.f3:=(jp (func3.symm.trans hfn)).symm;refine⟨looksSnDcT,fun j t ht=>?_⟩;rw[Tryz.params3] at ht;have hm:t∈[9]:=by simpa using Array.mem_of_getElem? ht
 have hall:([9].all fun u => !prog.wantsStandIn u)=true:=by kernel_rfl
 exact(show prog.wantsStandIn t=false by simpa using List.all_eq_true.1 hall t hm)
theorem snapshotDecodes_holds:Rows.SnapshotDecodesCardSaid :=
 Claim7.holds_tied_plain_at .later [] _ _ _ _ aK0 (fun _ h=>by cases h) (by as_aux_lemma=>kernel_rfl) (fun _ h=>by cases h) snapshotDecodes_row_tie rfl ⟨rfl,rfl⟩ (by as_aux_lemma=>kernel_rfl) rfl aH3 (by as_aux_lemma=>kernel_rfl)
end Go.Proofs.YtoodnaghjpkjfaaGreatDoor
