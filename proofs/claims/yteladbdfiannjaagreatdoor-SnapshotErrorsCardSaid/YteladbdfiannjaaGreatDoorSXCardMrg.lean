/- A part. -/
import Derived.Test.YteladbdfiannjaaGreatDoorSX45Mrg
import Derived.Test.YteladbdfiannjaaGreatDoorSX46Mrg
import Derived.Test.YteladbdfiannjaaGreatDoorSX47Mrg
import Derived.Test.YteladbdfiannjaaGreatDoorCards
namespace Go.Proofs.YteladbdfiannjaaGreatDoor
set_option linter.unusedVariables false
set_option maxRecDepth 100000
set_option maxHeartbeats 64000000
set_option linter.unusedSimpArgs false
open Go Go.ChangeShapes Go.WideShapes Go.ChangeAt Go.RowKit
theorem uC (os:Os) (started:os.Started) (H:Type) (enc:TypeId × Value→H) :
 ReturnsInHanded {} Tryz.checked os 5 .any (fun w args=>(Rows.snapshotErrorsSpec.pre enc Tryz.prog Tryz.f5 [] false w args∧laidMetH Tryz.prog Rows.snapshotErrorsRow.laid w)∧sizedMet enc Tryz.prog Tryz.f5 (OpenSpec.ofChange Rows.snapshotErrorsSpec) false w args)
  (Rows.snapshotErrorsSpec.post enc Tryz.prog Tryz.f5 false true false false):=by
 refine kH (C:=Tryz.checked) (X:=fun w _=>laidMetH Tryz.prog Rows.snapshotErrorsRow.laid w) (fun _ _ _ hh h=>h.of_heap hh) own started (by kernel_rfl) Tryz.func5
  (ChangeSpec.witness_shaped (enc:=enc) (C:=Tryz.checked) (os:=os) (X:=fun w _=>laidMetH Tryz.prog Rows.snapshotErrorsRow.laid w) false (World.laidAll Tryz.prog os Rows.snapshotErrorsRow.laid) #[.agg #[.int .i64 0,.int .i64 0,.int .i64 0,.slice none 0 0,.slice none 0 0,.slice none 0 0,.slice none 0 0,.slice none 0 0,.slice none 0 0],.int .i64 0] 8 (World.laidAll_os _ _ _)
    (World.shaped_of_ZipB (by kernel_rfl) (by kernel_rfl)) (by kernel_rfl) (by kernel_rfl) (by kernel_rfl)
    (by rw[MakeChecks.laidMetH_plain _ _ _ (by kernel_rfl)];exact laidMet_laidAll _ (by kernel_rfl) (by kernel_rfl))) ?_
 intro W base args ds gs before hval0 hW _ hWt hL hSh _
 have hval:∀(j:Nat) t v,Tryz.f5.params[j]?=some t→args[j]?=some v→Value.okWide Tryz.prog W .any base t v:=hval0
 have hW':=hW
 obtain⟨p,q,hA0,hV,rfl,_,_⟩:=hW
 have hA:DataW.TrodAll enc Tryz.prog W 0 (fun _=>true) true Tryz.f5.params.toList args.toList ds p:=hA0
 have hLt0:∀n∈DataW.weightsEach Tryz.prog [30,3] ds,n≤reachBytes:=by
  have h:=hWt
  obtain⟨rfl,rfl⟩:=trodVars_none hV
  rw[List.append_nil] at h
  exact aCp h
 rw[Tryz.params5] at hA hval
 obtain⟨v0,vs0,d0,ds0,p0,q0,hargs,rfl,rfl,h0,r0⟩:=trodAll_cons hA
 obtain⟨v1,vs1,d1,ds1,p1,q1,rfl,rfl,rfl,h1,r1⟩:=trodAll_cons r0
 obtain⟨rfl,rfl,rfl⟩:=trodAll_nil r1
 obtain rfl:args = #[v0,v1]:=by cases args;simp_all
 obtain⟨rfl,rfl⟩:=trodVars_none hV
 have l0:Light 30 d0:=nL hLt0
 have hLt1:=nK hLt0
 have l1:Light 3 d1:=nL hLt1
 have hLt2:=nK hLt1
 have k0:=h0
 obtain⟨c0,x0,rfl,i0⟩:=arg_snp h0 l0
 obtain⟨x1,rfl,rfl,rfl,w1⟩:=open_int Tryz.underlying3 (hval 1 3 v1 rfl rfl) h1
 have b1:I64 x1:=cS w1
 clear hA0 hval0
 simp only[List.append_nil] at hW'
 have hlt:=hW'.lt
 rw[MakeChecks.laidMetH_plain _ _ _ (by kernel_rfl)] at hL
 have hT:Tabs W:=tabs_of hL (by simp[Rows.snapshotErrorsRow]) (by simp[Rows.snapshotErrorsRow]) (by simp[Rows.snapshotErrorsRow])
 have hN:NumVars W:=xN hL hSh (by simp[Rows.snapshotErrorsRow]) (by simp[Rows.snapshotErrorsRow])
 have hZ:ZTab W:=zTab_of hL (by simp[Rows.snapshotErrorsRow])
 refine(oV c0 x0 x1 W i0 hT hZ hN).mono fun e W' ⟨he,hb⟩=>?_
 subst he
 exact⟨_,rfl,_,_,_,[],_,[],hW',trodAll_mk1 (shut_bool Tryz.underlying4 _),trodAll_mk2 (Below.trod laidOut (by kernel_rfl) (of_decide_eq_true (by kernel_rfl)) k0 hb (fun x hx=>hlt x (by simp[hx]))) (shut_int Tryz.underlying3 w1),rfl,hb.frame _,fun h=>by cases h⟩
theorem aA1:Tryz.pinned.checked.prog.funcNamed Rows.snapshotErrorsRow.func=some 5:=by kernel_rfl
theorem zD:Tryz.f5.isWrapper Tryz.pinned.checked.prog Rows.snapshotErrorsRow.wrapper Rows.snapshotErrorsRow.mainSum:=by unfold Func.isWrapper;first | (rw[if_pos (by decide +kernel)];kernel_rfl) | (rw[if_neg (by decide +kernel)];exact⟨rfl,rfl⟩)
theorem aAg:Tryz.f5.isInstance Tryz.pinned.checked.prog Rows.snapshotErrorsRow.origin Rows.snapshotErrorsRow.targs:=of_decide_eq_true (by kernel_rfl)
theorem zP:Rows.SnapshotErrorsSaid :=
 OpenClaim.holds_of_wide 5 Tryz.f5 rfl rfl rfl rfl rfl rfl rfl ⟨rfl,rfl,rfl,rfl,rfl⟩ rfl rfl rfl rfl rfl aA1 Tryz.func5 xS
  aAg zD (fun os started H enc _=>uC os started H enc)
theorem looksSnErT:true=Tryz.pinned.checked.prog.looks []:=by kernel_rfl
theorem xH (f : FuncId) (fn : Func) (hf : Tryz.pinned.checked.prog.funcNamed "manifold/manifoldlaw47.SnapshotErrors" = some f) (hfn : Tryz.pinned.checked.prog.funcs[f]? = some fn) :
 true=Tryz.pinned.checked.prog.looks []∧∀(j:Nat) t,fn.params[j]?=some t→Tryz.pinned.checked.prog.wantsStandIn t=false:=by
 obtain rfl : f = 5:=Option.some.inj ((show Tryz.prog.funcNamed "manifold/manifoldlaw47.SnapshotErrors" = some 5 by kernel_rfl).symm.trans hf) |>.symm
 obtain rfl:fn=Tryz.f5:=(Option.some.inj (Tryz.func5.symm.trans hfn)).symm
 refine⟨looksSnErT,fun j t ht=>?_⟩
 rw[Tryz.params5] at ht
 have hm:t∈[30,3]:=by simpa using Array.mem_of_getElem? ht
 have hall:([30,3].all fun u => !Tryz.prog.wantsStandIn u)=true:=by kernel_rfl
 exact(show Tryz.prog.wantsStandIn t=false by simpa using List.all_eq_true.1 hall t hm)
theorem snapshotErrors_holds:Rows.SnapshotErrorsCardSaid :=
 Claim7.holds_tied_plain_at .later [] _ _ _ _ zP (fun _ h=>by cases h) (by as_aux_lemma=>kernel_rfl) (fun _ h=>by cases h) snapshotErrors_row_tie rfl ⟨rfl,rfl⟩ (by as_aux_lemma=>kernel_rfl) rfl xH (by as_aux_lemma=>kernel_rfl)
end Go.Proofs.YteladbdfiannjaaGreatDoor
