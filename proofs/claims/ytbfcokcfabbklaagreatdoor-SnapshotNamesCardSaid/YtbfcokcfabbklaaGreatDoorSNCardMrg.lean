/-
  THE CARD of SnapshotNames is proved: for every input the call returns true, and each argument reads afterwards as before. Condition: the listed tables of Go's library hold what the program's text lays (the card ties that).
-/
import Derived.Test.YtbfcokcfabbklaaGreatDoorSN26Mrg
import Derived.Test.YtbfcokcfabbklaaGreatDoorSN28Mrg
import Derived.Test.YtbfcokcfabbklaaGreatDoorSN29Mrg
import Derived.Test.YtbfcokcfabbklaaGreatDoorCards
namespace Go.Proofs.YtbfcokcfabbklaaGreatDoor
set_option linter.unusedVariables false
set_option maxRecDepth 100000
set_option maxHeartbeats 16000000
set_option linter.unusedSimpArgs false
open Go Go.ChangeShapes Go.WideShapes Go.ChangeAt Go.RowKit
theorem liftedSnTop (os:Os) (started:os.Started) (H:Type) (enc:TypeId × Value→H) :
 ReturnsInHanded {} Tryz.checked os 5 .any (fun w args=>(Rows.snapshotNamesSpec.pre enc Tryz.prog Tryz.f5 [] false w args∧laidMetH Tryz.prog Rows.snapshotNamesRow.laid w)∧sizedMet enc Tryz.prog Tryz.f5 (OpenSpec.ofChange Rows.snapshotNamesSpec) false w args)
  (Rows.snapshotNamesSpec.post enc Tryz.prog Tryz.f5 false true false false):=by
 refine returns_and_shaped (C:=Tryz.checked) (X:=fun w _=>laidMetH Tryz.prog Rows.snapshotNamesRow.laid w) (fun _ _ _ hh h=>h.of_heap hh) own started (by kernel_rfl) Tryz.func5
  (ChangeSpec.witness_shaped (enc:=enc) (C:=Tryz.checked) (os:=os) (X:=fun w _=>laidMetH Tryz.prog Rows.snapshotNamesRow.laid w) false (World.laidAll Tryz.prog os Rows.snapshotNamesRow.laid) #[.int .i64 0,.string ⟨#[]⟩] 8 (World.laidAll_os _ _ _)
    (World.shaped_of_ZipB (by kernel_rfl) (by kernel_rfl)) (by kernel_rfl) (by kernel_rfl) (by kernel_rfl)
    (by rw[MakeChecks.laidMetH_plain _ _ _ (by kernel_rfl)];exact laidMet_laidAll _ (by kernel_rfl) (by kernel_rfl))) ?_
 intro W base args ds gs before hval0 hW _ hWt hL hSh _
 have hval:∀(j:Nat) t v,Tryz.f5.params[j]?=some t→args[j]?=some v→Value.okWide Tryz.prog W .any base t v:=hval0
 have hW':=hW
 obtain⟨p,q,hA0,hV,rfl,_,_⟩:=hW
 have hA:DataW.TrodAll enc Tryz.prog W 0 (fun _=>true) true Tryz.f5.params.toList args.toList ds p:=hA0
 have hLt0:∀n∈DataW.weightsEach Tryz.prog [3,9] ds,n≤reachBytes:=by
  have h:=hWt
  obtain⟨rfl,rfl⟩:=trodVars_none hV
  rw[List.append_nil] at h
  exact light_of h
 rw[Tryz.params5] at hA hval
 obtain⟨v0,vs0,d0,ds0,p0,q0,hargs,rfl,rfl,h0,r0⟩:=trodAll_cons hA
 obtain⟨v1,vs1,d1,ds1,p1,q1,rfl,rfl,rfl,h1,r1⟩:=trodAll_cons r0
 obtain⟨rfl,rfl,rfl⟩:=trodAll_nil r1
 obtain rfl:args = #[v0,v1]:=by cases args;simp_all
 obtain⟨rfl,rfl⟩:=trodVars_none hV
 have l0:Light 3 d0:=light_head hLt0
 have hLt1:=light_tail hLt0
 have l1:Light 9 d1:=light_head hLt1
 have hLt2:=light_tail hLt1
 obtain⟨x0,rfl,rfl,rfl,w0⟩:=open_int Tryz.underlying3 (hval 0 3 v0 rfl rfl) h0
 have b0:I64 x0:=i64_of w0
 have k1:=h1
 obtain⟨x1,rfl⟩:=arg_str (hval 1 9 v1 rfl rfl)
 clear hA0 hval0
 simp only[List.append_nil] at hW'
 have hlt:=hW'.lt
 rw[MakeChecks.laidMetH_plain _ _ _ (by kernel_rfl)] at hL
 have hT:Tabs W:=tabs_of hL (by simp[Rows.snapshotNamesRow]) (by simp[Rows.snapshotNamesRow]) (by simp[Rows.snapshotNamesRow])
 have hN:NumVars W:=numVars_of hL hSh (by simp[Rows.snapshotNamesRow]) (by simp[Rows.snapshotNamesRow])
 refine(names_call x0 x1 W hT hN).mono fun e W' ⟨he,hb⟩=>?_
 subst he
 exact⟨_,rfl,_,_,_,[],_,[],hW',trodAll_mk1 (shut_bool Tryz.underlying4 _),trodAll_mk2 (shut_int Tryz.underlying3 w0) (Below.trod laidOut (by kernel_rfl) (of_decide_eq_true (by kernel_rfl)) k1 hb (fun x hx=>hlt x (by simp[hx]))),rfl,hb.frame _,fun h=>by cases h⟩
theorem nameSnTop:Tryz.pinned.checked.prog.funcNamed Rows.snapshotNamesRow.func=some 5:=by kernel_rfl
theorem wrapSnTop:Tryz.f5.isWrapper Tryz.pinned.checked.prog Rows.snapshotNamesRow.wrapper Rows.snapshotNamesRow.mainSum:=by unfold Func.isWrapper;first | (rw[if_pos (by decide +kernel)];kernel_rfl) | (rw[if_neg (by decide +kernel)];exact⟨rfl,rfl⟩)
theorem instSnTop:Tryz.f5.isInstance Tryz.pinned.checked.prog Rows.snapshotNamesRow.origin Rows.snapshotNamesRow.targs:=of_decide_eq_true (by kernel_rfl)
theorem saidSnTop:Rows.SnapshotNamesSaid :=
 OpenClaim.holds_of_wide 5 Tryz.f5 rfl rfl rfl rfl rfl rfl rfl ⟨rfl,rfl,rfl,rfl,rfl⟩ rfl rfl rfl rfl rfl nameSnTop Tryz.func5 factsSnTop
  instSnTop wrapSnTop (fun os started H enc _=>liftedSnTop os started H enc)
theorem looksSnTop:true=Tryz.pinned.checked.prog.looks []:=by kernel_rfl
theorem plainSnTop (f : FuncId) (fn : Func) (hf : Tryz.pinned.checked.prog.funcNamed "manifold/manifoldlaw47.SnapshotNames" = some f) (hfn : Tryz.pinned.checked.prog.funcs[f]? = some fn) :
 true=Tryz.pinned.checked.prog.looks []∧∀(j:Nat) t,fn.params[j]?=some t→Tryz.pinned.checked.prog.wantsStandIn t=false:=by
 obtain rfl : f = 5:=Option.some.inj ((show Tryz.prog.funcNamed "manifold/manifoldlaw47.SnapshotNames" = some 5 by kernel_rfl).symm.trans hf) |>.symm
 obtain rfl:fn=Tryz.f5:=(Option.some.inj (Tryz.func5.symm.trans hfn)).symm
 refine⟨looksSnTop,fun j t ht=>?_⟩
 rw[Tryz.params5] at ht
 have hm:t∈[3,9]:=by simpa using Array.mem_of_getElem? ht
 have hall:([3,9].all fun u => !Tryz.prog.wantsStandIn u)=true:=by kernel_rfl
 exact(show Tryz.prog.wantsStandIn t=false by simpa using List.all_eq_true.1 hall t hm)
theorem snapshotNames_holds:Rows.SnapshotNamesCardSaid :=
 Claim7.holds_tied_plain_at .later [] _ _ _ _ saidSnTop (fun _ h=>by cases h) (by as_aux_lemma=>kernel_rfl) (fun _ h=>by cases h) snapshotNames_row_tie rfl ⟨rfl,rfl⟩ (by as_aux_lemma=>kernel_rfl) rfl plainSnTop (by as_aux_lemma=>kernel_rfl)
end Go.Proofs.YtbfcokcfabbklaaGreatDoor
