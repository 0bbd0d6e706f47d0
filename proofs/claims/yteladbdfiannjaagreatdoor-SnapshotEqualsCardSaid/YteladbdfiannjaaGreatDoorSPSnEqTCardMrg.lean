/-
  THE CARD of SnapshotEquals is proved: for every input the call returns true, and each argument reads afterwards as before. Condition: the listed tables of Go's library hold what the program's text lays (the card ties that).
-/
import Derived.Test.YteladbdfiannjaaGreatDoorSP45Mrg
import Derived.Test.YteladbdfiannjaaGreatDoorSP37Mrg
import Derived.Test.YteladbdfiannjaaGreatDoorSP46Mrg
import Derived.Test.YteladbdfiannjaaGreatDoorCards
namespace Go.Proofs.YteladbdfiannjaaGreatDoor
set_option linter.unusedVariables false
set_option maxRecDepth 100000
set_option maxHeartbeats 64000000
set_option linter.unusedSimpArgs false
open Go Go.ChangeShapes Go.WideShapes Go.ChangeAt Go.RowKit
theorem liftedSnEqT (os:Os) (started:os.Started) (H:Type) (enc:TypeId × Value→H) :
 ReturnsInHanded {} Tryz.checked os 4 .any (fun w args=>(Rows.snapshotEqualsSpec.pre enc Tryz.prog Tryz.f4 [] false w args∧laidMetH Tryz.prog Rows.snapshotEqualsRow.laid w)∧sizedMet enc Tryz.prog Tryz.f4 (OpenSpec.ofChange Rows.snapshotEqualsSpec) false w args)
  (Rows.snapshotEqualsSpec.post enc Tryz.prog Tryz.f4 false true false false):=by
 refine returns_and_shaped (C:=Tryz.checked) (X:=fun w _=>laidMetH Tryz.prog Rows.snapshotEqualsRow.laid w) (fun _ _ _ hh h=>h.of_heap hh) own started (by kernel_rfl) Tryz.func4
  (ChangeSpec.witness_shaped (enc:=enc) (C:=Tryz.checked) (os:=os) (X:=fun w _=>laidMetH Tryz.prog Rows.snapshotEqualsRow.laid w) false (World.laidAll Tryz.prog os Rows.snapshotEqualsRow.laid) #[.agg #[.int .i64 0,.int .i64 0,.int .i64 0,.slice none 0 0,.slice none 0 0,.slice none 0 0,.slice none 0 0,.slice none 0 0,.slice none 0 0],.agg #[.int .i64 0,.int .i64 0,.int .i64 0,.slice none 0 0,.slice none 0 0,.slice none 0 0,.slice none 0 0,.slice none 0 0,.slice none 0 0]] 8 (World.laidAll_os _ _ _)
    (World.shaped_of_ZipB (by kernel_rfl) (by kernel_rfl)) (by kernel_rfl) (by kernel_rfl) (by kernel_rfl)
    (by rw[MakeChecks.laidMetH_plain _ _ _ (by kernel_rfl)];exact laidMet_laidAll _ (by kernel_rfl) (by kernel_rfl))) ?_
 intro W base args ds gs before hval0 hW _ hWt hL hSh _
 have hval:∀(j:Nat) t v,Tryz.f4.params[j]?=some t→args[j]?=some v→Value.okWide Tryz.prog W .any base t v:=hval0
 have hW':=hW
 obtain⟨p,q,hA0,hV,rfl,_,_⟩:=hW
 have hA:DataW.TrodAll enc Tryz.prog W 0 (fun _=>true) true Tryz.f4.params.toList args.toList ds p:=hA0
 have hLt0:∀n∈DataW.weightsEach Tryz.prog [30,30] ds,n≤reachBytes:=by
  have h:=hWt
  obtain⟨rfl,rfl⟩:=trodVars_none hV
  rw[List.append_nil] at h
  exact light_of h
 rw[Tryz.params4] at hA hval
 obtain⟨v0,vs0,d0,ds0,p0,q0,hargs,rfl,rfl,h0,r0⟩:=trodAll_cons hA
 obtain⟨v1,vs1,d1,ds1,p1,q1,rfl,rfl,rfl,h1,r1⟩:=trodAll_cons r0
 obtain⟨rfl,rfl,rfl⟩:=trodAll_nil r1
 obtain rfl:args = #[v0,v1]:=by cases args;simp_all
 obtain⟨rfl,rfl⟩:=trodVars_none hV
 have l0:Light 30 d0:=light_head hLt0
 have hLt1:=light_tail hLt0
 have l1:Light 30 d1:=light_head hLt1
 have hLt2:=light_tail hLt1
 have k0:=h0
 obtain⟨c0,x0,rfl,i0⟩:=arg_snp h0 l0
 have k1:=h1
 obtain⟨c1,x1,rfl,i1⟩:=arg_snp h1 l1
 clear hA0 hval0
 simp only[List.append_nil] at hW'
 have hlt:=hW'.lt
 rw[MakeChecks.laidMetH_plain _ _ _ (by kernel_rfl)] at hL
 have hT:Tabs W:=tabs_of hL (by simp[Rows.snapshotEqualsRow]) (by simp[Rows.snapshotEqualsRow]) (by simp[Rows.snapshotEqualsRow])
 have hN:NumVars W:=numVars_of hL hSh (by simp[Rows.snapshotEqualsRow]) (by simp[Rows.snapshotEqualsRow])
 refine(snEquals_call c0 x0 c1 x1 W i0 i1 hT hN).mono fun e W' ⟨he,hb⟩=>?_
 subst he
 exact⟨_,rfl,_,_,_,[],_,[],hW',trodAll_mk1 (shut_bool Tryz.underlying4 _),trodAll_mk2 (Below.trod laidOut (by kernel_rfl) (of_decide_eq_true (by kernel_rfl)) k0 hb (fun x hx=>hlt x (by simp[hx]))) (Below.trod laidOut (by kernel_rfl) (of_decide_eq_true (by kernel_rfl)) k1 hb (fun x hx=>hlt x (by simp[hx]))),rfl,hb.frame _,fun h=>by cases h⟩
theorem nameSnEqT:Tryz.pinned.checked.prog.funcNamed Rows.snapshotEqualsRow.func=some 4:=by kernel_rfl
theorem wrapSnEqT:Tryz.f4.isWrapper Tryz.pinned.checked.prog Rows.snapshotEqualsRow.wrapper Rows.snapshotEqualsRow.mainSum:=by unfold Func.isWrapper;first | (rw[if_pos (by decide +kernel)];kernel_rfl) | (rw[if_neg (by decide +kernel)];exact⟨rfl,rfl⟩)
theorem instSnEqT:Tryz.f4.isInstance Tryz.pinned.checked.prog Rows.snapshotEqualsRow.origin Rows.snapshotEqualsRow.targs:=of_decide_eq_true (by kernel_rfl)
theorem saidSnEqT:Rows.SnapshotEqualsSaid :=
 OpenClaim.holds_of_wide 4 Tryz.f4 rfl rfl rfl rfl rfl rfl rfl ⟨rfl,rfl,rfl,rfl,rfl⟩ rfl rfl rfl rfl rfl nameSnEqT Tryz.func4 factsSnEqT
  instSnEqT wrapSnEqT (fun os started H enc _=>liftedSnEqT os started H enc)
theorem looksSnEqT:true=Tryz.pinned.checked.prog.looks []:=by kernel_rfl
theorem plainSnEqT (f : FuncId) (fn : Func) (hf : Tryz.pinned.checked.prog.funcNamed "manifold/manifoldlaw47.SnapshotEquals" = some f) (hfn : Tryz.pinned.checked.prog.funcs[f]? = some fn) :
 true=Tryz.pinned.checked.prog.looks []∧∀(j:Nat) t,fn.params[j]?=some t→Tryz.pinned.checked.prog.wantsStandIn t=false:=by
 obtain rfl : f = 4:=Option.some.inj ((show Tryz.prog.funcNamed "manifold/manifoldlaw47.SnapshotEquals" = some 4 by kernel_rfl).symm.trans hf) |>.symm
 obtain rfl:fn=Tryz.f4:=(Option.some.inj (Tryz.func4.symm.trans hfn)).symm
 refine⟨looksSnEqT,fun j t ht=>?_⟩
 rw[Tryz.params4] at ht
 have hm:t∈[30,30]:=by simpa using Array.mem_of_getElem? ht
 have hall:([30,30].all fun u => !Tryz.prog.wantsStandIn u)=true:=by kernel_rfl
 exact(show Tryz.prog.wantsStandIn t=false by simpa using List.all_eq_true.1 hall t hm)
theorem snapshotEquals_holds:Rows.SnapshotEqualsCardSaid :=
 Claim7.holds_tied_plain_at .later [] _ _ _ _ saidSnEqT (fun _ h=>by cases h) (by as_aux_lemma=>kernel_rfl) (fun _ h=>by cases h) snapshotEquals_row_tie rfl ⟨rfl,rfl⟩ (by as_aux_lemma=>kernel_rfl) rfl plainSnEqT (by as_aux_lemma=>kernel_rfl)
end Go.Proofs.YteladbdfiannjaaGreatDoor
