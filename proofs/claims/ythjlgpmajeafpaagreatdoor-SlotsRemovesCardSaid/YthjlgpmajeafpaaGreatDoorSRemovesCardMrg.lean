/-
  THE CARD of SlotsRemoves is proved: for every input the call returns true, and each argument reads afterwards as before. Condition: the listed tables of Go's library hold what the program's text lays (the card ties that).
-/
import Derived.Test.YthjlgpmajeafpaaGreatDoorCards
import Derived.Test.YthjlgpmajeafpaaGreatDoorSRemovesMrg
import Derived.Test.YthjlgpmajeafpaaGreatDoorArgsMrg
import Derived.Test.YthjlgpmajeafpaaGreatDoorSRemovesFactsMrg
namespace Go.Proofs.YthjlgpmajeafpaaGreatDoor
open Go Go.ChangeShapes Go.WideShapes Go.ChangeAt Go.RowKit
set_option linter.unusedVariables false

set_option maxRecDepth 100000 in
theorem liftedSRemoves (os : Os) (started : os.Started) (H : Type) (enc : TypeId × Value → H) :
    ReturnsInHanded {} Tryz.checked os 13 .any (fun w args => (Rows.slotsRemovesSpec.pre enc Tryz.prog Tryz.f13 [] false w args ∧ laidMetH Tryz.prog Rows.slotsRemovesRow.laid w) ∧ sizedMet enc Tryz.prog Tryz.f13 (OpenSpec.ofChange Rows.slotsRemovesSpec) false w args)
      (Rows.slotsRemovesSpec.post enc Tryz.prog Tryz.f13 false true false false) := by
  refine returnsInHanded_of_change_and (C := Tryz.checked) (X := fun w _ => laidMetH Tryz.prog Rows.slotsRemovesRow.laid w) (fun _ _ _ hh h => h.of_heap hh) own started (by kernel_rfl) Tryz.func13
    (ChangeSpec.witness_shaped (enc := enc) (C := Tryz.checked) (os := os) (X := fun w _ => laidMetH Tryz.prog Rows.slotsRemovesRow.laid w) false (World.laidAll Tryz.prog os Rows.slotsRemovesRow.laid) #[.agg #[.int .i64 0, .int .i64 0, .slice none 0 0], .agg #[.int .i64 0, .int .i64 0, .int .i64 0, .string ⟨#[]⟩, .slice none 0 0, .slice none 0 0, .int .i64 0, .int .i64 0, .slice none 0 0, .slice none 0 0], .agg #[.int .i64 0, .int .i64 0, .int .i64 0, .string ⟨#[]⟩, .slice none 0 0, .slice none 0 0]] 8 (World.laidAll_os _ _ _)
      (World.shaped_of_ZipB (by kernel_rfl) (by kernel_rfl)) (by kernel_rfl) (by kernel_rfl) (by kernel_rfl)
      (by rw [MakeChecks.laidMetH_plain _ _ _ (by kernel_rfl)]; exact laidMet_laidAll _ (by kernel_rfl) (by kernel_rfl))) ?_
  intro W base args ds gs before hval0 hW _ hWt hL _
  have hval : ∀ (j : Nat) t v, Tryz.f13.params[j]? = some t → args[j]? = some v → Value.okWide Tryz.prog W .any base t v := hval0
  have hW' := hW
  obtain ⟨p, q, hA0, hV, rfl, _, _⟩ := hW
  have hA : DataW.TrodAll enc Tryz.prog W 0 (fun _ => true) true Tryz.f13.params.toList args.toList ds p := hA0
  have hLt0 : ∀ n ∈ DataW.weightsEach Tryz.prog [55, 58, 28] ds, n ≤ reachBytes := by
    have h := hWt
    obtain ⟨rfl, rfl⟩ := trodVars_none hV
    rw [List.append_nil] at h
    exact light_of h
  rw [Tryz.params13] at hA hval
  obtain ⟨v0, vs0, d0, ds0, p0, q0, hargs, rfl, rfl, h0, r0⟩ := trodAll_cons hA
  obtain ⟨v1, vs1, d1, ds1, p1, q1, rfl, rfl, rfl, h1, r1⟩ := trodAll_cons r0
  obtain ⟨v2, vs2, d2, ds2, p2, q2, rfl, rfl, rfl, h2, r2⟩ := trodAll_cons r1
  obtain ⟨rfl, rfl, rfl⟩ := trodAll_nil r2
  obtain rfl : args = #[v0, v1, v2] := by cases args; simp_all
  obtain ⟨rfl, rfl⟩ := trodVars_none hV
  have l0 : Light 55 d0 := light_head hLt0
  have hLt1 := light_tail hLt0
  have l1 : Light 58 d1 := light_head hLt1
  have hLt2 := light_tail hLt1
  have l2 : Light 28 d2 := light_head hLt2
  have hLt3 := light_tail hLt2
  have k0 := h0
  obtain ⟨c0, x0, rfl, i0⟩ := arg_sta h0 l0
  have k1 := h1
  obtain ⟨c1, x1, rfl, i1⟩ := arg_slot h1 l1
  have k2 := h2
  obtain ⟨c2, x2, rfl, i2⟩ := arg_val h2 l2
  clear hA0 hval0
  simp only [List.append_nil] at hW'
  have hlt := hW'.lt
  rw [MakeChecks.laidMetH_plain _ _ _ (by kernel_rfl)] at hL
  have hT : Tabs W := tabs_of hL (by simp [Rows.slotsRemovesRow]) (by simp [Rows.slotsRemovesRow]) (by simp [Rows.slotsRemovesRow])
  refine (slotsRemoves_call c0 x0 c1 x1 c2 x2 W i0 i1 i2 hT).mono fun e W' ⟨he, hb⟩ => ?_
  subst he
  exact ⟨_, rfl, _, _, _, [], _, [], hW', trodAll_mk1 (shut_bool Tryz.underlying4 _), trodAll_mk3 (Below.trod laidOut (by kernel_rfl) (of_decide_eq_true (by kernel_rfl)) k0 hb (fun x hx => hlt x (by simp [hx]))) (Below.trod laidOut (by kernel_rfl) (of_decide_eq_true (by kernel_rfl)) k1 hb (fun x hx => hlt x (by simp [hx]))) (Below.trod laidOut (by kernel_rfl) (of_decide_eq_true (by kernel_rfl)) k2 hb (fun x hx => hlt x (by simp [hx]))), rfl, hb.frame _, fun h => by cases h⟩

theorem nameSRemoves : Tryz.pinned.checked.prog.funcNamed Rows.slotsRemovesRow.func = some 13 := by kernel_rfl
theorem wrapSRemoves : Tryz.f13.isWrapper Tryz.pinned.checked.prog Rows.slotsRemovesRow.wrapper Rows.slotsRemovesRow.mainSum := by unfold Func.isWrapper; first | (rw [if_pos (by decide +kernel)]; kernel_rfl) | (rw [if_neg (by decide +kernel)]; exact ⟨rfl, rfl⟩)
theorem instSRemoves : Tryz.f13.isInstance Tryz.pinned.checked.prog Rows.slotsRemovesRow.origin Rows.slotsRemovesRow.targs := of_decide_eq_true (by kernel_rfl)
theorem saidSRemoves : Rows.SlotsRemovesSaid :=
  OpenClaim.holds_of_wide 13 Tryz.f13 rfl rfl rfl rfl rfl rfl rfl ⟨rfl, rfl, rfl, rfl, rfl⟩ rfl rfl rfl rfl rfl nameSRemoves Tryz.func13 factsSRemoves
    instSRemoves wrapSRemoves (fun os started H enc _ => liftedSRemoves os started H enc)
theorem looksSRemoves : false = Tryz.pinned.checked.prog.looks [] := by kernel_rfl
theorem plainSRemoves (f : FuncId) (fn : Func) (hf : Tryz.pinned.checked.prog.funcNamed "manifold/manifoldlaw30.SlotsRemoves" = some f) (hfn : Tryz.pinned.checked.prog.funcs[f]? = some fn) :
    false = Tryz.pinned.checked.prog.looks [] ∧ ∀ (j : Nat) t, fn.params[j]? = some t → Tryz.pinned.checked.prog.wantsStandIn t = false := by
  obtain rfl : f = 13 := Option.some.inj ((show Tryz.prog.funcNamed "manifold/manifoldlaw30.SlotsRemoves" = some 13 by kernel_rfl).symm.trans hf) |>.symm
  obtain rfl : fn = Tryz.f13 := (Option.some.inj (Tryz.func13.symm.trans hfn)).symm
  refine ⟨looksSRemoves, fun j t ht => ?_⟩
  rw [Tryz.params13] at ht
  have hm : t ∈ [55, 58, 28] := by simpa using Array.mem_of_getElem? ht
  have hall : ([55, 58, 28].all fun u => !Tryz.prog.wantsStandIn u) = true := by kernel_rfl
  exact (show Tryz.prog.wantsStandIn t = false by simpa using List.all_eq_true.1 hall t hm)
theorem slotsRemoves_holds : Rows.SlotsRemovesCardSaid :=
  Claim7.holds_tied_plain_at .later [] _ _ _ _ saidSRemoves (fun _ h => by cases h) (by kernel_rfl) (fun _ h => by cases h) slotsRemoves_row_tie rfl ⟨rfl, rfl⟩ (by kernel_rfl) rfl plainSRemoves (by kernel_rfl)
end Go.Proofs.YthjlgpmajeafpaaGreatDoor
