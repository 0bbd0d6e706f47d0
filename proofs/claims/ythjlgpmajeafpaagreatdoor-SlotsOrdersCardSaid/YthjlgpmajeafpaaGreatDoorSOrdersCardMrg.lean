/-
  THE CARD of SlotsOrders is proved: for every input the call returns true, and each argument reads afterwards as before. Condition: the listed tables of Go's library hold what the program's text lays (the card ties that).
-/
import Derived.Test.YthjlgpmajeafpaaGreatDoorCards
import Derived.Test.YthjlgpmajeafpaaGreatDoorSOrdersMrg
import Derived.Test.YthjlgpmajeafpaaGreatDoorArgsMrg
import Derived.Test.YthjlgpmajeafpaaGreatDoorSOrdersFactsMrg
namespace Go.Proofs.YthjlgpmajeafpaaGreatDoor
open Go Go.ChangeShapes Go.WideShapes Go.ChangeAt Go.RowKit
set_option linter.unusedVariables false

set_option maxRecDepth 100000 in
theorem liftedSOrders (os : Os) (started : os.Started) (H : Type) (enc : TypeId × Value → H) :
    ReturnsInHanded {} Tryz.checked os 11 .any (fun w args => (Rows.slotsOrdersSpec.pre enc Tryz.prog Tryz.f11 [] false w args ∧ laidMetH Tryz.prog Rows.slotsOrdersRow.laid w) ∧ sizedMet enc Tryz.prog Tryz.f11 (OpenSpec.ofChange Rows.slotsOrdersSpec) false w args)
      (Rows.slotsOrdersSpec.post enc Tryz.prog Tryz.f11 false true false false) := by
  refine returnsInHanded_of_change_and (C := Tryz.checked) (X := fun w _ => laidMetH Tryz.prog Rows.slotsOrdersRow.laid w) (fun _ _ _ hh h => h.of_heap hh) own started (by kernel_rfl) Tryz.func11
    (ChangeSpec.witness_shaped (enc := enc) (C := Tryz.checked) (os := os) (X := fun w _ => laidMetH Tryz.prog Rows.slotsOrdersRow.laid w) false (World.laidAll Tryz.prog os Rows.slotsOrdersRow.laid) #[.slice none 0 0] 8 (World.laidAll_os _ _ _)
      (World.shaped_of_ZipB (by kernel_rfl) (by kernel_rfl)) (by kernel_rfl) (by kernel_rfl) (by kernel_rfl)
      (by rw [MakeChecks.laidMetH_plain _ _ _ (by kernel_rfl)]; exact laidMet_laidAll _ (by kernel_rfl) (by kernel_rfl))) ?_
  intro W base args ds gs before hval0 hW _ hWt hL _
  have hval : ∀ (j : Nat) t v, Tryz.f11.params[j]? = some t → args[j]? = some v → Value.okWide Tryz.prog W .any base t v := hval0
  have hW' := hW
  obtain ⟨p, q, hA0, hV, rfl, _, _⟩ := hW
  have hA : DataW.TrodAll enc Tryz.prog W 0 (fun _ => true) true Tryz.f11.params.toList args.toList ds p := hA0
  have hLt0 : ∀ n ∈ DataW.weightsEach Tryz.prog [53] ds, n ≤ reachBytes := by
    have h := hWt
    obtain ⟨rfl, rfl⟩ := trodVars_none hV
    rw [List.append_nil] at h
    exact light_of h
  rw [Tryz.params11] at hA hval
  obtain ⟨v0, vs0, d0, ds0, p0, q0, hargs, rfl, rfl, h0, r0⟩ := trodAll_cons hA
  obtain ⟨rfl, rfl, rfl⟩ := trodAll_nil r0
  obtain rfl : args = #[v0] := by cases args; simp_all
  obtain ⟨rfl, rfl⟩ := trodVars_none hV
  have l0 : Light 53 d0 := light_head hLt0
  have hLt1 := light_tail hLt0
  have k0 := h0
  obtain ⟨a0, n0, c0, x0, rfl, i0⟩ := arg_slots (hval 0 53 v0 rfl rfl) h0 l0
  clear hA0 hval0
  simp only [List.append_nil] at hW'
  have hlt := hW'.lt
  rw [MakeChecks.laidMetH_plain _ _ _ (by kernel_rfl)] at hL
  have hT : Tabs W := tabs_of hL (by simp [Rows.slotsOrdersRow]) (by simp [Rows.slotsOrdersRow]) (by simp [Rows.slotsOrdersRow])
  refine (slotsOrders_call a0 n0 c0 x0 W i0 hT).mono fun e W' ⟨he, hb⟩ => ?_
  subst he
  exact ⟨_, rfl, _, _, _, [], _, [], hW', trodAll_mk1 (shut_bool Tryz.underlying4 _), trodAll_mk1 (Below.trod laidOut (by kernel_rfl) (of_decide_eq_true (by kernel_rfl)) k0 hb (fun x hx => hlt x (by simp [hx]))), rfl, hb.frame _, fun h => by cases h⟩

theorem nameSOrders : Tryz.pinned.checked.prog.funcNamed Rows.slotsOrdersRow.func = some 11 := by kernel_rfl
theorem wrapSOrders : Tryz.f11.isWrapper Tryz.pinned.checked.prog Rows.slotsOrdersRow.wrapper Rows.slotsOrdersRow.mainSum := by unfold Func.isWrapper; first | (rw [if_pos (by decide +kernel)]; kernel_rfl) | (rw [if_neg (by decide +kernel)]; exact ⟨rfl, rfl⟩)
theorem instSOrders : Tryz.f11.isInstance Tryz.pinned.checked.prog Rows.slotsOrdersRow.origin Rows.slotsOrdersRow.targs := of_decide_eq_true (by kernel_rfl)
theorem saidSOrders : Rows.SlotsOrdersSaid :=
  OpenClaim.holds_of_wide 11 Tryz.f11 rfl rfl rfl rfl rfl rfl rfl ⟨rfl, rfl, rfl, rfl, rfl⟩ rfl rfl rfl rfl rfl nameSOrders Tryz.func11 factsSOrders
    instSOrders wrapSOrders (fun os started H enc _ => liftedSOrders os started H enc)
theorem looksSOrders : false = Tryz.pinned.checked.prog.looks [] := by kernel_rfl
theorem plainSOrders (f : FuncId) (fn : Func) (hf : Tryz.pinned.checked.prog.funcNamed "manifold/manifoldlaw30.SlotsOrders" = some f) (hfn : Tryz.pinned.checked.prog.funcs[f]? = some fn) :
    false = Tryz.pinned.checked.prog.looks [] ∧ ∀ (j : Nat) t, fn.params[j]? = some t → Tryz.pinned.checked.prog.wantsStandIn t = false := by
  obtain rfl : f = 11 := Option.some.inj ((show Tryz.prog.funcNamed "manifold/manifoldlaw30.SlotsOrders" = some 11 by kernel_rfl).symm.trans hf) |>.symm
  obtain rfl : fn = Tryz.f11 := (Option.some.inj (Tryz.func11.symm.trans hfn)).symm
  refine ⟨looksSOrders, fun j t ht => ?_⟩
  rw [Tryz.params11] at ht
  have hm : t ∈ [53] := by simpa using Array.mem_of_getElem? ht
  have hall : ([53].all fun u => !Tryz.prog.wantsStandIn u) = true := by kernel_rfl
  exact (show Tryz.prog.wantsStandIn t = false by simpa using List.all_eq_true.1 hall t hm)
theorem slotsOrders_holds : Rows.SlotsOrdersCardSaid :=
  Claim7.holds_tied_plain_at .later [] _ _ _ _ saidSOrders (fun _ h => by cases h) (by kernel_rfl) (fun _ h => by cases h) slotsOrders_row_tie rfl ⟨rfl, rfl⟩ (by kernel_rfl) rfl plainSOrders (by kernel_rfl)
end Go.Proofs.YthjlgpmajeafpaaGreatDoor
