/-
  THE CARD of MessageSorts is proved: for every input the call returns true, and each argument reads afterwards as before. Condition: the listed tables of Go's library hold what the program's text lays (the card ties that).
-/
import Derived.Test.YthjlgpmajeafpaaGreatDoorCards
import Derived.Test.YthjlgpmajeafpaaGreatDoorMSortsMrg
import Derived.Test.YthjlgpmajeafpaaGreatDoorArgsMrg
import Derived.Test.YthjlgpmajeafpaaGreatDoorArgsMMrg
import Derived.Test.YthjlgpmajeafpaaGreatDoorMSortsFactsMrg
namespace Go.Proofs.YthjlgpmajeafpaaGreatDoor
open Go Go.ChangeShapes Go.WideShapes Go.ChangeAt Go.RowKit
set_option linter.unusedVariables false

set_option maxRecDepth 100000 in
theorem liftedMSorts (os : Os) (started : os.Started) (H : Type) (enc : TypeId × Value → H) :
    ReturnsInHanded {} Tryz.checked os 9 .any (fun w args => (Rows.messageSortsSpec.pre enc Tryz.prog Tryz.f9 [] false w args ∧ laidMetH Tryz.prog Rows.messageSortsRow.laid w) ∧ sizedMet enc Tryz.prog Tryz.f9 (OpenSpec.ofChange Rows.messageSortsSpec) false w args)
      (Rows.messageSortsSpec.post enc Tryz.prog Tryz.f9 false true false false) := by
  refine returnsInHanded_of_change_and (C := Tryz.checked) (X := fun w _ => laidMetH Tryz.prog Rows.messageSortsRow.laid w) (fun _ _ _ hh h => h.of_heap hh) own started (by kernel_rfl) Tryz.func9
    (ChangeSpec.witness_shaped (enc := enc) (C := Tryz.checked) (os := os) (X := fun w _ => laidMetH Tryz.prog Rows.messageSortsRow.laid w) false (World.laidAll Tryz.prog os Rows.messageSortsRow.laid) #[.slice none 0 0] 8 (World.laidAll_os _ _ _)
      (World.shaped_of_ZipB (by kernel_rfl) (by kernel_rfl)) (by kernel_rfl) (by kernel_rfl) (by kernel_rfl)
      (by rw [MakeChecks.laidMetH_plain _ _ _ (by kernel_rfl)]; exact laidMet_laidAll _ (by kernel_rfl) (by kernel_rfl))) ?_
  intro W base args ds gs before hval0 hW _ hWt hL _
  have hval : ∀ (j : Nat) t v, Tryz.f9.params[j]? = some t → args[j]? = some v → Value.okWide Tryz.prog W .any base t v := hval0
  have hW' := hW
  obtain ⟨p, q, hA0, hV, rfl, _, _⟩ := hW
  have hA : DataW.TrodAll enc Tryz.prog W 0 (fun _ => true) true Tryz.f9.params.toList args.toList ds p := hA0
  have hLt0 : ∀ n ∈ DataW.weightsEach Tryz.prog [36] ds, n ≤ reachBytes := by
    have h := hWt
    obtain ⟨rfl, rfl⟩ := trodVars_none hV
    rw [List.append_nil] at h
    exact light_of h
  rw [Tryz.params9] at hA hval
  obtain ⟨v0, vs0, d0, ds0, p0, q0, hargs, rfl, rfl, h0, r0⟩ := trodAll_cons hA
  obtain ⟨rfl, rfl, rfl⟩ := trodAll_nil r0
  obtain rfl : args = #[v0] := by cases args; simp_all
  obtain ⟨rfl, rfl⟩ := trodVars_none hV
  have l0 : Light 36 d0 := light_head hLt0
  have hLt1 := light_tail hLt0
  have k0 := h0
  obtain ⟨a0, n0, c0, x0, rfl, i0⟩ := arg_msgs (hval 0 36 v0 rfl rfl) h0 l0
  clear hA0 hval0
  simp only [List.append_nil] at hW'
  have hlt := hW'.lt
  rw [MakeChecks.laidMetH_plain _ _ _ (by kernel_rfl)] at hL
  have hT : Tabs W := tabs_of hL (by simp [Rows.messageSortsRow]) (by simp [Rows.messageSortsRow]) (by simp [Rows.messageSortsRow])
  refine (msgSorts_call a0 n0 c0 x0 W i0 hT).mono fun e W' ⟨he, hb⟩ => ?_
  subst he
  exact ⟨_, rfl, _, _, _, [], _, [], hW', trodAll_mk1 (shut_bool Tryz.underlying4 _), trodAll_mk1 (Below.trod laidOut (by kernel_rfl) (of_decide_eq_true (by kernel_rfl)) k0 hb (fun x hx => hlt x (by simp [hx]))), rfl, hb.frame _, fun h => by cases h⟩

theorem nameMSorts : Tryz.pinned.checked.prog.funcNamed Rows.messageSortsRow.func = some 9 := by kernel_rfl
theorem wrapMSorts : Tryz.f9.isWrapper Tryz.pinned.checked.prog Rows.messageSortsRow.wrapper Rows.messageSortsRow.mainSum := by unfold Func.isWrapper; first | (rw [if_pos (by decide +kernel)]; kernel_rfl) | (rw [if_neg (by decide +kernel)]; exact ⟨rfl, rfl⟩)
theorem instMSorts : Tryz.f9.isInstance Tryz.pinned.checked.prog Rows.messageSortsRow.origin Rows.messageSortsRow.targs := of_decide_eq_true (by kernel_rfl)
theorem saidMSorts : Rows.MessageSortsSaid :=
  OpenClaim.holds_of_wide 9 Tryz.f9 rfl rfl rfl rfl rfl rfl rfl ⟨rfl, rfl, rfl, rfl, rfl⟩ rfl rfl rfl rfl rfl nameMSorts Tryz.func9 factsMSorts
    instMSorts wrapMSorts (fun os started H enc _ => liftedMSorts os started H enc)
theorem looksMSorts : false = Tryz.pinned.checked.prog.looks [] := by kernel_rfl
theorem plainMSorts (f : FuncId) (fn : Func) (hf : Tryz.pinned.checked.prog.funcNamed "manifold/manifoldlaw29.MessageSorts" = some f) (hfn : Tryz.pinned.checked.prog.funcs[f]? = some fn) :
    false = Tryz.pinned.checked.prog.looks [] ∧ ∀ (j : Nat) t, fn.params[j]? = some t → Tryz.pinned.checked.prog.wantsStandIn t = false := by
  obtain rfl : f = 9 := Option.some.inj ((show Tryz.prog.funcNamed "manifold/manifoldlaw29.MessageSorts" = some 9 by kernel_rfl).symm.trans hf) |>.symm
  obtain rfl : fn = Tryz.f9 := (Option.some.inj (Tryz.func9.symm.trans hfn)).symm
  refine ⟨looksMSorts, fun j t ht => ?_⟩
  rw [Tryz.params9] at ht
  have hm : t ∈ [36] := by simpa using Array.mem_of_getElem? ht
  have hall : ([36].all fun u => !Tryz.prog.wantsStandIn u) = true := by kernel_rfl
  exact (show Tryz.prog.wantsStandIn t = false by simpa using List.all_eq_true.1 hall t hm)
theorem messageSorts_holds : Rows.MessageSortsCardSaid :=
  Claim7.holds_tied_plain_at .later [] _ _ _ _ saidMSorts (fun _ h => by cases h) (by kernel_rfl) (fun _ h => by cases h) messageSorts_row_tie rfl ⟨rfl, rfl⟩ (by kernel_rfl) rfl plainMSorts (by kernel_rfl)
end Go.Proofs.YthjlgpmajeafpaaGreatDoor
