/-
  THE CARD of SlotsPuts is proved: for every input the call returns true, and each argument reads afterwards as before. Condition: the listed tables of Go's library hold what the program's text lays (the card ties that).
-/
import Derived.Test.YthjlgpmajeafpaaGreatDoorCards
import Derived.Test.YthjlgpmajeafpaaGreatDoorSPutsMrg
import Derived.Test.YthjlgpmajeafpaaGreatDoorArgsMrg
import Derived.Test.YthjlgpmajeafpaaGreatDoorSPutsFactsMrg
namespace Go.Proofs.YthjlgpmajeafpaaGreatDoor
open Go Go.ChangeShapes Go.WideShapes Go.ChangeAt Go.RowKit
set_option linter.unusedVariables false

set_option maxRecDepth 100000 in
theorem liftedSPuts (os : Os) (started : os.Started) (H : Type) (enc : TypeId × Value → H) :
    ReturnsInHanded {} Tryz.checked os 10 .any (fun w args => (Rows.slotsPutsSpec.pre enc Tryz.prog Tryz.f10 [] false w args ∧ laidMetH Tryz.prog Rows.slotsPutsRow.laid w) ∧ sizedMet enc Tryz.prog Tryz.f10 (OpenSpec.ofChange Rows.slotsPutsSpec) false w args)
      (Rows.slotsPutsSpec.post enc Tryz.prog Tryz.f10 false true false false) := by
  refine returnsInHanded_of_change_and (C := Tryz.checked) (X := fun w _ => laidMetH Tryz.prog Rows.slotsPutsRow.laid w) (fun _ _ _ hh h => h.of_heap hh) own started (by kernel_rfl) Tryz.func10
    (ChangeSpec.witness_shaped (enc := enc) (C := Tryz.checked) (os := os) (X := fun w _ => laidMetH Tryz.prog Rows.slotsPutsRow.laid w) false (World.laidAll Tryz.prog os Rows.slotsPutsRow.laid) #[.agg #[.int .i64 0, .int .i64 0, .slice none 0 0], .agg #[.int .i64 0, .int .i64 0, .int .i64 0, .string ⟨#[]⟩, .slice none 0 0, .slice none 0 0, .int .i64 0, .int .i64 0, .slice none 0 0, .slice none 0 0]] 8 (World.laidAll_os _ _ _)
      (World.shaped_of_ZipB (by kernel_rfl) (by kernel_rfl)) (by kernel_rfl) (by kernel_rfl) (by kernel_rfl)
      (by rw [MakeChecks.laidMetH_plain _ _ _ (by kernel_rfl)]; exact laidMet_laidAll _ (by kernel_rfl) (by kernel_rfl))) ?_
  intro W base args ds gs before hval0 hW _ hWt hL _
  have hval : ∀ (j : Nat) t v, Tryz.f10.params[j]? = some t → args[j]? = some v → Value.okWide Tryz.prog W .any base t v := hval0
  have hW' := hW
  obtain ⟨p, q, hA0, hV, rfl, _, _⟩ := hW
  have hA : DataW.TrodAll enc Tryz.prog W 0 (fun _ => true) true Tryz.f10.params.toList args.toList ds p := hA0
  have hLt0 : ∀ n ∈ DataW.weightsEach Tryz.prog [55, 58] ds, n ≤ reachBytes := by
    have h := hWt
    obtain ⟨rfl, rfl⟩ := trodVars_none hV
    rw [List.append_nil] at h
    exact light_of h
  rw [Tryz.params10] at hA hval
  obtain ⟨v0, vs0, d0, ds0, p0, q0, hargs, rfl, rfl, h0, r0⟩ := trodAll_cons hA
  obtain ⟨v1, vs1, d1, ds1, p1, q1, rfl, rfl, rfl, h1, r1⟩ := trodAll_cons r0
  obtain ⟨rfl, rfl, rfl⟩ := trodAll_nil r1
  obtain rfl : args = #[v0, v1] := by cases args; simp_all
  obtain ⟨rfl, rfl⟩ := trodVars_none hV
  have l0 : Light 55 d0 := light_head hLt0
  have hLt1 := light_tail hLt0
  have l1 : Light 58 d1 := light_head hLt1
  have hLt2 := light_tail hLt1
  have k0 := h0
  obtain ⟨c0, x0, rfl, i0⟩ := arg_sta h0 l0
  have k1 := h1
  obtain ⟨c1, x1, rfl, i1⟩ := arg_slot h1 l1
  clear hA0 hval0
  simp only [List.append_nil] at hW'
  have hlt := hW'.lt
  rw [MakeChecks.laidMetH_plain _ _ _ (by kernel_rfl)] at hL
  have hT : Tabs W := tabs_of hL (by simp [Rows.slotsPutsRow]) (by simp [Rows.slotsPutsRow]) (by simp [Rows.slotsPutsRow])
  refine (slotsPuts_call c0 x0 c1 x1 W i0 i1 hT).mono fun e W' ⟨he, hb⟩ => ?_
  subst he
  exact ⟨_, rfl, _, _, _, [], _, [], hW', trodAll_mk1 (shut_bool Tryz.underlying4 _), trodAll_mk2 (Below.trod laidOut (by kernel_rfl) (of_decide_eq_true (by kernel_rfl)) k0 hb (fun x hx => hlt x (by simp [hx]))) (Below.trod laidOut (by kernel_rfl) (of_decide_eq_true (by kernel_rfl)) k1 hb (fun x hx => hlt x (by simp [hx]))), rfl, hb.frame _, fun h => by cases h⟩

theorem nameSPuts : Tryz.pinned.checked.prog.funcNamed Rows.slotsPutsRow.func = some 10 := by kernel_rfl
theorem wrapSPuts : Tryz.f10.isWrapper Tryz.pinned.checked.prog Rows.slotsPutsRow.wrapper Rows.slotsPutsRow.mainSum := by unfold Func.isWrapper; first | (rw [if_pos (by decide +kernel)]; kernel_rfl) | (rw [if_neg (by decide +kernel)]; exact ⟨rfl, rfl⟩)
theorem instSPuts : Tryz.f10.isInstance Tryz.pinned.checked.prog Rows.slotsPutsRow.origin Rows.slotsPutsRow.targs := of_decide_eq_true (by kernel_rfl)
theorem saidSPuts : Rows.SlotsPutsSaid :=
  OpenClaim.holds_of_wide 10 Tryz.f10 rfl rfl rfl rfl rfl rfl rfl ⟨rfl, rfl, rfl, rfl, rfl⟩ rfl rfl rfl rfl rfl nameSPuts Tryz.func10 factsSPuts
    instSPuts wrapSPuts (fun os started H enc _ => liftedSPuts os started H enc)
theorem looksSPuts : false = Tryz.pinned.checked.prog.looks [] := by kernel_rfl
theorem plainSPuts (f : FuncId) (fn : Func) (hf : Tryz.pinned.checked.prog.funcNamed "manifold/manifoldlaw30.SlotsPuts" = some f) (hfn : Tryz.pinned.checked.prog.funcs[f]? = some fn) :
    false = Tryz.pinned.checked.prog.looks [] ∧ ∀ (j : Nat) t, fn.params[j]? = some t → Tryz.pinned.checked.prog.wantsStandIn t = false := by
  obtain rfl : f = 10 := Option.some.inj ((show Tryz.prog.funcNamed "manifold/manifoldlaw30.SlotsPuts" = some 10 by kernel_rfl).symm.trans hf) |>.symm
  obtain rfl : fn = Tryz.f10 := (Option.some.inj (Tryz.func10.symm.trans hfn)).symm
  refine ⟨looksSPuts, fun j t ht => ?_⟩
  rw [Tryz.params10] at ht
  have hm : t ∈ [55, 58] := by simpa using Array.mem_of_getElem? ht
  have hall : ([55, 58].all fun u => !Tryz.prog.wantsStandIn u) = true := by kernel_rfl
  exact (show Tryz.prog.wantsStandIn t = false by simpa using List.all_eq_true.1 hall t hm)
theorem slotsPuts_holds : Rows.SlotsPutsCardSaid :=
  Claim7.holds_tied_plain_at .later [] _ _ _ _ saidSPuts (fun _ h => by cases h) (by kernel_rfl) (fun _ h => by cases h) slotsPuts_row_tie rfl ⟨rfl, rfl⟩ (by kernel_rfl) rfl plainSPuts (by kernel_rfl)
end Go.Proofs.YthjlgpmajeafpaaGreatDoor
