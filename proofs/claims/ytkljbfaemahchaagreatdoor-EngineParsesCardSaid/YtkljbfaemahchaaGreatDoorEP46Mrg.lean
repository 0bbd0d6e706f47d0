/-
  From an argument as the row reads it (DataW) to values, stamps and messages as data (IsVal, IsSt, IsMsg). Conditions: the argument reads; each slice and string is within the reach.
-/
import Derived.Test.YtkljbfaemahchaaGreatDoorEP2Mrg
import Derived.ProofKit
import Derived.OpenShut
import Derived.Carry
import Derived.Test.YtkljbfaemahchaaGreatDoorTie
import Derived.Lib.LaidU8T
import Derived.Lib.LaidTab
import Derived.PinnedBridge
import Derived.Lay
import Derived.Test.YtkljbfaemahchaaGreatDoorCards
import Derived.WalkKit
import Derived.SevenTiedAt
import Derived.Stop.Joined
import Derived.Test.YtkljbfaemahchaaGreatDoorEP13Mrg
namespace Go.Proofs.YtkljbfaemahchaaGreatDoor
set_option linter.unusedVariables false
set_option linter.unusedSimpArgs false
section
open Go Go.RowKit Go.ChangeShapes Go.WideShapes Go.ChangeAt
section
variable {H : Type} {enc : TypeId × Value → H} {hld : Bool} {W : World}
abbrev Light (t : TypeId) (d : DataW H) : Prop := ∀ n ∈ d.weights Tryz.prog t, n ≤ reachBytes
end
end
section
open Go Go.RowKit Go.Shelf
theorem tabIs_of_reads {P : Program} {W : World} {name : String} {k : IntKind} {zs : List Int} {g : Nat} {t e : TypeId} {n : Nat}
    (hg : P.globalNamed name = some g) (hty : (P.globals[g]?).map (·.type) = some t) (ht : P.underlying t = some (.array n e)) (he : P.underlying e = some (.int k)) (hce : P.cellsOf e = 1) (hct : P.cellsOf t = n)
    (h : Lib.VarReads P W name (Lib.tabData k zs)) : Lib.TabIs P W name k zs := by
  obtain ⟨g', t', cs, fuel, p, hg', ht', hvar, hd⟩ := h
  obtain rfl := Option.some.inj (hg.symm.trans hg')
  obtain rfl := Option.some.inj (hty.symm.trans ht')
  unfold Lib.TabIs
  rw [hvar, ← Lib.cells_of_tab ht he hce hct hd]
theorem pow_eq : (Rows.laid_internal_strconv_uint64pow10 : DataW Unit) = Lib.tabData .u64 Lib.pow10Tab := by kernel_rfl
theorem acc_eq : (Rows.laid_unicode_utf8_acceptRanges : DataW Unit) = Lib.acceptData := by kernel_rfl
theorem first_eq : (Rows.laid_unicode_utf8_first : DataW Unit) = Lib.firstData := Pinned.utf8First_eq
theorem gPowType : (Tryz.prog.globals[5]?).map (·.type) = some 348 := by kernel_rfl
theorem tabs_of {l : List (String × DataW Unit)} {W : World} (h : laidMet Tryz.prog l W) (h1 : ("unicode/utf8.first", Rows.laid_unicode_utf8_first) ∈ l) (h2 : ("unicode/utf8.acceptRanges", Rows.laid_unicode_utf8_acceptRanges) ∈ l)
    (h3 : ("internal/strconv.uint64pow10", Rows.laid_internal_strconv_uint64pow10) ∈ l) : Tabs W :=
  ⟨utf8Tabs_of_readsT (ρ := Tryz.laysValid_ren) (U8Types.of196 Tryz.laysValid) ⟨by kernel_rfl, by kernel_rfl, by kernel_rfl, by kernel_rfl, by kernel_rfl, by kernel_rfl, by kernel_rfl⟩ (first_eq ▸ Lib.laidMet.reads h h1) (acc_eq ▸ Lib.laidMet.reads h h2),
    tabIs_of_reads gPow gPowType Tryz.underlying348 Tryz.underlying263 (by kernel_rfl) (by kernel_rfl) (pow_eq ▸ Lib.laidMet.reads h h3)⟩
end
section
open Go Go.RowKit Go.ChangeShapes Go.WideShapes Go.ChangeAt
theorem own : ownKnob Tryz.prog.godebug = none := by kernel_rfl
theorem laidOut : laidOutB Tryz.prog = true := by kernel_rfl
section
variable {H : Type} {enc : TypeId × Value → H} {W : World}
theorem light_of {ts : List TypeId} {ds : List (DataW H)} (h : (DataW.weightsEach Tryz.prog ts ds).all (· ≤ reachBytes) = true) : ∀ n ∈ DataW.weightsEach Tryz.prog ts ds, n ≤ reachBytes := fun n hn => by simpa using List.all_eq_true.1 h n hn
theorem light_head {t : TypeId} {ts : List TypeId} {d : DataW H} {ds : List (DataW H)} (h : ∀ n ∈ DataW.weightsEach Tryz.prog (t :: ts) (d :: ds), n ≤ reachBytes) : Light t d := fun n hn => h n (by simp only [DataW.weightsEach, List.mem_append]; exact .inl hn)
theorem light_tail {t : TypeId} {ts : List TypeId} {d : DataW H} {ds : List (DataW H)} (h : ∀ n ∈ DataW.weightsEach Tryz.prog (t :: ts) (d :: ds), n ≤ reachBytes) : ∀ n ∈ DataW.weightsEach Tryz.prog ts ds, n ≤ reachBytes := fun n hn => h n (by simp only [DataW.weightsEach, List.mem_append]; exact .inr hn)
end
end
section
open Go Go.RowKit Go.ChangeShapes Go.WideShapes Go.ChangeAt
section
variable {H : Type} {enc : TypeId × Value → H} {hld : Bool} {W : World}
set_option maxRecDepth 100000 in
theorem arg_str {w' : World} {r : Reach} {b0 : Nat} {v : Value} (hv : Value.okWide Tryz.prog w' r b0 9 v) : ∃ s : ByteArray, v = .string s := okWide_string Tryz.underlying9 hv
end
end
end Go.Proofs.YtkljbfaemahchaaGreatDoor
