/-
  The row's arguments, opened one by one for a walk, and read again behind the call; what every card here shares. No conditions beyond those of each lemma.
-/
import Derived.Test.YthjlgpmajeafpaaGreatDoorOpenV
import Derived.Test.YthjlgpmajeafpaaGreatDoorTabsOf
import Derived.Test.YthjlgpmajeafpaaGreatDoorCards
import Derived.Test.YthjlgpmajeafpaaGreatDoorTie
import Derived.WalkKit
import Derived.ProofKit
import Derived.OpenShut
import Derived.Lay
import Derived.SevenTiedAt
import Derived.Stop.Joined
namespace Go.Proofs.YthjlgpmajeafpaaGreatDoor
open Go Go.RowKit Go.ChangeShapes Go.WideShapes Go.ChangeAt
set_option linter.unusedVariables false

theorem own : ownKnob Tryz.prog.godebug = none := by kernel_rfl
theorem laidOut : laidOutB Tryz.prog = true := by kernel_rfl
theorem agg_of_cells {v : Value} {l : List Value} (h : v.cells.toList = l) (hl : l.length ≠ 1) : v = .agg l.toArray := by
  cases v <;> first
    | (rename_i xs; have h' : xs.toList = l := h; rw [← h'])
    | (exfalso; apply hl; rw [← h]; rfl)
section
variable {H : Type} {enc : TypeId × Value → H} {W : World}
theorem arg_val {v : Value} {d : DataW H} {p : List MemPlace} (h : DataW.Trod enc Tryz.prog W 0 (fun _ => true) true 28 v d p) (hw : Light 28 d) : ∃ (c : VC) (x : Val), v = c.v ∧ IsVal (· < W.heap.size) W c x := by
  obtain ⟨fuel, hr⟩ := h
  obtain ⟨c, x, hc, hv⟩ := open_val fuel _ _ hr hw
  exact ⟨c, x, agg_of_cells hc (by simp [VC.cs]), hv⟩
theorem arg_st {v : Value} {d : DataW H} {p : List MemPlace} (h : DataW.Trod enc Tryz.prog W 0 (fun _ => true) true 24 v d p) (hw : Light 24 d) : ∃ (c : SC) (x : St), v = c.v ∧ IsSt (· < W.heap.size) W c x := by
  obtain ⟨fuel, hr⟩ := h
  obtain ⟨c, x, hc, hv⟩ := open_st hr hw
  exact ⟨c, x, agg_of_cells hc (by simp), hv⟩
theorem arg_msg {v : Value} {d : DataW H} {p : List MemPlace} (h : DataW.Trod enc Tryz.prog W 0 (fun _ => true) true 30 v d p) (hw : Light 30 d) : ∃ (c : MC) (x : Msg), v = c.v ∧ IsMsg (· < W.heap.size) W c x := by
  obtain ⟨fuel, hr⟩ := h
  obtain ⟨c, x, hc, hv⟩ := open_msg hr hw
  exact ⟨c, x, agg_of_cells hc (by simp), hv⟩
theorem light_of {ts : List TypeId} {ds : List (DataW H)} (h : (DataW.weightsEach Tryz.prog ts ds).all (· ≤ reachBytes) = true) : ∀ n ∈ DataW.weightsEach Tryz.prog ts ds, n ≤ reachBytes := fun n hn => by simpa using List.all_eq_true.1 h n hn
theorem light_head {t : TypeId} {ts : List TypeId} {d : DataW H} {ds : List (DataW H)} (h : ∀ n ∈ DataW.weightsEach Tryz.prog (t :: ts) (d :: ds), n ≤ reachBytes) : Light t d := fun n hn => h n (by simp only [DataW.weightsEach, List.mem_append]; exact .inl hn)
theorem light_tail {t : TypeId} {ts : List TypeId} {d : DataW H} {ds : List (DataW H)} (h : ∀ n ∈ DataW.weightsEach Tryz.prog (t :: ts) (d :: ds), n ≤ reachBytes) : ∀ n ∈ DataW.weightsEach Tryz.prog ts ds, n ≤ reachBytes := fun n hn => h n (by simp only [DataW.weightsEach, List.mem_append]; exact .inr hn)
end
end Go.Proofs.YthjlgpmajeafpaaGreatDoor
