/-
  A row's argument that is a list of messages, or a string, opened for a walk. No conditions beyond those of each lemma.
-/
import Derived.Test.YtcejackabdmpkaaGreatDoorArgsMrg
import Derived.Test.YtcejackabdmpkaaGreatDoorG5Mrg
namespace Go.Proofs.YtcejackabdmpkaaGreatDoor
open Go Go.RowKit Go.ChangeShapes Go.WideShapes Go.ChangeAt
set_option linter.unusedVariables false
section
variable {H : Type} {enc : TypeId × Value → H} {hld : Bool} {W : World}
set_option maxRecDepth 100000 in
theorem open_msgs {fuel : Nat} {cs : List Value} {x : DataW H × List MemPlace} (h : Rd enc hld W fuel 44 cs = some x) (hw : Light 44 x.1) : ∃ (a : Option Addr) (n c : Nat) (l : List Msg), cs = [.slice a n c] ∧ IsMsgs (· < W.heap.size) W a n c l := by
  obtain ⟨a, n, c, e, hc, hb, hr⟩ := open_row' Tryz.underlying44 10 152 (by decide) cellsMsg bytesMsg h hw
  rcases hr with h0 | ⟨b, o, rfl, hlt, he⟩
  · exact ⟨a, n, c, [], e, ⟨h0, hc, hb, .inl rfl⟩⟩
  · obtain ⟨l, hll, hq⟩ := pick_list (Q := fun i (d : Msg) => ∃ x, AtM W b (o + i * 10) x ∧ IsMsg (· < W.heap.size) W x d) n fun i hi => by
      obtain ⟨cs', y, f, hf', hcl, hc, hr, hwy⟩ := he i hi
      obtain ⟨x, d, rfl, hm⟩ := open_msg hr hwy
      exact ⟨d, x, ⟨hc 0 (by decide), hc 1 (by decide), hc 2 (by decide), hc 3 (by decide), hc 4 (by decide), hc 5 (by decide), hc 6 (by decide), hc 7 (by decide), hc 8 (by decide), hc 9 (by decide)⟩, hm⟩
    exact ⟨_, n, c, l, e, ⟨hll.symm, hc, hb, .inr ⟨b, o, rfl, hlt, hq⟩⟩⟩
set_option maxRecDepth 100000 in
theorem arg_msgs {w' : World} {r : Reach} {b0 : Nat} {v : Value} {d : DataW H} {p : List MemPlace} (hv : Value.okWide Tryz.prog w' r b0 44 v) (h : DataW.Trod enc Tryz.prog W 0 (fun _ => true) true 44 v d p) (hw : Light 44 d) :
    ∃ (a : Option Addr) (n c : Nat) (l : List Msg), v = .slice a n c ∧ IsMsgs (· < W.heap.size) W a n c l := by
  obtain ⟨a, n, c, rfl⟩ := okWide_slice Tryz.underlying44 hv
  obtain ⟨fuel, hr⟩ := h
  obtain ⟨a', n', c', l, e, hi⟩ := open_msgs hr hw
  simp only [Value.cells, List.cons.injEq, Value.slice.injEq, and_true] at e
  obtain ⟨rfl, rfl, rfl⟩ := e
  exact ⟨a, n, c, l, rfl, hi⟩
set_option maxRecDepth 100000 in
theorem arg_str {w' : World} {r : Reach} {b0 : Nat} {v : Value} (hv : Value.okWide Tryz.prog w' r b0 9 v) : ∃ s : ByteArray, v = .string s := okWide_string Tryz.underlying9 hv
end
end Go.Proofs.YtcejackabdmpkaaGreatDoor
