/-
  message.body returns the error of a body. Conditions: the value can be read as data; Tabs.
-/
import Derived.Test.YthjlgpmajeafpaaGreatDoorCheck2
import Derived.Test.YthjlgpmajeafpaaGreatDoorStamp
namespace Go.Proofs.YthjlgpmajeafpaaGreatDoor
open Go Go.RowKit Go.Shelf
set_option linter.unusedVariables false
set_option linter.unusedSimpArgs false

def bodyE (d : Val) : Int := if isNullV d = true then 0 else if kindV d ≠ 9 then 18 else chkVal d

theorem check_later (c : VC) (d : Val) (w : World) (hd : IsVal (· < w.heap.size) w c d) (hT : Tabs w) (w1 : World) (hb : Below w.heap.size w w1) : Calls Tryz.prog 75 #[c.v] w1 (fun e w' => e = .returned (.int .i64 (chkVal d)) ∧ Below w1.heap.size w1 w') :=
  check_call c d w1 (hd.same fun b h => ⟨Nat.lt_of_lt_of_le h hb.size, hb.block b h⟩) (hT.below hb)

set_option maxRecDepth 100000 in
set_option maxHeartbeats 2000000 in
theorem body_call (c : VC) (d : Val) (w : World) (hd : IsVal (· < w.heap.size) w c d) (hT : Tabs w) : Calls Tryz.prog 106 #[c.v] w fun e w' => e = .returned (.int .i64 (bodyE d)) ∧ Below w.heap.size w w' := by
  have HC := hid (check_later c d w hd hT)
  have e1 := isNullV_of hd
  have e2 := kindV_of hd
  have HE := hid (show bodyE d = if isNullB c.k c.i c.s c.t c.ll c.fl = true then 0 else if c.k ≠ 9 then 18 else chkVal d by rw [bodyE, e1, e2])
  clear e1 e2 hd hT
  obtain ⟨k, i, s, t, la, ll, lc, fa, fl, fc⟩ := c
  dsimp only at HE HC ⊢
  obtain ⟨w1, hw1⟩ : ∃ w1, w1 = w.alloc (.cells #[.int .i64 k, .int .i64 i, .int .i64 s, .string t, .slice la ll lc, .slice fa fl fc] 28) := ⟨_, rfl⟩
  have hb1 : Below w.heap.size w w1 := by rw [hw1]; exact (Below.refl _ w).alloc (Nat.le_refl _) _
  have hbox : w1.heap[w.heap.size]? = some (vObj ⟨k, i, s, t, la, ll, lc, fa, fl, fc⟩) := by rw [hw1]; exact heap_alloc_new w _
  have six : ∀ w2, Below w1.heap.size w1 w2 → Six w2 w.heap.size ⟨k, i, s, t, la, ll, lc, fa, fl, fc⟩ ∧ Below w.heap.size w w2 := fun w2 h => ⟨sixOf (heapExt h hbox), hb1.trans (h.mono hb1.size)⟩
  rw [hw1] at six
  have SIX := hid six
  clear six hbox hb1 hw1
  go_enter Tryz.func106, Tryz.ntmps106
  cases q1 : isNullB k i s t ll fl with
  | true =>
    have HE1 := hid (show bodyE d = 0 by rw [HE.out, q1, if_pos rfl])
    go_wp2_with (go_at_call 76; refine (isNull_call k i s t la ll lc fa fl fc _).mono ?_; rintro e w2 ⟨he, hb2⟩; rw [q1] at he; subst he; obtain ⟨⟨j1, j2, j3, j4, j5, j6⟩, hb3⟩ := SIX.out _ hb2)
    go_ret
    exact ⟨by rw [HE1.out]; rfl, hb3⟩
  | false =>
  by_cases q2 : k = 9
  · have HE1 := hid (show bodyE d = chkVal d by rw [HE.out, q1, if_neg (by decide), if_neg (by simpa using q2)])
    subst q2
    go_wp2_with (first
      | (go_at_call 76; refine (isNull_call 9 i s t la ll lc fa fl fc _).mono ?_; rintro e w2 ⟨he, hb2⟩; rw [q1] at he; subst he; obtain ⟨⟨j1, j2, j3, j4, j5, j6⟩, hb3⟩ := SIX.out _ hb2)
      | (go_at_call 75; refine (HC.out _ hb3).mono ?_; rintro e w4 ⟨rfl, hb4⟩))
    go_ret
    exact ⟨by rw [HE1.out]; rfl, hb3.trans (hb4.mono hb3.size)⟩
  · have HE1 := hid (show bodyE d = 18 by rw [HE.out, q1, if_neg (by decide), if_pos q2])
    go_wp2_with (go_at_call 76; refine (isNull_call k i s t la ll lc fa fl fc _).mono ?_; rintro e w2 ⟨he, hb2⟩; rw [q1] at he; subst he; obtain ⟨⟨j1, j2, j3, j4, j5, j6⟩, hb3⟩ := SIX.out _ hb2)
    go_ret
    exact ⟨by rw [HE1.out]; rfl, hb3⟩

end Go.Proofs.YthjlgpmajeafpaaGreatDoor
