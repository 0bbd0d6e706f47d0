/-
  message.Check and manifoldlaw29.check return the same error of a message. Conditions: the message can be read as data; Tabs.
-/
import Derived.Test.YthjlgpmajeafpaaGreatDoorBody
namespace Go.Proofs.YthjlgpmajeafpaaGreatDoor
open Go Go.RowKit Go.Shelf
set_option linter.unusedVariables false
set_option linter.unusedSimpArgs false

def lateB : Option Int → Int → Bool
  | none, _ => false
  | some y, x => decide (x ≤ y)
def entL : Option Int → List Int → Int
  | _, [] => 0
  | p, x :: r => if entryB x = false then 2 else if lateB p x = true then 24 else entL (some x) r
theorem entL_cons (p : Option Int) (x : Int) (r : List Int) : entL p (x :: r) = if entryB x = false then 2 else if lateB p x = true then 24 else entL (some x) r := by cases p <;> rfl
def entAt (es : List Int) (k : Nat) : Int := entL (if k = 0 then none else some (es.getD (k - 1) 0)) (es.drop k)
theorem entAt_end (es : List Int) : entAt es es.length = 0 := by rw [entAt, List.drop_length]; split <;> rfl
theorem entAt_bad (es : List Int) (k : Nat) (h : k < es.length) (hb : entryB es[k] = false) : entAt es k = 2 := by
  rw [entAt, List.drop_eq_getElem_cons h, entL_cons, if_pos hb]
theorem entAt_late (es : List Int) (k : Nat) (h : k < es.length) (hb : entryB es[k] = true) (h0 : 0 < k) (hl : es[k] ≤ es[k - 1]) : entAt es k = 24 := by
  rw [entAt, List.drop_eq_getElem_cons h, entL_cons, if_neg (by rw [hb]; decide), if_neg (by omega : ¬ k = 0)]
  rw [if_pos (by simp [lateB, List.getD_eq_getElem?_getD, show k - 1 < es.length by omega, hl])]
theorem entAt_step (es : List Int) (k : Nat) (h : k < es.length) (hb : entryB es[k] = true) (hl : k = 0 ∨ es[k - 1] < es[k]) : entAt es k = entAt es (k + 1) := by
  have e : entAt es (k + 1) = entL (some es[k]) (es.drop (k + 1)) := by
    rw [entAt, if_neg (by omega)]
    simp [List.getD_eq_getElem?_getD, h]
  rw [e, entAt, List.drop_eq_getElem_cons h, entL_cons, if_neg (by rw [hb]; decide), if_neg]
  rcases hl with rfl | hl
  · simp [lateB]
  · by_cases hk : k = 0
    · subst hk; simp [lateB]
    · rw [if_neg hk]; simp [lateB, List.getD_eq_getElem?_getD, show k - 1 < es.length by omega]; omega

def msgE (d : Msg) : Int := if stampE d.st ≠ 0 then stampE d.st else if heavyB d.m = true then 38 else if d.es = [] then 4 else if 4096 < d.es.length then 9 else if entAt d.es 0 ≠ 0 then entAt d.es 0 else bodyE d.b

abbrev mObj (c : MC) : Obj := .cells #[.int .i64 c.st.e, .slice c.st.a c.st.n c.st.c, .int .i64 c.m, .slice c.a c.n c.c, .int .i64 c.b.k, .int .i64 c.b.i, .int .i64 c.b.s, .string c.b.t, .slice c.b.la c.b.ll c.b.lc, .slice c.b.fa c.b.fl c.b.fc] 30
def Ten (W : World) (B : Nat) (c : MC) : Prop := W.cell? ⟨B, 0, none⟩ = some (.int .i64 c.st.e) ∧ W.cell? ⟨B, 1, none⟩ = some (.slice c.st.a c.st.n c.st.c) ∧ W.cell? ⟨B, 2, none⟩ = some (.int .i64 c.m) ∧ W.cell? ⟨B, 3, none⟩ = some (.slice c.a c.n c.c) ∧
  W.cell? ⟨B, 4, none⟩ = some (.int .i64 c.b.k) ∧ W.cell? ⟨B, 5, none⟩ = some (.int .i64 c.b.i) ∧ W.cell? ⟨B, 6, none⟩ = some (.int .i64 c.b.s) ∧ W.cell? ⟨B, 7, none⟩ = some (.string c.b.t) ∧ W.cell? ⟨B, 8, none⟩ = some (.slice c.b.la c.b.ll c.b.lc) ∧ W.cell? ⟨B, 9, none⟩ = some (.slice c.b.fa c.b.fl c.b.fc)
theorem tenOf {W : World} {B : Nat} {c : MC} (h : W.heap[B]? = some (mObj c)) : Ten W B c :=
  ⟨cellOf h 0, cellOf h 1, cellOf h 2, cellOf h 3, cellOf h 4, cellOf h 5, cellOf h 6, cellOf h 7, cellOf h 8, cellOf h 9⟩

/-- What a message's box and its calls give, whatever came behind it. -/
structure MsgAt (w w1 : World) (c : MC) (d : Msg) : Prop where
  ten : Ten w1 w.heap.size c
  bel : Below w.heap.size w w1
  st : Calls Tryz.prog 127 #[c.st.v] w1 fun e w' => e = .returned (.int .i64 (stampE d.st)) ∧ Below w1.heap.size w1 w'
  body : Calls Tryz.prog 106 #[c.b.v] w1 fun e w' => e = .returned (.int .i64 (bodyE d.b)) ∧ Below w1.heap.size w1 w'
  body' : IsVal (· < w1.heap.size) w1 c.b d.b ∧ Tabs w1
  es : IsInts (· < w1.heap.size) w1 c.a c.n c.c d.es
theorem msgAt (c : MC) (d : Msg) (w : World) (hd : IsMsg (· < w.heap.size) w c d) (hT : Tabs w) (w1 : World) (hb : Below (w.alloc (mObj c)).heap.size (w.alloc (mObj c)) w1) : MsgAt w w1 c d := by
  have hb0 : Below w.heap.size w (w.alloc (mObj c)) := (Below.refl _ w).alloc (Nat.le_refl _) _
  have hbw : Below w.heap.size w w1 := hb0.trans (hb.mono hb0.size)
  have hd1 : IsMsg (· < w1.heap.size) w1 c d := hd.same fun b h => ⟨Nat.lt_of_lt_of_le h hbw.size, hbw.block b h⟩
  exact ⟨tenOf (heapExt hb (heap_alloc_new w _)), hbw, stampCheck_call _ _ _ w1 w1 hd1.st (fun b h => ⟨h, rfl⟩), body_call _ _ w1 hd1.b (hT.below hbw), ⟨hd1.b, hT.below hbw⟩, hd1.es⟩

set_option maxRecDepth 100000 in
set_option maxHeartbeats 4000000 in
theorem msgCheck_call (c : MC) (d : Msg) (w : World) (hd : IsMsg (· < w.heap.size) w c d) (hT : Tabs w) : Calls Tryz.prog 80 #[c.v] w fun e w' => e = .returned (.int .i64 (msgE d)) ∧ Below w.heap.size w w' := by
  have HM := hid (msgAt c d w hd hT)
  have hm := hd.m
  have HL := hid hd.es.len
  clear hd hT
  obtain ⟨⟨ce, sa, sn, sc⟩, m, a, n, cap, ⟨k, i, s, t, la, ll, lc, fa, fl, fc⟩⟩ := c
  dsimp only at hm HM HL ⊢
  have HE := hid (show msgE d = if stampE d.st ≠ 0 then stampE d.st else if heavyB m = true then 38 else if n = 0 then 4 else if 4096 < n then 9 else if entAt d.es 0 ≠ 0 then entAt d.es 0 else bodyE d.b by
    have e1 : (d.es = []) = (n = 0) := by rw [HL.out]; simp
    rw [msgE, hm, HL.out]
    simp)
  clear hm
  obtain ⟨u, hu⟩ : ∃ u, u = stampE d.st := ⟨_, rfl⟩
  rw [← hu] at HE
  have hm' : ∀ w1, Below (w.alloc (mObj ⟨⟨ce, sa, sn, sc⟩, m, a, n, cap, ⟨k, i, s, t, la, ll, lc, fa, fl, fc⟩⟩)).heap.size (w.alloc (mObj ⟨⟨ce, sa, sn, sc⟩, m, a, n, cap, ⟨k, i, s, t, la, ll, lc, fa, fl, fc⟩⟩)) w1 →
      MsgAt w w1 ⟨⟨ce, sa, sn, sc⟩, m, a, n, cap, ⟨k, i, s, t, la, ll, lc, fa, fl, fc⟩⟩ d ∧ Calls Tryz.prog 127 #[SC.v ⟨ce, sa, sn, sc⟩] w1 fun e w' => e = .returned (.int .i64 u) ∧ Below w1.heap.size w1 w' := fun w1 h => ⟨HM.out w1 h, by rw [hu]; exact (HM.out w1 h).st⟩
  dsimp only [mObj, SC.v, VC.v] at hm'
  have h0 := hm' _ (Below.refl _ _)

  have HM' := hid hm'
  clear HM hu hm'
  obtain ⟨h0, hst⟩ := h0
  have h0t := h0.ten
  dsimp only [Ten] at h0t
  obtain ⟨e0, e1, e2, e3, e4, e5, e6, e7, e8, e9⟩ := h0t
  clear h0
  have HST := hid hst
  clear hst
  dsimp only [MC.v, SC.v, VC.v]
  go_enter Tryz.func80, Tryz.ntmps80
  by_cases q1 : u = 0
  · subst q1
    cases q2 : heavyB m with
    | true =>
      have r := hid (show msgE d = 38 by rw [HE.out, if_neg (by decide), q2, if_pos rfl])
      go_wp2_with (first
        | (go_at_call 127; refine HST.out.mono ?_; rintro e w2 ⟨rfl, hb2⟩; obtain ⟨⟨⟨j0, j1, j2, j3, j4, j5, j6, j7, j8, j9⟩, hbw, _, hbody, _, hes⟩, _⟩ := HM'.out _ hb2; have HB := hid hbody; clear hbody; have HX := hid hes; clear hes e0 e1 e2 e3 e4 e5 e6 e7 e8 e9)
        | (go_at_call 91; refine (heavy_call m _).mono ?_; rintro e w3 ⟨he, rfl⟩; rw [q2] at he; subst he))
      go_ret
      exact ⟨by rw [r.out]; rfl, hbw⟩
    | false =>
    by_cases q3 : n = 0
    · have r := hid (show msgE d = 4 by rw [HE.out, if_neg (by decide), q2, if_neg (by decide), if_pos q3])
      subst q3
      go_wp2_with (first
        | (go_at_call 127; refine HST.out.mono ?_; rintro e w2 ⟨rfl, hb2⟩; obtain ⟨⟨⟨j0, j1, j2, j3, j4, j5, j6, j7, j8, j9⟩, hbw, _, hbody, _, hes⟩, _⟩ := HM'.out _ hb2; have HB := hid hbody; clear hbody; have HX := hid hes; clear hes e0 e1 e2 e3 e4 e5 e6 e7 e8 e9)
        | (go_at_call 91; refine (heavy_call m _).mono ?_; rintro e w3 ⟨he, rfl⟩; rw [q2] at he; subst he))
      go_ret
      exact ⟨by rw [r.out]; rfl, hbw⟩
    have q3' : (0 : Int) < (n : Int) := by omega
    by_cases q4 : 4096 < n
    · have r := hid (show msgE d = 9 by rw [HE.out, if_neg (by decide), q2, if_neg (by decide), if_neg q3, if_pos q4])
      have q4' : (4096 : Int) < (n : Int) := by omega
      go_wp2_with (first
        | (go_at_call 127; refine HST.out.mono ?_; rintro e w2 ⟨rfl, hb2⟩; obtain ⟨⟨⟨j0, j1, j2, j3, j4, j5, j6, j7, j8, j9⟩, hbw, _, hbody, _, hes⟩, _⟩ := HM'.out _ hb2; have HB := hid hbody; clear hbody; have HX := hid hes; clear hes e0 e1 e2 e3 e4 e5 e6 e7 e8 e9)
        | (go_at_call 91; refine (heavy_call m _).mono ?_; rintro e w3 ⟨he, rfl⟩; rw [q2] at he; subst he))
      go_ret
      exact ⟨by rw [r.out]; rfl, hbw⟩
    have q4' : (n : Int) ≤ 4096 := by omega
    have q5' : ((n : Int) == 0) = false := by simp; omega
    have q6' : decide ((4096 : Int) < (n : Int)) = false := by simp; omega
    have R := hid (show msgE d = if entAt d.es 0 ≠ 0 then entAt d.es 0 else bodyE d.b by rw [HE.out, if_neg (by decide), q2, if_neg (by decide), if_neg q3, if_neg q4])
    go_wp2_with (first
      | (go_at_call 127; refine HST.out.mono ?_; rintro e w2 ⟨rfl, hb2⟩; obtain ⟨⟨⟨j0, j1, j2, j3, j4, j5, j6, j7, j8, j9⟩, hbw, _, hbody, _, hes⟩, _⟩ := HM'.out _ hb2; have HB := hid hbody; clear hbody; have HX := hid hes; clear hes e0 e1 e2 e3 e4 e5 e6 e7 e8 e9)
      | (go_at_call 91; refine (heavy_call m _).mono ?_; rintro e w3 ⟨he, rfl⟩; rw [q2] at he; subst he))
    go_loop [29] (fun i => ∃ q : Nat, q ≤ n ∧ i = .int .i64 q ∧ entAt d.es 0 = entAt d.es q) (fun i => n - (intOf i).toNat)
    case atStart => exact ⟨0, Nat.zero_le _, rfl, rfl⟩
    case round =>
      obtain ⟨q, hq, rfl, hent⟩ := hrel
      have HN := hid hent
      clear hent
      by_cases hlt : q < n
      · have hql : q < d.es.length := by have := HL.out; omega
        obtain ⟨b, o, rfl, hb, hc⟩ := HX.out.slot (by omega)
        have hc0 := hc q hql
        obtain ⟨z, hz⟩ : ∃ z, z = d.es[q] := ⟨_, rfl⟩
        rw [← hz] at hc0
        have HZ := hid hz
        clear hz
        have hlt' : (q : Int) < (n : Int) := by omega
        have hq0 : (0 : Int) ≤ (q : Int) := by omega
        cases hz1 : entryB z with
        | false =>
          clear hc
          have r := hid (show msgE d = 2 by rw [R.out, HN.out, entAt_bad _ q hql (by rw [← HZ.out]; exact hz1), if_pos (by decide)])
          go_wp2_with (go_at_call 128; refine (entry_call z _).mono ?_; rintro e w3 ⟨he, rfl⟩; rw [hz1] at he; subst he)
          go_ret
          exact ⟨by rw [r.out]; rfl, hbw⟩
        | true =>
          by_cases hk0 : q = 0
          · have hk0' : ¬ (0 : Int) < (q : Int) := by omega
            clear hc
            have r := hid (entAt_step d.es q hql (by rw [← HZ.out]; exact hz1) (.inl hk0))
            have HK := hid hk0
            clear hk0
            go_wp2_with (go_at_call 128; refine (entry_call z _).mono ?_; rintro e w3 ⟨he, rfl⟩; rw [hz1] at he; subst he)
            go_round
            case rel => exact ⟨q + 1, by omega, by go_num, HN.out.trans r.out⟩
            case measure => simp [intOf]; omega
          · have hc1 := hc (q - 1) (by omega)
            clear hc
            obtain ⟨y, hy⟩ : ∃ y, y = d.es[q - 1] := ⟨_, rfl⟩
            rw [← hy] at hc1
            have HY := hid hy
            clear hy
            have hk0' : (0 : Int) < (q : Int) := by omega
            have hk1' : (0 : Int) ≤ (q : Int) - 1 := by omega
            have hk2' : (q : Int) - 1 < (n : Int) := by omega
            have hc2 : w2.cell? ⟨b, o + ((q : Int) - 1).toNat, none⟩ = some (.int .i64 y) := by rw [show ((q : Int) - 1).toNat = q - 1 by omega]; exact hc1
            have hwr : IntKind.i64.wrap ((q : Int) - 1) = (q : Int) - 1 := IntWalk.i64_in _ (by omega)
            have HK := hid hk0
            clear hk0
            by_cases hle : z ≤ y
            · have r := hid (show msgE d = 24 by rw [R.out, HN.out, entAt_late _ q hql (by rw [← HZ.out]; exact hz1) (by have := HK.out; omega) (by rw [← HZ.out, ← HY.out]; exact hle), if_pos (by decide)])
              go_wp2_with (go_at_call 128; refine (entry_call z _).mono ?_; rintro e w3 ⟨he, rfl⟩; rw [hz1] at he; subst he)
              go_ret
              exact ⟨by rw [r.out]; rfl, hbw⟩
            · have r := hid (entAt_step d.es q hql (by rw [← HZ.out]; exact hz1) (.inr (by rw [← HZ.out, ← HY.out]; omega)))
              go_wp2_with (go_at_call 128; refine (entry_call z _).mono ?_; rintro e w3 ⟨he, rfl⟩; rw [hz1] at he; subst he)
              go_round
              case rel => exact ⟨q + 1, by omega, by go_num, HN.out.trans r.out⟩
              case measure => simp [intOf]; omega
      · obtain rfl : q = n := by omega
        have r := hid (show msgE d = bodyE d.b by rw [R.out, HN.out, show q = d.es.length from HL.out, entAt_end, if_neg (by decide)])
        go_wp2_with (go_at_call 106; refine HB.out.mono ?_; rintro e w4 ⟨rfl, hb4⟩)
        go_ret
        exact ⟨by rw [r.out]; rfl, hbw.trans (hb4.mono hbw.size)⟩
  · have q1' := hid (show msgE d = u by rw [HE.out, if_pos q1])
    go_wp2_with (go_at_call 127; refine HST.out.mono ?_; rintro e w2 ⟨rfl, hb2⟩; have hbw := (HM'.out _ hb2).1.bel)
    go_ret
    exact ⟨by rw [q1'.out]; rfl, hbw⟩
end Go.Proofs.YthjlgpmajeafpaaGreatDoor
