/-
  Stamps and messages as data; contracts of stamp.Check, stamp.made, stamp.Arrival. Condition: the stamp can be read as data.
-/
import Derived.Test.YthjlgpmajeafpaaGreatDoorSmall
import Derived.WalkLawsBesides
import Derived.Laws.EntriesVeiled
import Derived.LoopNIn
import Derived.RangeFuncCalls
import Derived.RangeFuncLeaves
import Derived.Shelf.Abstract
namespace Go.Proofs.YthjlgpmajeafpaaGreatDoor
open Go Go.RowKit Go.Shelf
set_option linter.unusedVariables false
set_option linter.unusedSimpArgs false

/-- A stamp, and a message, as data. -/
structure St where
  e : Int
  ps : List Int
structure Msg where
  st : St
  m : Int
  es : List Int
  b : Val
/-- Their cells. -/
structure SC where
  e : Int
  a : Option Addr
  n : Nat
  c : Nat
structure MC where
  st : SC
  m : Int
  a : Option Addr
  n : Nat
  c : Nat
  b : VC
abbrev SC.v (c : SC) : Value := .agg #[.int .i64 c.e, .slice c.a c.n c.c]
abbrev MC.v (c : MC) : Value := .agg #[.int .i64 c.st.e, .slice c.st.a c.st.n c.st.c, .int .i64 c.m, .slice c.a c.n c.c, .int .i64 c.b.k, .int .i64 c.b.i, .int .i64 c.b.s, .string c.b.t, .slice c.b.la c.b.ll c.b.lc, .slice c.b.fa c.b.fl c.b.fc]

/-- A slice of numbers that can be read, in a block that S holds of. -/
structure IsInts (S : Nat → Prop) (w : World) (a : Option Addr) (n c : Nat) (xs : List Int) : Prop where
  len : n = xs.length
  cap : n ≤ c
  big : n * 8 ≤ 140737488351232
  rng : ∀ x ∈ xs, I64 x
  at' : xs = [] ∨ ∃ b o, a = some ⟨b, o, none⟩ ∧ S b ∧ ∀ (j : Nat) (h : j < xs.length), w.cell? ⟨b, o + j, none⟩ = some (.int .i64 xs[j])
theorem IsInts.same {S S' : Nat → Prop} {w w' : World} {a : Option Addr} {n c : Nat} {xs : List Int} (hs : ∀ b, S b → S' b ∧ w'.heap[b]? = w.heap[b]?) (h : IsInts S w a n c xs) : IsInts S' w' a n c xs :=
  ⟨h.len, h.cap, h.big, h.rng, h.at'.imp id fun ⟨b, o, ha, hb, hx⟩ => ⟨b, o, ha, (hs b hb).1, fun j hj => (World.cell?_of_block (w := w) (a := ⟨b, o + j, none⟩) (hs b hb).2).trans (hx j hj)⟩⟩
structure IsSt (S : Nat → Prop) (w : World) (c : SC) (d : St) : Prop where
  e : c.e = d.e
  re : I64 d.e
  ps : IsInts S w c.a c.n c.c d.ps
theorem IsSt.same {S S' : Nat → Prop} {w w' : World} {c : SC} {d : St} (hs : ∀ b, S b → S' b ∧ w'.heap[b]? = w.heap[b]?) (h : IsSt S w c d) : IsSt S' w' c d := ⟨h.e, h.re, h.ps.same hs⟩
structure IsMsg (S : Nat → Prop) (w : World) (c : MC) (d : Msg) : Prop where
  st : IsSt S w c.st d.st
  m : c.m = d.m
  rm : I64 d.m
  es : IsInts S w c.a c.n c.c d.es
  b : IsVal S w c.b d.b
theorem IsMsg.same {S S' : Nat → Prop} {w w' : World} {c : MC} {d : Msg} (hs : ∀ b, S b → S' b ∧ w'.heap[b]? = w.heap[b]?) (h : IsMsg S w c d) : IsMsg S' w' c d := ⟨h.st.same hs, h.m, h.rm, h.es.same hs, h.b.same hs⟩

def badB (n : Int) : Bool := decide (n < 0) || decide (65535 < n)
theorem bad_call (n : Int) (w : World) : Calls Tryz.prog 160 #[.int .i64 n] w fun e w' => e = .returned (.bool (badB n)) ∧ w = w' := by
  go_enter Tryz.func160, Tryz.ntmps160
  by_cases h1 : n < 0 <;> by_cases h2 : 65535 < n
  all_goals go_wp2
  all_goals go_ret
  all_goals exact ⟨by simp [badB, *], rfl⟩

theorem IsInts.slot {S : Nat → Prop} {w : World} {a : Option Addr} {n c : Nat} {xs : List Int} (h : IsInts S w a n c xs) (hn : 0 < n) : ∃ b o, a = some ⟨b, o, none⟩ ∧ S b ∧ ∀ (j : Nat) (h : j < xs.length), w.cell? ⟨b, o + j, none⟩ = some (.int .i64 xs[j]) := by
  rcases h.at' with h0 | h1
  · exact absurd h.len (by rw [h0]; simp; omega)
  · exact h1

set_option maxRecDepth 100000 in
set_option maxHeartbeats 1000000 in
theorem index_call (S : Nat → Prop) (a : Option Addr) (n c : Nat) (xs : List Int) (w : World) (hx : IsInts S w a n c xs) :
    Calls Tryz.prog 179 #[.slice a n c, .func (.func 160) #[] #[]] w fun e w' => (∃ k : Int, e = .returned (.int .i64 k) ∧ (0 ≤ k ↔ xs.any badB = true)) ∧ w = w' := by
  have hen : ∀ args w, (callFunc 160 args).run Tryz.prog w = .ok (.enter 160 args) w := enters_of Tryz.func160 (by kernel_rfl) rfl
  have hbig := hx.big
  have HL := hid hx.len
  have HXX := hid hx
  clear hx
  go_enter Tryz.func179, Tryz.ntmps179
  go_wp2
  go_loop [8] (fun i => ∃ k : Nat, k ≤ n ∧ i = .int .i64 k ∧ ∀ j (hj : j < xs.length), j < k → badB xs[j] = false) (fun i => n - (intOf i).toNat)
  case atStart => exact ⟨0, Nat.zero_le _, rfl, fun j _ h => absurd h (Nat.not_lt_zero j)⟩
  case round =>
    obtain ⟨k, hk, rfl, hall⟩ := hrel
    by_cases hlt : k < n
    · have HA := hid hall
      clear hall
      obtain ⟨b, o, rfl, hb, hc⟩ := HXX.out.slot (by omega)
      have hkl : k < xs.length := by have := HL.out; omega
      have hck := hc k hkl
      clear hc
      have hlt' : (k : Int) < (n : Int) := by omega
      have hn63 : (n : Int) ≤ 9223372036854775807 := by omega
      obtain ⟨z, hz⟩ : ∃ z, z = xs[k] := ⟨_, rfl⟩
      rw [← hz] at hck
      have HZ := hid hz
      clear hz
      cases hb2 : badB z with
      | true =>
        go_wp2_with (go_at_call 160; refine (bad_call z w).mono ?_; rintro e w' ⟨rfl, rfl⟩)
        go_ret
        exact ⟨⟨k, rfl, by constructor; (intro _; rw [List.any_eq_true]; exact ⟨z, by rw [HZ.out]; exact List.getElem_mem _, hb2⟩); (intro _; omega)⟩, rfl⟩
      | false =>
        go_wp2_with (go_at_call 160; refine (bad_call z w).mono ?_; rintro e w' ⟨rfl, rfl⟩)
        go_round
        case rel => exact ⟨k + 1, by omega, by go_num, fun j hj h => by
          by_cases hjk : j < k
          · exact HA.out j hj hjk
          · obtain rfl : j = k := by omega
            rw [← HZ.out]; exact hb2⟩
        case measure => simp [intOf]; omega
    · obtain rfl : k = n := by omega
      go_wp2
      go_ret
      refine ⟨⟨-1, rfl, ⟨fun h => by omega, fun h => ?_⟩⟩, rfl⟩
      obtain ⟨x, hm, hbx⟩ := h
      obtain ⟨j, hj, rfl⟩ := List.getElem_of_mem hm
      rw [hall j hj (by have := HL.out; omega)] at hbx
      cases hbx

theorem contains_call (S : Nat → Prop) (a : Option Addr) (n c : Nat) (xs : List Int) (w : World) (hx : IsInts S w a n c xs) :
    Calls Tryz.prog 159 #[.slice a n c, .func (.func 160) #[] #[]] w fun e w' => e = .returned (.bool (xs.any badB)) ∧ w = w' := by
  go_enter Tryz.func159, Tryz.ntmps159
  cases hb : xs.any badB with
  | true =>
    go_wp2_with (go_at_call 179; refine (index_call S a n c xs w hx).mono ?_; rintro e w' ⟨⟨k, rfl, hk⟩, rfl⟩; rw [hb] at hk; have hk0 := hk.2 rfl; clear hk)
    go_ret
    exact ⟨retB (by simp), rfl⟩
  | false =>
    go_wp2_with (go_at_call 179; refine (index_call S a n c xs w hx).mono ?_; rintro e w' ⟨⟨k, rfl, hk⟩, rfl⟩; rw [hb] at hk; have hk0 : k < 0 := by (by_cases h : 0 ≤ k; exact absurd (hk.1 h) (by decide); omega))
    go_ret
    exact ⟨retB (by simp), rfl⟩

def stampP : List Int → Int
  | [] => 0
  | x :: r => if 1 < x then 11 else if x = 1 then 0 else match r with
    | [] => 4
    | y :: _ => if 128 ≤ y then 2 else 0
def stampE (d : St) : Int := if d.e < 1 ∨ 1048576 < d.e then 2 else if d.ps = [] then 4 else if 512 < d.ps.length then 9 else if d.ps.any badB = true then 2 else stampP d.ps

set_option maxRecDepth 100000 in
set_option maxHeartbeats 2000000 in
theorem stampCheck_call (S : Nat → Prop) (c : SC) (d : St) (w0 w : World) (hx : IsSt S w0 c d) (hw : ∀ b, S b → b < w.heap.size ∧ w.heap[b]? = w0.heap[b]?) : Calls Tryz.prog 127 #[c.v] w fun e w' => e = .returned (.int .i64 (stampE d)) ∧ Below w.heap.size w w' := by
  obtain ⟨ce, a, n, cap⟩ := c
  obtain ⟨e, ps⟩ := d
  obtain ⟨rfl, re, hps⟩ := hx
  dsimp only at hps ⊢
  have hps := hps.same hw
  obtain ⟨w1, hw1⟩ : ∃ w1, w1 = w.alloc (.cells #[.int .i64 ce, .slice a n cap] 24) := ⟨_, rfl⟩
  have hb1 : Below w.heap.size w w1 := by rw [hw1]; exact (Below.refl _ w).alloc (Nat.le_refl _) _
  have hps1 : IsInts (· < w.heap.size) w1 a n cap ps := hps.same fun b hb => ⟨hb, hb1.block b hb⟩
  have hcc := hid (contains_call _ a n cap ps w1 hps1)
  have fin : ∀ r, stampE ⟨ce, ps⟩ = r → (Ending.returned (.int .i64 r) = .returned (.int .i64 (stampE ⟨ce, ps⟩)) ∧ Below w.heap.size w w1) := fun r h => ⟨by rw [h], hb1⟩
  rw [hw1] at fin hps1 hcc
  have FIN := hid fin
  have HL := hid hps.len
  have HP := hid hps1
  clear fin hps hps1 hw1 hb1
  go_enter Tryz.func127, Tryz.ntmps127
  by_cases h1 : ce < 1
  · go_wp2
    go_ret
    exact FIN.out _ (by rw [stampE]; simp [h1])
  by_cases h2 : 1048576 < ce
  · go_wp2
    go_ret
    exact FIN.out _ (by rw [stampE]; simp [h2])
  by_cases h3 : n = 0
  · subst h3
    have e3 := hid (show ps = [] by have := HL.out; exact List.eq_nil_of_length_eq_zero this.symm)
    go_wp2
    go_ret
    exact FIN.out _ (by rw [stampE, e3.out, if_neg (by dsimp only; omega)]; simp)
  have hn0 : (0 : Int) < (n : Int) := by omega
  have ne : ps ≠ [] := fun h => h3 (by rw [HL.out, h]; rfl)
  have NE := hid ne
  clear ne
  by_cases h4 : 512 < n
  · have h4' : (512 : Int) < (n : Int) := by omega
    go_wp2
    go_ret
    exact FIN.out _ (by rw [stampE, if_neg (by dsimp only; omega), if_neg NE.out, if_pos (by dsimp only; rw [← HL.out]; exact h4)])
  have h4' : (n : Int) ≤ 512 := by omega
  cases h5 : ps.any badB with
  | true =>
    rw [h5] at hcc
    go_wp2_with (go_at_call 159; refine hcc.out.mono ?_; rintro e w' ⟨rfl, rfl⟩)
    go_ret
    exact FIN.out _ (by rw [stampE, if_neg (by dsimp only; omega), if_neg NE.out, if_neg (by dsimp only; have := HL.out; omega), if_pos h5])
  | false =>
  rw [h5] at hcc
  have E0 := hid (show stampE ⟨ce, ps⟩ = stampP ps by
    rw [stampE, if_neg (by dsimp only; omega), if_neg NE.out, if_neg (by dsimp only; have := HL.out; omega), if_neg (by rw [h5]; decide)])
  obtain ⟨b, o, rfl, hb, hc⟩ := HP.out.slot (by omega)
  cases ps with
  | nil => exact absurd rfl NE.out
  | cons x r =>
  have c0 := hc 0 (by simp)
  rw [Nat.add_zero, List.getElem_cons_zero] at c0
  by_cases h6 : 1 < x
  · clear hc
    go_wp2_with (go_at_call 159; refine hcc.out.mono ?_; rintro e w' ⟨rfl, rfl⟩)
    go_ret
    exact FIN.out _ (by rw [E0.out]; simp [stampP, h6])
  by_cases h7 : x = 1
  · clear hc
    subst h7
    go_wp2_with (go_at_call 159; refine hcc.out.mono ?_; rintro e w' ⟨rfl, rfl⟩)
    go_ret
    exact FIN.out _ (by rw [E0.out]; simp [stampP])
  cases r with
  | nil =>
    clear hc
    obtain rfl : n = 1 := HL.out
    go_wp2_with (go_at_call 159; refine hcc.out.mono ?_; rintro e w' ⟨rfl, rfl⟩)
    go_ret
    exact FIN.out _ (by rw [E0.out]; simp [stampP, h6, h7])
  | cons y r =>
  have c1 := hc 1 (by simp)
  rw [List.getElem_cons_succ, List.getElem_cons_zero] at c1
  clear hc
  have hn1 : (1 : Int) < (n : Int) := by have := HL.out; simp at this; omega
  by_cases h8 : 128 ≤ y
  · have E1 := hid (show stampP (x :: y :: r) = 2 by simp only [stampP]; rw [if_neg h6, if_neg h7, if_pos h8])
    go_wp2_with (go_at_call 159; refine hcc.out.mono ?_; rintro e w' ⟨rfl, rfl⟩)
    go_ret
    exact FIN.out _ (by rw [E0.out, E1.out])
  · have E1 := hid (show stampP (x :: y :: r) = 0 by simp only [stampP]; rw [if_neg h6, if_neg h7, if_neg h8])
    go_wp2_with (go_at_call 159; refine hcc.out.mono ?_; rintro e w' ⟨rfl, rfl⟩)
    go_ret
    exact FIN.out _ (by rw [E0.out, E1.out])
end Go.Proofs.YthjlgpmajeafpaaGreatDoor
