/-
  manifoldlaw29.small says whether a message is small. Condition: the message can be read as data.
-/
import Derived.Test.YtcejackabdmpkaaGreatDoorG9Mrg
import Derived.Test.YtcejackabdmpkaaGreatDoorG2Mrg
import Derived.Sort.CutIn
import Derived.Test.YtcejackabdmpkaaGreatDoorMassMrg
import Derived.Test.YtcejackabdmpkaaGreatDoorG5Mrg
import Derived.Deep.AppendLies
import Derived.Test.YtcejackabdmpkaaGreatDoorG1Mrg
namespace Go.Proofs.YtcejackabdmpkaaGreatDoor
open Go Go.RowKit Go.Shelf
set_option linter.unusedVariables false
set_option linter.unusedSimpArgs false

def SmallPost (w : World) (c : MC) (e : Ending) (w' : World) : Prop := (∃ b : Bool, e = .returned (.bool b) ∧ (b = true → c.st.n ≤ 40 ∧ c.n ≤ 300)) ∧ Below w.heap.size w w'
set_option maxRecDepth 100000 in
set_option maxHeartbeats 4000000 in
theorem small_call (c : MC) (d : Msg) (w : World) (hd : IsMsg (· < w.heap.size) w c d) : Calls Tryz.prog 17 #[c.v] w (SmallPost w c) := by
  have hb0 : Below w.heap.size w (w.alloc (mObj c)) := (Below.refl _ w).alloc (Nat.le_refl _) _
  have later : ∀ w2, Below (w.alloc (mObj c)).heap.size (w.alloc (mObj c)) w2 → Ten w2 w.heap.size c ∧ Below w.heap.size w w2 ∧ IsVal (· < w2.heap.size) w2 c.b d.b := fun w2 h => by
    have hb := hb0.trans (h.mono hb0.size)
    exact ⟨tenOf (heapExt h (heap_alloc_new w _)), hb, hd.b.same fun b q => ⟨Nat.lt_of_lt_of_le q hb.size, hb.block b q⟩⟩
  have HL := hid later
  have HD : Hid (∀ w2, Below (w.alloc (mObj c)).heap.size (w.alloc (mObj c)) w2 → Calls Tryz.prog 10 #[c.b.v] w2 (SomeInt w2)) := hid fun w2 h => depth_call c.b d.b w2 (later w2 h).2.2
  have HS : Hid (∀ w2, Below (w.alloc (mObj c)).heap.size (w.alloc (mObj c)) w2 → Calls Tryz.prog 11 #[c.b.v] w2 (SomeInt w2)) := hid fun w2 h => size_call' c.b d.b w2 (later w2 h).2.2
  have h00 := (later _ (Below.refl _ _)).1
  have HB0 := hid hb0
  clear later hd hb0
  obtain ⟨⟨ce, sa, sn, sc⟩, m, a, n, cap, ⟨k, i', s, t, la, ll, lc, fa, fl, fc⟩⟩ := c
  dsimp only [mObj, VC.v, MC.v, Ten] at HL HD HS HB0 h00 ⊢
  obtain ⟨e0, e1, e2, e3, e4, e5, e6, e7, e8, e9⟩ := h00
  go_enter Tryz.func17, Tryz.ntmps17
  by_cases q1 : sn ≤ 40
  · have q1' : (sn : Int) ≤ 40 := by omega
    by_cases q2 : n ≤ 300
    · have q2' : (n : Int) ≤ 300 := by omega
      go_wp2_with (first
        | (go_at_call 10; refine (HD.out _ (Below.refl _ _)).mono ?_; rintro e w3 ⟨⟨n1, rfl⟩, hb3⟩; clear e0 e1 e2 e3 e4 e5 e6 e7 e8 e9; have t0 := (HL.out _ hb3).1; obtain ⟨k0, k1, k2, k3, k4, k5, k6, k7, k8, k9⟩ := t0; have hbz := (HL.out _ hb3).2.1; rcases Int.lt_or_le 12 n1 with hn1 | hn1)
        | (go_at_call 11; refine (HS.out _ hb3).mono ?_; rintro e w4 ⟨⟨n2, rfl⟩, hb4⟩; have hbz4 := hbz.trans (hb4.mono hbz.size)))
      · go_ret
        exact ⟨⟨_, rfl, fun _ => ⟨q1, q2⟩⟩, hbz⟩
      · go_ret
        exact ⟨⟨_, rfl, fun _ => ⟨q1, q2⟩⟩, hbz4⟩
    · have q2' : ¬ (n : Int) ≤ 300 := by omega
      go_wp2
      go_ret
      exact ⟨⟨false, rfl, fun h => by cases h⟩, HB0.out⟩
  · have q1' : ¬ (sn : Int) ≤ 40 := by omega
    go_wp2
    go_ret
    exact ⟨⟨false, rfl, fun h => by cases h⟩, HB0.out⟩

end Go.Proofs.YtcejackabdmpkaaGreatDoor

/-
  manifoldlaw29.smalls, message.Stamps. Condition: the list can be read as data.
-/
namespace Go.Proofs.YtcejackabdmpkaaGreatDoor
open Go Go.RowKit Go.Shelf
set_option linter.unusedVariables false
set_option linter.unusedSimpArgs false

def SmallsPost2 (w : World) (n : Nat) (l : List Msg) (e : Ending) (w' : World) : Prop := (∃ b : Bool, e = .returned (.bool b) ∧ (b = true → n ≤ 20 ∧ ∀ j (h : j < l.length), l[j].st.ps.length ≤ 40 ∧ l[j].es.length ≤ 300)) ∧ Below w.heap.size w w'
set_option maxRecDepth 100000 in
set_option maxHeartbeats 4000000 in
theorem smalls2_call (a : Option Addr) (n c : Nat) (l : List Msg) (w : World) (hd : IsMsgs (· < w.heap.size) w a n c l) : Calls Tryz.prog 22 #[.slice a n c] w (SmallsPost2 w n l) := by
  have hbig := hd.big
  have HL := hid hd.len
  have HD := hid hd
  clear hd
  go_enter Tryz.func22, Tryz.ntmps22
  by_cases q : n ≤ 20
  · have q' : (n : Int) ≤ 20 := by omega
    go_wp2
    go_loopw [3] (fun i wr => ∃ k : Nat, k ≤ n ∧ i = .int .i64 k ∧ Below w.heap.size w wr ∧ ∀ j (h : j < l.length), j < k → l[j].st.ps.length ≤ 40 ∧ l[j].es.length ≤ 300) (fun i _ => n - (intOf i).toNat)
    case atStart => exact ⟨0, Nat.zero_le _, rfl, Below.refl _ _, fun j _ h => absurd h (Nat.not_lt_zero j)⟩
    case round =>
      obtain ⟨k, hk, rfl, hbr, hall⟩ := hrel
      have HALL := hid hall
      clear hall
      by_cases hlt : k < n
      · have hkl : k < l.length := by have := HL.out; omega
        obtain ⟨b, o, rfl, hb, hx⟩ := HD.out.at'.resolve_left fun h => by rw [h] at hkl; simp at hkl
        obtain ⟨x, hxa, hxi⟩ := hx k hkl
        obtain ⟨x0, x1, x2, x3, x4, x5, x6, x7, x8, x9⟩ := hxa.same (hbr.block b hb)
        have hlt' : (k : Int) < (n : Int) := by omega
        have hk0 : (0 : Int) ≤ (k : Int) := by omega
        have HSM := hid (small_call x l[k] wr (hxi.same fun b q => ⟨by have := hbr.size; omega, hbr.block b q⟩))
        have HBR := hid hbr
        have HXL := hid (And.intro hxi.st.ps.len hxi.es.len)
        clear hbr hxi hxa hx hb
        dsimp only [MC.v] at HSM
        go_wp2_with (go_at_call 17; refine HSM.out.mono ?_; rintro e w3 ⟨⟨b1, rfl, hb1⟩, hb3⟩; have HB1 := hid hb1; clear hb1; cases b1)
        · go_ret
          exact ⟨⟨false, rfl, fun h => by cases h⟩, HBR.out.trans (hb3.mono HBR.out.size)⟩
        · go_roundw
          case rel => exact ⟨k + 1, by omega, by go_num, HBR.out.trans (hb3.mono HBR.out.size), fun j hj h => by
            by_cases e : j < k
            · exact HALL.out j hj e
            · obtain rfl : j = k := by omega
              have h1 := HB1.out trivial
              have h2 := HXL.out
              (try dsimp only at h1 h2)
              exact ⟨by omega, by omega⟩⟩
          case measure => simp [intOf]; omega
      · obtain rfl : k = n := by omega
        go_wp2
        go_ret
        exact ⟨⟨true, rfl, fun _ => ⟨q, fun j hj => HALL.out j hj (by have := HL.out; omega)⟩⟩, hbr⟩
  · have q' : ¬ (n : Int) ≤ 20 := by omega
    go_wp2
    go_ret
    exact ⟨⟨false, rfl, fun h => by cases h⟩, Below.refl _ _⟩
def SmallsPost (w : World) (n : Nat) (e : Ending) (w' : World) : Prop := (∃ b : Bool, e = .returned (.bool b) ∧ (b = true → n ≤ 20)) ∧ Below w.heap.size w w'
theorem smalls_call (a : Option Addr) (n c : Nat) (l : List Msg) (w : World) (hd : IsMsgs (· < w.heap.size) w a n c l) : Calls Tryz.prog 22 #[.slice a n c] w (SmallsPost w n) :=
  (smalls2_call a n c l w hd).mono fun e w' ⟨⟨b, he, h⟩, hb⟩ => ⟨⟨b, he, fun hh => (h hh).1⟩, hb⟩

theorem infoSt : (Tryz.prog.info? 39).map (fun i => (i.zero, i.size, i.bytes)) = some (some (.agg #[.int .i64 0, .slice none 0 0]), 2, 32) := by kernel_rfl
def StsPost (w : World) (n : Nat) (l : List St) (e : Ending) (w' : World) : Prop := ∃ a' c', e = .returned (.slice a' n c') ∧ Below w.heap.size w w' ∧ IsRow stK (fun b => w.heap.size ≤ b ∧ b < w'.heap.size) w' a' n c' l
set_option maxRecDepth 100000 in
set_option maxHeartbeats 4000000 in
theorem stamps_call (a : Option Addr) (n c : Nat) (l : List Msg) (w : World) (hd : IsMsgs (· < w.heap.size) w a n c l) : Calls Tryz.prog 24 #[.slice a n c] w (StsPost w n (l.map (·.st))) := by
  obtain ⟨ti, hi, hz0, hz1, hz2⟩ := info_parts infoSt
  have hbig := hd.big
  have HL := hid hd.len
  have HD := hid hd
  clear hd
  go_enter Tryz.func24, Tryz.ntmps24
  go_wp2
  go_loopw [3, 8] (fun vv i wr => ∃ (k : Nat) (v : Value), v = vv ∧ k ≤ n ∧ i = .int .i64 k ∧ Built stK 39 w.heap.size wr v k (l.map (·.st)) ∧ Below w.heap.size w wr) (fun _ i _ => n - (intOf i).toNat)
  case atStart => exact ⟨0, _, rfl, Nat.zero_le _, rfl, Built.nil _ _ _ _, Below.refl _ _⟩
  case round =>
    obtain ⟨k, v, rfl, hk, rfl, hbu, hbr⟩ := hrel
    obtain ⟨wp, rfl⟩ : ∃ w1 : World, w1 = wr := ⟨_, rfl⟩
    by_cases hlt : k < n
    · have hkl : k < l.length := by have := HL.out; omega
      obtain ⟨b, o, rfl, hb, hx⟩ := HD.out.at'.resolve_left fun h => by rw [h] at hkl; simp at hkl
      obtain ⟨x, hxa, hxi⟩ := hx k hkl
      obtain ⟨x0, x1, x2, x3, x4, x5, x6, x7, x8, x9⟩ := hxa.same (hbr.block b hb)
      have hlt' : (k : Int) < (n : Int) := by omega
      have hk0 : (0 : Int) ≤ (k : Int) := by omega
      obtain ⟨cs, hcs, hown, hel⟩ := hbu
      have hvb := Built.own (K := stK) ⟨cs, hcs, hown, hel⟩
      have hba : Below w.heap.size w (wp.alloc (mObj x)) := hbr.alloc hbr.size _
      have HCS := hid (copyStamp_call x.st l[k].st (wp.alloc (mObj x)) (hxi.st.same fun b q => ⟨by have := hba.size; omega, hba.block b q⟩))
      have HVB := hid hvb
      have HOWN := hid hown
      have HEL := hid hel
      have HCL := hid hcs
      have HBA := hid hba
      have HBR := hid hbr
      have HXI := hid hxi
      clear hvb hown hel hcs hba hbr hxi hxa hx hb
      have hcap1 : k + 1 ≤ maxLen := by unfold maxLen; omega
      have hcap2 : (k + 1) * 32 ≤ 140737488355328 := by omega
      dsimp only [mObj, SC.v] at HCS HBA
      go_wp2_with (first
        | (go_at_call 50; refine HCS.out.mono ?_; rintro e w4 ⟨c4, rfl, hb4, hi4⟩; have HB4 := hid hb4; have HI4 := hid hi4; clear hb4 hi4)
        | (at_builtin; go_loud (refine wpList_append_lies _ (by rfl) _ _ 52 (by rfl) w.heap.size 39 ti _ 2 32 Tryz.underlying52 hi hz0 hz1 hz2 rfl (by omega) v k (cs.flatMap SC.cs) (by rfl) ((ownExt (HOWN.out.alloc _) HB4.out).alloc (.cells #[.int .i64 c4.e, .slice c4.a c4.n c4.c] 39)) ⟨w4.heap.size, 0, none⟩ 1 1 (SC.cs c4) (by rfl) (by rfl) (World.news_of_block (heap_alloc_new w4 _)) (by simp [SC.cs, Value.oneCell']) (by omega) hcap1 hcap2 (by have h1 := HBA.out.size; have h2 := HB4.out.size; simp at h1 h2 ⊢; omega) (w4.heap.size + 1) (by simp) ?_); intro gg cap5 w5 hown2 hgrow hat hlt2; have HO2 := hid hown2; have HG := hid hgrow; have HAT := hid hat; clear hown2 hgrow hat hlt2))
      go_roundw
      case rel =>
        have h4 := HB4.out.size
        simp only [World.size_alloc] at h4
        have h14 : Below w.heap.size w w4 := HBA.out.trans (HB4.out.mono HBA.out.size)
        have hs0 := HBR.out.size
        have hkm : k < (l.map (·.st)).length := by simpa using hkl
        have hpush : Built stK 39 w.heap.size w5 (.slice (some ⟨gg, 0, none⟩) (k + 1) cap5) (k + 1) (l.map (·.st)) :=
          Built.push (K := stK) (N := wp.heap.size) (w1 := w4) (o := .cells #[.int .i64 c4.e, .slice c4.a c4.n c4.c] 39) (c := c4) HCL.out
            (fun j hj hj' => (HEL.out j hj hj').same fun b hb => ⟨⟨hb.1, by have := hb.2.1; omega, hb.2.2⟩, (HB4.out.block b (by have := hb.2.1; simp; omega)).trans (Below.heap_alloc _ _ _ (by have := hb.2.1; omega))⟩) hkm
            (by rw [List.getElem_map]; exact HI4.out.same fun b hb => ⟨⟨by have := hb.1; simp at this; omega, hb.2⟩, rfl⟩) hs0 (fun r e => (HVB.out r e).2) HO2.out HG.out HAT.out
        exact ⟨k + 1, _, rfl, by omega, by go_num, hpush, (h14.alloc h14.size _).grown HG.out (by simp; omega) (fun r e => (HVB.out r e).1)⟩
      case measure => simp [intOf]; omega
    · obtain rfl : k = n := by omega
      obtain ⟨av, capv, rfl, hrow⟩ := Built.row' hbu (by rw [List.length_map]; exact HL.out) (by dsimp only; omega)
      go_wp2
      go_ret
      exact ⟨av, capv, rfl, hbr, hrow⟩
end Go.Proofs.YtcejackabdmpkaaGreatDoor

/-
  A region that draws its order split from its forced tail, where each operation of the tail waits for the one before it. No program in sight.
-/
namespace Go.Proofs.YtcejackabdmpkaaGreatDoor
open Go Go.RowKit
set_option linter.unusedVariables false
set_option linter.unusedSimpArgs false

/-- The binding edges of a region go backwards, and each operation from number m on has no guard, and waits for all that stand before it, or (behind number m) for the one before it. -/
def tailOk2 (ops : Array Oper) (m : Nat) : Bool := (List.range ops.size).all fun j => match ops[j]? with
  | none => true
  | some o => (o.after.all fun e => decide (e.on < j)) && (decide (j < m) || (o.guard.isNone && (((List.range j).all fun i => o.after.any fun e => Region.binds .any e && e.on == i) || (decide (m < j) && o.after.any fun e => Region.binds .any e && e.on == j - 1))))

section
variable {P : Program} {ops : Array Oper} {Q : Exit → Act → World → Prop}

theorem tailOk_at2 {m j : Nat} {o : Oper} (h : tailOk2 ops m = true) (ho : ops[j]? = some o) :
    (∀ e ∈ o.after, e.on < j) ∧ (m ≤ j → o.guard = none ∧ ∀ i < j, (∃ e ∈ o.after, Region.binds .any e = true ∧ e.on = i) ∨ (m < j ∧ ∃ e ∈ o.after, Region.binds .any e = true ∧ e.on = j - 1)) := by
  have hj : j < ops.size := (Array.getElem?_eq_some_iff.1 ho).1
  simp only [tailOk2, List.all_eq_true, List.mem_range] at h
  have h1 := h j hj
  simp only [ho, Bool.and_eq_true, Array.all_eq_true_iff_forall_mem, decide_eq_true_eq, Bool.or_eq_true, List.all_eq_true, List.mem_range] at h1
  refine ⟨fun e he => h1.1 e he, fun hm => ?_⟩
  rcases h1.2 with h2 | ⟨h2, h3⟩
  · omega
  · refine ⟨by simpa using h2, fun i hi => ?_⟩
    rcases h3 with h3 | ⟨h4, h3⟩
    · have := h3 i hi
      simp only [Array.any_eq_true, Bool.and_eq_true, beq_iff_eq] at this
      obtain ⟨k, hk, hb, hon⟩ := this
      exact .inl ⟨_, Array.getElem_mem hk, hb, hon⟩
    · simp only [Array.any_eq_true, Bool.and_eq_true, beq_iff_eq] at h3
      obtain ⟨k, hk, hb, hon⟩ := h3
      exact .inr ⟨h4, _, Array.getElem_mem hk, hb, hon⟩

/-- The tail, in its one order. -/
theorem wpAny_tail2 {m : Nat} (hok : tailOk2 ops m = true) : ∀ (k j : Nat) (listed : Array Bool) (a : Act) (w : World), m ≤ j → j + k = ops.size → listed.size = ops.size → (∀ i, i < j → listed.getD i false = true) → (∀ i, j ≤ i → i < ops.size → listed.getD i true = false) →
    wpOps P ops Q (List.range' j k) a w → wpAny P .any ops Q k listed a w := by
  intro k
  induction k with
  | zero =>
    intro j listed a w hm hj hsz hyes hno h
    refine ⟨?_, by simpa [wpOps] using h⟩
    refine List.eq_nil_iff_forall_not_mem.2 fun i hi => ?_
    obtain ⟨h0, o, ho, _⟩ := mem_ready.1 hi
    have hi' : i < ops.size := (Array.getElem?_eq_some_iff.1 ho).1
    have h1 := hyes i (by omega)
    have hs : i < listed.size := by omega
    simp only [Array.getD_eq_getD_getElem?, Array.getElem?_eq_getElem hs, Option.getD_some] at h0 h1
    rw [h0] at h1; cases h1
  | succ k ih =>
    intro j listed a w hm hj hsz hyes hno h
    have hjs : j < ops.size := by omega
    have hready : Region.ready .any ops listed = [j] := by
      have hmem : ∀ i, i ∈ Region.ready .any ops listed ↔ i = j := by
        intro i
        constructor
        · intro hi
          obtain ⟨h0, o, ho, hall⟩ := mem_ready.1 hi
          have hi' : i < ops.size := (Array.getElem?_eq_some_iff.1 ho).1
          rcases Nat.lt_trichotomy i j with hlt | heq | hgt
          · have h1 := hyes i hlt
            have hs : i < listed.size := by omega
            simp only [Array.getD_eq_getD_getElem?, Array.getElem?_eq_getElem hs, Option.getD_some] at h0 h1
            rw [h0] at h1; cases h1
          · exact heq
          · obtain ⟨t, htj, hti, e, he, hb, hon⟩ : ∃ t, j ≤ t ∧ t < ops.size ∧ ∃ e ∈ o.after, Region.binds .any e = true ∧ e.on = t := by
              rcases ((tailOk_at2 hok ho).2 (by omega)).2 j hgt with h | ⟨_, h⟩
              · exact ⟨j, Nat.le_refl _, hjs, h⟩
              · exact ⟨i - 1, by omega, by omega, h⟩
            have h1 := hall e he hb
            have h2 := hno t htj hti
            rw [hon] at h1
            have hs : t < listed.size := by omega
            simp only [Array.getD_eq_getD_getElem?, Array.getElem?_eq_getElem hs, Option.getD_some] at h1 h2
            rw [h2] at h1; cases h1
        · rintro rfl
          refine mem_ready.2 ⟨hno i (Nat.le_refl _) hjs, _, Array.getElem?_eq_getElem hjs, fun e he _ => hyes _ ((tailOk_at2 hok (Array.getElem?_eq_getElem hjs)).1 e he)⟩
      have hnd : (Region.ready .any ops listed).Nodup := List.filter_sublist.nodup List.nodup_range
      cases hr : Region.ready .any ops listed with
      | nil => have := (hmem j).2 rfl; rw [hr] at this; cases this
      | cons x xs =>
        rw [hr] at hmem hnd
        obtain rfl : x = j := (hmem x).1 (by simp)
        cases xs with
        | nil => rfl
        | cons y ys =>
          obtain rfl : y = x := (hmem y).1 (by simp)
          simp at hnd
    refine ⟨fun h0 => (by rw [hready] at h0; cases h0), fun i hi => ?_⟩
    rw [hready] at hi
    obtain rfl : i = j := by simpa using hi
    rw [List.range'_succ, wpOps_cons] at h
    refine wpOp_mono (fun a' w' h' => ih (i + 1) _ a' w' (by omega) (by omega) (by simp [hsz]) ?_ ?_ h') h
    · intro t ht
      by_cases hti : i = t
      · subst hti; simp [Array.getD_eq_getD_getElem?, hsz, hjs]
      · rw [getD_set_ne false hti]; exact hyes t (by omega)
    · intro t ht hts
      rw [getD_set_ne true (by omega)]; exact hno t (by omega) hts

end

section
variable {P : Program} {l : List Oper} {Q : Exit → Act → World → Prop}
theorem wpAny_split2 {m : Nat} (hok : tailOk2 l.toArray m = true) (hgo : guardsOk l m = true) (hm : m ≤ l.length) : ∀ (fuel : Nat) (L1 L : Array Bool) (a : Act) (w : World), L1.size = m → L.size = l.length → (∀ i, i < m → L[i]? = L1[i]?) → (∀ i, m ≤ i → i < l.length → L.getD i true = false) →
    wpAny P .any (l.take m).toArray (fun e a w => match e with | .normal => wpOps P l.toArray Q (List.range' m (l.length - m)) a w | e => Q e a w) fuel L1 a w → wpAny P .any l.toArray Q (fuel + (l.length - m)) L a w := by
  have hback : ∀ (j : Nat) (o : Oper), (l.take m).toArray[j]? = some o → ∀ e ∈ o.after, e.on < j := fun j o ho => by
    have : l.toArray[j]? = some o := by
      simp only [List.getElem?_toArray, List.getElem?_take] at ho ⊢
      split at ho
      · exact ho
      · cases ho
    exact (tailOk_at2 hok this).1
  have hguard : ∀ i, i < m → ∀ o, l[i]? = some o → ∀ g, o.guard = some g → g.1 < m := by
    intro i hi o ho g hg
    have hmem : o ∈ l.take m := List.mem_of_getElem? (i := i) (by simp [hi, ho])
    have := List.all_eq_true.1 hgo o hmem
    simpa [hg] using this
  have hlen : (l.take m).toArray.size = m := by simp; omega
  have stuck : ∀ (fuel : Nat) (L1 L : Array Bool) (a : Act) (w : World), L1.size = m → L.size = l.length → (∀ i, i < m → L[i]? = L1[i]?) → (∀ i, m ≤ i → i < l.length → L.getD i true = false) →
      Region.ready .any (l.take m).toArray L1 = [] → wpOps P l.toArray Q (List.range' m (l.length - m)) a w → wpAny P .any l.toArray Q (l.length - m) L a w := by
    intro fuel L1 L a w h1 h2 h3 h4 hr h
    refine wpAny_tail2 hok _ m L a w (Nat.le_refl _) (by simp; omega) (by simpa using h2) ?_ ?_ h
    · intro i hi
      have hi1 : i < L1.size := by omega
      by_cases hli : L1.getD i true = false
      · exact absurd hr (ready_ne_nil hback (by omega) (by omega) hli)
      · simp only [Array.getD_eq_getD_getElem?, h3 i hi, Array.getElem?_eq_getElem hi1, Option.getD_some] at hli ⊢
        simpa using hli
    · intro i hi hi2
      exact h4 i hi (by simpa using hi2)
  have readyEq : ∀ (L1 L : Array Bool), L1.size = m → L.size = l.length → (∀ i, i < m → L[i]? = L1[i]?) → (∀ i, m ≤ i → i < l.length → L.getD i true = false) → Region.ready .any (l.take m).toArray L1 ≠ [] →
      ∀ i, i ∈ Region.ready .any l.toArray L → i < m ∧ i ∈ Region.ready .any (l.take m).toArray L1 := by
    intro L1 L h1 h2 h3 h4 hne i hi
    obtain ⟨h0, o, ho, hall⟩ := mem_ready.1 hi
    have hil : i < l.length := by have := (Array.getElem?_eq_some_iff.1 ho).1; simpa using this
    have hD : ∀ (t : Nat) d, t < m → L.getD t d = L1.getD t d := fun t d ht => by simp only [Array.getD_eq_getD_getElem?, h3 t ht]
    by_cases him : i < m
    · refine ⟨him, mem_ready.2 ⟨by rw [← hD i true him]; exact h0, o, ?_, fun e he hb => ?_⟩⟩
      · simp only [List.getElem?_toArray, List.getElem?_take, him, if_true] at ho ⊢; exact ho
      · have hlt := (tailOk_at2 hok ho).1 e he
        rw [← hD e.on false (by omega)]; exact hall e he hb
    · exfalso
      apply hne
      refine List.eq_nil_iff_forall_not_mem.2 fun t ht => ?_
      obtain ⟨g0, ot, hot, _⟩ := mem_ready.1 ht
      have htm : t < m := by have := (Array.getElem?_eq_some_iff.1 hot).1; omega
      rcases ((tailOk_at2 hok ho).2 (by omega)).2 t (by omega) with ⟨e, he, hb, hon⟩ | ⟨hmi, e, he, hb, hon⟩
      · have h5 := hall e he hb
        rw [hon, hD t false htm] at h5
        have hs : t < L1.size := by omega
        simp only [Array.getD_eq_getD_getElem?, Array.getElem?_eq_getElem hs, Option.getD_some] at h5 g0
        rw [g0] at h5; cases h5
      · have h5 := hall e he hb
        have h6 := h4 (i - 1) (by omega) (by omega)
        rw [hon] at h5
        have hs : i - 1 < L.size := by omega
        simp only [Array.getD_eq_getD_getElem?, Array.getElem?_eq_getElem hs, Option.getD_some] at h5 h6
        rw [h6] at h5; cases h5
  intro fuel
  induction fuel with
  | zero =>
    intro L1 L a w h1 h2 h3 h4 h
    rw [Nat.zero_add]
    exact stuck 0 L1 L a w h1 h2 h3 h4 h.1 h.2
  | succ fuel ih =>
    intro L1 L a w h1 h2 h3 h4 h
    by_cases hne : Region.ready .any (l.take m).toArray L1 = []
    · have h5 := stuck 0 L1 L a w h1 h2 h3 h4 hne (h.1 hne)
      -- with more fuel than is wanted
      have more : ∀ (n k : Nat) (L : Array Bool) (a : Act) (w : World), wpAny P .any l.toArray Q n L a w → wpAny P .any l.toArray Q (n + k) L a w := by
        intro n
        induction n with
        | zero =>
          intro k L a w h
          cases k with
          | zero => exact h
          | succ k => rw [Nat.zero_add]; exact ⟨fun _ => h.2, fun i hi => by rw [h.1] at hi; cases hi⟩
        | succ n ihn =>
          intro k L a w h
          rw [show n + 1 + k = (n + k) + 1 by omega]
          exact ⟨h.1, fun i hi => wpOp_mono (fun a' w' h' => ihn k _ a' w' h') (h.2 i hi)⟩
      rw [show fuel + 1 + (l.length - m) = (l.length - m) + (fuel + 1) by omega]
      exact more _ _ _ _ _ h5
    · rw [show fuel + 1 + (l.length - m) = (fuel + (l.length - m)) + 1 by omega]
      have hreq := readyEq L1 L h1 h2 h3 h4 hne
      refine ⟨fun h0 => ?_, fun i hi => ?_⟩
      · -- something of the first part may come up here too
        exfalso
        obtain ⟨t, ht⟩ := List.exists_mem_of_ne_nil _ hne
        obtain ⟨g0, ot, hot, hall⟩ := mem_ready.1 ht
        have htm : t < m := by have := (Array.getElem?_eq_some_iff.1 hot).1; omega
        have hot' : l.toArray[t]? = some ot := by simp only [List.getElem?_toArray, List.getElem?_take, htm, if_true] at hot ⊢; exact hot
        have hD : ∀ (s : Nat) d, s < m → L.getD s d = L1.getD s d := fun s d hs => by simp only [Array.getD_eq_getD_getElem?, h3 s hs]
        have : t ∈ Region.ready .any l.toArray L := mem_ready.2 ⟨by rw [hD t true htm]; exact g0, ot, hot', fun e he hb => by
          have hlt := hback t ot hot e he
          rw [hD e.on false (by omega)]; exact hall e he hb⟩
        rw [h0] at this; cases this
      · obtain ⟨him, hi1⟩ := hreq i hi
        have h6 := wpOp_take him (hguard i him) (Q := fun e a w => match e with | .normal => wpOps P l.toArray Q (List.range' m (l.length - m)) a w | e => Q e a w) (h.2 i hi1)
        have h7 : wpOp P l.toArray Q i (wpAny P .any (l.take m).toArray (fun e a w => match e with | .normal => wpOps P l.toArray Q (List.range' m (l.length - m)) a w | e => Q e a w) fuel (L1.setIfInBounds i true)) a w := by
          unfold wpOp at h6 ⊢
          cases ho : l.toArray[i]? with
          | none => simpa [ho] using h6
          | some o =>
            simp only [ho] at h6 ⊢
            split
            · rename_i hw
              simp only [hw, if_true] at h6
              rcases h6 with h6 | ⟨h6, h8⟩
              · refine .inl ?_
                unfold Oper.wp at h6 ⊢
                generalize (execOp a.eval o).run P w = r at h6 ⊢
                cases r with
                | ok n w' =>
                  cases n <;> simp only [Oper.upon] at h6 ⊢ <;> first
                    | exact h6
                    | (refine Calls.mono h6 fun e w'' he => ?_
                       cases e <;> first | exact he | (obtain ⟨a0, w0, hq⟩ := he; exact ⟨a0, w0, hq⟩))
                | halt x w' => cases x <;> simp only [Oper.upon] at h6 ⊢ <;> exact h6
              · exact .inr ⟨h6, h8⟩
            · rename_i hw
              simp only [hw] at h6
              exact h6
        refine wpOp_mono (fun a' w' h8 => ih (L1.setIfInBounds i true) (L.setIfInBounds i true) a' w' (by simp [h1]) (by simp [h2]) ?_ ?_ h8) h7
        · intro t ht
          by_cases hti : i = t
          · subst hti
            have : i < L.size := by omega
            simp [h1, him, this]
          · simp [Array.getElem?_setIfInBounds_ne hti, h3 t ht]
        · intro t ht htl
          rw [getD_set_ne true (by omega)]; exact h4 t ht htl

/-- The list of operations behind the first m, as a region of its own. -/
theorem wpOps_drop2 {m : Nat} (hok : tailOk2 l.toArray m = true) (k : Nat) : ∀ (j : Nat) (a : Act) (w : World), wpOps P (l.drop m).toArray Q (List.range' j k) a w → wpOps P l.toArray Q (List.range' (m + j) k) a w := by
  induction k with
  | zero => intro j a w h; simpa [wpOps] using h
  | succ k ih =>
    intro j a w h
    rw [List.range'_succ, wpOps_cons] at h ⊢
    have he : (l.drop m).toArray[j]? = l.toArray[m + j]? := by simp
    have h' : wpOp P l.toArray Q (m + j) (wpOps P (l.drop m).toArray Q (List.range' (j + 1) k)) a w := by
      unfold wpOp at h ⊢
      rw [he] at h
      cases ho : l.toArray[m + j]? with
      | none => simpa [ho] using h
      | some o =>
        simp only [ho] at h ⊢
        have hg := ((tailOk_at2 hok ho).2 (by omega)).1
        have hw : ∀ y, Region.wanted o y = true := fun y => by simp [Region.wanted, hg]
        simpa only [hw, if_true] using h
    refine wpOp_mono (fun a' w' h8 => ?_) h'
    have := ih (j + 1) a' w' h8
    rwa [show m + (j + 1) = m + j + 1 by omega] at this

/-- **A region that draws its order, whose operations from number m on stand in one order behind all others: the first m under S, and then those as a region of their own.** -/
theorem wp_region_split2 {id : Nat} {a : Act} {w : World} (m : Nat) (S : World → Prop) (hP : P.follows .mixedOrders = true) (hok : tailOk2 l.toArray m = true) (hgo : guardsOk l m = true) (hm : decide (m ≤ l.length) = true) (hS : S w.drew)
    (h : S w.drew → wpAnyH P .any (l.take m).toArray (fun e a w => match e with | .normal => wpList P (l.drop m).toArray Q (l.drop m) a w | e => Q e a w) S m (Array.replicate m false) a w.drew) : (Code.region id l.toArray true).wp P Q a w := by
  have hm' : m ≤ l.length := of_decide_eq_true hm
  have h1 := wpAny_of_held _ _ _ _ (h hS)
  have mono : ∀ (fuel : Nat) (L : Array Bool) (a : Act) (w : World), wpAny P .any (l.take m).toArray (fun e a w => match e with | .normal => wpList P (l.drop m).toArray Q (l.drop m) a w | e => Q e a w) fuel L a w →
      wpAny P .any (l.take m).toArray (fun e a w => match e with | .normal => wpOps P l.toArray Q (List.range' m (l.length - m)) a w | e => Q e a w) fuel L a w := by
    have hn : ∀ a w, wpList P (l.drop m).toArray Q (l.drop m) a w → wpOps P l.toArray Q (List.range' m (l.length - m)) a w := fun a w h => by
      have e := wpOps_eq_wpList (P := P) (Q := Q) (ops := (l.drop m).toArray) (l.drop m) 0 (fun j => by simp)
      rw [← e] at h
      have := wpOps_drop2 hok _ 0 a w h
      simpa using this
    have step : ∀ {i : Nat} {K K' : Act → World → Prop} {a : Act} {w : World}, (∀ a w, K a w → K' a w) → wpOp P (l.take m).toArray (fun e a w => match e with | .normal => wpList P (l.drop m).toArray Q (l.drop m) a w | e => Q e a w) i K a w →
        wpOp P (l.take m).toArray (fun e a w => match e with | .normal => wpOps P l.toArray Q (List.range' m (l.length - m)) a w | e => Q e a w) i K' a w := by
      intro i K K' a w hk h6
      refine wpOp_mono hk ?_
      unfold wpOp at h6 ⊢
      cases ho : (l.take m).toArray[i]? with
      | none => simpa [ho] using h6
      | some o =>
        simp only [ho] at h6 ⊢
        split
        · rename_i hw
          simp only [hw, if_true] at h6
          rcases h6 with h6 | ⟨h6, h8⟩
          · refine .inl ?_
            unfold Oper.wp at h6 ⊢
            generalize (execOp a.eval o).run P w = r at h6 ⊢
            cases r with
            | ok n w' =>
              cases n <;> simp only [Oper.upon] at h6 ⊢ <;> first
                | exact h6
                | (refine Calls.mono h6 fun e w'' he => ?_
                   cases e <;> first | exact he | (obtain ⟨a0, w0, hq⟩ := he; exact ⟨a0, w0, hq⟩))
            | halt x w' => cases x <;> simp only [Oper.upon] at h6 ⊢ <;> exact h6
          · exact .inr ⟨h6, h8⟩
        · rename_i hw
          simp only [hw] at h6
          exact h6
    intro fuel
    induction fuel with
    | zero => intro L a w h; exact ⟨h.1, hn _ _ h.2⟩
    | succ fuel ih => intro L a w h; exact ⟨fun h0 => hn _ _ (h.1 h0), fun i hi => step (fun a w h => ih _ a w h) (h.2 i hi)⟩
  refine wp_region_any hP ?_
  have h2 := wpAny_split2 hok hgo hm' m (Array.replicate m false) (Array.replicate l.toArray.size false) a w.drew (by simp) (by simp) (fun i hi => by rw [Array.getElem?_replicate, Array.getElem?_replicate, if_pos hi, if_pos (by simp; omega)]) (fun i _ hi => by simp [Array.getD_eq_getD_getElem?, hi]) (mono _ _ _ _ h1)
  have e : m + (l.length - m) = l.toArray.size := by simp; omega
  rw [e] at h2
  exact h2
end
end Go.Proofs.YtcejackabdmpkaaGreatDoor
