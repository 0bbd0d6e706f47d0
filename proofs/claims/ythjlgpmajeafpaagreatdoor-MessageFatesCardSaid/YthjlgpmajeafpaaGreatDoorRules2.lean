/-
  The rules of decimals and of records (value.rules): each returns what the Lean function of its kind says. Conditions: the value can be read as data.
-/
import Derived.Test.YthjlgpmajeafpaaGreatDoorRules
namespace Go.Proofs.YthjlgpmajeafpaaGreatDoor
open Go Go.RowKit
set_option linter.unusedVariables false
set_option linter.unusedSimpArgs false
attribute [local go_sem ↓] Go.wp_at_zero Go.wp_at_succ

section
variable (k i s : Int) (t : ByteArray) (la : Option Addr) (ll lc : Nat) (fa : Option Addr) (fl fc : Nat) (w : World)
set_option maxRecDepth 100000 in
set_option maxHeartbeats 1000000 in
theorem rule3_call : Calls Tryz.prog 146 #[vArg k i s t la ll lc fa fl fc] w fun e w' => e = .returned (.int .i64 (first2 (betweenE i (-999999999999999) 999999999999999) (betweenE s 0 12))) ∧ Below w.heap.size w w' := by
  go_enter Tryz.func146, Tryz.ntmps146
  go_wp2
  obtain ⟨wa, hwa⟩ : ∃ wa, wa = w.alloc (.cells #[.int .i64 k, .int .i64 i, .int .i64 s, .string t, .slice la ll lc, .slice fa fl fc] 28) := ⟨_, rfl⟩
  rw [← hwa]
  have hsz : w.heap.size < wa.heap.size := by rw [hwa]; simp
  have hbel : Below w.heap.size w wa := by rw [hwa]; exact (Below.refl _ w).alloc (Nat.le_refl _) _
  have h0 : wa.heap[w.heap.size]? = some (.cells #[.int .i64 k, .int .i64 i, .int .i64 s, .string t, .slice la ll lc, .slice fa fl fc] 28) := by rw [hwa]; exact heap_alloc_new w _
  have c1 : wa.cell? ⟨w.heap.size, 1, none⟩ = some (.int .i64 i) := cellOf h0 1
  have c2 : wa.cell? ⟨w.heap.size, 2, none⟩ = some (.int .i64 s) := cellOf h0 2
  clear hwa h0
  go_region_held3 (fun w' => w'.cell? ⟨w.heap.size, 1, none⟩ = some (.int .i64 i) ∧ w'.cell? ⟨w.heap.size, 2, none⟩ = some (.int .i64 s)) (go_keep)
    ((first | (go_at_call 144; refine (between_call _ _ _ _).mono ?_; rintro e w' ⟨rfl, rfl⟩) | (go_at_call 147; refine (first_two _ _ _ _ (show ((wa.alloc _).drew).heap[wa.heap.size]? = _ from heap_alloc_new wa _)).mono ?_; rintro e w' ⟨rfl, rfl⟩)))
  go_wp2
  go_ret
  exact ⟨rfl, (hbel.alloc hbel.size _).drew⟩

/-- The first error of the names of a record's fields. -/
def fieldsE : Option ByteArray → List ByteArray → Int
  | _, [] => 0
  | p, n :: ns => if isNameB n = false then 12 else match p with
    | none => fieldsE (some n) ns
    | some q => if (n.toList == q.toList) = true then 7 else if Op.bytesLess n.toList q.toList = true then 24 else fieldsE (some n) ns
theorem fieldsE_cons (p : Option ByteArray) (n : ByteArray) (ns : List ByteArray) : fieldsE p (n :: ns) = if isNameB n = false then 12 else match p with
    | none => fieldsE (some n) ns
    | some q => if (n.toList == q.toList) = true then 7 else if Op.bytesLess n.toList q.toList = true then 24 else fieldsE (some n) ns := by cases p <;> rfl
def recordE (ns : List ByteArray) : Int := if 64 < ns.length then 9 else fieldsE none ns
/-- What is left to be looked at from field number k on. -/
def fieldsAt (ns : List ByteArray) (k : Nat) : Int := fieldsE (if k = 0 then none else some (ns.getD (k - 1) ByteArray.empty)) (ns.drop k)
theorem fieldsAt_zero (ns : List ByteArray) : fieldsAt ns 0 = fieldsE none ns := by simp [fieldsAt]
theorem fieldsAt_end (ns : List ByteArray) : fieldsAt ns ns.length = 0 := by
  unfold fieldsAt; rw [List.drop_length]; rfl
theorem fieldsAt_name {ns : List ByteArray} {k : Nat} (hk : k < ns.length) (h : isNameB ns[k] = false) : fieldsAt ns k = 12 := by
  unfold fieldsAt; rw [List.drop_eq_getElem_cons hk, fieldsE_cons, if_pos h]
theorem fieldsAt_first {ns : List ByteArray} (hk : 0 < ns.length) (h : isNameB ns[0] = true) : fieldsAt ns 0 = fieldsAt ns 1 := by
  unfold fieldsAt; rw [List.drop_eq_getElem_cons hk, if_pos rfl, fieldsE_cons, if_neg (by simp [h])]
  simp [List.getD, hk]
theorem fieldsAt_dup {ns : List ByteArray} {j : Nat} (hk : j + 1 < ns.length) (h : isNameB ns[j + 1] = true) (he : (ns[j + 1].toList == (ns[j]'(by omega)).toList) = true) : fieldsAt ns (j + 1) = 7 := by
  unfold fieldsAt; rw [List.drop_eq_getElem_cons hk, if_neg (by omega), fieldsE_cons, if_neg (by simp [h])]
  have e : ns.getD (j + 1 - 1) ByteArray.empty = ns[j]'(by omega) := by simp [List.getD, show j < ns.length by omega]
  rw [e]; simp only [he, if_true]
theorem fieldsAt_less {ns : List ByteArray} {j : Nat} (hk : j + 1 < ns.length) (h : isNameB ns[j + 1] = true) (he : (ns[j + 1].toList == (ns[j]'(by omega)).toList) = false) (hl : Op.bytesLess ns[j + 1].toList (ns[j]'(by omega)).toList = true) : fieldsAt ns (j + 1) = 24 := by
  unfold fieldsAt; rw [List.drop_eq_getElem_cons hk, if_neg (by omega), fieldsE_cons, if_neg (by simp [h])]
  have e : ns.getD (j + 1 - 1) ByteArray.empty = ns[j]'(by omega) := by simp [List.getD, show j < ns.length by omega]
  rw [e]; simp only [he, hl, if_true, Bool.false_eq_true, if_false]
theorem fieldsAt_next {ns : List ByteArray} {j : Nat} (hk : j + 1 < ns.length) (h : isNameB ns[j + 1] = true) (he : (ns[j + 1].toList == (ns[j]'(by omega)).toList) = false) (hl : Op.bytesLess ns[j + 1].toList (ns[j]'(by omega)).toList = false) : fieldsAt ns (j + 1) = fieldsAt ns (j + 1 + 1) := by
  unfold fieldsAt; rw [List.drop_eq_getElem_cons hk, if_neg (by omega), fieldsE_cons, if_neg (by simp [h])]
  have e : ns.getD (j + 1 - 1) ByteArray.empty = ns[j]'(by omega) := by simp [List.getD, show j < ns.length by omega]
  have e2 : ns.getD (j + 1 + 1 - 1) ByteArray.empty = ns[j + 1] := by simp [List.getD, hk]
  rw [e, e2]; simp only [he, hl, Bool.false_eq_true, if_false]
  rw [if_neg (by omega)]

set_option maxRecDepth 100000 in
set_option maxHeartbeats 4000000 in
theorem rule9_call (ns : List ByteArray) (fs : List Val) (hreach : fl * 104 ≤ 140737488351232) (hfl : fl = fs.length) (hns : ns.length = fs.length) (hf : fs = [] ∨ ∃ b o, fa = some ⟨b, o, none⟩ ∧ b < w.heap.size ∧ IsFlds (· < w.heap.size) w b o ns fs) :
    Calls Tryz.prog 155 #[vArg k i s t la ll lc fa fl fc] w fun e w' => e = .returned (.int .i64 (recordE ns)) ∧ Below w.heap.size w w' := by
  have hfn : fl = ns.length := by omega
  by_cases hbig : 64 < ns.length
  · have HR := hid (show recordE ns = 9 by simp [recordE, hbig])
    have hsz9 : sizeE fl 64 9 = 9 := by rw [sizeE, if_pos (by omega)]
    have hc := fun w => (size_call fl 64 9 w).mono (R' := fun e w' => e = .returned (.int .i64 9) ∧ w = w') (fun e w' h => ⟨h.1.trans (by rw [hsz9]), h.2⟩)
    have HC := hid hc
    clear hc hsz9 hfn hfl hns hf hbig
    go_enter Tryz.func155, Tryz.ntmps155
    go_wp2_with (go_at_call 149; refine (HC.out _).mono ?_; rintro e w' ⟨rfl, rfl⟩)
    go_ret
    exact ⟨retI HR.out.symm, (Below.refl _ w).alloc (Nat.le_refl _) _⟩
  · have HR := hid (show recordE ns = fieldsAt ns 0 by simp [recordE, hbig, fieldsAt_zero])
    have hsz9 : sizeE fl 64 9 = 0 := by rw [sizeE, if_neg (by omega)]
    have hc := fun w => (size_call fl 64 9 w).mono (R' := fun e w' => e = .returned (.int .i64 0) ∧ w = w') (fun e w' h => ⟨h.1.trans (by rw [hsz9]), h.2⟩)
    have HC := hid hc
    have HFN := hid hfn
    have HNS := hid hns
    clear hc hsz9 hfl hbig hfn hns
    go_enter Tryz.func155, Tryz.ntmps155
    go_wp2_with (go_at_call 149; refine (HC.out _).mono ?_; rintro e w' ⟨rfl, rfl⟩)
    clear HC
    go_loopw [16] (fun i' wr => ∃ q : Nat, q ≤ fl ∧ i' = .int .i64 q ∧ fieldsAt ns 0 = fieldsAt ns q ∧
        wr.heap[w.heap.size]? = some (.cells #[.int .i64 k, .int .i64 i, .int .i64 s, .string t, .slice la ll lc, .slice fa fl fc] 28 (0, 0)) ∧ Below w.heap.size w wr)
      (fun i' _ => fl - (intOf i').toNat)
    case atStart => exact ⟨0, Nat.zero_le _, rfl, rfl, heap_alloc_new w _, (Below.refl _ w).alloc (Nat.le_refl _) _⟩
    case round =>
      obtain ⟨q, hq, rfl, hat, hb0, hbel⟩ := hrel
      have HAT := hid hat; clear hat
      have HB0 := hid hb0; clear hb0
      have hsz := hbel.size
      by_cases hlt : q < fl
      · rcases hf with rfl | ⟨b, o, rfl, hb, hvs⟩
        · exfalso; have h1 := HFN.out; have h2 := HNS.out; simp only [List.length_nil] at h2; omega
        · have hqn : q < ns.length := by have h1 := HFN.out; omega
          have hqf : q < fs.length := by have h1 := HNS.out; omega
          obtain ⟨⟨hnm, hnz⟩, x, hx, hxv⟩ := hvs.get HNS.out q hqf hqn
          obtain ⟨hx0, hx1, hx2, hx3, hx4, hx5⟩ := hx.same (w' := wr) (hbel.block b hb)
          have hnm' : wr.cell? ⟨b, o + q * 7, none⟩ = some (.string ns[q]) := (World.cell?_of_block (w := w) (a := ⟨b, o + q * 7, none⟩) (hbel.block b hb)).trans hnm
          have hlt' : (q : Int) < (fl : Int) := by omega
          clear hx hnm
          obtain ⟨nm, hnmd⟩ : ∃ nm, nm = ns[q] := ⟨_, rfl⟩
          have hbl : ∀ w1, Below (wr.heap.size + 1) (wr.alloc (.cells #[.string nm, .int .i64 x.k, .int .i64 x.i, .int .i64 x.s, .string x.t, .slice x.la x.ll x.lc, .slice x.fa x.fl x.fc] 35)) w1 →
              w1.cell? ⟨wr.heap.size, 0, none⟩ = some (.string nm) ∧ w1.cell? ⟨w.heap.size, 5, none⟩ = some (.slice (some ⟨b, o, none⟩) fl fc) ∧ w1.heap[w.heap.size]? = wr.heap[w.heap.size]? ∧ Below w.heap.size w w1 := fun w1 h1 =>
            ⟨cellOf (heapBelow h1 (heap_alloc_new wr _) (by omega)) 0, cellOf (heapBelow h1 (heapAlloc _ HB0.out) (by omega)) 5, (h1.block _ (by omega)).trans (Below.heap_alloc _ _ _ (ltOf HB0.out)), (hbel.alloc (by omega) _).trans (h1.mono (by omega))⟩
          have HBL := hid hbl; clear hbl
          rw [← hnmd] at hnm' hnz
          have HNM := hid hnmd; clear hnmd
          by_cases hn : isNameB nm = false
          · have HR2 := hid (fieldsAt_name hqn (by rw [← HNM.out]; exact hn))
            have hc2 := fun w => (isName_call nm w hnz).mono (R' := fun e w' => e = .returned (.bool false) ∧ Below w.heap.size w w') (fun e w' h => ⟨h.1.trans (by rw [hn]), h.2⟩)
            have HC2 := hid hc2
            clear hc2 hn hxv
            go_wp2_with (go_at_call 156; refine (HC2.out _).mono ?_; rintro e w1 ⟨rfl, hb1⟩)
            go_ret
            exact ⟨retI (HR.out.trans (HAT.out.trans HR2.out)).symm, (HBL.out _ (by simpa using hb1)).2.2.2⟩
          · have hn' : isNameB nm = true := by simpa using hn
            have hc2 := fun w => (isName_call nm w hnz).mono (R' := fun e w' => e = .returned (.bool true) ∧ Below w.heap.size w w') (fun e w' h => ⟨h.1.trans (by rw [hn']), h.2⟩)
            have HC2 := hid hc2
            clear hc2 hn
            go_wp2_with (go_at_call 156; refine (HC2.out _).mono ?_; rintro e w1 ⟨rfl, hb1⟩)
            obtain ⟨d1, d2, d3, d4⟩ := HBL.out w1 (by simpa using hb1)
            have D3 := hid d3; clear d3 hxv hx0 hx1 hx2 hx3 hx4 hx5 hnm'
            cases q with
            | zero =>
              have HR2 := hid (fieldsAt_first hqn (by rw [← HNM.out]; exact hn'))
              clear hn'
              go_quiet (fail)
              go_wp2
              go_quiet (fail)
              go_wp2
              go_roundw
              case rel => exact ⟨1, by omega, by go_num, HR2.out, D3.out.trans HB0.out, (by first | exact below_drewN d4 _ | exact below_drewN (below_drewN d4 _) _)⟩
              case measure => simp [intOf]; omega
            | succ j =>
              have hjn : j < ns.length := by omega
              obtain ⟨⟨hpm, hpz⟩, _⟩ := hvs.get HNS.out j (by omega) hjn
              obtain ⟨pm, hpmd⟩ : ∃ pm, pm = ns[j] := ⟨_, rfl⟩
              rw [← hpmd] at hpm
              have HPM := hid hpmd; clear hpmd
              have hp1 : w1.cell? ⟨b, o + j * 7, none⟩ = some (.string pm) := (World.cell?_of_block (w := w) (a := ⟨b, o + j * 7, none⟩) (d4.block b hb)).trans hpm
              clear hpm
              have g1 : (0 : Int) < (j : Int) + 1 := by omega
              have g3 : (0 : Int) ≤ (j : Int) := by omega
              have g4 : (j : Int) < (fl : Int) := by omega
              have g2 : IntKind.i64.wrap ((j : Int) + 1 - 1) = (j : Int) := by rw [show (j : Int) + 1 - 1 = j by omega]; exact IntWalk.i64_in _ (by omega)
              have g5 : IntKind.i64.wrap (j : Int) = (j : Int) := IntWalk.i64_in _ (by omega)
              have hcast : ((j + 1 : Nat) : Int) = (j : Int) + 1 := by omega
              rw [hcast]
              clear hcast
              by_cases he : (nm.toList == pm.toList) = true
              · have HR2 := hid (fieldsAt_dup hqn (by rw [← HNM.out]; exact hn') (by rw [← HNM.out, ← HPM.out]; exact he))
                clear hn'
                go_quiet (fail)
                go_wp2
                go_ret
                exact ⟨retI (HR.out.trans (HAT.out.trans HR2.out)).symm, (by first | exact below_drewN d4 _ | exact below_drewN (below_drewN d4 _) _)⟩
              · have he' : (nm.toList == pm.toList) = false := by simpa using he
                by_cases hl : Op.bytesLess nm.toList pm.toList = true
                · have HR2 := hid (fieldsAt_less hqn (by rw [← HNM.out]; exact hn') (by rw [← HNM.out, ← HPM.out]; exact he') (by rw [← HNM.out, ← HPM.out]; exact hl))
                  clear hn' he
                  go_quiet (fail)
                  go_wp2
                  go_quiet (fail)
                  go_wp2
                  go_ret
                  exact ⟨retI (HR.out.trans (HAT.out.trans HR2.out)).symm, (by first | exact below_drewN d4 _ | exact below_drewN (below_drewN d4 _) _)⟩
                · have hl' : Op.bytesLess nm.toList pm.toList = false := by simpa using hl
                  have HR2 := hid (fieldsAt_next hqn (by rw [← HNM.out]; exact hn') (by rw [← HNM.out, ← HPM.out]; exact he') (by rw [← HNM.out, ← HPM.out]; exact hl'))
                  clear hn' he hl
                  go_quiet (fail)
                  go_wp2
                  go_quiet (fail)
                  go_wp2
                  go_roundw
                  case rel => exact ⟨j + 1 + 1, by omega, by go_num, HAT.out.trans HR2.out, D3.out.trans HB0.out, (by first | exact below_drewN d4 _ | exact below_drewN (below_drewN d4 _) _)⟩
                  case measure => simp [intOf]; omega
      · obtain rfl : q = fl := by omega
        have HE := hid (show fieldsAt ns q = 0 by rw [HFN.out]; exact fieldsAt_end ns)
        go_wp2
        go_ret
        exact ⟨retI (HR.out.trans (HAT.out.trans HE.out)).symm, hbel⟩
end
end Go.Proofs.YthjlgpmajeafpaaGreatDoor
