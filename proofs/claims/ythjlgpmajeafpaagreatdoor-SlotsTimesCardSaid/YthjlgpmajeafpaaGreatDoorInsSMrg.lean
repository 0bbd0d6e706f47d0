/-
  slices.insertionSortCmpFunc over slots by their times: a row in place is sorted by insertion. Conditions: the row lies in one block; its elements can be read elsewhere.
-/
import Derived.Test.YthjlgpmajeafpaaGreatDoorInsMrg
import Derived.Test.YthjlgpmajeafpaaGreatDoorTwoMrg
import Derived.Test.YthjlgpmajeafpaaGreatDoorSlEqMrg
import Derived.Test.YthjlgpmajeafpaaGreatDoorSlotDMrg
import Derived.Test.YthjlgpmajeafpaaGreatDoorPokeMrg
namespace Go.Proofs.YthjlgpmajeafpaaGreatDoor
open Go Go.RowKit Go.Shelf
set_option linter.unusedVariables false
set_option linter.unusedSimpArgs false

def slObjT (c : SlC) : Obj := .cells #[.int .i64 c.k.k, .int .i64 c.k.i, .int .i64 c.k.s, .string c.k.t, .slice c.k.la c.k.ll c.k.lc, .slice c.k.fa c.k.fl c.k.fc, .int .i64 c.n, .int .i64 c.t, .slice c.ia c.il c.ic, .slice c.va c.vl c.vc] 58
theorem time1_call (x y : SlC) (d e : Slot) (w : World) (hd : IsSl (· < w.heap.size) w x d) (he : IsSl (· < w.heap.size) w y e) : Calls Tryz.prog 102 #[x.v, y.v] w fun r w' => r = .returned (.int .i64 (Lib.compareInt d.t e.t)) ∧ Below w.heap.size w w' := by
  have hb : Below w.heap.size w ((w.alloc (slObjT x)).alloc (slObjT y)) := ((Below.refl _ w).alloc (Nat.le_refl _) _).alloc (by simp) _
  rw [← hd.t, ← he.t]
  have g1 := heapAlloc (slObjT y) (heap_alloc_new w (slObjT x))
  have x7 := cellOf g1 7
  (try dsimp only [slObjT] at x7)
  have HB := hid hb
  clear hb hd he g1
  dsimp only [slObjT, SlC.v] at HB x7 ⊢
  go_enter Tryz.func102, Tryz.ntmps102
  go_wp2_with (go_at_call 96; refine (Tryz.cmp_Compare_int _ _ _).mono ?_; rintro e w2 ⟨rfl, rfl⟩)
  go_ret
  exact ⟨rfl, HB.out⟩
abbrev ltDS (d e : Slot) : Bool := decide (Lib.compareInt d.t e.t < 0)
abbrev ltS (p q : SlC × Slot) : Bool := ltDS p.2 q.2
theorem sortS_in {lt : SlC × Slot → SlC × Slot → Bool} {A : List (SlC × Slot)} {x : SlC × Slot} {q : SlC × Slot} (h : q ∈ insL lt A x) : q ∈ A ∨ q = x := by
  rw [insL, List.mem_append, List.mem_cons] at h
  rcases h with h | h | h
  · exact .inl (List.mem_of_mem_take h)
  · exact .inr h
  · exact .inl (List.mem_of_mem_drop h)
theorem sortST_in {lt : SlC × Slot → SlC × Slot → Bool} {l : List (SlC × Slot)} : ∀ (i : Nat) (q : SlC × Slot), q ∈ sortT lt l i → q ∈ l
  | 0, q, h => by cases h
  | i + 1, q, h => by
    rw [sortT] at h
    cases hl : l[i]? with
    | none => rw [hl] at h; exact sortST_in i q h
    | some x =>
      rw [hl] at h
      rcases sortS_in h with h | h
      · exact sortST_in i q h
      · rw [h]; exact List.mem_of_getElem? hl

set_option maxRecDepth 100000 in
set_option maxHeartbeats 16000000 in
theorem insS_call (g cap n : Nat) (ps : List (SlC × Slot)) (w : World) (hn : ps.length = n) (h20 : n ≤ 20) (hg : g < w.heap.size) (hrow : InRow slK 58 w g cap (ps.map Prod.fst)) (hel : ∀ p ∈ ps, IsSl (fun b => b < w.heap.size ∧ b ≠ g) w p.1 p.2) :
    Calls Tryz.prog 164 #[.slice (some ⟨g, 0, none⟩) n cap, .int .i64 0, .int .i64 n, .func (.func 102) #[] #[]] w fun e w' => e = .returned (.tuple #[]) ∧ Off g w w' ∧ InRow slK 58 w' g cap ((sortT ltS ps n).map Prod.fst) := by
  have hen : ∀ args w, (callFunc 102 args).run Tryz.prog w = .ok (.enter 102 args) w := enters_of Tryz.func102 (by kernel_rfl) rfl
  have HN := hid hn
  have HG := hid hg
  have HROW := hid hrow
  have HEL := hid hel
  clear hn hg hrow hel
  go_enter Tryz.func164, Tryz.ntmps164
  go_wp2
  go_loopw [8] (fun i wr => ∃ k : Nat, 1 ≤ k ∧ (k ≤ n ∨ k = 1) ∧ i = .int .i64 k ∧ Off g w wr ∧ InRow slK 58 wr g cap ((sortT ltS ps k ++ ps.drop k).map Prod.fst)) (fun i _ => n + 1 - (intOf i).toNat)
  case atStart =>
    refine ⟨1, Nat.le_refl _, .inr rfl, rfl, Off.refl _ _, ?_⟩
    have e : sortT ltS ps 1 ++ ps.drop 1 = ps := by
      cases ps with
      | nil => rfl
      | cons x r => rfl
    rw [e]
    exact HROW.out
  case round =>
  obtain ⟨k, hk1, hk, rfl, hof, hrw⟩ := hrel
  obtain ⟨wp, rfl⟩ : ∃ w1 : World, w1 = wr := ⟨_, rfl⟩
  by_cases hlt : k < n
  · have hkl : k < ps.length := by have := HN.out; omega
    have hlt' : (k : Int) < (n : Int) := by omega
    obtain ⟨x, hx⟩ : ∃ x, x = ps[k] := ⟨_, rfl⟩
    obtain ⟨r, hr⟩ : ∃ r, r = ps.drop (k + 1) := ⟨_, rfl⟩
    obtain ⟨A, hA⟩ : ∃ A, A = sortT ltS ps k := ⟨_, rfl⟩
    have hAl : A.length = k := by rw [hA]; exact sortT_len _ _ _ (by omega)
    have hmid : sortT ltS ps k ++ ps.drop k = midL A x k r := by
      rw [← hA, List.drop_eq_getElem_cons hkl, ← hx, ← hr]
      have := midL_end (A := A) (x := x) r
      rw [hAl] at this
      exact this.symm
    rw [hmid] at hrw
    have HNX := hid (show sortT ltS ps (k + 1) = insL ltS A x by rw [sortT_succ _ _ _ hkl, ← hA, ← hx])
    have HXI := hid (show IsSl (fun b => b < w.heap.size ∧ b ≠ g) w x.1 x.2 from HEL.out x (by rw [hx]; exact List.getElem_mem hkl))
    have HAI := hid (show ∀ p ∈ A, IsSl (fun b => b < w.heap.size ∧ b ≠ g) w p.1 p.2 from fun p hp => HEL.out p (by rw [hA] at hp; exact sortST_in _ _ hp))
    have HR := hid hr
    have HAL := hid hAl
    have HOF0 := hid hof
    have HRW0 := hid hrw
    have HK := hid hk
    clear hx hr hA hmid hof hrw hk hAl
    go_wp2
    go_loopw [9] (fun jv wr2 => ∃ j : Nat, j ≤ k ∧ jv = .int .i64 j ∧ Off g w wr2 ∧ InRow slK 58 wr2 g cap ((midL A x j r).map Prod.fst) ∧ scanP ltS x A A.length = scanP ltS x A j) (fun i _ => (intOf i).toNat)
    case atStart => exact ⟨k, Nat.le_refl _, rfl, HOF0.out, HRW0.out, by rw [HAL.out]⟩
    case round =>
    obtain ⟨j, hj, rfl, hof, hrw, hsc⟩ := hrel
    obtain ⟨ws, hws⟩ : ∃ ws, ws = wr := ⟨_, rfl⟩
    rw [← hws] at hof hrw ⊢
    clear hws HOF0 HRW0
    have HOF := hid hof
    have HRW := hid hrw
    by_cases hj0 : j = 0
    · have hjd : decide ((0 : Int) < (j : Int)) = false := by simp; omega
      have hjd2 : decide (0 < j) = false := by simp; omega
      have hjn : ¬ (0 : Int) < (j : Int) := by omega
      have HOUT := hid (show sortT ltS ps (k + 1) ++ ps.drop (k + 1) = midL A x j r by
        rw [HNX.out, ← HR.out, insL_of (j := j) (by rw [hsc, hj0]; rfl), midL, List.append_assoc]
        rfl)
      clear hsc hof hrw hj0
      go_upto_region 4 with (fail)
      refine wp_region_split 17 (fun w' => Below ws.heap.size ws w') (by kernel_rfl) (by kernel_rfl) (by kernel_rfl) (by decide) ((Below.refl _ _).drew) (fun hS => ?_)
      simp only [List.take_succ_cons, List.take_zero, List.drop_succ_cons, List.drop_zero]
      refine wpAnyH_take (i := 0) (oi := _) (v := ?_) rfl (by kernel_rfl) (by kernel_rfl) (by kernel_rfl) (fun _ _ _ h => h) (Or.inl ⟨by rfl, ?_⟩) hS ?_
      rotate_left
      · intro w' hw'
        (try dsimp only at hw')
        go_simp
        (try with_reducible rfl)
      simp only [Act.put, List.getElem_toArray, List.getElem_cons_succ, List.getElem_cons_zero, List.setIfInBounds_toArray, List.set_cons_zero, List.set_cons_succ]
      refine wpAnyH_take (i := 1) (oi := _) (v := ?_) rfl (by kernel_rfl) (by kernel_rfl) (by kernel_rfl) (fun _ _ _ h => h) (Or.inl ⟨by rfl, ?_⟩) hS ?_
      rotate_left
      · intro w' hw'
        (try dsimp only at hw')
        go_simp
        (try with_reducible rfl)
      simp only [Act.put, List.getElem_toArray, List.getElem_cons_succ, List.getElem_cons_zero, List.setIfInBounds_toArray, List.set_cons_zero, List.set_cons_succ]
      refine wpAnyH_take (i := 2) (oi := _) (v := ?_) rfl (by kernel_rfl) (by kernel_rfl) (by kernel_rfl) (fun _ _ _ h => h) (Or.inl ⟨by rfl, ?_⟩) hS ?_
      rotate_left
      · intro w' hw'
        (try dsimp only at hw')
        go_simp
        (try with_reducible rfl)
      simp only [Act.put, List.getElem_toArray, List.getElem_cons_succ, List.getElem_cons_zero, List.setIfInBounds_toArray, List.set_cons_zero, List.set_cons_succ]
      refine wpAnyH_take (i := 3) (oi := _) (v := ?_) rfl (by kernel_rfl) (by kernel_rfl) (by kernel_rfl) (fun _ _ _ h => h) (Or.inl ⟨by rfl, ?_⟩) hS ?_
      rotate_left
      · intro w' hw'
        (try dsimp only at hw')
        go_simp
        (try with_reducible rfl)
      simp only [Act.put, List.getElem_toArray, List.getElem_cons_succ, List.getElem_cons_zero, List.setIfInBounds_toArray, List.set_cons_zero, List.set_cons_succ]
      refine wpAnyH_take (i := 4) (oi := _) (v := undef) rfl (by kernel_rfl) (by kernel_rfl) (by kernel_rfl) (fun _ _ _ h => h) (Or.inr ⟨by rfl, rfl⟩) hS ?_
      simp only [Act.put, List.getElem_toArray, List.getElem_cons_succ, List.getElem_cons_zero, List.setIfInBounds_toArray, List.set_cons_zero, List.set_cons_succ]
      refine wpAnyH_take (i := 5) (oi := _) (v := undef) rfl (by kernel_rfl) (by kernel_rfl) (by kernel_rfl) (fun _ _ _ h => h) (Or.inr ⟨by rfl, rfl⟩) hS ?_
      simp only [Act.put, List.getElem_toArray, List.getElem_cons_succ, List.getElem_cons_zero, List.setIfInBounds_toArray, List.set_cons_zero, List.set_cons_succ]
      refine wpAnyH_take (i := 6) (oi := _) (v := undef) rfl (by kernel_rfl) (by kernel_rfl) (by kernel_rfl) (fun _ _ _ h => h) (Or.inr ⟨by rfl, rfl⟩) hS ?_
      simp only [Act.put, List.getElem_toArray, List.getElem_cons_succ, List.getElem_cons_zero, List.setIfInBounds_toArray, List.set_cons_zero, List.set_cons_succ]
      refine wpAnyH_take (i := 7) (oi := _) (v := undef) rfl (by kernel_rfl) (by kernel_rfl) (by kernel_rfl) (fun _ _ _ h => h) (Or.inr ⟨by rfl, rfl⟩) hS ?_
      simp only [Act.put, List.getElem_toArray, List.getElem_cons_succ, List.getElem_cons_zero, List.setIfInBounds_toArray, List.set_cons_zero, List.set_cons_succ]
      refine wpAnyH_take (i := 8) (oi := _) (v := undef) rfl (by kernel_rfl) (by kernel_rfl) (by kernel_rfl) (fun _ _ _ h => h) (Or.inr ⟨by rfl, rfl⟩) hS ?_
      simp only [Act.put, List.getElem_toArray, List.getElem_cons_succ, List.getElem_cons_zero, List.setIfInBounds_toArray, List.set_cons_zero, List.set_cons_succ]
      refine wpAnyH_take (i := 9) (oi := _) (v := undef) rfl (by kernel_rfl) (by kernel_rfl) (by kernel_rfl) (fun _ _ _ h => h) (Or.inr ⟨by rfl, rfl⟩) hS ?_
      simp only [Act.put, List.getElem_toArray, List.getElem_cons_succ, List.getElem_cons_zero, List.setIfInBounds_toArray, List.set_cons_zero, List.set_cons_succ]
      refine wpAnyH_take (i := 10) (oi := _) (v := undef) rfl (by kernel_rfl) (by kernel_rfl) (by kernel_rfl) (fun _ _ _ h => h) (Or.inr ⟨by rfl, rfl⟩) hS ?_
      simp only [Act.put, List.getElem_toArray, List.getElem_cons_succ, List.getElem_cons_zero, List.setIfInBounds_toArray, List.set_cons_zero, List.set_cons_succ]
      refine wpAnyH_take (i := 11) (oi := _) (v := undef) rfl (by kernel_rfl) (by kernel_rfl) (by kernel_rfl) (fun _ _ _ h => h) (Or.inr ⟨by rfl, rfl⟩) hS ?_
      simp only [Act.put, List.getElem_toArray, List.getElem_cons_succ, List.getElem_cons_zero, List.setIfInBounds_toArray, List.set_cons_zero, List.set_cons_succ]
      refine wpAnyH_take (i := 12) (oi := _) (v := undef) rfl (by kernel_rfl) (by kernel_rfl) (by kernel_rfl) (fun _ _ _ h => h) (Or.inr ⟨by rfl, rfl⟩) hS ?_
      simp only [Act.put, List.getElem_toArray, List.getElem_cons_succ, List.getElem_cons_zero, List.setIfInBounds_toArray, List.set_cons_zero, List.set_cons_succ]
      refine wpAnyH_take (i := 13) (oi := _) (v := undef) rfl (by kernel_rfl) (by kernel_rfl) (by kernel_rfl) (fun _ _ _ h => h) (Or.inr ⟨by rfl, rfl⟩) hS ?_
      simp only [Act.put, List.getElem_toArray, List.getElem_cons_succ, List.getElem_cons_zero, List.setIfInBounds_toArray, List.set_cons_zero, List.set_cons_succ]
      refine wpAnyH_take (i := 14) (oi := _) (v := undef) rfl (by kernel_rfl) (by kernel_rfl) (by kernel_rfl) (fun _ _ _ h => h) (Or.inr ⟨by rfl, rfl⟩) hS ?_
      simp only [Act.put, List.getElem_toArray, List.getElem_cons_succ, List.getElem_cons_zero, List.setIfInBounds_toArray, List.set_cons_zero, List.set_cons_succ]
      refine wpAnyH_take (i := 15) (oi := _) (v := undef) rfl (by kernel_rfl) (by kernel_rfl) (by kernel_rfl) (fun _ _ _ h => h) (Or.inr ⟨by rfl, rfl⟩) hS ?_
      simp only [Act.put, List.getElem_toArray, List.getElem_cons_succ, List.getElem_cons_zero, List.setIfInBounds_toArray, List.set_cons_zero, List.set_cons_succ]
      refine wpAnyH_take (i := 16) (oi := _) (v := ?_) rfl (by kernel_rfl) (by kernel_rfl) (by kernel_rfl) (fun _ _ _ h => h) (Or.inl ⟨by rfl, ?_⟩) hS ?_
      rotate_left
      · intro w' hw'
        (try dsimp only at hw')
        go_simp
        (try with_reducible rfl)
      simp only [Act.put, List.getElem_toArray, List.getElem_cons_succ, List.getElem_cons_zero, List.setIfInBounds_toArray, List.set_cons_zero, List.set_cons_succ]
      refine wpAnyH_done (by kernel_rfl) ?_ _
      (try dsimp only)
      have HBZ := hid (Off.of (g := g) hS)
      have HBZ2 := hid hS
      clear hS
      go_wp2
      go_roundw
      case rel =>
        refine ⟨k + 1, by omega, .inl (by omega), by go_num, HOF.out.trans HBZ.out, ?_⟩
        have e := HOUT.out
        rw [e]
        exact HRW.out.ext HBZ2.out
      case measure => simp [intOf]; omega
    · obtain ⟨q, hq⟩ : ∃ q, j = q + 1 := ⟨j - 1, by omega⟩
      have hwr : IntKind.i64.wrap ((j : Int) - 1) = (j : Int) - 1 := IntWalk.i64_in _ (by omega)
      have hj1 : (0 : Int) ≤ (j : Int) - 1 := by omega
      have hj2 : (1 : Int) ≤ (j : Int) := by omega
      have hj3 : 1 ≤ j := by omega
      have hj4 : (j : Int) - 1 < (n : Int) := by omega
      have hj5 : (j : Int) < (n : Int) := by omega
      have hj6 : (0 : Int) < (j : Int) := by omega
      have hjd : decide ((0 : Int) < (j : Int)) = true := decide_eq_true hj6
      have hjd2 : decide (0 < j) = true := decide_eq_true (by omega)
      have hj7 : (0 : Int) ≤ (j : Int) := by omega
      have hjt : j - 1 = q := by omega
      have hqA : q < A.length := by have := HAL.out; omega
      obtain ⟨cc, hcc⟩ : ∃ cc, cc = Lib.compareInt x.2.t A[q].2.t := ⟨_, rfl⟩
      obtain ⟨y, hy⟩ : ∃ y, y = A[q] := ⟨_, rfl⟩
      rw [← hy] at hcc
      have HYI := hid (show IsSl (fun b => b < w.heap.size ∧ b ≠ g) w y.1 y.2 from HAI.out y (by rw [hy]; exact List.getElem_mem hqA))
      have HC4 : Hid (∀ w', Below ws.heap.size ws w' → (w'.cell? ⟨g, j * 10, none⟩ = some (.int .i64 x.1.k.k) ∧ w'.cell? ⟨g, j * 10 + 1, none⟩ = some (.int .i64 x.1.k.i) ∧ w'.cell? ⟨g, j * 10 + 2, none⟩ = some (.int .i64 x.1.k.s) ∧ w'.cell? ⟨g, j * 10 + 3, none⟩ = some (.string x.1.k.t) ∧ w'.cell? ⟨g, j * 10 + 4, none⟩ = some (.slice x.1.k.la x.1.k.ll x.1.k.lc) ∧ w'.cell? ⟨g, j * 10 + 5, none⟩ = some (.slice x.1.k.fa x.1.k.fl x.1.k.fc) ∧ w'.cell? ⟨g, j * 10 + 6, none⟩ = some (.int .i64 x.1.n) ∧ w'.cell? ⟨g, j * 10 + 7, none⟩ = some (.int .i64 x.1.t) ∧ w'.cell? ⟨g, j * 10 + 8, none⟩ = some (.slice x.1.ia x.1.il x.1.ic) ∧ w'.cell? ⟨g, j * 10 + 9, none⟩ = some (.slice x.1.va x.1.vl x.1.vc)) ∧ (w'.cell? ⟨g, (j - 1) * 10, none⟩ = some (.int .i64 y.1.k.k) ∧ w'.cell? ⟨g, (j - 1) * 10 + 1, none⟩ = some (.int .i64 y.1.k.i) ∧ w'.cell? ⟨g, (j - 1) * 10 + 2, none⟩ = some (.int .i64 y.1.k.s) ∧ w'.cell? ⟨g, (j - 1) * 10 + 3, none⟩ = some (.string y.1.k.t) ∧ w'.cell? ⟨g, (j - 1) * 10 + 4, none⟩ = some (.slice y.1.k.la y.1.k.ll y.1.k.lc) ∧ w'.cell? ⟨g, (j - 1) * 10 + 5, none⟩ = some (.slice y.1.k.fa y.1.k.fl y.1.k.fc) ∧ w'.cell? ⟨g, (j - 1) * 10 + 6, none⟩ = some (.int .i64 y.1.n) ∧ w'.cell? ⟨g, (j - 1) * 10 + 7, none⟩ = some (.int .i64 y.1.t) ∧ w'.cell? ⟨g, (j - 1) * 10 + 8, none⟩ = some (.slice y.1.ia y.1.il y.1.ic) ∧ w'.cell? ⟨g, (j - 1) * 10 + 9, none⟩ = some (.slice y.1.va y.1.vl y.1.vc))) := hid fun w' h => by
        have hR := HRW.out.ext h
        have hl : ((midL A x j r).map Prod.fst).length = A.length + 1 + r.length := by rw [List.length_map, midL_len (by have := HAL.out; omega)]
        have a1 := hR.at' j (by omega)
        have a2 := hR.at' q (by omega)
        rw [List.getElem_map, midL_at (by have := HAL.out; omega)] at a1
        subst hq
        rw [List.getElem_map, midL_prev hqA, ← hy] at a2
        rw [hjt]
        exact ⟨⟨a1 0 (by decide), a1 1 (by decide), a1 2 (by decide), a1 3 (by decide), a1 4 (by decide), a1 5 (by decide), a1 6 (by decide), a1 7 (by decide), a1 8 (by decide), a1 9 (by decide)⟩, a2 0 (by decide), a2 1 (by decide), a2 2 (by decide), a2 3 (by decide), a2 4 (by decide), a2 5 (by decide), a2 6 (by decide), a2 7 (by decide), a2 8 (by decide), a2 9 (by decide)⟩
      have HCM : Hid (∀ w', Below ws.heap.size ws w' → Calls Tryz.prog 102 #[.agg #[.int .i64 x.1.k.k, .int .i64 x.1.k.i, .int .i64 x.1.k.s, .string x.1.k.t, .slice x.1.k.la x.1.k.ll x.1.k.lc, .slice x.1.k.fa x.1.k.fl x.1.k.fc, .int .i64 x.1.n, .int .i64 x.1.t, .slice x.1.ia x.1.il x.1.ic, .slice x.1.va x.1.vl x.1.vc], .agg #[.int .i64 y.1.k.k, .int .i64 y.1.k.i, .int .i64 y.1.k.s, .string y.1.k.t, .slice y.1.k.la y.1.k.ll y.1.k.lc, .slice y.1.k.fa y.1.k.fl y.1.k.fc, .int .i64 y.1.n, .int .i64 y.1.t, .slice y.1.ia y.1.il y.1.ic, .slice y.1.va y.1.vl y.1.vc]] w' fun e w2 => e = .returned (.int .i64 cc) ∧ Below w'.heap.size w' w2) := hid fun w' h => by
        rw [hcc]
        have ho := HOF.out.trans (Off.of h)
        have hs := ho.size
        exact time1_call x.1 y.1 x.2 y.2 w' (HXI.out.same fun b q => ⟨by omega, ho.block b q.1 q.2⟩) (HYI.out.same fun b q => ⟨by omega, ho.block b q.1 q.2⟩)
      have HLT : Hid (∀ (h : q < A.length), ltS x (A[q]'h) = decide (cc < 0)) := hid fun h => by rw [hcc, hy]
      have HQ := hid hq
      have HSC := hid hsc
      have HY : Hid (∀ (h : q < A.length), y = (A[q]'h)) := hid fun h => hy
      clear hcc hy hof hrw hsc hjt hq hqA
      by_cases hcn : cc < 0
      · go_upto_region 4 with (fail)
        refine wp_region_split 17 (fun w' => Below ws.heap.size ws w') (by kernel_rfl) (by kernel_rfl) (by kernel_rfl) (by decide) ((Below.refl _ _).drew) (fun hS => ?_)
        simp only [List.take_succ_cons, List.take_zero, List.drop_succ_cons, List.drop_zero]
        refine wpAnyH_take (i := 0) (oi := _) (v := ?_) rfl (by kernel_rfl) (by kernel_rfl) (by kernel_rfl) (fun _ _ _ h => h) (Or.inl ⟨by rfl, ?_⟩) hS ?_
        rotate_left
        · intro w' hw'
          have hcells := HC4.out w' hw'
          go_simp
          (try with_reducible rfl)
        simp only [Act.put, List.getElem_toArray, List.getElem_cons_succ, List.getElem_cons_zero, List.setIfInBounds_toArray, List.set_cons_zero, List.set_cons_succ]
        refine wpAnyH_take (i := 1) (oi := _) (v := ?_) rfl (by kernel_rfl) (by kernel_rfl) (by kernel_rfl) (fun _ _ _ h => h) (Or.inl ⟨by rfl, ?_⟩) hS ?_
        rotate_left
        · intro w' hw'
          have hcells := HC4.out w' hw'
          go_simp
          (try with_reducible rfl)
        simp only [Act.put, List.getElem_toArray, List.getElem_cons_succ, List.getElem_cons_zero, List.setIfInBounds_toArray, List.set_cons_zero, List.set_cons_succ]
        refine wpAnyH_take (i := 2) (oi := _) (v := ?_) rfl (by kernel_rfl) (by kernel_rfl) (by kernel_rfl) (fun _ _ _ h => h) (Or.inl ⟨by rfl, ?_⟩) hS ?_
        rotate_left
        · intro w' hw'
          have hcells := HC4.out w' hw'
          go_simp
          (try with_reducible rfl)
        simp only [Act.put, List.getElem_toArray, List.getElem_cons_succ, List.getElem_cons_zero, List.setIfInBounds_toArray, List.set_cons_zero, List.set_cons_succ]
        refine wpAnyH_take (i := 3) (oi := _) (v := ?_) rfl (by kernel_rfl) (by kernel_rfl) (by kernel_rfl) (fun _ _ _ h => h) (Or.inl ⟨by rfl, ?_⟩) hS ?_
        rotate_left
        · intro w' hw'
          have hcells := HC4.out w' hw'
          go_simp
          (try with_reducible rfl)
        simp only [Act.put, List.getElem_toArray, List.getElem_cons_succ, List.getElem_cons_zero, List.setIfInBounds_toArray, List.set_cons_zero, List.set_cons_succ]
        refine wpAnyH_take (i := 4) (oi := _) (v := ?_) rfl (by kernel_rfl) (by kernel_rfl) (by kernel_rfl) (fun _ _ _ h => h) (Or.inl ⟨by rfl, ?_⟩) hS ?_
        rotate_left
        · intro w' hw'
          have hcells := HC4.out w' hw'
          go_simp
          (try with_reducible rfl)
        simp only [Act.put, List.getElem_toArray, List.getElem_cons_succ, List.getElem_cons_zero, List.setIfInBounds_toArray, List.set_cons_zero, List.set_cons_succ]
        refine wpAnyH_take (i := 5) (oi := _) (v := ?_) rfl (by kernel_rfl) (by kernel_rfl) (by kernel_rfl) (fun _ _ _ h => h) (Or.inl ⟨by rfl, ?_⟩) hS ?_
        rotate_left
        · intro w' hw'
          have hcells := HC4.out w' hw'
          go_simp
          (try with_reducible rfl)
        simp only [Act.put, List.getElem_toArray, List.getElem_cons_succ, List.getElem_cons_zero, List.setIfInBounds_toArray, List.set_cons_zero, List.set_cons_succ]
        refine wpAnyH_take (i := 6) (oi := _) (v := ?_) rfl (by kernel_rfl) (by kernel_rfl) (by kernel_rfl) (fun _ _ _ h => h) (Or.inl ⟨by rfl, ?_⟩) hS ?_
        rotate_left
        · intro w' hw'
          have hcells := HC4.out w' hw'
          go_simp
          (try with_reducible rfl)
        simp only [Act.put, List.getElem_toArray, List.getElem_cons_succ, List.getElem_cons_zero, List.setIfInBounds_toArray, List.set_cons_zero, List.set_cons_succ]
        refine wpAnyH_take (i := 7) (oi := _) (v := ?_) rfl (by kernel_rfl) (by kernel_rfl) (by kernel_rfl) (fun _ _ _ h => h) (Or.inl ⟨by rfl, ?_⟩) hS ?_
        rotate_left
        · intro w' hw'
          have hcells := HC4.out w' hw'
          go_simp
          (try with_reducible rfl)
        simp only [Act.put, List.getElem_toArray, List.getElem_cons_succ, List.getElem_cons_zero, List.setIfInBounds_toArray, List.set_cons_zero, List.set_cons_succ]
        refine wpAnyH_take (i := 8) (oi := _) (v := ?_) rfl (by kernel_rfl) (by kernel_rfl) (by kernel_rfl) (fun _ _ _ h => h) (Or.inl ⟨by rfl, ?_⟩) hS ?_
        rotate_left
        · intro w' hw'
          have hcells := HC4.out w' hw'
          go_simp
          (try with_reducible rfl)
        simp only [Act.put, List.getElem_toArray, List.getElem_cons_succ, List.getElem_cons_zero, List.setIfInBounds_toArray, List.set_cons_zero, List.set_cons_succ]
        refine wpAnyH_take (i := 9) (oi := _) (v := ?_) rfl (by kernel_rfl) (by kernel_rfl) (by kernel_rfl) (fun _ _ _ h => h) (Or.inl ⟨by rfl, ?_⟩) hS ?_
        rotate_left
        · intro w' hw'
          have hcells := HC4.out w' hw'
          go_simp
          (try with_reducible rfl)
        simp only [Act.put, List.getElem_toArray, List.getElem_cons_succ, List.getElem_cons_zero, List.setIfInBounds_toArray, List.set_cons_zero, List.set_cons_succ]
        refine wpAnyH_take (i := 10) (oi := _) (v := ?_) rfl (by kernel_rfl) (by kernel_rfl) (by kernel_rfl) (fun _ _ _ h => h) (Or.inl ⟨by rfl, ?_⟩) hS ?_
        rotate_left
        · intro w' hw'
          have hcells := HC4.out w' hw'
          go_simp
          (try with_reducible rfl)
        simp only [Act.put, List.getElem_toArray, List.getElem_cons_succ, List.getElem_cons_zero, List.setIfInBounds_toArray, List.set_cons_zero, List.set_cons_succ]
        refine wpAnyH_take (i := 11) (oi := _) (v := ?_) rfl (by kernel_rfl) (by kernel_rfl) (by kernel_rfl) (fun _ _ _ h => h) (Or.inl ⟨by rfl, ?_⟩) hS ?_
        rotate_left
        · intro w' hw'
          have hcells := HC4.out w' hw'
          go_simp
          (try with_reducible rfl)
        simp only [Act.put, List.getElem_toArray, List.getElem_cons_succ, List.getElem_cons_zero, List.setIfInBounds_toArray, List.set_cons_zero, List.set_cons_succ]
        refine wpAnyH_take (i := 12) (oi := _) (v := ?_) rfl (by kernel_rfl) (by kernel_rfl) (by kernel_rfl) (fun _ _ _ h => h) (Or.inl ⟨by rfl, ?_⟩) hS ?_
        rotate_left
        · intro w' hw'
          have hcells := HC4.out w' hw'
          go_simp
          (try with_reducible rfl)
        simp only [Act.put, List.getElem_toArray, List.getElem_cons_succ, List.getElem_cons_zero, List.setIfInBounds_toArray, List.set_cons_zero, List.set_cons_succ]
        refine wpAnyH_take (i := 13) (oi := _) (v := ?_) rfl (by kernel_rfl) (by kernel_rfl) (by kernel_rfl) (fun _ _ _ h => h) (Or.inl ⟨by rfl, ?_⟩) hS ?_
        rotate_left
        · intro w' hw'
          have hcells := HC4.out w' hw'
          go_simp
          (try with_reducible rfl)
        simp only [Act.put, List.getElem_toArray, List.getElem_cons_succ, List.getElem_cons_zero, List.setIfInBounds_toArray, List.set_cons_zero, List.set_cons_succ]
        refine wpAnyH_ready (rs := [14]) (by kernel_rfl) (by simp) ?_
        refine AllReadyH.cons (o := _) rfl (fun K hK => ?_) AllReadyH.nil
        go_simp; go_at_call 102; refine (HCM.out _ hS).mono ?_
        rintro e w4 ⟨rfl, hb4⟩
        refine hK.out _ _ (hS.trans (hb4.mono hS.size)) (fun hS => ?_)
        clear hK K
        (try simp only [Act.put, List.getElem_toArray, List.getElem_cons_succ, List.getElem_cons_zero, List.setIfInBounds_toArray, List.set_cons_zero, List.set_cons_succ])
        refine wpAnyH_take (i := 15) (oi := _) (v := ?_) rfl (by kernel_rfl) (by kernel_rfl) (by kernel_rfl) (fun _ _ _ h => h) (Or.inl ⟨by rfl, ?_⟩) hS ?_
        rotate_left
        · intro w' hw'
          have hcells := HC4.out w' hw'
          go_simp
          (try with_reducible rfl)
        simp only [Act.put, List.getElem_toArray, List.getElem_cons_succ, List.getElem_cons_zero, List.setIfInBounds_toArray, List.set_cons_zero, List.set_cons_succ]
        refine wpAnyH_take (i := 16) (oi := _) (v := ?_) rfl (by kernel_rfl) (by kernel_rfl) (by kernel_rfl) (fun _ _ _ h => h) (Or.inl ⟨by rfl, ?_⟩) hS ?_
        rotate_left
        · intro w' hw'
          have hcells := HC4.out w' hw'
          go_simp
          (try with_reducible rfl)
        simp only [Act.put, List.getElem_toArray, List.getElem_cons_succ, List.getElem_cons_zero, List.setIfInBounds_toArray, List.set_cons_zero, List.set_cons_succ]
        refine wpAnyH_done (by kernel_rfl) ?_ _
        (try dsimp only)
        have HBZ := hid (Off.of (g := g) hS)
        have HBZ2 := hid hS
        clear hS
        obtain ⟨wv, hwv⟩ : ∃ wv, wv = w4 := ⟨_, rfl⟩
        rw [← hwv] at HBZ HBZ2 ⊢
        clear hwv
        have HRV := hid (HRW.out.ext HBZ2.out)
        go_upto_region 6 with (fail)
        obtain ⟨⟨u0, u1, u2, u3, u4, u5, u6, u7, u8, u9⟩, ⟨v0, v1, v2, v3, v4, v5, v6, v7, v8, v9⟩⟩ := HC4.out _ HBZ2.out
        refine wp_region_two 15 (by kernel_rfl) ?_
        refine wpAnyT_reg (i := 0) (oi := _) (v := ?_) rfl (by decide) (by kernel_rfl) (by kernel_rfl) (by kernel_rfl) (fun _ _ _ h => h) (Or.inl ⟨by rfl, ?_⟩) (fun _ => rfl) ?_
        rotate_left
        · intro w' hw'
          go_simp
          (try with_reducible rfl)
        simp only [Act.put, List.getElem_toArray, List.getElem_cons_succ, List.getElem_cons_zero, List.setIfInBounds_toArray, List.set_cons_zero, List.set_cons_succ]
        refine wpAnyT_reg (i := 1) (oi := _) (v := ?_) rfl (by decide) (by kernel_rfl) (by kernel_rfl) (by kernel_rfl) (fun _ _ _ h => h) (Or.inl ⟨by rfl, ?_⟩) (fun _ => rfl) ?_
        rotate_left
        · intro w' hw'
          go_simp
          (try with_reducible rfl)
        simp only [Act.put, List.getElem_toArray, List.getElem_cons_succ, List.getElem_cons_zero, List.setIfInBounds_toArray, List.set_cons_zero, List.set_cons_succ]
        refine wpAnyT_reg (i := 2) (oi := _) (v := ?_) rfl (by decide) (by kernel_rfl) (by kernel_rfl) (by kernel_rfl) (fun _ _ _ h => h) (Or.inl ⟨by rfl, ?_⟩) (fun _ => rfl) ?_
        rotate_left
        · intro w' hw'
          go_simp
          (try with_reducible rfl)
        simp only [Act.put, List.getElem_toArray, List.getElem_cons_succ, List.getElem_cons_zero, List.setIfInBounds_toArray, List.set_cons_zero, List.set_cons_succ]
        refine wpAnyT_reg (i := 3) (oi := _) (v := ?_) rfl (by decide) (by kernel_rfl) (by kernel_rfl) (by kernel_rfl) (fun _ _ _ h => h) (Or.inl ⟨by rfl, ?_⟩) (fun _ => rfl) ?_
        rotate_left
        · intro w' hw'
          go_simp
          (try with_reducible rfl)
        simp only [Act.put, List.getElem_toArray, List.getElem_cons_succ, List.getElem_cons_zero, List.setIfInBounds_toArray, List.set_cons_zero, List.set_cons_succ]
        refine wpAnyT_reg (i := 4) (oi := _) (v := ?_) rfl (by decide) (by kernel_rfl) (by kernel_rfl) (by kernel_rfl) (fun _ _ _ h => h) (Or.inl ⟨by rfl, ?_⟩) (fun _ => rfl) ?_
        rotate_left
        · intro w' hw'
          go_simp
          (try with_reducible rfl)
        simp only [Act.put, List.getElem_toArray, List.getElem_cons_succ, List.getElem_cons_zero, List.setIfInBounds_toArray, List.set_cons_zero, List.set_cons_succ]
        refine wpAnyT_reg (i := 5) (oi := _) (v := ?_) rfl (by decide) (by kernel_rfl) (by kernel_rfl) (by kernel_rfl) (fun _ _ _ h => h) (Or.inl ⟨by rfl, ?_⟩) (fun _ => rfl) ?_
        rotate_left
        · intro w' hw'
          go_simp
          (try with_reducible rfl)
        simp only [Act.put, List.getElem_toArray, List.getElem_cons_succ, List.getElem_cons_zero, List.setIfInBounds_toArray, List.set_cons_zero, List.set_cons_succ]
        refine wpAnyT_reg (i := 6) (oi := _) (v := ?_) rfl (by decide) (by kernel_rfl) (by kernel_rfl) (by kernel_rfl) (fun _ _ _ h => h) (Or.inl ⟨by rfl, ?_⟩) (fun _ => rfl) ?_
        rotate_left
        · intro w' hw'
          go_simp
          (try with_reducible rfl)
        simp only [Act.put, List.getElem_toArray, List.getElem_cons_succ, List.getElem_cons_zero, List.setIfInBounds_toArray, List.set_cons_zero, List.set_cons_succ]
        refine wpAnyT_reg (i := 7) (oi := _) (v := ?_) rfl (by decide) (by kernel_rfl) (by kernel_rfl) (by kernel_rfl) (fun _ _ _ h => h) (Or.inl ⟨by rfl, ?_⟩) (fun _ => rfl) ?_
        rotate_left
        · intro w' hw'
          go_simp
          (try with_reducible rfl)
        simp only [Act.put, List.getElem_toArray, List.getElem_cons_succ, List.getElem_cons_zero, List.setIfInBounds_toArray, List.set_cons_zero, List.set_cons_succ]
        refine wpAnyT_reg (i := 8) (oi := _) (v := ?_) rfl (by decide) (by kernel_rfl) (by kernel_rfl) (by kernel_rfl) (fun _ _ _ h => h) (Or.inl ⟨by rfl, ?_⟩) (fun _ => rfl) ?_
        rotate_left
        · intro w' hw'
          go_simp
          (try with_reducible rfl)
        simp only [Act.put, List.getElem_toArray, List.getElem_cons_succ, List.getElem_cons_zero, List.setIfInBounds_toArray, List.set_cons_zero, List.set_cons_succ]
        refine wpAnyT_load (i := 9) (oi := _) (v := ?_) rfl (by decide) (by kernel_rfl) (by kernel_rfl) (by kernel_rfl) (by kernel_rfl) (by kernel_rfl) (fun _ _ _ h => h) (Or.inl ⟨by rfl, ?_⟩) (fun _ => rfl) ?_
        rotate_left
        · intro w' hw'
          subst hw'
          go_simp
          (try with_reducible rfl)
        simp only [Act.put, List.getElem_toArray, List.getElem_cons_succ, List.getElem_cons_zero, List.setIfInBounds_toArray, List.set_cons_zero, List.set_cons_succ]
        refine wpAnyT_reg (i := 10) (oi := _) (v := ?_) rfl (by decide) (by kernel_rfl) (by kernel_rfl) (by kernel_rfl) (fun _ _ _ h => h) (Or.inl ⟨by rfl, ?_⟩) (fun _ => rfl) ?_
        rotate_left
        · intro w' hw'
          go_simp
          (try with_reducible rfl)
        simp only [Act.put, List.getElem_toArray, List.getElem_cons_succ, List.getElem_cons_zero, List.setIfInBounds_toArray, List.set_cons_zero, List.set_cons_succ]
        refine wpAnyT_reg (i := 11) (oi := _) (v := ?_) rfl (by decide) (by kernel_rfl) (by kernel_rfl) (by kernel_rfl) (fun _ _ _ h => h) (Or.inl ⟨by rfl, ?_⟩) (fun _ => rfl) ?_
        rotate_left
        · intro w' hw'
          go_simp
          (try with_reducible rfl)
        simp only [Act.put, List.getElem_toArray, List.getElem_cons_succ, List.getElem_cons_zero, List.setIfInBounds_toArray, List.set_cons_zero, List.set_cons_succ]
        refine wpAnyT_reg (i := 12) (oi := _) (v := ?_) rfl (by decide) (by kernel_rfl) (by kernel_rfl) (by kernel_rfl) (fun _ _ _ h => h) (Or.inl ⟨by rfl, ?_⟩) (fun _ => rfl) ?_
        rotate_left
        · intro w' hw'
          go_simp
          (try with_reducible rfl)
        simp only [Act.put, List.getElem_toArray, List.getElem_cons_succ, List.getElem_cons_zero, List.setIfInBounds_toArray, List.set_cons_zero, List.set_cons_succ]
        refine wpAnyT_load (i := 13) (oi := _) (v := ?_) rfl (by decide) (by kernel_rfl) (by kernel_rfl) (by kernel_rfl) (by kernel_rfl) (by kernel_rfl) (fun _ _ _ h => h) (Or.inl ⟨by rfl, ?_⟩) (fun _ => rfl) ?_
        rotate_left
        · intro w' hw'
          subst hw'
          go_simp
          (try with_reducible rfl)
        simp only [Act.put, List.getElem_toArray, List.getElem_cons_succ, List.getElem_cons_zero, List.setIfInBounds_toArray, List.set_cons_zero, List.set_cons_succ]
        refine wpAnyT_reg (i := 14) (oi := _) (v := ?_) rfl (by decide) (by kernel_rfl) (by kernel_rfl) (by kernel_rfl) (fun _ _ _ h => h) (Or.inl ⟨by rfl, ?_⟩) (fun _ => rfl) ?_
        rotate_left
        · intro w' hw'
          go_simp
          (try with_reducible rfl)
        simp only [Act.put, List.getElem_toArray, List.getElem_cons_succ, List.getElem_cons_zero, List.setIfInBounds_toArray, List.set_cons_zero, List.set_cons_succ]
        clear u0 v0 u1 v1 u2 v2 u3 v3 u4 v4 u5 v5 u6 v6 u7 v7 u8 v8 u9 v9
        obtain ⟨wd, hwd⟩ : ∃ wd, wd = wv.drew := ⟨_, rfl⟩
        rw [← hwd]
        have HR0 : Hid (InRow slK 58 wd g cap ((midL A x j r).map Prod.fst)) := hid (by rw [hwd]; exact HRV.out.ext ((Below.refl _ wv).drew))
        have HOD := hid (show Off g wv wd by rw [hwd]; exact Off.of ((Below.refl _ wv).drew))
        clear hwd
        have HLEN15 := hid (show j < ((midL A x j r).map Prod.fst).length by rw [List.length_map, midL_len (by have := HAL.out; omega)]; have := HAL.out; omega)
        refine wpAnyT_one (i := 15) (o := _) (by kernel_rfl) (by kernel_rfl) rfl (fun K hK => ?_)
        obtain ⟨c15, ha⟩ : ∃ c : SlC, AtG slK wd g ((j) * 10) c := ⟨_, HR0.out.at' (j) HLEN15.out⟩
        obtain ⟨z0, z1, z2, z3, z4, z5, z6, z7, z8, z9⟩ := ha.slot
        have zf0 := HR0.out.free ((j) * 10)
        have zf1 := HR0.out.free ((j) * 10 + 1)
        have zf2 := HR0.out.free ((j) * 10 + 2)
        have zf3 := HR0.out.free ((j) * 10 + 3)
        have zf4 := HR0.out.free ((j) * 10 + 4)
        have zf5 := HR0.out.free ((j) * 10 + 5)
        have zf6 := HR0.out.free ((j) * 10 + 6)
        have zf7 := HR0.out.free ((j) * 10 + 7)
        have zf8 := HR0.out.free ((j) * 10 + 8)
        have zf9 := HR0.out.free ((j) * 10 + 9)
        clear ha
        go_simp
        obtain ⟨w5, hw5⟩ : ∃ u, u = stW wd g ((j) * 10) (SlC.cs y.1) := ⟨_, rfl⟩
        have hw5' := hw5
        simp only [stW, SlC.cs, Nat.add_assoc, Nat.reduceAdd] at hw5'
        rw [← hw5']
        clear z0 zf0 z1 zf1 z2 zf2 z3 zf3 z4 zf4 z5 zf5 z6 zf6 z7 zf7 z8 zf8 z9 zf9 hw5'
        refine hK.out _ _ ?_
        clear hK K
        (try simp only [Act.put, List.getElem_toArray, List.getElem_cons_succ, List.getElem_cons_zero, List.setIfInBounds_toArray, List.set_cons_zero, List.set_cons_succ])
        have HR5 : Hid (InRow slK 58 w5 g cap (((midL A x j r).map Prod.fst).set j y.1)) := hid (by rw [hw5]; exact HR0.out.put j HLEN15.out y.1)
        have HO5 := hid (show Off g wd w5 by rw [hw5]; exact Off.st g _ _ _)
        have HLEN17 := hid (show j - 1 < (((midL A x j r).map Prod.fst).set j y.1).length by rw [List.length_set]; have := HLEN15.out; omega)
        clear hw5
        refine wpAnyT_reg (i := 16) (oi := _) (v := ?_) rfl (by decide) (by kernel_rfl) (by kernel_rfl) (by kernel_rfl) (fun _ _ _ h => h) (Or.inl ⟨by rfl, ?_⟩) (fun h => absurd h (by decide)) ?_
        rotate_left
        · intro w' hw'
          go_simp
          (try with_reducible rfl)
        simp only [Act.put, List.getElem_toArray, List.getElem_cons_succ, List.getElem_cons_zero, List.setIfInBounds_toArray, List.set_cons_zero, List.set_cons_succ]
        refine wpAnyT_one (i := 17) (o := _) (by kernel_rfl) (by kernel_rfl) rfl (fun K hK => ?_)
        obtain ⟨c17, ha⟩ : ∃ c : SlC, AtG slK w5 g ((j - 1) * 10) c := ⟨_, HR5.out.at' (j - 1) HLEN17.out⟩
        obtain ⟨z0, z1, z2, z3, z4, z5, z6, z7, z8, z9⟩ := ha.slot
        have zf0 := HR5.out.free ((j - 1) * 10)
        have zf1 := HR5.out.free ((j - 1) * 10 + 1)
        have zf2 := HR5.out.free ((j - 1) * 10 + 2)
        have zf3 := HR5.out.free ((j - 1) * 10 + 3)
        have zf4 := HR5.out.free ((j - 1) * 10 + 4)
        have zf5 := HR5.out.free ((j - 1) * 10 + 5)
        have zf6 := HR5.out.free ((j - 1) * 10 + 6)
        have zf7 := HR5.out.free ((j - 1) * 10 + 7)
        have zf8 := HR5.out.free ((j - 1) * 10 + 8)
        have zf9 := HR5.out.free ((j - 1) * 10 + 9)
        clear ha
        go_simp
        obtain ⟨w6, hw6⟩ : ∃ u, u = stW w5 g ((j - 1) * 10) (SlC.cs x.1) := ⟨_, rfl⟩
        have hw6' := hw6
        simp only [stW, SlC.cs, Nat.add_assoc, Nat.reduceAdd] at hw6'
        rw [← hw6']
        clear z0 zf0 z1 zf1 z2 zf2 z3 zf3 z4 zf4 z5 zf5 z6 zf6 z7 zf7 z8 zf8 z9 zf9 hw6'
        refine hK.out _ _ ?_
        clear hK K
        (try simp only [Act.put, List.getElem_toArray, List.getElem_cons_succ, List.getElem_cons_zero, List.setIfInBounds_toArray, List.set_cons_zero, List.set_cons_succ])
        have HR6 : Hid (InRow slK 58 w6 g cap ((((midL A x j r).map Prod.fst).set j y.1).set (j - 1) x.1)) := hid (by rw [hw6]; exact HR5.out.put (j - 1) HLEN17.out x.1)
        have HO6 := hid (show Off g w5 w6 by rw [hw6]; exact Off.st g _ _ _)
        clear hw6
        refine wpAnyT_done (by kernel_rfl) ?_ _
        (try dsimp only)
        go_wp2
        go_roundw
        case rel =>
          have hq := HQ.out
          have hqA : q < A.length := by have := HAL.out; omega
          have h1 := HR6.out
          subst hq
          have e := midL_swap (A := A) (x := x) (r := r) hqA
          have e2 : ((((midL A x (q + 1) r).map Prod.fst).set (q + 1) y.1).set q x.1) = ((midL A x q r).map Prod.fst) := by rw [← e, List.map_set, List.map_set, HY.out hqA]
          rw [show q + 1 - 1 = q from rfl, e2] at h1
          refine ⟨q, by omega, by go_num, HOF.out.trans (HBZ.out.trans (HOD.out.trans (HO5.out.trans HO6.out))), h1, ?_⟩
          rw [HSC.out, scanP_pass hqA (by rw [HLT.out hqA]; exact decide_eq_true hcn)]
        case measure => simp [intOf]; omega
      · have hcn' : 0 ≤ cc := by omega
        have HOUT := hid (show sortT ltS ps (k + 1) ++ ps.drop (k + 1) = midL A x j r by
          have hq := HQ.out
          have hqA : q < A.length := by have := HAL.out; omega
          rw [HNX.out, ← HR.out, insL_of (j := j) (by rw [HSC.out, hq, scanP_stop hqA (by rw [HLT.out hqA]; exact decide_eq_false hcn)]), midL, List.append_assoc]
          rfl)
        go_upto_region 4 with (fail)
        refine wp_region_split 17 (fun w' => Below ws.heap.size ws w') (by kernel_rfl) (by kernel_rfl) (by kernel_rfl) (by decide) ((Below.refl _ _).drew) (fun hS => ?_)
        simp only [List.take_succ_cons, List.take_zero, List.drop_succ_cons, List.drop_zero]
        refine wpAnyH_take (i := 0) (oi := _) (v := ?_) rfl (by kernel_rfl) (by kernel_rfl) (by kernel_rfl) (fun _ _ _ h => h) (Or.inl ⟨by rfl, ?_⟩) hS ?_
        rotate_left
        · intro w' hw'
          have hcells := HC4.out w' hw'
          go_simp
          (try with_reducible rfl)
        simp only [Act.put, List.getElem_toArray, List.getElem_cons_succ, List.getElem_cons_zero, List.setIfInBounds_toArray, List.set_cons_zero, List.set_cons_succ]
        refine wpAnyH_take (i := 1) (oi := _) (v := ?_) rfl (by kernel_rfl) (by kernel_rfl) (by kernel_rfl) (fun _ _ _ h => h) (Or.inl ⟨by rfl, ?_⟩) hS ?_
        rotate_left
        · intro w' hw'
          have hcells := HC4.out w' hw'
          go_simp
          (try with_reducible rfl)
        simp only [Act.put, List.getElem_toArray, List.getElem_cons_succ, List.getElem_cons_zero, List.setIfInBounds_toArray, List.set_cons_zero, List.set_cons_succ]
        refine wpAnyH_take (i := 2) (oi := _) (v := ?_) rfl (by kernel_rfl) (by kernel_rfl) (by kernel_rfl) (fun _ _ _ h => h) (Or.inl ⟨by rfl, ?_⟩) hS ?_
        rotate_left
        · intro w' hw'
          have hcells := HC4.out w' hw'
          go_simp
          (try with_reducible rfl)
        simp only [Act.put, List.getElem_toArray, List.getElem_cons_succ, List.getElem_cons_zero, List.setIfInBounds_toArray, List.set_cons_zero, List.set_cons_succ]
        refine wpAnyH_take (i := 3) (oi := _) (v := ?_) rfl (by kernel_rfl) (by kernel_rfl) (by kernel_rfl) (fun _ _ _ h => h) (Or.inl ⟨by rfl, ?_⟩) hS ?_
        rotate_left
        · intro w' hw'
          have hcells := HC4.out w' hw'
          go_simp
          (try with_reducible rfl)
        simp only [Act.put, List.getElem_toArray, List.getElem_cons_succ, List.getElem_cons_zero, List.setIfInBounds_toArray, List.set_cons_zero, List.set_cons_succ]
        refine wpAnyH_take (i := 4) (oi := _) (v := ?_) rfl (by kernel_rfl) (by kernel_rfl) (by kernel_rfl) (fun _ _ _ h => h) (Or.inl ⟨by rfl, ?_⟩) hS ?_
        rotate_left
        · intro w' hw'
          have hcells := HC4.out w' hw'
          go_simp
          (try with_reducible rfl)
        simp only [Act.put, List.getElem_toArray, List.getElem_cons_succ, List.getElem_cons_zero, List.setIfInBounds_toArray, List.set_cons_zero, List.set_cons_succ]
        refine wpAnyH_take (i := 5) (oi := _) (v := ?_) rfl (by kernel_rfl) (by kernel_rfl) (by kernel_rfl) (fun _ _ _ h => h) (Or.inl ⟨by rfl, ?_⟩) hS ?_
        rotate_left
        · intro w' hw'
          have hcells := HC4.out w' hw'
          go_simp
          (try with_reducible rfl)
        simp only [Act.put, List.getElem_toArray, List.getElem_cons_succ, List.getElem_cons_zero, List.setIfInBounds_toArray, List.set_cons_zero, List.set_cons_succ]
        refine wpAnyH_take (i := 6) (oi := _) (v := ?_) rfl (by kernel_rfl) (by kernel_rfl) (by kernel_rfl) (fun _ _ _ h => h) (Or.inl ⟨by rfl, ?_⟩) hS ?_
        rotate_left
        · intro w' hw'
          have hcells := HC4.out w' hw'
          go_simp
          (try with_reducible rfl)
        simp only [Act.put, List.getElem_toArray, List.getElem_cons_succ, List.getElem_cons_zero, List.setIfInBounds_toArray, List.set_cons_zero, List.set_cons_succ]
        refine wpAnyH_take (i := 7) (oi := _) (v := ?_) rfl (by kernel_rfl) (by kernel_rfl) (by kernel_rfl) (fun _ _ _ h => h) (Or.inl ⟨by rfl, ?_⟩) hS ?_
        rotate_left
        · intro w' hw'
          have hcells := HC4.out w' hw'
          go_simp
          (try with_reducible rfl)
        simp only [Act.put, List.getElem_toArray, List.getElem_cons_succ, List.getElem_cons_zero, List.setIfInBounds_toArray, List.set_cons_zero, List.set_cons_succ]
        refine wpAnyH_take (i := 8) (oi := _) (v := ?_) rfl (by kernel_rfl) (by kernel_rfl) (by kernel_rfl) (fun _ _ _ h => h) (Or.inl ⟨by rfl, ?_⟩) hS ?_
        rotate_left
        · intro w' hw'
          have hcells := HC4.out w' hw'
          go_simp
          (try with_reducible rfl)
        simp only [Act.put, List.getElem_toArray, List.getElem_cons_succ, List.getElem_cons_zero, List.setIfInBounds_toArray, List.set_cons_zero, List.set_cons_succ]
        refine wpAnyH_take (i := 9) (oi := _) (v := ?_) rfl (by kernel_rfl) (by kernel_rfl) (by kernel_rfl) (fun _ _ _ h => h) (Or.inl ⟨by rfl, ?_⟩) hS ?_
        rotate_left
        · intro w' hw'
          have hcells := HC4.out w' hw'
          go_simp
          (try with_reducible rfl)
        simp only [Act.put, List.getElem_toArray, List.getElem_cons_succ, List.getElem_cons_zero, List.setIfInBounds_toArray, List.set_cons_zero, List.set_cons_succ]
        refine wpAnyH_take (i := 10) (oi := _) (v := ?_) rfl (by kernel_rfl) (by kernel_rfl) (by kernel_rfl) (fun _ _ _ h => h) (Or.inl ⟨by rfl, ?_⟩) hS ?_
        rotate_left
        · intro w' hw'
          have hcells := HC4.out w' hw'
          go_simp
          (try with_reducible rfl)
        simp only [Act.put, List.getElem_toArray, List.getElem_cons_succ, List.getElem_cons_zero, List.setIfInBounds_toArray, List.set_cons_zero, List.set_cons_succ]
        refine wpAnyH_take (i := 11) (oi := _) (v := ?_) rfl (by kernel_rfl) (by kernel_rfl) (by kernel_rfl) (fun _ _ _ h => h) (Or.inl ⟨by rfl, ?_⟩) hS ?_
        rotate_left
        · intro w' hw'
          have hcells := HC4.out w' hw'
          go_simp
          (try with_reducible rfl)
        simp only [Act.put, List.getElem_toArray, List.getElem_cons_succ, List.getElem_cons_zero, List.setIfInBounds_toArray, List.set_cons_zero, List.set_cons_succ]
        refine wpAnyH_take (i := 12) (oi := _) (v := ?_) rfl (by kernel_rfl) (by kernel_rfl) (by kernel_rfl) (fun _ _ _ h => h) (Or.inl ⟨by rfl, ?_⟩) hS ?_
        rotate_left
        · intro w' hw'
          have hcells := HC4.out w' hw'
          go_simp
          (try with_reducible rfl)
        simp only [Act.put, List.getElem_toArray, List.getElem_cons_succ, List.getElem_cons_zero, List.setIfInBounds_toArray, List.set_cons_zero, List.set_cons_succ]
        refine wpAnyH_take (i := 13) (oi := _) (v := ?_) rfl (by kernel_rfl) (by kernel_rfl) (by kernel_rfl) (fun _ _ _ h => h) (Or.inl ⟨by rfl, ?_⟩) hS ?_
        rotate_left
        · intro w' hw'
          have hcells := HC4.out w' hw'
          go_simp
          (try with_reducible rfl)
        simp only [Act.put, List.getElem_toArray, List.getElem_cons_succ, List.getElem_cons_zero, List.setIfInBounds_toArray, List.set_cons_zero, List.set_cons_succ]
        refine wpAnyH_ready (rs := [14]) (by kernel_rfl) (by simp) ?_
        refine AllReadyH.cons (o := _) rfl (fun K hK => ?_) AllReadyH.nil
        go_simp; go_at_call 102; refine (HCM.out _ hS).mono ?_
        rintro e w4 ⟨rfl, hb4⟩
        refine hK.out _ _ (hS.trans (hb4.mono hS.size)) (fun hS => ?_)
        clear hK K
        (try simp only [Act.put, List.getElem_toArray, List.getElem_cons_succ, List.getElem_cons_zero, List.setIfInBounds_toArray, List.set_cons_zero, List.set_cons_succ])
        refine wpAnyH_take (i := 15) (oi := _) (v := ?_) rfl (by kernel_rfl) (by kernel_rfl) (by kernel_rfl) (fun _ _ _ h => h) (Or.inl ⟨by rfl, ?_⟩) hS ?_
        rotate_left
        · intro w' hw'
          have hcells := HC4.out w' hw'
          go_simp
          (try with_reducible rfl)
        simp only [Act.put, List.getElem_toArray, List.getElem_cons_succ, List.getElem_cons_zero, List.setIfInBounds_toArray, List.set_cons_zero, List.set_cons_succ]
        refine wpAnyH_take (i := 16) (oi := _) (v := ?_) rfl (by kernel_rfl) (by kernel_rfl) (by kernel_rfl) (fun _ _ _ h => h) (Or.inl ⟨by rfl, ?_⟩) hS ?_
        rotate_left
        · intro w' hw'
          have hcells := HC4.out w' hw'
          go_simp
          (try with_reducible rfl)
        simp only [Act.put, List.getElem_toArray, List.getElem_cons_succ, List.getElem_cons_zero, List.setIfInBounds_toArray, List.set_cons_zero, List.set_cons_succ]
        refine wpAnyH_done (by kernel_rfl) ?_ _
        (try dsimp only)
        have HBZ := hid (Off.of (g := g) hS)
        have HBZ2 := hid hS
        clear hS
        go_wp2
        go_roundw
        case rel =>
          refine ⟨k + 1, by omega, .inl (by omega), by go_num, HOF.out.trans HBZ.out, ?_⟩
          have e := HOUT.out
          rw [e]
          exact HRW.out.ext HBZ2.out
        case measure => simp [intOf]; omega
  · have HOF := hid hof
    have HRW := hid hrw
    have hnl : ¬ (k : Int) < (n : Int) := by omega
    have HE := hid (show sortT ltS ps k ++ ps.drop k = sortT ltS ps n by
      have hl := HN.out
      rcases hk with hk | hk
      · obtain rfl : k = n := by omega
        rw [List.drop_eq_nil_of_le (show ps.length ≤ k by omega), List.append_nil]
      · subst hk
        cases ps with
        | nil => simp at hl; subst hl; rfl
        | cons x r =>
          rw [List.length_cons] at hl
          have h1 : n = 1 := by omega
          rw [List.drop_eq_nil_of_le (show (x :: r).length ≤ 1 by rw [List.length_cons]; omega), List.append_nil, h1])
    clear hof hrw hk
    go_wp2
    go_end0
    exact ⟨rfl, HOF.out, by rw [← HE.out]; exact HRW.out⟩
end Go.Proofs.YthjlgpmajeafpaaGreatDoor

/-
  slots.Expired: the slots whose time has come, cloned, sorted by insertion (at most 20). Condition: the state can be read as data.
-/
namespace Go.Proofs.YthjlgpmajeafpaaGreatDoor
open Go Go.RowKit Go.Shelf
set_option linter.unusedVariables false
set_option linter.unusedSimpArgs false

set_option maxRecDepth 100000 in
theorem insNoS_call (a : Option Addr) (n c : Nat) (p q : Nat) (w : World) (hp : p ≤ 20) (hq : q ≤ p + 1) : Calls Tryz.prog 164 #[.slice a n c, .int .i64 p, .int .i64 q, .func (.func 102) #[] #[]] w fun e w' => e = .returned (.tuple #[]) ∧ w = w' := by
  have h1 : ¬ (p : Int) + 1 < (q : Int) := by omega
  have hwr : IntKind.i64.wrap ((p : Int) + 1) = (p : Int) + 1 := IntWalk.i64_in _ (by omega)
  obtain ⟨z, hz⟩ : ∃ z : Int, z = (p : Int) + 1 := ⟨_, rfl⟩
  have hz0 : 0 ≤ z := by omega
  have hz20 : z ≤ 21 := by omega
  go_enter Tryz.func164, Tryz.ntmps164
  go_wp2
  rw [← hz] at h1 hwr ⊢
  clear hz
  go_loopw [8] (fun i wr => i = .int .i64 z ∧ wr = w) (fun _ _ => 0)
  case atStart => exact ⟨rfl, rfl⟩
  case round =>
    obtain ⟨rfl, rfl⟩ := hrel
    go_wp2
    go_end0
    exact ⟨rfl, rfl⟩
def PermPostS (g cap n : Nat) (ps : List (SlC × Slot)) (w : World) (e : Ending) (w' : World) : Prop := e = .returned (.tuple #[]) ∧ Off g w w' ∧ InRow slK 58 w' g cap ((sortT ltS ps n).map Prod.fst)
set_option maxRecDepth 100000 in
set_option maxHeartbeats 4000000 in
theorem stableS_call (g cap n : Nat) (ps : List (SlC × Slot)) (w : World) (hn : ps.length = n) (h20 : n ≤ 20) (hg : g < w.heap.size) (hrow : InRow slK 58 w g cap (ps.map Prod.fst)) (hel : ∀ p ∈ ps, IsSl (fun b => b < w.heap.size ∧ b ≠ g) w p.1 p.2) :
    Calls Tryz.prog 134 #[.slice (some ⟨g, 0, none⟩) n cap, .int .i64 n, .func (.func 102) #[] #[]] w (PermPostS g cap n ps w) := by
  have HI := hid (insS_call g cap n ps w hn h20 hg hrow hel)
  have HNO : Hid (∀ w', Calls Tryz.prog 164 #[.slice (some ⟨g, 0, none⟩) n cap, .int .i64 20, .int .i64 n, .func (.func 102) #[] #[]] w' fun e w2 => e = .returned (.tuple #[]) ∧ w' = w2) := hid fun w' => insNoS_call (some ⟨g, 0, none⟩) n cap 20 n w' (by omega) (by omega)
  clear hn hg hrow hel
  go_enter Tryz.func134, Tryz.ntmps134
  by_cases h : n = 20
  · have hn1 : (20 : Int) ≤ (n : Int) := by omega
    have hn2 : 20 ≤ n := by omega
    have hn3 : ¬ (20 : Int) < (n : Int) := by omega
    have hn4 : ¬ (40 : Int) ≤ (n : Int) := by omega
    have hn5 : ¬ 40 ≤ n := by omega
    have hn6 : ¬ 20 < n := by omega
    have HI20 : Hid (Calls Tryz.prog 164 #[.slice (some ⟨g, 0, none⟩) n cap, .int .i64 0, .int .i64 20, .func (.func 102) #[] #[]] w fun e w' => e = .returned (.tuple #[]) ∧ Off g w w' ∧ InRow slK 58 w' g cap ((sortT ltS ps n).map Prod.fst)) := hid (by
      have h1 := HI.out
      rw [show ((n : Nat) : Int) = 20 by omega] at h1
      exact h1)
    clear h
    go_wp2
    go_loopw [7, 8] (fun av bv wr => ∃ s : Bool, (s = false ∧ av = .int .i64 0 ∧ bv = .int .i64 20 ∧ wr = w) ∨ (s = true ∧ av = .int .i64 20 ∧ bv = .int .i64 40 ∧ Off g w wr ∧ InRow slK 58 wr g cap ((sortT ltS ps n).map Prod.fst))) (fun av _ _ => 20 - (intOf av).toNat)
    case atStart => exact ⟨false, .inl ⟨rfl, rfl, rfl, rfl⟩⟩
    case round =>
      obtain ⟨s, hrel⟩ := hrel
      rcases hrel with ⟨rfl, rfl, rfl, rfl⟩ | ⟨rfl, rfl, rfl, ho, hr⟩
      · go_wp2_with (go_at_call 164; refine HI20.out.mono ?_; rintro e w2 ⟨rfl, ho, hr⟩)
        go_roundw
        case rel => exact ⟨true, .inr ⟨rfl, rfl, rfl, ho, hr⟩⟩
        case measure => simp [intOf]
      · have HO := hid ho
        have HR := hid hr
        clear ho hr
        go_wp2_with (go_at_call 164; refine (HNO.out _).mono ?_; rintro e w2 ⟨rfl, rfl⟩)
        go_loopw [6] (fun i w3 => i = .int .i64 20 ∧ w3 = wr) (fun _ _ => 0)
        case atStart => exact ⟨rfl, rfl⟩
        case round =>
          obtain ⟨rfl, rfl⟩ := hrel
          go_wp2
          go_end0
          exact ⟨rfl, HO.out, HR.out⟩
  · have hn1 : ¬ (20 : Int) ≤ (n : Int) := by omega
    have hn2 : ¬ 20 ≤ n := by omega
    have hn3 : ¬ (20 : Int) < (n : Int) := by omega
    go_wp2
    go_loopw [7, 8] (fun av bv wr => av = .int .i64 0 ∧ bv = .int .i64 20 ∧ wr = w) (fun _ _ _ => 0)
    case atStart => exact ⟨rfl, rfl, rfl⟩
    case round =>
      obtain ⟨rfl, rfl, rfl⟩ := hrel
      go_wp2_with (go_at_call 164; refine HI.out.mono ?_; rintro e w2 ⟨rfl, ho, hr⟩)
      have HO := hid ho
      have HR := hid hr
      clear ho hr
      go_loopw [6] (fun i w3 => i = .int .i64 20 ∧ w3 = w2) (fun _ _ => 0)
      case atStart => exact ⟨rfl, rfl⟩
      case round =>
        obtain ⟨rfl, rfl⟩ := hrel
        go_wp2
        go_end0
        exact ⟨rfl, HO.out, HR.out⟩
set_option maxRecDepth 100000 in
set_option maxHeartbeats 4000000 in
theorem stable0S_call (a : Option Addr) (c : Nat) (w : World) : Calls Tryz.prog 134 #[.slice a 0 c, .int .i64 0, .func (.func 102) #[] #[]] w fun e w' => e = .returned (.tuple #[]) ∧ w = w' := by
  have HNO : Hid (∀ w', Calls Tryz.prog 164 #[.slice a 0 c, .int .i64 0, .int .i64 0, .func (.func 102) #[] #[]] w' fun e w2 => e = .returned (.tuple #[]) ∧ w' = w2) := hid fun w' => insNoS_call a 0 c 0 0 w' (by omega) (by omega)
  go_enter Tryz.func134, Tryz.ntmps134
  go_wp2
  go_loopw [7, 8] (fun av bv wr => av = .int .i64 0 ∧ bv = .int .i64 20 ∧ wr = w) (fun _ _ _ => 0)
  case atStart => exact ⟨rfl, rfl, rfl⟩
  case round =>
    obtain ⟨rfl, rfl, rfl⟩ := hrel
    go_wp2_with (go_at_call 164; refine (HNO.out _).mono ?_; rintro e w2 ⟨rfl, rfl⟩)
    go_loopw [6] (fun i w3 => i = .int .i64 20 ∧ w3 = wr) (fun _ _ => 0)
    case atStart => exact ⟨rfl, rfl⟩
    case round =>
      obtain ⟨rfl, rfl⟩ := hrel
      go_wp2
      go_end0
      exact ⟨rfl, rfl⟩
theorem sortStableS_call (g cap n : Nat) (ps : List (SlC × Slot)) (w : World) (hn : ps.length = n) (h20 : n ≤ 20) (hg : g < w.heap.size) (hrow : InRow slK 58 w g cap (ps.map Prod.fst)) (hel : ∀ p ∈ ps, IsSl (fun b => b < w.heap.size ∧ b ≠ g) w p.1 p.2) :
    Calls Tryz.prog 101 #[.slice (some ⟨g, 0, none⟩) n cap, .func (.func 102) #[] #[]] w (PermPostS g cap n ps w) := by
  have HI := hid (stableS_call g cap n ps w hn h20 hg hrow hel)
  clear hn hg hrow hel
  go_enter Tryz.func101, Tryz.ntmps101
  go_wp2_with (go_at_call 134; refine HI.out.mono ?_; rintro e w2 ⟨rfl, ho, hr⟩)
  go_end0
  exact ⟨rfl, ho, hr⟩
theorem sortStable0S_call (a : Option Addr) (c : Nat) (w : World) : Calls Tryz.prog 101 #[.slice a 0 c, .func (.func 102) #[] #[]] w fun e w' => e = .returned (.tuple #[]) ∧ w = w' := by
  have HI := hid (stable0S_call a c w)
  go_enter Tryz.func101, Tryz.ntmps101
  go_wp2_with (go_at_call 134; refine HI.out.mono ?_; rintro e w2 ⟨rfl, rfl⟩)
  go_end0
  exact ⟨rfl, rfl⟩
/-- A built row as pairs. -/
theorem Built.pairsS {T B : Nat} {w : World} {g n cap : Nat} {l : List Slot} (h : Built slK T B w (.slice (some ⟨g, 0, none⟩) n cap) n l) (hn : n = l.length) :
    ∃ ps : List (SlC × Slot), ps.length = n ∧ ps.map Prod.snd = l ∧ g < w.heap.size ∧ B ≤ g ∧ n ≤ cap ∧ InRow slK T w g cap (ps.map Prod.fst) ∧ ∀ p ∈ ps, IsSl (fun b => B ≤ b ∧ b < w.heap.size ∧ b ≠ g) w p.1 p.2 := by
  obtain ⟨cs, h1, h2, h3⟩ := h
  have hlt := h2.lt g rfl
  have hcap : n ≤ cap := by
    rcases h2.2 with h4 | ⟨g', cap', cur, hv, _, _, hc, _⟩
    · exact absurd h4.1 (by simp)
    · simp only [Value.slice.injEq] at hv
      obtain ⟨_, _, rfl⟩ := hv
      exact hc
  have hl : cs.length = l.length := by omega
  have hr := InRow.ofOwn (K := slK) h1 h2
  refine ⟨cs.zip l, by rw [List.length_zip]; omega, List.map_snd_zip (by omega), hlt.2, hlt.1, hcap, ?_, fun p hp => ?_⟩
  · rw [List.map_fst_zip (by omega)]; exact hr
  · obtain ⟨j, hj, rfl⟩ := List.getElem_of_mem hp
    rw [List.getElem_zip]
    have hj2 : j < cs.length ∧ j < l.length := by rw [List.length_zip] at hj; omega
    exact (h3 j hj2.1 hj2.2).same fun b q => ⟨⟨q.1, q.2.1, fun e => q.2.2 (by rw [e]; rfl)⟩, rfl⟩
def SortPostS (w : World) (n : Nat) (l : List Slot) (e : Ending) (w' : World) : Prop := ∃ a c, e = .returned (.slice a n c) ∧ Below w.heap.size w w' ∧ IsRow slK (fun b => w.heap.size ≤ b ∧ b < w'.heap.size) w' a n c (sortT ltDS l l.length)
theorem perm_rowS {B g cap n : Nat} {ps : List (SlC × Slot)} {w w' : World} {l : List Slot} (hn : ps.length = n) (hl : ps.map Prod.snd = l) (hg : g < w.heap.size) (hB : B ≤ g) (hc : n ≤ cap) (h20 : n ≤ 20) (ho : Off g w w') (hr : InRow slK 58 w' g cap ((sortT ltS ps n).map Prod.fst)) (hel : ∀ p ∈ ps, IsSl (fun b => B ≤ b ∧ b < w.heap.size ∧ b ≠ g) w p.1 p.2) :
    IsRow slK (fun b => B ≤ b ∧ b < w'.heap.size) w' (some ⟨g, 0, none⟩) n cap (sortT ltDS l l.length) := by
  have hll : l.length = n := by rw [← hl, List.length_map]; exact hn
  have e : sortT ltDS l l.length = (sortT ltS ps n).map Prod.snd := by rw [hll, sortT_map Prod.snd ltS ltDS (fun _ _ => rfl), hl]
  have hsl : (sortT ltS ps n).length = n := sortT_len _ _ _ (by omega)
  have hs := ho.size
  refine ⟨by rw [e, List.length_map, hsl], hc, by dsimp only; omega, .inr ⟨g, 0, rfl, ⟨hB, by omega⟩, fun j hj => ?_⟩⟩
  have hj' : j < (sortT ltS ps n).length := by rw [e, List.length_map] at hj; exact hj
  refine ⟨(sortT ltS ps n)[j].1, ?_, ?_⟩
  · have h1 := hr.at' j (by rw [List.length_map]; exact hj')
    rw [List.getElem_map] at h1
    rw [Nat.zero_add]
    exact h1
  · have h2 := hel _ (sortST_in _ _ (List.getElem_mem hj'))
    have e2 : (sortT ltDS l l.length)[j] = (sortT ltS ps n)[j].2 := by
      have : (sortT ltDS l l.length)[j]? = ((sortT ltS ps n).map Prod.snd)[j]? := by rw [e]
      rw [List.getElem?_eq_getElem hj, List.getElem?_map, List.getElem?_eq_getElem hj'] at this
      exact Option.some.inj this
    rw [e2]
    exact h2.same fun b q => ⟨⟨q.1, by omega⟩, ho.block b q.2.1 q.2.2⟩
/-- The slots whose time has come. -/
def hasCome (now : Int) (x : Slot) : Bool := decide (0 < x.t) && decide (x.t ≤ now)
def expL (now : Int) (l : List Slot) : List Slot := l.filter (hasCome now)
theorem expL_take {now : Int} {l : List Slot} {k : Nat} (h : k < l.length) : expL now (l.take (k + 1)) = expL now (l.take k) ++ (if hasCome now l[k] = true then [l[k]] else []) := by
  rw [List.take_succ_eq_append_getElem h, expL, List.filter_append]
  congr 1
  simp only [List.filter_cons, List.filter_nil]
theorem expL_at {now : Int} {l : List Slot} {k : Nat} (h : k < l.length) (hc : hasCome now l[k] = true) : (expL now l)[(expL now (l.take k)).length]? = some l[k] := by
  have e : l = l.take k ++ l[k] :: l.drop (k + 1) := by rw [← List.drop_eq_getElem_cons h, List.take_append_drop]
  have e2 : expL now (l.take k ++ l[k] :: l.drop (k + 1)) = expL now (l.take k) ++ l[k] :: expL now (l.drop (k + 1)) := by
    rw [expL, List.filter_append, List.filter_cons, if_pos hc]
    rfl
  rw [← e] at e2
  rw [e2, List.getElem?_append_right (Nat.le_refl _), Nat.sub_self]
  rfl
def ExpPost (w : World) (now : Int) (l : List Slot) (e : Ending) (w' : World) : Prop := ∃ a n c, e = .returned (.slice a n c) ∧ Below w.heap.size w w' ∧ IsRow slK (fun b => w.heap.size ≤ b ∧ b < w'.heap.size) w' a n c (sortT ltDS (expL now l) (expL now l).length)
set_option maxRecDepth 100000 in
set_option maxHeartbeats 8000000 in
theorem expired_call (c : StC) (d : Sta) (now : Int) (w : World) (hd : IsSta (· < w.heap.size) w c d) (h20 : d.l.length ≤ 20) : Calls Tryz.prog 55 #[c.v, .int .i64 now] w (ExpPost w now d.l) := by
  obtain ⟨ti, hi, hz0, hz1, hz2⟩ := info_parts infoSlot
  obtain ⟨sn, st, a, sl, sc⟩ := c
  have HL := hid hd.l.len
  have HD := hid hd.l
  dsimp only at HL HD
  have hsl : sl ≤ 20 := by have := HL.out; omega
  obtain ⟨wb, hwb⟩ : ∃ u, u = w.alloc (.cells #[.int .i64 sn, .int .i64 st, .slice a sl sc] 55) := ⟨_, rfl⟩
  have HB0 := hid (show Below w.heap.size w wb by rw [hwb]; exact (Below.refl _ w).alloc (Nat.le_refl _) _)
  have g0 : wb.heap[w.heap.size]? = some (.cells #[.int .i64 sn, .int .i64 st, .slice a sl sc] 55) := by rw [hwb]; exact heap_alloc_new w _
  have k2 := cellOf g0 2
  (try dsimp only at k2)
  rw [hwb] at k2
  have HWB := hid hwb
  clear hd g0 hwb
  dsimp only [StC.v]
  go_enter Tryz.func55, Tryz.ntmps55
  go_wp2
  rw [← HWB.out]
  clear k2
  go_loopw [5, 11] (fun vv i wr => ∃ (k m : Nat) (v : Value), v = vv ∧ k ≤ sl ∧ i = .int .i64 k ∧ m = (expL now (d.l.take k)).length ∧ Built slK 58 wb.heap.size wr v m (expL now d.l) ∧ Below wb.heap.size wb wr) (fun _ i _ => sl - (intOf i).toNat)
  case atStart => exact ⟨0, 0, _, rfl, Nat.zero_le _, rfl, rfl, Built.nil _ _ _ _, Below.refl _ _⟩
  case round =>
  obtain ⟨k, m, v, rfl, hk, rfl, hm, hbu, hbr⟩ := hrel
  obtain ⟨wq, hwq⟩ : ∃ wq, wq = wr := ⟨_, rfl⟩
  rw [← hwq] at hbu hbr ⊢
  clear hwq
  have HM := hid hm
  clear hm
  by_cases hlt : k < sl
  · have hkl : k < d.l.length := by have := HL.out; omega
    obtain ⟨b, o, rfl, hb, hy⟩ := HD.out.slot (show 0 < sl by omega)
    obtain ⟨y, hya, hyi⟩ := hy k hkl
    obtain ⟨dm, hdm⟩ : ∃ dm, dm = d.l[k] := ⟨_, rfl⟩
    rw [← hdm] at hyi
    have HDM : Hid (∀ (h : k < d.l.length), (d.l[k]'h) = dm) := hid fun h => hdm.symm
    have HYT := hid (show y.t = dm.t from hyi.t)
    have hbw : Below w.heap.size w wq := HB0.out.trans (hbr.mono HB0.out.size)
    obtain ⟨y0, y1, y2, y3, y4, y5, y6, y7, y8, y9⟩ := (hya.same (hbw.block b hb)).slot
    have hlt' : (k : Int) < (sl : Int) := by omega
    have hk0 : (0 : Int) ≤ (k : Int) := by omega
    have HKL := hid hkl
    by_cases hc : 0 < y.t ∧ y.t ≤ now
    · obtain ⟨hc1, hc2⟩ := hc
      have HHC : Hid (∀ (h : k < d.l.length), hasCome now (d.l[k]'h) = true) := hid fun h => by rw [HDM.out h, hasCome, ← HYT.out, decide_eq_true hc1, decide_eq_true hc2]; rfl
      obtain ⟨cs, hcs, hown, hel⟩ := hbu
      have hvb := Built.own (K := slK) ⟨cs, hcs, hown, hel⟩
      have hba : Below w.heap.size w (wq.alloc (.cells #[.int .i64 y.k.k, .int .i64 y.k.i, .int .i64 y.k.s, .string y.k.t, .slice y.k.la y.k.ll y.k.lc, .slice y.k.fa y.k.fl y.k.fc, .int .i64 y.n, .int .i64 y.t, .slice y.ia y.il y.ic, .slice y.va y.vl y.vc] 58)) := hbw.alloc hbw.size _
      have hbs : wb.heap.size ≤ wq.heap.size := hbr.size
      have HCS : Hid (Calls Tryz.prog 84 #[.agg #[.int .i64 y.k.k, .int .i64 y.k.i, .int .i64 y.k.s, .string y.k.t, .slice y.k.la y.k.ll y.k.lc, .slice y.k.fa y.k.fl y.k.fc, .int .i64 y.n, .int .i64 y.t, .slice y.ia y.il y.ic, .slice y.va y.vl y.vc]] (wq.alloc (.cells #[.int .i64 y.k.k, .int .i64 y.k.i, .int .i64 y.k.s, .string y.k.t, .slice y.k.la y.k.ll y.k.lc, .slice y.k.fa y.k.fl y.k.fc, .int .i64 y.n, .int .i64 y.t, .slice y.ia y.il y.ic, .slice y.va y.vl y.vc] 58)) fun e w' => ∃ c' : SlC, e = .returned (.agg #[.int .i64 c'.k.k, .int .i64 c'.k.i, .int .i64 c'.k.s, .string c'.k.t, .slice c'.k.la c'.k.ll c'.k.lc, .slice c'.k.fa c'.k.fl c'.k.fc, .int .i64 c'.n, .int .i64 c'.t, .slice c'.ia c'.il c'.ic, .slice c'.va c'.vl c'.vc]) ∧ Below (wq.alloc (.cells #[.int .i64 y.k.k, .int .i64 y.k.i, .int .i64 y.k.s, .string y.k.t, .slice y.k.la y.k.ll y.k.lc, .slice y.k.fa y.k.fl y.k.fc, .int .i64 y.n, .int .i64 y.t, .slice y.ia y.il y.ic, .slice y.va y.vl y.vc] 58)).heap.size (wq.alloc (.cells #[.int .i64 y.k.k, .int .i64 y.k.i, .int .i64 y.k.s, .string y.k.t, .slice y.k.la y.k.ll y.k.lc, .slice y.k.fa y.k.fl y.k.fc, .int .i64 y.n, .int .i64 y.t, .slice y.ia y.il y.ic, .slice y.va y.vl y.vc] 58)) w' ∧ IsSl (fun b => (wq.alloc (.cells #[.int .i64 y.k.k, .int .i64 y.k.i, .int .i64 y.k.s, .string y.k.t, .slice y.k.la y.k.ll y.k.lc, .slice y.k.fa y.k.fl y.k.fc, .int .i64 y.n, .int .i64 y.t, .slice y.ia y.il y.ic, .slice y.va y.vl y.vc] 58)).heap.size ≤ b ∧ b < w'.heap.size) w' c' dm) := hid (cloneSlot_call y dm (wq.alloc (.cells #[.int .i64 y.k.k, .int .i64 y.k.i, .int .i64 y.k.s, .string y.k.t, .slice y.k.la y.k.ll y.k.lc, .slice y.k.fa y.k.fl y.k.fc, .int .i64 y.n, .int .i64 y.t, .slice y.ia y.il y.ic, .slice y.va y.vl y.vc] 58)) (slK.same (fun b q => ⟨by have := hba.size; omega, hba.block b q⟩) hyi))
      have HVB := hid hvb
      have HOWN := hid hown
      have HEL := hid hel
      have HCL := hid hcs
      have HBR := hid hbr
      have hm20 : m ≤ 20 := by have h := HM.out; have h2 := List.length_filter_le (hasCome now) (d.l.take k); have h3 := List.length_take_le k d.l; unfold expL at h; omega
      have hcap1 : m + 1 ≤ maxLen := by unfold maxLen; omega
      have hcap2 : (m + 1) * 152 ≤ 140737488355328 := by omega
      clear hvb hown hel hcs hba hbr hyi hya hy hb hdm hkl hbw
      go_wp2_with (first
        | (at_builtin; refine wpList_append_lies _ (by rfl) _ _ 53 (by rfl) wb.heap.size 58 ti _ 10 152 Tryz.underlying53 hi hz0 hz1 hz2 rfl (by omega) v m (cs.flatMap SlC.cs) (by rfl) ((ownExt (HOWN.out.alloc _) HB4.out).alloc (.cells #[.int .i64 c4.k.k, .int .i64 c4.k.i, .int .i64 c4.k.s, .string c4.k.t, .slice c4.k.la c4.k.ll c4.k.lc, .slice c4.k.fa c4.k.fl c4.k.fc, .int .i64 c4.n, .int .i64 c4.t, .slice c4.ia c4.il c4.ic, .slice c4.va c4.vl c4.vc] 58)) ⟨w4.heap.size, 0, none⟩ 1 1 (SlC.cs c4) (by rfl) (by rfl) (World.news_of_block (heap_alloc_new w4 _)) (by simp [SlC.cs, Value.oneCell']) (by omega) hcap1 hcap2 (by have h2 := HB4.out.size; simp at h2 ⊢; omega) (w4.heap.size + 1) (by simp) ?_; intro gg cap5 w5 hown2 hgrow hat hlt2; have HO2 := hid hown2; have HG := hid hgrow; have HAT := hid hat; clear hown2 hgrow hat hlt2)
        | (go_at_call 84; refine HCS.out.mono ?_; rintro e w4 ⟨c4, rfl, hb4, hi4⟩; have HB4 := hid hb4; have HI4 := hid hi4; clear hb4 hi4))
      go_roundw
      case rel =>
        have h4 := HB4.out.size
        simp only [World.size_alloc] at h4
        have h14 : Below wb.heap.size wb w4 := HBR.out.trans ((((Below.refl _ wq).alloc (Nat.le_refl _) (.cells #[.int .i64 y.k.k, .int .i64 y.k.i, .int .i64 y.k.s, .string y.k.t, .slice y.k.la y.k.ll y.k.lc, .slice y.k.fa y.k.fl y.k.fc, .int .i64 y.n, .int .i64 y.t, .slice y.ia y.il y.ic, .slice y.va y.vl y.vc] 58)).trans (HB4.out.mono (by simp))).mono hbs)
        have hat := expL_at (now := now) HKL.out (HHC.out HKL.out)
        rw [← HM.out] at hat
        obtain ⟨hml, hme⟩ := List.getElem?_eq_some_iff.1 hat
        have hpush : Built slK 58 wb.heap.size w5 (.slice (some ⟨gg, 0, none⟩) (m + 1) cap5) (m + 1) (expL now d.l) :=
          Built.push (K := slK) (N := wq.heap.size) (w1 := w4) (o := (.cells #[.int .i64 c4.k.k, .int .i64 c4.k.i, .int .i64 c4.k.s, .string c4.k.t, .slice c4.k.la c4.k.ll c4.k.lc, .slice c4.k.fa c4.k.fl c4.k.fc, .int .i64 c4.n, .int .i64 c4.t, .slice c4.ia c4.il c4.ic, .slice c4.va c4.vl c4.vc] 58)) (c := c4) HCL.out
            (fun j hj hj' => slK.same (fun b hb => ⟨⟨hb.1, by have := hb.2.1; omega, hb.2.2⟩, (HB4.out.block b (by have := hb.2.1; simp; omega)).trans (Below.heap_alloc _ _ _ (by have := hb.2.1; omega))⟩) (HEL.out j hj hj')) hml
            (by rw [hme, HDM.out]; exact HI4.out.same fun b hb => ⟨⟨by have := hb.1; simp at this; omega, hb.2⟩, rfl⟩) hbs (fun r e => (HVB.out r e).2) HO2.out HG.out HAT.out
        exact ⟨k + 1, m + 1, _, rfl, by omega, by go_num, by rw [expL_take HKL.out, if_pos (HHC.out HKL.out), List.length_append, HM.out]; rfl, hpush, (h14.alloc (by omega) _).grown HG.out (by simp; omega) (fun r e => (HVB.out r e).1)⟩
      case measure => simp [intOf]; omega
    · have HHC : Hid (∀ (h : k < d.l.length), hasCome now (d.l[k]'h) = false) := hid fun h => by
        rw [HDM.out h, hasCome, ← HYT.out]
        cases h1 : decide (0 < y.t)
        · rfl
        · cases h2 : decide (y.t ≤ now)
          · rfl
          · exact absurd ⟨of_decide_eq_true h1, of_decide_eq_true h2⟩ hc
      have HBR := hid hbr
      have HBU := hid hbu
      have HREL := hid (show m = (expL now (d.l.take (k + 1))).length by rw [expL_take HKL.out, if_neg (by rw [HHC.out]; decide), List.append_nil]; exact HM.out)
      clear hbr hbu hyi hya hy hb hdm hkl hbw
      have HEX := hid ((Below.refl _ wq).alloc (Nat.le_refl _) (.cells #[.int .i64 y.k.k, .int .i64 y.k.i, .int .i64 y.k.s, .string y.k.t, .slice y.k.la y.k.ll y.k.lc, .slice y.k.fa y.k.fl y.k.fc, .int .i64 y.n, .int .i64 y.t, .slice y.ia y.il y.ic, .slice y.va y.vl y.vc] 58))
      by_cases hc1 : 0 < y.t
      · have hc2 : ¬ y.t ≤ now := fun h => hc ⟨hc1, h⟩
        clear hc
        go_wp2
        go_roundw
        case rel => exact ⟨k + 1, m, _, rfl, by omega, by go_num, HREL.out, HBU.out.ext HEX.out, HBR.out.trans (HEX.out.mono HBR.out.size)⟩
        case measure => simp [intOf]; omega
      · clear hc
        go_wp2
        go_roundw
        case rel => exact ⟨k + 1, m, _, rfl, by omega, by go_num, HREL.out, HBU.out.ext HEX.out, HBR.out.trans (HEX.out.mono HBR.out.size)⟩
        case measure => simp [intOf]; omega
  · obtain rfl : sl = k := by omega
    have hml : m = (expL now d.l).length := by rw [HM.out, show sl = d.l.length from HL.out, List.take_length]
    have HML := hid hml
    have hm20 : m ≤ 20 := by have h := HML.out; have h2 := List.length_filter_le (hasCome now) d.l; unfold expL at h; have := HL.out; omega
    have HB1 := hid (show w.heap.size ≤ wb.heap.size from HB0.out.size)
    have HBW := hid (HB0.out.trans (hbr.mono HB0.out.size))
    by_cases hn0 : m = 0
    · subst hn0
      obtain ⟨av, capv, rfl, _⟩ := hbu.shape
      have HS0 := hid (sortStable0S_call av capv wq)
      have HL0 := hid (show expL now d.l = [] from List.eq_nil_of_length_eq_zero HML.out.symm)
      clear hbu hbr hml
      go_wp2_with (go_at_call 101; refine HS0.out.mono ?_; rintro e w2 ⟨rfl, rfl⟩)
      go_ret
      exact ⟨av, 0, capv, rfl, HBW.out, ⟨by rw [HL0.out]; rfl, Nat.zero_le _, by rw [Nat.zero_mul]; omega, .inl (by rw [HL0.out]; rfl)⟩⟩
    · obtain ⟨av, capv, rfl, _, hav, _⟩ := hbu.shape
      obtain ⟨g, rfl⟩ : ∃ g, av = some ⟨g, 0, none⟩ := by
        obtain ⟨cs, _, h2, _⟩ := hbu
        rcases h2.2 with h4 | ⟨g, cap, cur, hv, _⟩
        · exact absurd h4.2 hn0
        · exact ⟨g, by injection hv⟩
      obtain ⟨ps, hpl, hps, hg, hB, hcap, hrow, hel⟩ := Built.pairsS hbu HML.out
      have HSO := hid (sortStableS_call g capv m ps wq hpl hm20 hg hrow (fun p hp => (hel p hp).same fun b q => ⟨⟨q.2.1, q.2.2⟩, rfl⟩))
      have HP := hid (And.intro hpl (And.intro hps (And.intro hg (And.intro hB (And.intro hcap hel)))))
      clear hbu hbr hpl hps hg hB hcap hrow hel hav hml
      go_wp2_with (go_at_call 101; refine HSO.out.mono ?_; rintro e w2 ⟨rfl, ho, hr⟩; have HO := hid ho; have HR := hid hr; clear ho hr)
      go_ret
      obtain ⟨hpl, hps, hg, hB, hcap, hel⟩ := HP.out
      have h1 := HB1.out
      refine ⟨_, m, capv, rfl, HBW.out.trans (HO.out.below (by omega) (by omega)), ?_⟩
      exact (perm_rowS hpl hps hg hB hcap hm20 HO.out HR.out hel).same fun b q => ⟨⟨by omega, q.2⟩, rfl⟩
end Go.Proofs.YthjlgpmajeafpaaGreatDoor
