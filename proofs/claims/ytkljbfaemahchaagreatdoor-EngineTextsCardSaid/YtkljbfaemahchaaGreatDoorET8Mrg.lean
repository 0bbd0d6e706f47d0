/-
  The plain law of numbers in texts: Atoi and the law's own reading agree at decimal digits. No program in sight.
-/
import Derived.Lib.AtoiAll
import Derived.Lib.IndexMore
import Derived.Lib.ItoaNum
import Derived.Test.YtkljbfaemahchaaGreatDoorET6Mrg
import Derived.Lib.ItoaMem
import Derived.Test.YtkljbfaemahchaaGreatDoorET7Mrg
import Derived.Lib.AtoiErrMem
import Derived.Sort.CutIn
import Derived.Test.YtkljbfaemahchaaGreatDoorET2Mrg
namespace Go.Proofs.YtkljbfaemahchaaGreatDoor
set_option linter.unusedVariables false
set_option linter.unusedSimpArgs false
section
open Go
theorem bAppend (a b : List UInt8) : (⟨a.toArray⟩ : ByteArray) ++ ⟨b.toArray⟩ = ⟨(a ++ b).toArray⟩ := by
  apply ByteArray.ext
  simp [ByteArray.data_append]
theorem bSize (a : List UInt8) : (⟨a.toArray⟩ : ByteArray).size = a.length := by simp [ByteArray.size]
theorem dig_nat (k : Nat) (h : k < 10) : (UInt8.ofNat (48 + k)).toNat = 48 + k := by simp [UInt8.toNat_ofNat']; omega
theorem decDigits_ne (n : Nat) : Lib.decDigits n ≠ [] := by
  rw [Lib.decDigits]; split <;> simp
theorem decDigits_all (n : Nat) : ∀ c ∈ Lib.decDigits n, 48 ≤ c.toNat ∧ c.toNat ≤ 57 := by
  induction n using Nat.strongRecOn with
  | _ n ih =>
    intro c hc
    rw [Lib.decDigits] at hc
    split at hc
    · rename_i h
      simp only [List.mem_singleton] at hc
      subst hc
      rw [dig_nat n h]; omega
    · rename_i h
      rcases List.mem_append.1 hc with hc | hc
      · exact ih (n / 10) (by omega) c hc
      · simp only [List.mem_singleton] at hc
        subst hc
        rw [dig_nat _ (by omega)]; omega
theorem uint_append (c : UInt8) (hc : 48 ≤ c.toNat ∧ c.toNat ≤ 57) : ∀ (l : List UInt8) (a u : Nat), Lib.parseUint10 a l = .ok u → u * 10 + (c.toNat - 48) < 18446744073709551616 → Lib.parseUint10 a (l ++ [c]) = .ok (u * 10 + (c.toNat - 48))
  | [], a, u, h, hb => by
    simp only [Lib.parseUint10] at h
    injection h with h
    subst h
    simp only [List.nil_append, Lib.parseUint10]
    rw [if_pos hc, if_neg (by omega), if_neg (by omega)]
  | d :: l, a, u, h, hb => by
    simp only [List.cons_append, Lib.parseUint10] at h ⊢
    split at h
    · rename_i h1
      rw [if_pos h1]
      split at h
      · cases h
      · rename_i h2
        rw [if_neg h2]
        split at h
        · cases h
        · rename_i h3
          rw [if_neg h3]
          exact uint_append c hc l _ u h hb
    · cases h
theorem uint_dec (n : Nat) (h : n < 18446744073709551616) : Lib.parseUint10 0 (Lib.decDigits n) = .ok n := by
  induction n using Nat.strongRecOn with
  | _ n ih =>
    rw [Lib.decDigits]
    split
    · rename_i h10
      simp only [Lib.parseUint10, dig_nat n h10]
      rw [if_pos (by omega), if_neg (by omega), if_neg (by omega)]
      congr 1; omega
    · rename_i h10
      have e := uint_append (UInt8.ofNat (48 + n % 10)) (by rw [dig_nat _ (by omega)]; omega) _ 0 _ (ih (n / 10) (by omega) (by omega)) (by rw [dig_nat _ (by omega)]; omega)
      rw [e, dig_nat _ (by omega)]
      congr 1; omega
theorem atoi_dec (n : Nat) (h : n < 9223372036854775808) : Lib.atoiAll (Lib.decDigits n) = .ok (n : Int) := by
  have hp := uint_dec n (by omega)
  have ha := decDigits_all n
  have hne := decDigits_ne n
  obtain ⟨l, hl⟩ : ∃ l, l = Lib.decDigits n := ⟨_, rfl⟩
  rw [← hl] at hp ha hne ⊢
  cases l with
  | nil => exact absurd rfl hne
  | cons c r =>
    have hc := ha c (List.mem_cons_self ..)
    unfold Lib.atoiAll Lib.parseMag
    dsimp only
    rw [if_neg (show ¬ (c.toNat = 43 ∨ c.toNat = 45) by omega), if_neg (by simp), hp]
    dsimp only
    rw [if_neg (by omega), if_neg (by omega), if_neg (by omega)]
def eNum (s : List UInt8) : Int × Bool :=
  match Lib.atoiAll s with
  | .ok v => (v, decide (Lib.itoa v = s))
  | .range => (Lib.atoiSat s, false)
  | _ => (0, false)
def lGo (most : Nat) : Nat → List UInt8 → Nat → Option Nat
  | 0, _, n => some n
  | _ + 1, [], n => some n
  | f + 1, c :: r, n => if c.toNat < 48 ∨ 57 < c.toNat ∨ most < n then none else lGo most f r (10 * n + (c.toNat - 48))
def lNum (s : List UInt8) (most : Nat) : Nat × Bool :=
  match lGo most 19 s 0 with
  | none => (0, false)
  | some n => (n, decide (s ≠ []) && (decide (n ≤ most) && decide (Lib.decDigits n = s)))
theorem lGo_append (most : Nat) (c : UInt8) (hc : 48 ≤ c.toNat ∧ c.toNat ≤ 57) : ∀ (l : List UInt8) (f n u : Nat), l.length + 1 ≤ f → lGo most f l n = some u → u ≤ most → lGo most f (l ++ [c]) n = some (10 * u + (c.toNat - 48))
  | [], f + 1, n, u, _, h, hu => by
    simp only [lGo] at h
    injection h with h
    subst h
    simp only [List.nil_append, lGo]
    rw [if_neg (by omega)]
    cases f <;> simp [lGo]
  | d :: l, f + 1, n, u, hf, h, hu => by
    simp only [List.cons_append, lGo] at h ⊢
    split at h
    · cases h
    · rename_i h1
      rw [if_neg h1]
      exact lGo_append most c hc l f _ u (by simp at hf; omega) h hu
theorem decDigits_lt (n k : Nat) (h : n < 10 ^ k) (hk : 0 < k) : (Lib.decDigits n).length ≤ k := by
  induction k generalizing n with
  | zero => omega
  | succ k ih =>
    rw [Lib.decDigits]
    split
    · simp
    · rename_i h10
      have hk' : 0 < k := by rcases k with _ | k; (· simp at h; omega); omega
      have := ih (n / 10) (by rw [Nat.pow_succ] at h; omega) hk'
      simp; omega
theorem lGo_dec (most n : Nat) (hm : n ≤ most) (h : n < 10 ^ 18) : lGo most 19 (Lib.decDigits n) 0 = some n := by
  induction n using Nat.strongRecOn with
  | _ n ih =>
    rw [Lib.decDigits]
    split
    · rename_i h10
      simp only [lGo, dig_nat n h10]
      rw [if_neg (by omega)]
      congr 1; omega
    · rename_i h10
      have hl := decDigits_lt n 18 h (by decide)
      rw [Lib.decDigits, dif_neg h10] at hl
      simp only [List.length_append, List.length_cons, List.length_nil] at hl
      rw [lGo_append most (UInt8.ofNat (48 + n % 10)) (by rw [dig_nat _ (by omega)]; omega) _ 19 0 _ (by omega) (ih (n / 10) (by omega) (by omega) (by omega)) (by omega), dig_nat _ (by omega)]
      congr 1; omega
theorem eNum_dec (n : Nat) (h : n < 9223372036854775808) : eNum (Lib.decDigits n) = ((n : Int), true) := by
  unfold eNum
  rw [atoi_dec n h]
  simp [Lib.itoa]
theorem lNum_dec (most n : Nat) (hm : n ≤ most) (h : n < 10 ^ 18) : lNum (Lib.decDigits n) most = (n, true) := by
  unfold lNum
  rw [lGo_dec most n hm h]
  simp [hm, decDigits_ne]
def eArr (s : List UInt8) : Int × List UInt8 :=
  if ((Lib.cut s [10]).2.2 && ((eNum (Lib.cut s [10]).1).2 && (decide (1 ≤ (eNum (Lib.cut s [10]).1).1) && decide ((eNum (Lib.cut s [10]).1).1 ≤ 999)))) = true then ((eNum (Lib.cut s [10]).1).1, (Lib.cut s [10]).2.1) else (1, s)
end
section
open Go Go.RowKit
def decB (n : Nat) : ByteArray := ⟨(Lib.decDigits n).toArray⟩
theorem decB_itoa (n : Nat) : itoaB (n : Int) = decB n := by unfold itoaB decB; rw [Lib.itoa_nonneg]
theorem dec_size (n : Nat) (h : (n : Int) ≤ 9223372036854775807) : (decB n).size ≤ 21 := by
  have := Lib.itoa_length_le (n : Int) (by omega) h
  rw [Lib.itoa_nonneg] at this
  exact this
theorem conv_at (w : World) (g : Nat) (x : Int) (h : w.heap[g]? = some (.cells #[.int .u8 x] 5)) : (convert 101 9 (.slice (some ⟨g, 0, none⟩) 1 1)).run Tryz.prog w = .ok (.string ⟨#[UInt8.ofNat x.toNat]⟩) w :=
  run_convert_bytes_arg (P := Tryz.prog) w 101 5 Tryz.underlying101 Tryz.underlying5 g 0 1 1 [x] rfl (fun i hi => by
    obtain rfl : i = 0 := by omega
    exact cellOf h 0) 9 Tryz.underlying9
theorem conv1 (w : World) (x : Int) : (convert 101 9 (.slice (some ⟨w.heap.size, 0, none⟩) 1 1)).run Tryz.prog (w.alloc (.cells #[.int .u8 x] 5)) = .ok (.string ⟨#[UInt8.ofNat x.toNat]⟩) (w.alloc (.cells #[.int .u8 x] 5)) :=
  conv_at _ _ x (heap_alloc_new w _)
end
section
open Go Go.RowKit
set_option maxRecDepth 100000 in
set_option maxHeartbeats 2000000 in
theorem eDec_small (n : Nat) (h : n < 10) (w : World) : Calls Tryz.prog 19 #[.int .i64 n] w fun e w' => e = .returned (.string (decB n)) ∧ Below w.heap.size w w' := by
  have hlt : (n : Int) < 10 := by omega
  have hD : decB n = ⟨#[UInt8.ofNat (48 + n)]⟩ := by
    unfold decB
    rw [Lib.decDigits_one h]
  have HD := hid hD
  have kc := conv1
  clear hD
  go_enter Tryz.func19, Tryz.ntmps19
  go_wp2
  go_ret
  exact ⟨by rw [HD.out]; rfl, (Below.refl _ w).alloc (Nat.le_refl _) _⟩
set_option maxRecDepth 100000 in
set_option maxHeartbeats 4000000 in
theorem eDec_big (n : Nat) (h : 10 ≤ n) (hn : (n : Int) ≤ 9223372036854775807) (ih : ∀ w, Calls Tryz.prog 19 #[.int .i64 ((n / 10 : Nat) : Int)] w fun e w' => e = .returned (.string (decB (n / 10))) ∧ Below w.heap.size w w') (w : World) : Calls Tryz.prog 19 #[.int .i64 n] w fun e w' => e = .returned (.string (decB n)) ∧ Below w.heap.size w w' := by
  have hlt : ¬ (n : Int) < 10 := by omega
  have hq : (n : Int).tdiv 10 = ((n / 10 : Nat) : Int) := by rw [Int.tdiv_eq_ediv_of_nonneg (by omega)]; omega
  have hr : (n : Int).tmod 10 = ((n % 10 : Nat) : Int) := by rw [Int.tmod_eq_emod_of_nonneg (by omega)]; omega
  have hD : decB n = decB (n / 10) ++ ⟨#[UInt8.ofNat (48 + ((n % 10 : Nat) : Int)).toNat]⟩ := by
    unfold decB
    rw [Lib.decDigits, dif_neg (by omega), show (48 + ((n % 10 : Nat) : Int)).toNat = 48 + n % 10 by omega]
    apply ByteArray.ext
    simp [ByteArray.data_append]
  have hs := dec_size (n / 10) (by omega)
  have hm : ((n % 10 : Nat) : Int) < 10 := by omega
  have hm0 : (0 : Int) ≤ ((n % 10 : Nat) : Int) := by omega
  obtain ⟨q, hq'⟩ : ∃ q, q = ((n / 10 : Nat) : Int) := ⟨_, rfl⟩
  obtain ⟨r, hr'⟩ : ∃ r, r = ((n % 10 : Nat) : Int) := ⟨_, rfl⟩
  have hq0 : 0 ≤ q ∧ q ≤ 9223372036854775807 := by omega
  have hwq : IntKind.i64.wrap q = q := IntWalk.i64_in _ (by omega)
  have hwr : IntKind.i64.wrap (48 + r) = 48 + r := IntWalk.i64_in _ (by omega)
  have hwu : IntKind.u8.wrap (48 + r) = 48 + r := by rw [IntKind.wrap_u8]; omega
  obtain ⟨s, hs'⟩ : ∃ s, s = decB (n / 10) := ⟨_, rfl⟩
  rw [← hq'] at hq ih
  rw [← hs'] at hs ih hD
  rw [← hr'] at hr hm hm0 hD
  have hsz : ¬ 9223372036854775807 < s.size + 1 := by omega
  have HIH := hid ih
  have HD := hid hD
  have kc := conv1
  clear hD hq' hr' hs' ih
  go_enter Tryz.func19, Tryz.ntmps19
  go_upto_region 3 with (fail)
  refine wp_region_split 10 (fun w' => Below w.heap.size w w') (by kernel_rfl) (by kernel_rfl) (by kernel_rfl) (by decide) ((Below.refl _ _).drew) (fun hS => ?_)
  simp only [List.take_succ_cons, List.take_zero, List.drop_succ_cons, List.drop_zero]
  refine wpAnyH_take (i := 0) (oi := _) (v := ?_) rfl (by kernel_rfl) (by kernel_rfl) (by kernel_rfl) (fun _ _ _ h => h) (Or.inl ⟨by rfl, ?_⟩) hS ?_
  rotate_left
  · intro w' hw'
    (try dsimp only at hw')
    go_simp
    (try with_reducible rfl)
  simp only [Act.put, pt1, pt2, pt3, pt4, pt5, pt6]
  refine wpAnyH_take (i := 1) (oi := _) (v := ?_) rfl (by kernel_rfl) (by kernel_rfl) (by kernel_rfl) (fun _ _ _ h => h) (Or.inl ⟨by rfl, ?_⟩) hS ?_
  rotate_left
  · intro w' hw'
    (try dsimp only at hw')
    go_simp
    (try with_reducible rfl)
  simp only [Act.put, pt1, pt2, pt3, pt4, pt5, pt6]
  refine wpAnyH_take (i := 3) (oi := _) (v := ?_) rfl (by kernel_rfl) (by kernel_rfl) (by kernel_rfl) (fun _ _ _ h => h) (Or.inl ⟨by rfl, ?_⟩) hS ?_
  rotate_left
  · intro w' hw'
    (try dsimp only at hw')
    go_simp
    (try with_reducible rfl)
  simp only [Act.put, pt1, pt2, pt3, pt4, pt5, pt6]
  refine wpAnyH_take (i := 4) (oi := _) (v := ?_) rfl (by kernel_rfl) (by kernel_rfl) (by kernel_rfl) (fun _ _ _ h => h) (Or.inl ⟨by rfl, ?_⟩) hS ?_
  rotate_left
  · intro w' hw'
    (try dsimp only at hw')
    go_simp
    (try with_reducible rfl)
  simp only [Act.put, pt1, pt2, pt3, pt4, pt5, pt6]
  refine wpAnyH_take (i := 5) (oi := _) (v := ?_) rfl (by kernel_rfl) (by kernel_rfl) (by kernel_rfl) (fun _ _ _ h => h) (Or.inl ⟨by rfl, ?_⟩) hS ?_
  rotate_left
  · intro w' hw'
    (try dsimp only at hw')
    go_simp
    (try with_reducible rfl)
  simp only [Act.put, pt1, pt2, pt3, pt4, pt5, pt6]
  refine wpAnyH_take (i := 6) (oi := _) (v := ?_) rfl (by kernel_rfl) (by kernel_rfl) (by kernel_rfl) (fun _ _ _ h => h) (Or.inl ⟨by rfl, ?_⟩) hS ?_
  rotate_left
  · intro w' hw'
    (try dsimp only at hw')
    go_simp
    (try with_reducible rfl)
  simp only [Act.put, pt1, pt2, pt3, pt4, pt5, pt6]
  refine wpAnyH_ready (rs := [2, 7]) (by kernel_rfl) (by simp) ?_
  refine AllReadyH.cons (o := _) rfl (fun K hK => ?_) ?_
  · clear hq hr hlt kc
    go_simp; go_at_call 19; refine (HIH.out _).mono ?_
    rintro e w1 ⟨rfl, hb1⟩
    refine hK.out _ _ (hS.trans (hb1.mono hS.size)) (fun hS => ?_)
    clear hK K
    (try simp only [Act.put, pt1, pt2, pt3, pt4, pt5, pt6])
    refine wpAnyH_ready (rs := [7]) (by kernel_rfl) (by simp) ?_
    refine AllReadyH.cons (o := _) rfl (fun K hK => ?_) AllReadyH.nil
    go_simp
    refine hK.out _ _ (hS.alloc hS.size _) (fun hS => ?_)
    clear hK K
    (try simp only [Act.put, pt1, pt2, pt3, pt4, pt5, pt6])
    refine wpAnyH_ready (rs := [8]) (by kernel_rfl) (by simp) ?_
    refine AllReadyH.cons (o := _) rfl (fun K hK => ?_) AllReadyH.nil
    have kk := conv1 w1 (48 + r)
    have k2 := conv_at (w1.alloc (.cells #[.int .u8 (48 + r)] 5)).drew w1.heap.size (48 + r) (heap_alloc_new w1 _)
    go_simp
    refine hK.out _ _ (hS) (fun hS => ?_)
    clear hK K
    (try simp only [Act.put, pt1, pt2, pt3, pt4, pt5, pt6])
    refine wpAnyH_take (i := 9) (oi := _) (v := ?_) rfl (by kernel_rfl) (by kernel_rfl) (by kernel_rfl) (fun _ _ _ h => h) (Or.inl ⟨by rfl, ?_⟩) hS ?_
    rotate_left
    · intro w' hw'
      (try dsimp only at hw')
      go_simp
      (try with_reducible rfl)
    simp only [Act.put, pt1, pt2, pt3, pt4, pt5, pt6]
    refine wpAnyH_done (by kernel_rfl) ?_ _
    (try dsimp only)
    go_wp2
    go_ret
    exact ⟨by rw [HD.out]; rfl, hS⟩
  refine AllReadyH.cons (o := _) rfl (fun K hK => ?_) AllReadyH.nil
  go_simp
  refine hK.out _ _ (hS.alloc hS.size _) (fun hS => ?_)
  clear hK K
  (try simp only [Act.put, pt1, pt2, pt3, pt4, pt5, pt6])
  refine wpAnyH_ready (rs := [2, 8]) (by kernel_rfl) (by simp) ?_
  refine AllReadyH.cons (o := _) rfl (fun K hK => ?_) ?_
  · clear hq hr hlt kc
    go_simp; go_at_call 19; refine (HIH.out _).mono ?_
    rintro e w1 ⟨rfl, hb1⟩
    refine hK.out _ _ (hS.trans (hb1.mono hS.size)) (fun hS => ?_)
    clear hK K
    (try simp only [Act.put, pt1, pt2, pt3, pt4, pt5, pt6])
    refine wpAnyH_ready (rs := [8]) (by kernel_rfl) (by simp) ?_
    refine AllReadyH.cons (o := _) rfl (fun K hK => ?_) AllReadyH.nil
    have kk := conv_at w1 w.heap.size (48 + r) (heapExt hb1 (heap_alloc_new w _))
    go_simp
    refine hK.out _ _ (hS) (fun hS => ?_)
    clear hK K
    (try simp only [Act.put, pt1, pt2, pt3, pt4, pt5, pt6])
    refine wpAnyH_take (i := 9) (oi := _) (v := ?_) rfl (by kernel_rfl) (by kernel_rfl) (by kernel_rfl) (fun _ _ _ h => h) (Or.inl ⟨by rfl, ?_⟩) hS ?_
    rotate_left
    · intro w' hw'
      (try dsimp only at hw')
      go_simp
      (try with_reducible rfl)
    simp only [Act.put, pt1, pt2, pt3, pt4, pt5, pt6]
    refine wpAnyH_done (by kernel_rfl) ?_ _
    (try dsimp only)
    go_wp2
    go_ret
    exact ⟨by rw [HD.out]; rfl, hS⟩
  refine AllReadyH.cons (o := _) rfl (fun K hK => ?_) AllReadyH.nil
  have kk := conv1 w (48 + r)
  have k2 := conv_at (w.alloc (.cells #[.int .u8 (48 + r)] 5)).drew w.heap.size (48 + r) (heap_alloc_new w _)
  go_simp
  refine hK.out _ _ (hS) (fun hS => ?_)
  clear hK K
  (try simp only [Act.put, pt1, pt2, pt3, pt4, pt5, pt6])
  refine wpAnyH_ready (rs := [2]) (by kernel_rfl) (by simp) ?_
  refine AllReadyH.cons (o := _) rfl (fun K hK => ?_) AllReadyH.nil
  clear hq hr hlt kc
  go_simp; go_at_call 19; refine (HIH.out _).mono ?_
  rintro e w1 ⟨rfl, hb1⟩
  refine hK.out _ _ (hS.trans (hb1.mono hS.size)) (fun hS => ?_)
  clear hK K
  (try simp only [Act.put, pt1, pt2, pt3, pt4, pt5, pt6])
  refine wpAnyH_take (i := 9) (oi := _) (v := ?_) rfl (by kernel_rfl) (by kernel_rfl) (by kernel_rfl) (fun _ _ _ h => h) (Or.inl ⟨by rfl, ?_⟩) hS ?_
  rotate_left
  · intro w' hw'
    (try dsimp only at hw')
    go_simp
    (try with_reducible rfl)
  simp only [Act.put, pt1, pt2, pt3, pt4, pt5, pt6]
  refine wpAnyH_done (by kernel_rfl) ?_ _
  (try dsimp only)
  go_wp2
  go_ret
  exact ⟨by rw [HD.out]; rfl, hS⟩
theorem eDec_call (n : Nat) (hn : (n : Int) ≤ 9223372036854775807) (w : World) : Calls Tryz.prog 19 #[.int .i64 n] w fun e w' => e = .returned (.string (decB n)) ∧ Below w.heap.size w w' := by
  induction n using Nat.strongRecOn generalizing w with
  | _ n ih =>
    by_cases h : n < 10
    · exact eDec_small n h w
    · exact eDec_big n (by omega) hn (fun w => ih (n / 10) (by omega) (by omega) w) w
end
section
open Go Go.RowKit Go.Shelf
def IfCell (g : Nat) (w : World) : Prop := ∃ ev, w.cell? ⟨g, 0, none⟩ = some ev ∧ (ev = .nilIface ∨ ∃ te pe, ev = .iface te pe)
def NumVars (w : World) : Prop := IfCell 1 w ∧ IfCell 2 w ∧ ∃ m, w.cell? ⟨0, 0, none⟩ = some (.int .i64 m)
theorem cell_below {w w' : World} {g : Nat} {v : Value} (hb : Below w.heap.size w w') (h : w.cell? ⟨g, 0, none⟩ = some v) : w'.cell? ⟨g, 0, none⟩ = some v := by
  have hlt : g < w.heap.size := by
    rcases Nat.lt_or_ge g w.heap.size with h1 | h1
    · exact h1
    · exfalso
      unfold World.cell? at h
      simp only [Array.getElem?_eq_none h1] at h
      cases h
  exact (World.cell?_of_block (w := w) (a := ⟨g, 0, none⟩) (hb.block g hlt)).trans h
theorem IfCell.below {g : Nat} {w w' : World} (h : IfCell g w) (hb : Below w.heap.size w w') : IfCell g w' := h.elim fun ev h => ⟨ev, cell_below hb h.1, h.2⟩
theorem NumVars.below {w w' : World} (h : NumVars w) (hb : Below w.heap.size w w') : NumVars w' := ⟨h.1.below hb, h.2.1.below hb, h.2.2.elim fun m h => ⟨m, cell_below hb h⟩⟩
theorem below_drewN (w : World) (n : Nat) : Below w.heap.size w (w.drewN n) := ⟨rfl, rfl, rfl, Nat.le_refl _, fun _ _ => rfl⟩
theorem strEq (a b : ByteArray) : (a.toList == b.toList) = decide (a.data.toList = b.data.toList) := by
  rw [ByteArray.toList_eq, ByteArray.toList_eq, Bool.eq_iff_iff]; simp
theorem atoi_bad (s : ByteArray) (hlim : s.size ≤ 281474976710656) (h1 : ∀ v, Lib.atoiAll s.data.toList ≠ .ok v) (h2 : Lib.atoiAll s.data.toList ≠ .range) (ev : Value) (w : World) (hv : w.cell? ⟨1, 0, none⟩ = some ev) (hev : ev = .nilIface ∨ ∃ te pe, ev = .iface te pe) :
    Calls Tryz.prog 84 #[.string s] w fun e w' => ∃ N, e = .returned (.tuple #[.int .i64 (0), .iface 273 (.pointer (some ⟨N, 0, none⟩))]) ∧ w.heap.size ≤ N ∧ w'.heap[N]? = some (.cells #[.string ⟨#[65, 116, 111, 105]⟩, .string s, ev] 328 (0, 0)) ∧ Below w.heap.size w w' := by
  cases hx : Lib.atoiAll s.data.toList
  · exact absurd hx (h1 _)
  · exact Any.strconv_Atoi_syntax Tryz.laysC172 s hlim hx ev w hv hev
  · exact absurd hx h2
set_option maxRecDepth 100000 in
set_option maxHeartbeats 4000000 in
theorem eNum_call (s : ByteArray) (hs : s.size ≤ 1000000) (w : World) (hT : Tabs w) (hN : NumVars w) :
    Calls Tryz.prog 62 #[.string s] w fun e w' => e = .returned (.tuple #[.int .i64 (eNum s.data.toList).1, .bool (eNum s.data.toList).2]) ∧ Below w.heap.size w w' := by
  obtain ⟨⟨e1, h1, k1⟩, ⟨e2, h2, k2⟩, _⟩ := hN
  obtain ⟨r, hr⟩ : ∃ r, Lib.atoiAll s.data.toList = r := ⟨_, rfl⟩
  by_cases hok : ∃ v, r = .ok v
  · obtain ⟨v, rfl⟩ := hok
    obtain ⟨b0, b1⟩ := Lib.atoiAll_bounds hr
    have HA := hid (Tryz.strconv_Atoi_ok s (by omega) v hr w)
    obtain ⟨t, ht⟩ : ∃ t, t = itoaB v := ⟨_, rfl⟩
    have hI := fun w hT => itoa_call v ⟨b0, b1⟩ w hT
    rw [← ht] at hI
    have HI := hid hI
    obtain ⟨b, hb⟩ : ∃ b, (t.toList == s.toList) = b := ⟨_, rfl⟩
    have HE := hid (show eNum s.data.toList = (v, b) by
      unfold eNum
      rw [hr, ← hb, strEq, ht]
      rfl)
    clear hr b0 b1 hI ht h1 h2 k1 k2
    cases b
    all_goals go_enter Tryz.func62, Tryz.ntmps62
    all_goals go_wp2_with (first
      | (go_at_call 64; refine (HI.out w1 (hT.below HB1.out)).mono ?_; rintro e w2 ⟨rfl, hb2⟩)
      | (go_at_call 84; refine HA.out.mono ?_; rintro e w1 ⟨rfl, hw1⟩; have HB1 := hid (show Below w.heap.size w w1 from hw1.elim (fun h => h ▸ Below.refl _ _) (fun ⟨_, h⟩ => h ▸ Lib.bytesWorld_below _ _ _)); clear hw1))
    · refine bodyPost_ret (v := .tuple #[.int .i64 v, .bool false]) (by simp [results, Tryz.results62, go_sem]) rfl ?_
      exact ⟨by rw [HE.out], HB1.out.trans (hb2.mono HB1.out.size)⟩
    · refine bodyPost_ret (v := .tuple #[.int .i64 v, .bool true]) (by simp [results, Tryz.results62, go_sem]) rfl ?_
      exact ⟨by rw [HE.out], HB1.out.trans (hb2.mono HB1.out.size)⟩
  by_cases hra : r = .range
  · subst hra
    have HA := hid (Tryz.strconv_Atoi_range s (by omega) hr e2 w h2 k2)
    have HE := hid (show eNum s.data.toList = (Lib.atoiSat s.data.toList, false) by unfold eNum; rw [hr])
    clear hr h1 h2 k1 k2
    go_enter Tryz.func62, Tryz.ntmps62
    go_wp2_with (go_at_call 84; refine HA.out.mono ?_; rintro e w1 ⟨N, rfl, _, _, hb1⟩)
    refine bodyPost_ret (v := .tuple #[.int .i64 (Lib.atoiSat s.data.toList), .bool false]) (by simp [results, Tryz.results62, go_sem]) rfl ?_
    exact ⟨by rw [HE.out], hb1⟩
  have HA := hid (atoi_bad s (by omega) (fun v h => hok ⟨v, hr.symm.trans h⟩) (fun h => hra (hr.symm.trans h)) e1 w h1 k1)
  have HE := hid (show eNum s.data.toList = (0, false) by
    unfold eNum
    rw [hr]
    cases r
    · exact absurd ⟨_, rfl⟩ hok
    · rfl
    · exact absurd rfl hra)
  clear hr hok hra h1 h2 k1 k2
  go_enter Tryz.func62, Tryz.ntmps62
  go_wp2_with (go_at_call 84; refine HA.out.mono ?_; rintro e w1 ⟨N, rfl, _, _, hb1⟩)
  refine bodyPost_ret (v := .tuple #[.int .i64 0, .bool false]) (by simp [results, Tryz.results62, go_sem]) rfl ?_
  exact ⟨by rw [HE.out], hb1⟩
theorem drop_at (s : ByteArray) (k : Nat) (h : k < s.size) : s.data.toList.drop k = s[k] :: s.data.toList.drop (k + 1) := by
  have h' : k < s.data.toList.length := h
  rw [List.drop_eq_getElem_cons h']
  rfl
end
section
open Go Go.RowKit Go.Shelf
theorem cut_le (s : List UInt8) : (Lib.cut s [10]).1.length ≤ s.length := by
  unfold Lib.cut
  split
  · simp; omega
  · simp
theorem bToList (a : List UInt8) : (⟨a.toArray⟩ : ByteArray).data.toList = a := rfl
set_option maxRecDepth 100000 in
set_option maxHeartbeats 4000000 in
theorem pArr_call (s : ByteArray) (hs : s.size ≤ 100000) (w : World) (hT : Tabs w) (hN : NumVars w) :
    Calls Tryz.prog 16 #[.string s] w fun e w' => e = .returned (.tuple #[.int .i64 (eArr s.data.toList).1, .string ⟨(eArr s.data.toList).2.toArray⟩]) ∧ Below w.heap.size w w' := by
  obtain ⟨m, hm⟩ := hN.2.2
  have hcu := Tryz.strings_Cut s ⟨#[10]⟩ m w (by omega) hm
  have hle := cut_le s.data.toList
  rw [show (⟨#[10]⟩ : ByteArray).data.toList = [10] from rfl] at hcu
  obtain ⟨⟨a, b, c⟩, hx⟩ : ∃ x, Lib.cut s.data.toList [10] = x := ⟨_, rfl⟩
  rw [hx] at hcu hle
  dsimp only at hcu hle
  have hsz : s.data.toList.length = s.size := rfl
  have hen := fun w hT hN => eNum_call ⟨a.toArray⟩ (by rw [bSize]; omega) w hT hN
  rw [bToList] at hen
  obtain ⟨⟨v, o⟩, hy⟩ : ∃ x, eNum a = x := ⟨_, rfl⟩
  rw [hy] at hen
  dsimp only at hen
  have HR := hid (show eArr s.data.toList = if (c && (o && (decide (1 ≤ v) && decide (v ≤ 999)))) = true then (v, b) else (1, s.data.toList) by unfold eArr; rw [hx]; dsimp only; rw [hy])
  have HCU := hid hcu
  have HEN := hid hen
  obtain ⟨x, hx'⟩ : ∃ x : ByteArray, x = ⟨a.toArray⟩ := ⟨_, rfl⟩
  obtain ⟨y, hy'⟩ : ∃ x : ByteArray, x = ⟨b.toArray⟩ := ⟨_, rfl⟩
  rw [← hx'] at HCU HEN
  rw [← hy'] at HCU
  have HY := hid hy'
  clear hm hcu hle hx hsz hen hy hx' hy'
  have hcs : (c = true ∧ o = true ∧ 1 ≤ v ∧ v ≤ 999) ∨ (c = true ∧ o = true ∧ 1 ≤ v ∧ ¬ v ≤ 999) ∨ (c = true ∧ o = true ∧ ¬ 1 ≤ v) ∨ (c = true ∧ o = false) ∨ c = false := by
    cases c <;> cases o <;> simp
    omega
  rcases hcs with ⟨rfl, rfl, h1, h2⟩ | ⟨rfl, rfl, h1, h2⟩ | ⟨rfl, rfl, h1⟩ | ⟨rfl, rfl⟩ | rfl
  · have HE := hid (show eArr s.data.toList = (v, b) by rw [HR.out, if_pos (by simp [h1, h2])])
    go_enter Tryz.func16, Tryz.ntmps16
    go_wp2_with (first
      | (go_at_call 62; refine (HEN.out w1 (hT.below HB1.out) (hN.below HB1.out)).mono ?_; rintro e w2 ⟨rfl, hb2⟩)
      | (go_at_call 61; refine HCU.out.mono ?_; rintro e w1 ⟨rfl, n, hw1⟩; have HB1 := hid (show Below w.heap.size w w1 from hw1 ▸ below_drewN w n); clear hw1))
    refine bodyPost_ret (v := .tuple #[.int .i64 v, .string y]) (by simp [results, Tryz.results16, go_sem]) rfl ?_
    exact ⟨by rw [HE.out, HY.out], HB1.out.trans (hb2.mono HB1.out.size)⟩
  · have HE := hid (show eArr s.data.toList = (1, s.data.toList) by rw [HR.out, if_neg (by simp [h1, h2])])
    go_enter Tryz.func16, Tryz.ntmps16
    go_wp2_with (first
      | (go_at_call 62; refine (HEN.out w1 (hT.below HB1.out) (hN.below HB1.out)).mono ?_; rintro e w2 ⟨rfl, hb2⟩)
      | (go_at_call 61; refine HCU.out.mono ?_; rintro e w1 ⟨rfl, n, hw1⟩; have HB1 := hid (show Below w.heap.size w w1 from hw1 ▸ below_drewN w n); clear hw1))
    refine bodyPost_ret (v := .tuple #[.int .i64 1, .string s]) (by simp [results, Tryz.results16, go_sem]) rfl ?_
    exact ⟨by rw [HE.out], HB1.out.trans (hb2.mono HB1.out.size)⟩
  · have HE := hid (show eArr s.data.toList = (1, s.data.toList) by rw [HR.out, if_neg (by simp [h1])])
    go_enter Tryz.func16, Tryz.ntmps16
    go_wp2_with (first
      | (go_at_call 62; refine (HEN.out w1 (hT.below HB1.out) (hN.below HB1.out)).mono ?_; rintro e w2 ⟨rfl, hb2⟩)
      | (go_at_call 61; refine HCU.out.mono ?_; rintro e w1 ⟨rfl, n, hw1⟩; have HB1 := hid (show Below w.heap.size w w1 from hw1 ▸ below_drewN w n); clear hw1))
    refine bodyPost_ret (v := .tuple #[.int .i64 1, .string s]) (by simp [results, Tryz.results16, go_sem]) rfl ?_
    exact ⟨by rw [HE.out], HB1.out.trans (hb2.mono HB1.out.size)⟩
  · have HE := hid (show eArr s.data.toList = (1, s.data.toList) by rw [HR.out, if_neg (by simp)])
    go_enter Tryz.func16, Tryz.ntmps16
    go_wp2_with (first
      | (go_at_call 62; refine (HEN.out w1 (hT.below HB1.out) (hN.below HB1.out)).mono ?_; rintro e w2 ⟨rfl, hb2⟩)
      | (go_at_call 61; refine HCU.out.mono ?_; rintro e w1 ⟨rfl, n, hw1⟩; have HB1 := hid (show Below w.heap.size w w1 from hw1 ▸ below_drewN w n); clear hw1))
    refine bodyPost_ret (v := .tuple #[.int .i64 1, .string s]) (by simp [results, Tryz.results16, go_sem]) rfl ?_
    exact ⟨by rw [HE.out], HB1.out.trans (hb2.mono HB1.out.size)⟩
  · have HE := hid (show eArr s.data.toList = (1, s.data.toList) by rw [HR.out, if_neg (by simp)])
    go_enter Tryz.func16, Tryz.ntmps16
    go_wp2_with (first
      | (go_at_call 62; refine (HEN.out w1 (hT.below HB1.out) (hN.below HB1.out)).mono ?_; rintro e w2 ⟨rfl, hb2⟩)
      | (go_at_call 61; refine HCU.out.mono ?_; rintro e w1 ⟨rfl, n, hw1⟩; have HB1 := hid (show Below w.heap.size w w1 from hw1 ▸ below_drewN w n); clear hw1))
    refine bodyPost_ret (v := .tuple #[.int .i64 1, .string s]) (by simp [results, Tryz.results16, go_sem]) rfl ?_
    exact ⟨by rw [HE.out], HB1.out.trans (hb2.mono HB1.out.size)⟩
set_option maxRecDepth 100000 in
set_option maxHeartbeats 4000000 in
theorem arrT_ok (n : Nat) (h1 : 1 ≤ n) (h2 : n ≤ 999) (s : ByteArray) (hs : s.size ≤ 60000) (w : World) (hT : Tabs w) :
    Calls Tryz.prog 18 #[.int .i64 n, .string s] w fun e w' => e = .returned (.tuple #[.string (itoaB n ++ ⟨#[10]⟩ ++ s), .int .i64 0]) ∧ Below w.heap.size w w' := by
  have q1 : ¬ (n : Int) < 1 := by omega
  have q2 : ¬ (999 : Int) < (n : Int) := by omega
  have hz := itoaB_size (n : Int) ⟨by omega, by omega⟩
  have hI := fun w hT => itoa_call (n : Int) ⟨by omega, by omega⟩ w hT
  obtain ⟨t, ht⟩ : ∃ t, t = itoaB (n : Int) := ⟨_, rfl⟩
  rw [← ht] at hI hz ⊢
  have HI := hid (hI w hT)
  have g1 : t.size + 1 ≤ 9223372036854775807 := by omega
  have g2 : t.size + 1 + s.size ≤ 9223372036854775807 := by omega
  have q3 : ¬ (65536 : Int) < ((t ++ ⟨#[10]⟩ ++ s).size : Int) := by rw [ByteArray.size_append, ByteArray.size_append, show (⟨#[10]⟩ : ByteArray).size = 1 from rfl]; omega
  have q4 : ¬ (65536 : Int) < (t.size : Int) + 1 + (s.size : Int) := by omega
  clear hI ht h1 h2 hs hz
  go_enter Tryz.func18, Tryz.ntmps18
  go_wp2_with (go_at_call 64; refine HI.out.mono ?_; rintro e w1 ⟨rfl, hb1⟩)
  refine bodyPost_ret (v := .tuple #[.string (t ++ ⟨#[10]⟩ ++ s), .int .i64 0]) (by simp [results, Tryz.results18, go_sem]) rfl ?_
  exact ⟨rfl, hb1⟩
end
section
open Go Go.RowKit
set_option maxRecDepth 100000 in
set_option maxHeartbeats 8000000 in
theorem cName_call (s : ByteArray) (w : World) : Calls Tryz.prog 132 #[.string s] w fun e w' => e = .returned (.bool (isNameB s)) ∧ w = w' := by
  by_cases h0 : s.size = 0
  · have HR := hid (show isNameB s = false from isNameB_empty (by rw [ByteArray.toList_eq]; exact List.eq_nil_of_length_eq_zero (by rw [blen]; exact h0)))
    have h1 : (s.size : Int) < 1 := by omega
    clear h0
    go_enter Tryz.func132, Tryz.ntmps132
    go_wp2
    go_ret
    exact ⟨retB HR.out.symm, rfl⟩
  by_cases hb : 32 < s.size
  · have HR := hid (isNameB_big hb)
    have h1 : ¬ (s.size : Int) < 1 := by omega
    have h2 : (32 : Int) < (s.size : Int) := by omega
    clear h0 hb
    go_enter Tryz.func132, Tryz.ntmps132
    go_wp2
    go_ret
    exact ⟨retB HR.out.symm, rfl⟩
  have h1 : ¬ (s.size : Int) < 1 := by omega
  have h2 : ¬ (32 : Int) < (s.size : Int) := by omega
  have HZ := hid (show 0 < s.size ∧ s.size ≤ 32 by omega)
  clear h0 hb
  go_enter Tryz.func132, Tryz.ntmps132
  go_wp2
  go_loopw [16] (fun i wr => ∃ k : Nat, wr = w ∧ k ≤ s.size ∧ i = .int .i64 k ∧ (∀ j (h : j < k) (hs : j < s.size), nmC s[j].toNat = true) ∧ (∀ h : 0 < s.size, 0 < k → 97 ≤ s[0].toNat ∧ s[0].toNat ≤ 122)) (fun i _ => s.size - (intOf i).toNat)
  case atStart => exact ⟨0, rfl, Nat.zero_le _, rfl, fun j h => absurd h (by omega), fun _ h => absurd h (by omega)⟩
  case round =>
    obtain ⟨k, rfl, hk, rfl, hall, hfst⟩ := hrel
    obtain ⟨wl, rfl⟩ : ∃ wl : World, wl = wr := ⟨_, rfl⟩
    have HALL := hid hall
    have HFST := hid hfst
    clear hall hfst
    by_cases hlt : k < s.size
    · have hlt' : (k : Int) < (s.size : Int) := by omega
      have hk0 : (0 : Int) ≤ (k : Int) := by omega
      obtain ⟨c, hc⟩ : ∃ c : Nat, s[k].toNat = c := ⟨_, rfl⟩
      have HC := hid hc
      have hcases : (97 ≤ c ∧ c ≤ 122) ∨ (k = 0 ∧ c < 97) ∨ (k = 0 ∧ 122 < c) ∨ (0 < k ∧ c = 95) ∨ (0 < k ∧ 48 ≤ c ∧ c ≤ 57) ∨ (0 < k ∧ c < 48) ∨ (0 < k ∧ 57 < c ∧ c < 97 ∧ c ≠ 95) ∨ (0 < k ∧ 122 < c) := by omega
      have HNX := hid (fun (hn : nmC c = true) (hf : 0 < k ∨ (97 ≤ c ∧ c ≤ 122)) => (show (∀ j (h : j < k + 1) (hs : j < s.size), nmC s[j].toNat = true) ∧ (∀ h : 0 < s.size, 0 < k + 1 → 97 ≤ s[0].toNat ∧ s[0].toNat ≤ 122) from
        ⟨fun j h hs => (Nat.lt_succ_iff_lt_or_eq.1 h).elim (fun h => HALL.out j h hs) (fun h => by subst h; rw [HC.out]; exact hn), fun h _ => by
          rcases Nat.eq_zero_or_pos k with h0 | h0
          · subst h0; rw [HC.out]; omega
          · exact HFST.out h h0⟩))
      have HBAD := hid (fun (hn : nmC c = false) => isNameB_bad k hlt (by rw [hc]; exact hn))
      have HBAD0 := hid (fun (h : k = 0) (hn : c < 97 ∨ 122 < c) => (show isNameB s = false from isNameB_first (by omega) (by subst h; rw [HC.out]; exact hn)))
      go_upto_region 7 with (fail)
      clear hc
      rcases hcases with h | h | h | h | h | h | h | h
      · have q1 : (97 : Int) ≤ (c : Int) := by omega
        have q2 : (c : Int) ≤ 122 := by omega
        have HN := hid (HNX.out (by simp [nmC]; omega) (.inr h))
        clear h
        go_wp2
        go_roundw
        case rel => exact ⟨k + 1, trivial, hlt, by go_num, HN.out.1, HN.out.2⟩
        case measure => simp [intOf]; omega
      · have q1 : ¬ (97 : Int) ≤ (c : Int) := by omega
        have HN := hid (HBAD0.out h.1 (.inl h.2))
        obtain ⟨rfl, _⟩ := h
        go_wp2
        go_ret
        exact ⟨retB HN.out.symm, rfl⟩
      · have q1 : (97 : Int) ≤ (c : Int) := by omega
        have q2 : ¬ (c : Int) ≤ 122 := by omega
        have HN := hid (HBAD0.out h.1 (.inr h.2))
        obtain ⟨rfl, _⟩ := h
        go_wp2
        go_ret
        exact ⟨retB HN.out.symm, rfl⟩
      · have q1 : ¬ (97 : Int) ≤ (c : Int) := by omega
        have q3 : ((k : Int) == 0) = false := by simp; omega
        have q4 : ((c : Int) == 95) = true := by simp; omega
        have n4 : ((c : Int) != 95) = false := by simp; omega
        have HN := hid (HNX.out (by simp [nmC]; omega) (.inl h.1))
        clear h
        go_wp2
        go_roundw
        case rel => exact ⟨k + 1, trivial, hlt, by go_num, HN.out.1, HN.out.2⟩
        case measure => simp [intOf]; omega
      · have q1 : ¬ (97 : Int) ≤ (c : Int) := by omega
        have q3 : ((k : Int) == 0) = false := by simp; omega
        have q4 : ((c : Int) == 95) = false := by simp; omega
        have n4 : ((c : Int) != 95) = true := by simp; omega
        have q5 : ¬ (c : Int) < 48 := by omega
        have r5 : decide ((c : Int) < 48) = false := by simp; omega
        have q6 : ¬ (57 : Int) < (c : Int) := by omega
        have r7 : (decide ((c : Int) < 48) || decide ((57 : Int) < (c : Int))) = false := by simp; omega
        have r6 : decide ((57 : Int) < (c : Int)) = false := by simp; omega
        have HN := hid (HNX.out (by simp [nmC]; omega) (.inl h.1))
        clear h
        go_wp2
        go_roundw
        case rel => exact ⟨k + 1, trivial, hlt, by go_num, HN.out.1, HN.out.2⟩
        case measure => simp [intOf]; omega
      · have q1 : ¬ (97 : Int) ≤ (c : Int) := by omega
        have q3 : ((k : Int) == 0) = false := by simp; omega
        have q4 : ((c : Int) == 95) = false := by simp; omega
        have n4 : ((c : Int) != 95) = true := by simp; omega
        have q5 : (c : Int) < 48 := by omega
        have r5 : decide ((c : Int) < 48) = true := by simp; omega
        have r7 : (decide ((c : Int) < 48) || decide ((57 : Int) < (c : Int))) = true := by simp; omega
        have HN := hid (HBAD.out (by simp [nmC]; omega))
        clear h
        go_wp2
        go_ret
        exact ⟨retB HN.out.symm, rfl⟩
      · have q1 : ¬ (97 : Int) ≤ (c : Int) := by omega
        have q3 : ((k : Int) == 0) = false := by simp; omega
        have q4 : ((c : Int) == 95) = false := by simp; omega
        have n4 : ((c : Int) != 95) = true := by simp; omega
        have q5 : ¬ (c : Int) < 48 := by omega
        have r5 : decide ((c : Int) < 48) = false := by simp; omega
        have q6 : (57 : Int) < (c : Int) := by omega
        have r7 : (decide ((c : Int) < 48) || decide ((57 : Int) < (c : Int))) = true := by simp; omega
        have r6 : decide ((57 : Int) < (c : Int)) = true := by simp; omega
        have HN := hid (HBAD.out (by simp [nmC]; omega))
        clear h
        go_wp2
        go_ret
        exact ⟨retB HN.out.symm, rfl⟩
      · have q1 : (97 : Int) ≤ (c : Int) := by omega
        have q2 : ¬ (c : Int) ≤ 122 := by omega
        have q3 : ((k : Int) == 0) = false := by simp; omega
        have q4 : ((c : Int) == 95) = false := by simp; omega
        have n4 : ((c : Int) != 95) = true := by simp; omega
        have q5 : ¬ (c : Int) < 48 := by omega
        have r5 : decide ((c : Int) < 48) = false := by simp; omega
        have q6 : (57 : Int) < (c : Int) := by omega
        have r7 : (decide ((c : Int) < 48) || decide ((57 : Int) < (c : Int))) = true := by simp; omega
        have r6 : decide ((57 : Int) < (c : Int)) = true := by simp; omega
        have HN := hid (HBAD.out (by simp [nmC]; omega))
        clear h
        go_wp2
        go_ret
        exact ⟨retB HN.out.symm, rfl⟩
    · obtain rfl : k = s.size := by omega
      have HR := hid (show isNameB s = true from isNameB_good HZ.out.1 HZ.out.2 (HFST.out HZ.out.1 HZ.out.1).1 (HFST.out HZ.out.1 HZ.out.1).2 (fun j hj => HALL.out j hj hj))
      go_wp2
      go_ret
      exact ⟨retB HR.out.symm, rfl⟩
end
end Go.Proofs.YtkljbfaemahchaaGreatDoor
