/-
  MessageSorts returns true. Conditions: the list can be read as data; Tabs.
-/
import Derived.Test.YthjlgpmajeafpaaGreatDoorMSortMrg
import Derived.Test.YthjlgpmajeafpaaGreatDoorKnownMrg
import Derived.Test.YthjlgpmajeafpaaGreatDoorReflMrg
import Derived.Test.YthjlgpmajeafpaaGreatDoorFateAMrg
namespace Go.Proofs.YthjlgpmajeafpaaGreatDoor
open Go Go.RowKit Go.Shelf
set_option linter.unusedVariables false
set_option linter.unusedSimpArgs false

theorem src0 {P : Program} {w : World} {size : Nat} {t e : TypeId} (ht : P.underlying t = some (.slice e)) (ax : Option Addr) (c : Nat) : Src P size t (.slice ax 0 c) 0 [] w := by
  cases ax with
  | none => exact Src.ofNil w ht c
  | some ad => exact Src.ofSlice w ht ad 0 c [] (by simp) (fun j u hu => by simp at hu) (fun u hu => by cases hu)
theorem cmpI_anti : ∀ (xs ys : List Int), cmpI ys xs = -cmpI xs ys
  | [], [] => by simp [cmpI]
  | [], _ :: _ => by simp [cmpI]
  | _ :: _, [] => by simp [cmpI]
  | x :: r, y :: s => by
    rw [cmpI, cmpI, cmpInt_anti x y]
    by_cases h : Lib.compareInt x y = 0
    · rw [if_neg (by simp [h]), if_neg (by simp [h])]
      exact cmpI_anti r s
    · rw [if_pos (by omega), if_pos h]
theorem cmpSt_anti (d d2 : St) : cmpSt d2 d = -cmpSt d d2 := by
  simp only [cmpSt, orL_lex]
  exact lex_neg (cmpInt_anti _ _) (lex_neg (cmpI_anti _ _) rfl)

set_option maxRecDepth 100000 in
set_option maxHeartbeats 16000000 in
theorem msgSorts_call (a : Option Addr) (n c : Nat) (l : List Msg) (w : World) (hd : IsMsgs (· < w.heap.size) w a n c l) (hT : Tabs w) : Calls Tryz.prog 9 #[.slice a n c] w fun e w' => e = .returned (.bool true) ∧ Below w.heap.size w w' := by
  obtain ⟨ti, hi, hz0, hz1, hz2⟩ := info_parts infoMsg
  have HT := hid hT
  have HD := hid hd
  have HL := hid hd.len
  have HUA : Hid (∀ w', Below w.heap.size w w' → IsMsgs (· < w'.heap.size) w' a n c l) := hid fun w' h => by
    have hs := h.size
    exact (HD.out.row.same fun b q => ⟨Nat.lt_of_lt_of_le q hs, h.block b q⟩).msgs
  have HK : Hid (∀ w', Below w.heap.size w w' → Calls Tryz.prog 15 #[] w' fun e w2 => e = .returned (.bool true) ∧ Below w'.heap.size w' w2) := hid fun w' h => known_call w' (HT.out.below h)
  have HSM : Hid (∀ w', Below w.heap.size w w' → Calls Tryz.prog 21 #[.slice a n c] w' (SmallsPost w' n)) := hid fun w' h => smalls_call a n c l w' (HUA.out w' h)
  -- the pairs
  have HPS : Hid (∃ ps : List (MC × Msg), ps.length = n ∧ ps.map Prod.snd = l ∧ (∀ p ∈ ps, IsMsg (· < w.heap.size) w p.1 p.2) ∧ (0 < n → ∃ b o, a = some ⟨b, o, none⟩ ∧ b < w.heap.size ∧ ∀ j (h : j < ps.length), AtG msgK w b (o + j * 10) ps[j].1)) := hid (by
    by_cases h0 : n = 0
    · have hl : l = [] := List.eq_nil_of_length_eq_zero (by rw [← hd.len]; exact h0)
      exact ⟨[], h0.symm, by rw [hl]; rfl, fun p hp => (by cases hp), fun h => absurd h (by omega)⟩
    · obtain ⟨b, o, ha, hb, hx⟩ := hd.row.slot (by omega)
      obtain ⟨cs, hcl, hq⟩ := pick_l (Q := fun j (x : MC) => AtG msgK w b (o + j * 10) x ∧ ∀ (h' : j < l.length), IsMsg (· < w.heap.size) w x l[j]) n fun j hj => by
        have := hd.len
        obtain ⟨x, h1, h2⟩ := hx j (by omega)
        exact ⟨x, h1, fun _ => h2⟩
      have hle := hd.len
      refine ⟨cs.zip l, by rw [List.length_zip]; omega, List.map_snd_zip (by omega), fun p hp => ?_, fun _ => ⟨b, o, ha, hb, fun j hj => ?_⟩⟩
      · obtain ⟨j, hj, rfl⟩ := List.getElem_of_mem hp
        rw [List.getElem_zip]
        exact (hq j (by rw [List.length_zip] at hj; omega)).2 _
      · rw [List.getElem_zip]
        exact (hq j (by rw [List.length_zip] at hj; omega)).1)
  clear hd hT
  go_enter Tryz.func9, Tryz.ntmps9
  go_upto_region 3 with (first
    | (go_at_call 15; refine (HK.out _ hb3).mono ?_; rintro e w9 ⟨rfl, hb9⟩; have hbz := hb3.trans (hb9.mono hb3.size))
    | (go_at_call 21; refine (HSM.out _ hb2).mono ?_; rintro e w3 ⟨⟨b1, rfl, hs1⟩, hb3'⟩; have hb3 := hb2.trans (hb3'.mono hb2.size); cases b1)
    | (go_at_call 15; refine (HK.out _ (Below.refl _ _)).mono ?_; rintro e w2 ⟨rfl, hb2⟩))
  · go_ret
    exact ⟨rfl, hbz⟩
  have h20 : n ≤ 20 := by first | exact hs1 rfl | exact hs1 trivial | exact hs1
  have HB3 := hid hb3
  have HSO := hid (msgSort_call a n c l w3 (HUA.out w3 hb3) h20)
  clear HK HSM hs1 hb3' hb2 hb3
  obtain ⟨ps, hpl, hpm, hpi, hpc⟩ := HPS.out
  have HPL := hid hpl
  have HPM := hid hpm
  have HPI := hid hpi
  have HPC := hid hpc
  have ONE : Hid (∀ (x : MC), ∀ u ∈ msgK.cs x, u.oneCell' = true) := hid (fun x u hu => by simp only [MC.cs, List.mem_cons, List.not_mem_nil, or_false] at hu; rcases hu with rfl | rfl | rfl | rfl | rfl | rfl | rfl | rfl | rfl | rfl <;> rfl)
  clear HPS hpl hpm hpi hpc
  go_wp2_with (go_at_call 48; refine HSO.out.mono ?_; rintro e w5 ⟨a5, c5, rfl, hb5, hr5⟩; have HR5 := hid hr5; clear hr5)
  have HUP5 : Hid (∀ w', Below w5.heap.size w5 w' → Below w.heap.size w w') := hid fun w' h => HB3.out.trans ((hb5.trans (h.mono hb5.size)).mono HB3.out.size)
  have HB5 := hid hb5
  clear hb5 HSO
  go_loopw [4, 5] (fun vv i wr => ∃ (k : Nat) (v : Value), v = vv ∧ k ≤ n ∧ i = .int .i64 k ∧ Below w5.heap.size w5 wr ∧ ((k = 0 ∧ v = .slice none 0 0) ∨ ∃ g cap, v = .slice (some ⟨g, 0, none⟩) k cap ∧ (1 ≤ k ∧ k ≤ cap) ∧ InRow msgK 30 wr g cap ((sortT ltM ps k).map Prod.fst))) (fun _ i _ => n - (intOf i).toNat)
  case atStart => exact ⟨0, _, rfl, Nat.zero_le _, rfl, Below.refl _ _, .inl ⟨rfl, rfl⟩⟩
  case round =>
  obtain ⟨k, v, rfl, hk, rfl, hbr, hv⟩ := hrel
  by_cases hlt : k < n
  · rcases hv with ⟨rfl, rfl⟩ | ⟨g, cap, rfl, ⟨hkp, hkc⟩, hrw⟩
    · obtain ⟨x, hx⟩ : ∃ x, x = ps[0]'(by have := HPL.out; omega) := ⟨_, rfl⟩
      obtain ⟨b, o, hab, hb, hcl⟩ := HPC.out (show 0 < n by omega)
      subst hab
      have HXC := hid (hcl 0 (by have := HPL.out; omega))
      rw [← hx] at HXC
      have HB := hid hb
      have HS1 := hid (show (sortT ltM ps 1).map Prod.fst = [x.1] by rw [sortT_succ _ _ _ (by have := HPL.out; omega), ← hx]; rfl)
      have HBR := hid hbr
      clear hx hb hcl hbr
      have hn0 : (0 : Int) < (n : Int) := by omega
      have hk20 : (n : Int) ≤ 20 := by omega
      go_wp2
      go_loopw [6] (fun jv wr2 => jv = .int .i64 0 ∧ Below w5.heap.size w5 wr2) (fun _ _ => 0)
      case atStart => exact ⟨rfl, HBR.out⟩
      case round =>
      obtain ⟨rfl, hbr⟩ := hrel
      obtain ⟨ws, hws⟩ : ∃ ws, ws = wr := ⟨_, rfl⟩
      rw [← hws] at hbr ⊢
      clear hws
      have HBR := hid hbr
      clear hbr
      go_upto_region 9 with (fail)
      refine wp_region_split 17 (fun w' => Below ws.heap.size ws w') (by kernel_rfl) (by kernel_rfl) (by kernel_rfl) (by decide) ((Below.refl _ _).drew) (fun hS => ?_)
      simp only [List.take_succ_cons, List.take_zero, List.drop_succ_cons, List.drop_zero]
      refine wpAnyH_take (i := 0) (oi := _) (v := ?_) rfl (by kernel_rfl) (by kernel_rfl) (by kernel_rfl) (fun _ _ _ h => h) (Or.inl ⟨by rfl, ?_⟩) hS ?_
      rotate_left
      · intro w' hw'
        (try dsimp only at hw')
        go_simp
        (try with_reducible rfl)
      simp only [Act.put, List.getElem_toArray, List.getElem_cons_succ, List.getElem_cons_zero, List.setIfInBounds_toArray, List.set_cons_zero, List.set_cons_succ]
      refine wpAnyH_take (i := 1) (oi := _) (v := ?_) rfl (by kernel_rfl) (by kernel_rfl) (by kernel_rfl) (fun _ _ _ h => h) (Or.inl ⟨by rfl, ?_⟩) hS ?_
      rotate_left
      · intro w' hw'
        (try dsimp only at hw')
        go_simp
        (try with_reducible rfl)
      simp only [Act.put, List.getElem_toArray, List.getElem_cons_succ, List.getElem_cons_zero, List.setIfInBounds_toArray, List.set_cons_zero, List.set_cons_succ]
      refine wpAnyH_take (i := 2) (oi := _) (v := ?_) rfl (by kernel_rfl) (by kernel_rfl) (by kernel_rfl) (fun _ _ _ h => h) (Or.inl ⟨by rfl, ?_⟩) hS ?_
      rotate_left
      · intro w' hw'
        (try dsimp only at hw')
        go_simp
        (try with_reducible rfl)
      simp only [Act.put, List.getElem_toArray, List.getElem_cons_succ, List.getElem_cons_zero, List.setIfInBounds_toArray, List.set_cons_zero, List.set_cons_succ]
      refine wpAnyH_take (i := 3) (oi := _) (v := undef) rfl (by kernel_rfl) (by kernel_rfl) (by kernel_rfl) (fun _ _ _ h => h) (Or.inr ⟨by rfl, rfl⟩) hS ?_
      simp only [Act.put, List.getElem_toArray, List.getElem_cons_succ, List.getElem_cons_zero, List.setIfInBounds_toArray, List.set_cons_zero, List.set_cons_succ]
      refine wpAnyH_take (i := 4) (oi := _) (v := undef) rfl (by kernel_rfl) (by kernel_rfl) (by kernel_rfl) (fun _ _ _ h => h) (Or.inr ⟨by rfl, rfl⟩) hS ?_
      simp only [Act.put, List.getElem_toArray, List.getElem_cons_succ, List.getElem_cons_zero, List.setIfInBounds_toArray, List.set_cons_zero, List.set_cons_succ]
      refine wpAnyH_take (i := 5) (oi := _) (v := undef) rfl (by kernel_rfl) (by kernel_rfl) (by kernel_rfl) (fun _ _ _ h => h) (Or.inr ⟨by rfl, rfl⟩) hS ?_
      simp only [Act.put, List.getElem_toArray, List.getElem_cons_succ, List.getElem_cons_zero, List.setIfInBounds_toArray, List.set_cons_zero, List.set_cons_succ]
      refine wpAnyH_take (i := 6) (oi := _) (v := undef) rfl (by kernel_rfl) (by kernel_rfl) (by kernel_rfl) (fun _ _ _ h => h) (Or.inr ⟨by rfl, rfl⟩) hS ?_
      simp only [Act.put, List.getElem_toArray, List.getElem_cons_succ, List.getElem_cons_zero, List.setIfInBounds_toArray, List.set_cons_zero, List.set_cons_succ]
      refine wpAnyH_take (i := 7) (oi := _) (v := undef) rfl (by kernel_rfl) (by kernel_rfl) (by kernel_rfl) (fun _ _ _ h => h) (Or.inr ⟨by rfl, rfl⟩) hS ?_
      simp only [Act.put, List.getElem_toArray, List.getElem_cons_succ, List.getElem_cons_zero, List.setIfInBounds_toArray, List.set_cons_zero, List.set_cons_succ]
      refine wpAnyH_take (i := 8) (oi := _) (v := undef) rfl (by kernel_rfl) (by kernel_rfl) (by kernel_rfl) (fun _ _ _ h => h) (Or.inr ⟨by rfl, rfl⟩) hS ?_
      simp only [Act.put, List.getElem_toArray, List.getElem_cons_succ, List.getElem_cons_zero, List.setIfInBounds_toArray, List.set_cons_zero, List.set_cons_succ]
      refine wpAnyH_take (i := 9) (oi := _) (v := undef) rfl (by kernel_rfl) (by kernel_rfl) (by kernel_rfl) (fun _ _ _ h => h) (Or.inr ⟨by rfl, rfl⟩) hS ?_
      simp only [Act.put, List.getElem_toArray, List.getElem_cons_succ, List.getElem_cons_zero, List.setIfInBounds_toArray, List.set_cons_zero, List.set_cons_succ]
      refine wpAnyH_take (i := 10) (oi := _) (v := undef) rfl (by kernel_rfl) (by kernel_rfl) (by kernel_rfl) (fun _ _ _ h => h) (Or.inr ⟨by rfl, rfl⟩) hS ?_
      simp only [Act.put, List.getElem_toArray, List.getElem_cons_succ, List.getElem_cons_zero, List.setIfInBounds_toArray, List.set_cons_zero, List.set_cons_succ]
      refine wpAnyH_take (i := 11) (oi := _) (v := undef) rfl (by kernel_rfl) (by kernel_rfl) (by kernel_rfl) (fun _ _ _ h => h) (Or.inr ⟨by rfl, rfl⟩) hS ?_
      simp only [Act.put, List.getElem_toArray, List.getElem_cons_succ, List.getElem_cons_zero, List.setIfInBounds_toArray, List.set_cons_zero, List.set_cons_succ]
      refine wpAnyH_take (i := 12) (oi := _) (v := undef) rfl (by kernel_rfl) (by kernel_rfl) (by kernel_rfl) (fun _ _ _ h => h) (Or.inr ⟨by rfl, rfl⟩) hS ?_
      simp only [Act.put, List.getElem_toArray, List.getElem_cons_succ, List.getElem_cons_zero, List.setIfInBounds_toArray, List.set_cons_zero, List.set_cons_succ]
      refine wpAnyH_take (i := 13) (oi := _) (v := undef) rfl (by kernel_rfl) (by kernel_rfl) (by kernel_rfl) (fun _ _ _ h => h) (Or.inr ⟨by rfl, rfl⟩) hS ?_
      simp only [Act.put, List.getElem_toArray, List.getElem_cons_succ, List.getElem_cons_zero, List.setIfInBounds_toArray, List.set_cons_zero, List.set_cons_succ]
      refine wpAnyH_take (i := 14) (oi := _) (v := undef) rfl (by kernel_rfl) (by kernel_rfl) (by kernel_rfl) (fun _ _ _ h => h) (Or.inr ⟨by rfl, rfl⟩) hS ?_
      simp only [Act.put, List.getElem_toArray, List.getElem_cons_succ, List.getElem_cons_zero, List.setIfInBounds_toArray, List.set_cons_zero, List.set_cons_succ]
      refine wpAnyH_take (i := 15) (oi := _) (v := undef) rfl (by kernel_rfl) (by kernel_rfl) (by kernel_rfl) (fun _ _ _ h => h) (Or.inr ⟨by rfl, rfl⟩) hS ?_
      simp only [Act.put, List.getElem_toArray, List.getElem_cons_succ, List.getElem_cons_zero, List.setIfInBounds_toArray, List.set_cons_zero, List.set_cons_succ]
      refine wpAnyH_take (i := 16) (oi := _) (v := ?_) rfl (by kernel_rfl) (by kernel_rfl) (by kernel_rfl) (fun _ _ _ h => h) (Or.inl ⟨by rfl, ?_⟩) hS ?_
      rotate_left
      · intro w' hw'
        (try dsimp only at hw')
        go_simp
        (try with_reducible rfl)
      simp only [Act.put, List.getElem_toArray, List.getElem_cons_succ, List.getElem_cons_zero, List.setIfInBounds_toArray, List.set_cons_zero, List.set_cons_succ]
      refine wpAnyH_done (by kernel_rfl) ?_ _
      (try dsimp only)
      have HS9 := hid hS
      clear hS
      obtain ⟨wv, hwv⟩ : ∃ wv, wv = ws.drew := ⟨_, rfl⟩
      rw [← hwv] at HS9 ⊢
      clear hwv
      have HBV := hid (HBR.out.trans (HS9.out.mono HBR.out.size))
      clear HS9 HBR
      obtain ⟨ws, hws⟩ : ∃ ws, ws = wv := ⟨_, rfl⟩
      rw [← hws] at HBV ⊢
      clear hws
      have HBR := HBV
      have HC11 : Hid (∀ w', Below ws.heap.size ws w' → w'.cell? ⟨b, o, none⟩ = some (.int .i64 x.1.st.e) ∧ w'.cell? ⟨b, o + 1, none⟩ = some (.slice x.1.st.a x.1.st.n x.1.st.c) ∧ w'.cell? ⟨b, o + 2, none⟩ = some (.int .i64 x.1.m) ∧ w'.cell? ⟨b, o + 3, none⟩ = some (.slice x.1.a x.1.n x.1.c) ∧ w'.cell? ⟨b, o + 4, none⟩ = some (.int .i64 x.1.b.k) ∧ w'.cell? ⟨b, o + 5, none⟩ = some (.int .i64 x.1.b.i) ∧ w'.cell? ⟨b, o + 6, none⟩ = some (.int .i64 x.1.b.s) ∧ w'.cell? ⟨b, o + 7, none⟩ = some (.string x.1.b.t) ∧ w'.cell? ⟨b, o + 8, none⟩ = some (.slice x.1.b.la x.1.b.ll x.1.b.lc) ∧ w'.cell? ⟨b, o + 9, none⟩ = some (.slice x.1.b.fa x.1.b.fl x.1.b.fc)) := hid fun w' h => by
        have h1 := HUP5.out _ (HBV.out.trans (h.mono HBV.out.size))
        have h2 := (HXC.out.same (h1.block b HB.out)).m
        simp only [Nat.zero_mul, Nat.add_zero] at h2
        obtain ⟨x0, x1, x2, x3, x4, x5, x6, x7, x8, x9⟩ := h2
        exact ⟨x0, x1, x2, x3, x4, x5, x6, x7, x8, x9⟩
      go_upto_region 11 with (fail)
      refine wp_region_split 14 (fun w' => Below ws.heap.size ws w') (by kernel_rfl) (by kernel_rfl) (by kernel_rfl) (by decide) ((Below.refl _ _).drew) (fun hS => ?_)
      simp only [List.take_succ_cons, List.take_zero, List.drop_succ_cons, List.drop_zero]
      refine wpAnyH_take (i := 0) (oi := _) (v := ?_) rfl (by kernel_rfl) (by kernel_rfl) (by kernel_rfl) (fun _ _ _ h => h) (Or.inl ⟨by rfl, ?_⟩) hS ?_
      rotate_left
      · intro w' hw'
        have hcells := HC11.out w' hw'
        go_simp
        (try with_reducible rfl)
      simp only [Act.put, List.getElem_toArray, List.getElem_cons_succ, List.getElem_cons_zero, List.setIfInBounds_toArray, List.set_cons_zero, List.set_cons_succ]
      refine wpAnyH_take (i := 1) (oi := _) (v := ?_) rfl (by kernel_rfl) (by kernel_rfl) (by kernel_rfl) (fun _ _ _ h => h) (Or.inl ⟨by rfl, ?_⟩) hS ?_
      rotate_left
      · intro w' hw'
        have hcells := HC11.out w' hw'
        go_simp
        (try with_reducible rfl)
      simp only [Act.put, List.getElem_toArray, List.getElem_cons_succ, List.getElem_cons_zero, List.setIfInBounds_toArray, List.set_cons_zero, List.set_cons_succ]
      refine wpAnyH_take (i := 2) (oi := _) (v := ?_) rfl (by kernel_rfl) (by kernel_rfl) (by kernel_rfl) (fun _ _ _ h => h) (Or.inl ⟨by rfl, ?_⟩) hS ?_
      rotate_left
      · intro w' hw'
        have hcells := HC11.out w' hw'
        go_simp
        (try with_reducible rfl)
      simp only [Act.put, List.getElem_toArray, List.getElem_cons_succ, List.getElem_cons_zero, List.setIfInBounds_toArray, List.set_cons_zero, List.set_cons_succ]
      refine wpAnyH_take (i := 3) (oi := _) (v := ?_) rfl (by kernel_rfl) (by kernel_rfl) (by kernel_rfl) (fun _ _ _ h => h) (Or.inl ⟨by rfl, ?_⟩) hS ?_
      rotate_left
      · intro w' hw'
        have hcells := HC11.out w' hw'
        go_simp
        (try with_reducible rfl)
      simp only [Act.put, List.getElem_toArray, List.getElem_cons_succ, List.getElem_cons_zero, List.setIfInBounds_toArray, List.set_cons_zero, List.set_cons_succ]
      refine wpAnyH_take (i := 4) (oi := _) (v := ?_) rfl (by kernel_rfl) (by kernel_rfl) (by kernel_rfl) (fun _ _ _ h => h) (Or.inl ⟨by rfl, ?_⟩) hS ?_
      rotate_left
      · intro w' hw'
        have hcells := HC11.out w' hw'
        go_simp
        (try with_reducible rfl)
      simp only [Act.put, List.getElem_toArray, List.getElem_cons_succ, List.getElem_cons_zero, List.setIfInBounds_toArray, List.set_cons_zero, List.set_cons_succ]
      refine wpAnyH_take (i := 5) (oi := _) (v := ?_) rfl (by kernel_rfl) (by kernel_rfl) (by kernel_rfl) (fun _ _ _ h => h) (Or.inl ⟨by rfl, ?_⟩) hS ?_
      rotate_left
      · intro w' hw'
        have hcells := HC11.out w' hw'
        go_simp
        (try with_reducible rfl)
      simp only [Act.put, List.getElem_toArray, List.getElem_cons_succ, List.getElem_cons_zero, List.setIfInBounds_toArray, List.set_cons_zero, List.set_cons_succ]
      refine wpAnyH_take (i := 6) (oi := _) (v := ?_) rfl (by kernel_rfl) (by kernel_rfl) (by kernel_rfl) (fun _ _ _ h => h) (Or.inl ⟨by rfl, ?_⟩) hS ?_
      rotate_left
      · intro w' hw'
        have hcells := HC11.out w' hw'
        go_simp
        (try with_reducible rfl)
      simp only [Act.put, List.getElem_toArray, List.getElem_cons_succ, List.getElem_cons_zero, List.setIfInBounds_toArray, List.set_cons_zero, List.set_cons_succ]
      refine wpAnyH_take (i := 7) (oi := _) (v := ?_) rfl (by kernel_rfl) (by kernel_rfl) (by kernel_rfl) (fun _ _ _ h => h) (Or.inl ⟨by rfl, ?_⟩) hS ?_
      rotate_left
      · intro w' hw'
        have hcells := HC11.out w' hw'
        go_simp
        (try with_reducible rfl)
      simp only [Act.put, List.getElem_toArray, List.getElem_cons_succ, List.getElem_cons_zero, List.setIfInBounds_toArray, List.set_cons_zero, List.set_cons_succ]
      refine wpAnyH_take (i := 9) (oi := _) (v := ?_) rfl (by kernel_rfl) (by kernel_rfl) (by kernel_rfl) (fun _ _ _ h => h) (Or.inl ⟨by rfl, ?_⟩) hS ?_
      rotate_left
      · intro w' hw'
        have hcells := HC11.out w' hw'
        go_simp
        (try with_reducible rfl)
      simp only [Act.put, List.getElem_toArray, List.getElem_cons_succ, List.getElem_cons_zero, List.setIfInBounds_toArray, List.set_cons_zero, List.set_cons_succ]
      refine wpAnyH_take (i := 10) (oi := _) (v := ?_) rfl (by kernel_rfl) (by kernel_rfl) (by kernel_rfl) (fun _ _ _ h => h) (Or.inl ⟨by rfl, ?_⟩) hS ?_
      rotate_left
      · intro w' hw'
        have hcells := HC11.out w' hw'
        go_simp
        (try with_reducible rfl)
      simp only [Act.put, List.getElem_toArray, List.getElem_cons_succ, List.getElem_cons_zero, List.setIfInBounds_toArray, List.set_cons_zero, List.set_cons_succ]
      refine wpAnyH_take (i := 11) (oi := _) (v := ?_) rfl (by kernel_rfl) (by kernel_rfl) (by kernel_rfl) (fun _ _ _ h => h) (Or.inl ⟨by rfl, ?_⟩) hS ?_
      rotate_left
      · intro w' hw'
        have hcells := HC11.out w' hw'
        go_simp
        (try with_reducible rfl)
      simp only [Act.put, List.getElem_toArray, List.getElem_cons_succ, List.getElem_cons_zero, List.setIfInBounds_toArray, List.set_cons_zero, List.set_cons_succ]
      refine wpAnyH_ready (rs := [8]) (by kernel_rfl) (by simp) ?_
      refine AllReadyH.cons (o := _) rfl (fun K hK => ?_) AllReadyH.nil
      go_simp
      obtain ⟨wB, hwB⟩ : ∃ u, u = (ws.alloc (.cells #[.int .i64 x.1.st.e, .slice x.1.st.a x.1.st.n x.1.st.c, .int .i64 x.1.m, .slice x.1.a x.1.n x.1.c, .int .i64 x.1.b.k, .int .i64 x.1.b.i, .int .i64 x.1.b.s, .string x.1.b.t, .slice x.1.b.la x.1.b.ll x.1.b.lc, .slice x.1.b.fa x.1.b.fl x.1.b.fc] 30)).drew := ⟨_, rfl⟩
      rw [← hwB]
      have hBB : Below ws.heap.size ws wB := by rw [hwB]; exact ((Below.refl _ _).alloc (Nat.le_refl _) _).drew
      have hCB : wB.heap[ws.heap.size]? = some (.cells #[.int .i64 x.1.st.e, .slice x.1.st.a x.1.st.n x.1.st.c, .int .i64 x.1.m, .slice x.1.a x.1.n x.1.c, .int .i64 x.1.b.k, .int .i64 x.1.b.i, .int .i64 x.1.b.s, .string x.1.b.t, .slice x.1.b.la x.1.b.ll x.1.b.lc, .slice x.1.b.fa x.1.b.fl x.1.b.fc] 30) := by rw [hwB]; exact heap_alloc_new ws _
      obtain ⟨nb, hnb⟩ : ∃ u, u = ws.heap.size := ⟨_, rfl⟩
      rw [← hnb] at hCB
      (try rw [← hnb])
      have HCB := hid hCB
      have HBB := hid hBB
      have HNB := hid hnb
      clear hwB hnb hBB hCB
      refine hK.out _ _ (HBB.out) (fun hS => ?_)
      clear hK K
      (try simp only [Act.put, List.getElem_toArray, List.getElem_cons_succ, List.getElem_cons_zero, List.setIfInBounds_toArray, List.set_cons_zero, List.set_cons_succ])
      refine wpAnyH_ready (rs := [12]) (by kernel_rfl) (by simp) ?_
      refine AllReadyH.cons (o := _) rfl (fun K hK => ?_) AllReadyH.nil
      refine step_append_run (by rfl) _ _ _ (by rfl) (.slice (some ⟨nb, 0, none⟩) 1 1) (.slice none 0 0) (.slice (some ⟨nb, 0, none⟩) 1 1) wB (by rfl) (by rfl) (run_append_nothing (P := Tryz.prog) wB _ _ _ _ ti Tryz.underlying36 hi _ 1 1 (Nat.le_refl 1) _ (Src.ofNil wB Tryz.underlying36 0)) ?_
      refine hK.out _ _ (hS) (fun hS => ?_)
      clear hK K
      (try simp only [Act.put, List.getElem_toArray, List.getElem_cons_succ, List.getElem_cons_zero, List.setIfInBounds_toArray, List.set_cons_zero, List.set_cons_succ])
      refine wpAnyH_ready (rs := [13]) (by kernel_rfl) (by simp) ?_
      refine AllReadyH.cons (o := _) rfl (fun K hK => ?_) AllReadyH.nil
      have hcl : Cl msgK wB (some ⟨nb, 0, none⟩) 1 [x.1] := ⟨rfl, .inr ⟨_, rfl, fun t u hu => (by simp only [List.flatMap_cons, List.flatMap_nil, List.append_nil] at hu; exact World.news_of_block HCB.out t u hu)⟩⟩
      obtain ⟨cap', oN, hrun, hrow, hcap⟩ := run_grow (K := msgK) (P := Tryz.prog) (ty := _) Tryz.underlying36 hi hz0 (by rw [hz1]) (by rw [hz2]; omega) rfl ONE.out none 0 0 [] (Cl.none _ _) (some ⟨nb, 0, none⟩) 1 1 [x.1] hcl (by omega) (by omega)
      refine step_append_run (by rfl) _ _ _ (by rfl) _ _ _ _ (by rfl) (by rfl) hrun ?_
      have HROW := hid hrow
      have HCAP := hid hcap
      obtain ⟨wN, hwN⟩ : ∃ u, u = wB.drew.alloc oN := ⟨_, rfl⟩
      rw [← hwN] at HROW ⊢
      have hBN : Below wB.heap.size wB wN := by rw [hwN]; exact ((Below.refl _ _).drew).alloc (Nat.le_refl _) _
      clear hwN hrow hcap hrun hcl
      refine hK.out _ _ (hS.trans (hBN.mono hS.size)) (fun hS => ?_)
      clear hK K
      (try simp only [Act.put, List.getElem_toArray, List.getElem_cons_succ, List.getElem_cons_zero, List.setIfInBounds_toArray, List.set_cons_zero, List.set_cons_succ])
      refine wpAnyH_done (by kernel_rfl) ?_ _
      (try dsimp only)
      have HS := hid hS
      clear hS
      go_wp2
      go_roundw
      case rel => exact ⟨1, _, rfl, by omega, by go_num, HBR.out.trans (HS.out.mono HBR.out.size), .inr ⟨_, cap', rfl, ⟨by omega, HCAP.out⟩, by rw [HS1.out]; exact HROW.out⟩⟩
      case measure => simp [intOf]; omega
    · obtain ⟨x, hx⟩ : ∃ x, x = ps[k]'(by have := HPL.out; omega) := ⟨_, rfl⟩
      obtain ⟨b, o, hab, hb, hcl⟩ := HPC.out (show 0 < n by omega)
      subst hab
      have HXC := hid (hcl k (by have := HPL.out; omega))
      rw [← hx] at HXC
      have HXI := hid (show IsMsg (· < w.heap.size) w x.1 x.2 from HPI.out x (by rw [hx]; exact List.getElem_mem _))
      have HB := hid hb
      obtain ⟨A, hA⟩ : ∃ A, A = sortT ltM ps k := ⟨_, rfl⟩
      rw [← hA] at hrw
      have HAL := hid (show A.length = k by rw [hA]; exact sortT_len _ _ _ (by have := HPL.out; omega))
      have HAI := hid (show ∀ p ∈ A, IsMsg (· < w.heap.size) w p.1 p.2 from fun p hp => HPI.out p (by rw [hA] at hp; exact sortT_in _ _ hp))
      have HNX := hid (show sortT ltM ps (k + 1) = insL ltM A x by rw [sortT_succ _ _ _ (by have := HPL.out; omega), ← hA, ← hx])
      have HBR0 := hid hbr
      have HRW0 := hid hrw
      clear hx hb hcl hA hbr hrw
      have hkn : (k : Int) < (n : Int) := by omega
      have hk20 : (n : Int) ≤ 20 := by omega
      have hk00 : (0 : Int) ≤ (k : Int) := by omega
      go_wp2
      go_loopw [6] (fun jv wr2 => ∃ j : Nat, j ≤ k ∧ jv = .int .i64 j ∧ Below w5.heap.size w5 wr2 ∧ InRow msgK 30 wr2 g cap (A.map Prod.fst) ∧ scanP ltM x A A.length = scanP ltM x A j) (fun jv _ => (intOf jv).toNat)
      case atStart => exact ⟨k, Nat.le_refl _, rfl, HBR0.out, HRW0.out, by rw [HAL.out]⟩
      case round =>
      obtain ⟨j, hj, rfl, hbr, hrw, hsc⟩ := hrel
      obtain ⟨ws, hws⟩ : ∃ ws, ws = wr := ⟨_, rfl⟩
      rw [← hws] at hbr hrw ⊢
      clear hws HBR0 HRW0
      have HBR := hid hbr
      have HRW := hid hrw
      have HSC := hid hsc
      have HJK := hid hj
      have hjk : (j : Int) ≤ (k : Int) := by omega
      have hjc : (j : Int) ≤ (cap : Int) := by omega
      have hkc' : (k : Int) ≤ (cap : Int) := by omega
      have HC9X := HRW
      clear hbr hrw hsc
      by_cases hj0 : j = 0
      · have HSX := hid (show (sortT ltM ps (k + 1)).map Prod.fst = x.1 :: A.map Prod.fst by
          rw [HNX.out, insL_of (j := 0) (by rw [HSC.out, hj0]; rfl)]; simp)
        subst hj0
        have hkc0 : ¬ cap = 0 := by omega
        have hkc1 : ¬ 0 = cap := by omega
        go_upto_region 9 with (fail)
        refine wp_region_split 17 (fun w' => Below ws.heap.size ws w') (by kernel_rfl) (by kernel_rfl) (by kernel_rfl) (by decide) ((Below.refl _ _).drew) (fun hS => ?_)
        simp only [List.take_succ_cons, List.take_zero, List.drop_succ_cons, List.drop_zero]
        refine wpAnyH_take (i := 0) (oi := _) (v := ?_) rfl (by kernel_rfl) (by kernel_rfl) (by kernel_rfl) (fun _ _ _ h => h) (Or.inl ⟨by rfl, ?_⟩) hS ?_
        rotate_left
        · intro w' hw'
          (try dsimp only at hw')
          go_simp
          (try with_reducible rfl)
        simp only [Act.put, List.getElem_toArray, List.getElem_cons_succ, List.getElem_cons_zero, List.setIfInBounds_toArray, List.set_cons_zero, List.set_cons_succ]
        refine wpAnyH_take (i := 1) (oi := _) (v := ?_) rfl (by kernel_rfl) (by kernel_rfl) (by kernel_rfl) (fun _ _ _ h => h) (Or.inl ⟨by rfl, ?_⟩) hS ?_
        rotate_left
        · intro w' hw'
          (try dsimp only at hw')
          go_simp
          (try with_reducible rfl)
        simp only [Act.put, List.getElem_toArray, List.getElem_cons_succ, List.getElem_cons_zero, List.setIfInBounds_toArray, List.set_cons_zero, List.set_cons_succ]
        refine wpAnyH_take (i := 2) (oi := _) (v := ?_) rfl (by kernel_rfl) (by kernel_rfl) (by kernel_rfl) (fun _ _ _ h => h) (Or.inl ⟨by rfl, ?_⟩) hS ?_
        rotate_left
        · intro w' hw'
          (try dsimp only at hw')
          go_simp
          (try with_reducible rfl)
        simp only [Act.put, List.getElem_toArray, List.getElem_cons_succ, List.getElem_cons_zero, List.setIfInBounds_toArray, List.set_cons_zero, List.set_cons_succ]
        refine wpAnyH_take (i := 3) (oi := _) (v := undef) rfl (by kernel_rfl) (by kernel_rfl) (by kernel_rfl) (fun _ _ _ h => h) (Or.inr ⟨by rfl, rfl⟩) hS ?_
        simp only [Act.put, List.getElem_toArray, List.getElem_cons_succ, List.getElem_cons_zero, List.setIfInBounds_toArray, List.set_cons_zero, List.set_cons_succ]
        refine wpAnyH_take (i := 4) (oi := _) (v := undef) rfl (by kernel_rfl) (by kernel_rfl) (by kernel_rfl) (fun _ _ _ h => h) (Or.inr ⟨by rfl, rfl⟩) hS ?_
        simp only [Act.put, List.getElem_toArray, List.getElem_cons_succ, List.getElem_cons_zero, List.setIfInBounds_toArray, List.set_cons_zero, List.set_cons_succ]
        refine wpAnyH_take (i := 5) (oi := _) (v := undef) rfl (by kernel_rfl) (by kernel_rfl) (by kernel_rfl) (fun _ _ _ h => h) (Or.inr ⟨by rfl, rfl⟩) hS ?_
        simp only [Act.put, List.getElem_toArray, List.getElem_cons_succ, List.getElem_cons_zero, List.setIfInBounds_toArray, List.set_cons_zero, List.set_cons_succ]
        refine wpAnyH_take (i := 6) (oi := _) (v := undef) rfl (by kernel_rfl) (by kernel_rfl) (by kernel_rfl) (fun _ _ _ h => h) (Or.inr ⟨by rfl, rfl⟩) hS ?_
        simp only [Act.put, List.getElem_toArray, List.getElem_cons_succ, List.getElem_cons_zero, List.setIfInBounds_toArray, List.set_cons_zero, List.set_cons_succ]
        refine wpAnyH_take (i := 7) (oi := _) (v := undef) rfl (by kernel_rfl) (by kernel_rfl) (by kernel_rfl) (fun _ _ _ h => h) (Or.inr ⟨by rfl, rfl⟩) hS ?_
        simp only [Act.put, List.getElem_toArray, List.getElem_cons_succ, List.getElem_cons_zero, List.setIfInBounds_toArray, List.set_cons_zero, List.set_cons_succ]
        refine wpAnyH_take (i := 8) (oi := _) (v := undef) rfl (by kernel_rfl) (by kernel_rfl) (by kernel_rfl) (fun _ _ _ h => h) (Or.inr ⟨by rfl, rfl⟩) hS ?_
        simp only [Act.put, List.getElem_toArray, List.getElem_cons_succ, List.getElem_cons_zero, List.setIfInBounds_toArray, List.set_cons_zero, List.set_cons_succ]
        refine wpAnyH_take (i := 9) (oi := _) (v := undef) rfl (by kernel_rfl) (by kernel_rfl) (by kernel_rfl) (fun _ _ _ h => h) (Or.inr ⟨by rfl, rfl⟩) hS ?_
        simp only [Act.put, List.getElem_toArray, List.getElem_cons_succ, List.getElem_cons_zero, List.setIfInBounds_toArray, List.set_cons_zero, List.set_cons_succ]
        refine wpAnyH_take (i := 10) (oi := _) (v := undef) rfl (by kernel_rfl) (by kernel_rfl) (by kernel_rfl) (fun _ _ _ h => h) (Or.inr ⟨by rfl, rfl⟩) hS ?_
        simp only [Act.put, List.getElem_toArray, List.getElem_cons_succ, List.getElem_cons_zero, List.setIfInBounds_toArray, List.set_cons_zero, List.set_cons_succ]
        refine wpAnyH_take (i := 11) (oi := _) (v := undef) rfl (by kernel_rfl) (by kernel_rfl) (by kernel_rfl) (fun _ _ _ h => h) (Or.inr ⟨by rfl, rfl⟩) hS ?_
        simp only [Act.put, List.getElem_toArray, List.getElem_cons_succ, List.getElem_cons_zero, List.setIfInBounds_toArray, List.set_cons_zero, List.set_cons_succ]
        refine wpAnyH_take (i := 12) (oi := _) (v := undef) rfl (by kernel_rfl) (by kernel_rfl) (by kernel_rfl) (fun _ _ _ h => h) (Or.inr ⟨by rfl, rfl⟩) hS ?_
        simp only [Act.put, List.getElem_toArray, List.getElem_cons_succ, List.getElem_cons_zero, List.setIfInBounds_toArray, List.set_cons_zero, List.set_cons_succ]
        refine wpAnyH_take (i := 13) (oi := _) (v := undef) rfl (by kernel_rfl) (by kernel_rfl) (by kernel_rfl) (fun _ _ _ h => h) (Or.inr ⟨by rfl, rfl⟩) hS ?_
        simp only [Act.put, List.getElem_toArray, List.getElem_cons_succ, List.getElem_cons_zero, List.setIfInBounds_toArray, List.set_cons_zero, List.set_cons_succ]
        refine wpAnyH_take (i := 14) (oi := _) (v := undef) rfl (by kernel_rfl) (by kernel_rfl) (by kernel_rfl) (fun _ _ _ h => h) (Or.inr ⟨by rfl, rfl⟩) hS ?_
        simp only [Act.put, List.getElem_toArray, List.getElem_cons_succ, List.getElem_cons_zero, List.setIfInBounds_toArray, List.set_cons_zero, List.set_cons_succ]
        refine wpAnyH_take (i := 15) (oi := _) (v := undef) rfl (by kernel_rfl) (by kernel_rfl) (by kernel_rfl) (fun _ _ _ h => h) (Or.inr ⟨by rfl, rfl⟩) hS ?_
        simp only [Act.put, List.getElem_toArray, List.getElem_cons_succ, List.getElem_cons_zero, List.setIfInBounds_toArray, List.set_cons_zero, List.set_cons_succ]
        refine wpAnyH_take (i := 16) (oi := _) (v := ?_) rfl (by kernel_rfl) (by kernel_rfl) (by kernel_rfl) (fun _ _ _ h => h) (Or.inl ⟨by rfl, ?_⟩) hS ?_
        rotate_left
        · intro w' hw'
          (try dsimp only at hw')
          go_simp
          (try with_reducible rfl)
        simp only [Act.put, List.getElem_toArray, List.getElem_cons_succ, List.getElem_cons_zero, List.setIfInBounds_toArray, List.set_cons_zero, List.set_cons_succ]
        refine wpAnyH_done (by kernel_rfl) ?_ _
        (try dsimp only)
        have HS9 := hid hS
        clear hS
        obtain ⟨wv, hwv⟩ : ∃ wv, wv = ws.drew := ⟨_, rfl⟩
        rw [← hwv] at HS9 ⊢
        have HBV := hid (HBR.out.trans (HS9.out.mono HBR.out.size))
        have HRV := hid (HRW.out.ext HS9.out)
        clear hwv HS9 HBR HRW HC9X
        obtain ⟨ws, hws⟩ : ∃ ws, ws = wv := ⟨_, rfl⟩
        rw [← hws] at HBV HRV ⊢
        clear hws
        have HBR := HBV
        have HRW := HRV
        have HCD : Hid (∀ w', Below ws.heap.size ws w' → Cl msgK w' (some ⟨g, 0, none⟩) k (A.map Prod.fst)) := hid fun w' h => by
          have h1 := (HRW.out.ext h).cl 0 k (by rw [List.length_map]; have := HAL.out; omega)
          rw [Nat.zero_mul, List.drop_zero, List.take_of_length_le (by rw [List.length_map]; have := HAL.out; omega)] at h1
          exact h1
        have HC11 : Hid (∀ w', Below ws.heap.size ws w' → w'.cell? ⟨b, o + k * 10, none⟩ = some (.int .i64 x.1.st.e) ∧ w'.cell? ⟨b, o + k * 10 + 1, none⟩ = some (.slice x.1.st.a x.1.st.n x.1.st.c) ∧ w'.cell? ⟨b, o + k * 10 + 2, none⟩ = some (.int .i64 x.1.m) ∧ w'.cell? ⟨b, o + k * 10 + 3, none⟩ = some (.slice x.1.a x.1.n x.1.c) ∧ w'.cell? ⟨b, o + k * 10 + 4, none⟩ = some (.int .i64 x.1.b.k) ∧ w'.cell? ⟨b, o + k * 10 + 5, none⟩ = some (.int .i64 x.1.b.i) ∧ w'.cell? ⟨b, o + k * 10 + 6, none⟩ = some (.int .i64 x.1.b.s) ∧ w'.cell? ⟨b, o + k * 10 + 7, none⟩ = some (.string x.1.b.t) ∧ w'.cell? ⟨b, o + k * 10 + 8, none⟩ = some (.slice x.1.b.la x.1.b.ll x.1.b.lc) ∧ w'.cell? ⟨b, o + k * 10 + 9, none⟩ = some (.slice x.1.b.fa x.1.b.fl x.1.b.fc)) := hid fun w' h => by
          have h1 := HUP5.out _ (HBR.out.trans (h.mono HBR.out.size))
          obtain ⟨x0, x1, x2, x3, x4, x5, x6, x7, x8, x9⟩ := (HXC.out.same (h1.block b HB.out)).m
          exact ⟨x0, x1, x2, x3, x4, x5, x6, x7, x8, x9⟩
        go_upto_region 11 with (fail)
        refine wp_region_split 14 (fun w' => Below ws.heap.size ws w') (by kernel_rfl) (by kernel_rfl) (by kernel_rfl) (by decide) ((Below.refl _ _).drew) (fun hS => ?_)
        simp only [List.take_succ_cons, List.take_zero, List.drop_succ_cons, List.drop_zero]
        refine wpAnyH_take (i := 0) (oi := _) (v := ?_) rfl (by kernel_rfl) (by kernel_rfl) (by kernel_rfl) (fun _ _ _ h => h) (Or.inl ⟨by rfl, ?_⟩) hS ?_
        rotate_left
        · intro w' hw'
          have hcells := HC11.out w' hw'
          go_simp
          (try with_reducible rfl)
        simp only [Act.put, List.getElem_toArray, List.getElem_cons_succ, List.getElem_cons_zero, List.setIfInBounds_toArray, List.set_cons_zero, List.set_cons_succ]
        refine wpAnyH_take (i := 1) (oi := _) (v := ?_) rfl (by kernel_rfl) (by kernel_rfl) (by kernel_rfl) (fun _ _ _ h => h) (Or.inl ⟨by rfl, ?_⟩) hS ?_
        rotate_left
        · intro w' hw'
          have hcells := HC11.out w' hw'
          go_simp
          (try with_reducible rfl)
        simp only [Act.put, List.getElem_toArray, List.getElem_cons_succ, List.getElem_cons_zero, List.setIfInBounds_toArray, List.set_cons_zero, List.set_cons_succ]
        refine wpAnyH_take (i := 2) (oi := _) (v := ?_) rfl (by kernel_rfl) (by kernel_rfl) (by kernel_rfl) (fun _ _ _ h => h) (Or.inl ⟨by rfl, ?_⟩) hS ?_
        rotate_left
        · intro w' hw'
          have hcells := HC11.out w' hw'
          go_simp
          (try with_reducible rfl)
        simp only [Act.put, List.getElem_toArray, List.getElem_cons_succ, List.getElem_cons_zero, List.setIfInBounds_toArray, List.set_cons_zero, List.set_cons_succ]
        refine wpAnyH_take (i := 3) (oi := _) (v := ?_) rfl (by kernel_rfl) (by kernel_rfl) (by kernel_rfl) (fun _ _ _ h => h) (Or.inl ⟨by rfl, ?_⟩) hS ?_
        rotate_left
        · intro w' hw'
          have hcells := HC11.out w' hw'
          go_simp
          (try with_reducible rfl)
        simp only [Act.put, List.getElem_toArray, List.getElem_cons_succ, List.getElem_cons_zero, List.setIfInBounds_toArray, List.set_cons_zero, List.set_cons_succ]
        refine wpAnyH_take (i := 4) (oi := _) (v := ?_) rfl (by kernel_rfl) (by kernel_rfl) (by kernel_rfl) (fun _ _ _ h => h) (Or.inl ⟨by rfl, ?_⟩) hS ?_
        rotate_left
        · intro w' hw'
          have hcells := HC11.out w' hw'
          go_simp
          (try with_reducible rfl)
        simp only [Act.put, List.getElem_toArray, List.getElem_cons_succ, List.getElem_cons_zero, List.setIfInBounds_toArray, List.set_cons_zero, List.set_cons_succ]
        refine wpAnyH_take (i := 5) (oi := _) (v := ?_) rfl (by kernel_rfl) (by kernel_rfl) (by kernel_rfl) (fun _ _ _ h => h) (Or.inl ⟨by rfl, ?_⟩) hS ?_
        rotate_left
        · intro w' hw'
          have hcells := HC11.out w' hw'
          go_simp
          (try with_reducible rfl)
        simp only [Act.put, List.getElem_toArray, List.getElem_cons_succ, List.getElem_cons_zero, List.setIfInBounds_toArray, List.set_cons_zero, List.set_cons_succ]
        refine wpAnyH_take (i := 6) (oi := _) (v := ?_) rfl (by kernel_rfl) (by kernel_rfl) (by kernel_rfl) (fun _ _ _ h => h) (Or.inl ⟨by rfl, ?_⟩) hS ?_
        rotate_left
        · intro w' hw'
          have hcells := HC11.out w' hw'
          go_simp
          (try with_reducible rfl)
        simp only [Act.put, List.getElem_toArray, List.getElem_cons_succ, List.getElem_cons_zero, List.setIfInBounds_toArray, List.set_cons_zero, List.set_cons_succ]
        refine wpAnyH_take (i := 7) (oi := _) (v := ?_) rfl (by kernel_rfl) (by kernel_rfl) (by kernel_rfl) (fun _ _ _ h => h) (Or.inl ⟨by rfl, ?_⟩) hS ?_
        rotate_left
        · intro w' hw'
          have hcells := HC11.out w' hw'
          go_simp
          (try with_reducible rfl)
        simp only [Act.put, List.getElem_toArray, List.getElem_cons_succ, List.getElem_cons_zero, List.setIfInBounds_toArray, List.set_cons_zero, List.set_cons_succ]
        refine wpAnyH_take (i := 9) (oi := _) (v := ?_) rfl (by kernel_rfl) (by kernel_rfl) (by kernel_rfl) (fun _ _ _ h => h) (Or.inl ⟨by rfl, ?_⟩) hS ?_
        rotate_left
        · intro w' hw'
          have hcells := HC11.out w' hw'
          go_simp
          (try with_reducible rfl)
        simp only [Act.put, List.getElem_toArray, List.getElem_cons_succ, List.getElem_cons_zero, List.setIfInBounds_toArray, List.set_cons_zero, List.set_cons_succ]
        refine wpAnyH_take (i := 10) (oi := _) (v := ?_) rfl (by kernel_rfl) (by kernel_rfl) (by kernel_rfl) (fun _ _ _ h => h) (Or.inl ⟨by rfl, ?_⟩) hS ?_
        rotate_left
        · intro w' hw'
          have hcells := HC11.out w' hw'
          go_simp
          (try with_reducible rfl)
        simp only [Act.put, List.getElem_toArray, List.getElem_cons_succ, List.getElem_cons_zero, List.setIfInBounds_toArray, List.set_cons_zero, List.set_cons_succ]
        refine wpAnyH_take (i := 11) (oi := _) (v := ?_) rfl (by kernel_rfl) (by kernel_rfl) (by kernel_rfl) (fun _ _ _ h => h) (Or.inl ⟨by rfl, ?_⟩) hS ?_
        rotate_left
        · intro w' hw'
          have hcells := HC11.out w' hw'
          go_simp
          (try with_reducible rfl)
        simp only [Act.put, List.getElem_toArray, List.getElem_cons_succ, List.getElem_cons_zero, List.setIfInBounds_toArray, List.set_cons_zero, List.set_cons_succ]
        refine wpAnyH_ready (rs := [8]) (by kernel_rfl) (by simp) ?_
        refine AllReadyH.cons (o := _) rfl (fun K hK => ?_) AllReadyH.nil
        go_simp
        obtain ⟨wB, hwB⟩ : ∃ u, u = (ws.alloc (.cells #[.int .i64 x.1.st.e, .slice x.1.st.a x.1.st.n x.1.st.c, .int .i64 x.1.m, .slice x.1.a x.1.n x.1.c, .int .i64 x.1.b.k, .int .i64 x.1.b.i, .int .i64 x.1.b.s, .string x.1.b.t, .slice x.1.b.la x.1.b.ll x.1.b.lc, .slice x.1.b.fa x.1.b.fl x.1.b.fc] 30)).drew := ⟨_, rfl⟩
        rw [← hwB]
        have hBB : Below ws.heap.size ws wB := by rw [hwB]; exact ((Below.refl _ _).alloc (Nat.le_refl _) _).drew
        have hCB : wB.heap[ws.heap.size]? = some (.cells #[.int .i64 x.1.st.e, .slice x.1.st.a x.1.st.n x.1.st.c, .int .i64 x.1.m, .slice x.1.a x.1.n x.1.c, .int .i64 x.1.b.k, .int .i64 x.1.b.i, .int .i64 x.1.b.s, .string x.1.b.t, .slice x.1.b.la x.1.b.ll x.1.b.lc, .slice x.1.b.fa x.1.b.fl x.1.b.fc] 30) := by rw [hwB]; exact heap_alloc_new ws _
        obtain ⟨nb, hnb⟩ : ∃ u, u = ws.heap.size := ⟨_, rfl⟩
        rw [← hnb] at hCB
        (try rw [← hnb])
        have HCB := hid hCB
        have HBB := hid hBB
        have HNB := hid hnb
        clear hwB hnb hBB hCB
        refine hK.out _ _ (HBB.out) (fun hS => ?_)
        clear hK K
        (try simp only [Act.put, List.getElem_toArray, List.getElem_cons_succ, List.getElem_cons_zero, List.setIfInBounds_toArray, List.set_cons_zero, List.set_cons_succ])
        refine wpAnyH_ready (rs := [12]) (by kernel_rfl) (by simp) ?_
        refine AllReadyH.cons (o := _) rfl (fun K hK => ?_) AllReadyH.nil
        have hcl : Cl msgK wB (some ⟨nb, 0, none⟩) 1 [x.1] := ⟨rfl, .inr ⟨_, rfl, fun t u hu => (by simp only [List.flatMap_cons, List.flatMap_nil, List.append_nil] at hu; exact World.news_of_block HCB.out t u hu)⟩⟩
        obtain ⟨cap1, o1, hrun, hrow, hcap⟩ := run_grow (K := msgK) (P := Tryz.prog) (ty := _) Tryz.underlying36 hi hz0 (by rw [hz1]) (by rw [hz2]; omega) rfl ONE.out (some ⟨nb, 0, none⟩) 1 1 [x.1] hcl (some ⟨g, 0, none⟩) k cap (A.map Prod.fst) (HCD.out wB HBB.out) (by omega) (by omega)
        refine step_append_run (by rfl) _ _ _ (by rfl) _ _ _ _ (by rfl) (by rfl) hrun ?_
        have HRC := hid hrow
        obtain ⟨wC, hwC⟩ : ∃ u, u = wB.drew.alloc o1 := ⟨_, rfl⟩
        rw [← hwC] at HRC ⊢
        have HBC := hid (show Below ws.heap.size ws wC by rw [hwC]; exact (HBB.out.drew).alloc HBB.out.size _)
        obtain ⟨nc, hnc⟩ : ∃ u, u = wB.heap.size := ⟨_, rfl⟩
        rw [← hnc] at HRC
        (try rw [← hnc])
        clear hwC hnc hrow hcap hrun hcl
        refine hK.out _ _ (HBC.out) (fun hS => ?_)
        clear hK K
        (try simp only [Act.put, List.getElem_toArray, List.getElem_cons_succ, List.getElem_cons_zero, List.setIfInBounds_toArray, List.set_cons_zero, List.set_cons_succ])
        refine wpAnyH_ready (rs := [13]) (by kernel_rfl) (by simp) ?_
        refine AllReadyH.cons (o := _) rfl (fun K hK => ?_) AllReadyH.nil
        have hcl := HRC.out.cl 0 (1 + k) (by simp; have := HAL.out; omega)
        rw [Nat.zero_mul, List.drop_zero, List.take_of_length_le (by simp; have := HAL.out; omega)] at hcl
        obtain ⟨cap', oN, hrun, hrow, hcap⟩ := run_grow (K := msgK) (P := Tryz.prog) (ty := _) Tryz.underlying36 hi hz0 (by rw [hz1]) (by rw [hz2]; omega) rfl ONE.out (some ⟨g, 0, none⟩) 0 0 [] (Cl.none _ _) (some ⟨nc, 0, none⟩) (1 + k) cap1 _ hcl (by omega) (by omega)
        refine step_append_run (by rfl) _ _ _ (by rfl) _ _ _ _ (by rfl) (by rfl) hrun ?_
        have HROW := hid hrow
        have HCAP := hid hcap
        obtain ⟨wN, hwN⟩ : ∃ u, u = wC.drew.alloc oN := ⟨_, rfl⟩
        rw [← hwN] at HROW ⊢
        have hBN : Below wC.heap.size wC wN := by rw [hwN]; exact ((Below.refl _ _).drew).alloc (Nat.le_refl _) _
        clear hwN hrow hcap hrun hcl
        refine hK.out _ _ (hS.trans (hBN.mono hS.size)) (fun hS => ?_)
        clear hK K
        (try simp only [Act.put, List.getElem_toArray, List.getElem_cons_succ, List.getElem_cons_zero, List.setIfInBounds_toArray, List.set_cons_zero, List.set_cons_succ])
        refine wpAnyH_done (by kernel_rfl) ?_ _
        (try dsimp only)
        have HS := hid hS
        clear hS
        go_wp2
        go_roundw
        case rel =>
          have hAl := HAL.out
          refine ⟨k + 1, _, rfl, by omega, by go_num, HBR.out.trans (HS.out.mono HBR.out.size), .inr ⟨wC.heap.size, cap', ?_, ?_, ?_⟩⟩
          · rw [show 0 + (1 + k) = k + 1 by omega]
          · have := HCAP.out; exact ⟨by omega, by omega⟩
          · rw [HSX.out]
            have h := HROW.out; rw [List.nil_append, List.cons_append, List.nil_append] at h; exact h
        case measure => simp [intOf]; omega
      · obtain ⟨q, hq⟩ : ∃ q, j = q + 1 := ⟨j - 1, by omega⟩
        have hwr : IntKind.i64.wrap ((j : Int) - 1) = (j : Int) - 1 := IntWalk.i64_in _ (by omega)
        have hj1 : (0 : Int) ≤ (j : Int) - 1 := by omega
        have hj2 : (1 : Int) ≤ (j : Int) := by omega
        have hj3 : 1 ≤ j := by omega
        have hj4 : (j : Int) - 1 < (k : Int) := by omega
        have hj6 : (0 : Int) < (j : Int) := by omega
        have hjd : decide ((0 : Int) < (j : Int)) = true := decide_eq_true hj6
        have hjd2 : decide (0 < j) = true := decide_eq_true (by omega)
        have hj7 : (0 : Int) ≤ (j : Int) := by omega
        have hj00 : ¬ j = 0 := by omega
        have hjt : j - 1 = q := by omega
        have hqA : q < A.length := by have := HAL.out; omega
        obtain ⟨y, hy⟩ : ∃ y, y = A[q] := ⟨_, rfl⟩
        obtain ⟨cc, hcc⟩ : ∃ cc, cc = cmpSt y.2.st x.2.st := ⟨_, rfl⟩
        have HYI := hid (show IsMsg (· < w.heap.size) w y.1 y.2 from HAI.out y (by rw [hy]; exact List.getElem_mem hqA))
        have HC9 : Hid (∀ w', Below ws.heap.size ws w' → (w'.cell? ⟨g, (j - 1) * 10, none⟩ = some (.int .i64 y.1.st.e) ∧ w'.cell? ⟨g, (j - 1) * 10 + 1, none⟩ = some (.slice y.1.st.a y.1.st.n y.1.st.c)) ∧ (w'.cell? ⟨b, o + k * 10, none⟩ = some (.int .i64 x.1.st.e) ∧ w'.cell? ⟨b, o + k * 10 + 1, none⟩ = some (.slice x.1.st.a x.1.st.n x.1.st.c))) := hid fun w' h => by
          have a2 := (HRW.out.ext h).at' q (by rw [List.length_map]; exact hqA)
          rw [List.getElem_map, ← hy] at a2
          have h1 := HUP5.out _ (HBR.out.trans (h.mono HBR.out.size))
          have a1 := HXC.out.same (h1.block b HB.out)
          rw [hjt]
          exact ⟨⟨a2 0 (by decide), a2 1 (by decide)⟩, a1 0 (by decide), a1 1 (by decide)⟩
        have HCM : Hid (∀ w', Below ws.heap.size ws w' → Calls Tryz.prog 49 #[.agg #[.int .i64 y.1.st.e, .slice y.1.st.a y.1.st.n y.1.st.c], .agg #[.int .i64 x.1.st.e, .slice x.1.st.a x.1.st.n x.1.st.c]] w' fun e w2 => e = .returned (.int .i64 cc) ∧ Below w'.heap.size w' w2) := hid fun w' h => by
          have h1 := HUP5.out _ (HBR.out.trans (h.mono HBR.out.size))
          have hs := h1.size
          rw [hcc]
          exact stCompare_call y.1.st x.1.st _ _ w' (HYI.out.st.same fun b q => ⟨by omega, h1.block b q⟩) (HXI.out.st.same fun b q => ⟨by omega, h1.block b q⟩)
        have HLT : Hid (∀ (h : q < A.length), ltM x (A[q]'h) = decide (0 < cc)) := hid fun h => by
          rw [hcc, hy]
          show decide (cmpSt x.2.st A[q].2.st < 0) = _
          rw [cmpSt_anti A[q].2.st x.2.st]
          rw [Bool.eq_iff_iff, decide_eq_true_iff, decide_eq_true_iff]
          omega
        have HQ := hid hq
        clear hy hcc hjt hq hqA
        by_cases hcn : 0 < cc
        · go_upto_region 9 with (fail)
          refine wp_region_split 17 (fun w' => Below ws.heap.size ws w') (by kernel_rfl) (by kernel_rfl) (by kernel_rfl) (by decide) ((Below.refl _ _).drew) (fun hS => ?_)
          simp only [List.take_succ_cons, List.take_zero, List.drop_succ_cons, List.drop_zero]
          refine wpAnyH_take (i := 0) (oi := _) (v := ?_) rfl (by kernel_rfl) (by kernel_rfl) (by kernel_rfl) (fun _ _ _ h => h) (Or.inl ⟨by rfl, ?_⟩) hS ?_
          rotate_left
          · intro w' hw'
            have hcells := HC9.out w' hw'
            go_simp
            (try with_reducible rfl)
          simp only [Act.put, List.getElem_toArray, List.getElem_cons_succ, List.getElem_cons_zero, List.setIfInBounds_toArray, List.set_cons_zero, List.set_cons_succ]
          refine wpAnyH_take (i := 1) (oi := _) (v := ?_) rfl (by kernel_rfl) (by kernel_rfl) (by kernel_rfl) (fun _ _ _ h => h) (Or.inl ⟨by rfl, ?_⟩) hS ?_
          rotate_left
          · intro w' hw'
            have hcells := HC9.out w' hw'
            go_simp
            (try with_reducible rfl)
          simp only [Act.put, List.getElem_toArray, List.getElem_cons_succ, List.getElem_cons_zero, List.setIfInBounds_toArray, List.set_cons_zero, List.set_cons_succ]
          refine wpAnyH_take (i := 2) (oi := _) (v := ?_) rfl (by kernel_rfl) (by kernel_rfl) (by kernel_rfl) (fun _ _ _ h => h) (Or.inl ⟨by rfl, ?_⟩) hS ?_
          rotate_left
          · intro w' hw'
            have hcells := HC9.out w' hw'
            go_simp
            (try with_reducible rfl)
          simp only [Act.put, List.getElem_toArray, List.getElem_cons_succ, List.getElem_cons_zero, List.setIfInBounds_toArray, List.set_cons_zero, List.set_cons_succ]
          refine wpAnyH_take (i := 3) (oi := _) (v := ?_) rfl (by kernel_rfl) (by kernel_rfl) (by kernel_rfl) (fun _ _ _ h => h) (Or.inl ⟨by rfl, ?_⟩) hS ?_
          rotate_left
          · intro w' hw'
            have hcells := HC9.out w' hw'
            go_simp
            (try with_reducible rfl)
          simp only [Act.put, List.getElem_toArray, List.getElem_cons_succ, List.getElem_cons_zero, List.setIfInBounds_toArray, List.set_cons_zero, List.set_cons_succ]
          refine wpAnyH_take (i := 4) (oi := _) (v := ?_) rfl (by kernel_rfl) (by kernel_rfl) (by kernel_rfl) (fun _ _ _ h => h) (Or.inl ⟨by rfl, ?_⟩) hS ?_
          rotate_left
          · intro w' hw'
            have hcells := HC9.out w' hw'
            go_simp
            (try with_reducible rfl)
          simp only [Act.put, List.getElem_toArray, List.getElem_cons_succ, List.getElem_cons_zero, List.setIfInBounds_toArray, List.set_cons_zero, List.set_cons_succ]
          refine wpAnyH_take (i := 5) (oi := _) (v := ?_) rfl (by kernel_rfl) (by kernel_rfl) (by kernel_rfl) (fun _ _ _ h => h) (Or.inl ⟨by rfl, ?_⟩) hS ?_
          rotate_left
          · intro w' hw'
            have hcells := HC9.out w' hw'
            go_simp
            (try with_reducible rfl)
          simp only [Act.put, List.getElem_toArray, List.getElem_cons_succ, List.getElem_cons_zero, List.setIfInBounds_toArray, List.set_cons_zero, List.set_cons_succ]
          refine wpAnyH_take (i := 6) (oi := _) (v := ?_) rfl (by kernel_rfl) (by kernel_rfl) (by kernel_rfl) (fun _ _ _ h => h) (Or.inl ⟨by rfl, ?_⟩) hS ?_
          rotate_left
          · intro w' hw'
            have hcells := HC9.out w' hw'
            go_simp
            (try with_reducible rfl)
          simp only [Act.put, List.getElem_toArray, List.getElem_cons_succ, List.getElem_cons_zero, List.setIfInBounds_toArray, List.set_cons_zero, List.set_cons_succ]
          refine wpAnyH_take (i := 7) (oi := _) (v := ?_) rfl (by kernel_rfl) (by kernel_rfl) (by kernel_rfl) (fun _ _ _ h => h) (Or.inl ⟨by rfl, ?_⟩) hS ?_
          rotate_left
          · intro w' hw'
            have hcells := HC9.out w' hw'
            go_simp
            (try with_reducible rfl)
          simp only [Act.put, List.getElem_toArray, List.getElem_cons_succ, List.getElem_cons_zero, List.setIfInBounds_toArray, List.set_cons_zero, List.set_cons_succ]
          refine wpAnyH_take (i := 8) (oi := _) (v := ?_) rfl (by kernel_rfl) (by kernel_rfl) (by kernel_rfl) (fun _ _ _ h => h) (Or.inl ⟨by rfl, ?_⟩) hS ?_
          rotate_left
          · intro w' hw'
            have hcells := HC9.out w' hw'
            go_simp
            (try with_reducible rfl)
          simp only [Act.put, List.getElem_toArray, List.getElem_cons_succ, List.getElem_cons_zero, List.setIfInBounds_toArray, List.set_cons_zero, List.set_cons_succ]
          refine wpAnyH_take (i := 9) (oi := _) (v := ?_) rfl (by kernel_rfl) (by kernel_rfl) (by kernel_rfl) (fun _ _ _ h => h) (Or.inl ⟨by rfl, ?_⟩) hS ?_
          rotate_left
          · intro w' hw'
            have hcells := HC9.out w' hw'
            go_simp
            (try with_reducible rfl)
          simp only [Act.put, List.getElem_toArray, List.getElem_cons_succ, List.getElem_cons_zero, List.setIfInBounds_toArray, List.set_cons_zero, List.set_cons_succ]
          refine wpAnyH_take (i := 10) (oi := _) (v := ?_) rfl (by kernel_rfl) (by kernel_rfl) (by kernel_rfl) (fun _ _ _ h => h) (Or.inl ⟨by rfl, ?_⟩) hS ?_
          rotate_left
          · intro w' hw'
            have hcells := HC9.out w' hw'
            go_simp
            (try with_reducible rfl)
          simp only [Act.put, List.getElem_toArray, List.getElem_cons_succ, List.getElem_cons_zero, List.setIfInBounds_toArray, List.set_cons_zero, List.set_cons_succ]
          refine wpAnyH_take (i := 11) (oi := _) (v := ?_) rfl (by kernel_rfl) (by kernel_rfl) (by kernel_rfl) (fun _ _ _ h => h) (Or.inl ⟨by rfl, ?_⟩) hS ?_
          rotate_left
          · intro w' hw'
            have hcells := HC9.out w' hw'
            go_simp
            (try with_reducible rfl)
          simp only [Act.put, List.getElem_toArray, List.getElem_cons_succ, List.getElem_cons_zero, List.setIfInBounds_toArray, List.set_cons_zero, List.set_cons_succ]
          refine wpAnyH_take (i := 12) (oi := _) (v := ?_) rfl (by kernel_rfl) (by kernel_rfl) (by kernel_rfl) (fun _ _ _ h => h) (Or.inl ⟨by rfl, ?_⟩) hS ?_
          rotate_left
          · intro w' hw'
            have hcells := HC9.out w' hw'
            go_simp
            (try with_reducible rfl)
          simp only [Act.put, List.getElem_toArray, List.getElem_cons_succ, List.getElem_cons_zero, List.setIfInBounds_toArray, List.set_cons_zero, List.set_cons_succ]
          refine wpAnyH_take (i := 13) (oi := _) (v := ?_) rfl (by kernel_rfl) (by kernel_rfl) (by kernel_rfl) (fun _ _ _ h => h) (Or.inl ⟨by rfl, ?_⟩) hS ?_
          rotate_left
          · intro w' hw'
            have hcells := HC9.out w' hw'
            go_simp
            (try with_reducible rfl)
          simp only [Act.put, List.getElem_toArray, List.getElem_cons_succ, List.getElem_cons_zero, List.setIfInBounds_toArray, List.set_cons_zero, List.set_cons_succ]
          refine wpAnyH_ready (rs := [14]) (by kernel_rfl) (by simp) ?_
          refine AllReadyH.cons (o := _) rfl (fun K hK => ?_) AllReadyH.nil
          go_simp; go_at_call 49; refine (HCM.out _ hS).mono ?_
          rintro e w4 ⟨rfl, hb4⟩
          refine hK.out _ _ (hS.trans (hb4.mono hS.size)) (fun hS => ?_)
          clear hK K
          (try simp only [Act.put, List.getElem_toArray, List.getElem_cons_succ, List.getElem_cons_zero, List.setIfInBounds_toArray, List.set_cons_zero, List.set_cons_succ])
          refine wpAnyH_take (i := 15) (oi := _) (v := ?_) rfl (by kernel_rfl) (by kernel_rfl) (by kernel_rfl) (fun _ _ _ h => h) (Or.inl ⟨by rfl, ?_⟩) hS ?_
          rotate_left
          · intro w' hw'
            have hcells := HC9.out w' hw'
            go_simp
            (try with_reducible rfl)
          simp only [Act.put, List.getElem_toArray, List.getElem_cons_succ, List.getElem_cons_zero, List.setIfInBounds_toArray, List.set_cons_zero, List.set_cons_succ]
          refine wpAnyH_take (i := 16) (oi := _) (v := ?_) rfl (by kernel_rfl) (by kernel_rfl) (by kernel_rfl) (fun _ _ _ h => h) (Or.inl ⟨by rfl, ?_⟩) hS ?_
          rotate_left
          · intro w' hw'
            have hcells := HC9.out w' hw'
            go_simp
            (try with_reducible rfl)
          simp only [Act.put, List.getElem_toArray, List.getElem_cons_succ, List.getElem_cons_zero, List.setIfInBounds_toArray, List.set_cons_zero, List.set_cons_succ]
          refine wpAnyH_done (by kernel_rfl) ?_ _
          (try dsimp only)
          have HS9 := hid hS
          clear hS
          go_wp2
          go_roundw
          case rel =>
            have hq := HQ.out
            have hqA : q < A.length := by have := HAL.out; have := HJK.out; omega
            exact ⟨q, by have := HJK.out; omega, by go_num, HBR.out.trans (HS9.out.mono HBR.out.size), HRW.out.ext HS9.out, by rw [HSC.out, hq, scanP_pass hqA (by rw [HLT.out hqA]; exact decide_eq_true hcn)]⟩
          case measure => simp [intOf]; omega
        · have hcn' : cc ≤ 0 := by omega
          have HSX := hid (show (sortT ltM ps (k + 1)).map Prod.fst = (A.take j).map Prod.fst ++ x.1 :: (A.drop j).map Prod.fst by
            have hq := HQ.out
            have hqA : q < A.length := by have := HAL.out; have := HJK.out; omega
            rw [HNX.out, insL_of (j := j) (by rw [HSC.out, hq, scanP_stop hqA (by rw [HLT.out hqA]; exact decide_eq_false hcn)])]; simp)
          by_cases hje : j = k
          · subst hje
            go_upto_region 9 with (fail)
            refine wp_region_split 17 (fun w' => Below ws.heap.size ws w') (by kernel_rfl) (by kernel_rfl) (by kernel_rfl) (by decide) ((Below.refl _ _).drew) (fun hS => ?_)
            simp only [List.take_succ_cons, List.take_zero, List.drop_succ_cons, List.drop_zero]
            refine wpAnyH_take (i := 0) (oi := _) (v := ?_) rfl (by kernel_rfl) (by kernel_rfl) (by kernel_rfl) (fun _ _ _ h => h) (Or.inl ⟨by rfl, ?_⟩) hS ?_
            rotate_left
            · intro w' hw'
              have hcells := HC9.out w' hw'
              go_simp
              (try with_reducible rfl)
            simp only [Act.put, List.getElem_toArray, List.getElem_cons_succ, List.getElem_cons_zero, List.setIfInBounds_toArray, List.set_cons_zero, List.set_cons_succ]
            refine wpAnyH_take (i := 1) (oi := _) (v := ?_) rfl (by kernel_rfl) (by kernel_rfl) (by kernel_rfl) (fun _ _ _ h => h) (Or.inl ⟨by rfl, ?_⟩) hS ?_
            rotate_left
            · intro w' hw'
              have hcells := HC9.out w' hw'
              go_simp
              (try with_reducible rfl)
            simp only [Act.put, List.getElem_toArray, List.getElem_cons_succ, List.getElem_cons_zero, List.setIfInBounds_toArray, List.set_cons_zero, List.set_cons_succ]
            refine wpAnyH_take (i := 2) (oi := _) (v := ?_) rfl (by kernel_rfl) (by kernel_rfl) (by kernel_rfl) (fun _ _ _ h => h) (Or.inl ⟨by rfl, ?_⟩) hS ?_
            rotate_left
            · intro w' hw'
              have hcells := HC9.out w' hw'
              go_simp
              (try with_reducible rfl)
            simp only [Act.put, List.getElem_toArray, List.getElem_cons_succ, List.getElem_cons_zero, List.setIfInBounds_toArray, List.set_cons_zero, List.set_cons_succ]
            refine wpAnyH_take (i := 3) (oi := _) (v := ?_) rfl (by kernel_rfl) (by kernel_rfl) (by kernel_rfl) (fun _ _ _ h => h) (Or.inl ⟨by rfl, ?_⟩) hS ?_
            rotate_left
            · intro w' hw'
              have hcells := HC9.out w' hw'
              go_simp
              (try with_reducible rfl)
            simp only [Act.put, List.getElem_toArray, List.getElem_cons_succ, List.getElem_cons_zero, List.setIfInBounds_toArray, List.set_cons_zero, List.set_cons_succ]
            refine wpAnyH_take (i := 4) (oi := _) (v := ?_) rfl (by kernel_rfl) (by kernel_rfl) (by kernel_rfl) (fun _ _ _ h => h) (Or.inl ⟨by rfl, ?_⟩) hS ?_
            rotate_left
            · intro w' hw'
              have hcells := HC9.out w' hw'
              go_simp
              (try with_reducible rfl)
            simp only [Act.put, List.getElem_toArray, List.getElem_cons_succ, List.getElem_cons_zero, List.setIfInBounds_toArray, List.set_cons_zero, List.set_cons_succ]
            refine wpAnyH_take (i := 5) (oi := _) (v := ?_) rfl (by kernel_rfl) (by kernel_rfl) (by kernel_rfl) (fun _ _ _ h => h) (Or.inl ⟨by rfl, ?_⟩) hS ?_
            rotate_left
            · intro w' hw'
              have hcells := HC9.out w' hw'
              go_simp
              (try with_reducible rfl)
            simp only [Act.put, List.getElem_toArray, List.getElem_cons_succ, List.getElem_cons_zero, List.setIfInBounds_toArray, List.set_cons_zero, List.set_cons_succ]
            refine wpAnyH_take (i := 6) (oi := _) (v := ?_) rfl (by kernel_rfl) (by kernel_rfl) (by kernel_rfl) (fun _ _ _ h => h) (Or.inl ⟨by rfl, ?_⟩) hS ?_
            rotate_left
            · intro w' hw'
              have hcells := HC9.out w' hw'
              go_simp
              (try with_reducible rfl)
            simp only [Act.put, List.getElem_toArray, List.getElem_cons_succ, List.getElem_cons_zero, List.setIfInBounds_toArray, List.set_cons_zero, List.set_cons_succ]
            refine wpAnyH_take (i := 7) (oi := _) (v := ?_) rfl (by kernel_rfl) (by kernel_rfl) (by kernel_rfl) (fun _ _ _ h => h) (Or.inl ⟨by rfl, ?_⟩) hS ?_
            rotate_left
            · intro w' hw'
              have hcells := HC9.out w' hw'
              go_simp
              (try with_reducible rfl)
            simp only [Act.put, List.getElem_toArray, List.getElem_cons_succ, List.getElem_cons_zero, List.setIfInBounds_toArray, List.set_cons_zero, List.set_cons_succ]
            refine wpAnyH_take (i := 8) (oi := _) (v := ?_) rfl (by kernel_rfl) (by kernel_rfl) (by kernel_rfl) (fun _ _ _ h => h) (Or.inl ⟨by rfl, ?_⟩) hS ?_
            rotate_left
            · intro w' hw'
              have hcells := HC9.out w' hw'
              go_simp
              (try with_reducible rfl)
            simp only [Act.put, List.getElem_toArray, List.getElem_cons_succ, List.getElem_cons_zero, List.setIfInBounds_toArray, List.set_cons_zero, List.set_cons_succ]
            refine wpAnyH_take (i := 9) (oi := _) (v := ?_) rfl (by kernel_rfl) (by kernel_rfl) (by kernel_rfl) (fun _ _ _ h => h) (Or.inl ⟨by rfl, ?_⟩) hS ?_
            rotate_left
            · intro w' hw'
              have hcells := HC9.out w' hw'
              go_simp
              (try with_reducible rfl)
            simp only [Act.put, List.getElem_toArray, List.getElem_cons_succ, List.getElem_cons_zero, List.setIfInBounds_toArray, List.set_cons_zero, List.set_cons_succ]
            refine wpAnyH_take (i := 10) (oi := _) (v := ?_) rfl (by kernel_rfl) (by kernel_rfl) (by kernel_rfl) (fun _ _ _ h => h) (Or.inl ⟨by rfl, ?_⟩) hS ?_
            rotate_left
            · intro w' hw'
              have hcells := HC9.out w' hw'
              go_simp
              (try with_reducible rfl)
            simp only [Act.put, List.getElem_toArray, List.getElem_cons_succ, List.getElem_cons_zero, List.setIfInBounds_toArray, List.set_cons_zero, List.set_cons_succ]
            refine wpAnyH_take (i := 11) (oi := _) (v := ?_) rfl (by kernel_rfl) (by kernel_rfl) (by kernel_rfl) (fun _ _ _ h => h) (Or.inl ⟨by rfl, ?_⟩) hS ?_
            rotate_left
            · intro w' hw'
              have hcells := HC9.out w' hw'
              go_simp
              (try with_reducible rfl)
            simp only [Act.put, List.getElem_toArray, List.getElem_cons_succ, List.getElem_cons_zero, List.setIfInBounds_toArray, List.set_cons_zero, List.set_cons_succ]
            refine wpAnyH_take (i := 12) (oi := _) (v := ?_) rfl (by kernel_rfl) (by kernel_rfl) (by kernel_rfl) (fun _ _ _ h => h) (Or.inl ⟨by rfl, ?_⟩) hS ?_
            rotate_left
            · intro w' hw'
              have hcells := HC9.out w' hw'
              go_simp
              (try with_reducible rfl)
            simp only [Act.put, List.getElem_toArray, List.getElem_cons_succ, List.getElem_cons_zero, List.setIfInBounds_toArray, List.set_cons_zero, List.set_cons_succ]
            refine wpAnyH_take (i := 13) (oi := _) (v := ?_) rfl (by kernel_rfl) (by kernel_rfl) (by kernel_rfl) (fun _ _ _ h => h) (Or.inl ⟨by rfl, ?_⟩) hS ?_
            rotate_left
            · intro w' hw'
              have hcells := HC9.out w' hw'
              go_simp
              (try with_reducible rfl)
            simp only [Act.put, List.getElem_toArray, List.getElem_cons_succ, List.getElem_cons_zero, List.setIfInBounds_toArray, List.set_cons_zero, List.set_cons_succ]
            refine wpAnyH_ready (rs := [14]) (by kernel_rfl) (by simp) ?_
            refine AllReadyH.cons (o := _) rfl (fun K hK => ?_) AllReadyH.nil
            go_simp; go_at_call 49; refine (HCM.out _ hS).mono ?_
            rintro e w4 ⟨rfl, hb4⟩
            refine hK.out _ _ (hS.trans (hb4.mono hS.size)) (fun hS => ?_)
            clear hK K
            (try simp only [Act.put, List.getElem_toArray, List.getElem_cons_succ, List.getElem_cons_zero, List.setIfInBounds_toArray, List.set_cons_zero, List.set_cons_succ])
            refine wpAnyH_take (i := 15) (oi := _) (v := ?_) rfl (by kernel_rfl) (by kernel_rfl) (by kernel_rfl) (fun _ _ _ h => h) (Or.inl ⟨by rfl, ?_⟩) hS ?_
            rotate_left
            · intro w' hw'
              have hcells := HC9.out w' hw'
              go_simp
              (try with_reducible rfl)
            simp only [Act.put, List.getElem_toArray, List.getElem_cons_succ, List.getElem_cons_zero, List.setIfInBounds_toArray, List.set_cons_zero, List.set_cons_succ]
            refine wpAnyH_take (i := 16) (oi := _) (v := ?_) rfl (by kernel_rfl) (by kernel_rfl) (by kernel_rfl) (fun _ _ _ h => h) (Or.inl ⟨by rfl, ?_⟩) hS ?_
            rotate_left
            · intro w' hw'
              have hcells := HC9.out w' hw'
              go_simp
              (try with_reducible rfl)
            simp only [Act.put, List.getElem_toArray, List.getElem_cons_succ, List.getElem_cons_zero, List.setIfInBounds_toArray, List.set_cons_zero, List.set_cons_succ]
            refine wpAnyH_done (by kernel_rfl) ?_ _
            (try dsimp only)
            have HS9 := hid hS
            clear hS
            obtain ⟨wv, hwv⟩ : ∃ wv, wv = w4 := ⟨_, rfl⟩
            rw [← hwv] at HS9 ⊢
            have HBV := hid (HBR.out.trans (HS9.out.mono HBR.out.size))
            have HRV := hid (HRW.out.ext HS9.out)
            clear hwv HS9 HBR HRW HC9X
            obtain ⟨ws, hws⟩ : ∃ ws, ws = wv := ⟨_, rfl⟩
            rw [← hws] at HBV HRV ⊢
            clear hws
            have HBR := HBV
            have HRW := HRV
            obtain ⟨wv, hwv⟩ : ∃ wv, wv = ws := ⟨_, rfl⟩
            have HCA : Hid (∀ w', Below ws.heap.size ws w' → Cl msgK w' (some ⟨g, 0, none⟩) j ((A.take j).map Prod.fst)) := hid fun w' h => by
              have h1 := (HRW.out.ext h).cl 0 j (by rw [List.length_map]; have := HAL.out; have := HJK.out; omega)
              rw [Nat.zero_mul, List.drop_zero, ← List.map_take] at h1
              exact h1
            have HCD : Hid (∀ w', Below ws.heap.size ws w' → Cl msgK w' (some ⟨g, j * 10, none⟩) (j - j) ((A.drop j).map Prod.fst)) := hid fun w' h => by
              have h1 := (HRW.out.ext h).cl j (j - j) (by rw [List.length_map]; have := HAL.out; have := HJK.out; omega)
              rw [← List.map_drop, List.take_of_length_le (by rw [List.length_map, List.length_drop]; have := HAL.out; omega)] at h1
              exact h1
            have HC11 : Hid (∀ w', Below ws.heap.size ws w' → w'.cell? ⟨b, o + j * 10, none⟩ = some (.int .i64 x.1.st.e) ∧ w'.cell? ⟨b, o + j * 10 + 1, none⟩ = some (.slice x.1.st.a x.1.st.n x.1.st.c) ∧ w'.cell? ⟨b, o + j * 10 + 2, none⟩ = some (.int .i64 x.1.m) ∧ w'.cell? ⟨b, o + j * 10 + 3, none⟩ = some (.slice x.1.a x.1.n x.1.c) ∧ w'.cell? ⟨b, o + j * 10 + 4, none⟩ = some (.int .i64 x.1.b.k) ∧ w'.cell? ⟨b, o + j * 10 + 5, none⟩ = some (.int .i64 x.1.b.i) ∧ w'.cell? ⟨b, o + j * 10 + 6, none⟩ = some (.int .i64 x.1.b.s) ∧ w'.cell? ⟨b, o + j * 10 + 7, none⟩ = some (.string x.1.b.t) ∧ w'.cell? ⟨b, o + j * 10 + 8, none⟩ = some (.slice x.1.b.la x.1.b.ll x.1.b.lc) ∧ w'.cell? ⟨b, o + j * 10 + 9, none⟩ = some (.slice x.1.b.fa x.1.b.fl x.1.b.fc)) := hid fun w' h => by
              have h1 := HUP5.out _ (HBR.out.trans (h.mono HBR.out.size))
              obtain ⟨x0, x1, x2, x3, x4, x5, x6, x7, x8, x9⟩ := (HXC.out.same (h1.block b HB.out)).m
              exact ⟨x0, x1, x2, x3, x4, x5, x6, x7, x8, x9⟩
            clear hwv
            go_upto_region 11 with (fail)
            refine wp_region_split 14 (fun w' => Below ws.heap.size ws w') (by kernel_rfl) (by kernel_rfl) (by kernel_rfl) (by decide) ((Below.refl _ _).drew) (fun hS => ?_)
            simp only [List.take_succ_cons, List.take_zero, List.drop_succ_cons, List.drop_zero]
            refine wpAnyH_take (i := 0) (oi := _) (v := ?_) rfl (by kernel_rfl) (by kernel_rfl) (by kernel_rfl) (fun _ _ _ h => h) (Or.inl ⟨by rfl, ?_⟩) hS ?_
            rotate_left
            · intro w' hw'
              have hcells := HC11.out w' hw'
              go_simp
              (try with_reducible rfl)
            simp only [Act.put, List.getElem_toArray, List.getElem_cons_succ, List.getElem_cons_zero, List.setIfInBounds_toArray, List.set_cons_zero, List.set_cons_succ]
            refine wpAnyH_take (i := 1) (oi := _) (v := ?_) rfl (by kernel_rfl) (by kernel_rfl) (by kernel_rfl) (fun _ _ _ h => h) (Or.inl ⟨by rfl, ?_⟩) hS ?_
            rotate_left
            · intro w' hw'
              have hcells := HC11.out w' hw'
              go_simp
              (try with_reducible rfl)
            simp only [Act.put, List.getElem_toArray, List.getElem_cons_succ, List.getElem_cons_zero, List.setIfInBounds_toArray, List.set_cons_zero, List.set_cons_succ]
            refine wpAnyH_take (i := 2) (oi := _) (v := ?_) rfl (by kernel_rfl) (by kernel_rfl) (by kernel_rfl) (fun _ _ _ h => h) (Or.inl ⟨by rfl, ?_⟩) hS ?_
            rotate_left
            · intro w' hw'
              have hcells := HC11.out w' hw'
              go_simp
              (try with_reducible rfl)
            simp only [Act.put, List.getElem_toArray, List.getElem_cons_succ, List.getElem_cons_zero, List.setIfInBounds_toArray, List.set_cons_zero, List.set_cons_succ]
            refine wpAnyH_take (i := 3) (oi := _) (v := ?_) rfl (by kernel_rfl) (by kernel_rfl) (by kernel_rfl) (fun _ _ _ h => h) (Or.inl ⟨by rfl, ?_⟩) hS ?_
            rotate_left
            · intro w' hw'
              have hcells := HC11.out w' hw'
              go_simp
              (try with_reducible rfl)
            simp only [Act.put, List.getElem_toArray, List.getElem_cons_succ, List.getElem_cons_zero, List.setIfInBounds_toArray, List.set_cons_zero, List.set_cons_succ]
            refine wpAnyH_take (i := 4) (oi := _) (v := ?_) rfl (by kernel_rfl) (by kernel_rfl) (by kernel_rfl) (fun _ _ _ h => h) (Or.inl ⟨by rfl, ?_⟩) hS ?_
            rotate_left
            · intro w' hw'
              have hcells := HC11.out w' hw'
              go_simp
              (try with_reducible rfl)
            simp only [Act.put, List.getElem_toArray, List.getElem_cons_succ, List.getElem_cons_zero, List.setIfInBounds_toArray, List.set_cons_zero, List.set_cons_succ]
            refine wpAnyH_take (i := 5) (oi := _) (v := ?_) rfl (by kernel_rfl) (by kernel_rfl) (by kernel_rfl) (fun _ _ _ h => h) (Or.inl ⟨by rfl, ?_⟩) hS ?_
            rotate_left
            · intro w' hw'
              have hcells := HC11.out w' hw'
              go_simp
              (try with_reducible rfl)
            simp only [Act.put, List.getElem_toArray, List.getElem_cons_succ, List.getElem_cons_zero, List.setIfInBounds_toArray, List.set_cons_zero, List.set_cons_succ]
            refine wpAnyH_take (i := 6) (oi := _) (v := ?_) rfl (by kernel_rfl) (by kernel_rfl) (by kernel_rfl) (fun _ _ _ h => h) (Or.inl ⟨by rfl, ?_⟩) hS ?_
            rotate_left
            · intro w' hw'
              have hcells := HC11.out w' hw'
              go_simp
              (try with_reducible rfl)
            simp only [Act.put, List.getElem_toArray, List.getElem_cons_succ, List.getElem_cons_zero, List.setIfInBounds_toArray, List.set_cons_zero, List.set_cons_succ]
            refine wpAnyH_take (i := 7) (oi := _) (v := ?_) rfl (by kernel_rfl) (by kernel_rfl) (by kernel_rfl) (fun _ _ _ h => h) (Or.inl ⟨by rfl, ?_⟩) hS ?_
            rotate_left
            · intro w' hw'
              have hcells := HC11.out w' hw'
              go_simp
              (try with_reducible rfl)
            simp only [Act.put, List.getElem_toArray, List.getElem_cons_succ, List.getElem_cons_zero, List.setIfInBounds_toArray, List.set_cons_zero, List.set_cons_succ]
            refine wpAnyH_take (i := 9) (oi := _) (v := ?_) rfl (by kernel_rfl) (by kernel_rfl) (by kernel_rfl) (fun _ _ _ h => h) (Or.inl ⟨by rfl, ?_⟩) hS ?_
            rotate_left
            · intro w' hw'
              have hcells := HC11.out w' hw'
              go_simp
              (try with_reducible rfl)
            simp only [Act.put, List.getElem_toArray, List.getElem_cons_succ, List.getElem_cons_zero, List.setIfInBounds_toArray, List.set_cons_zero, List.set_cons_succ]
            refine wpAnyH_take (i := 10) (oi := _) (v := ?_) rfl (by kernel_rfl) (by kernel_rfl) (by kernel_rfl) (fun _ _ _ h => h) (Or.inl ⟨by rfl, ?_⟩) hS ?_
            rotate_left
            · intro w' hw'
              have hcells := HC11.out w' hw'
              go_simp
              (try with_reducible rfl)
            simp only [Act.put, List.getElem_toArray, List.getElem_cons_succ, List.getElem_cons_zero, List.setIfInBounds_toArray, List.set_cons_zero, List.set_cons_succ]
            refine wpAnyH_take (i := 11) (oi := _) (v := ?_) rfl (by kernel_rfl) (by kernel_rfl) (by kernel_rfl) (fun _ _ _ h => h) (Or.inl ⟨by rfl, ?_⟩) hS ?_
            rotate_left
            · intro w' hw'
              have hcells := HC11.out w' hw'
              go_simp
              (try with_reducible rfl)
            simp only [Act.put, List.getElem_toArray, List.getElem_cons_succ, List.getElem_cons_zero, List.setIfInBounds_toArray, List.set_cons_zero, List.set_cons_succ]
            refine wpAnyH_ready (rs := [8]) (by kernel_rfl) (by simp) ?_
            refine AllReadyH.cons (o := _) rfl (fun K hK => ?_) AllReadyH.nil
            go_simp
            obtain ⟨wB, hwB⟩ : ∃ u, u = (ws.alloc (.cells #[.int .i64 x.1.st.e, .slice x.1.st.a x.1.st.n x.1.st.c, .int .i64 x.1.m, .slice x.1.a x.1.n x.1.c, .int .i64 x.1.b.k, .int .i64 x.1.b.i, .int .i64 x.1.b.s, .string x.1.b.t, .slice x.1.b.la x.1.b.ll x.1.b.lc, .slice x.1.b.fa x.1.b.fl x.1.b.fc] 30)).drew := ⟨_, rfl⟩
            rw [← hwB]
            have hBB : Below ws.heap.size ws wB := by rw [hwB]; exact ((Below.refl _ _).alloc (Nat.le_refl _) _).drew
            have hCB : wB.heap[ws.heap.size]? = some (.cells #[.int .i64 x.1.st.e, .slice x.1.st.a x.1.st.n x.1.st.c, .int .i64 x.1.m, .slice x.1.a x.1.n x.1.c, .int .i64 x.1.b.k, .int .i64 x.1.b.i, .int .i64 x.1.b.s, .string x.1.b.t, .slice x.1.b.la x.1.b.ll x.1.b.lc, .slice x.1.b.fa x.1.b.fl x.1.b.fc] 30) := by rw [hwB]; exact heap_alloc_new ws _
            obtain ⟨nb, hnb⟩ : ∃ u, u = ws.heap.size := ⟨_, rfl⟩
            rw [← hnb] at hCB
            (try rw [← hnb])
            have HCB := hid hCB
            have HBB := hid hBB
            have HNB := hid hnb
            clear hwB hnb hBB hCB
            refine hK.out _ _ (HBB.out) (fun hS => ?_)
            clear hK K
            (try simp only [Act.put, List.getElem_toArray, List.getElem_cons_succ, List.getElem_cons_zero, List.setIfInBounds_toArray, List.set_cons_zero, List.set_cons_succ])
            refine wpAnyH_ready (rs := [12]) (by kernel_rfl) (by simp) ?_
            refine AllReadyH.cons (o := _) rfl (fun K hK => ?_) AllReadyH.nil
            refine step_append_run (by rfl) _ _ _ (by rfl) (.slice (some ⟨nb, 0, none⟩) 1 1) _ (.slice (some ⟨nb, 0, none⟩) 1 1) wB (by rfl) (by rfl) (run_append_nothing (P := Tryz.prog) wB _ _ _ _ ti Tryz.underlying36 hi _ 1 1 (Nat.le_refl 1) _ (src0 Tryz.underlying36 _ _)) ?_
            refine hK.out _ _ (hS) (fun hS => ?_)
            clear hK K
            (try simp only [Act.put, List.getElem_toArray, List.getElem_cons_succ, List.getElem_cons_zero, List.setIfInBounds_toArray, List.set_cons_zero, List.set_cons_succ])
            refine wpAnyH_ready (rs := [13]) (by kernel_rfl) (by simp) ?_
            refine AllReadyH.cons (o := _) rfl (fun K hK => ?_) AllReadyH.nil
            have hcl : Cl msgK wB (some ⟨nb, 0, none⟩) 1 [x.1] := ⟨rfl, .inr ⟨_, rfl, fun t u hu => (by simp only [List.flatMap_cons, List.flatMap_nil, List.append_nil] at hu; exact World.news_of_block HCB.out t u hu)⟩⟩
            obtain ⟨cap', oN, hrun, hrow, hcap⟩ := run_grow (K := msgK) (P := Tryz.prog) (ty := _) Tryz.underlying36 hi hz0 (by rw [hz1]) (by rw [hz2]; omega) rfl ONE.out (some ⟨g, 0, none⟩) j j ((A.take j).map Prod.fst) (HCA.out wB HBB.out) (some ⟨nb, 0, none⟩) 1 1 [x.1] hcl (by omega) (by omega)
            refine step_append_run (by rfl) _ _ _ (by rfl) _ _ _ _ (by rfl) (by rfl) hrun ?_
            have HROW := hid hrow
            have HCAP := hid hcap
            obtain ⟨wN, hwN⟩ : ∃ u, u = wB.drew.alloc oN := ⟨_, rfl⟩
            rw [← hwN] at HROW ⊢
            have hBN : Below wB.heap.size wB wN := by rw [hwN]; exact ((Below.refl _ _).drew).alloc (Nat.le_refl _) _
            clear hwN hrow hcap hrun hcl
            refine hK.out _ _ (hS.trans (hBN.mono hS.size)) (fun hS => ?_)
            clear hK K
            (try simp only [Act.put, List.getElem_toArray, List.getElem_cons_succ, List.getElem_cons_zero, List.setIfInBounds_toArray, List.set_cons_zero, List.set_cons_succ])
            refine wpAnyH_done (by kernel_rfl) ?_ _
            (try dsimp only)
            have HS := hid hS
            clear hS
            go_wp2
            go_roundw
            case rel =>
              have hAl := HAL.out
              have hk1 := (Nat.le_refl j)
              refine ⟨j + 1, _, rfl, by omega, by go_num, HBR.out.trans (HS.out.mono HBR.out.size), .inr ⟨wB.heap.size, cap', ?_, ?_, ?_⟩⟩
              · rfl
              · have := HCAP.out; exact ⟨by omega, by omega⟩
              · rw [HSX.out]
                have h := HROW.out; rw [List.drop_eq_nil_of_le (show A.length ≤ j by omega), List.map_nil]; exact h
            case measure => simp [intOf]; omega
          · have hjk2 : (j : Int) < (k : Int) := by omega
            have hcj : ¬ cap = j := by omega
            have hcj2 : ¬ j = cap := by omega
            go_upto_region 9 with (fail)
            refine wp_region_split 17 (fun w' => Below ws.heap.size ws w') (by kernel_rfl) (by kernel_rfl) (by kernel_rfl) (by decide) ((Below.refl _ _).drew) (fun hS => ?_)
            simp only [List.take_succ_cons, List.take_zero, List.drop_succ_cons, List.drop_zero]
            refine wpAnyH_take (i := 0) (oi := _) (v := ?_) rfl (by kernel_rfl) (by kernel_rfl) (by kernel_rfl) (fun _ _ _ h => h) (Or.inl ⟨by rfl, ?_⟩) hS ?_
            rotate_left
            · intro w' hw'
              have hcells := HC9.out w' hw'
              go_simp
              (try with_reducible rfl)
            simp only [Act.put, List.getElem_toArray, List.getElem_cons_succ, List.getElem_cons_zero, List.setIfInBounds_toArray, List.set_cons_zero, List.set_cons_succ]
            refine wpAnyH_take (i := 1) (oi := _) (v := ?_) rfl (by kernel_rfl) (by kernel_rfl) (by kernel_rfl) (fun _ _ _ h => h) (Or.inl ⟨by rfl, ?_⟩) hS ?_
            rotate_left
            · intro w' hw'
              have hcells := HC9.out w' hw'
              go_simp
              (try with_reducible rfl)
            simp only [Act.put, List.getElem_toArray, List.getElem_cons_succ, List.getElem_cons_zero, List.setIfInBounds_toArray, List.set_cons_zero, List.set_cons_succ]
            refine wpAnyH_take (i := 2) (oi := _) (v := ?_) rfl (by kernel_rfl) (by kernel_rfl) (by kernel_rfl) (fun _ _ _ h => h) (Or.inl ⟨by rfl, ?_⟩) hS ?_
            rotate_left
            · intro w' hw'
              have hcells := HC9.out w' hw'
              go_simp
              (try with_reducible rfl)
            simp only [Act.put, List.getElem_toArray, List.getElem_cons_succ, List.getElem_cons_zero, List.setIfInBounds_toArray, List.set_cons_zero, List.set_cons_succ]
            refine wpAnyH_take (i := 3) (oi := _) (v := ?_) rfl (by kernel_rfl) (by kernel_rfl) (by kernel_rfl) (fun _ _ _ h => h) (Or.inl ⟨by rfl, ?_⟩) hS ?_
            rotate_left
            · intro w' hw'
              have hcells := HC9.out w' hw'
              go_simp
              (try with_reducible rfl)
            simp only [Act.put, List.getElem_toArray, List.getElem_cons_succ, List.getElem_cons_zero, List.setIfInBounds_toArray, List.set_cons_zero, List.set_cons_succ]
            refine wpAnyH_take (i := 4) (oi := _) (v := ?_) rfl (by kernel_rfl) (by kernel_rfl) (by kernel_rfl) (fun _ _ _ h => h) (Or.inl ⟨by rfl, ?_⟩) hS ?_
            rotate_left
            · intro w' hw'
              have hcells := HC9.out w' hw'
              go_simp
              (try with_reducible rfl)
            simp only [Act.put, List.getElem_toArray, List.getElem_cons_succ, List.getElem_cons_zero, List.setIfInBounds_toArray, List.set_cons_zero, List.set_cons_succ]
            refine wpAnyH_take (i := 5) (oi := _) (v := ?_) rfl (by kernel_rfl) (by kernel_rfl) (by kernel_rfl) (fun _ _ _ h => h) (Or.inl ⟨by rfl, ?_⟩) hS ?_
            rotate_left
            · intro w' hw'
              have hcells := HC9.out w' hw'
              go_simp
              (try with_reducible rfl)
            simp only [Act.put, List.getElem_toArray, List.getElem_cons_succ, List.getElem_cons_zero, List.setIfInBounds_toArray, List.set_cons_zero, List.set_cons_succ]
            refine wpAnyH_take (i := 6) (oi := _) (v := ?_) rfl (by kernel_rfl) (by kernel_rfl) (by kernel_rfl) (fun _ _ _ h => h) (Or.inl ⟨by rfl, ?_⟩) hS ?_
            rotate_left
            · intro w' hw'
              have hcells := HC9.out w' hw'
              go_simp
              (try with_reducible rfl)
            simp only [Act.put, List.getElem_toArray, List.getElem_cons_succ, List.getElem_cons_zero, List.setIfInBounds_toArray, List.set_cons_zero, List.set_cons_succ]
            refine wpAnyH_take (i := 7) (oi := _) (v := ?_) rfl (by kernel_rfl) (by kernel_rfl) (by kernel_rfl) (fun _ _ _ h => h) (Or.inl ⟨by rfl, ?_⟩) hS ?_
            rotate_left
            · intro w' hw'
              have hcells := HC9.out w' hw'
              go_simp
              (try with_reducible rfl)
            simp only [Act.put, List.getElem_toArray, List.getElem_cons_succ, List.getElem_cons_zero, List.setIfInBounds_toArray, List.set_cons_zero, List.set_cons_succ]
            refine wpAnyH_take (i := 8) (oi := _) (v := ?_) rfl (by kernel_rfl) (by kernel_rfl) (by kernel_rfl) (fun _ _ _ h => h) (Or.inl ⟨by rfl, ?_⟩) hS ?_
            rotate_left
            · intro w' hw'
              have hcells := HC9.out w' hw'
              go_simp
              (try with_reducible rfl)
            simp only [Act.put, List.getElem_toArray, List.getElem_cons_succ, List.getElem_cons_zero, List.setIfInBounds_toArray, List.set_cons_zero, List.set_cons_succ]
            refine wpAnyH_take (i := 9) (oi := _) (v := ?_) rfl (by kernel_rfl) (by kernel_rfl) (by kernel_rfl) (fun _ _ _ h => h) (Or.inl ⟨by rfl, ?_⟩) hS ?_
            rotate_left
            · intro w' hw'
              have hcells := HC9.out w' hw'
              go_simp
              (try with_reducible rfl)
            simp only [Act.put, List.getElem_toArray, List.getElem_cons_succ, List.getElem_cons_zero, List.setIfInBounds_toArray, List.set_cons_zero, List.set_cons_succ]
            refine wpAnyH_take (i := 10) (oi := _) (v := ?_) rfl (by kernel_rfl) (by kernel_rfl) (by kernel_rfl) (fun _ _ _ h => h) (Or.inl ⟨by rfl, ?_⟩) hS ?_
            rotate_left
            · intro w' hw'
              have hcells := HC9.out w' hw'
              go_simp
              (try with_reducible rfl)
            simp only [Act.put, List.getElem_toArray, List.getElem_cons_succ, List.getElem_cons_zero, List.setIfInBounds_toArray, List.set_cons_zero, List.set_cons_succ]
            refine wpAnyH_take (i := 11) (oi := _) (v := ?_) rfl (by kernel_rfl) (by kernel_rfl) (by kernel_rfl) (fun _ _ _ h => h) (Or.inl ⟨by rfl, ?_⟩) hS ?_
            rotate_left
            · intro w' hw'
              have hcells := HC9.out w' hw'
              go_simp
              (try with_reducible rfl)
            simp only [Act.put, List.getElem_toArray, List.getElem_cons_succ, List.getElem_cons_zero, List.setIfInBounds_toArray, List.set_cons_zero, List.set_cons_succ]
            refine wpAnyH_take (i := 12) (oi := _) (v := ?_) rfl (by kernel_rfl) (by kernel_rfl) (by kernel_rfl) (fun _ _ _ h => h) (Or.inl ⟨by rfl, ?_⟩) hS ?_
            rotate_left
            · intro w' hw'
              have hcells := HC9.out w' hw'
              go_simp
              (try with_reducible rfl)
            simp only [Act.put, List.getElem_toArray, List.getElem_cons_succ, List.getElem_cons_zero, List.setIfInBounds_toArray, List.set_cons_zero, List.set_cons_succ]
            refine wpAnyH_take (i := 13) (oi := _) (v := ?_) rfl (by kernel_rfl) (by kernel_rfl) (by kernel_rfl) (fun _ _ _ h => h) (Or.inl ⟨by rfl, ?_⟩) hS ?_
            rotate_left
            · intro w' hw'
              have hcells := HC9.out w' hw'
              go_simp
              (try with_reducible rfl)
            simp only [Act.put, List.getElem_toArray, List.getElem_cons_succ, List.getElem_cons_zero, List.setIfInBounds_toArray, List.set_cons_zero, List.set_cons_succ]
            refine wpAnyH_ready (rs := [14]) (by kernel_rfl) (by simp) ?_
            refine AllReadyH.cons (o := _) rfl (fun K hK => ?_) AllReadyH.nil
            go_simp; go_at_call 49; refine (HCM.out _ hS).mono ?_
            rintro e w4 ⟨rfl, hb4⟩
            refine hK.out _ _ (hS.trans (hb4.mono hS.size)) (fun hS => ?_)
            clear hK K
            (try simp only [Act.put, List.getElem_toArray, List.getElem_cons_succ, List.getElem_cons_zero, List.setIfInBounds_toArray, List.set_cons_zero, List.set_cons_succ])
            refine wpAnyH_take (i := 15) (oi := _) (v := ?_) rfl (by kernel_rfl) (by kernel_rfl) (by kernel_rfl) (fun _ _ _ h => h) (Or.inl ⟨by rfl, ?_⟩) hS ?_
            rotate_left
            · intro w' hw'
              have hcells := HC9.out w' hw'
              go_simp
              (try with_reducible rfl)
            simp only [Act.put, List.getElem_toArray, List.getElem_cons_succ, List.getElem_cons_zero, List.setIfInBounds_toArray, List.set_cons_zero, List.set_cons_succ]
            refine wpAnyH_take (i := 16) (oi := _) (v := ?_) rfl (by kernel_rfl) (by kernel_rfl) (by kernel_rfl) (fun _ _ _ h => h) (Or.inl ⟨by rfl, ?_⟩) hS ?_
            rotate_left
            · intro w' hw'
              have hcells := HC9.out w' hw'
              go_simp
              (try with_reducible rfl)
            simp only [Act.put, List.getElem_toArray, List.getElem_cons_succ, List.getElem_cons_zero, List.setIfInBounds_toArray, List.set_cons_zero, List.set_cons_succ]
            refine wpAnyH_done (by kernel_rfl) ?_ _
            (try dsimp only)
            have HS9 := hid hS
            clear hS
            obtain ⟨wv, hwv⟩ : ∃ wv, wv = w4 := ⟨_, rfl⟩
            rw [← hwv] at HS9 ⊢
            have HBV := hid (HBR.out.trans (HS9.out.mono HBR.out.size))
            have HRV := hid (HRW.out.ext HS9.out)
            clear hwv HS9 HBR HRW HC9X
            obtain ⟨ws, hws⟩ : ∃ ws, ws = wv := ⟨_, rfl⟩
            rw [← hws] at HBV HRV ⊢
            clear hws
            have HBR := HBV
            have HRW := HRV
            obtain ⟨wv, hwv⟩ : ∃ wv, wv = ws := ⟨_, rfl⟩
            have HCA : Hid (∀ w', Below ws.heap.size ws w' → Cl msgK w' (some ⟨g, 0, none⟩) j ((A.take j).map Prod.fst)) := hid fun w' h => by
              have h1 := (HRW.out.ext h).cl 0 j (by rw [List.length_map]; have := HAL.out; have := HJK.out; omega)
              rw [Nat.zero_mul, List.drop_zero, ← List.map_take] at h1
              exact h1
            have HCD : Hid (∀ w', Below ws.heap.size ws w' → Cl msgK w' (some ⟨g, j * 10, none⟩) (k - j) ((A.drop j).map Prod.fst)) := hid fun w' h => by
              have h1 := (HRW.out.ext h).cl j (k - j) (by rw [List.length_map]; have := HAL.out; have := HJK.out; omega)
              rw [← List.map_drop, List.take_of_length_le (by rw [List.length_map, List.length_drop]; have := HAL.out; omega)] at h1
              exact h1
            have HC11 : Hid (∀ w', Below ws.heap.size ws w' → w'.cell? ⟨b, o + k * 10, none⟩ = some (.int .i64 x.1.st.e) ∧ w'.cell? ⟨b, o + k * 10 + 1, none⟩ = some (.slice x.1.st.a x.1.st.n x.1.st.c) ∧ w'.cell? ⟨b, o + k * 10 + 2, none⟩ = some (.int .i64 x.1.m) ∧ w'.cell? ⟨b, o + k * 10 + 3, none⟩ = some (.slice x.1.a x.1.n x.1.c) ∧ w'.cell? ⟨b, o + k * 10 + 4, none⟩ = some (.int .i64 x.1.b.k) ∧ w'.cell? ⟨b, o + k * 10 + 5, none⟩ = some (.int .i64 x.1.b.i) ∧ w'.cell? ⟨b, o + k * 10 + 6, none⟩ = some (.int .i64 x.1.b.s) ∧ w'.cell? ⟨b, o + k * 10 + 7, none⟩ = some (.string x.1.b.t) ∧ w'.cell? ⟨b, o + k * 10 + 8, none⟩ = some (.slice x.1.b.la x.1.b.ll x.1.b.lc) ∧ w'.cell? ⟨b, o + k * 10 + 9, none⟩ = some (.slice x.1.b.fa x.1.b.fl x.1.b.fc)) := hid fun w' h => by
              have h1 := HUP5.out _ (HBR.out.trans (h.mono HBR.out.size))
              obtain ⟨x0, x1, x2, x3, x4, x5, x6, x7, x8, x9⟩ := (HXC.out.same (h1.block b HB.out)).m
              exact ⟨x0, x1, x2, x3, x4, x5, x6, x7, x8, x9⟩
            clear hwv
            go_upto_region 11 with (fail)
            refine wp_region_split 14 (fun w' => Below ws.heap.size ws w') (by kernel_rfl) (by kernel_rfl) (by kernel_rfl) (by decide) ((Below.refl _ _).drew) (fun hS => ?_)
            simp only [List.take_succ_cons, List.take_zero, List.drop_succ_cons, List.drop_zero]
            refine wpAnyH_take (i := 0) (oi := _) (v := ?_) rfl (by kernel_rfl) (by kernel_rfl) (by kernel_rfl) (fun _ _ _ h => h) (Or.inl ⟨by rfl, ?_⟩) hS ?_
            rotate_left
            · intro w' hw'
              have hcells := HC11.out w' hw'
              go_simp
              (try with_reducible rfl)
            simp only [Act.put, List.getElem_toArray, List.getElem_cons_succ, List.getElem_cons_zero, List.setIfInBounds_toArray, List.set_cons_zero, List.set_cons_succ]
            refine wpAnyH_take (i := 1) (oi := _) (v := ?_) rfl (by kernel_rfl) (by kernel_rfl) (by kernel_rfl) (fun _ _ _ h => h) (Or.inl ⟨by rfl, ?_⟩) hS ?_
            rotate_left
            · intro w' hw'
              have hcells := HC11.out w' hw'
              go_simp
              (try with_reducible rfl)
            simp only [Act.put, List.getElem_toArray, List.getElem_cons_succ, List.getElem_cons_zero, List.setIfInBounds_toArray, List.set_cons_zero, List.set_cons_succ]
            refine wpAnyH_take (i := 2) (oi := _) (v := ?_) rfl (by kernel_rfl) (by kernel_rfl) (by kernel_rfl) (fun _ _ _ h => h) (Or.inl ⟨by rfl, ?_⟩) hS ?_
            rotate_left
            · intro w' hw'
              have hcells := HC11.out w' hw'
              go_simp
              (try with_reducible rfl)
            simp only [Act.put, List.getElem_toArray, List.getElem_cons_succ, List.getElem_cons_zero, List.setIfInBounds_toArray, List.set_cons_zero, List.set_cons_succ]
            refine wpAnyH_take (i := 3) (oi := _) (v := ?_) rfl (by kernel_rfl) (by kernel_rfl) (by kernel_rfl) (fun _ _ _ h => h) (Or.inl ⟨by rfl, ?_⟩) hS ?_
            rotate_left
            · intro w' hw'
              have hcells := HC11.out w' hw'
              go_simp
              (try with_reducible rfl)
            simp only [Act.put, List.getElem_toArray, List.getElem_cons_succ, List.getElem_cons_zero, List.setIfInBounds_toArray, List.set_cons_zero, List.set_cons_succ]
            refine wpAnyH_take (i := 4) (oi := _) (v := ?_) rfl (by kernel_rfl) (by kernel_rfl) (by kernel_rfl) (fun _ _ _ h => h) (Or.inl ⟨by rfl, ?_⟩) hS ?_
            rotate_left
            · intro w' hw'
              have hcells := HC11.out w' hw'
              go_simp
              (try with_reducible rfl)
            simp only [Act.put, List.getElem_toArray, List.getElem_cons_succ, List.getElem_cons_zero, List.setIfInBounds_toArray, List.set_cons_zero, List.set_cons_succ]
            refine wpAnyH_take (i := 5) (oi := _) (v := ?_) rfl (by kernel_rfl) (by kernel_rfl) (by kernel_rfl) (fun _ _ _ h => h) (Or.inl ⟨by rfl, ?_⟩) hS ?_
            rotate_left
            · intro w' hw'
              have hcells := HC11.out w' hw'
              go_simp
              (try with_reducible rfl)
            simp only [Act.put, List.getElem_toArray, List.getElem_cons_succ, List.getElem_cons_zero, List.setIfInBounds_toArray, List.set_cons_zero, List.set_cons_succ]
            refine wpAnyH_take (i := 6) (oi := _) (v := ?_) rfl (by kernel_rfl) (by kernel_rfl) (by kernel_rfl) (fun _ _ _ h => h) (Or.inl ⟨by rfl, ?_⟩) hS ?_
            rotate_left
            · intro w' hw'
              have hcells := HC11.out w' hw'
              go_simp
              (try with_reducible rfl)
            simp only [Act.put, List.getElem_toArray, List.getElem_cons_succ, List.getElem_cons_zero, List.setIfInBounds_toArray, List.set_cons_zero, List.set_cons_succ]
            refine wpAnyH_take (i := 7) (oi := _) (v := ?_) rfl (by kernel_rfl) (by kernel_rfl) (by kernel_rfl) (fun _ _ _ h => h) (Or.inl ⟨by rfl, ?_⟩) hS ?_
            rotate_left
            · intro w' hw'
              have hcells := HC11.out w' hw'
              go_simp
              (try with_reducible rfl)
            simp only [Act.put, List.getElem_toArray, List.getElem_cons_succ, List.getElem_cons_zero, List.setIfInBounds_toArray, List.set_cons_zero, List.set_cons_succ]
            refine wpAnyH_take (i := 9) (oi := _) (v := ?_) rfl (by kernel_rfl) (by kernel_rfl) (by kernel_rfl) (fun _ _ _ h => h) (Or.inl ⟨by rfl, ?_⟩) hS ?_
            rotate_left
            · intro w' hw'
              have hcells := HC11.out w' hw'
              go_simp
              (try with_reducible rfl)
            simp only [Act.put, List.getElem_toArray, List.getElem_cons_succ, List.getElem_cons_zero, List.setIfInBounds_toArray, List.set_cons_zero, List.set_cons_succ]
            refine wpAnyH_take (i := 10) (oi := _) (v := ?_) rfl (by kernel_rfl) (by kernel_rfl) (by kernel_rfl) (fun _ _ _ h => h) (Or.inl ⟨by rfl, ?_⟩) hS ?_
            rotate_left
            · intro w' hw'
              have hcells := HC11.out w' hw'
              go_simp
              (try with_reducible rfl)
            simp only [Act.put, List.getElem_toArray, List.getElem_cons_succ, List.getElem_cons_zero, List.setIfInBounds_toArray, List.set_cons_zero, List.set_cons_succ]
            refine wpAnyH_take (i := 11) (oi := _) (v := ?_) rfl (by kernel_rfl) (by kernel_rfl) (by kernel_rfl) (fun _ _ _ h => h) (Or.inl ⟨by rfl, ?_⟩) hS ?_
            rotate_left
            · intro w' hw'
              have hcells := HC11.out w' hw'
              go_simp
              (try with_reducible rfl)
            simp only [Act.put, List.getElem_toArray, List.getElem_cons_succ, List.getElem_cons_zero, List.setIfInBounds_toArray, List.set_cons_zero, List.set_cons_succ]
            refine wpAnyH_ready (rs := [8]) (by kernel_rfl) (by simp) ?_
            refine AllReadyH.cons (o := _) rfl (fun K hK => ?_) AllReadyH.nil
            go_simp
            obtain ⟨wB, hwB⟩ : ∃ u, u = (ws.alloc (.cells #[.int .i64 x.1.st.e, .slice x.1.st.a x.1.st.n x.1.st.c, .int .i64 x.1.m, .slice x.1.a x.1.n x.1.c, .int .i64 x.1.b.k, .int .i64 x.1.b.i, .int .i64 x.1.b.s, .string x.1.b.t, .slice x.1.b.la x.1.b.ll x.1.b.lc, .slice x.1.b.fa x.1.b.fl x.1.b.fc] 30)).drew := ⟨_, rfl⟩
            rw [← hwB]
            have hBB : Below ws.heap.size ws wB := by rw [hwB]; exact ((Below.refl _ _).alloc (Nat.le_refl _) _).drew
            have hCB : wB.heap[ws.heap.size]? = some (.cells #[.int .i64 x.1.st.e, .slice x.1.st.a x.1.st.n x.1.st.c, .int .i64 x.1.m, .slice x.1.a x.1.n x.1.c, .int .i64 x.1.b.k, .int .i64 x.1.b.i, .int .i64 x.1.b.s, .string x.1.b.t, .slice x.1.b.la x.1.b.ll x.1.b.lc, .slice x.1.b.fa x.1.b.fl x.1.b.fc] 30) := by rw [hwB]; exact heap_alloc_new ws _
            obtain ⟨nb, hnb⟩ : ∃ u, u = ws.heap.size := ⟨_, rfl⟩
            rw [← hnb] at hCB
            (try rw [← hnb])
            have HCB := hid hCB
            have HBB := hid hBB
            have HNB := hid hnb
            clear hwB hnb hBB hCB
            refine hK.out _ _ (HBB.out) (fun hS => ?_)
            clear hK K
            (try simp only [Act.put, List.getElem_toArray, List.getElem_cons_succ, List.getElem_cons_zero, List.setIfInBounds_toArray, List.set_cons_zero, List.set_cons_succ])
            refine wpAnyH_ready (rs := [12]) (by kernel_rfl) (by simp) ?_
            refine AllReadyH.cons (o := _) rfl (fun K hK => ?_) AllReadyH.nil
            have hcl : Cl msgK wB (some ⟨nb, 0, none⟩) 1 [x.1] := ⟨rfl, .inr ⟨_, rfl, fun t u hu => (by simp only [List.flatMap_cons, List.flatMap_nil, List.append_nil] at hu; exact World.news_of_block HCB.out t u hu)⟩⟩
            obtain ⟨cap1, o1, hrun, hrow, hcap⟩ := run_grow (K := msgK) (P := Tryz.prog) (ty := _) Tryz.underlying36 hi hz0 (by rw [hz1]) (by rw [hz2]; omega) rfl ONE.out (some ⟨nb, 0, none⟩) 1 1 [x.1] hcl (some ⟨g, j * 10, none⟩) (k - j) (cap - j) ((A.drop j).map Prod.fst) (HCD.out wB HBB.out) (by omega) (by omega)
            refine step_append_run (by rfl) _ _ _ (by rfl) _ _ _ _ (by rfl) (by rfl) hrun ?_
            have HRC := hid hrow
            obtain ⟨wC, hwC⟩ : ∃ u, u = wB.drew.alloc o1 := ⟨_, rfl⟩
            rw [← hwC] at HRC ⊢
            have HBC := hid (show Below ws.heap.size ws wC by rw [hwC]; exact (HBB.out.drew).alloc HBB.out.size _)
            obtain ⟨nc, hnc⟩ : ∃ u, u = wB.heap.size := ⟨_, rfl⟩
            rw [← hnc] at HRC
            (try rw [← hnc])
            clear hwC hnc hrow hcap hrun hcl
            refine hK.out _ _ (HBC.out) (fun hS => ?_)
            clear hK K
            (try simp only [Act.put, List.getElem_toArray, List.getElem_cons_succ, List.getElem_cons_zero, List.setIfInBounds_toArray, List.set_cons_zero, List.set_cons_succ])
            refine wpAnyH_ready (rs := [13]) (by kernel_rfl) (by simp) ?_
            refine AllReadyH.cons (o := _) rfl (fun K hK => ?_) AllReadyH.nil
            have hcl := HRC.out.cl 0 (1 + (k - j)) (by simp; have := HAL.out; omega)
            rw [Nat.zero_mul, List.drop_zero, List.take_of_length_le (by simp; have := HAL.out; omega)] at hcl
            obtain ⟨cap', oN, hrun, hrow, hcap⟩ := run_grow (K := msgK) (P := Tryz.prog) (ty := _) Tryz.underlying36 hi hz0 (by rw [hz1]) (by rw [hz2]; omega) rfl ONE.out (some ⟨g, 0, none⟩) j j ((A.take j).map Prod.fst) (HCA.out wC HBC.out) (some ⟨nc, 0, none⟩) (1 + (k - j)) cap1 _ hcl (by omega) (by omega)
            refine step_append_run (by rfl) _ _ _ (by rfl) _ _ _ _ (by rfl) (by rfl) hrun ?_
            have HROW := hid hrow
            have HCAP := hid hcap
            obtain ⟨wN, hwN⟩ : ∃ u, u = wC.drew.alloc oN := ⟨_, rfl⟩
            rw [← hwN] at HROW ⊢
            have hBN : Below wC.heap.size wC wN := by rw [hwN]; exact ((Below.refl _ _).drew).alloc (Nat.le_refl _) _
            clear hwN hrow hcap hrun hcl
            refine hK.out _ _ (hS.trans (hBN.mono hS.size)) (fun hS => ?_)
            clear hK K
            (try simp only [Act.put, List.getElem_toArray, List.getElem_cons_succ, List.getElem_cons_zero, List.setIfInBounds_toArray, List.set_cons_zero, List.set_cons_succ])
            refine wpAnyH_done (by kernel_rfl) ?_ _
            (try dsimp only)
            have HS := hid hS
            clear hS
            go_wp2
            go_roundw
            case rel =>
              have hAl := HAL.out
              have hk1 := HJK.out
              refine ⟨k + 1, _, rfl, by omega, by go_num, HBR.out.trans (HS.out.mono HBR.out.size), .inr ⟨wC.heap.size, cap', ?_, ?_, ?_⟩⟩
              · rw [show j + (1 + (k - j)) = k + 1 by omega]
              · have := HCAP.out; exact ⟨by omega, by omega⟩
              · rw [HSX.out]
                have h := HROW.out; rw [List.cons_append, List.nil_append] at h; exact h
            case measure => simp [intOf]; omega
  · obtain rfl : n = k := by omega
    have HBV := hid hbr
    have HSL := hid (show (sortT ltM ps n).map Prod.snd = sortT ltD l l.length by rw [sortT_map Prod.snd ltM ltD (fun _ _ => rfl), HPM.out, HL.out])
    obtain ⟨av, capv, hve, hcl⟩ : ∃ av capv, v = .slice av n capv ∧ (n = 0 ∨ ∃ g, av = some ⟨g, 0, none⟩ ∧ InRow msgK 30 wr g capv ((sortT ltM ps n).map Prod.fst)) := by
      rcases hv with ⟨h0, h1⟩ | ⟨g, cap, h1, ⟨_, _⟩, h3⟩
      · exact ⟨none, 0, by rw [h1, h0], .inl h0⟩
      · exact ⟨_, cap, h1, .inr ⟨g, rfl, h3⟩⟩
    subst hve
    have HCV := hid hcl
    have h20n : (n : Int) ≤ 20 := by omega
    clear hv hbr hcl
    go_wp2
    obtain ⟨wr0, hwr0⟩ : ∃ wr0, wr0 = wr := ⟨_, rfl⟩
    rw [← hwr0] at HBV HCV ⊢
    clear hwr0
    go_loopw [7] (fun i wr2 => ∃ j : Nat, j ≤ n ∧ i = .int .i64 j ∧ Below wr0.heap.size wr0 wr2) (fun i _ => n - (intOf i).toNat)
    case atStart => exact ⟨0, Nat.zero_le _, rfl, Below.refl _ _⟩
    case round =>
    obtain ⟨j, hj, rfl, hbr⟩ := hrel
    obtain ⟨wz, hwz⟩ : ∃ wz, wz = wr := ⟨_, rfl⟩
    rw [← hwz] at hbr ⊢
    clear hwz
    have HBR := hid hbr
    by_cases hlt : j < n
    · obtain ⟨g, hg, hrw⟩ := HCV.out.resolve_left (by omega)
      subst hg
      have hsl : (sortT ltM ps n).length = n := sortT_len _ _ _ (by have := HPL.out; omega)
      have hjs : j < (sortT ltM ps n).length := by omega
      have hjl : j < (sortT ltD l l.length).length := by rw [← HSL.out, List.length_map]; exact hjs
      obtain ⟨b5, o5, hab5, hb5', hx⟩ := HR5.out.slot (show 0 < n by omega)
      subst hab5
      obtain ⟨x, hxa, hxi⟩ := hx j hjl
      obtain ⟨y, hy⟩ : ∃ y, y = (sortT ltM ps n)[j] := ⟨_, rfl⟩
      obtain ⟨dm, hdm⟩ : ∃ dm, dm = (sortT ltD l l.length)[j] := ⟨_, rfl⟩
      rw [← hdm] at hxi
      have hyd : y.2 = dm := by
        have h1 : ((sortT ltM ps n).map Prod.snd)[j]? = (sortT ltD l l.length)[j]? := by rw [HSL.out]
        rw [List.getElem?_map, List.getElem?_eq_getElem hjs, List.getElem?_eq_getElem hjl, ← hdm, ← hy] at h1
        exact Option.some.inj h1
      have hyi : IsMsg (· < w.heap.size) w y.1 dm := by
        have := HPI.out y (by rw [hy]; exact sortT_in _ _ (List.getElem_mem hjs))
        rw [hyd] at this; exact this
      have HRW := hid hrw
      have HXA := hid (show AtG msgK w5 b5 (o5 + j * 10) x from hxa)
      have hlt' : (j : Int) < (n : Int) := by omega
      have hj0 : (0 : Int) ≤ (j : Int) := by omega
      have HC17 : Hid (∀ w', Below wz.heap.size wz w' → (w'.cell? ⟨b5, o5 + j * 10, none⟩ = some (.int .i64 x.st.e) ∧ w'.cell? ⟨b5, o5 + j * 10 + 1, none⟩ = some (.slice x.st.a x.st.n x.st.c) ∧ w'.cell? ⟨b5, o5 + j * 10 + 2, none⟩ = some (.int .i64 x.m) ∧ w'.cell? ⟨b5, o5 + j * 10 + 3, none⟩ = some (.slice x.a x.n x.c) ∧ w'.cell? ⟨b5, o5 + j * 10 + 4, none⟩ = some (.int .i64 x.b.k) ∧ w'.cell? ⟨b5, o5 + j * 10 + 5, none⟩ = some (.int .i64 x.b.i) ∧ w'.cell? ⟨b5, o5 + j * 10 + 6, none⟩ = some (.int .i64 x.b.s) ∧ w'.cell? ⟨b5, o5 + j * 10 + 7, none⟩ = some (.string x.b.t) ∧ w'.cell? ⟨b5, o5 + j * 10 + 8, none⟩ = some (.slice x.b.la x.b.ll x.b.lc) ∧ w'.cell? ⟨b5, o5 + j * 10 + 9, none⟩ = some (.slice x.b.fa x.b.fl x.b.fc)) ∧ (w'.cell? ⟨g, j * 10, none⟩ = some (.int .i64 y.1.st.e) ∧ w'.cell? ⟨g, j * 10 + 1, none⟩ = some (.slice y.1.st.a y.1.st.n y.1.st.c) ∧ w'.cell? ⟨g, j * 10 + 2, none⟩ = some (.int .i64 y.1.m) ∧ w'.cell? ⟨g, j * 10 + 3, none⟩ = some (.slice y.1.a y.1.n y.1.c) ∧ w'.cell? ⟨g, j * 10 + 4, none⟩ = some (.int .i64 y.1.b.k) ∧ w'.cell? ⟨g, j * 10 + 5, none⟩ = some (.int .i64 y.1.b.i) ∧ w'.cell? ⟨g, j * 10 + 6, none⟩ = some (.int .i64 y.1.b.s) ∧ w'.cell? ⟨g, j * 10 + 7, none⟩ = some (.string y.1.b.t) ∧ w'.cell? ⟨g, j * 10 + 8, none⟩ = some (.slice y.1.b.la y.1.b.ll y.1.b.lc) ∧ w'.cell? ⟨g, j * 10 + 9, none⟩ = some (.slice y.1.b.fa y.1.b.fl y.1.b.fc))) := hid fun w' h => by
        have h1 := HBR.out.trans (h.mono HBR.out.size)
        have h2 := HBV.out.trans (h1.mono HBV.out.size)
        obtain ⟨x0, x1, x2, x3, x4, x5, x6, x7, x8, x9⟩ := (HXA.out.same (h2.block b5 hb5'.2)).m
        have h3 := (HRW.out.ext h1).at' j (by rw [List.length_map]; exact hjs)
        rw [List.getElem_map, ← hy] at h3
        obtain ⟨y0, y1, y2, y3, y4, y5, y6, y7, y8, y9⟩ := h3.m
        exact ⟨⟨x0, x1, x2, x3, x4, x5, x6, x7, x8, x9⟩, ⟨y0, y1, y2, y3, y4, y5, y6, y7, y8, y9⟩⟩
      have HME : Hid (∀ w', Below wz.heap.size wz w' → Calls Tryz.prog 20 #[.agg #[.int .i64 x.st.e, .slice x.st.a x.st.n x.st.c, .int .i64 x.m, .slice x.a x.n x.c, .int .i64 x.b.k, .int .i64 x.b.i, .int .i64 x.b.s, .string x.b.t, .slice x.b.la x.b.ll x.b.lc, .slice x.b.fa x.b.fl x.b.fc], .agg #[.int .i64 y.1.st.e, .slice y.1.st.a y.1.st.n y.1.st.c, .int .i64 y.1.m, .slice y.1.a y.1.n y.1.c, .int .i64 y.1.b.k, .int .i64 y.1.b.i, .int .i64 y.1.b.s, .string y.1.b.t, .slice y.1.b.la y.1.b.ll y.1.b.lc, .slice y.1.b.fa y.1.b.fl y.1.b.fc]] w' fun e w2 => e = .returned (.bool true) ∧ Below w'.heap.size w' w2) := hid fun w' h => by
        have h1 := HBR.out.trans (h.mono HBR.out.size)
        have h2 := HBV.out.trans (h1.mono HBV.out.size)
        have h3 := HUP5.out _ h2
        have hc := same_call x y.1 dm dm w' (hxi.same fun b q => ⟨Nat.lt_of_lt_of_le q.2 h2.size, h2.block b q.2⟩) (hyi.same fun b q => ⟨Nat.lt_of_lt_of_le q h3.size, h3.block b q⟩)
        rw [msgEqB_refl] at hc
        exact hc
      clear hx hxa hxi hyi hy hdm hyd hb5' hrw hbr hjl hjs hsl
      go_upto_region 17 with (fail)
      refine wp_region_split 10 (fun w' => Below wz.heap.size wz w') (by kernel_rfl) (by kernel_rfl) (by kernel_rfl) (by decide) ((Below.refl _ _).drew) (fun hS => ?_)
      simp only [List.take_succ_cons, List.take_zero, List.drop_succ_cons, List.drop_zero]
      refine wpAnyH_take (i := 0) (oi := _) (v := ?_) rfl (by kernel_rfl) (by kernel_rfl) (by kernel_rfl) (fun _ _ _ h => h) (Or.inl ⟨by rfl, ?_⟩) hS ?_
      rotate_left
      · intro w' hw'
        have hcells := HC17.out w' hw'
        go_simp
        (try with_reducible rfl)
      simp only [Act.put, List.getElem_toArray, List.getElem_cons_succ, List.getElem_cons_zero, List.setIfInBounds_toArray, List.set_cons_zero, List.set_cons_succ]
      refine wpAnyH_take (i := 1) (oi := _) (v := ?_) rfl (by kernel_rfl) (by kernel_rfl) (by kernel_rfl) (fun _ _ _ h => h) (Or.inl ⟨by rfl, ?_⟩) hS ?_
      rotate_left
      · intro w' hw'
        have hcells := HC17.out w' hw'
        go_simp
        (try with_reducible rfl)
      simp only [Act.put, List.getElem_toArray, List.getElem_cons_succ, List.getElem_cons_zero, List.setIfInBounds_toArray, List.set_cons_zero, List.set_cons_succ]
      refine wpAnyH_take (i := 2) (oi := _) (v := ?_) rfl (by kernel_rfl) (by kernel_rfl) (by kernel_rfl) (fun _ _ _ h => h) (Or.inl ⟨by rfl, ?_⟩) hS ?_
      rotate_left
      · intro w' hw'
        have hcells := HC17.out w' hw'
        go_simp
        (try with_reducible rfl)
      simp only [Act.put, List.getElem_toArray, List.getElem_cons_succ, List.getElem_cons_zero, List.setIfInBounds_toArray, List.set_cons_zero, List.set_cons_succ]
      refine wpAnyH_take (i := 3) (oi := _) (v := ?_) rfl (by kernel_rfl) (by kernel_rfl) (by kernel_rfl) (fun _ _ _ h => h) (Or.inl ⟨by rfl, ?_⟩) hS ?_
      rotate_left
      · intro w' hw'
        have hcells := HC17.out w' hw'
        go_simp
        (try with_reducible rfl)
      simp only [Act.put, List.getElem_toArray, List.getElem_cons_succ, List.getElem_cons_zero, List.setIfInBounds_toArray, List.set_cons_zero, List.set_cons_succ]
      refine wpAnyH_take (i := 4) (oi := _) (v := ?_) rfl (by kernel_rfl) (by kernel_rfl) (by kernel_rfl) (fun _ _ _ h => h) (Or.inl ⟨by rfl, ?_⟩) hS ?_
      rotate_left
      · intro w' hw'
        have hcells := HC17.out w' hw'
        go_simp
        (try with_reducible rfl)
      simp only [Act.put, List.getElem_toArray, List.getElem_cons_succ, List.getElem_cons_zero, List.setIfInBounds_toArray, List.set_cons_zero, List.set_cons_succ]
      refine wpAnyH_take (i := 5) (oi := _) (v := ?_) rfl (by kernel_rfl) (by kernel_rfl) (by kernel_rfl) (fun _ _ _ h => h) (Or.inl ⟨by rfl, ?_⟩) hS ?_
      rotate_left
      · intro w' hw'
        have hcells := HC17.out w' hw'
        go_simp
        (try with_reducible rfl)
      simp only [Act.put, List.getElem_toArray, List.getElem_cons_succ, List.getElem_cons_zero, List.setIfInBounds_toArray, List.set_cons_zero, List.set_cons_succ]
      refine wpAnyH_take (i := 6) (oi := _) (v := ?_) rfl (by kernel_rfl) (by kernel_rfl) (by kernel_rfl) (fun _ _ _ h => h) (Or.inl ⟨by rfl, ?_⟩) hS ?_
      rotate_left
      · intro w' hw'
        have hcells := HC17.out w' hw'
        go_simp
        (try with_reducible rfl)
      simp only [Act.put, List.getElem_toArray, List.getElem_cons_succ, List.getElem_cons_zero, List.setIfInBounds_toArray, List.set_cons_zero, List.set_cons_succ]
      refine wpAnyH_take (i := 7) (oi := _) (v := ?_) rfl (by kernel_rfl) (by kernel_rfl) (by kernel_rfl) (fun _ _ _ h => h) (Or.inl ⟨by rfl, ?_⟩) hS ?_
      rotate_left
      · intro w' hw'
        have hcells := HC17.out w' hw'
        go_simp
        (try with_reducible rfl)
      simp only [Act.put, List.getElem_toArray, List.getElem_cons_succ, List.getElem_cons_zero, List.setIfInBounds_toArray, List.set_cons_zero, List.set_cons_succ]
      refine wpAnyH_ready (rs := [8]) (by kernel_rfl) (by simp) ?_
      refine AllReadyH.cons (o := _) rfl (fun K hK => ?_) AllReadyH.nil
      go_simp; go_at_call 20; refine (HME.out _ hS).mono ?_
      rintro e wy ⟨rfl, hby⟩
      refine hK.out _ _ (hS.trans (hby.mono hS.size)) (fun hS => ?_)
      clear hK K
      (try simp only [Act.put, List.getElem_toArray, List.getElem_cons_succ, List.getElem_cons_zero, List.setIfInBounds_toArray, List.set_cons_zero, List.set_cons_succ])
      refine wpAnyH_take (i := 9) (oi := _) (v := ?_) rfl (by kernel_rfl) (by kernel_rfl) (by kernel_rfl) (fun _ _ _ h => h) (Or.inl ⟨by rfl, ?_⟩) hS ?_
      rotate_left
      · intro w' hw'
        have hcells := HC17.out w' hw'
        go_simp
        (try with_reducible rfl)
      simp only [Act.put, List.getElem_toArray, List.getElem_cons_succ, List.getElem_cons_zero, List.setIfInBounds_toArray, List.set_cons_zero, List.set_cons_succ]
      refine wpAnyH_done (by kernel_rfl) ?_ _
      (try dsimp only)
      have HBZ := hid hS
      clear hS
      go_wp2
      go_roundw
      case rel => exact ⟨j + 1, by omega, by go_num, HBR.out.trans (HBZ.out.mono HBR.out.size)⟩
      case measure => simp [intOf]; omega
    · obtain rfl : n = j := by omega
      clear hlt
      go_wp2
      go_ret
      exact ⟨rfl, HUP5.out _ (HBV.out.trans (hbr.mono HBV.out.size))⟩
end Go.Proofs.YthjlgpmajeafpaaGreatDoor
