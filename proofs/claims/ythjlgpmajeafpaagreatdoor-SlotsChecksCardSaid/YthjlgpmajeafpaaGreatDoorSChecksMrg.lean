/-
  SlotsChecks returns true. Conditions: the state can be read as data; the number is a byte; Tabs.
-/
import Derived.Test.YthjlgpmajeafpaaGreatDoorLawChkMrg
import Derived.Test.YthjlgpmajeafpaaGreatDoorLineMrg
import Derived.Test.YthjlgpmajeafpaaGreatDoorSmallSMrg
namespace Go.Proofs.YthjlgpmajeafpaaGreatDoor
open Go Go.RowKit Go.Shelf
set_option linter.unusedVariables false
set_option linter.unusedSimpArgs false

theorem infoSlot : (Tryz.prog.info? 58).map (fun i => (i.zero, i.size, i.bytes)) = some (some (.agg #[.int .i64 0, .int .i64 0, .int .i64 0, .string ByteArray.empty, .slice none 0 0, .slice none 0 0, .int .i64 0, .int .i64 0, .slice none 0 0, .slice none 0 0]), 10, 152) := by kernel_rfl

set_option maxRecDepth 100000 in
set_option maxHeartbeats 16000000 in
theorem slotsChecks_call (c : StC) (d : Sta) (m : Int) (w : World) (hd : IsSta (· < w.heap.size) w c d) (hm0 : 0 ≤ m) (hm1 : m ≤ 255) (hT : Tabs w) : Calls Tryz.prog 5 #[c.v, .int .u8 m] w fun e w' => e = .returned (.bool true) ∧ Below w.heap.size w w' := by
  obtain ⟨ti, hi, hz0, hz1, hz2⟩ := info_parts infoSlot
  obtain ⟨sn, st, a, sl, sc⟩ := c
  obtain ⟨n, hn⟩ : ∃ n : Nat, (n : Int) = 1020 + m % 8 := ⟨(1020 + m % 8).toNat, by omega⟩
  have HN := hid hn
  have hn1 : 1020 ≤ n := by omega
  have hn2 : n ≤ 1027 := by omega
  have hm8 : 0 ≤ m % 8 := by omega
  have hm9 : m % 8 ≤ 7 := by omega
  have hA : Below w.heap.size w (w.alloc (.cells #[.int .i64 sn, .int .i64 st, .slice a sl sc] 55)) := (Below.refl _ w).alloc (Nat.le_refl _) _
  have HA := hid hA
  have HT := hid hT
  have HD := hid hd
  have HBX : Hid (∀ w', Below (w.alloc (.cells #[.int .i64 sn, .int .i64 st, .slice a sl sc] 55)).heap.size (w.alloc (.cells #[.int .i64 sn, .int .i64 st, .slice a sl sc] 55)) w' → w'.cell? ⟨w.heap.size, 0, none⟩ = some (.int .i64 sn) ∧ w'.cell? ⟨w.heap.size, 1, none⟩ = some (.int .i64 st) ∧ w'.cell? ⟨w.heap.size, 2, none⟩ = some (.slice a sl sc)) := hid fun w' h => by
    have h1 := heapExt h (heap_alloc_new w (.cells #[.int .i64 sn, .int .i64 st, .slice a sl sc] 55))
    exact ⟨cellOf h1 0, cellOf h1 1, cellOf h1 2⟩
  have HK : Hid (∀ w', Below (w.alloc (.cells #[.int .i64 sn, .int .i64 st, .slice a sl sc] 55)).heap.size (w.alloc (.cells #[.int .i64 sn, .int .i64 st, .slice a sl sc] 55)) w' → Calls Tryz.prog 29 #[] w' fun e w2 => e = .returned (.bool true) ∧ Below w'.heap.size w' w2) := hid fun w' h => knownS_call w' (HT.out.below (HA.out.trans (h.mono HA.out.size)))
  have HST : Hid (∀ w', Below (w.alloc (.cells #[.int .i64 sn, .int .i64 st, .slice a sl sc] 55)).heap.size (w.alloc (.cells #[.int .i64 sn, .int .i64 st, .slice a sl sc] 55)) w' → IsSta (· < w'.heap.size) w' ⟨sn, st, a, sl, sc⟩ d) := hid fun w' h => by
    have hw := HA.out.trans (h.mono HA.out.size)
    have hs := hw.size
    exact HD.out.same fun b q => ⟨by omega, hw.block b q⟩
  have HSM : Hid (∀ w', Below (w.alloc (.cells #[.int .i64 sn, .int .i64 st, .slice a sl sc] 55)).heap.size (w.alloc (.cells #[.int .i64 sn, .int .i64 st, .slice a sl sc] 55)) w' → Calls Tryz.prog 30 #[.agg #[.int .i64 sn, .int .i64 st, .slice a sl sc]] w' (SmStPost d w')) := hid fun w' h => smallSta_call ⟨sn, st, a, sl, sc⟩ d w' (HST.out w' h)
  clear hA hT hd
  obtain ⟨k0, k1, k2⟩ := HBX.out _ (Below.refl _ _)
  dsimp only [StC.v]
  clear hn
  go_enter Tryz.func5, Tryz.ntmps5
  go_wp2_with (first
    | (go_at_call 29; refine (HK.out _ hb3).mono ?_; rintro e w9 ⟨rfl, hb9⟩; have hbz := hb3.trans (hb9.mono hb3.size))
    | (go_at_call 30; refine (HSM.out _ hb2).mono ?_; rintro e w3 ⟨⟨b1, rfl, hs1⟩, hb3'⟩; have hb3 := hb2.trans (hb3'.mono hb2.size); cases b1)
    | (go_at_call 29; refine (HK.out _ (Below.refl _ _)).mono ?_; rintro e w2 ⟨rfl, hb2⟩; clear k0 k1 k2; obtain ⟨k0, k1, k2⟩ := HBX.out _ hb2))
  · go_ret
    exact ⟨rfl, HA.out.trans (hbz.mono HA.out.size)⟩
  · clear k0 k1 k2 hb2 hb3' hs1
    have HB3 := hid (show Below w.heap.size w w3 from HA.out.trans (hb3.mono HA.out.size))
    have HB3A := hid hb3
    obtain ⟨w4, hw4⟩ : ∃ w4, w4 = w3.alloc (.cells #[.int .i64 0, .int .i64 0, .slice none 0 0] 55) := ⟨_, rfl⟩
    have hk4 : KeepB w3.heap.size w3 [(w3.heap.size, (.cells #[.int .i64 0, .int .i64 0, .slice none 0 0] 55))] w4 := by
      rw [hw4]
      exact ⟨(Below.refl _ _).alloc (Nat.le_refl _) _, by simp, fun p hp => by simp only [List.mem_cons, List.not_mem_nil, or_false] at hp; rw [hp]; exact heap_alloc_new w3 _⟩
    have HK4 := hid hk4
    rw [← hw4]
    clear hw4 hk4 hb3
    go_loopw [6] (fun i wr => ∃ (k : Nat) (s : Value), k ≤ n ∧ i = .int .i64 k ∧ KeepB w3.heap.size w3 [(w3.heap.size, (.cells #[.int .i64 0, .int .i64 0, s] 55))] wr ∧ Kept slK 58 w3.heap.size wr s k (longF 0 k) ∧ ∀ r, s.ownBlock = some r → r ≠ w3.heap.size) (fun i _ => n - (intOf i).toNat)
    case atStart => exact ⟨0, _, Nat.zero_le _, rfl, HK4.out, Kept.nil _ _ _, fun r e => by cases e⟩
    case round =>
    obtain ⟨k, s, hk, rfl, hkb, hrb, hno⟩ := hrel
    clear HK4
    obtain ⟨va, vcap, rfl, hvc⟩ := hrb.shape
    by_cases hlt : k < n
    · have hlt' : (k : Int) < 1020 + m % 8 := by have := HN.out; omega
      have hk0 : (0 : Int) ≤ (k : Int) := by omega
      have hkn : (k : Int) ≤ 1027 := by omega
      have k2 := cellOf (hkb.at 0 (by simp)) 2
      (try dsimp only [List.getElem_cons_zero] at k2)
      have hrow := Kept.own (K := slK) hrb
      obtain ⟨cs, hcs, hl0, hown, hel⟩ := hrb
      have HOWN := hid hown
      have HEL := hid hel
      have HCL := hid hcs
      have HKB := hid hkb
      have HNO := hid hno
      have HRO := hid hrow
      have hsz := hkb.n
      have hsz3 : w3.heap.size < wr.heap.size := ltOf (hkb.at 0 (by simp))
      have hne : ∀ r, (Value.slice va k vcap).ownBlock = some r → w3.heap.size ≤ r ∧ ∀ p ∈ ([(w3.heap.size, (.cells #[.int .i64 0, .int .i64 0, .slice va k vcap] 55))] : List (Nat × Obj)), p.1 ≠ r := fun r e => ⟨(HRO.out r e).1, fun p hp => by
        have h1 := HNO.out r e
        simp only [List.mem_cons, List.not_mem_nil, or_false] at hp
        rw [hp]
        exact fun h => h1 h.symm⟩
      have HNE := hid hne
      have hcap1 : k + 1 ≤ maxLen := by unfold maxLen; omega
      have hcap2 : (k + 1) * 152 ≤ 140737488355328 := by omega
      clear hown hel hcs hl0 hkb hno hrow hne
      go_wp2_with (at_builtin; go_loud (refine wpList_append_lies _ (by rfl) _ _ 53 (by rfl) w3.heap.size 58 ti _ 10 152 Tryz.underlying53 hi hz0 hz1 hz2 rfl (by omega) (.slice va k vcap) k (cs.flatMap SlC.cs) (by rfl) (HOWN.out.alloc (.cells #[.int .i64 2, .int .i64 (k : Int), .int .i64 0, .string ⟨#[]⟩, .slice none 0 0, .slice none 0 0, .int .i64 0, .int .i64 0, .slice none 0 0, .slice none 0 0] 58)) ⟨wr.heap.size, 0, none⟩ 1 1 (SlC.cs (intC k)) (by rfl) (by rfl) (World.news_of_block (heap_alloc_new wr _)) (by simp [SlC.cs, Value.oneCell']) (by omega) hcap1 hcap2 (by simp; omega) (wr.heap.size + 1) (by simp) ?_); intro gg cap5 w5 hown2 hgrow hat hlt2; have hk5 := (HKB.out.ext ((Below.refl _ _).alloc (Nat.le_refl _) _)).grown hgrow HNE.out; have HK5 := hid hk5; have z2 := cellOf (hk5.at 0 (by simp)) 2; have zf2 := freeOf (hk5.at 0 (by simp)) 2; (try dsimp only [List.getElem_cons_zero] at z2 zf2); have HO2 := hid hown2; have HG := hid hgrow; have HAT := hid hat; clear hown2 hgrow hat hlt2 hk5 k2)
      go_roundw
      case rel =>
        have hgg : gg ≠ w3.heap.size := by
          rcases HAT.out with h | h
          · exact HNO.out gg h
          · (try simp at h); omega
        have hk2 := Kept.push (K := slK) (w1 := wr) (c := intC k) (d := mkS k) (l := longF 0 k) HCL.out (longF_len _ _) HEL.out HKB.out.n (intC_is _ _ (by omega) (by omega)) (fun r e => (HNE.out r e).1) HO2.out HG.out
        refine ⟨k + 1, .slice (some ⟨gg, 0, none⟩) (k + 1) cap5, by omega, by go_num, (HK5.out.set (o := 2) _ (Nat.le_refl _) (by simp)).sub (by simp), ?_, fun r e => ?_⟩
        · rw [longF_snoc, Nat.zero_add]
          exact hk2.set _ _ (Nat.le_refl _) (fun e => hgg (Option.some.inj e))
        · have hr : r = gg := (Option.some.inj e).symm
          rw [hr]; exact hgg
      case measure => simp [intOf]; omega
    · obtain rfl : k = n := by omega
      clear hlt
      have hlt' : ¬ (k : Int) < 1020 + m % 8 := by have := HN.out; omega
      have hsz3 : w3.heap.size < wr.heap.size := ltOf (hkb.at 0 (by simp))
      have hup : Below (w.alloc (.cells #[.int .i64 sn, .int .i64 st, .slice a sl sc] 55)).heap.size (w.alloc (.cells #[.int .i64 sn, .int .i64 st, .slice a sl sc] 55)) wr := HB3A.out.trans (hkb.b.mono HB3A.out.size)
      have HUP := hid hup
      have hsa := HB3A.out.size
      have k2 := cellOf (hkb.at 0 (by simp)) 2
      (try dsimp only [List.getElem_cons_zero] at k2)
      have HC : Hid (∀ w', Below wr.heap.size wr w' → (w'.cell? ⟨w.heap.size, 0, none⟩ = some (.int .i64 sn) ∧ w'.cell? ⟨w.heap.size, 1, none⟩ = some (.int .i64 st) ∧ w'.cell? ⟨w.heap.size, 2, none⟩ = some (.slice a sl sc)) ∧
          (w'.cell? ⟨w3.heap.size, 0, none⟩ = some (.int .i64 0) ∧ w'.cell? ⟨w3.heap.size, 1, none⟩ = some (.int .i64 0) ∧ w'.cell? ⟨w3.heap.size, 2, none⟩ = some (.slice va k vcap))) := hid fun w' h => by
        have h1 := heapExt h (hkb.at 0 (by simp))
        exact ⟨HBX.out w' (HUP.out.trans (h.mono HUP.out.size)), cellOf h1 0, cellOf h1 1, cellOf h1 2⟩
      obtain ⟨u, hu⟩ : ∃ u, u = checkE d := ⟨_, rfl⟩
      have HSC : Hid (∀ w', Below wr.heap.size wr w' → Calls Tryz.prog 31 #[.agg #[.int .i64 sn, .int .i64 st, .slice a sl sc]] w' fun e w2 => e = .returned (.int .i64 u) ∧ Below w'.heap.size w' w2) := hid fun w' h => by
        have h1 := HUP.out.trans (h.mono HUP.out.size)
        rw [hu]; exact slotsCheck_call ⟨sn, st, a, sl, sc⟩ d w' (HST.out w' h1) (HT.out.below (HA.out.trans (h1.mono HA.out.size)))
      have HLC : Hid (∀ w', Below wr.heap.size wr w' → Calls Tryz.prog 32 #[.agg #[.int .i64 sn, .int .i64 st, .slice a sl sc]] w' fun e w2 => e = .returned (.int .i64 u) ∧ Below w'.heap.size w' w2) := hid fun w' h => by
        have h1 := HUP.out.trans (h.mono HUP.out.size)
        rw [hu]; exact lawCheck30_call ⟨sn, st, a, sl, sc⟩ d w' (HST.out w' h1) (HT.out.below (HA.out.trans (h1.mono HA.out.size)))
      have hrow : IsRow slK (· < wr.heap.size) wr va k vcap (longF 0 k) := hrb.row hkb.n (by dsimp only; omega)
      have HSL0 : Hid (∀ w', Below wr.heap.size wr w' → Calls Tryz.prog 31 #[.agg #[.int .i64 0, .int .i64 0, .slice va k vcap]] w' fun e w2 => e = .returned (.int .i64 (checkE ⟨0, 0, longF 0 k⟩)) ∧ Below w'.heap.size w' w2) := hid fun w' h => by
        have h1 := HUP.out.trans (h.mono HUP.out.size)
        exact slotsCheck_call ⟨0, 0, va, k, vcap⟩ ⟨0, 0, longF 0 k⟩ w' ⟨rfl, (show I64 0 from ⟨by decide, by decide⟩), rfl, (show I64 0 from ⟨by decide, by decide⟩), hrow.same fun b q => ⟨Nat.lt_of_lt_of_le q h.size, h.block b q⟩⟩ (HT.out.below (HA.out.trans (h1.mono HA.out.size)))
      clear hu hrow hrb hno hup HST HSM HK HBX HD
      by_cases hbig : 1024 < k
      · have hk1 : (1024 : Int) < (k : Int) := by omega
        have hk2 : 1024 < k := by omega
        have HSL : Hid (∀ w', Below wr.heap.size wr w' → Calls Tryz.prog 31 #[.agg #[.int .i64 0, .int .i64 0, .slice va k vcap]] w' fun e w2 => e = .returned (.int .i64 9) ∧ Below w'.heap.size w' w2) := hid fun w' h => by
          have h1 := HSL0.out w' h
          rw [long_checkE k (by omega), if_pos hk2] at h1
          exact h1
        go_upto_region 11 with (fail)
        clear k2
        refine wp_region_split 11 (fun w' => Below wr.heap.size wr w') (by kernel_rfl) (by kernel_rfl) (by kernel_rfl) (by decide) ((Below.refl _ _).drew) (fun hS => ?_)
        simp only [List.take_succ_cons, List.take_zero, List.drop_succ_cons, List.drop_zero]
        refine wpAnyH_take (i := 0) (oi := _) (v := ?_) rfl (by kernel_rfl) (by kernel_rfl) (by kernel_rfl) (fun _ _ _ h => h) (Or.inl ⟨by rfl, ?_⟩) hS ?_
        rotate_left
        · intro w' hw'
          have hcells := HC.out w' hw'
          go_simp
          (try with_reducible rfl)
        simp only [Act.put, List.getElem_toArray, List.getElem_cons_succ, List.getElem_cons_zero, List.setIfInBounds_toArray, List.set_cons_zero, List.set_cons_succ]
        refine wpAnyH_take (i := 2) (oi := _) (v := ?_) rfl (by kernel_rfl) (by kernel_rfl) (by kernel_rfl) (fun _ _ _ h => h) (Or.inl ⟨by rfl, ?_⟩) hS ?_
        rotate_left
        · intro w' hw'
          have hcells := HC.out w' hw'
          go_simp
          (try with_reducible rfl)
        simp only [Act.put, List.getElem_toArray, List.getElem_cons_succ, List.getElem_cons_zero, List.setIfInBounds_toArray, List.set_cons_zero, List.set_cons_succ]
        refine wpAnyH_ready (rs := [1]) (by kernel_rfl) (by simp) ?_
        refine AllReadyH.cons (o := _) rfl (fun K hK => ?_) AllReadyH.nil
        go_simp; go_at_call 31; refine (HSC.out _ hS).mono ?_
        rintro e w6 ⟨rfl, hb6⟩
        refine hK.out _ _ (hS.trans (hb6.mono hS.size)) (fun hS => ?_)
        clear hK K
        (try simp only [Act.put, List.getElem_toArray, List.getElem_cons_succ, List.getElem_cons_zero, List.setIfInBounds_toArray, List.set_cons_zero, List.set_cons_succ])
        refine wpAnyH_ready (rs := [3]) (by kernel_rfl) (by simp) ?_
        refine AllReadyH.cons (o := _) rfl (fun K hK => ?_) AllReadyH.nil
        go_simp; go_at_call 32; refine (HLC.out _ hS).mono ?_
        rintro e w7 ⟨rfl, hb7⟩
        refine hK.out _ _ (hS.trans (hb7.mono hS.size)) (fun hS => ?_)
        clear hK K
        (try simp only [Act.put, List.getElem_toArray, List.getElem_cons_succ, List.getElem_cons_zero, List.setIfInBounds_toArray, List.set_cons_zero, List.set_cons_succ])
        refine wpAnyH_take (i := 4) (oi := _) (v := ?_) rfl (by kernel_rfl) (by kernel_rfl) (by kernel_rfl) (fun _ _ _ h => h) (Or.inl ⟨by rfl, ?_⟩) hS ?_
        rotate_left
        · intro w' hw'
          have hcells := HC.out w' hw'
          go_simp
          (try with_reducible rfl)
        simp only [Act.put, List.getElem_toArray, List.getElem_cons_succ, List.getElem_cons_zero, List.setIfInBounds_toArray, List.set_cons_zero, List.set_cons_succ]
        refine wpAnyH_take (i := 5) (oi := _) (v := ?_) rfl (by kernel_rfl) (by kernel_rfl) (by kernel_rfl) (fun _ _ _ h => h) (Or.inl ⟨by rfl, ?_⟩) hS ?_
        rotate_left
        · intro w' hw'
          have hcells := HC.out w' hw'
          go_simp
          (try with_reducible rfl)
        simp only [Act.put, List.getElem_toArray, List.getElem_cons_succ, List.getElem_cons_zero, List.setIfInBounds_toArray, List.set_cons_zero, List.set_cons_succ]
        refine wpAnyH_take (i := 6) (oi := _) (v := ?_) rfl (by kernel_rfl) (by kernel_rfl) (by kernel_rfl) (fun _ _ _ h => h) (Or.inl ⟨by rfl, ?_⟩) hS ?_
        rotate_left
        · intro w' hw'
          have hcells := HC.out w' hw'
          go_simp
          (try with_reducible rfl)
        simp only [Act.put, List.getElem_toArray, List.getElem_cons_succ, List.getElem_cons_zero, List.setIfInBounds_toArray, List.set_cons_zero, List.set_cons_succ]
        refine wpAnyH_take (i := 8) (oi := _) (v := ?_) rfl (by kernel_rfl) (by kernel_rfl) (by kernel_rfl) (fun _ _ _ h => h) (Or.inl ⟨by rfl, ?_⟩) hS ?_
        rotate_left
        · intro w' hw'
          have hcells := HC.out w' hw'
          go_simp
          (try with_reducible rfl)
        simp only [Act.put, List.getElem_toArray, List.getElem_cons_succ, List.getElem_cons_zero, List.setIfInBounds_toArray, List.set_cons_zero, List.set_cons_succ]
        refine wpAnyH_ready (rs := [7]) (by kernel_rfl) (by simp) ?_
        refine AllReadyH.cons (o := _) rfl (fun K hK => ?_) AllReadyH.nil
        go_simp; go_at_call 31; refine (HSL.out _ hS).mono ?_
        rintro e w8 ⟨rfl, hb8⟩
        refine hK.out _ _ (hS.trans (hb8.mono hS.size)) (fun hS => ?_)
        clear hK K
        (try simp only [Act.put, List.getElem_toArray, List.getElem_cons_succ, List.getElem_cons_zero, List.setIfInBounds_toArray, List.set_cons_zero, List.set_cons_succ])
        refine wpAnyH_take (i := 9) (oi := _) (v := ?_) rfl (by kernel_rfl) (by kernel_rfl) (by kernel_rfl) (fun _ _ _ h => h) (Or.inl ⟨by rfl, ?_⟩) hS ?_
        rotate_left
        · intro w' hw'
          have hcells := HC.out w' hw'
          go_simp
          (try with_reducible rfl)
        simp only [Act.put, List.getElem_toArray, List.getElem_cons_succ, List.getElem_cons_zero, List.setIfInBounds_toArray, List.set_cons_zero, List.set_cons_succ]
        refine wpAnyH_take (i := 10) (oi := _) (v := ?_) rfl (by kernel_rfl) (by kernel_rfl) (by kernel_rfl) (fun _ _ _ h => h) (Or.inl ⟨by rfl, ?_⟩) hS ?_
        rotate_left
        · intro w' hw'
          have hcells := HC.out w' hw'
          go_simp
          (try with_reducible rfl)
        simp only [Act.put, List.getElem_toArray, List.getElem_cons_succ, List.getElem_cons_zero, List.setIfInBounds_toArray, List.set_cons_zero, List.set_cons_succ]
        refine wpAnyH_done (by kernel_rfl) ?_ _
        (try dsimp only)
        have hbf := hS
        clear hS HSC HLC HSL HC
        go_wp2
        go_ret
        have h3 := HB3.out.size
        exact ⟨rfl, HB3.out.trans ((hkb.b.mono h3).trans (hbf.mono (by omega)))⟩
      · have hk1 : ¬ (1024 : Int) < (k : Int) := by omega
        have hk2 : ¬ 1024 < k := by omega
        have HSL : Hid (∀ w', Below wr.heap.size wr w' → Calls Tryz.prog 31 #[.agg #[.int .i64 0, .int .i64 0, .slice va k vcap]] w' fun e w2 => e = .returned (.int .i64 0) ∧ Below w'.heap.size w' w2) := hid fun w' h => by
          have h1 := HSL0.out w' h
          rw [long_checkE k (by omega), if_neg hk2] at h1
          exact h1
        go_upto_region 11 with (fail)
        clear k2
        refine wp_region_split 11 (fun w' => Below wr.heap.size wr w') (by kernel_rfl) (by kernel_rfl) (by kernel_rfl) (by decide) ((Below.refl _ _).drew) (fun hS => ?_)
        simp only [List.take_succ_cons, List.take_zero, List.drop_succ_cons, List.drop_zero]
        refine wpAnyH_take (i := 0) (oi := _) (v := ?_) rfl (by kernel_rfl) (by kernel_rfl) (by kernel_rfl) (fun _ _ _ h => h) (Or.inl ⟨by rfl, ?_⟩) hS ?_
        rotate_left
        · intro w' hw'
          have hcells := HC.out w' hw'
          go_simp
          (try with_reducible rfl)
        simp only [Act.put, List.getElem_toArray, List.getElem_cons_succ, List.getElem_cons_zero, List.setIfInBounds_toArray, List.set_cons_zero, List.set_cons_succ]
        refine wpAnyH_take (i := 2) (oi := _) (v := ?_) rfl (by kernel_rfl) (by kernel_rfl) (by kernel_rfl) (fun _ _ _ h => h) (Or.inl ⟨by rfl, ?_⟩) hS ?_
        rotate_left
        · intro w' hw'
          have hcells := HC.out w' hw'
          go_simp
          (try with_reducible rfl)
        simp only [Act.put, List.getElem_toArray, List.getElem_cons_succ, List.getElem_cons_zero, List.setIfInBounds_toArray, List.set_cons_zero, List.set_cons_succ]
        refine wpAnyH_ready (rs := [1]) (by kernel_rfl) (by simp) ?_
        refine AllReadyH.cons (o := _) rfl (fun K hK => ?_) AllReadyH.nil
        go_simp; go_at_call 31; refine (HSC.out _ hS).mono ?_
        rintro e w6 ⟨rfl, hb6⟩
        refine hK.out _ _ (hS.trans (hb6.mono hS.size)) (fun hS => ?_)
        clear hK K
        (try simp only [Act.put, List.getElem_toArray, List.getElem_cons_succ, List.getElem_cons_zero, List.setIfInBounds_toArray, List.set_cons_zero, List.set_cons_succ])
        refine wpAnyH_ready (rs := [3]) (by kernel_rfl) (by simp) ?_
        refine AllReadyH.cons (o := _) rfl (fun K hK => ?_) AllReadyH.nil
        go_simp; go_at_call 32; refine (HLC.out _ hS).mono ?_
        rintro e w7 ⟨rfl, hb7⟩
        refine hK.out _ _ (hS.trans (hb7.mono hS.size)) (fun hS => ?_)
        clear hK K
        (try simp only [Act.put, List.getElem_toArray, List.getElem_cons_succ, List.getElem_cons_zero, List.setIfInBounds_toArray, List.set_cons_zero, List.set_cons_succ])
        refine wpAnyH_take (i := 4) (oi := _) (v := ?_) rfl (by kernel_rfl) (by kernel_rfl) (by kernel_rfl) (fun _ _ _ h => h) (Or.inl ⟨by rfl, ?_⟩) hS ?_
        rotate_left
        · intro w' hw'
          have hcells := HC.out w' hw'
          go_simp
          (try with_reducible rfl)
        simp only [Act.put, List.getElem_toArray, List.getElem_cons_succ, List.getElem_cons_zero, List.setIfInBounds_toArray, List.set_cons_zero, List.set_cons_succ]
        refine wpAnyH_take (i := 5) (oi := _) (v := ?_) rfl (by kernel_rfl) (by kernel_rfl) (by kernel_rfl) (fun _ _ _ h => h) (Or.inl ⟨by rfl, ?_⟩) hS ?_
        rotate_left
        · intro w' hw'
          have hcells := HC.out w' hw'
          go_simp
          (try with_reducible rfl)
        simp only [Act.put, List.getElem_toArray, List.getElem_cons_succ, List.getElem_cons_zero, List.setIfInBounds_toArray, List.set_cons_zero, List.set_cons_succ]
        refine wpAnyH_take (i := 6) (oi := _) (v := ?_) rfl (by kernel_rfl) (by kernel_rfl) (by kernel_rfl) (fun _ _ _ h => h) (Or.inl ⟨by rfl, ?_⟩) hS ?_
        rotate_left
        · intro w' hw'
          have hcells := HC.out w' hw'
          go_simp
          (try with_reducible rfl)
        simp only [Act.put, List.getElem_toArray, List.getElem_cons_succ, List.getElem_cons_zero, List.setIfInBounds_toArray, List.set_cons_zero, List.set_cons_succ]
        refine wpAnyH_take (i := 8) (oi := _) (v := ?_) rfl (by kernel_rfl) (by kernel_rfl) (by kernel_rfl) (fun _ _ _ h => h) (Or.inl ⟨by rfl, ?_⟩) hS ?_
        rotate_left
        · intro w' hw'
          have hcells := HC.out w' hw'
          go_simp
          (try with_reducible rfl)
        simp only [Act.put, List.getElem_toArray, List.getElem_cons_succ, List.getElem_cons_zero, List.setIfInBounds_toArray, List.set_cons_zero, List.set_cons_succ]
        refine wpAnyH_ready (rs := [7]) (by kernel_rfl) (by simp) ?_
        refine AllReadyH.cons (o := _) rfl (fun K hK => ?_) AllReadyH.nil
        go_simp; go_at_call 31; refine (HSL.out _ hS).mono ?_
        rintro e w8 ⟨rfl, hb8⟩
        refine hK.out _ _ (hS.trans (hb8.mono hS.size)) (fun hS => ?_)
        clear hK K
        (try simp only [Act.put, List.getElem_toArray, List.getElem_cons_succ, List.getElem_cons_zero, List.setIfInBounds_toArray, List.set_cons_zero, List.set_cons_succ])
        refine wpAnyH_take (i := 9) (oi := _) (v := ?_) rfl (by kernel_rfl) (by kernel_rfl) (by kernel_rfl) (fun _ _ _ h => h) (Or.inl ⟨by rfl, ?_⟩) hS ?_
        rotate_left
        · intro w' hw'
          have hcells := HC.out w' hw'
          go_simp
          (try with_reducible rfl)
        simp only [Act.put, List.getElem_toArray, List.getElem_cons_succ, List.getElem_cons_zero, List.setIfInBounds_toArray, List.set_cons_zero, List.set_cons_succ]
        refine wpAnyH_take (i := 10) (oi := _) (v := ?_) rfl (by kernel_rfl) (by kernel_rfl) (by kernel_rfl) (fun _ _ _ h => h) (Or.inl ⟨by rfl, ?_⟩) hS ?_
        rotate_left
        · intro w' hw'
          have hcells := HC.out w' hw'
          go_simp
          (try with_reducible rfl)
        simp only [Act.put, List.getElem_toArray, List.getElem_cons_succ, List.getElem_cons_zero, List.setIfInBounds_toArray, List.set_cons_zero, List.set_cons_succ]
        refine wpAnyH_done (by kernel_rfl) ?_ _
        (try dsimp only)
        have hbf := hS
        clear hS HSC HLC HSL HC
        go_wp2
        go_ret
        have h3 := HB3.out.size
        exact ⟨rfl, HB3.out.trans ((hkb.b.mono h3).trans (hbf.mono (by omega)))⟩
end Go.Proofs.YthjlgpmajeafpaaGreatDoor
