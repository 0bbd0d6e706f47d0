/-
  SlotsLimits returns true. Conditions: the number is a byte; the key is an int; Tabs.
-/
import Derived.Test.YthjlgpmajeafpaaGreatDoorLongLawMrg
import Derived.Test.YthjlgpmajeafpaaGreatDoorPutMrg
import Derived.Test.YthjlgpmajeafpaaGreatDoorSmallSMrg
namespace Go.Proofs.YthjlgpmajeafpaaGreatDoor
open Go Go.RowKit Go.Shelf
set_option linter.unusedVariables false
set_option linter.unusedSimpArgs false

set_option maxRecDepth 100000 in
set_option maxHeartbeats 16000000 in
theorem slotsLimits_call (m key : Int) (w : World) (hm0 : 0 ≤ m) (hm1 : m ≤ 255) (hki : I64 key) (hT : Tabs w) : Calls Tryz.prog 12 #[.int .u8 m, .int .i64 key] w fun e w' => e = .returned (.bool true) ∧ Below w.heap.size w w' := by
  obtain ⟨ti, hi, hz0, hz1, hz2⟩ := info_parts infoSlot
  obtain ⟨n, hn⟩ : ∃ n : Nat, (n : Int) = 1020 + m % 8 := ⟨(1020 + m % 8).toNat, by omega⟩
  have HN := hid hn
  have hn1 : 1020 ≤ n := by omega
  have hn2 : n ≤ 1027 := by omega
  have hm8 : 0 ≤ m % 8 := by omega
  have hm9 : m % 8 ≤ 7 := by omega
  have HT := hid hT
  have HKI := hid hki
  have HK : Hid (Calls Tryz.prog 29 #[] w fun e w2 => e = .returned (.bool true) ∧ Below w.heap.size w w2) := hid (knownS_call w hT)
  clear hT hn hki
  go_enter Tryz.func12, Tryz.ntmps12
  go_wp2_with (go_at_call 29; refine HK.out.mono ?_; rintro e w3 ⟨rfl, hb3⟩)
  have HB3 := hid hb3
  obtain ⟨w4, hw4⟩ : ∃ w4, w4 = w3.alloc (.cells #[.int .i64 0, .int .i64 0, .slice none 0 0] 55) := ⟨_, rfl⟩
  have hk4 : KeepB w3.heap.size w3 [(w3.heap.size, (.cells #[.int .i64 0, .int .i64 0, .slice none 0 0] 55))] w4 := by
    rw [hw4]
    exact ⟨(Below.refl _ _).alloc (Nat.le_refl _) _, by simp, fun p hp => by simp only [List.mem_cons, List.not_mem_nil, or_false] at hp; rw [hp]; exact heap_alloc_new w3 _⟩
  have HK4 := hid hk4
  rw [← hw4]
  clear hw4 hk4 hb3 HK
  go_loopw [6] (fun i wr => ∃ (k : Nat) (s : Value), k ≤ n ∧ i = .int .i64 k ∧ KeepB w3.heap.size w3 [(w3.heap.size, (.cells #[.int .i64 0, .int .i64 0, s] 55))] wr ∧ Kept slK 58 w3.heap.size wr s k (longF 0 k) ∧ ∀ r, s.ownBlock = some r → r ≠ w3.heap.size) (fun i _ => n - (intOf i).toNat)
  case atStart => exact ⟨0, _, Nat.zero_le _, rfl, HK4.out, Kept.nil _ _ _, fun r e => by cases e⟩
  case round =>
  obtain ⟨k, s, hk, rfl, hkb, hrb, hno⟩ := hrel
  clear HK4
  obtain ⟨va, vcap, rfl, hvc⟩ := hrb.shape
  by_cases hlt : k < n
  · have hlt' : (k : Int) < 1020 + m % 8 := by have := HN.out; omega
    have hk0 : (0 : Int) ≤ (k : Int) := by omega
    have hkn : (k : Int) ≤ 1027 := by omega
    have k2 := cellOf (hkb.at 0 (by simp)) 2
    (try dsimp only [List.getElem_cons_zero] at k2)
    have hrow := Kept.own (K := slK) hrb
    obtain ⟨cs, hcs, hl0, hown, hel⟩ := hrb
    have HOWN := hid hown
    have HEL := hid hel
    have HCL := hid hcs
    have HKB := hid hkb
    have HNO := hid hno
    have HRO := hid hrow
    have hsz := hkb.n
    have hsz3 : w3.heap.size < wr.heap.size := ltOf (hkb.at 0 (by simp))
    have hne : ∀ r, (Value.slice va k vcap).ownBlock = some r → w3.heap.size ≤ r ∧ ∀ p ∈ ([(w3.heap.size, (.cells #[.int .i64 0, .int .i64 0, .slice va k vcap] 55))] : List (Nat × Obj)), p.1 ≠ r := fun r e => ⟨(HRO.out r e).1, fun p hp => by
      have h1 := HNO.out r e
      simp only [List.mem_cons, List.not_mem_nil, or_false] at hp
      rw [hp]
      exact fun h => h1 h.symm⟩
    have HNE := hid hne
    have hcap1 : k + 1 ≤ maxLen := by unfold maxLen; omega
    have hcap2 : (k + 1) * 152 ≤ 140737488355328 := by omega
    clear hown hel hcs hl0 hkb hno hrow hne
    go_wp2_with (at_builtin; go_loud (refine wpList_append_lies _ (by rfl) _ _ 53 (by rfl) w3.heap.size 58 ti _ 10 152 Tryz.underlying53 hi hz0 hz1 hz2 rfl (by omega) (.slice va k vcap) k (cs.flatMap SlC.cs) (by rfl) (HOWN.out.alloc (.cells #[.int .i64 2, .int .i64 (k : Int), .int .i64 0, .string ⟨#[]⟩, .slice none 0 0, .slice none 0 0, .int .i64 0, .int .i64 0, .slice none 0 0, .slice none 0 0] 58)) ⟨wr.heap.size, 0, none⟩ 1 1 (SlC.cs (intC k)) (by rfl) (by rfl) (World.news_of_block (heap_alloc_new wr _)) (by simp [SlC.cs, Value.oneCell']) (by omega) hcap1 hcap2 (by simp; omega) (wr.heap.size + 1) (by simp) ?_); intro gg cap5 w5 hown2 hgrow hat hlt2; have hk5 := (HKB.out.ext ((Below.refl _ _).alloc (Nat.le_refl _) _)).grown hgrow HNE.out; have HK5 := hid hk5; have z2 := cellOf (hk5.at 0 (by simp)) 2; have zf2 := freeOf (hk5.at 0 (by simp)) 2; (try dsimp only [List.getElem_cons_zero] at z2 zf2); have HO2 := hid hown2; have HG := hid hgrow; have HAT := hid hat; clear hown2 hgrow hat hlt2 hk5 k2)
    go_roundw
    case rel =>
      have hgg : gg ≠ w3.heap.size := by
        rcases HAT.out with h | h
        · exact HNO.out gg h
        · (try simp at h); omega
      have hk2 := Kept.push (K := slK) (w1 := wr) (c := intC k) (d := mkS k) (l := longF 0 k) HCL.out (longF_len _ _) HEL.out HKB.out.n (intC_is _ _ (by omega) (by omega)) (fun r e => (HNE.out r e).1) HO2.out HG.out
      refine ⟨k + 1, .slice (some ⟨gg, 0, none⟩) (k + 1) cap5, by omega, by go_num, (HK5.out.set (o := 2) _ (Nat.le_refl _) (by simp)).sub (by simp), ?_, fun r e => ?_⟩
      · rw [longF_snoc, Nat.zero_add]
        exact hk2.set _ _ (Nat.le_refl _) (fun e => hgg (Option.some.inj e))
      · have hr : r = gg := (Option.some.inj e).symm
        rw [hr]; exact hgg
    case measure => simp [intOf]; omega
  · obtain rfl : k = n := by omega
    clear hlt
    have hlt' : ¬ (k : Int) < 1020 + m % 8 := by have := HN.out; omega
    have HFIN : Hid (∀ w', Below wr.heap.size wr w' → Below w.heap.size w w') := hid fun w' h => HB3.out.trans ((hkb.b.trans (h.mono hkb.n)).mono HB3.out.size)
    have HCB : Hid (∀ w', Below wr.heap.size wr w' → w'.cell? ⟨w3.heap.size, 0, none⟩ = some (.int .i64 0) ∧ w'.cell? ⟨w3.heap.size, 1, none⟩ = some (.int .i64 0) ∧ w'.cell? ⟨w3.heap.size, 2, none⟩ = some (.slice va k vcap)) := hid fun w' h => by
      have h1 := heapExt h (hkb.at 0 (by simp))
      exact ⟨cellOf h1 0, cellOf h1 1, cellOf h1 2⟩
    have hrow : IsRow slK (· < wr.heap.size) wr va k vcap (longF 0 k) := hrb.row hkb.n (by dsimp only; omega)
    have HSTA : Hid (∀ w', Below wr.heap.size wr w' → IsSta (· < w'.heap.size) w' ⟨0, 0, va, k, vcap⟩ ⟨0, 0, longF 0 k⟩) := hid fun w' h => ⟨rfl, (show I64 0 from ⟨by decide, by decide⟩), rfl, (show I64 0 from ⟨by decide, by decide⟩), hrow.same fun b q => ⟨Nat.lt_of_lt_of_le q h.size, h.block b q⟩⟩
    obtain ⟨k0, k1, k2⟩ := HCB.out _ (Below.refl _ _)
    clear hrow hrb hno hkb
    by_cases h0 : 0 ≤ key
    · by_cases h1 : key < (k : Int)
      · have HPU : Hid (Calls Tryz.prog 51 #[.agg #[.int .i64 0, .int .i64 0, .slice va k vcap], .agg #[.int .i64 2, .int .i64 key, .int .i64 0, .string ⟨#[]⟩, .slice none 0 0, .slice none 0 0, .int .i64 0, .int .i64 9, .slice none 0 0, .slice none 0 0]] wr (PutPost wr ⟨0, 0, longF 0 k⟩ (keyS key 9))) := hid (putT_call ⟨0, 0, va, k, vcap⟩ ⟨0, 0, longF 0 k⟩ (keyC' key 9) (keyS key 9) wr (long_srt k) (HSTA.out _ (Below.refl _ _)) (keyC_is _ _ HKI.out ⟨by decide, by decide⟩) (long_place h0 h1).2)
        go_upto_region 10 with (go_at_call 51; refine HPU.out.mono ?_; rintro e w7 ⟨c8, rfl, hb7, hi8⟩; have HI8 := hid hi8; clear hi8)
        obtain ⟨cn, ct, ca, cl8, cc⟩ := c8
        have e8 : cl8 = k := by
          have h := HI8.out.l.len
          dsimp only at h
          rw [h, putL_len' (long_place h0 h1).2, longF_len]
        obtain rfl : k = cl8 := e8.symm
        clear e8
        dsimp only
        clear k0 k1 k2
        obtain ⟨w8, hw8⟩ : ∃ u, u = w7.alloc (.cells #[.int .i64 cn, .int .i64 ct, .slice ca (k) cc] 55) := ⟨_, rfl⟩
        rw [← hw8]
        have HB78 := hid (show Below w7.heap.size w7 w8 by rw [hw8]; exact (Below.refl _ _).alloc (Nat.le_refl _) _)
        have HB8 := hid (show Below wr.heap.size wr w8 from hb7.trans (HB78.out.mono hb7.size))
        have H8 := hid (show w8.heap[w7.heap.size]? = some (.cells #[.int .i64 cn, .int .i64 ct, .slice ca (k) cc] 55) by rw [hw8]; exact heap_alloc_new w7 _)
        have HST8 : Hid (∀ w', Below w8.heap.size w8 w' → IsSta (· < w'.heap.size) w' ⟨cn, ct, ca, k, cc⟩ ⟨0, 0, putL (longF 0 k) (keyS key 9)⟩) := hid fun w' h => HI8.out.same fun b q => ⟨by have := HB78.out.size; have := h.size; omega, (h.block b (by have := HB78.out.size; omega)).trans (HB78.out.block b q)⟩
        have HC8 : Hid (∀ w', Below w8.heap.size w8 w' → (w'.cell? ⟨w7.heap.size, 0, none⟩ = some (.int .i64 cn) ∧ w'.cell? ⟨w7.heap.size, 1, none⟩ = some (.int .i64 ct) ∧ w'.cell? ⟨w7.heap.size, 2, none⟩ = some (.slice ca (k) cc)) ∧ (w'.cell? ⟨w3.heap.size, 0, none⟩ = some (.int .i64 0) ∧ w'.cell? ⟨w3.heap.size, 1, none⟩ = some (.int .i64 0) ∧ w'.cell? ⟨w3.heap.size, 2, none⟩ = some (.slice va k vcap))) := hid fun w' h => by
          have h1 := heapExt h H8.out
          exact ⟨⟨cellOf h1 0, cellOf h1 1, cellOf h1 2⟩, HCB.out _ (HB8.out.trans (h.mono HB8.out.size))⟩
        have HGE : Hid (∀ w', Below w8.heap.size w8 w' → Calls Tryz.prog 36 #[.agg #[.int .i64 cn, .int .i64 ct, .slice ca (k) cc], .agg #[.int .i64 2, .int .i64 key, .int .i64 0, .string ⟨#[]⟩, .slice none 0 0, .slice none 0 0]] w' fun e w2 => ∃ y : SlC, e = .returned (.tuple #[.agg #[.int .i64 y.k.k, .int .i64 y.k.i, .int .i64 y.k.s, .string y.k.t, .slice y.k.la y.k.ll y.k.lc, .slice y.k.fa y.k.fl y.k.fc, .int .i64 y.n, .int .i64 y.t, .slice y.ia y.il y.ic, .slice y.va y.vl y.vc], .bool true]) ∧ Below w'.heap.size w' w2 ∧ y.t = 9) := hid fun w' h => by
          have hc := get_call ⟨cn, ct, ca, k, cc⟩ ⟨0, 0, putL (longF 0 k) (keyS key 9)⟩ ⟨2, key, 0, ⟨#[]⟩, none, 0, 0, none, 0, 0⟩ (intV key) w' (HST8.out w' h) (keyV_is _ _ HKI.out)
          have hs := putL_srt (long_srt k) (keyS key 9)
          refine hc.mono fun e w2 hh => ?_
          obtain ⟨y, dy, q1, q2, q3, q4, q5⟩ := hh
          have e1 : findB (putL (longF 0 k) (keyS key 9)) (intV key) = true := by rw [findB_place hs]; exact putL_found _ (keyS key 9)
          dsimp only at q1 q4
          rw [e1] at q1
          have q6 := q4 e1
          rw [findI_place hs] at q6
          have q7 := (putL_at (longF 0 k) (keyS key 9))
          rw [← putL_place (longF 0 k) (keyS key 9)] at q7
          have q8 : keyS key 9 = dy := Option.some.inj (q7.symm.trans q6)
          exact ⟨y, q1, q2, by rw [q3.t, ← q8]⟩
        clear hw8
        obtain ⟨⟨u0, u1, u2⟩, ⟨k0, k1, k2⟩⟩ := HC8.out _ (Below.refl _ _)
        have hwk : IntKind.i64.wrap ((k : Int) + 1) = (k : Int) + 1 := IntWalk.i64_in _ (by omega)
        go_upto_region 13 with (go_at_call 36; refine (HGE.out _ (Below.refl _ _)).mono ?_; rintro e w9 ⟨y, rfl, hb9, hy9⟩; have HY9 := hid hy9; clear hy9)
        clear u0 u1 u2 k0 k1 k2
        obtain ⟨⟨yk, yi, ys, yt0, yla, yll, ylc, yfa, yfl, yfc⟩, yn, yt, yia, yil, yic, yva, yvl, yvc⟩ := y
        obtain rfl : yt = 9 := HY9.out
        dsimp only
        have HBY := hid ((Below.refl _ w9).alloc (Nat.le_refl _) (.cells #[.int .i64 yk, .int .i64 yi, .int .i64 ys, .string yt0, .slice yla yll ylc, .slice yfa yfl yfc, .int .i64 yn, .int .i64 9, .slice yia yil yic, .slice yva yvl yvc] 58))
        have hbz := hb9.trans (HBY.out.mono hb9.size)
        obtain ⟨⟨u0, u1, u2⟩, ⟨k0, k1, k2⟩⟩ := HC8.out _ hbz
        go_wp2
        go_ret
        exact ⟨rfl, HFIN.out _ (HB8.out.trans (hbz.mono HB8.out.size))⟩
      · have hno : ¬ (0 ≤ key ∧ key < (k : Int)) := fun h => h1 h.2
        by_cases hbig : 1024 ≤ k
        · have hbig' : (1024 : Int) ≤ (k : Int) := by omega
          have HPU : Hid (Calls Tryz.prog 51 #[.agg #[.int .i64 0, .int .i64 0, .slice va k vcap], .agg #[.int .i64 2, .int .i64 key, .int .i64 0, .string ⟨#[]⟩, .slice none 0 0, .slice none 0 0, .int .i64 0, .int .i64 9, .slice none 0 0, .slice none 0 0]] wr fun e w' => e = .returned (.tuple #[.agg #[.int .i64 0, .int .i64 0, .slice none 0 0], .int .i64 9]) ∧ Below wr.heap.size wr w') := hid (putL_call ⟨0, 0, va, k, vcap⟩ ⟨0, 0, longF 0 k⟩ (keyC' key 9) (keyS key 9) wr (long_srt k) (HSTA.out _ (Below.refl _ _)) (keyC_is _ _ HKI.out ⟨by decide, by decide⟩) (long_none hno) (by rw [longF_len]; omega))
          have HSA : Hid (∀ w', Calls Tryz.prog 41 #[.agg #[.int .i64 0, .int .i64 0, .slice none 0 0], .agg #[.int .i64 0, .int .i64 0, .slice none 0 0]] w' fun e w2 => e = .returned (.bool true) ∧ Below w'.heap.size w' w2) := hid fun w' => by
            have z : IsSta (· < w'.heap.size) w' ⟨0, 0, none, 0, 0⟩ ⟨0, 0, []⟩ := ⟨rfl, ⟨by decide, by decide⟩, rfl, ⟨by decide, by decide⟩, row_nil' _ _⟩
            have hc := sameSta_call ⟨0, 0, none, 0, 0⟩ ⟨0, 0, none, 0, 0⟩ _ _ w' z z
            rw [staEqB_refl] at hc
            exact hc
          go_upto_region 10 with (go_at_call 51; refine HPU.out.mono ?_; rintro e w7 ⟨rfl, hb7⟩)
          clear k0 k1 k2
          have HBZ := hid ((Below.refl _ w7).alloc (Nat.le_refl _) (.cells #[.int .i64 0, .int .i64 0, .slice none 0 0] 55))
          have HB8 := hid (hb7.trans (HBZ.out.mono hb7.size))
          obtain ⟨k0, k1, k2⟩ := HCB.out _ HB8.out
          go_wp2_with (go_at_call 41; refine (HSA.out _).mono ?_; rintro e w9 ⟨rfl, hb9⟩)
          go_ret
          exact ⟨rfl, HFIN.out _ (HB8.out.trans (hb9.mono HB8.out.size))⟩
        · have hbig' : ¬ (1024 : Int) ≤ (k : Int) := by omega
          have HPU : Hid (Calls Tryz.prog 51 #[.agg #[.int .i64 0, .int .i64 0, .slice va k vcap], .agg #[.int .i64 2, .int .i64 key, .int .i64 0, .string ⟨#[]⟩, .slice none 0 0, .slice none 0 0, .int .i64 0, .int .i64 9, .slice none 0 0, .slice none 0 0]] wr (PutPost wr ⟨0, 0, longF 0 k⟩ (keyS key 9))) := hid (putF_call ⟨0, 0, va, k, vcap⟩ ⟨0, 0, longF 0 k⟩ (keyC' key 9) (keyS key 9) wr (long_srt k) (HSTA.out _ (Below.refl _ _)) (keyC_is _ _ HKI.out ⟨by decide, by decide⟩) (long_none hno) (by rw [longF_len]; omega))
          go_upto_region 10 with (go_at_call 51; refine HPU.out.mono ?_; rintro e w7 ⟨c8, rfl, hb7, hi8⟩; have HI8 := hid hi8; clear hi8)
          obtain ⟨cn, ct, ca, cl8, cc⟩ := c8
          have e8 : cl8 = k + 1 := by
            have h := HI8.out.l.len
            dsimp only at h
            rw [h, putL_len (long_none hno), longF_len]
          subst e8
          skip
          dsimp only
          clear k0 k1 k2
          obtain ⟨w8, hw8⟩ : ∃ u, u = w7.alloc (.cells #[.int .i64 cn, .int .i64 ct, .slice ca (k + 1) cc] 55) := ⟨_, rfl⟩
          rw [← hw8]
          have HB78 := hid (show Below w7.heap.size w7 w8 by rw [hw8]; exact (Below.refl _ _).alloc (Nat.le_refl _) _)
          have HB8 := hid (show Below wr.heap.size wr w8 from hb7.trans (HB78.out.mono hb7.size))
          have H8 := hid (show w8.heap[w7.heap.size]? = some (.cells #[.int .i64 cn, .int .i64 ct, .slice ca (k + 1) cc] 55) by rw [hw8]; exact heap_alloc_new w7 _)
          have HST8 : Hid (∀ w', Below w8.heap.size w8 w' → IsSta (· < w'.heap.size) w' ⟨cn, ct, ca, k + 1, cc⟩ ⟨0, 0, putL (longF 0 k) (keyS key 9)⟩) := hid fun w' h => HI8.out.same fun b q => ⟨by have := HB78.out.size; have := h.size; omega, (h.block b (by have := HB78.out.size; omega)).trans (HB78.out.block b q)⟩
          have HC8 : Hid (∀ w', Below w8.heap.size w8 w' → (w'.cell? ⟨w7.heap.size, 0, none⟩ = some (.int .i64 cn) ∧ w'.cell? ⟨w7.heap.size, 1, none⟩ = some (.int .i64 ct) ∧ w'.cell? ⟨w7.heap.size, 2, none⟩ = some (.slice ca (k + 1) cc)) ∧ (w'.cell? ⟨w3.heap.size, 0, none⟩ = some (.int .i64 0) ∧ w'.cell? ⟨w3.heap.size, 1, none⟩ = some (.int .i64 0) ∧ w'.cell? ⟨w3.heap.size, 2, none⟩ = some (.slice va k vcap))) := hid fun w' h => by
            have h1 := heapExt h H8.out
            exact ⟨⟨cellOf h1 0, cellOf h1 1, cellOf h1 2⟩, HCB.out _ (HB8.out.trans (h.mono HB8.out.size))⟩
          have HGE : Hid (∀ w', Below w8.heap.size w8 w' → Calls Tryz.prog 36 #[.agg #[.int .i64 cn, .int .i64 ct, .slice ca (k + 1) cc], .agg #[.int .i64 2, .int .i64 key, .int .i64 0, .string ⟨#[]⟩, .slice none 0 0, .slice none 0 0]] w' fun e w2 => ∃ y : SlC, e = .returned (.tuple #[.agg #[.int .i64 y.k.k, .int .i64 y.k.i, .int .i64 y.k.s, .string y.k.t, .slice y.k.la y.k.ll y.k.lc, .slice y.k.fa y.k.fl y.k.fc, .int .i64 y.n, .int .i64 y.t, .slice y.ia y.il y.ic, .slice y.va y.vl y.vc], .bool true]) ∧ Below w'.heap.size w' w2 ∧ y.t = 9) := hid fun w' h => by
            have hc := get_call ⟨cn, ct, ca, k + 1, cc⟩ ⟨0, 0, putL (longF 0 k) (keyS key 9)⟩ ⟨2, key, 0, ⟨#[]⟩, none, 0, 0, none, 0, 0⟩ (intV key) w' (HST8.out w' h) (keyV_is _ _ HKI.out)
            have hs := putL_srt (long_srt k) (keyS key 9)
            refine hc.mono fun e w2 hh => ?_
            obtain ⟨y, dy, q1, q2, q3, q4, q5⟩ := hh
            have e1 : findB (putL (longF 0 k) (keyS key 9)) (intV key) = true := by rw [findB_place hs]; exact putL_found _ (keyS key 9)
            dsimp only at q1 q4
            rw [e1] at q1
            have q6 := q4 e1
            rw [findI_place hs] at q6
            have q7 := (putL_at (longF 0 k) (keyS key 9))
            rw [← putL_place (longF 0 k) (keyS key 9)] at q7
            have q8 : keyS key 9 = dy := Option.some.inj (q7.symm.trans q6)
            exact ⟨y, q1, q2, by rw [q3.t, ← q8]⟩
          clear hw8
          obtain ⟨⟨u0, u1, u2⟩, ⟨k0, k1, k2⟩⟩ := HC8.out _ (Below.refl _ _)
          have hwk : IntKind.i64.wrap ((k : Int) + 1) = (k : Int) + 1 := IntWalk.i64_in _ (by omega)
          go_upto_region 13 with (go_at_call 36; refine (HGE.out _ (Below.refl _ _)).mono ?_; rintro e w9 ⟨y, rfl, hb9, hy9⟩; have HY9 := hid hy9; clear hy9)
          clear u0 u1 u2 k0 k1 k2
          obtain ⟨⟨yk, yi, ys, yt0, yla, yll, ylc, yfa, yfl, yfc⟩, yn, yt, yia, yil, yic, yva, yvl, yvc⟩ := y
          obtain rfl : yt = 9 := HY9.out
          dsimp only
          have HBY := hid ((Below.refl _ w9).alloc (Nat.le_refl _) (.cells #[.int .i64 yk, .int .i64 yi, .int .i64 ys, .string yt0, .slice yla yll ylc, .slice yfa yfl yfc, .int .i64 yn, .int .i64 9, .slice yia yil yic, .slice yva yvl yvc] 58))
          have hbz := hb9.trans (HBY.out.mono hb9.size)
          obtain ⟨⟨u0, u1, u2⟩, ⟨k0, k1, k2⟩⟩ := HC8.out _ hbz
          go_wp2
          go_ret
          exact ⟨rfl, HFIN.out _ (HB8.out.trans (hbz.mono HB8.out.size))⟩
    · have hno : ¬ (0 ≤ key ∧ key < (k : Int)) := fun h => h0 h.1
      by_cases hbig : 1024 ≤ k
      · have hbig' : (1024 : Int) ≤ (k : Int) := by omega
        have HPU : Hid (Calls Tryz.prog 51 #[.agg #[.int .i64 0, .int .i64 0, .slice va k vcap], .agg #[.int .i64 2, .int .i64 key, .int .i64 0, .string ⟨#[]⟩, .slice none 0 0, .slice none 0 0, .int .i64 0, .int .i64 9, .slice none 0 0, .slice none 0 0]] wr fun e w' => e = .returned (.tuple #[.agg #[.int .i64 0, .int .i64 0, .slice none 0 0], .int .i64 9]) ∧ Below wr.heap.size wr w') := hid (putL_call ⟨0, 0, va, k, vcap⟩ ⟨0, 0, longF 0 k⟩ (keyC' key 9) (keyS key 9) wr (long_srt k) (HSTA.out _ (Below.refl _ _)) (keyC_is _ _ HKI.out ⟨by decide, by decide⟩) (long_none hno) (by rw [longF_len]; omega))
        have HSA : Hid (∀ w', Calls Tryz.prog 41 #[.agg #[.int .i64 0, .int .i64 0, .slice none 0 0], .agg #[.int .i64 0, .int .i64 0, .slice none 0 0]] w' fun e w2 => e = .returned (.bool true) ∧ Below w'.heap.size w' w2) := hid fun w' => by
          have z : IsSta (· < w'.heap.size) w' ⟨0, 0, none, 0, 0⟩ ⟨0, 0, []⟩ := ⟨rfl, ⟨by decide, by decide⟩, rfl, ⟨by decide, by decide⟩, row_nil' _ _⟩
          have hc := sameSta_call ⟨0, 0, none, 0, 0⟩ ⟨0, 0, none, 0, 0⟩ _ _ w' z z
          rw [staEqB_refl] at hc
          exact hc
        go_upto_region 10 with (go_at_call 51; refine HPU.out.mono ?_; rintro e w7 ⟨rfl, hb7⟩)
        clear k0 k1 k2
        have HBZ := hid ((Below.refl _ w7).alloc (Nat.le_refl _) (.cells #[.int .i64 0, .int .i64 0, .slice none 0 0] 55))
        have HB8 := hid (hb7.trans (HBZ.out.mono hb7.size))
        obtain ⟨k0, k1, k2⟩ := HCB.out _ HB8.out
        go_wp2_with (go_at_call 41; refine (HSA.out _).mono ?_; rintro e w9 ⟨rfl, hb9⟩)
        go_ret
        exact ⟨rfl, HFIN.out _ (HB8.out.trans (hb9.mono HB8.out.size))⟩
      · have hbig' : ¬ (1024 : Int) ≤ (k : Int) := by omega
        have HPU : Hid (Calls Tryz.prog 51 #[.agg #[.int .i64 0, .int .i64 0, .slice va k vcap], .agg #[.int .i64 2, .int .i64 key, .int .i64 0, .string ⟨#[]⟩, .slice none 0 0, .slice none 0 0, .int .i64 0, .int .i64 9, .slice none 0 0, .slice none 0 0]] wr (PutPost wr ⟨0, 0, longF 0 k⟩ (keyS key 9))) := hid (putF_call ⟨0, 0, va, k, vcap⟩ ⟨0, 0, longF 0 k⟩ (keyC' key 9) (keyS key 9) wr (long_srt k) (HSTA.out _ (Below.refl _ _)) (keyC_is _ _ HKI.out ⟨by decide, by decide⟩) (long_none hno) (by rw [longF_len]; omega))
        go_upto_region 10 with (go_at_call 51; refine HPU.out.mono ?_; rintro e w7 ⟨c8, rfl, hb7, hi8⟩; have HI8 := hid hi8; clear hi8)
        obtain ⟨cn, ct, ca, cl8, cc⟩ := c8
        have e8 : cl8 = k + 1 := by
          have h := HI8.out.l.len
          dsimp only at h
          rw [h, putL_len (long_none hno), longF_len]
        subst e8
        skip
        dsimp only
        clear k0 k1 k2
        obtain ⟨w8, hw8⟩ : ∃ u, u = w7.alloc (.cells #[.int .i64 cn, .int .i64 ct, .slice ca (k + 1) cc] 55) := ⟨_, rfl⟩
        rw [← hw8]
        have HB78 := hid (show Below w7.heap.size w7 w8 by rw [hw8]; exact (Below.refl _ _).alloc (Nat.le_refl _) _)
        have HB8 := hid (show Below wr.heap.size wr w8 from hb7.trans (HB78.out.mono hb7.size))
        have H8 := hid (show w8.heap[w7.heap.size]? = some (.cells #[.int .i64 cn, .int .i64 ct, .slice ca (k + 1) cc] 55) by rw [hw8]; exact heap_alloc_new w7 _)
        have HST8 : Hid (∀ w', Below w8.heap.size w8 w' → IsSta (· < w'.heap.size) w' ⟨cn, ct, ca, k + 1, cc⟩ ⟨0, 0, putL (longF 0 k) (keyS key 9)⟩) := hid fun w' h => HI8.out.same fun b q => ⟨by have := HB78.out.size; have := h.size; omega, (h.block b (by have := HB78.out.size; omega)).trans (HB78.out.block b q)⟩
        have HC8 : Hid (∀ w', Below w8.heap.size w8 w' → (w'.cell? ⟨w7.heap.size, 0, none⟩ = some (.int .i64 cn) ∧ w'.cell? ⟨w7.heap.size, 1, none⟩ = some (.int .i64 ct) ∧ w'.cell? ⟨w7.heap.size, 2, none⟩ = some (.slice ca (k + 1) cc)) ∧ (w'.cell? ⟨w3.heap.size, 0, none⟩ = some (.int .i64 0) ∧ w'.cell? ⟨w3.heap.size, 1, none⟩ = some (.int .i64 0) ∧ w'.cell? ⟨w3.heap.size, 2, none⟩ = some (.slice va k vcap))) := hid fun w' h => by
          have h1 := heapExt h H8.out
          exact ⟨⟨cellOf h1 0, cellOf h1 1, cellOf h1 2⟩, HCB.out _ (HB8.out.trans (h.mono HB8.out.size))⟩
        have HGE : Hid (∀ w', Below w8.heap.size w8 w' → Calls Tryz.prog 36 #[.agg #[.int .i64 cn, .int .i64 ct, .slice ca (k + 1) cc], .agg #[.int .i64 2, .int .i64 key, .int .i64 0, .string ⟨#[]⟩, .slice none 0 0, .slice none 0 0]] w' fun e w2 => ∃ y : SlC, e = .returned (.tuple #[.agg #[.int .i64 y.k.k, .int .i64 y.k.i, .int .i64 y.k.s, .string y.k.t, .slice y.k.la y.k.ll y.k.lc, .slice y.k.fa y.k.fl y.k.fc, .int .i64 y.n, .int .i64 y.t, .slice y.ia y.il y.ic, .slice y.va y.vl y.vc], .bool true]) ∧ Below w'.heap.size w' w2 ∧ y.t = 9) := hid fun w' h => by
          have hc := get_call ⟨cn, ct, ca, k + 1, cc⟩ ⟨0, 0, putL (longF 0 k) (keyS key 9)⟩ ⟨2, key, 0, ⟨#[]⟩, none, 0, 0, none, 0, 0⟩ (intV key) w' (HST8.out w' h) (keyV_is _ _ HKI.out)
          have hs := putL_srt (long_srt k) (keyS key 9)
          refine hc.mono fun e w2 hh => ?_
          obtain ⟨y, dy, q1, q2, q3, q4, q5⟩ := hh
          have e1 : findB (putL (longF 0 k) (keyS key 9)) (intV key) = true := by rw [findB_place hs]; exact putL_found _ (keyS key 9)
          dsimp only at q1 q4
          rw [e1] at q1
          have q6 := q4 e1
          rw [findI_place hs] at q6
          have q7 := (putL_at (longF 0 k) (keyS key 9))
          rw [← putL_place (longF 0 k) (keyS key 9)] at q7
          have q8 : keyS key 9 = dy := Option.some.inj (q7.symm.trans q6)
          exact ⟨y, q1, q2, by rw [q3.t, ← q8]⟩
        clear hw8
        obtain ⟨⟨u0, u1, u2⟩, ⟨k0, k1, k2⟩⟩ := HC8.out _ (Below.refl _ _)
        have hwk : IntKind.i64.wrap ((k : Int) + 1) = (k : Int) + 1 := IntWalk.i64_in _ (by omega)
        go_upto_region 13 with (go_at_call 36; refine (HGE.out _ (Below.refl _ _)).mono ?_; rintro e w9 ⟨y, rfl, hb9, hy9⟩; have HY9 := hid hy9; clear hy9)
        clear u0 u1 u2 k0 k1 k2
        obtain ⟨⟨yk, yi, ys, yt0, yla, yll, ylc, yfa, yfl, yfc⟩, yn, yt, yia, yil, yic, yva, yvl, yvc⟩ := y
        obtain rfl : yt = 9 := HY9.out
        dsimp only
        have HBY := hid ((Below.refl _ w9).alloc (Nat.le_refl _) (.cells #[.int .i64 yk, .int .i64 yi, .int .i64 ys, .string yt0, .slice yla yll ylc, .slice yfa yfl yfc, .int .i64 yn, .int .i64 9, .slice yia yil yic, .slice yva yvl yvc] 58))
        have hbz := hb9.trans (HBY.out.mono hb9.size)
        obtain ⟨⟨u0, u1, u2⟩, ⟨k0, k1, k2⟩⟩ := HC8.out _ hbz
        go_wp2
        go_ret
        exact ⟨rfl, HFIN.out _ (HB8.out.trans (hbz.mono HB8.out.size))⟩
end Go.Proofs.YthjlgpmajeafpaaGreatDoor
