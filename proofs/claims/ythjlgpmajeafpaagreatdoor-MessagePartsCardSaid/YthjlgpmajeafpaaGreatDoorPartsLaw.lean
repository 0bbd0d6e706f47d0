/-
  MessageParts returns true. Conditions: the arguments can be read as data; Tabs.
-/
import Derived.Test.YthjlgpmajeafpaaGreatDoorKnown
import Derived.Test.YthjlgpmajeafpaaGreatDoorEq
import Derived.Test.YthjlgpmajeafpaaGreatDoorChild
import Derived.Test.YthjlgpmajeafpaaGreatDoorWith
import Derived.Test.YthjlgpmajeafpaaGreatDoorPartsM
import Derived.Deep.AppendLies
namespace Go.Proofs.YthjlgpmajeafpaaGreatDoor
open Go Go.RowKit Go.Shelf
set_option linter.unusedVariables false
set_option linter.unusedSimpArgs false

def bodyV (i : Nat) : Val := .mk 9 0 0 ⟨#[]⟩ [] [⟨#[105]⟩] [.mk 2 (i : Int) 0 ⟨#[]⟩ [] [] []]
def bodiesL (K : Nat) : List Val := (List.range K).map bodyV
theorem bodiesL_len (K : Nat) : (bodiesL K).length = K := by simp [bodiesL]
theorem bodiesL_get (K i : Nat) (h : i < (bodiesL K).length) : (bodiesL K)[i] = bodyV i := by simp [bodiesL]
theorem body_isVal (S : Nat → Prop) (w : World) (B i : Nat) (hi : I64 (i : Int)) (hB : S B) (h : w.heap[B]? = some (.cells #[.string ⟨#[105]⟩, .int .i64 2, .int .i64 i, .int .i64 0, .string ⟨#[]⟩, .slice none 0 0, .slice none 0 0] 35)) : IsVal S w (kC B) (bodyV i) := by
  refine ⟨⟨rfl, rfl, rfl, rfl, okK B, rfl, rfl, rfl⟩, .inl rfl, .inr ⟨B, 0, rfl, hB, ?_⟩⟩
  refine ⟨⟨⟨cellOf h 0, by decide⟩, ⟨2, i, 0, ⟨#[]⟩, none, 0, 0, none, 0, 0⟩, ⟨cellOf h 1, cellOf h 2, cellOf h 3, cellOf h 4, cellOf h 5, cellOf h 6⟩, ?_⟩, trivial⟩
  exact ⟨⟨rfl, rfl, rfl, rfl, ⟨(show I64 2 from ⟨by decide, by decide⟩), hi, (show I64 0 from ⟨by decide, by decide⟩), (show (⟨#[]⟩ : ByteArray).size ≤ 140737488351232 by decide), (show 0 * 88 ≤ 140737488351232 by decide), (show 0 * 104 ≤ 140737488351232 by decide), Nat.le_refl _, Nat.le_refl _⟩, rfl, rfl, rfl⟩, .inl rfl, .inl rfl⟩
theorem int_call (i : Int) (w : World) : Calls Tryz.prog 17 #[.int .i64 i] w fun e w' => e = .returned (.agg #[.int .i64 2, .int .i64 i, .int .i64 0, .string ⟨#[]⟩, .slice none 0 0, .slice none 0 0]) ∧ Below w.heap.size w w' := by
  go_enter Tryz.func17, Tryz.ntmps17
  go_wp2
  have hB := heap_alloc_new w (.cells #[.int .i64 2, .int .i64 i, .int .i64 0, .string ⟨#[]⟩, .slice none 0 0, .slice none 0 0] 28)
  exact bodyPost_ret (v := .agg #[.int .i64 2, .int .i64 i, .int .i64 0, .string ⟨#[]⟩, .slice none 0 0, .slice none 0 0]) (by simp [results, Tryz.results17, go_sem, cellOf hB]) rfl ⟨rfl, (Below.refl _ w).alloc (Nat.le_refl _) _⟩

/-- The sum of the first shares. -/
def sumS (M n i : Nat) : Nat := i * (M / n) + min i (M % n)
theorem sumS_succ (M n i : Nat) : sumS M n (i + 1) = sumS M n i + shareN M n i := by
  unfold sumS shareN
  rw [Nat.add_mul]
  split <;> omega
theorem sumS_all (M n : Nat) (hn : 0 < n) : sumS M n n = M := by
  unfold sumS
  have := Nat.mod_lt M hn
  rw [Nat.min_eq_right (by omega)]
  exact Nat.div_add_mod M n
theorem sumS_le (M n i : Nat) (hn : 0 < n) (hi : i ≤ n) : sumS M n i ≤ M := by
  have h := Nat.div_add_mod M n
  unfold sumS
  have h1 : i * (M / n) ≤ n * (M / n) := Nat.mul_le_mul_right _ hi
  have h2 : min i (M % n) ≤ M % n := Nat.min_le_right _ _
  omega
theorem partsL_get (d : Msg) (M : Nat) (bs : List Val) (i : Nat) (h : i < bs.length) (h' : i < (partsL d M bs).length) : (partsL d M bs)[i] = ⟨⟨d.st.e, d.st.ps ++ [(i : Int)]⟩, (shareN M bs.length i : Nat), d.es, bs[i]⟩ := by
  simp [partsL, partP, shareL, h]

set_option maxRecDepth 100000 in
set_option maxHeartbeats 16000000 in
theorem partsLaw_call (c : MC) (d : Msg) (n0 : Int) (w : World) (hd : IsMsg (· < w.heap.size) w c d) (hn0 : 0 ≤ n0) (hn1 : n0 ≤ 255) (hT : Tabs w) : Calls Tryz.prog 3 #[c.v, .int .u8 n0] w fun e w' => e = .returned (.bool true) ∧ Below w.heap.size w w' := by
  obtain ⟨ti, hi, hz0, hz1, hz2⟩ := info_parts infoValue
  have hb0 : Below w.heap.size w (w.alloc (mObj c)) := (Below.refl _ w).alloc (Nat.le_refl _) _
  have later : ∀ w2, Below (w.alloc (mObj c)).heap.size (w.alloc (mObj c)) w2 → Below w.heap.size w w2 ∧ IsMsg (· < w2.heap.size) w2 c d ∧ Tabs w2 := fun w2 h => by
    have hb := hb0.trans (h.mono hb0.size)
    exact ⟨hb, hd.same fun b q => ⟨Nat.lt_of_lt_of_le q hb.size, hb.block b q⟩, hT.below hb⟩
  have HTEN : Hid (∀ w2, Below (w.alloc (mObj c)).heap.size (w.alloc (mObj c)) w2 → Ten w2 w.heap.size c) := hid fun w2 h => tenOf (heapExt h (heap_alloc_new w _))
  have HK : Hid (∀ w2, Below (w.alloc (mObj c)).heap.size (w.alloc (mObj c)) w2 → Calls Tryz.prog 15 #[] w2 fun e w' => e = .returned (.bool true) ∧ Below w2.heap.size w2 w') := hid fun w2 h => known_call w2 (later w2 h).2.2
  have HS1 : Hid (∀ w2, Below (w.alloc (mObj c)).heap.size (w.alloc (mObj c)) w2 → Calls Tryz.prog 16 #[c.v] w2 (SmallPost w2 c)) := hid fun w2 h => small_call c d w2 (later w2 h).2.1
  have LAT := hid later
  have HB1 := hid hb0
  have HM := hid hd.m
  clear later hd hT hb0
  obtain ⟨⟨ce, sa, sn, sc⟩, m, a, n, cap, ⟨k0, i', s, t, la, ll, lc, fa, fl, fc⟩⟩ := c
  dsimp only [mObj, MC.v, Ten] at HTEN HK HS1 LAT HB1 HM ⊢
  obtain ⟨K, hK⟩ : ∃ K : Nat, (K : Int) = n0 % 101 := ⟨(n0 % 101).toNat, by omega⟩
  have hK1 : K ≤ 100 := by omega
  have HKK := hid hK
  clear hK
  go_enter Tryz.func3, Tryz.ntmps3
  by_cases qm : m < 0
  · go_wp2_with (first
    | (go_at_call 15; refine (HK.out _ hb3).mono ?_; rintro e w9 ⟨rfl, hb9⟩; have hbz := HB1.out.trans ((hb3.trans (hb9.mono hb3.size)).mono HB1.out.size))
    | (go_at_call 15; refine (HK.out _ (Below.refl _ _)).mono ?_; rintro e w2 ⟨rfl, hb2⟩; have t0 := HTEN.out _ hb2; obtain ⟨e0, e1, e2, e3, e4, e5, e6, e7, e8, e9⟩ := t0)
    | (go_at_call 16; refine (HS1.out _ hb2).mono ?_; rintro e w3 ⟨⟨b1, rfl, hs1⟩, hb3'⟩; have hb3 := hb2.trans (hb3'.mono hb2.size); clear e0 e1 e2 e3 e4 e5 e6 e7 e8 e9; have t0 := HTEN.out _ hb3; obtain ⟨j0, j1, j2, j3, j4, j5, j6, j7, j8, j9⟩ := t0; cases b1))
    all_goals go_ret
    all_goals exact ⟨rfl, hbz⟩
  by_cases qm2 : 1099511627776 < m
  · go_wp2_with (first
    | (go_at_call 15; refine (HK.out _ hb3).mono ?_; rintro e w9 ⟨rfl, hb9⟩; have hbz := HB1.out.trans ((hb3.trans (hb9.mono hb3.size)).mono HB1.out.size))
    | (go_at_call 15; refine (HK.out _ (Below.refl _ _)).mono ?_; rintro e w2 ⟨rfl, hb2⟩; have t0 := HTEN.out _ hb2; obtain ⟨e0, e1, e2, e3, e4, e5, e6, e7, e8, e9⟩ := t0)
    | (go_at_call 16; refine (HS1.out _ hb2).mono ?_; rintro e w3 ⟨⟨b1, rfl, hs1⟩, hb3'⟩; have hb3 := hb2.trans (hb3'.mono hb2.size); clear e0 e1 e2 e3 e4 e5 e6 e7 e8 e9; have t0 := HTEN.out _ hb3; obtain ⟨j0, j1, j2, j3, j4, j5, j6, j7, j8, j9⟩ := t0; cases b1))
    all_goals go_ret
    all_goals exact ⟨rfl, hbz⟩
  obtain ⟨M, rfl⟩ : ∃ M : Nat, m = (M : Int) := ⟨m.toNat, by omega⟩
  have hM : M ≤ 1099511627776 := by omega
  go_upto_region 4 with (first
    | (go_at_call 15; refine (HK.out _ hb3).mono ?_; rintro e w9 ⟨rfl, hb9⟩; have hbz := HB1.out.trans ((hb3.trans (hb9.mono hb3.size)).mono HB1.out.size))
    | (go_at_call 15; refine (HK.out _ (Below.refl _ _)).mono ?_; rintro e w2 ⟨rfl, hb2⟩; have t0 := HTEN.out _ hb2; obtain ⟨e0, e1, e2, e3, e4, e5, e6, e7, e8, e9⟩ := t0)
    | (go_at_call 16; refine (HS1.out _ hb2).mono ?_; rintro e w3 ⟨⟨b1, rfl, hs1⟩, hb3'⟩; have hb3 := hb2.trans (hb3'.mono hb2.size); clear e0 e1 e2 e3 e4 e5 e6 e7 e8 e9; have t0 := HTEN.out _ hb3; obtain ⟨j0, j1, j2, j3, j4, j5, j6, j7, j8, j9⟩ := t0; cases b1))
  · go_ret
    exact ⟨rfl, hbz⟩
  have hs2 : sn ≤ 40 ∧ n ≤ 300 := hs1 (by simp)
  have HS2 := hid hs2
  have HB3 := hid hb3
  clear j0 j1 j2 j3 j4 j5 j6 j7 j8 j9 hb2 hb3' hb3 hs1 hs2 qm qm2
  go_wp2
  rw [← HKK.out]
  go_loopw [6, 7] (fun vv i wr => ∃ (k : Nat) (v : Value), v = vv ∧ k ≤ K ∧ i = .int .i64 k ∧ BuiltV 28 w3.heap.size wr v k (bodiesL K) ∧ Below w3.heap.size w3 wr) (fun _ i _ => K - (intOf i).toNat)
  case atStart => exact ⟨0, _, rfl, Nat.zero_le _, rfl, BuiltV.nil _ _ _ _, Below.refl _ _⟩
  case round =>
    obtain ⟨k, v, rfl, hk, rfl, hbu, hbr⟩ := hrel
    by_cases hlt : k < K
    · have hlt' : (k : Int) < (K : Int) := by omega
      have hk0 : (0 : Int) ≤ (k : Int) := by omega
      have hK63 : (K : Int) ≤ 100 := by omega
      obtain ⟨cs, hcs, hown, hel⟩ := hbu
      have hvb := BuiltV.own ⟨cs, hcs, hown, hel⟩
      have HVB := hid hvb
      have HOWN := hid hown
      have HEL := hid hel
      have HCS := hid hcs
      have HBR := hid hbr
      clear hvb hown hel hcs hbr
      have hcap1 : k + 1 ≤ maxLen := by unfold maxLen; omega
      have hcap2 : (k + 1) * 88 ≤ 140737488355328 := by omega
      go_wp2_with (first
        | (go_at_call 17; refine (int_call k wr).mono ?_; rintro e w4 ⟨rfl, hb4⟩)
        | (at_builtin; refine wpList_append_lies _ (by rfl) _ _ 25 (by rfl) w3.heap.size 28 ti _ 6 88 Tryz.underlying25 hi hz0 hz1 hz2 rfl (by omega) v k (cs.flatMap VC.cs) (by rfl) (((ownExt HOWN.out hb4).alloc (.cells #[.string ⟨#[105]⟩, .int .i64 2, .int .i64 k, .int .i64 0, .string ⟨#[]⟩, .slice none 0 0, .slice none 0 0] 35)).alloc (.cells #[.int .i64 9, .int .i64 0, .int .i64 0, .string ⟨#[]⟩, .slice none 0 0, .slice (some ⟨w4.heap.size, 0, none⟩) 1 1] 28)) ⟨w4.heap.size + 1, 0, none⟩ 1 1 (VC.cs (kC w4.heap.size)) (by rfl) (by rfl) (World.news_of_block (heapNewAt (w4.alloc (.cells #[.string ⟨#[105]⟩, .int .i64 2, .int .i64 k, .int .i64 0, .string ⟨#[]⟩, .slice none 0 0, .slice none 0 0] 35)) (.cells #[.int .i64 9, .int .i64 0, .int .i64 0, .string ⟨#[]⟩, .slice none 0 0, .slice (some ⟨w4.heap.size, 0, none⟩) 1 1] 28) (w4.heap.size + 1) (by simp))) (by simp [VC.cs, Value.oneCell']) (by omega) hcap1 hcap2 (by have h1 := HBR.out.size; have h2 := hb4.size; simp; omega) (w4.heap.size + 1 + 1) (by simp) ?_; intro gg cap5 w5 hown2 hgrow hat hlt2; have HO2 := hid hown2; have HG := hid hgrow; have HAT := hid hat; clear hown2 hgrow hat hlt2))
      go_roundw
      case rel =>
        have h34 : Below w3.heap.size w3 w4 := HBR.out.trans (hb4.mono HBR.out.size)
        have hs34 := HBR.out.size
        have hs4 := hb4.size
        have hF : (w4.alloc (.cells #[.string ⟨#[105]⟩, .int .i64 2, .int .i64 k, .int .i64 0, .string ⟨#[]⟩, .slice none 0 0, .slice none 0 0] 35)).heap[w4.heap.size]? = some (.cells #[.string ⟨#[105]⟩, .int .i64 2, .int .i64 k, .int .i64 0, .string ⟨#[]⟩, .slice none 0 0, .slice none 0 0] 35) := heap_alloc_new w4 _
        have hpush : BuiltV 28 w3.heap.size w5 (.slice (some ⟨gg, 0, none⟩) (k + 1) cap5) (k + 1) (bodiesL K) :=
          BuiltV.push (N := w4.heap.size) (w1 := w4.alloc (.cells #[.string ⟨#[105]⟩, .int .i64 2, .int .i64 k, .int .i64 0, .string ⟨#[]⟩, .slice none 0 0, .slice none 0 0] 35)) (o := (.cells #[.int .i64 9, .int .i64 0, .int .i64 0, .string ⟨#[]⟩, .slice none 0 0, .slice (some ⟨w4.heap.size, 0, none⟩) 1 1] 28)) (c := kC w4.heap.size) HCS.out (fun j hj hj' => (HEL.out j hj hj').same fun b hb => ⟨⟨hb.1, by have := hb.2.1; simp; omega, hb.2.2⟩, (Below.heap_alloc _ _ _ (by have := hb.2.1; omega)).trans (hb4.block b hb.2.1)⟩) (by rw [bodiesL_len]; exact hlt)
            (by rw [bodiesL_get]; exact body_isVal _ _ w4.heap.size k ⟨by omega, by omega⟩ ⟨Nat.le_refl _, by simp⟩ hF) (by omega) (fun r e => by have := (HVB.out r e).2; omega) HO2.out HG.out (HAT.out.imp id fun h => by rw [h]; simp)
        exact ⟨k + 1, _, rfl, by omega, by go_num, hpush, ((h34.alloc h34.size _).alloc (by simp; omega) _).grown HG.out (by simp; omega) (fun r e => (HVB.out r e).1)⟩
      case measure => simp [intOf]; omega
    · obtain rfl : k = K := by omega
      clear hlt
      obtain ⟨wp, rfl⟩ : ∃ wp : World, wp = wr := ⟨_, rfl⟩
      have hbwr : Below (w.alloc (.cells #[.int .i64 ce, .slice sa sn sc, .int .i64 (M : Int), .slice a n cap, .int .i64 k0, .int .i64 i', .int .i64 s, .string t, .slice la ll lc, .slice fa fl fc] 30)).heap.size (w.alloc (.cells #[.int .i64 ce, .slice sa sn sc, .int .i64 (M : Int), .slice a n cap, .int .i64 k0, .int .i64 i', .int .i64 s, .string t, .slice la ll lc, .slice fa fl fc] 30)) wp := HB3.out.trans (hbr.mono HB3.out.size)
      obtain ⟨av, capv, rfl, hcv, _, _⟩ := hbu.shape
      have hvals : bodiesL k = [] ∨ ∃ b o, av = some ⟨b, o, none⟩ ∧ (w3.heap.size ≤ b ∧ b < wp.heap.size) ∧ IsVals (fun b => w3.heap.size ≤ b ∧ b < wp.heap.size) wp b o (bodiesL k) := by
        have h := hbu
        have e := bodiesL_len k
        revert h e
        generalize bodiesL k = l
        intro h e
        subst e
        exact h.vals
      have HVALS := hid hvals
      have HBWR := hid hbwr
      have HP := hid (partsM_call ⟨⟨ce, sa, sn, sc⟩, (M : Int), a, n, cap, ⟨k0, i', s, t, la, ll, lc, fa, fl, fc⟩⟩ d av k capv (bodiesL k) wp M (LAT.out wp hbwr).2.1 (bodiesL_len k).symm hcv (hvals.imp id fun ⟨b, o, h1, h2, h3⟩ => ⟨b, o, h1, h2.2, IsVals.same (fun b q => ⟨q.2, rfl⟩) rfl h3⟩) HM.out.symm hM (by omega) (by have := HS2.out; dsimp only; omega))
      have t0 := HTEN.out _ hbwr
      obtain ⟨j0, j1, j2, j3, j4, j5, j6, j7, j8, j9⟩ := t0
      clear hbu hvals hbr hbwr
      dsimp only [MC.v] at HP
      go_wp2_with (go_at_call 18; refine HP.out.mono ?_; rintro e wq ⟨aq, capq, rfl, hbq, hms⟩; have HMS := hid hms; have HBQ := hid hbq; clear hms hbq j0 j1 j2 j3 j4 j5 j6 j7 j8 j9)
      go_loopw [9, 10] (fun sv iv wl => ∃ i : Nat, i ≤ k ∧ iv = .int .i64 i ∧ sv = .int .i64 (sumS M k i : Nat) ∧ Below wq.heap.size wq wl) (fun _ iv _ => k - (intOf iv).toNat)
      case atStart => exact ⟨0, Nat.zero_le _, rfl, by rw [show sumS M k 0 = 0 by simp [sumS]]; rfl, Below.refl _ _⟩
      case round =>
        obtain ⟨i, hik, rfl, rfl, hbl⟩ := hrel
        obtain ⟨wl, rfl⟩ : ∃ wl : World, wl = wr := ⟨_, rfl⟩
        have hbwl : Below (w.alloc (.cells #[.int .i64 ce, .slice sa sn sc, .int .i64 (M : Int), .slice a n cap, .int .i64 k0, .int .i64 i', .int .i64 s, .string t, .slice la ll lc, .slice fa fl fc] 30)).heap.size (w.alloc (.cells #[.int .i64 ce, .slice sa sn sc, .int .i64 (M : Int), .slice a n cap, .int .i64 k0, .int .i64 i', .int .i64 s, .string t, .slice la ll lc, .slice fa fl fc] 30)) wl := (HBWR.out.trans (HBQ.out.mono HBWR.out.size)).trans (hbl.mono (Nat.le_trans HBWR.out.size HBQ.out.size))
        have HBWL := hid hbwl
        have hbrl : Below wp.heap.size wp wl := HBQ.out.trans (hbl.mono HBQ.out.size)
        by_cases hlt : i < k
        · have hlt' : (i : Int) < (k : Int) := by omega
          have hk100 : (k : Int) ≤ 100 := by omega
          have hi0 : (0 : Int) ≤ (i : Int) := by omega
          have hnz : ¬ (k : Int) = 0 := by omega
          have hnzN : ¬ k = 0 := by omega
          have hplen : (partsL d M (bodiesL k)).length = k := by simp [partsL, shareL, bodiesL]
          have hblen := bodiesL_len k
          obtain ⟨bv, ov, rfl, hbv, hvs⟩ : ∃ b o, av = some ⟨b, o, none⟩ ∧ (w3.heap.size ≤ b ∧ b < wp.heap.size) ∧ IsVals (fun b => w3.heap.size ≤ b ∧ b < wp.heap.size) wp b o (bodiesL k) := HVALS.out.resolve_left fun h => by rw [h] at hblen; simp at hblen; omega
          obtain ⟨bq, oq, rfl, hbq2, hx⟩ := HMS.out.at'.resolve_left fun h => by rw [h] at hplen; simp at hplen; omega
          obtain ⟨x0, h0, i0⟩ := hx 0 (by omega)
          obtain ⟨xi, hxi, ii⟩ := hx i (by omega)
          rw [partsL_get d M (bodiesL k) 0 (by omega) (by omega), bodiesL_get k 0 (by omega)] at i0
          rw [partsL_get d M (bodiesL k) i (by omega) (by omega), bodiesL_get k i (by omega)] at ii
          rw [hblen] at i0 ii
          obtain ⟨y, hy, hyv⟩ := hvs.get i (by omega)
          rw [bodiesL_get k i (by omega)] at hyv
          clear hx hvs
          obtain ⟨s0, hs0⟩ : ∃ s0, s0 = shareN M k 0 := ⟨_, rfl⟩
          obtain ⟨si, hsi0⟩ : ∃ si, si = shareN M k i := ⟨_, rfl⟩
          obtain ⟨sq, hsq⟩ : ∃ sq, sq = M / k := ⟨_, rfl⟩
          rw [← hs0] at i0
          rw [← hsi0] at ii
          have hbd0 : s0 ≤ 1099511627777 := by rw [hs0]; exact shareN_le M k 0 hM
          have hbdi : si ≤ 1099511627777 := by rw [hsi0]; exact shareN_le M k i hM
          have hsqb : sq ≤ 1099511627776 := by rw [hsq]; exact Nat.le_trans (Nat.div_le_self M k) hM
          have hd1 : si ≤ s0 ∧ s0 ≤ si + 1 := by
            rw [hs0, hsi0]; unfold shareN
            have := Nat.mod_lt M (show 0 < k by omega)
            split <;> split <;> omega
          have hd2 : (s0 : Int) - (si : Int) ≤ 1 := by omega
          have hd3 : (0 : Int) ≤ (s0 : Int) - (si : Int) := by omega
          have hd4 : (si : Int) ≤ (s0 : Int) := by omega
          have hsm : sumS M k i ≤ M := sumS_le M k i (by omega) (by omega)
          have hsm' : (sumS M k i : Int) ≤ 1099511627776 := by omega
          have hsm0 : (0 : Int) ≤ (sumS M k i : Int) := by omega
          have hsi' : (si : Int) ≤ 1099511627777 := by omega
          have hsq' : (sq : Int) ≤ 1099511627776 := by omega
          have HD := hid (And.intro hd2 (And.intro hd3 (And.intro hd4 (And.intro hsm' (And.intro hsm0 (And.intro hsi' hsq'))))))
          clear hd2 hd3 hd4 hsm' hsm0 hsi' hsq'
          have HQ : Hid (IntKind.i64.wrap ((M : Int) / (k : Int)) = (sq : Int)) := hid (by
            rw [hsq, Int.natCast_ediv]
            have h1 : ((M / k : Nat) : Int) ≤ M := by exact_mod_cast Nat.div_le_self M k
            rw [Int.natCast_ediv] at h1
            have h2 : (0 : Int) ≤ ((M / k : Nat) : Int) := Int.natCast_nonneg _
            rw [Int.natCast_ediv] at h2
            obtain ⟨z, hz⟩ : ∃ z : Int, z = (M : Int) / (k : Int) := ⟨_, rfl⟩
            rw [← hz] at h1 h2 ⊢
            exact IntWalk.i64_in z (by have h6 : (M : Int) ≤ 1099511627776 := Int.ofNat_le.2 hM; omega))
          have HSI := hid hsi0
          have HSQ := hid hsq
          have HSIM := hid (show xi.m = ((si : Nat) : Int) from ii.m)
          have HS0M := hid (show x0.m = ((s0 : Nat) : Int) from i0.m)
          have HSIB := hid hbdi
          have HX20 : Hid (∀ w', Below wl.heap.size wl w' → AtM w' bq (oq + i * 10) xi ∧ AtM w' bq oq x0) := hid fun w' h => by
            have hb := hbl.trans (h.mono hbl.size)
            have h0' := h0
            rw [Nat.zero_mul, Nat.add_zero] at h0'
            exact ⟨hxi.same (hb.block bq hbq2.2), h0'.same (hb.block bq hbq2.2)⟩
          have IIX : Hid (∀ w', Below wl.heap.size wl w' → IsMsg (· < w'.heap.size) w' xi ⟨⟨d.st.e, d.st.ps ++ [(i : Int)]⟩, (si : Nat), d.es, bodyV i⟩ ∧ IsVal (· < w'.heap.size) w' y (bodyV i) ∧ IsInts (· < w'.heap.size) w' a n cap d.es) := hid fun w' h => by
            have hb := hbl.trans (h.mono hbl.size)
            have hbr2 := hbrl.trans (h.mono hbrl.size)
            have hs1 := hb.size
            have hs2 := hbr2.size
            exact ⟨ii.same fun b q => ⟨by omega, hb.block b q.2⟩, hyv.same fun b q => ⟨by omega, hbr2.block b q.2⟩, (LAT.out w' (hbwl.trans (h.mono hbwl.size))).2.1.es⟩
          have HC17 : Hid (∀ w', Below wl.heap.size wl w' → (w'.cell? ⟨w.heap.size, 0, none⟩ = some (.int .i64 ce) ∧ w'.cell? ⟨w.heap.size, 1, none⟩ = some (.slice sa sn sc) ∧ w'.cell? ⟨w.heap.size, 2, none⟩ = some (.int .i64 (M : Int)) ∧ w'.cell? ⟨w.heap.size, 3, none⟩ = some (.slice a n cap) ∧ w'.cell? ⟨w.heap.size, 4, none⟩ = some (.int .i64 k0) ∧ w'.cell? ⟨w.heap.size, 5, none⟩ = some (.int .i64 i') ∧ w'.cell? ⟨w.heap.size, 6, none⟩ = some (.int .i64 s) ∧ w'.cell? ⟨w.heap.size, 7, none⟩ = some (.string t) ∧ w'.cell? ⟨w.heap.size, 8, none⟩ = some (.slice la ll lc) ∧ w'.cell? ⟨w.heap.size, 9, none⟩ = some (.slice fa fl fc)) ∧ w'.cell? ⟨bv, ov + i * 6, none⟩ = some (.int .i64 y.k) ∧ w'.cell? ⟨bv, ov + i * 6 + 1, none⟩ = some (.int .i64 y.i) ∧ w'.cell? ⟨bv, ov + i * 6 + 2, none⟩ = some (.int .i64 y.s) ∧ w'.cell? ⟨bv, ov + i * 6 + 3, none⟩ = some (.string y.t) ∧ w'.cell? ⟨bv, ov + i * 6 + 4, none⟩ = some (.slice y.la y.ll y.lc) ∧ w'.cell? ⟨bv, ov + i * 6 + 5, none⟩ = some (.slice y.fa y.fl y.fc)) := hid fun w' h => by
            have h1 := HTEN.out w' (hbwl.trans (h.mono hbwl.size))
            have h2 := hy.same (w' := w') ((hbrl.trans (h.mono hbrl.size)).block bv hbv.2)
            exact ⟨h1, h2.k, h2.i, h2.s, h2.t, h2.l, h2.f⟩
          have HCH : Hid (∀ w', Below wl.heap.size wl w' → Calls Tryz.prog 19 #[.agg #[.int .i64 ce, .slice sa sn sc], .int .i64 (i : Int)] w' (StPost w' ⟨d.st.e, d.st.ps ++ [(i : Int)]⟩)) := hid fun w' h => child_call ⟨ce, sa, sn, sc⟩ d.st i w' ⟨by omega, by omega⟩ (by have := HS2.out; dsimp only; omega) (LAT.out w' (hbwl.trans (h.mono hbwl.size))).2.1.st
          have HBL := hid hbl
          have t0 := HTEN.out _ hbwl
          obtain ⟨j0, j1, j2, j3, j4, j5, j6, j7, j8, j9⟩ := t0
          clear hs0 hsi0 hsq hd1 hbd0 hbdi hsqb hsm h0 hxi i0 ii hy hyv hbwl hbrl hbl hplen hblen hbv hbq2
          go_upto_region 17 with (fail)
          obtain ⟨wa, hwa⟩ : ∃ wa, wa = wl.alloc (.cells #[.int .i64 ce, .slice sa sn sc, .int .i64 (M : Int), .slice a n cap, .int .i64 k0, .int .i64 i', .int .i64 s, .string t, .slice la ll lc, .slice fa fl fc] 30) := ⟨_, rfl⟩
          rw [← hwa]
          have HSA := hid (show Below wl.heap.size wl wa by rw [hwa]; exact (Below.refl _ wl).alloc (Nat.le_refl _) _)
          have MA := hid (show wa.heap[wl.heap.size]? = some (.cells #[.int .i64 ce, .slice sa sn sc, .int .i64 (M : Int), .slice a n cap, .int .i64 k0, .int .i64 i', .int .i64 s, .string t, .slice la ll lc, .slice fa fl fc] 30) by rw [hwa]; exact heap_alloc_new _ _)
          have HSAZ := hid (show wa.heap.size = wl.heap.size + 1 by rw [hwa]; simp)
          clear hwa j0 j1 j2 j3 j4 j5 j6 j7 j8 j9
          refine wp_region_held_drew (S := (fun w' => Below wl.heap.size wl w')) (by kernel_rfl) (HSA.out.drew) (fun hS => ?_)
          refine wpAnyH_take (i := 0) (oi := _) (v := ?_) rfl (by kernel_rfl) (by kernel_rfl) (by kernel_rfl) (fun _ _ _ h => h) (Or.inl ⟨by rfl, ?_⟩) hS ?_
          rotate_left
          · intro w' hw'
            have hcells := HC17.out w' hw'
            go_simp
            (try with_reducible rfl)
          simp only [Act.put, List.getElem_toArray, List.getElem_cons_succ, List.getElem_cons_zero, List.setIfInBounds_toArray, List.set_cons_zero, List.set_cons_succ]
          refine wpAnyH_take (i := 1) (oi := _) (v := ?_) rfl (by kernel_rfl) (by kernel_rfl) (by kernel_rfl) (fun _ _ _ h => h) (Or.inl ⟨by rfl, ?_⟩) hS ?_
          rotate_left
          · intro w' hw'
            have hcells := HC17.out w' hw'
            go_simp
            (try with_reducible rfl)
          simp only [Act.put, List.getElem_toArray, List.getElem_cons_succ, List.getElem_cons_zero, List.setIfInBounds_toArray, List.set_cons_zero, List.set_cons_succ]
          refine wpAnyH_take (i := 2) (oi := _) (v := ?_) rfl (by kernel_rfl) (by kernel_rfl) (by kernel_rfl) (fun _ _ _ h => h) (Or.inl ⟨by rfl, ?_⟩) hS ?_
          rotate_left
          · intro w' hw'
            have hcells := HC17.out w' hw'
            go_simp
            (try with_reducible rfl)
          simp only [Act.put, List.getElem_toArray, List.getElem_cons_succ, List.getElem_cons_zero, List.setIfInBounds_toArray, List.set_cons_zero, List.set_cons_succ]
          refine wpAnyH_take (i := 4) (oi := _) (v := ?_) rfl (by kernel_rfl) (by kernel_rfl) (by kernel_rfl) (fun _ _ _ h => h) (Or.inl ⟨by rfl, ?_⟩) hS ?_
          rotate_left
          · intro w' hw'
            have hcells := HC17.out w' hw'
            go_simp
            (try with_reducible rfl)
          simp only [Act.put, List.getElem_toArray, List.getElem_cons_succ, List.getElem_cons_zero, List.setIfInBounds_toArray, List.set_cons_zero, List.set_cons_succ]
          refine wpAnyH_take (i := 5) (oi := _) (v := ?_) rfl (by kernel_rfl) (by kernel_rfl) (by kernel_rfl) (fun _ _ _ h => h) (Or.inl ⟨by rfl, ?_⟩) hS ?_
          rotate_left
          · intro w' hw'
            have hcells := HC17.out w' hw'
            go_simp
            (try with_reducible rfl)
          simp only [Act.put, List.getElem_toArray, List.getElem_cons_succ, List.getElem_cons_zero, List.setIfInBounds_toArray, List.set_cons_zero, List.set_cons_succ]
          refine wpAnyH_take (i := 6) (oi := _) (v := ?_) rfl (by kernel_rfl) (by kernel_rfl) (by kernel_rfl) (fun _ _ _ h => h) (Or.inl ⟨by rfl, ?_⟩) hS ?_
          rotate_left
          · intro w' hw'
            have hcells := HC17.out w' hw'
            go_simp
            (try with_reducible rfl)
          simp only [Act.put, List.getElem_toArray, List.getElem_cons_succ, List.getElem_cons_zero, List.setIfInBounds_toArray, List.set_cons_zero, List.set_cons_succ]
          refine wpAnyH_take (i := 7) (oi := _) (v := ?_) rfl (by kernel_rfl) (by kernel_rfl) (by kernel_rfl) (fun _ _ _ h => h) (Or.inl ⟨by rfl, ?_⟩) hS ?_
          rotate_left
          · intro w' hw'
            have hcells := HC17.out w' hw'
            go_simp
            (try with_reducible rfl)
          simp only [Act.put, List.getElem_toArray, List.getElem_cons_succ, List.getElem_cons_zero, List.setIfInBounds_toArray, List.set_cons_zero, List.set_cons_succ]
          refine wpAnyH_take (i := 8) (oi := _) (v := ?_) rfl (by kernel_rfl) (by kernel_rfl) (by kernel_rfl) (fun _ _ _ h => h) (Or.inl ⟨by rfl, ?_⟩) hS ?_
          rotate_left
          · intro w' hw'
            have hcells := HC17.out w' hw'
            go_simp
            (try with_reducible rfl)
          simp only [Act.put, List.getElem_toArray, List.getElem_cons_succ, List.getElem_cons_zero, List.setIfInBounds_toArray, List.set_cons_zero, List.set_cons_succ]
          refine wpAnyH_take (i := 9) (oi := _) (v := ?_) rfl (by kernel_rfl) (by kernel_rfl) (by kernel_rfl) (fun _ _ _ h => h) (Or.inl ⟨by rfl, ?_⟩) hS ?_
          rotate_left
          · intro w' hw'
            have hcells := HC17.out w' hw'
            go_simp
            (try with_reducible rfl)
          simp only [Act.put, List.getElem_toArray, List.getElem_cons_succ, List.getElem_cons_zero, List.setIfInBounds_toArray, List.set_cons_zero, List.set_cons_succ]
          refine wpAnyH_take (i := 10) (oi := _) (v := ?_) rfl (by kernel_rfl) (by kernel_rfl) (by kernel_rfl) (fun _ _ _ h => h) (Or.inl ⟨by rfl, ?_⟩) hS ?_
          rotate_left
          · intro w' hw'
            have hcells := HC17.out w' hw'
            go_simp
            (try with_reducible rfl)
          simp only [Act.put, List.getElem_toArray, List.getElem_cons_succ, List.getElem_cons_zero, List.setIfInBounds_toArray, List.set_cons_zero, List.set_cons_succ]
          refine wpAnyH_take (i := 11) (oi := _) (v := ?_) rfl (by kernel_rfl) (by kernel_rfl) (by kernel_rfl) (fun _ _ _ h => h) (Or.inl ⟨by rfl, ?_⟩) hS ?_
          rotate_left
          · intro w' hw'
            have hcells := HC17.out w' hw'
            go_simp
            (try with_reducible rfl)
          simp only [Act.put, List.getElem_toArray, List.getElem_cons_succ, List.getElem_cons_zero, List.setIfInBounds_toArray, List.set_cons_zero, List.set_cons_succ]
          refine wpAnyH_ready (rs := [3]) (by kernel_rfl) (by simp) ?_
          refine AllReadyH.cons (o := _) rfl (fun K hK => ?_) AllReadyH.nil
          go_simp; go_at_call 19; refine (HCH.out _ hS).mono ?_
          rintro e w6 ⟨⟨ve, va, vn, vc⟩, rfl, hb1, hi6⟩
          have M6 := hid (heapExt hb1 MA.out)
          have HI6 := hid (hi6.same (S' := fun b => wl.heap.size + 1 ≤ b ∧ b < w6.heap.size) fun b q => ⟨⟨by have h1 := q.1; have h2 := HSAZ.out; simp at h1; omega, q.2⟩, rfl⟩)
          clear hi6
          refine hK.out _ _ (hS.trans (hb1.mono hS.size)) (fun hS => ?_)
          clear hK K
          (try simp only [Act.put, List.getElem_toArray, List.getElem_cons_succ, List.getElem_cons_zero, List.setIfInBounds_toArray, List.set_cons_zero, List.set_cons_succ])
          refine wpAnyH_take (i := 12) (oi := _) (v := ?_) rfl (by kernel_rfl) (by kernel_rfl) (by kernel_rfl) (fun _ _ _ h => h) (Or.inl ⟨by rfl, ?_⟩) hS ?_
          rotate_left
          · intro w' hw'
            have hcells := HC17.out w' hw'
            go_simp
            (try with_reducible rfl)
          simp only [Act.put, List.getElem_toArray, List.getElem_cons_succ, List.getElem_cons_zero, List.setIfInBounds_toArray, List.set_cons_zero, List.set_cons_succ]
          refine wpAnyH_ready (rs := [13]) (by kernel_rfl) (by simp) ?_
          refine AllReadyH.cons (o := _) rfl (fun K hK => ?_) AllReadyH.nil
          have m6 := M6.out
          have z0 := cellOf m6 0
          have zf0 := freeOf m6 0
          have z1 := cellOf m6 1
          have zf1 := freeOf m6 1
          (try dsimp only at z0 z1)
          clear m6
          go_simp
          obtain ⟨w7, hw7⟩ : ∃ w7, w7 = setTwo w6 wl.heap.size ⟨ve, va, vn, vc⟩ := ⟨_, rfl⟩
          dsimp only [setTwo] at hw7
          rw [← hw7]
          have M7 := hid (show w7.heap[wl.heap.size]? = some (.cells #[.int .i64 ve, .slice va vn vc, .int .i64 (M : Int), .slice a n cap, .int .i64 k0, .int .i64 i', .int .i64 s, .string t, .slice la ll lc, .slice fa fl fc] 30) by
            have h := (heapSet (o := 1) (.slice va vn vc) (heapSet (o := 0) (.int .i64 ve) M6.out))
            simp only [List.setIfInBounds_toArray, List.set_cons_zero, List.set_cons_succ] at h
            rw [hw7]; exact h)
          have HS7 := hid (show Below wl.heap.size wl w7 by rw [hw7]; exact Below.trans hS (setTwo_below (c := ⟨ve, va, vn, vc⟩) w6 wl.heap.size wl.heap.size (Nat.le_refl _)))
          have HZ7 := hid (show w7.heap.size = w6.heap.size by rw [hw7]; exact setTwo_size (c := ⟨ve, va, vn, vc⟩) w6 wl.heap.size)
          have HO7 := hid (show ∀ b, b ≠ wl.heap.size → w7.heap[b]? = w6.heap[b]? from fun b hb => by rw [hw7]; exact setTwo_other (c := ⟨ve, va, vn, vc⟩) w6 wl.heap.size b hb)
          clear hw7 M6 z0 zf0 z1 zf1
          refine hK.out _ _ (HS7.out) (fun hS => ?_)
          clear hK K
          (try simp only [Act.put, List.getElem_toArray, List.getElem_cons_succ, List.getElem_cons_zero, List.setIfInBounds_toArray, List.set_cons_zero, List.set_cons_succ])
          refine wpAnyH_take (i := 14) (oi := _) (v := ?_) rfl (by kernel_rfl) (by kernel_rfl) (by kernel_rfl) (fun _ _ _ h => h) (Or.inl ⟨by rfl, ?_⟩) hS ?_
          rotate_left
          · intro w' hw'
            have hcells := HC17.out w' hw'
            go_simp
            (try with_reducible rfl)
          simp only [Act.put, List.getElem_toArray, List.getElem_cons_succ, List.getElem_cons_zero, List.setIfInBounds_toArray, List.set_cons_zero, List.set_cons_succ]
          refine wpAnyH_ready (rs := [15]) (by kernel_rfl) (by simp) ?_
          refine AllReadyH.cons (o := _) rfl (fun K hK => ?_) AllReadyH.nil
          have m7 := M7.out
          have z2 := cellOf m7 2
          have zf2 := freeOf m7 2
          (try dsimp only at z2)
          clear m7
          go_simp
          obtain ⟨w8, hw8⟩ : ∃ w8, w8 = w7.setCell ⟨wl.heap.size, 2, none⟩ (.int .i64 (IntKind.i64.wrap ((M : Int) / (k : Int)))) := ⟨_, rfl⟩
          rw [← hw8]
          rw [HQ.out] at hw8
          have M8 := hid (show w8.heap[wl.heap.size]? = some (.cells #[.int .i64 ve, .slice va vn vc, .int .i64 (sq : Int), .slice a n cap, .int .i64 k0, .int .i64 i', .int .i64 s, .string t, .slice la ll lc, .slice fa fl fc] 30) by
            have h := (heapSet (o := 2) (.int .i64 (sq : Int)) M7.out)
            simp only [List.setIfInBounds_toArray, List.set_cons_zero, List.set_cons_succ] at h
            rw [hw8]; exact h)
          have HS8 := hid (show Below wl.heap.size wl w8 by rw [hw8]; exact HS7.out.setCell (by dsimp only; omega) _)
          have HZ8 := hid (show w8.heap.size = w6.heap.size by rw [hw8, ← HZ7.out]; simp [World.setCell])
          have HO8 := hid (show ∀ b, b ≠ wl.heap.size → w8.heap[b]? = w6.heap[b]? from fun b hb => by rw [hw8]; exact (Below.heap_setCell _ _ _ _ hb).trans (HO7.out b hb))
          clear hw8 M7 HS7 HO7 HZ7 z2 zf2
          refine hK.out _ _ (HS8.out) (fun hS => ?_)
          clear hK K
          (try simp only [Act.put, List.getElem_toArray, List.getElem_cons_succ, List.getElem_cons_zero, List.setIfInBounds_toArray, List.set_cons_zero, List.set_cons_succ])
          refine wpAnyH_take (i := 16) (oi := _) (v := ?_) rfl (by kernel_rfl) (by kernel_rfl) (by kernel_rfl) (fun _ _ _ h => h) (Or.inl ⟨by rfl, ?_⟩) hS ?_
          rotate_left
          · intro w' hw'
            have hcells := HC17.out w' hw'
            go_simp
            (try with_reducible rfl)
          simp only [Act.put, List.getElem_toArray, List.getElem_cons_succ, List.getElem_cons_zero, List.setIfInBounds_toArray, List.set_cons_zero, List.set_cons_succ]
          refine wpAnyH_ready (rs := [17]) (by kernel_rfl) (by simp) ?_
          refine AllReadyH.cons (o := _) rfl (fun K hK => ?_) AllReadyH.nil
          have m8 := M8.out
          have z4 := cellOf m8 4
          have zf4 := freeOf m8 4
          have z5 := cellOf m8 5
          have zf5 := freeOf m8 5
          have z6 := cellOf m8 6
          have zf6 := freeOf m8 6
          have z7 := cellOf m8 7
          have zf7 := freeOf m8 7
          have z8 := cellOf m8 8
          have zf8 := freeOf m8 8
          have z9 := cellOf m8 9
          have zf9 := freeOf m8 9
          (try dsimp only at z4 z5 z6 z7 z8 z9)
          clear m8
          go_simp
          obtain ⟨w9, hw9⟩ : ∃ w9, w9 = setSix w8 wl.heap.size y := ⟨_, rfl⟩
          dsimp only [setSix] at hw9
          rw [← hw9]
          have M9 := hid (show w9.heap[wl.heap.size]? = some (.cells #[.int .i64 ve, .slice va vn vc, .int .i64 (sq : Int), .slice a n cap, .int .i64 y.k, .int .i64 y.i, .int .i64 y.s, .string y.t, .slice y.la y.ll y.lc, .slice y.fa y.fl y.fc] 30) by
            have h := (heapSet (o := 9) (.slice y.fa y.fl y.fc) (heapSet (o := 8) (.slice y.la y.ll y.lc) (heapSet (o := 7) (.string y.t) (heapSet (o := 6) (.int .i64 y.s) (heapSet (o := 5) (.int .i64 y.i) (heapSet (o := 4) (.int .i64 y.k) M8.out))))))
            simp only [List.setIfInBounds_toArray, List.set_cons_zero, List.set_cons_succ] at h
            rw [hw9]; exact h)
          have HS9 := hid (show Below wl.heap.size wl w9 by rw [hw9]; exact HS8.out.trans (setSix_below (c := y) w8 wl.heap.size wl.heap.size (Nat.le_refl _)))
          have HZ9 := hid (show w9.heap.size = w6.heap.size by rw [hw9, ← HZ8.out]; exact setSix_size (c := y) w8 wl.heap.size)
          have HO9 := hid (show ∀ b, b ≠ wl.heap.size → w9.heap[b]? = w6.heap[b]? from fun b hb => by rw [hw9]; exact (setSix_other (c := y) w8 wl.heap.size b hb).trans (HO8.out b hb))
          clear hw9 M8 HS8 HO8 HZ8 z4 zf4 z5 zf5 z6 zf6 z7 zf7 z8 zf8 z9 zf9
          refine hK.out _ _ (HS9.out) (fun hS => ?_)
          clear hK K
          (try simp only [Act.put, List.getElem_toArray, List.getElem_cons_succ, List.getElem_cons_zero, List.setIfInBounds_toArray, List.set_cons_zero, List.set_cons_succ])
          refine wpAnyH_done (by kernel_rfl) ?_ _
          (try dsimp only)
          have HI9 := HI6
          clear hS
          by_cases r : i < M % k
          · have hr : (i : Int) < (M : Int) % (k : Int) := by exact_mod_cast r
            have hsi := hid (show si = sq + 1 by rw [HSI.out, HSQ.out, shareN, if_pos r])
            have m9 := M9.out
            have z2 := cellOf m9 2
            have zf2 := freeOf m9 2
            (try dsimp only at z2)
            clear m9 r
            have t0 := HTEN.out _ (HBWL.out.trans (HS9.out.mono HBWL.out.size))
            obtain ⟨j0, j1, j2, j3, j4, j5, j6, j7, j8, j9⟩ := t0
            have hsq' := HD.out.2.2.2.2.2.2
            go_upto_region 20 with (fail)
            clear hsq'
            obtain ⟨w10, hw10⟩ : ∃ w10, w10 = w9.setCell ⟨wl.heap.size, 2, none⟩ (.int .i64 ((sq : Int) + 1)) := ⟨_, rfl⟩
            rw [← hw10]
            have M10 := hid (show w10.heap[wl.heap.size]? = some (.cells #[.int .i64 ve, .slice va vn vc, .int .i64 (si : Int), .slice a n cap, .int .i64 y.k, .int .i64 y.i, .int .i64 y.s, .string y.t, .slice y.la y.ll y.lc, .slice y.fa y.fl y.fc] 30) by
              have h := (heapSet (o := 2) (.int .i64 ((sq : Int) + 1)) M9.out)
              simp only [List.setIfInBounds_toArray, List.set_cons_zero, List.set_cons_succ] at h
              rw [hw10, hsi.out]; push_cast; exact h)
            have HS10 := hid (show Below wl.heap.size wl w10 by rw [hw10]; exact HS9.out.setCell (by dsimp only; omega) _)
            have HI10 : Hid (∀ w', Below w10.heap.size w10 w' → IsSt (· < w'.heap.size) w' ⟨ve, va, vn, vc⟩ ⟨d.st.e, d.st.ps ++ [(i : Int)]⟩) := hid fun w' h => by
              have hsz : w10.heap.size = w6.heap.size := by rw [hw10, ← HZ9.out]; simp [World.setCell]
              exact HI6.out.same fun b q => ⟨by have := h.size; omega, (h.block b (by omega)).trans (by rw [hw10]; exact (Below.heap_setCell _ _ _ _ (by have := q.1; dsimp only; omega)).trans (HO9.out b (by omega)))⟩
            clear hw10 M9 HO9 HZ9 HI9 HS9 hr z2 zf2 j0 j1 j2 j3 j4 j5 j6 j7 j8 j9
            have HC20 : Hid (∀ w', Below w10.heap.size w10 w' → w'.cell? ⟨bq, oq + i * 10, none⟩ = some (.int .i64 xi.st.e) ∧ w'.cell? ⟨bq, oq + i * 10 + 1, none⟩ = some (.slice xi.st.a xi.st.n xi.st.c) ∧ w'.cell? ⟨bq, oq + i * 10 + 2, none⟩ = some (.int .i64 (si : Int)) ∧ w'.cell? ⟨bq, oq + i * 10 + 3, none⟩ = some (.slice xi.a xi.n xi.c) ∧ w'.cell? ⟨bq, oq + i * 10 + 4, none⟩ = some (.int .i64 xi.b.k) ∧ w'.cell? ⟨bq, oq + i * 10 + 5, none⟩ = some (.int .i64 xi.b.i) ∧ w'.cell? ⟨bq, oq + i * 10 + 6, none⟩ = some (.int .i64 xi.b.s) ∧ w'.cell? ⟨bq, oq + i * 10 + 7, none⟩ = some (.string xi.b.t) ∧ w'.cell? ⟨bq, oq + i * 10 + 8, none⟩ = some (.slice xi.b.la xi.b.ll xi.b.lc) ∧ w'.cell? ⟨bq, oq + i * 10 + 9, none⟩ = some (.slice xi.b.fa xi.b.fl xi.b.fc) ∧ w'.cell? ⟨bq, oq + 2, none⟩ = some (.int .i64 (s0 : Int)) ∧ w'.cell? ⟨wl.heap.size, 0, none⟩ = some (.int .i64 ve) ∧ w'.cell? ⟨wl.heap.size, 1, none⟩ = some (.slice va vn vc) ∧ w'.cell? ⟨wl.heap.size, 2, none⟩ = some (.int .i64 (si : Int)) ∧ w'.cell? ⟨wl.heap.size, 3, none⟩ = some (.slice a n cap) ∧ w'.cell? ⟨wl.heap.size, 4, none⟩ = some (.int .i64 y.k) ∧ w'.cell? ⟨wl.heap.size, 5, none⟩ = some (.int .i64 y.i) ∧ w'.cell? ⟨wl.heap.size, 6, none⟩ = some (.int .i64 y.s) ∧ w'.cell? ⟨wl.heap.size, 7, none⟩ = some (.string y.t) ∧ w'.cell? ⟨wl.heap.size, 8, none⟩ = some (.slice y.la y.ll y.lc) ∧ w'.cell? ⟨wl.heap.size, 9, none⟩ = some (.slice y.fa y.fl y.fc)) := hid fun w' h => by
              have h1 := HX20.out w' (HS10.out.trans (h.mono HS10.out.size))
              have h3 := heapExt h M10.out
              exact ⟨h1.1.e, h1.1.p, h1.1.m.trans (by rw [HSIM.out]), h1.1.es, h1.1.k, h1.1.i, h1.1.s, h1.1.t, h1.1.l, h1.1.f, h1.2.m.trans (by rw [HS0M.out]), cellOf h3 0, cellOf h3 1, cellOf h3 2, cellOf h3 3, cellOf h3 4, cellOf h3 5, cellOf h3 6, cellOf h3 7, cellOf h3 8, cellOf h3 9⟩
            have HSAME : Hid (∀ w', Below w10.heap.size w10 w' → Calls Tryz.prog 20 #[.agg #[.int .i64 xi.st.e, .slice xi.st.a xi.st.n xi.st.c, .int .i64 (si : Int), .slice xi.a xi.n xi.c, .int .i64 xi.b.k, .int .i64 xi.b.i, .int .i64 xi.b.s, .string xi.b.t, .slice xi.b.la xi.b.ll xi.b.lc, .slice xi.b.fa xi.b.fl xi.b.fc], .agg #[.int .i64 ve, .slice va vn vc, .int .i64 (si : Int), .slice a n cap, .int .i64 y.k, .int .i64 y.i, .int .i64 y.s, .string y.t, .slice y.la y.ll y.lc, .slice y.fa y.fl y.fc]] w' fun e w2 => e = .returned (.bool true) ∧ Below w'.heap.size w' w2) := hid fun w' h => by
              have h2 := HS10.out.trans (h.mono HS10.out.size)
              have hx := (IIX.out w' h2)
              have q := same_call xi ⟨⟨ve, va, vn, vc⟩, (si : Int), a, n, cap, y⟩ ⟨⟨d.st.e, d.st.ps ++ [(i : Int)]⟩, (si : Nat), d.es, bodyV i⟩ ⟨⟨d.st.e, d.st.ps ++ [(i : Int)]⟩, (si : Nat), d.es, bodyV i⟩ w' hx.1 ⟨HI10.out w' h, rfl, (show I64 (si : Int) from ⟨by have := HSIB.out; omega, by have := HSIB.out; omega⟩), hx.2.2, hx.2.1⟩
              rw [msgEqB_refl] at q
              dsimp only [MC.v] at q
              rw [HSIM.out] at q
              exact q
            clear M10 HI10 HX20 IIX
            obtain ⟨zi, hzi⟩ : ∃ zi : Int, zi = (si : Int) := ⟨_, rfl⟩
            obtain ⟨z0, hz0'⟩ : ∃ z0 : Int, z0 = (s0 : Int) := ⟨_, rfl⟩
            rw [← hzi, ← hz0'] at HC20
            obtain ⟨oi, hoi⟩ : ∃ oi, oq + i * 10 = oi := ⟨_, rfl⟩
            rw [hoi] at HC20
            rw [← hzi] at HSAME
            have E1 : (1 < IntKind.i64.wrap (z0 - zi)) = False := eq_false (by obtain ⟨g1, g2, g3, _⟩ := HD.out; rw [IntWalk.i64_in (z0 - zi) (by rw [hzi, hz0']; omega), hzi, hz0']; omega)
            have E2 : (z0 < zi) = False := eq_false (by obtain ⟨g1, g2, g3, _⟩ := HD.out; omega)
            have hkp : (0 : Int) < (k : Int) := by omega
            have hkpN : 0 < k := by omega
            have HZI := hid hzi
            clear hzi hz0'
            refine wp_region_split 32 (fun w' => Below w10.heap.size w10 w') (by kernel_rfl) (by kernel_rfl) (by kernel_rfl) (by decide) ((Below.refl _ _).drew) (fun hS => ?_)
            simp only [List.take_succ_cons, List.take_zero, List.drop_succ_cons, List.drop_zero]
            refine wpAnyH_take (i := 0) (oi := _) (v := ?_) rfl (by kernel_rfl) (by kernel_rfl) (by kernel_rfl) (fun _ _ _ h => h) (Or.inl ⟨by kernel_rfl, ?_⟩) hS ?_
            rotate_left
            · intro w' hw'
              have hcells := HC20.out w' hw'
              go_simp
              (try with_reducible rfl)
            simp only [Act.put, List.getElem_toArray, List.getElem_cons_succ, List.getElem_cons_zero, List.setIfInBounds_toArray, List.set_cons_zero, List.set_cons_succ]
            refine wpAnyH_take (i := 1) (oi := _) (v := ?_) rfl (by kernel_rfl) (by kernel_rfl) (by kernel_rfl) (fun _ _ _ h => h) (Or.inl ⟨by kernel_rfl, ?_⟩) hS ?_
            rotate_left
            · intro w' hw'
              have hcells := HC20.out w' hw'
              go_simp
              (try with_reducible rfl)
            simp only [Act.put, List.getElem_toArray, List.getElem_cons_succ, List.getElem_cons_zero, List.setIfInBounds_toArray, List.set_cons_zero, List.set_cons_succ]
            refine wpAnyH_take (i := 2) (oi := _) (v := ?_) rfl (by kernel_rfl) (by kernel_rfl) (by kernel_rfl) (fun _ _ _ h => h) (Or.inl ⟨by kernel_rfl, ?_⟩) hS ?_
            rotate_left
            · intro w' hw'
              have hcells := HC20.out w' hw'
              go_simp
              (try with_reducible rfl)
            simp only [Act.put, List.getElem_toArray, List.getElem_cons_succ, List.getElem_cons_zero, List.setIfInBounds_toArray, List.set_cons_zero, List.set_cons_succ]
            refine wpAnyH_take (i := 3) (oi := _) (v := ?_) rfl (by kernel_rfl) (by kernel_rfl) (by kernel_rfl) (fun _ _ _ h => h) (Or.inl ⟨by kernel_rfl, ?_⟩) hS ?_
            rotate_left
            · intro w' hw'
              have hcells := HC20.out w' hw'
              go_simp
              (try with_reducible rfl)
            simp only [Act.put, List.getElem_toArray, List.getElem_cons_succ, List.getElem_cons_zero, List.setIfInBounds_toArray, List.set_cons_zero, List.set_cons_succ]
            refine wpAnyH_take (i := 4) (oi := _) (v := ?_) rfl (by kernel_rfl) (by kernel_rfl) (by kernel_rfl) (fun _ _ _ h => h) (Or.inl ⟨by kernel_rfl, ?_⟩) hS ?_
            rotate_left
            · intro w' hw'
              have hcells := HC20.out w' hw'
              go_simp
              (try with_reducible rfl)
            simp only [Act.put, List.getElem_toArray, List.getElem_cons_succ, List.getElem_cons_zero, List.setIfInBounds_toArray, List.set_cons_zero, List.set_cons_succ]
            refine wpAnyH_ready (rs := [5]) (by kernel_rfl) (by simp) ?_
            refine AllReadyH.cons (o := _) rfl (fun K hK => ?_) AllReadyH.nil
            go_simp; go_at_call 20; refine (HSAME.out _ hS).mono ?_
            rintro e w12 ⟨rfl, hb1⟩
            refine hK.out _ _ (hS.trans (hb1.mono hS.size)) (fun hS => ?_)
            clear hK K
            (try simp only [Act.put, List.getElem_toArray, List.getElem_cons_succ, List.getElem_cons_zero, List.setIfInBounds_toArray, List.set_cons_zero, List.set_cons_succ])
            refine wpAnyH_take (i := 6) (oi := _) (v := ?_) rfl (by kernel_rfl) (by kernel_rfl) (by kernel_rfl) (fun _ _ _ h => h) (Or.inl ⟨by kernel_rfl, ?_⟩) hS ?_
            rotate_left
            · intro w' hw'
              have hcells := HC20.out w' hw'
              go_simp
              (try with_reducible rfl)
            simp only [Act.put, List.getElem_toArray, List.getElem_cons_succ, List.getElem_cons_zero, List.setIfInBounds_toArray, List.set_cons_zero, List.set_cons_succ]
            refine wpAnyH_take (i := 7) (oi := _) (v := ?_) rfl (by kernel_rfl) (by kernel_rfl) (by kernel_rfl) (fun _ _ _ h => h) (Or.inl ⟨by kernel_rfl, ?_⟩) hS ?_
            rotate_left
            · intro w' hw'
              have hcells := HC20.out w' hw'
              go_simp
              (try with_reducible rfl)
            simp only [Act.put, List.getElem_toArray, List.getElem_cons_succ, List.getElem_cons_zero, List.setIfInBounds_toArray, List.set_cons_zero, List.set_cons_succ]
            refine wpAnyH_take (i := 8) (oi := _) (v := ?_) rfl (by kernel_rfl) (by kernel_rfl) (by kernel_rfl) (fun _ _ _ h => h) (Or.inl ⟨by kernel_rfl, ?_⟩) hS ?_
            rotate_left
            · intro w' hw'
              have hcells := HC20.out w' hw'
              go_simp
              (try with_reducible rfl)
            simp only [Act.put, List.getElem_toArray, List.getElem_cons_succ, List.getElem_cons_zero, List.setIfInBounds_toArray, List.set_cons_zero, List.set_cons_succ]
            refine wpAnyH_take (i := 9) (oi := _) (v := ?_) rfl (by kernel_rfl) (by kernel_rfl) (by kernel_rfl) (fun _ _ _ h => h) (Or.inl ⟨by kernel_rfl, ?_⟩) hS ?_
            rotate_left
            · intro w' hw'
              have hcells := HC20.out w' hw'
              go_simp
              (try with_reducible rfl)
            simp only [Act.put, List.getElem_toArray, List.getElem_cons_succ, List.getElem_cons_zero, List.setIfInBounds_toArray, List.set_cons_zero, List.set_cons_succ]
            refine wpAnyH_take (i := 10) (oi := _) (v := ?_) rfl (by kernel_rfl) (by kernel_rfl) (by kernel_rfl) (fun _ _ _ h => h) (Or.inl ⟨by kernel_rfl, ?_⟩) hS ?_
            rotate_left
            · intro w' hw'
              have hcells := HC20.out w' hw'
              go_simp
              (try with_reducible rfl)
            simp only [Act.put, List.getElem_toArray, List.getElem_cons_succ, List.getElem_cons_zero, List.setIfInBounds_toArray, List.set_cons_zero, List.set_cons_succ]
            refine wpAnyH_take (i := 11) (oi := _) (v := ?_) rfl (by kernel_rfl) (by kernel_rfl) (by kernel_rfl) (fun _ _ _ h => h) (Or.inl ⟨by kernel_rfl, ?_⟩) hS ?_
            rotate_left
            · intro w' hw'
              have hcells := HC20.out w' hw'
              go_simp
              (try with_reducible rfl)
            simp only [Act.put, List.getElem_toArray, List.getElem_cons_succ, List.getElem_cons_zero, List.setIfInBounds_toArray, List.set_cons_zero, List.set_cons_succ]
            refine wpAnyH_take (i := 12) (oi := _) (v := ?_) rfl (by kernel_rfl) (by kernel_rfl) (by kernel_rfl) (fun _ _ _ h => h) (Or.inl ⟨by kernel_rfl, ?_⟩) hS ?_
            rotate_left
            · intro w' hw'
              have hcells := HC20.out w' hw'
              go_simp
              (try with_reducible rfl)
            simp only [Act.put, List.getElem_toArray, List.getElem_cons_succ, List.getElem_cons_zero, List.setIfInBounds_toArray, List.set_cons_zero, List.set_cons_succ]
            refine wpAnyH_take (i := 13) (oi := _) (v := ?_) rfl (by kernel_rfl) (by kernel_rfl) (by kernel_rfl) (fun _ _ _ h => h) (Or.inl ⟨by kernel_rfl, ?_⟩) hS ?_
            rotate_left
            · intro w' hw'
              have hcells := HC20.out w' hw'
              go_simp
              (try with_reducible rfl)
            simp only [Act.put, List.getElem_toArray, List.getElem_cons_succ, List.getElem_cons_zero, List.setIfInBounds_toArray, List.set_cons_zero, List.set_cons_succ]
            refine wpAnyH_take (i := 14) (oi := _) (v := ?_) rfl (by kernel_rfl) (by kernel_rfl) (by kernel_rfl) (fun _ _ _ h => h) (Or.inl ⟨by kernel_rfl, ?_⟩) hS ?_
            rotate_left
            · intro w' hw'
              have hcells := HC20.out w' hw'
              go_simp
              (try with_reducible rfl)
            simp only [Act.put, List.getElem_toArray, List.getElem_cons_succ, List.getElem_cons_zero, List.setIfInBounds_toArray, List.set_cons_zero, List.set_cons_succ]
            refine wpAnyH_take (i := 15) (oi := _) (v := ?_) rfl (by kernel_rfl) (by kernel_rfl) (by kernel_rfl) (fun _ _ _ h => h) (Or.inl ⟨by kernel_rfl, ?_⟩) hS ?_
            rotate_left
            · intro w' hw'
              have hcells := HC20.out w' hw'
              go_simp
              (try with_reducible rfl)
            simp only [Act.put, List.getElem_toArray, List.getElem_cons_succ, List.getElem_cons_zero, List.setIfInBounds_toArray, List.set_cons_zero, List.set_cons_succ]
            refine wpAnyH_take (i := 16) (oi := _) (v := ?_) rfl (by kernel_rfl) (by kernel_rfl) (by kernel_rfl) (fun _ _ _ h => h) (Or.inl ⟨by kernel_rfl, ?_⟩) hS ?_
            rotate_left
            · intro w' hw'
              have hcells := HC20.out w' hw'
              go_simp
              (try with_reducible rfl)
            simp only [Act.put, List.getElem_toArray, List.getElem_cons_succ, List.getElem_cons_zero, List.setIfInBounds_toArray, List.set_cons_zero, List.set_cons_succ]
            refine wpAnyH_take (i := 17) (oi := _) (v := ?_) rfl (by kernel_rfl) (by kernel_rfl) (by kernel_rfl) (fun _ _ _ h => h) (Or.inl ⟨by kernel_rfl, ?_⟩) hS ?_
            rotate_left
            · intro w' hw'
              have hcells := HC20.out w' hw'
              go_simp
              (try with_reducible rfl)
            simp only [Act.put, List.getElem_toArray, List.getElem_cons_succ, List.getElem_cons_zero, List.setIfInBounds_toArray, List.set_cons_zero, List.set_cons_succ]
            refine wpAnyH_take (i := 18) (oi := _) (v := ?_) rfl (by kernel_rfl) (by kernel_rfl) (by kernel_rfl) (fun _ _ _ h => h) (Or.inl ⟨by kernel_rfl, ?_⟩) hS ?_
            rotate_left
            · intro w' hw'
              have hcells := HC20.out w' hw'
              go_simp
              (try with_reducible rfl)
            simp only [Act.put, List.getElem_toArray, List.getElem_cons_succ, List.getElem_cons_zero, List.setIfInBounds_toArray, List.set_cons_zero, List.set_cons_succ]
            refine wpAnyH_take (i := 19) (oi := _) (v := ?_) rfl (by kernel_rfl) (by kernel_rfl) (by kernel_rfl) (fun _ _ _ h => h) (Or.inl ⟨by kernel_rfl, ?_⟩) hS ?_
            rotate_left
            · intro w' hw'
              have hcells := HC20.out w' hw'
              go_simp
              (try with_reducible rfl)
            simp only [Act.put, List.getElem_toArray, List.getElem_cons_succ, List.getElem_cons_zero, List.setIfInBounds_toArray, List.set_cons_zero, List.set_cons_succ]
            refine wpAnyH_take (i := 20) (oi := _) (v := ?_) rfl (by kernel_rfl) (by kernel_rfl) (by kernel_rfl) (fun _ _ _ h => h) (Or.inl ⟨by kernel_rfl, ?_⟩) hS ?_
            rotate_left
            · intro w' hw'
              have hcells := HC20.out w' hw'
              go_simp
              (try with_reducible rfl)
            simp only [Act.put, List.getElem_toArray, List.getElem_cons_succ, List.getElem_cons_zero, List.setIfInBounds_toArray, List.set_cons_zero, List.set_cons_succ]
            refine wpAnyH_take (i := 21) (oi := _) (v := ?_) rfl (by kernel_rfl) (by kernel_rfl) (by kernel_rfl) (fun _ _ _ h => h) (Or.inl ⟨by kernel_rfl, ?_⟩) hS ?_
            rotate_left
            · intro w' hw'
              have hcells := HC20.out w' hw'
              go_simp
              (try with_reducible rfl)
            simp only [Act.put, List.getElem_toArray, List.getElem_cons_succ, List.getElem_cons_zero, List.setIfInBounds_toArray, List.set_cons_zero, List.set_cons_succ]
            refine wpAnyH_take (i := 22) (oi := _) (v := ?_) rfl (by kernel_rfl) (by kernel_rfl) (by kernel_rfl) (fun _ _ _ h => h) (Or.inl ⟨by kernel_rfl, ?_⟩) hS ?_
            rotate_left
            · intro w' hw'
              have hcells := HC20.out w' hw'
              go_simp
              (try with_reducible rfl)
            simp only [Act.put, List.getElem_toArray, List.getElem_cons_succ, List.getElem_cons_zero, List.setIfInBounds_toArray, List.set_cons_zero, List.set_cons_succ]
            refine wpAnyH_take (i := 23) (oi := _) (v := ?_) rfl (by kernel_rfl) (by kernel_rfl) (by kernel_rfl) (fun _ _ _ h => h) (Or.inl ⟨by kernel_rfl, ?_⟩) hS ?_
            rotate_left
            · intro w' hw'
              have hcells := HC20.out w' hw'
              go_simp
              (try with_reducible rfl)
            simp only [Act.put, List.getElem_toArray, List.getElem_cons_succ, List.getElem_cons_zero, List.setIfInBounds_toArray, List.set_cons_zero, List.set_cons_succ]
            refine wpAnyH_take (i := 24) (oi := _) (v := ?_) rfl (by kernel_rfl) (by kernel_rfl) (by kernel_rfl) (fun _ _ _ h => h) (Or.inl ⟨by kernel_rfl, ?_⟩) hS ?_
            rotate_left
            · intro w' hw'
              have hcells := HC20.out w' hw'
              go_simp
              (try with_reducible rfl)
            simp only [Act.put, List.getElem_toArray, List.getElem_cons_succ, List.getElem_cons_zero, List.setIfInBounds_toArray, List.set_cons_zero, List.set_cons_succ]
            refine wpAnyH_take (i := 25) (oi := _) (v := ?_) rfl (by kernel_rfl) (by kernel_rfl) (by kernel_rfl) (fun _ _ _ h => h) (Or.inl ⟨by kernel_rfl, ?_⟩) hS ?_
            rotate_left
            · intro w' hw'
              have hcells := HC20.out w' hw'
              go_simp
              (try with_reducible rfl)
            simp only [Act.put, List.getElem_toArray, List.getElem_cons_succ, List.getElem_cons_zero, List.setIfInBounds_toArray, List.set_cons_zero, List.set_cons_succ]
            refine wpAnyH_take (i := 26) (oi := _) (v := ?_) rfl (by kernel_rfl) (by kernel_rfl) (by kernel_rfl) (fun _ _ _ h => h) (Or.inl ⟨by kernel_rfl, ?_⟩) hS ?_
            rotate_left
            · intro w' hw'
              have hcells := HC20.out w' hw'
              go_simp
              (try with_reducible rfl)
            simp only [Act.put, List.getElem_toArray, List.getElem_cons_succ, List.getElem_cons_zero, List.setIfInBounds_toArray, List.set_cons_zero, List.set_cons_succ]
            refine wpAnyH_take (i := 27) (oi := _) (v := ?_) rfl (by kernel_rfl) (by kernel_rfl) (by kernel_rfl) (fun _ _ _ h => h) (Or.inl ⟨by kernel_rfl, ?_⟩) hS ?_
            rotate_left
            · intro w' hw'
              have hcells := HC20.out w' hw'
              go_simp
              (try with_reducible rfl)
            simp only [Act.put, List.getElem_toArray, List.getElem_cons_succ, List.getElem_cons_zero, List.setIfInBounds_toArray, List.set_cons_zero, List.set_cons_succ]
            refine wpAnyH_take (i := 28) (oi := _) (v := ?_) rfl (by kernel_rfl) (by kernel_rfl) (by kernel_rfl) (fun _ _ _ h => h) (Or.inl ⟨by kernel_rfl, ?_⟩) hS ?_
            rotate_left
            · intro w' hw'
              have hcells := HC20.out w' hw'
              go_simp
              (try with_reducible rfl)
            simp only [Act.put, List.getElem_toArray, List.getElem_cons_succ, List.getElem_cons_zero, List.setIfInBounds_toArray, List.set_cons_zero, List.set_cons_succ]
            refine wpAnyH_take (i := 29) (oi := _) (v := ?_) rfl (by kernel_rfl) (by kernel_rfl) (by kernel_rfl) (fun _ _ _ h => h) (Or.inl ⟨by kernel_rfl, ?_⟩) hS ?_
            rotate_left
            · intro w' hw'
              have hcells := HC20.out w' hw'
              go_simp
              (try with_reducible rfl)
            simp only [Act.put, List.getElem_toArray, List.getElem_cons_succ, List.getElem_cons_zero, List.setIfInBounds_toArray, List.set_cons_zero, List.set_cons_succ]
            refine wpAnyH_take (i := 30) (oi := _) (v := ?_) rfl (by kernel_rfl) (by kernel_rfl) (by kernel_rfl) (fun _ _ _ h => h) (Or.inl ⟨by kernel_rfl, ?_⟩) hS ?_
            rotate_left
            · intro w' hw'
              have hcells := HC20.out w' hw'
              go_simp
              (try with_reducible rfl)
            simp only [Act.put, List.getElem_toArray, List.getElem_cons_succ, List.getElem_cons_zero, List.setIfInBounds_toArray, List.set_cons_zero, List.set_cons_succ]
            refine wpAnyH_take (i := 31) (oi := _) (v := ?_) rfl (by kernel_rfl) (by kernel_rfl) (by kernel_rfl) (fun _ _ _ h => h) (Or.inl ⟨by kernel_rfl, ?_⟩) hS ?_
            rotate_left
            · intro w' hw'
              have hcells := HC20.out w' hw'
              go_simp
              (try with_reducible rfl)
            simp only [Act.put, List.getElem_toArray, List.getElem_cons_succ, List.getElem_cons_zero, List.setIfInBounds_toArray, List.set_cons_zero, List.set_cons_succ]
            refine wpAnyH_done (by kernel_rfl) ?_ _
            (try dsimp only)
            have hBL := hid hS
            have hc := HC20.out _ hS
            clear hS
            obtain ⟨j0, j1, j2, j3, j4, j5, j6, j7, j8, j9, u2, _⟩ := hc
            have hsm' := HD.out.2.2.2.1
            have hsm0 := HD.out.2.2.2.2.1
            have hzi1 : zi ≤ 1099511627777 := by rw [HZI.out]; exact HD.out.2.2.2.2.2.1
            have hzi2 : 0 ≤ zi := by rw [HZI.out]; omega
            clear E1 E2 hkp hkpN HSAME HC20 hnz hnzN
            go_wp2
            go_roundw
            case rel =>
              have h1 := HBL.out.trans (HS10.out.mono HBL.out.size)
              refine ⟨i + 1, by omega, by go_num, ?_, h1.trans (hBL.out.mono h1.size)⟩
              rw [sumS_succ, ← HSI.out]; push_cast; rw [HZI.out]
            case measure => simp [intOf]; omega
          · have hr : ¬ (i : Int) < (M : Int) % (k : Int) := by intro h; exact r (by exact_mod_cast h)
            have hsi := hid (show si = sq by rw [HSI.out, HSQ.out, shareN, if_neg r, Nat.add_zero])
            clear r
            have t0 := HTEN.out _ (HBWL.out.trans (HS9.out.mono HBWL.out.size))
            obtain ⟨j0, j1, j2, j3, j4, j5, j6, j7, j8, j9⟩ := t0
            go_upto_region 20 with (fail)
            clear j0 j1 j2 j3 j4 j5 j6 j7 j8 j9
            obtain ⟨w10, hw10⟩ : ∃ w10, w10 = w9 := ⟨_, rfl⟩
            rw [← hw10]
            have M10 := hid (show w10.heap[wl.heap.size]? = some (.cells #[.int .i64 ve, .slice va vn vc, .int .i64 (si : Int), .slice a n cap, .int .i64 y.k, .int .i64 y.i, .int .i64 y.s, .string y.t, .slice y.la y.ll y.lc, .slice y.fa y.fl y.fc] 30) by rw [hw10, hsi.out]; exact M9.out)
            have HS10 := hid (show Below wl.heap.size wl w10 by rw [hw10]; exact HS9.out)
            have HI10 : Hid (∀ w', Below w10.heap.size w10 w' → IsSt (· < w'.heap.size) w' ⟨ve, va, vn, vc⟩ ⟨d.st.e, d.st.ps ++ [(i : Int)]⟩) := hid fun w' h => by
              have hsz : w10.heap.size = w6.heap.size := by rw [hw10]; exact HZ9.out
              exact HI6.out.same fun b q => ⟨by have := h.size; omega, (h.block b (by omega)).trans (by rw [hw10]; exact HO9.out b (by omega))⟩
            clear hw10 M9 HO9 HZ9 HI9 HS9 hr
            have HC20 : Hid (∀ w', Below w10.heap.size w10 w' → w'.cell? ⟨bq, oq + i * 10, none⟩ = some (.int .i64 xi.st.e) ∧ w'.cell? ⟨bq, oq + i * 10 + 1, none⟩ = some (.slice xi.st.a xi.st.n xi.st.c) ∧ w'.cell? ⟨bq, oq + i * 10 + 2, none⟩ = some (.int .i64 (si : Int)) ∧ w'.cell? ⟨bq, oq + i * 10 + 3, none⟩ = some (.slice xi.a xi.n xi.c) ∧ w'.cell? ⟨bq, oq + i * 10 + 4, none⟩ = some (.int .i64 xi.b.k) ∧ w'.cell? ⟨bq, oq + i * 10 + 5, none⟩ = some (.int .i64 xi.b.i) ∧ w'.cell? ⟨bq, oq + i * 10 + 6, none⟩ = some (.int .i64 xi.b.s) ∧ w'.cell? ⟨bq, oq + i * 10 + 7, none⟩ = some (.string xi.b.t) ∧ w'.cell? ⟨bq, oq + i * 10 + 8, none⟩ = some (.slice xi.b.la xi.b.ll xi.b.lc) ∧ w'.cell? ⟨bq, oq + i * 10 + 9, none⟩ = some (.slice xi.b.fa xi.b.fl xi.b.fc) ∧ w'.cell? ⟨bq, oq + 2, none⟩ = some (.int .i64 (s0 : Int)) ∧ w'.cell? ⟨wl.heap.size, 0, none⟩ = some (.int .i64 ve) ∧ w'.cell? ⟨wl.heap.size, 1, none⟩ = some (.slice va vn vc) ∧ w'.cell? ⟨wl.heap.size, 2, none⟩ = some (.int .i64 (si : Int)) ∧ w'.cell? ⟨wl.heap.size, 3, none⟩ = some (.slice a n cap) ∧ w'.cell? ⟨wl.heap.size, 4, none⟩ = some (.int .i64 y.k) ∧ w'.cell? ⟨wl.heap.size, 5, none⟩ = some (.int .i64 y.i) ∧ w'.cell? ⟨wl.heap.size, 6, none⟩ = some (.int .i64 y.s) ∧ w'.cell? ⟨wl.heap.size, 7, none⟩ = some (.string y.t) ∧ w'.cell? ⟨wl.heap.size, 8, none⟩ = some (.slice y.la y.ll y.lc) ∧ w'.cell? ⟨wl.heap.size, 9, none⟩ = some (.slice y.fa y.fl y.fc)) := hid fun w' h => by
              have h1 := HX20.out w' (HS10.out.trans (h.mono HS10.out.size))
              have h3 := heapExt h M10.out
              exact ⟨h1.1.e, h1.1.p, h1.1.m.trans (by rw [HSIM.out]), h1.1.es, h1.1.k, h1.1.i, h1.1.s, h1.1.t, h1.1.l, h1.1.f, h1.2.m.trans (by rw [HS0M.out]), cellOf h3 0, cellOf h3 1, cellOf h3 2, cellOf h3 3, cellOf h3 4, cellOf h3 5, cellOf h3 6, cellOf h3 7, cellOf h3 8, cellOf h3 9⟩
            have HSAME : Hid (∀ w', Below w10.heap.size w10 w' → Calls Tryz.prog 20 #[.agg #[.int .i64 xi.st.e, .slice xi.st.a xi.st.n xi.st.c, .int .i64 (si : Int), .slice xi.a xi.n xi.c, .int .i64 xi.b.k, .int .i64 xi.b.i, .int .i64 xi.b.s, .string xi.b.t, .slice xi.b.la xi.b.ll xi.b.lc, .slice xi.b.fa xi.b.fl xi.b.fc], .agg #[.int .i64 ve, .slice va vn vc, .int .i64 (si : Int), .slice a n cap, .int .i64 y.k, .int .i64 y.i, .int .i64 y.s, .string y.t, .slice y.la y.ll y.lc, .slice y.fa y.fl y.fc]] w' fun e w2 => e = .returned (.bool true) ∧ Below w'.heap.size w' w2) := hid fun w' h => by
              have h2 := HS10.out.trans (h.mono HS10.out.size)
              have hx := (IIX.out w' h2)
              have q := same_call xi ⟨⟨ve, va, vn, vc⟩, (si : Int), a, n, cap, y⟩ ⟨⟨d.st.e, d.st.ps ++ [(i : Int)]⟩, (si : Nat), d.es, bodyV i⟩ ⟨⟨d.st.e, d.st.ps ++ [(i : Int)]⟩, (si : Nat), d.es, bodyV i⟩ w' hx.1 ⟨HI10.out w' h, rfl, (show I64 (si : Int) from ⟨by have := HSIB.out; omega, by have := HSIB.out; omega⟩), hx.2.2, hx.2.1⟩
              rw [msgEqB_refl] at q
              dsimp only [MC.v] at q
              rw [HSIM.out] at q
              exact q
            clear M10 HI10 HX20 IIX
            obtain ⟨zi, hzi⟩ : ∃ zi : Int, zi = (si : Int) := ⟨_, rfl⟩
            obtain ⟨z0, hz0'⟩ : ∃ z0 : Int, z0 = (s0 : Int) := ⟨_, rfl⟩
            rw [← hzi, ← hz0'] at HC20
            obtain ⟨oi, hoi⟩ : ∃ oi, oq + i * 10 = oi := ⟨_, rfl⟩
            rw [hoi] at HC20
            rw [← hzi] at HSAME
            have E1 : (1 < IntKind.i64.wrap (z0 - zi)) = False := eq_false (by obtain ⟨g1, g2, g3, _⟩ := HD.out; rw [IntWalk.i64_in (z0 - zi) (by rw [hzi, hz0']; omega), hzi, hz0']; omega)
            have E2 : (z0 < zi) = False := eq_false (by obtain ⟨g1, g2, g3, _⟩ := HD.out; omega)
            have hkp : (0 : Int) < (k : Int) := by omega
            have hkpN : 0 < k := by omega
            have HZI := hid hzi
            clear hzi hz0'
            refine wp_region_split 32 (fun w' => Below w10.heap.size w10 w') (by kernel_rfl) (by kernel_rfl) (by kernel_rfl) (by decide) ((Below.refl _ _).drew) (fun hS => ?_)
            simp only [List.take_succ_cons, List.take_zero, List.drop_succ_cons, List.drop_zero]
            refine wpAnyH_take (i := 0) (oi := _) (v := ?_) rfl (by kernel_rfl) (by kernel_rfl) (by kernel_rfl) (fun _ _ _ h => h) (Or.inl ⟨by kernel_rfl, ?_⟩) hS ?_
            rotate_left
            · intro w' hw'
              have hcells := HC20.out w' hw'
              go_simp
              (try with_reducible rfl)
            simp only [Act.put, List.getElem_toArray, List.getElem_cons_succ, List.getElem_cons_zero, List.setIfInBounds_toArray, List.set_cons_zero, List.set_cons_succ]
            refine wpAnyH_take (i := 1) (oi := _) (v := ?_) rfl (by kernel_rfl) (by kernel_rfl) (by kernel_rfl) (fun _ _ _ h => h) (Or.inl ⟨by kernel_rfl, ?_⟩) hS ?_
            rotate_left
            · intro w' hw'
              have hcells := HC20.out w' hw'
              go_simp
              (try with_reducible rfl)
            simp only [Act.put, List.getElem_toArray, List.getElem_cons_succ, List.getElem_cons_zero, List.setIfInBounds_toArray, List.set_cons_zero, List.set_cons_succ]
            refine wpAnyH_take (i := 2) (oi := _) (v := ?_) rfl (by kernel_rfl) (by kernel_rfl) (by kernel_rfl) (fun _ _ _ h => h) (Or.inl ⟨by kernel_rfl, ?_⟩) hS ?_
            rotate_left
            · intro w' hw'
              have hcells := HC20.out w' hw'
              go_simp
              (try with_reducible rfl)
            simp only [Act.put, List.getElem_toArray, List.getElem_cons_succ, List.getElem_cons_zero, List.setIfInBounds_toArray, List.set_cons_zero, List.set_cons_succ]
            refine wpAnyH_take (i := 3) (oi := _) (v := ?_) rfl (by kernel_rfl) (by kernel_rfl) (by kernel_rfl) (fun _ _ _ h => h) (Or.inl ⟨by kernel_rfl, ?_⟩) hS ?_
            rotate_left
            · intro w' hw'
              have hcells := HC20.out w' hw'
              go_simp
              (try with_reducible rfl)
            simp only [Act.put, List.getElem_toArray, List.getElem_cons_succ, List.getElem_cons_zero, List.setIfInBounds_toArray, List.set_cons_zero, List.set_cons_succ]
            refine wpAnyH_take (i := 4) (oi := _) (v := ?_) rfl (by kernel_rfl) (by kernel_rfl) (by kernel_rfl) (fun _ _ _ h => h) (Or.inl ⟨by kernel_rfl, ?_⟩) hS ?_
            rotate_left
            · intro w' hw'
              have hcells := HC20.out w' hw'
              go_simp
              (try with_reducible rfl)
            simp only [Act.put, List.getElem_toArray, List.getElem_cons_succ, List.getElem_cons_zero, List.setIfInBounds_toArray, List.set_cons_zero, List.set_cons_succ]
            refine wpAnyH_ready (rs := [5]) (by kernel_rfl) (by simp) ?_
            refine AllReadyH.cons (o := _) rfl (fun K hK => ?_) AllReadyH.nil
            go_simp; go_at_call 20; refine (HSAME.out _ hS).mono ?_
            rintro e w12 ⟨rfl, hb1⟩
            refine hK.out _ _ (hS.trans (hb1.mono hS.size)) (fun hS => ?_)
            clear hK K
            (try simp only [Act.put, List.getElem_toArray, List.getElem_cons_succ, List.getElem_cons_zero, List.setIfInBounds_toArray, List.set_cons_zero, List.set_cons_succ])
            refine wpAnyH_take (i := 6) (oi := _) (v := ?_) rfl (by kernel_rfl) (by kernel_rfl) (by kernel_rfl) (fun _ _ _ h => h) (Or.inl ⟨by kernel_rfl, ?_⟩) hS ?_
            rotate_left
            · intro w' hw'
              have hcells := HC20.out w' hw'
              go_simp
              (try with_reducible rfl)
            simp only [Act.put, List.getElem_toArray, List.getElem_cons_succ, List.getElem_cons_zero, List.setIfInBounds_toArray, List.set_cons_zero, List.set_cons_succ]
            refine wpAnyH_take (i := 7) (oi := _) (v := ?_) rfl (by kernel_rfl) (by kernel_rfl) (by kernel_rfl) (fun _ _ _ h => h) (Or.inl ⟨by kernel_rfl, ?_⟩) hS ?_
            rotate_left
            · intro w' hw'
              have hcells := HC20.out w' hw'
              go_simp
              (try with_reducible rfl)
            simp only [Act.put, List.getElem_toArray, List.getElem_cons_succ, List.getElem_cons_zero, List.setIfInBounds_toArray, List.set_cons_zero, List.set_cons_succ]
            refine wpAnyH_take (i := 8) (oi := _) (v := ?_) rfl (by kernel_rfl) (by kernel_rfl) (by kernel_rfl) (fun _ _ _ h => h) (Or.inl ⟨by kernel_rfl, ?_⟩) hS ?_
            rotate_left
            · intro w' hw'
              have hcells := HC20.out w' hw'
              go_simp
              (try with_reducible rfl)
            simp only [Act.put, List.getElem_toArray, List.getElem_cons_succ, List.getElem_cons_zero, List.setIfInBounds_toArray, List.set_cons_zero, List.set_cons_succ]
            refine wpAnyH_take (i := 9) (oi := _) (v := ?_) rfl (by kernel_rfl) (by kernel_rfl) (by kernel_rfl) (fun _ _ _ h => h) (Or.inl ⟨by kernel_rfl, ?_⟩) hS ?_
            rotate_left
            · intro w' hw'
              have hcells := HC20.out w' hw'
              go_simp
              (try with_reducible rfl)
            simp only [Act.put, List.getElem_toArray, List.getElem_cons_succ, List.getElem_cons_zero, List.setIfInBounds_toArray, List.set_cons_zero, List.set_cons_succ]
            refine wpAnyH_take (i := 10) (oi := _) (v := ?_) rfl (by kernel_rfl) (by kernel_rfl) (by kernel_rfl) (fun _ _ _ h => h) (Or.inl ⟨by kernel_rfl, ?_⟩) hS ?_
            rotate_left
            · intro w' hw'
              have hcells := HC20.out w' hw'
              go_simp
              (try with_reducible rfl)
            simp only [Act.put, List.getElem_toArray, List.getElem_cons_succ, List.getElem_cons_zero, List.setIfInBounds_toArray, List.set_cons_zero, List.set_cons_succ]
            refine wpAnyH_take (i := 11) (oi := _) (v := ?_) rfl (by kernel_rfl) (by kernel_rfl) (by kernel_rfl) (fun _ _ _ h => h) (Or.inl ⟨by kernel_rfl, ?_⟩) hS ?_
            rotate_left
            · intro w' hw'
              have hcells := HC20.out w' hw'
              go_simp
              (try with_reducible rfl)
            simp only [Act.put, List.getElem_toArray, List.getElem_cons_succ, List.getElem_cons_zero, List.setIfInBounds_toArray, List.set_cons_zero, List.set_cons_succ]
            refine wpAnyH_take (i := 12) (oi := _) (v := ?_) rfl (by kernel_rfl) (by kernel_rfl) (by kernel_rfl) (fun _ _ _ h => h) (Or.inl ⟨by kernel_rfl, ?_⟩) hS ?_
            rotate_left
            · intro w' hw'
              have hcells := HC20.out w' hw'
              go_simp
              (try with_reducible rfl)
            simp only [Act.put, List.getElem_toArray, List.getElem_cons_succ, List.getElem_cons_zero, List.setIfInBounds_toArray, List.set_cons_zero, List.set_cons_succ]
            refine wpAnyH_take (i := 13) (oi := _) (v := ?_) rfl (by kernel_rfl) (by kernel_rfl) (by kernel_rfl) (fun _ _ _ h => h) (Or.inl ⟨by kernel_rfl, ?_⟩) hS ?_
            rotate_left
            · intro w' hw'
              have hcells := HC20.out w' hw'
              go_simp
              (try with_reducible rfl)
            simp only [Act.put, List.getElem_toArray, List.getElem_cons_succ, List.getElem_cons_zero, List.setIfInBounds_toArray, List.set_cons_zero, List.set_cons_succ]
            refine wpAnyH_take (i := 14) (oi := _) (v := ?_) rfl (by kernel_rfl) (by kernel_rfl) (by kernel_rfl) (fun _ _ _ h => h) (Or.inl ⟨by kernel_rfl, ?_⟩) hS ?_
            rotate_left
            · intro w' hw'
              have hcells := HC20.out w' hw'
              go_simp
              (try with_reducible rfl)
            simp only [Act.put, List.getElem_toArray, List.getElem_cons_succ, List.getElem_cons_zero, List.setIfInBounds_toArray, List.set_cons_zero, List.set_cons_succ]
            refine wpAnyH_take (i := 15) (oi := _) (v := ?_) rfl (by kernel_rfl) (by kernel_rfl) (by kernel_rfl) (fun _ _ _ h => h) (Or.inl ⟨by kernel_rfl, ?_⟩) hS ?_
            rotate_left
            · intro w' hw'
              have hcells := HC20.out w' hw'
              go_simp
              (try with_reducible rfl)
            simp only [Act.put, List.getElem_toArray, List.getElem_cons_succ, List.getElem_cons_zero, List.setIfInBounds_toArray, List.set_cons_zero, List.set_cons_succ]
            refine wpAnyH_take (i := 16) (oi := _) (v := ?_) rfl (by kernel_rfl) (by kernel_rfl) (by kernel_rfl) (fun _ _ _ h => h) (Or.inl ⟨by kernel_rfl, ?_⟩) hS ?_
            rotate_left
            · intro w' hw'
              have hcells := HC20.out w' hw'
              go_simp
              (try with_reducible rfl)
            simp only [Act.put, List.getElem_toArray, List.getElem_cons_succ, List.getElem_cons_zero, List.setIfInBounds_toArray, List.set_cons_zero, List.set_cons_succ]
            refine wpAnyH_take (i := 17) (oi := _) (v := ?_) rfl (by kernel_rfl) (by kernel_rfl) (by kernel_rfl) (fun _ _ _ h => h) (Or.inl ⟨by kernel_rfl, ?_⟩) hS ?_
            rotate_left
            · intro w' hw'
              have hcells := HC20.out w' hw'
              go_simp
              (try with_reducible rfl)
            simp only [Act.put, List.getElem_toArray, List.getElem_cons_succ, List.getElem_cons_zero, List.setIfInBounds_toArray, List.set_cons_zero, List.set_cons_succ]
            refine wpAnyH_take (i := 18) (oi := _) (v := ?_) rfl (by kernel_rfl) (by kernel_rfl) (by kernel_rfl) (fun _ _ _ h => h) (Or.inl ⟨by kernel_rfl, ?_⟩) hS ?_
            rotate_left
            · intro w' hw'
              have hcells := HC20.out w' hw'
              go_simp
              (try with_reducible rfl)
            simp only [Act.put, List.getElem_toArray, List.getElem_cons_succ, List.getElem_cons_zero, List.setIfInBounds_toArray, List.set_cons_zero, List.set_cons_succ]
            refine wpAnyH_take (i := 19) (oi := _) (v := ?_) rfl (by kernel_rfl) (by kernel_rfl) (by kernel_rfl) (fun _ _ _ h => h) (Or.inl ⟨by kernel_rfl, ?_⟩) hS ?_
            rotate_left
            · intro w' hw'
              have hcells := HC20.out w' hw'
              go_simp
              (try with_reducible rfl)
            simp only [Act.put, List.getElem_toArray, List.getElem_cons_succ, List.getElem_cons_zero, List.setIfInBounds_toArray, List.set_cons_zero, List.set_cons_succ]
            refine wpAnyH_take (i := 20) (oi := _) (v := ?_) rfl (by kernel_rfl) (by kernel_rfl) (by kernel_rfl) (fun _ _ _ h => h) (Or.inl ⟨by kernel_rfl, ?_⟩) hS ?_
            rotate_left
            · intro w' hw'
              have hcells := HC20.out w' hw'
              go_simp
              (try with_reducible rfl)
            simp only [Act.put, List.getElem_toArray, List.getElem_cons_succ, List.getElem_cons_zero, List.setIfInBounds_toArray, List.set_cons_zero, List.set_cons_succ]
            refine wpAnyH_take (i := 21) (oi := _) (v := ?_) rfl (by kernel_rfl) (by kernel_rfl) (by kernel_rfl) (fun _ _ _ h => h) (Or.inl ⟨by kernel_rfl, ?_⟩) hS ?_
            rotate_left
            · intro w' hw'
              have hcells := HC20.out w' hw'
              go_simp
              (try with_reducible rfl)
            simp only [Act.put, List.getElem_toArray, List.getElem_cons_succ, List.getElem_cons_zero, List.setIfInBounds_toArray, List.set_cons_zero, List.set_cons_succ]
            refine wpAnyH_take (i := 22) (oi := _) (v := ?_) rfl (by kernel_rfl) (by kernel_rfl) (by kernel_rfl) (fun _ _ _ h => h) (Or.inl ⟨by kernel_rfl, ?_⟩) hS ?_
            rotate_left
            · intro w' hw'
              have hcells := HC20.out w' hw'
              go_simp
              (try with_reducible rfl)
            simp only [Act.put, List.getElem_toArray, List.getElem_cons_succ, List.getElem_cons_zero, List.setIfInBounds_toArray, List.set_cons_zero, List.set_cons_succ]
            refine wpAnyH_take (i := 23) (oi := _) (v := ?_) rfl (by kernel_rfl) (by kernel_rfl) (by kernel_rfl) (fun _ _ _ h => h) (Or.inl ⟨by kernel_rfl, ?_⟩) hS ?_
            rotate_left
            · intro w' hw'
              have hcells := HC20.out w' hw'
              go_simp
              (try with_reducible rfl)
            simp only [Act.put, List.getElem_toArray, List.getElem_cons_succ, List.getElem_cons_zero, List.setIfInBounds_toArray, List.set_cons_zero, List.set_cons_succ]
            refine wpAnyH_take (i := 24) (oi := _) (v := ?_) rfl (by kernel_rfl) (by kernel_rfl) (by kernel_rfl) (fun _ _ _ h => h) (Or.inl ⟨by kernel_rfl, ?_⟩) hS ?_
            rotate_left
            · intro w' hw'
              have hcells := HC20.out w' hw'
              go_simp
              (try with_reducible rfl)
            simp only [Act.put, List.getElem_toArray, List.getElem_cons_succ, List.getElem_cons_zero, List.setIfInBounds_toArray, List.set_cons_zero, List.set_cons_succ]
            refine wpAnyH_take (i := 25) (oi := _) (v := ?_) rfl (by kernel_rfl) (by kernel_rfl) (by kernel_rfl) (fun _ _ _ h => h) (Or.inl ⟨by kernel_rfl, ?_⟩) hS ?_
            rotate_left
            · intro w' hw'
              have hcells := HC20.out w' hw'
              go_simp
              (try with_reducible rfl)
            simp only [Act.put, List.getElem_toArray, List.getElem_cons_succ, List.getElem_cons_zero, List.setIfInBounds_toArray, List.set_cons_zero, List.set_cons_succ]
            refine wpAnyH_take (i := 26) (oi := _) (v := ?_) rfl (by kernel_rfl) (by kernel_rfl) (by kernel_rfl) (fun _ _ _ h => h) (Or.inl ⟨by kernel_rfl, ?_⟩) hS ?_
            rotate_left
            · intro w' hw'
              have hcells := HC20.out w' hw'
              go_simp
              (try with_reducible rfl)
            simp only [Act.put, List.getElem_toArray, List.getElem_cons_succ, List.getElem_cons_zero, List.setIfInBounds_toArray, List.set_cons_zero, List.set_cons_succ]
            refine wpAnyH_take (i := 27) (oi := _) (v := ?_) rfl (by kernel_rfl) (by kernel_rfl) (by kernel_rfl) (fun _ _ _ h => h) (Or.inl ⟨by kernel_rfl, ?_⟩) hS ?_
            rotate_left
            · intro w' hw'
              have hcells := HC20.out w' hw'
              go_simp
              (try with_reducible rfl)
            simp only [Act.put, List.getElem_toArray, List.getElem_cons_succ, List.getElem_cons_zero, List.setIfInBounds_toArray, List.set_cons_zero, List.set_cons_succ]
            refine wpAnyH_take (i := 28) (oi := _) (v := ?_) rfl (by kernel_rfl) (by kernel_rfl) (by kernel_rfl) (fun _ _ _ h => h) (Or.inl ⟨by kernel_rfl, ?_⟩) hS ?_
            rotate_left
            · intro w' hw'
              have hcells := HC20.out w' hw'
              go_simp
              (try with_reducible rfl)
            simp only [Act.put, List.getElem_toArray, List.getElem_cons_succ, List.getElem_cons_zero, List.setIfInBounds_toArray, List.set_cons_zero, List.set_cons_succ]
            refine wpAnyH_take (i := 29) (oi := _) (v := ?_) rfl (by kernel_rfl) (by kernel_rfl) (by kernel_rfl) (fun _ _ _ h => h) (Or.inl ⟨by kernel_rfl, ?_⟩) hS ?_
            rotate_left
            · intro w' hw'
              have hcells := HC20.out w' hw'
              go_simp
              (try with_reducible rfl)
            simp only [Act.put, List.getElem_toArray, List.getElem_cons_succ, List.getElem_cons_zero, List.setIfInBounds_toArray, List.set_cons_zero, List.set_cons_succ]
            refine wpAnyH_take (i := 30) (oi := _) (v := ?_) rfl (by kernel_rfl) (by kernel_rfl) (by kernel_rfl) (fun _ _ _ h => h) (Or.inl ⟨by kernel_rfl, ?_⟩) hS ?_
            rotate_left
            · intro w' hw'
              have hcells := HC20.out w' hw'
              go_simp
              (try with_reducible rfl)
            simp only [Act.put, List.getElem_toArray, List.getElem_cons_succ, List.getElem_cons_zero, List.setIfInBounds_toArray, List.set_cons_zero, List.set_cons_succ]
            refine wpAnyH_take (i := 31) (oi := _) (v := ?_) rfl (by kernel_rfl) (by kernel_rfl) (by kernel_rfl) (fun _ _ _ h => h) (Or.inl ⟨by kernel_rfl, ?_⟩) hS ?_
            rotate_left
            · intro w' hw'
              have hcells := HC20.out w' hw'
              go_simp
              (try with_reducible rfl)
            simp only [Act.put, List.getElem_toArray, List.getElem_cons_succ, List.getElem_cons_zero, List.setIfInBounds_toArray, List.set_cons_zero, List.set_cons_succ]
            refine wpAnyH_done (by kernel_rfl) ?_ _
            (try dsimp only)
            have hBL := hid hS
            have hc := HC20.out _ hS
            clear hS
            obtain ⟨j0, j1, j2, j3, j4, j5, j6, j7, j8, j9, u2, _⟩ := hc
            have hsm' := HD.out.2.2.2.1
            have hsm0 := HD.out.2.2.2.2.1
            have hzi1 : zi ≤ 1099511627777 := by rw [HZI.out]; exact HD.out.2.2.2.2.2.1
            have hzi2 : 0 ≤ zi := by rw [HZI.out]; omega
            clear E1 E2 hkp hkpN HSAME HC20 hnz hnzN
            go_wp2
            go_roundw
            case rel =>
              have h1 := HBL.out.trans (HS10.out.mono HBL.out.size)
              refine ⟨i + 1, by omega, by go_num, ?_, h1.trans (hBL.out.mono h1.size)⟩
              rw [sumS_succ, ← HSI.out]; push_cast; rw [HZI.out]
            case measure => simp [intOf]; omega
        · obtain rfl : i = k := by omega
          clear hlt
          have t0 := HTEN.out _ hbwl
          obtain ⟨j0, j1, j2, j3, j4, j5, j6, j7, j8, j9⟩ := t0
          have hbz := (LAT.out wl hbwl).1
          clear hbwl hbrl hbl
          by_cases hk0 : i = 0
          · have hk0' : ((i : Int) == 0) = true := by simp [hk0]
            go_wp2
            go_ret
            exact ⟨rfl, hbz⟩
          · have hk0' : ((i : Int) == 0) = false := by simp [hk0]
            have hsum := sumS_all M i (by omega)
            rw [hsum]
            go_wp2
            go_ret
            exact ⟨rfl, hbz⟩
end Go.Proofs.YthjlgpmajeafpaaGreatDoor
