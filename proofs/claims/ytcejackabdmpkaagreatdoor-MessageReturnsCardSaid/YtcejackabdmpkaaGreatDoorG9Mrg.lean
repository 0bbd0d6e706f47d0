/-
  Equality: manifoldlaw29.sameStamp, manifoldlaw29.same, value.Equal, stamp.Compare's and message.Equal's parts. Condition: all can be read as data.
-/
import Derived.Test.YtcejackabdmpkaaGreatDoorG8Mrg
import Derived.Test.YtcejackabdmpkaaGreatDoorG3Mrg
namespace Go.Proofs.YtcejackabdmpkaaGreatDoor
open Go Go.RowKit Go.Shelf
set_option linter.unusedVariables false
set_option linter.unusedSimpArgs false

abbrev sObj (c : SC) : Obj := .cells #[.int .i64 c.e, .slice c.a c.n c.c] 39
def stEqB (d d2 : St) : Bool := decide (d.e = d2.e ∧ d.ps = d2.ps)

theorem list_eq_of {xs ys : List Int} (hl : xs.length = ys.length) (h : ∀ j (h1 : j < xs.length) (h2 : j < ys.length), xs[j] = ys[j]) : xs = ys := List.ext_getElem hl h

set_option maxRecDepth 100000 in
set_option maxHeartbeats 4000000 in
theorem sameStamp_call (c c2 : SC) (d d2 : St) (w : World) (hd : IsSt (· < w.heap.size) w c d) (hd2 : IsSt (· < w.heap.size) w c2 d2) :
    Calls Tryz.prog 26 #[c.v, c2.v] w fun e w' => e = .returned (.bool (stEqB d d2)) ∧ Below w.heap.size w w' := by
  obtain ⟨e1, a, n, cap⟩ := c
  obtain ⟨e2, a2, n2, cap2⟩ := c2
  obtain ⟨de, ps⟩ := d
  obtain ⟨de2, ps2⟩ := d2
  obtain ⟨h1, _, hps⟩ := hd
  obtain ⟨h2, _, hps2⟩ := hd2
  dsimp only at h1 h2 hps hps2 ⊢
  subst h1 h2
  have hbig := hps.big
  have hbig2 := hps2.big
  have HWB : Hid (Below w.heap.size w ((w.alloc (.cells #[.int .i64 e1, .slice a n cap] 39)).alloc (.cells #[.int .i64 e2, .slice a2 n2 cap2] 39))) := hid (((Below.refl _ w).alloc (Nat.le_refl _) _).alloc (by simp) _)
  obtain ⟨wb, hwb⟩ : ∃ wb, wb = ((w.alloc (.cells #[.int .i64 e1, .slice a n cap] 39)).alloc (.cells #[.int .i64 e2, .slice a2 n2 cap2] 39)) := ⟨_, rfl⟩
  have hc : ∀ w', Below wb.heap.size wb w' → (w'.cell? ⟨w.heap.size, 0, none⟩ = some (.int .i64 e1) ∧ w'.cell? ⟨w.heap.size, 1, none⟩ = some (.slice a n cap) ∧ w'.cell? ⟨w.heap.size + 1, 0, none⟩ = some (.int .i64 e2) ∧ w'.cell? ⟨w.heap.size + 1, 1, none⟩ = some (.slice a2 n2 cap2)) ∧ IsInts (fun b => b < w.heap.size) w' a n cap ps ∧ IsInts (fun b => b < w.heap.size) w' a2 n2 cap2 ps2 ∧ Below w.heap.size w w' := fun w' h => by
    rw [hwb] at h
    have hb := HWB.out.trans (h.mono HWB.out.size)
    have g1 : w'.heap[w.heap.size]? = some (sObj ⟨e1, a, n, cap⟩) := heapExt h (heapAlloc _ (heap_alloc_new w _))
    have g2 : w'.heap[w.heap.size + 1]? = some (sObj ⟨e2, a2, n2, cap2⟩) := heapExt h (heapNewAt _ _ _ (by simp))
    exact ⟨⟨cellOf g1 0, cellOf g1 1, cellOf g2 0, cellOf g2 1⟩, hps.same fun b q => ⟨q, hb.block b q⟩, hps2.same fun b q => ⟨q, hb.block b q⟩, hb⟩
  have h0 := (hc _ (Below.refl _ _)).1
  have HC := hid hc
  have HL := hid hps.len
  have HL2 := hid hps2.len
  rw [hwb] at h0
  obtain ⟨k0, k1, k2, k3⟩ := h0
  clear hc hps hps2
  go_enter Tryz.func26, Tryz.ntmps26
  by_cases q1 : e1 = e2
  · subst q1
    by_cases q2 : n = n2
    · subst q2
      go_wp2
      rw [← hwb]
      have HWBE := hid hwb
      clear hwb k0 k1 k2 k3
      go_loopw [5] (fun i wr => ∃ k : Nat, k ≤ n ∧ i = .int .i64 k ∧ (∀ j (h1 : j < ps.length) (h2 : j < ps2.length), j < k → ps[j] = ps2[j]) ∧ Below wb.heap.size wb wr) (fun i _ => n - (intOf i).toNat)
      case atStart => exact ⟨0, Nat.zero_le _, rfl, fun j _ _ h => absurd h (Nat.not_lt_zero j), Below.refl _ _⟩
      case round =>
        obtain ⟨k, hk, rfl, hall, hbr⟩ := hrel
        have HA := hid hall
        clear hall
        obtain ⟨⟨k0, k1, k2, k3⟩, hx, hy, hbw⟩ := HC.out wr hbr
        have HX := hid hx
        have HY := hid hy
        clear hx hy
        have hn63 : (n : Int) ≤ 9223372036854775807 := by omega
        by_cases hlt : k < n
        · obtain ⟨b, o, rfl, _, hcx⟩ := HX.out.slot (show 0 < n by omega)
          obtain ⟨b', o', rfl, _, hcy⟩ := HY.out.slot (show 0 < n by omega)
          have hkl : k < ps.length := by have := HL.out; omega
          have hkl2 : k < ps2.length := by have := HL2.out; omega
          have hx0 := hcx k hkl
          have hy0 := hcy k hkl2
          clear hcx hcy
          have hlt' : (k : Int) < (n : Int) := by omega
          have hk0 : (0 : Int) ≤ (k : Int) := by omega
          obtain ⟨x, hxx⟩ : ∃ x, x = ps[k] := ⟨_, rfl⟩
          obtain ⟨y, hyy⟩ : ∃ y, y = ps2[k] := ⟨_, rfl⟩
          rw [← hxx] at hx0
          rw [← hyy] at hy0
          have HXX := hid hxx
          have HYY := hid hyy
          clear hxx hyy
          by_cases hxy : x = y
          · subst hxy
            go_upto_region 6 with (fail)
            go_quiet (fail)
            go_wp2
            go_roundw
            case rel => exact ⟨k + 1, by omega, by go_num, fun j h1 h2 h => by
              by_cases hjk : j < k
              · exact HA.out j h1 h2 hjk
              · obtain rfl : j = k := by omega
                rw [← HXX.out, ← HYY.out], by first | exact hbr | exact below_drewN hbr _⟩
            case measure => simp [intOf]; omega
          · have r := hid (show stEqB ⟨e1, ps⟩ ⟨e1, ps2⟩ = false by
              rw [stEqB, decide_eq_false_iff_not]
              rintro ⟨_, h⟩
              dsimp only at h
              exact hxy (by rw [HXX.out, HYY.out]; simp only [h]))
            go_upto_region 6 with (fail)
            go_quiet (fail)
            go_wp2
            go_ret
            exact ⟨by rw [r.out]; rfl, by first | exact hbw | exact below_drewN hbw _⟩
        · obtain rfl : k = n := by omega
          have r := hid (show stEqB ⟨e1, ps⟩ ⟨e1, ps2⟩ = true by
            rw [stEqB, decide_eq_true_iff]
            exact ⟨rfl, show ps = ps2 from list_eq_of (HL.out.symm.trans HL2.out) fun j h1 h2 => HA.out j h1 h2 (by have := HL.out; omega)⟩)
          go_wp2
          go_ret
          exact ⟨by rw [r.out]; rfl, hbw⟩
    · have r := hid (show stEqB ⟨e1, ps⟩ ⟨e1, ps2⟩ = false by
        rw [stEqB, decide_eq_false_iff_not]
        rintro ⟨_, h⟩
        dsimp only at h
        exact q2 (by rw [HL.out, HL2.out, h]))
      have q2' : ¬ (n : Int) = (n2 : Int) := by omega
      go_wp2
      go_ret
      exact ⟨by rw [r.out]; rfl, HWB.out⟩
  · have r := hid (show stEqB ⟨e1, ps⟩ ⟨e2, ps2⟩ = false by
      rw [stEqB, decide_eq_false_iff_not]
      exact fun h => q1 h.1)
    go_wp2
    go_ret
    exact ⟨by rw [r.out]; rfl, HWB.out⟩

set_option maxRecDepth 100000 in
theorem valEqual_call (c c2 : VC) (d d2 : Val) (w : World) (hd : IsVal (· < w.heap.size) w c d) (hd2 : IsVal (· < w.heap.size) w c2 d2) :
    Calls Tryz.prog 14 #[c.v, c2.v] w fun e w' => e = .returned (.bool (cmpV d d2 == 0)) ∧ Below w.heap.size w w' := by
  obtain ⟨wb, hwb⟩ : ∃ wb, wb = ((w.alloc (vObj c)).alloc (vObj c2)) := ⟨_, rfl⟩
  have hb : Below w.heap.size w wb := by rw [hwb]; exact ((Below.refl _ w).alloc (Nat.le_refl _) _).alloc (by simp) _
  have hs := hb.size
  have hc := compare_call c c2 d d2 wb (hd.same fun b q => ⟨by omega, hb.block b q⟩) (hd2.same fun b q => ⟨by omega, hb.block b q⟩)
  have HB := hid hb
  rw [hwb] at hc
  have HWB := hid hwb
  have HC := hid hc
  clear hwb hb hc hs hd hd2
  go_enter Tryz.func14, Tryz.ntmps14
  go_wp2_with (go_at_call 41; refine HC.out.mono ?_; rintro e w1 ⟨rfl, hb1⟩)
  go_ret
  rw [← HWB.out] at hb1
  exact ⟨rfl, HB.out.trans (hb1.mono HB.out.size)⟩
end Go.Proofs.YtcejackabdmpkaaGreatDoor

/-
  manifoldlaw29.same says whether two messages are equal. Condition: both can be read as data.
-/
namespace Go.Proofs.YtcejackabdmpkaaGreatDoor
open Go Go.RowKit Go.Shelf
set_option linter.unusedVariables false
set_option linter.unusedSimpArgs false

def msgEqB (d d2 : Msg) : Bool := stEqB d.st d2.st && (decide (d.m = d2.m) && (decide (d.es = d2.es) && (cmpV d.b d2.b == 0)))

/-- What two messages' boxes and the calls on them give, whatever came behind them. -/
structure TwoAt (w w1 : World) (c c2 : MC) (d d2 : Msg) : Prop where
  t1 : Ten w1 w.heap.size c
  t2 : Ten w1 (w.heap.size + 1) c2
  bel : Below w.heap.size w w1
  st : Calls Tryz.prog 26 #[.agg #[.int .i64 c.st.e, .slice c.st.a c.st.n c.st.c], .agg #[.int .i64 c2.st.e, .slice c2.st.a c2.st.n c2.st.c]] w1 fun e w' => e = .returned (.bool (stEqB d.st d2.st)) ∧ Below w1.heap.size w1 w'
  val : Calls Tryz.prog 14 #[.agg #[.int .i64 c.b.k, .int .i64 c.b.i, .int .i64 c.b.s, .string c.b.t, .slice c.b.la c.b.ll c.b.lc, .slice c.b.fa c.b.fl c.b.fc], .agg #[.int .i64 c2.b.k, .int .i64 c2.b.i, .int .i64 c2.b.s, .string c2.b.t, .slice c2.b.la c2.b.ll c2.b.lc, .slice c2.b.fa c2.b.fl c2.b.fc]] w1
    fun e w' => e = .returned (.bool (cmpV d.b d2.b == 0)) ∧ Below w1.heap.size w1 w'
  es : IsInts (· < w1.heap.size) w1 c.a c.n c.c d.es
  es2 : IsInts (· < w1.heap.size) w1 c2.a c2.n c2.c d2.es
theorem twoAt (c c2 : MC) (d d2 : Msg) (w : World) (hd : IsMsg (· < w.heap.size) w c d) (hd2 : IsMsg (· < w.heap.size) w c2 d2) (w1 : World) (hb : Below ((w.alloc (mObj c)).alloc (mObj c2)).heap.size ((w.alloc (mObj c)).alloc (mObj c2)) w1) : TwoAt w w1 c c2 d d2 := by
  have hb0 : Below w.heap.size w ((w.alloc (mObj c)).alloc (mObj c2)) := ((Below.refl _ w).alloc (Nat.le_refl _) _).alloc (by simp) _
  have hbw : Below w.heap.size w w1 := hb0.trans (hb.mono hb0.size)
  have hd1 : IsMsg (· < w1.heap.size) w1 c d := hd.same fun b h => ⟨Nat.lt_of_lt_of_le h hbw.size, hbw.block b h⟩
  have hd3 : IsMsg (· < w1.heap.size) w1 c2 d2 := hd2.same fun b h => ⟨Nat.lt_of_lt_of_le h hbw.size, hbw.block b h⟩
  exact ⟨tenOf (heapExt hb (heapAlloc _ (heap_alloc_new w _))), tenOf (heapExt hb (heapNewAt _ _ _ (by simp))), hbw, sameStamp_call _ _ _ _ w1 hd1.st hd3.st, valEqual_call _ _ _ _ w1 hd1.b hd3.b, hd1.es, hd3.es⟩

set_option maxRecDepth 100000 in
set_option maxHeartbeats 8000000 in
theorem same_call (c c2 : MC) (d d2 : Msg) (w : World) (hd : IsMsg (· < w.heap.size) w c d) (hd2 : IsMsg (· < w.heap.size) w c2 d2) :
    Calls Tryz.prog 21 #[c.v, c2.v] w fun e w' => e = .returned (.bool (msgEqB d d2)) ∧ Below w.heap.size w w' := by
  have hm := twoAt c c2 d d2 w hd hd2
  have hbig := hd.es.big
  have hbig2 := hd2.es.big
  have HL := hid hd.es.len
  have HL2 := hid hd2.es.len
  have hq := hid (show msgEqB d d2 = (stEqB d.st d2.st && (decide (c.m = c2.m) && (decide (d.es = d2.es) && (cmpV d.b d2.b == 0)))) by rw [msgEqB, hd.m, hd2.m])
  clear hd hd2
  obtain ⟨⟨ce, sa, sn, sc⟩, m, a, n, cap, ⟨k, i', s, t, la, ll, lc, fa, fl, fc⟩⟩ := c
  obtain ⟨⟨ce2, sa2, sn2, sc2⟩, m2, a2, n2, cap2, ⟨k2, i2, s2, t2, la2, ll2, lc2, fa2, fl2, fc2⟩⟩ := c2
  dsimp only at hm hbig hbig2 HL HL2 hq
  obtain ⟨u, hu⟩ : ∃ u, u = stEqB d.st d2.st := ⟨_, rfl⟩
  obtain ⟨v, hv⟩ : ∃ v, v = (cmpV d.b d2.b == 0) := ⟨_, rfl⟩
  rw [← hu, ← hv] at hq
  obtain ⟨wb, hwb⟩ : ∃ wb, wb = ((w.alloc (mObj ⟨⟨ce, sa, sn, sc⟩, m, a, n, cap, ⟨k, i', s, t, la, ll, lc, fa, fl, fc⟩⟩)).alloc (mObj ⟨⟨ce2, sa2, sn2, sc2⟩, m2, a2, n2, cap2, ⟨k2, i2, s2, t2, la2, ll2, lc2, fa2, fl2, fc2⟩⟩)) := ⟨_, rfl⟩
  rw [← hwb] at hm
  have hst : ∀ w1, Below wb.heap.size wb w1 → Calls Tryz.prog 26 #[.agg #[.int .i64 ce, .slice sa sn sc], .agg #[.int .i64 ce2, .slice sa2 sn2 sc2]] w1 fun e w' => e = .returned (.bool u) ∧ Below w1.heap.size w1 w' := fun w1 h => by rw [hu]; exact (hm w1 h).st
  have hvl : ∀ w1, Below wb.heap.size wb w1 → Calls Tryz.prog 14 #[.agg #[.int .i64 k, .int .i64 i', .int .i64 s, .string t, .slice la ll lc, .slice fa fl fc], .agg #[.int .i64 k2, .int .i64 i2, .int .i64 s2, .string t2, .slice la2 ll2 lc2, .slice fa2 fl2 fc2]] w1
    fun e w' => e = .returned (.bool v) ∧ Below w1.heap.size w1 w' := fun w1 h => by rw [hv]; exact (hm w1 h).val
  have HM := hid hm
  have HST := hid (hst _ (Below.refl _ _))
  have HVL := hid hvl
  have h0 := hm _ (Below.refl _ _)
  have h0a := h0.t1
  have h0b := h0.t2
  clear hm hst hvl hu hv h0
  dsimp only [Ten] at h0a h0b
  rw [hwb] at h0a h0b HST
  obtain ⟨e0, e1, e2, e3, e4, e5, e6, e7, e8, e9⟩ := h0a
  obtain ⟨f0, f1, f2, f3, f4, f5, f6, f7, f8, f9⟩ := h0b
  dsimp only [MC.v]
  go_enter Tryz.func21, Tryz.ntmps21
  cases u with
  | false =>
    go_wp2_with (go_at_call 26; refine HST.out.mono ?_; rintro e w1 ⟨rfl, hb1⟩; rw [← hwb] at hb1; have hbw := (HM.out w1 hb1).bel)
    go_ret
    exact ⟨by rw [hq.out]; rfl, hbw⟩
  | true =>
  by_cases q1 : m = m2
  · subst q1
    by_cases q2 : n = n2
    · subst q2
      cases v with
      | false =>
        have r := hid (show msgEqB d d2 = false by rw [hq.out]; simp)
        go_wp2_with (first
          | (go_at_call 26; refine HST.out.mono ?_; rintro e w1 ⟨rfl, hb1⟩; rw [← hwb] at hb1; have hm1 := HM.out w1 hb1; have hbw := hm1.bel; have t1 := hm1.t1; have t2 := hm1.t2; clear hm1; dsimp only [Ten] at t1 t2; obtain ⟨j0, j1, j2, j3, j4, j5, j6, j7, j8, j9⟩ := t1; obtain ⟨l0, l1, l2, l3, l4, l5, l6, l7, l8, l9⟩ := t2)
          | (go_at_call 14; refine (HVL.out _ hb1).mono ?_; rintro e w2 ⟨rfl, hb2⟩))
        go_ret
        exact ⟨by rw [r.out]; rfl, hbw.trans (hb2.mono hbw.size)⟩
      | true =>
        have r := hid (show msgEqB d d2 = decide (d.es = d2.es) by rw [hq.out]; simp)
        go_wp2_with (first
          | (go_at_call 26; refine HST.out.mono ?_; rintro e w1 ⟨rfl, hb1⟩; rw [← hwb] at hb1; have hm1 := HM.out w1 hb1; have hbw := hm1.bel; have t1 := hm1.t1; have t2 := hm1.t2; clear hm1; dsimp only [Ten] at t1 t2; obtain ⟨j0, j1, j2, j3, j4, j5, j6, j7, j8, j9⟩ := t1; obtain ⟨l0, l1, l2, l3, l4, l5, l6, l7, l8, l9⟩ := t2)
          | (go_at_call 14; refine (HVL.out _ hb1).mono ?_; rintro e w2 ⟨rfl, hb2⟩))
        have hb12 := hb1.trans (hb2.mono hb1.size)
        clear j0 j1 j2 j3 j4 j5 j6 j7 j8 j9 l0 l1 l2 l3 l4 l5 l6 l7 l8 l9 e0 e1 e2 e3 e4 e5 e6 e7 e8 e9 f0 f1 f2 f3 f4 f5 f6 f7 f8 f9 hb1 hb2 hbw
        go_loopw [5] (fun i wr => ∃ q : Nat, q ≤ n ∧ i = .int .i64 q ∧ (∀ j (h1 : j < d.es.length) (h2 : j < d2.es.length), j < q → d.es[j] = d2.es[j]) ∧ Below wb.heap.size wb wr) (fun i _ => n - (intOf i).toNat)
        case atStart => exact ⟨0, Nat.zero_le _, rfl, fun j _ _ h => absurd h (Nat.not_lt_zero j), hb12⟩
        case round =>
          obtain ⟨q, hq', rfl, hall, hbr⟩ := hrel
          have HA := hid hall
          clear hall hb12
          have hm1 := HM.out wr hbr
          have hbw := hm1.bel
          have t1 := hm1.t1
          have t2 := hm1.t2
          have HX := hid hm1.es
          have HY := hid hm1.es2
          clear hm1
          dsimp only [Ten] at t1 t2
          obtain ⟨j0, j1, j2, j3, _⟩ := t1
          obtain ⟨l0, l1, l2, l3, _⟩ := t2
          have hn63 : (n : Int) ≤ 9223372036854775807 := by omega
          by_cases hlt : q < n
          · obtain ⟨b, o, rfl, _, hcx⟩ := HX.out.slot (show 0 < n by omega)
            obtain ⟨b', o', rfl, _, hcy⟩ := HY.out.slot (show 0 < n by omega)
            have hkl : q < d.es.length := by have := HL.out; omega
            have hkl2 : q < d2.es.length := by have := HL2.out; omega
            have hx0 := hcx q hkl
            have hy0 := hcy q hkl2
            clear hcx hcy
            have hlt' : (q : Int) < (n : Int) := by omega
            have hk0 : (0 : Int) ≤ (q : Int) := by omega
            obtain ⟨x, hxx⟩ : ∃ x, x = d.es[q] := ⟨_, rfl⟩
            obtain ⟨y, hyy⟩ : ∃ y, y = d2.es[q] := ⟨_, rfl⟩
            rw [← hxx] at hx0
            rw [← hyy] at hy0
            have HXX := hid hxx
            have HYY := hid hyy
            clear hxx hyy
            by_cases hxy : x = y
            · subst hxy
              go_upto_region 6 with (fail)
              go_quiet (fail)
              go_wp2
              go_roundw
              case rel => exact ⟨q + 1, by omega, by go_num, fun j h1 h2 h => by
                by_cases hjk : j < q
                · exact HA.out j h1 h2 hjk
                · obtain rfl : j = q := by omega
                  rw [← HXX.out, ← HYY.out], by first | exact hbr | exact below_drewN hbr _⟩
              case measure => simp [intOf]; omega
            · have r2 := hid (show msgEqB d d2 = false by
                rw [r.out, decide_eq_false_iff_not]
                intro h
                exact hxy (by rw [HXX.out, HYY.out]; simp only [h]))
              go_upto_region 6 with (fail)
              go_quiet (fail)
              go_wp2
              go_ret
              exact ⟨by rw [r2.out]; rfl, by first | exact hbw | exact below_drewN hbw _⟩
          · obtain rfl : q = n := by omega
            have r2 := hid (show msgEqB d d2 = true by
              rw [r.out, decide_eq_true_iff]
              exact list_eq_of (HL.out.symm.trans HL2.out) fun j h1 h2 => HA.out j h1 h2 (by have := HL.out; omega))
            go_wp2
            go_ret
            exact ⟨by rw [r2.out]; rfl, hbw⟩
    · have r := hid (show msgEqB d d2 = false by
        have : ¬ d.es = d2.es := fun h => q2 (by rw [HL.out, HL2.out, h])
        rw [hq.out, decide_eq_false this]; simp)
      have q2' : ¬ (n : Int) = (n2 : Int) := by omega
      go_wp2_with (go_at_call 26; refine HST.out.mono ?_; rintro e w1 ⟨rfl, hb1⟩; rw [← hwb] at hb1; have hm1 := HM.out w1 hb1; have hbw := hm1.bel; have t1 := hm1.t1; have t2 := hm1.t2; clear hm1; dsimp only [Ten] at t1 t2; obtain ⟨j0, j1, j2, j3, j4, j5, j6, j7, j8, j9⟩ := t1; obtain ⟨l0, l1, l2, l3, l4, l5, l6, l7, l8, l9⟩ := t2)
      go_ret
      exact ⟨by rw [r.out]; rfl, hbw⟩
  · have r := hid (show msgEqB d d2 = false by rw [hq.out, decide_eq_false q1]; simp)
    go_wp2_with (go_at_call 26; refine HST.out.mono ?_; rintro e w1 ⟨rfl, hb1⟩; rw [← hwb] at hb1; have hm1 := HM.out w1 hb1; have hbw := hm1.bel; have t1 := hm1.t1; have t2 := hm1.t2; clear hm1; dsimp only [Ten] at t1 t2; obtain ⟨j0, j1, j2, j3, j4, j5, j6, j7, j8, j9⟩ := t1; obtain ⟨l0, l1, l2, l3, l4, l5, l6, l7, l8, l9⟩ := t2)
    go_ret
    exact ⟨by rw [r.out]; rfl, hbw⟩
end Go.Proofs.YtcejackabdmpkaaGreatDoor

/-
  Plain: what Compare's functions say of equal data. No walk.
-/
namespace Go.Proofs.YtcejackabdmpkaaGreatDoor
open Go Go.RowKit
set_option linter.unusedVariables false
set_option linter.unusedSimpArgs false

theorem cmpInt_refl (x : Int) : Lib.compareInt x x = 0 := by simp [Lib.compareInt]
theorem cmpInt_zero {x y : Int} (h : Lib.compareInt x y = 0) : x = y := by
  unfold Lib.compareInt at h
  repeat' split at h
  all_goals first | omega | cases h
theorem cmpI_zero : ∀ {xs ys : List Int}, cmpI xs ys = 0 ↔ xs = ys
  | [], [] => by simp [cmpI]
  | [], _ :: _ => by simp [cmpI]
  | _ :: _, [] => by simp [cmpI]
  | x :: r, y :: s => by
    rw [cmpI]
    by_cases h : Lib.compareInt x y = 0
    · rw [if_neg (by simpa using h), cmpI_zero]
      have := cmpInt_zero h
      simp [this]
    · rw [if_pos h]
      constructor
      · intro h1; exact absurd h1 h
      · intro h1; injection h1 with h2 _; subst h2; exact absurd (cmpInt_refl x) h
theorem cmpB_refl : ∀ (xs : List UInt8), Lib.compareBytes xs xs = 0
  | [] => rfl
  | a :: r => by
    rw [Lib.compareBytes, if_neg (by simp), if_neg (by simp)]
    exact cmpB_refl r
mutual
theorem cmpV_refl : ∀ (d : Val), cmpV d d = 0
  | .mk k i s t l ns fs => by
    rw [cmpV, cmpInt_refl, cmpInt_refl, cmpInt_refl, cmpB_refl, cmpVs_refl l, cmpFs_refl fs ns]
    rfl
theorem cmpVs_refl : ∀ (l : List Val), cmpVs l l = 0
  | [] => rfl
  | d :: l => by
    rw [cmpVs, cmpV_refl d, if_neg (by simp)]
    exact cmpVs_refl l
theorem cmpFs_refl : ∀ (l : List Val) (ns : List ByteArray), cmpFs ns l ns l = 0
  | [], ns => by rw [cmpFs]
  | d :: l, ns => by
    rw [cmpFs, cmpB_refl, cmpV_refl d, if_neg (by simp [orL])]
    exact cmpFs_refl l ns.tail
end
theorem stEqB_refl (d : St) : stEqB d d = true := by simp [stEqB]
theorem msgEqB_refl (d : Msg) : msgEqB d d = true := by simp [msgEqB, stEqB_refl, cmpV_refl]
end Go.Proofs.YtcejackabdmpkaaGreatDoor
