/-
  MessageReturns returns true. Conditions: the message can be read as data; Tabs.
-/
import Derived.Test.YtcejackabdmpkaaGreatDoorRetMrg
import Derived.Test.YtcejackabdmpkaaGreatDoorMergeMrg
import Derived.Test.YtcejackabdmpkaaGreatDoorFateAMrg
import Derived.Test.YtcejackabdmpkaaGreatDoorKnownMrg
import Derived.Test.YtcejackabdmpkaaGreatDoorG9Mrg
namespace Go.Proofs.YtcejackabdmpkaaGreatDoor
open Go Go.RowKit Go.Shelf
set_option linter.unusedVariables false
set_option linter.unusedSimpArgs false

theorem step_make_slice {P : Program} {w : World} {ops : Array Oper} {o : Oper} {a : Act} {K' : Act → World → Prop} {Q : Exit → Act → World → Prop} {E : Prop} (hgd : o.guard = none) (l c : Operand) (t : TypeId)
    (ho : o.op = Op.makeSlice t l c) {e : TypeId} {i : TypeInfo} {z : Value} (ht : P.underlying t = some (.slice e)) (hi : P.info? e = some i) (hz : i.zero = some z) (n : Nat) (hl : a.eval l = .int .i64 (n : Int)) (hc : a.eval c = .int .i64 (n : Int)) (hb : i.bytes * n ≤ 281474976710656) (hn : n ≤ 9223372036854775807)
    (h : K' (a.put o.dst (.slice (some ⟨w.heap.size, 0, none⟩) n n)) (w.alloc (.cells (madeCells z.cells (n * i.size)) e))) :
    if Region.wanted o (yielded ops a.tmps) = true then Oper.wp P o a w K' Q else E := by
  have hw : Region.wanted o (yielded ops a.tmps) = true := by simp [Region.wanted, hgd]
  have hb' : (i.bytes : Int) * (n : Int) ≤ 281474976710656 := by
    have h : ((i.bytes * n : Nat) : Int) ≤ 281474976710656 := by omega
    rwa [Int.natCast_mul] at h
  have hrun := run_make (P := P) w t e i z ht hi hz .i64 .i64 n n (by omega) (Int.le_refl _) hb' (by omega)
  simp only [Int.toNat_natCast] at hrun
  rw [if_pos hw]
  unfold Oper.wp
  simp [execOp, ho, hl, hc, hrun, Result.andThen]
  exact h
def zeroV : VC := ⟨0, 0, 0, ⟨#[]⟩, none, 0, 0, none, 0, 0⟩
theorem zeroV_is (S : Nat → Prop) (w : World) : IsVal S w zeroV noVal := ⟨⟨rfl, rfl, rfl, rfl, ⟨(show I64 0 from ⟨by decide, by decide⟩), (show I64 0 from ⟨by decide, by decide⟩), (show I64 0 from ⟨by decide, by decide⟩), (show (0:Nat) ≤ 140737488351232 by decide), (show 0 * 88 ≤ 140737488351232 by decide), (show 0 * 104 ≤ 140737488351232 by decide), Nat.le_refl 0, Nat.le_refl 0⟩, rfl, rfl, rfl⟩, .inl rfl, .inl rfl⟩
abbrev zeroCs : Array Value := #[.int .i64 0, .int .i64 0, .int .i64 0, .string ByteArray.empty, .slice none 0 0, .slice none 0 0]
theorem made_at (n q i : Nat) (hq : q < n) (hi : i < 6) : (madeCells zeroCs (n * 6))[q * 6 + i]? = zeroCs[i]? := by
  have hlt : q * 6 + i < n * 6 := by omega
  have e : (q * 6 + i) % 6 = i := by omega
  have hz : zeroCs.size = 6 := rfl
  have hi' : i < zeroCs.size := by omega
  rw [madeCells, Array.getElem?_map, Array.getElem?_range]
  simp only [hlt, if_true, Option.map_some, hz, e]
  rw [getElem!_pos zeroCs i hi', Array.getElem?_eq_getElem hi']
theorem zeroVals_made (w : World) (n : Nat) (S : Nat → Prop) : IsVals S (w.alloc (.cells (madeCells zeroCs (n * 6)) 25)) w.heap.size 0 (List.replicate n noVal) := by
  refine IsVals.of fun j hj => ?_
  rw [List.length_replicate] at hj
  have g := heap_alloc_new w (.cells (madeCells zeroCs (n * 6)) 25)
  rw [List.getElem_replicate]
  refine ⟨zeroV, ?_, zeroV_is S _⟩
  simp only [Nat.zero_add]
  exact ⟨(cellOf g _).trans (made_at n j 0 hj (by decide)), (cellOf g _).trans (made_at n j 1 hj (by decide)), (cellOf g _).trans (made_at n j 2 hj (by decide)), (cellOf g _).trans (made_at n j 3 hj (by decide)), (cellOf g _).trans (made_at n j 4 hj (by decide)), (cellOf g _).trans (made_at n j 5 hj (by decide))⟩

set_option maxRecDepth 100000 in
set_option maxHeartbeats 16000000 in
theorem returns_call (c : MC) (d : Msg) (x : Int) (w : World) (hd : IsMsg (· < w.heap.size) w c d) (hx0 : 0 ≤ x) (hx1 : x ≤ 255) (hT : Tabs w) : Calls Tryz.prog 4 #[c.v, .int .u8 x] w fun e w' => e = .returned (.bool true) ∧ Below w.heap.size w w' := by
  obtain ⟨ti, hi, hz0, hz1, hz2⟩ := info_parts infoValue
  have HB0 : Hid (Below w.heap.size w (w.alloc (.cells #[.int .i64 c.st.e, .slice c.st.a c.st.n c.st.c, .int .i64 c.m, .slice c.a c.n c.c, .int .i64 c.b.k, .int .i64 c.b.i, .int .i64 c.b.s, .string c.b.t, .slice c.b.la c.b.ll c.b.lc, .slice c.b.fa c.b.fl c.b.fc] 41))) := hid ((Below.refl _ w).alloc (Nat.le_refl _) _)
  have HT := hid hT
  have HD := hid hd
  have UPW : Hid (∀ w', Below (w.alloc (.cells #[.int .i64 c.st.e, .slice c.st.a c.st.n c.st.c, .int .i64 c.m, .slice c.a c.n c.c, .int .i64 c.b.k, .int .i64 c.b.i, .int .i64 c.b.s, .string c.b.t, .slice c.b.la c.b.ll c.b.lc, .slice c.b.fa c.b.fl c.b.fc] 41)).heap.size (w.alloc (.cells #[.int .i64 c.st.e, .slice c.st.a c.st.n c.st.c, .int .i64 c.m, .slice c.a c.n c.c, .int .i64 c.b.k, .int .i64 c.b.i, .int .i64 c.b.s, .string c.b.t, .slice c.b.la c.b.ll c.b.lc, .slice c.b.fa c.b.fl c.b.fc] 41)) w' → Below w.heap.size w w') := hid fun w' h => HB0.out.trans (h.mono HB0.out.size)
  have HDU : Hid (∀ w', Below w.heap.size w w' → IsMsg (· < w'.heap.size) w' c d) := hid fun w' h => HD.out.same fun b q => ⟨Nat.lt_of_lt_of_le q h.size, h.block b q⟩
  have HK : Hid (∀ w', Below (w.alloc (.cells #[.int .i64 c.st.e, .slice c.st.a c.st.n c.st.c, .int .i64 c.m, .slice c.a c.n c.c, .int .i64 c.b.k, .int .i64 c.b.i, .int .i64 c.b.s, .string c.b.t, .slice c.b.la c.b.ll c.b.lc, .slice c.b.fa c.b.fl c.b.fc] 41)).heap.size (w.alloc (.cells #[.int .i64 c.st.e, .slice c.st.a c.st.n c.st.c, .int .i64 c.m, .slice c.a c.n c.c, .int .i64 c.b.k, .int .i64 c.b.i, .int .i64 c.b.s, .string c.b.t, .slice c.b.la c.b.ll c.b.lc, .slice c.b.fa c.b.fl c.b.fc] 41)) w' → Calls Tryz.prog 9 #[] w' fun e w2 => e = .returned (.bool true) ∧ Below w'.heap.size w' w2) := hid fun w' h => known_call w' (HT.out.below (UPW.out _ h))
  have HSM : Hid (∀ w', Below (w.alloc (.cells #[.int .i64 c.st.e, .slice c.st.a c.st.n c.st.c, .int .i64 c.m, .slice c.a c.n c.c, .int .i64 c.b.k, .int .i64 c.b.i, .int .i64 c.b.s, .string c.b.t, .slice c.b.la c.b.ll c.b.lc, .slice c.b.fa c.b.fl c.b.fc] 41)).heap.size (w.alloc (.cells #[.int .i64 c.st.e, .slice c.st.a c.st.n c.st.c, .int .i64 c.m, .slice c.a c.n c.c, .int .i64 c.b.k, .int .i64 c.b.i, .int .i64 c.b.s, .string c.b.t, .slice c.b.la c.b.ll c.b.lc, .slice c.b.fa c.b.fl c.b.fc] 41)) w' → Calls Tryz.prog 17 #[.agg #[.int .i64 c.st.e, .slice c.st.a c.st.n c.st.c, .int .i64 c.m, .slice c.a c.n c.c, .int .i64 c.b.k, .int .i64 c.b.i, .int .i64 c.b.s, .string c.b.t, .slice c.b.la c.b.ll c.b.lc, .slice c.b.fa c.b.fl c.b.fc]] w' (SmallPost w' c)) := hid fun w' h => small_call c d w' (HDU.out w' (UPW.out _ h))
  obtain ⟨er, her⟩ : ∃ er, er = msgE d := ⟨_, rfl⟩
  have HCK : Hid (∀ w', Below (w.alloc (.cells #[.int .i64 c.st.e, .slice c.st.a c.st.n c.st.c, .int .i64 c.m, .slice c.a c.n c.c, .int .i64 c.b.k, .int .i64 c.b.i, .int .i64 c.b.s, .string c.b.t, .slice c.b.la c.b.ll c.b.lc, .slice c.b.fa c.b.fl c.b.fc] 41)).heap.size (w.alloc (.cells #[.int .i64 c.st.e, .slice c.st.a c.st.n c.st.c, .int .i64 c.m, .slice c.a c.n c.c, .int .i64 c.b.k, .int .i64 c.b.i, .int .i64 c.b.s, .string c.b.t, .slice c.b.la c.b.ll c.b.lc, .slice c.b.fa c.b.fl c.b.fc] 41)) w' → Calls Tryz.prog 18 #[.agg #[.int .i64 c.st.e, .slice c.st.a c.st.n c.st.c, .int .i64 c.m, .slice c.a c.n c.c, .int .i64 c.b.k, .int .i64 c.b.i, .int .i64 c.b.s, .string c.b.t, .slice c.b.la c.b.ll c.b.lc, .slice c.b.fa c.b.fl c.b.fc]] w' fun e w2 => e = .returned (.int .i64 er) ∧ Below w'.heap.size w' w2) := hid fun w' h => by rw [her]; exact lawCheck_call c d w' (HDU.out w' (UPW.out _ h)) (HT.out.below (UPW.out _ h))
  have HTEN : Hid (∀ w', Below (w.alloc (.cells #[.int .i64 c.st.e, .slice c.st.a c.st.n c.st.c, .int .i64 c.m, .slice c.a c.n c.c, .int .i64 c.b.k, .int .i64 c.b.i, .int .i64 c.b.s, .string c.b.t, .slice c.b.la c.b.ll c.b.lc, .slice c.b.fa c.b.fl c.b.fc] 41)).heap.size (w.alloc (.cells #[.int .i64 c.st.e, .slice c.st.a c.st.n c.st.c, .int .i64 c.m, .slice c.a c.n c.c, .int .i64 c.b.k, .int .i64 c.b.i, .int .i64 c.b.s, .string c.b.t, .slice c.b.la c.b.ll c.b.lc, .slice c.b.fa c.b.fl c.b.fc] 41)) w' → Ten w' w.heap.size c) := hid fun w' h => tenOf (heapExt h (heap_alloc_new w (.cells #[.int .i64 c.st.e, .slice c.st.a c.st.n c.st.c, .int .i64 c.m, .slice c.a c.n c.c, .int .i64 c.b.k, .int .i64 c.b.i, .int .i64 c.b.s, .string c.b.t, .slice c.b.la c.b.ll c.b.lc, .slice c.b.fa c.b.fl c.b.fc] 41)))
  obtain ⟨k, hk⟩ : ∃ k : Nat, (k : Int) = 1 + x % 100 := ⟨(1 + x % 100).toNat, by omega⟩
  have HK100 := hid (show 1 ≤ k ∧ k ≤ 100 by omega)
  have HKN := hid (show IntKind.i64.wrap (1 + (IntKind.i64.wrap x).tmod 100) = (k : Int) by rw [IntWalk.i64_in x (by omega), Int.tmod_eq_emod_of_nonneg hx0, IntWalk.i64_in _ (by omega), hk])
  have HER := hid her
  clear hd hT hk her
  dsimp only [MC.v, Ten] at HTEN ⊢
  go_enter Tryz.func4, Tryz.ntmps4
  by_cases hq : er = 0
  case neg =>
    have hqd : (er == 0) = false := by simp [hq]
    go_wp2_with (first
    | (go_at_call 9; refine (HK.out _ hb4).mono ?_; rintro e w9 ⟨rfl, hb9⟩; have hbz := HB0.out.trans ((hb4.trans (hb9.mono hb4.size)).mono HB0.out.size))
    | (go_at_call 9; refine (HK.out _ hb3).mono ?_; rintro e w9 ⟨rfl, hb9⟩; have hbz := HB0.out.trans ((hb3.trans (hb9.mono hb3.size)).mono HB0.out.size))
    | (go_at_call 18; refine (HCK.out _ hb3).mono ?_; rintro e w4 ⟨rfl, hb4'⟩; have hb4 := hb3.trans (hb4'.mono hb3.size))
    | (go_at_call 17; refine (HSM.out _ hb2).mono ?_; rintro e w3 ⟨⟨b1, rfl, hs1⟩, hb3'⟩; have hb3 := hb2.trans (hb3'.mono hb2.size); clear e0 e1 e2 e3 e4 e5 e6 e7 e8 e9; have t0 := HTEN.out _ hb3; obtain ⟨j0, j1, j2, j3, j4, j5, j6, j7, j8, j9⟩ := t0; cases b1)
    | (go_at_call 9; refine (HK.out _ (Below.refl _ _)).mono ?_; rintro e w2 ⟨rfl, hb2⟩; have t0 := HTEN.out _ hb2; obtain ⟨e0, e1, e2, e3, e4, e5, e6, e7, e8, e9⟩ := t0))
    all_goals go_ret
    all_goals exact ⟨rfl, hbz⟩
  subst hq
  go_upto_region 3 with (first
    | (go_at_call 9; refine (HK.out _ hb4).mono ?_; rintro e w9 ⟨rfl, hb9⟩; have hbz := HB0.out.trans ((hb4.trans (hb9.mono hb4.size)).mono HB0.out.size))
    | (go_at_call 9; refine (HK.out _ hb3).mono ?_; rintro e w9 ⟨rfl, hb9⟩; have hbz := HB0.out.trans ((hb3.trans (hb9.mono hb3.size)).mono HB0.out.size))
    | (go_at_call 18; refine (HCK.out _ hb3).mono ?_; rintro e w4 ⟨rfl, hb4'⟩; have hb4 := hb3.trans (hb4'.mono hb3.size))
    | (go_at_call 17; refine (HSM.out _ hb2).mono ?_; rintro e w3 ⟨⟨b1, rfl, hs1⟩, hb3'⟩; have hb3 := hb2.trans (hb3'.mono hb2.size); clear e0 e1 e2 e3 e4 e5 e6 e7 e8 e9; have t0 := HTEN.out _ hb3; obtain ⟨j0, j1, j2, j3, j4, j5, j6, j7, j8, j9⟩ := t0; cases b1)
    | (go_at_call 9; refine (HK.out _ (Below.refl _ _)).mono ?_; rintro e w2 ⟨rfl, hb2⟩; have t0 := HTEN.out _ hb2; obtain ⟨e0, e1, e2, e3, e4, e5, e6, e7, e8, e9⟩ := t0))
  · go_ret
    exact ⟨rfl, hbz⟩
  have HS1 : Hid (c.st.n ≤ 40 ∧ c.n ≤ 300) := hid (by first | exact hs1 rfl | exact hs1 trivial | exact hs1)
  have HB4 := hid hb4
  have HE0 := hid (show msgE d = 0 from HER.out.symm)
  have HM : Hid (∃ M : Nat, d.m = (M : Int) ∧ M ≤ 1099511627776) := hid (by
    have h := HE0.out
    unfold msgE at h
    split at h
    · exact absurd h (by assumption)
    split at h
    · cases h
    rename_i g
    simp [heavyB] at g
    exact ⟨d.m.toNat, by omega, by omega⟩)
  obtain ⟨M, hM⟩ := HM.out
  have HMM := hid hM
  have HC : Hid (∀ w', Below w4.heap.size w4 w' → Ten w' w.heap.size c) := hid fun w' h => HTEN.out _ (HB4.out.trans (h.mono HB4.out.size))
  dsimp only [Ten] at HC
  have HPA : Hid (∀ w' : World, Below w4.heap.size w4 w' → IsVals (· < w'.heap.size) w' w4.heap.size 0 (List.replicate k noVal) → Calls Tryz.prog 19 #[.agg #[.int .i64 c.st.e, .slice c.st.a c.st.n c.st.c, .int .i64 c.m, .slice c.a c.n c.c, .int .i64 c.b.k, .int .i64 c.b.i, .int .i64 c.b.s, .string c.b.t, .slice c.b.la c.b.ll c.b.lc, .slice c.b.fa c.b.fl c.b.fc], .slice (some ⟨w4.heap.size, 0, none⟩) k k] w' fun e w2 => ∃ a c', e = .returned (.slice a k c') ∧ Below w'.heap.size w' w2 ∧ IsMsgs (fun b => w'.heap.size ≤ b ∧ b < w2.heap.size) w2 a k c' (partsL d M (List.replicate k noVal))) := hid fun w' h hv => by
    have h1 := UPW.out _ (HB4.out.trans (h.mono HB4.out.size))
    by_cases hg : w4.heap.size < w'.heap.size
    · exact partsM_call c d (some ⟨w4.heap.size, 0, none⟩) k k (List.replicate k noVal) w' M (HDU.out _ h1) (by rw [List.length_replicate]) (Nat.le_refl _) (.inr ⟨_, _, rfl, hg, hv⟩) HMM.out.1 HMM.out.2 (by have := HK100.out; omega) (by have := HS1.out.1; omega)
    · obtain ⟨c0, h0, _⟩ := hv.get 0 (by rw [List.length_replicate]; exact HK100.out.1)
      exact absurd (World.block_lt_of_cell? _ _ h0.k) hg
  clear HK HSM HCK hs1 hb3' hb4' hb2 hb3 hb4 hM HM HTEN j0 j1 j2 j3 j4 j5 j6 j7 j8 j9
  refine wp_region_split 7 (fun w' => Below w4.heap.size w4 w') (by kernel_rfl) (by kernel_rfl) (by kernel_rfl) (by decide) ((Below.refl _ _).drew) (fun hS => ?_)
  simp only [List.take_succ_cons, List.take_zero, List.drop_succ_cons, List.drop_zero]
  refine wpAnyH_take (i := 0) (oi := _) (v := ?_) rfl (by kernel_rfl) (by kernel_rfl) (by kernel_rfl) (fun _ _ _ h => h) (Or.inl ⟨by rfl, ?_⟩) hS ?_
  rotate_left
  · intro w' hw'
    have hcells := HC.out w' hw'
    obtain ⟨q0, q1, q2, q3, q4, q5, q6, q7, q8, q9⟩ := hcells; go_simp
    (try with_reducible rfl)
  simp only [Act.put, List.getElem_toArray, List.getElem_cons_succ, List.getElem_cons_zero, List.setIfInBounds_toArray, List.set_cons_zero, List.set_cons_succ]
  refine wpAnyH_take (i := 1) (oi := _) (v := ?_) rfl (by kernel_rfl) (by kernel_rfl) (by kernel_rfl) (fun _ _ _ h => h) (Or.inl ⟨by rfl, ?_⟩) hS ?_
  rotate_left
  · intro w' hw'
    have hcells := HC.out w' hw'
    obtain ⟨q0, q1, q2, q3, q4, q5, q6, q7, q8, q9⟩ := hcells; go_simp
    (try with_reducible rfl)
  simp only [Act.put, List.getElem_toArray, List.getElem_cons_succ, List.getElem_cons_zero, List.setIfInBounds_toArray, List.set_cons_zero, List.set_cons_succ]
  refine wpAnyH_take (i := 2) (oi := _) (v := ?_) rfl (by kernel_rfl) (by kernel_rfl) (by kernel_rfl) (fun _ _ _ h => h) (Or.inl ⟨by rfl, ?_⟩) hS ?_
  rotate_left
  · intro w' hw'
    have hcells := HC.out w' hw'
    obtain ⟨q0, q1, q2, q3, q4, q5, q6, q7, q8, q9⟩ := hcells; go_simp
    (try with_reducible rfl)
  simp only [Act.put, List.getElem_toArray, List.getElem_cons_succ, List.getElem_cons_zero, List.setIfInBounds_toArray, List.set_cons_zero, List.set_cons_succ]
  refine wpAnyH_take (i := 3) (oi := _) (v := ?_) rfl (by kernel_rfl) (by kernel_rfl) (by kernel_rfl) (fun _ _ _ h => h) (Or.inl ⟨by rfl, ?_⟩) hS ?_
  rotate_left
  · intro w' hw'
    have hcells := HC.out w' hw'
    obtain ⟨q0, q1, q2, q3, q4, q5, q6, q7, q8, q9⟩ := hcells; go_simp
    (try with_reducible rfl)
  simp only [Act.put, List.getElem_toArray, List.getElem_cons_succ, List.getElem_cons_zero, List.setIfInBounds_toArray, List.set_cons_zero, List.set_cons_succ]
  refine wpAnyH_take (i := 4) (oi := _) (v := ?_) rfl (by kernel_rfl) (by kernel_rfl) (by kernel_rfl) (fun _ _ _ h => h) (Or.inl ⟨by rfl, ?_⟩) hS ?_
  rotate_left
  · intro w' hw'
    have hcells := HC.out w' hw'
    obtain ⟨q0, q1, q2, q3, q4, q5, q6, q7, q8, q9⟩ := hcells; go_simp
    (try with_reducible rfl)
  simp only [Act.put, List.getElem_toArray, List.getElem_cons_succ, List.getElem_cons_zero, List.setIfInBounds_toArray, List.set_cons_zero, List.set_cons_succ]
  refine wpAnyH_ready (rs := [5]) (by kernel_rfl) (by simp) ?_
  refine AllReadyH.cons (o := _) rfl (fun K hK => ?_) AllReadyH.nil
  refine step_make_slice (by rfl) _ _ _ (by rfl) Tryz.underlying22 hi hz0 k (by go_simp; exact HKN.out) (by go_simp; exact HKN.out) (by rw [hz2]; have := HK100.out; omega) (by have := HK100.out; omega) ?_
  rw [hz1]
  obtain ⟨gb, hgb⟩ : ∃ gb, gb = w4.heap.size := ⟨_, rfl⟩
  have HGB := hid hgb
  refine hK.out _ _ (hS.trans (((Below.refl _ _).alloc (Nat.le_refl _) _).mono hS.size)) (fun hS => ?_)
  clear hK K
  (try simp only [Act.put, List.getElem_toArray, List.getElem_cons_succ, List.getElem_cons_zero, List.setIfInBounds_toArray, List.set_cons_zero, List.set_cons_succ])
  refine wpAnyH_ready (rs := [6]) (by kernel_rfl) (by simp) ?_
  refine AllReadyH.cons (o := _) rfl (fun K hK => ?_) AllReadyH.nil
  go_simp
  go_at_call 19; refine (HPA.out _ hS (zeroVals_made _ _ _)).mono ?_
  rintro e w6 ⟨a6, c6, rfl, hb6, hi6⟩
  refine hK.out _ _ (hS.trans (hb6.mono hS.size)) (fun hS => ?_)
  clear hK K
  (try simp only [Act.put, List.getElem_toArray, List.getElem_cons_succ, List.getElem_cons_zero, List.setIfInBounds_toArray, List.set_cons_zero, List.set_cons_succ])
  refine wpAnyH_done (by kernel_rfl) ?_ _
  (try dsimp only)
  have HS6 := hid hS
  have HI6 := hid hi6
  clear hS hi6
  have HB6 : Hid (Below (w.alloc (.cells #[.int .i64 c.st.e, .slice c.st.a c.st.n c.st.c, .int .i64 c.m, .slice c.a c.n c.c, .int .i64 c.b.k, .int .i64 c.b.i, .int .i64 c.b.s, .string c.b.t, .slice c.b.la c.b.ll c.b.lc, .slice c.b.fa c.b.fl c.b.fc] 41)).heap.size (w.alloc (.cells #[.int .i64 c.st.e, .slice c.st.a c.st.n c.st.c, .int .i64 c.m, .slice c.a c.n c.c, .int .i64 c.b.k, .int .i64 c.b.i, .int .i64 c.b.s, .string c.b.t, .slice c.b.la c.b.ll c.b.lc, .slice c.b.fa c.b.fl c.b.fc] 41)) w6) := hid (HB4.out.trans (HS6.out.mono HB4.out.size))
  have HRT := hid (parts_back d M (List.replicate k noVal) HMM.out.1 (by rw [List.length_replicate]; exact HK100.out.1) HE0.out)
  have HMG : Hid (Calls Tryz.prog 20 #[.slice a6 k c6, .agg #[.int .i64 c.st.e, .slice c.st.a c.st.n c.st.c], .agg #[.int .i64 c.b.k, .int .i64 c.b.i, .int .i64 c.b.s, .string c.b.t, .slice c.b.la c.b.ll c.b.lc, .slice c.b.fa c.b.fl c.b.fc]] w6 fun e w2 => ∃ c' : MC, e = .returned (.tuple #[c'.v, .int .i64 0]) ∧ Below w6.heap.size w6 w2 ∧ IsMsg (· < w2.heap.size) w2 c' d) := hid (by
    have h1 := HDU.out _ (UPW.out _ HB6.out)
    have hes : ∀ j (h : j < (partsL d M (List.replicate k noVal)).length), (partsL d M (List.replicate k noVal))[j].es.length ≤ 300 := fun j h => by
      rw [(partsL_at d M _ j h).1, ← HD.out.es.len]
      exact HS1.out.2
    refine (merge_call a6 k c6 (partsL d M (List.replicate k noVal)) c.st d.st c.b d.b w6 (HI6.out.row.same fun b q => ⟨q.2, rfl⟩) h1.st h1.b (by have := HK100.out; omega) hes).mono fun e w2 hp => ?_
    obtain ⟨c', he, hi⟩ := hp.2.2 HRT.out.1
    refine ⟨c', he, hp.1, ?_⟩
    rw [HRT.out.2.1, HRT.out.2.2] at hi
    exact hi.same fun b q => ⟨q.2, rfl⟩)
  have t6 := HC.out _ HS6.out
  obtain ⟨p0, p1, p2, p3, p4, p5, p6, p7, p8, p9⟩ := t6
  have HSA : Hid (∀ (w' : World) (c' : MC), Below w6.heap.size w6 w' → IsMsg (· < w'.heap.size) w' c' d → Calls Tryz.prog 21 #[c'.v, .agg #[.int .i64 c.st.e, .slice c.st.a c.st.n c.st.c, .int .i64 c.m, .slice c.a c.n c.c, .int .i64 c.b.k, .int .i64 c.b.i, .int .i64 c.b.s, .string c.b.t, .slice c.b.la c.b.ll c.b.lc, .slice c.b.fa c.b.fl c.b.fc]] w' fun e w2 => e = .returned (.bool true) ∧ Below w'.heap.size w' w2) := hid fun w' c' h hi => by
    have hc := same_call c' c d d w' hi (HDU.out _ (UPW.out _ (HB6.out.trans (h.mono HB6.out.size))))
    rw [msgEqB_refl] at hc
    exact hc
  clear HPA
  dsimp only [MC.v] at HSA
  go_wp2_with (first
    | (go_at_call 21; refine (HSA.out _ _ (hb7.alloc hb7.size _) (hi7.same fun b q => ⟨by simp; omega, Below.heap_alloc _ _ _ q⟩)).mono ?_; rintro e w8 ⟨rfl, hb8⟩)
    | (go_at_call 20; refine HMG.out.mono ?_; rintro e w7 ⟨c7, rfl, hb7, hi7⟩; obtain ⟨r0, r1, r2, r3, r4, r5, r6, r7, r8, r9⟩ := HC.out _ (HS6.out.trans ((hb7.alloc hb7.size (.cells #[.int .i64 c7.st.e, .slice c7.st.a c7.st.n c7.st.c, .int .i64 c7.m, .slice c7.a c7.n c7.c, .int .i64 c7.b.k, .int .i64 c7.b.i, .int .i64 c7.b.s, .string c7.b.t, .slice c7.b.la c7.b.ll c7.b.lc, .slice c7.b.fa c7.b.fl c7.b.fc] 41)).mono HS6.out.size)); clear p0 p1 p2 p3 p4 p5 p6 p7 p8 p9))
  go_ret
  exact ⟨rfl, UPW.out _ (HB6.out.trans (((hb7.alloc hb7.size _).trans (hb8.mono (by have := hb7.size; simp; omega))).mono HB6.out.size))⟩
end Go.Proofs.YtcejackabdmpkaaGreatDoor
