/-
  literal.text of a record, out of the texts of its fields. Conditions: the value can be read as data; what the function answers for the fields; the lengths are within the reach.
-/
import Derived.Test.YthjlgpmajeafpaaGreatDoorLitMrg
import Derived.Deep.AppendLies
import Derived.Deep.DrawnRows
import Derived.Deep.RegionHeld3
import Derived.Test.YthjlgpmajeafpaaGreatDoorPartsMMrg
import Derived.Test.YthjlgpmajeafpaaGreatDoorReflMrg
import Derived.Test.YthjlgpmajeafpaaGreatDoorSlotMrg
namespace Go.Proofs.YthjlgpmajeafpaaGreatDoor
open Go Go.RowKit Go.Shelf
set_option linter.unusedVariables false
set_option linter.unusedSimpArgs false
attribute [local go_sem ↓] Go.wp_at_zero Go.wp_at_succ

def recT (xs : List ByteArray) : ByteArray := ⟨#[123]⟩ ++ joinB xs ⟨#[44, 32]⟩ ++ ⟨#[125]⟩
theorem join_of (v : Value) (xs : List ByteArray) (w : World) (h : ∀ w', Below w.heap.size w w' → Calls Tryz.prog 111 #[v, .string ⟨#[44, 32]⟩] w' fun e w2 => e = .returned (.string (joinB xs ⟨#[44, 32]⟩)) ∧ Below w'.heap.size w' w2) :
    Calls Tryz.prog 172 #[v] w fun e w' => e = .returned (.string (joinB xs ⟨#[44, 32]⟩)) ∧ Below w.heap.size w w' := by
  have H := hid (h w (Below.refl _ w))
  clear h
  go_enter Tryz.func172, Tryz.ntmps172
  go_wp2_with (go_at_call 111; refine H.out.mono ?_; rintro e w' ⟨rfl, hb⟩)
  go_ret
  exact ⟨rfl, hb⟩
set_option maxRecDepth 100000 in
set_option maxHeartbeats 4000000 in
theorem textRec_call (i0 s0 : Int) (t0 : ByteArray) (la : Option Addr) (ll lc : Nat) (fa : Option Addr) (fl fc : Nat) (l : List Val) (ns : List ByteArray) (fs : List Val) (w : World) (hd : IsVal (· < w.heap.size) w ⟨9, i0, s0, t0, la, ll, lc, fa, fl, fc⟩ (.mk 9 i0 s0 t0 l ns fs))
    (xs : List ByteArray) (tx : Nat → ByteArray) (hfl0 : 0 < fl) (hxl : xs.length = fl) (hxe : ∀ j (h : j < xs.length) (hn : j < ns.length), xs[j] = ns[j] ++ ⟨#[58, 32]⟩ ++ tx j)
    (L : Nat) (hxL : ∀ x ∈ xs, x.data.toList.length ≤ L) (hLN : fl * (L + 3) ≤ 140737488355328)
    (htx : ∀ j (h : j < fs.length) (x : VC) (w' : World), Below w.heap.size w w' → IsVal (· < w'.heap.size) w' x fs[j] → Calls Tryz.prog 137 #[.agg #[.int .i64 x.k, .int .i64 x.i, .int .i64 x.s, .string x.t, .slice x.la x.ll x.lc, .slice x.fa x.fl x.fc]] w' fun e w2 => e = .returned (.string (tx j)) ∧ Below w'.heap.size w' w2) :
    Calls Tryz.prog 137 #[.agg #[.int .i64 9, .int .i64 i0, .int .i64 s0, .string t0, .slice la ll lc, .slice fa fl fc]] w fun e w' => e = .returned (.string (recT xs)) ∧ Below w.heap.size w w' := by
  obtain ⟨⟨_, _, _, _, hok, hll, hfl, hns⟩, hv, hf⟩ := hd
  dsimp only at hll hfl hv hf
  have hreachf : fl * 104 ≤ 140737488351232 := hok.f
  have HF := hid hfl; clear hfl hll hv
  have HNS := hid hns; clear hns
  clear hok
  obtain ⟨ti, hi, hz0, hz1, hz2⟩ := info_parts infoStr
  obtain ⟨w0, hw0⟩ : ∃ w0, w0 = w.alloc (.cells #[.int .i64 9, .int .i64 i0, .int .i64 s0, .string t0, .slice la ll lc, .slice fa fl fc] 28) := ⟨_, rfl⟩
  have hb0 : Below w.heap.size w w0 := by rw [hw0]; exact (Below.refl _ w).alloc (Nat.le_refl _) _
  have HB0 := hid hb0; clear hb0
  have HW0 := hid hw0; clear hw0
  have HXE := hid hxe; clear hxe
  have HXL := hid hxL; clear hxL
  have HXN := hid hxl; clear hxl
  have HTXS := hid htx; clear htx
  have HLN := hid hLN; clear hLN
  go_enter Tryz.func137, Tryz.ntmps137
  go_wp2
  rw [← HW0.out]
  go_loopw [3, 97] (fun vv i wr => ∃ (k : Nat) (v : Value), v = vv ∧ k ≤ fl ∧ i = .int .i64 k ∧ wr.ownsRow w0.heap.size 9 1 v k ((xs.take k).map Value.string) ∧ Below w0.heap.size w0 wr) (fun _ i _ => fl - (intOf i).toNat)
  case atStart => exact ⟨0, _, rfl, Nat.zero_le _, rfl, World.ownsRow_nil _ _ _ _, Below.refl _ _⟩
  case round =>
    obtain ⟨k, v, rfl, hk, rfl, hown, hbr⟩ := hrel
    have HBR := hid hbr
    have hbelw : Below w.heap.size w wr := HB0.out.trans (hbr.mono HB0.out.size)
    have HBW := hid hbelw
    by_cases hlt : k < fl
    · rcases hf with rfl | ⟨b, o, rfl, hb, hvs⟩
      · exfalso; have := HF.out; simp at this; omega
      · have hkl : k < fs.length := by have := HF.out; omega
        have hkn : k < ns.length := by have := HNS.out; omega
        have hkx : k < xs.length := by have := HXN.out; omega
        obtain ⟨⟨hnm, hnz⟩, x, hx, hxv⟩ := hvs.get HNS.out k hkl hkn
        obtain ⟨nm, hnmd⟩ : ∃ nm, nm = ns[k] := ⟨_, rfl⟩
        rw [← hnmd] at hnm hnz
        obtain ⟨tz, htz⟩ : ∃ tz, tz = tx k := ⟨_, rfl⟩
        have HXK := hid (show xs[k] = nm ++ ⟨#[58, 32]⟩ ++ tz by rw [HXE.out k hkx hkn, hnmd, htz])
        have hxkz : nm.size + 2 + tz.size ≤ L := by
          have h1 := HXL.out xs[k] (List.getElem_mem _)
          rw [HXK.out] at h1
          simp at h1
          omega
        have hL47 : L ≤ 140737488355328 := by have h1 := HLN.out; rw [Nat.mul_add] at h1; have h2 := Nat.le_mul_of_pos_left L hfl0; omega
        have s1 : (9223372036854775807 < nm.size + 2) = False := eq_false (by omega)
        have s2 : (9223372036854775807 < nm.size + 2 + tz.size) = False := eq_false (by omega)
        clear hxkz hL47
        have hx' := hx.same (w' := wr) (hbelw.block b hb)
        have hnm' : wr.cell? ⟨b, o + k * 7, none⟩ = some (.string nm) := (World.cell?_of_block (w := w) (a := ⟨b, o + k * 7, none⟩) (hbelw.block b hb)).trans hnm
        obtain ⟨hx0, hx1, hx2, hx3, hx4, hx5⟩ := hx'
        have hlt' : (k : Int) < (fl : Int) := by omega
        have hsz := hbelw.size
        obtain ⟨wa, hwa⟩ : ∃ wa, wa = wr.alloc (Obj.cells #[Value.string nm, Value.int IntKind.i64 x.k, Value.int IntKind.i64 x.i, Value.int IntKind.i64 x.s, Value.string x.t, Value.slice x.la x.ll x.lc, Value.slice x.fa x.fl x.fc] 35 (0, 0)) := ⟨_, rfl⟩
        have hbwa : Below wr.heap.size wr wa.drew := by rw [hwa]; exact ((Below.refl _ wr).alloc (Nat.le_refl _) _).drew
        have HTX := hid (htz ▸ HTXS.out k hkl x wa.drew (hbelw.trans (hbwa.mono hsz)) (hxv.same fun b hb => ⟨by have := hbwa.size; omega, (hbwa.block b (by omega)).trans (hbelw.block b hb)⟩))
        have p2 : wa.drew.heap[wr.heap.size]? = some (Obj.cells #[Value.string nm, Value.int IntKind.i64 x.k, Value.int IntKind.i64 x.i, Value.int IntKind.i64 x.s, Value.string x.t, Value.slice x.la x.ll x.lc, Value.slice x.fa x.fl x.fc] 35 (0, 0)) := by rw [hwa]; exact heap_alloc_new wr _
        have hwas : wr.heap.size ≤ wa.drew.heap.size := hbwa.size
        have hwas' : wr.heap.size < wa.heap.size := by rw [hwa]; simp
        have P2 := hid p2; clear p2
        have HWA := hid hwa; clear hwa
        have HC := hid (fun (w' : World) (h : w'.heap[wr.heap.size]? = some (Obj.cells #[Value.string nm, Value.int IntKind.i64 x.k, Value.int IntKind.i64 x.i, Value.int IntKind.i64 x.s, Value.string x.t, Value.slice x.la x.ll x.lc, Value.slice x.fa x.fl x.fc] 35 (0, 0))) =>
          (show w'.cell? ⟨wr.heap.size, 0, none⟩ = some (.string nm) ∧ w'.cell? ⟨wr.heap.size, 1, none⟩ = some (.int .i64 x.k) ∧ w'.cell? ⟨wr.heap.size, 2, none⟩ = some (.int .i64 x.i) ∧ w'.cell? ⟨wr.heap.size, 3, none⟩ = some (.int .i64 x.s) ∧ w'.cell? ⟨wr.heap.size, 4, none⟩ = some (.string x.t) ∧ w'.cell? ⟨wr.heap.size, 5, none⟩ = some (.slice x.la x.ll x.lc) ∧ w'.cell? ⟨wr.heap.size, 6, none⟩ = some (.slice x.fa x.fl x.fc) from ⟨cellOf h 0, cellOf h 1, cellOf h 2, cellOf h 3, cellOf h 4, cellOf h 5, cellOf h 6⟩))
        have hcap1 : k + 1 ≤ maxLen := by unfold maxLen; omega
        have hcap2 : (k + 1) * 16 ≤ 140737488355328 := by omega
        have hnex : some wr.heap.size ≠ v.ownBlock := fun e => by have := hown.lt _ e.symm; omega
        have HOWN := hid hown; clear hown
        clear hx hnm hxv hnmd htz hbr hbelw
        go_wp2
        rw [← HWA.out]
        refine wp_region_split 10 (fun w' => w'.heap[wr.heap.size]? = some (Obj.cells #[Value.string nm, Value.int IntKind.i64 x.k, Value.int IntKind.i64 x.i, Value.int IntKind.i64 x.s, Value.string x.t, Value.slice x.la x.ll x.lc, Value.slice x.fa x.fl x.fc] 35 (0, 0))) (by kernel_rfl) (by kernel_rfl) (by kernel_rfl) (by decide) (P2.out) (fun hS => ?_)
        simp only [List.take_succ_cons, List.take_zero, List.drop_succ_cons, List.drop_zero]
        refine wpAnyH_take (i := 0) (oi := _) (v := ?_) rfl (by kernel_rfl) (by kernel_rfl) (by kernel_rfl) (fun _ _ _ h => h) (Or.inl ⟨by rfl, ?_⟩) hS ?_
        rotate_left
        · intro w' hw'
          have hcells := HC.out w' hw'
          go_simp
          (try with_reducible rfl)
        simp only [Act.put, List.setIfInBounds_toArray, List.set_cons_zero, List.set_cons_succ]
        refine wpAnyH_take (i := 1) (oi := _) (v := ?_) rfl (by kernel_rfl) (by kernel_rfl) (by kernel_rfl) (fun _ _ _ h => h) (Or.inl ⟨by rfl, ?_⟩) hS ?_
        rotate_left
        · intro w' hw'
          have hcells := HC.out w' hw'
          go_simp
          (try with_reducible rfl)
        simp only [Act.put, List.setIfInBounds_toArray, List.set_cons_zero, List.set_cons_succ]
        refine wpAnyH_take (i := 2) (oi := _) (v := ?_) rfl (by kernel_rfl) (by kernel_rfl) (by kernel_rfl) (fun _ _ _ h => h) (Or.inl ⟨by rfl, ?_⟩) hS ?_
        rotate_left
        · intro w' hw'
          have hcells := HC.out w' hw'
          go_simp
          (try with_reducible rfl)
        simp only [Act.put, List.setIfInBounds_toArray, List.set_cons_zero, List.set_cons_succ]
        refine wpAnyH_take (i := 3) (oi := _) (v := ?_) rfl (by kernel_rfl) (by kernel_rfl) (by kernel_rfl) (fun _ _ _ h => h) (Or.inl ⟨by rfl, ?_⟩) hS ?_
        rotate_left
        · intro w' hw'
          have hcells := HC.out w' hw'
          go_simp
          (try with_reducible rfl)
        simp only [Act.put, List.setIfInBounds_toArray, List.set_cons_zero, List.set_cons_succ]
        refine wpAnyH_take (i := 4) (oi := _) (v := ?_) rfl (by kernel_rfl) (by kernel_rfl) (by kernel_rfl) (fun _ _ _ h => h) (Or.inl ⟨by rfl, ?_⟩) hS ?_
        rotate_left
        · intro w' hw'
          have hcells := HC.out w' hw'
          go_simp
          (try with_reducible rfl)
        simp only [Act.put, List.setIfInBounds_toArray, List.set_cons_zero, List.set_cons_succ]
        refine wpAnyH_take (i := 5) (oi := _) (v := ?_) rfl (by kernel_rfl) (by kernel_rfl) (by kernel_rfl) (fun _ _ _ h => h) (Or.inl ⟨by rfl, ?_⟩) hS ?_
        rotate_left
        · intro w' hw'
          have hcells := HC.out w' hw'
          go_simp
          (try with_reducible rfl)
        simp only [Act.put, List.setIfInBounds_toArray, List.set_cons_zero, List.set_cons_succ]
        refine wpAnyH_ready (rs := [6]) (by kernel_rfl) (by simp) ?_
        refine AllReadyH.cons (o := _) rfl (fun K hK => ?_) AllReadyH.nil
        go_simp; go_at_call 137; refine HTX.out.mono ?_
        rintro e w1 ⟨rfl, hb1⟩
        have q2 := hid (heapExt hb1 P2.out)
        have hs1 := hb1.size
        simp only [World.size_drew] at hs1
        refine hK.out _ _ (q2.out) (fun hS => ?_)
        clear hK K
        (try simp only [Act.put, List.setIfInBounds_toArray, List.set_cons_zero, List.set_cons_succ])
        refine wpAnyH_take (i := 7) (oi := _) (v := ?_) rfl (by kernel_rfl) (by kernel_rfl) (by kernel_rfl) (fun _ _ _ h => h) (Or.inl ⟨by rfl, ?_⟩) hS ?_
        rotate_left
        · intro w' hw'
          have hcells := HC.out w' hw'
          go_simp
          (try with_reducible rfl)
        simp only [Act.put, List.setIfInBounds_toArray, List.set_cons_zero, List.set_cons_succ]
        refine wpAnyH_ready (rs := [8]) (by kernel_rfl) (by simp) ?_
        refine AllReadyH.cons (o := _) rfl (fun K hK => ?_) AllReadyH.nil
        go_simp
        refine hK.out _ _ (heapAlloc _ q2.out) (fun hS => ?_)
        clear hK K
        (try simp only [Act.put, List.setIfInBounds_toArray, List.set_cons_zero, List.set_cons_succ])
        refine wpAnyH_ready (rs := [9]) (by kernel_rfl) (by simp) ?_
        refine AllReadyH.cons (o := _) rfl (fun K hK => ?_) AllReadyH.nil
        refine step_append_lies _ (by rfl) _ _ _ (by rfl) w0.heap.size 9 ti _ 1 16 Tryz.underlying144 hi hz0 hz1 hz2 rfl (by omega) v k ((xs.take k).map Value.string) (by rfl) ((ownExt HOWN.out (hbwa.trans (hb1.mono hwas))).alloc _) ⟨w1.heap.size, 0, none⟩ 1 1 [.string (nm ++ ⟨#[58, 32]⟩ ++ tz)] (by rfl) (by rfl) (World.news_of_block (heap_alloc_new w1 _)) (by simp [Value.oneCell']) (by omega) hcap1 hcap2 (by have := HBR.out.size; simp; omega) (w1.heap.size + 1) (by simp) ?_
        intro gg cap w2 hown2 hgrow hat hlt2
        have r2 := hid (heapGrown hgrow (heapAlloc _ q2.out) hnex)
        refine hK.out _ _ (r2.out) (fun hS => ?_)
        clear hK K
        (try simp only [Act.put, List.setIfInBounds_toArray, List.set_cons_zero, List.set_cons_succ])
        refine wpAnyH_done (by kernel_rfl) ?_ _
        (try dsimp only)
        clear hS HC
        go_wp2
        go_roundw
        case rel =>
          have hst : Below w0.heap.size w0 wa.drew := HBR.out.trans (hbwa.mono HBR.out.size)
          have hst2 : Below w0.heap.size w0 w1 := hst.trans (hb1.mono hst.size)
          refine ⟨k + 1, _, rfl, by omega, by go_num, ?_, (hst2.alloc hst2.size _).grown hgrow (by have := hst2.size; simp; omega) (fun r e => own_ge2 HOWN.out r e)⟩
          rw [List.take_succ_eq_append_getElem hkx, HXK.out]
          simpa using hown2
        case measure => simp [intOf]; omega
    · obtain rfl : k = fl := by omega
      clear hlt
      rw [List.take_of_length_le (by have := HXN.out; omega)] at hown
      obtain ⟨g, cap', rfl, hj⟩ := strRow_join hown HXN.out.symm hfl0 L HXL.out ⟨#[44, 32]⟩ HLN.out
      have HJ := hid hj
      have hjoin : Hid (Calls Tryz.prog 172 #[.slice (some ⟨g, 0, none⟩) k cap'] wr fun e w' => e = .returned (.string (joinB xs ⟨#[44, 32]⟩)) ∧ Below wr.heap.size wr w') := hid (join_of _ _ _ HJ.out)
      have hjz := joinB_size xs ⟨#[44, 32]⟩ L HXL.out
      rw [HXN.out] at hjz
      have hL3 := HLN.out
      have hjz2 : (joinB xs ⟨#[44, 32]⟩).size ≤ 140737488355328 := by simp at hjz; rw [Nat.mul_add] at hL3 hjz; omega
      have s1 : 1 + (joinB xs ⟨#[44, 32]⟩).size ≤ 9223372036854775807 := by omega
      have s2 : 1 + (joinB xs ⟨#[44, 32]⟩).size + 1 ≤ 9223372036854775807 := by omega
      clear hj hown hbr hjz hL3 hjz2
      go_wp2_with (go_at_call 172; refine hjoin.out.mono ?_; rintro e w3 ⟨rfl, hb3⟩)
      go_ret
      exact ⟨rfl, HBW.out.trans (hb3.mono HBW.out.size)⟩
end Go.Proofs.YthjlgpmajeafpaaGreatDoor

/-
  stamp.made, stamp.Arrival and message.New return a new stamp, a new message. Conditions: the body can be read as data; Tabs.
-/
namespace Go.Proofs.YthjlgpmajeafpaaGreatDoor
open Go Go.RowKit Go.Shelf
set_option linter.unusedVariables false
set_option linter.unusedSimpArgs false

def madeE (e p : Int) : Int := if e < 1 ∨ 1048576 < e ∨ p < 0 ∨ 128 ≤ p then 2 else 0

set_option maxRecDepth 100000 in
set_option maxHeartbeats 2000000 in
theorem made_call (e p : Int) (a : Option Addr) (n c : Nat) (w : World) : Calls Tryz.prog 135 #[.int .i64 e, .int .i64 p, .slice a n c] w fun x w' =>
    (madeE e p = 2 → x = .returned (.tuple #[.agg #[.int .i64 0, .slice none 0 0], .int .i64 2])) ∧ (madeE e p = 0 → x = .returned (.tuple #[.agg #[.int .i64 e, .slice a n c], .int .i64 0])) ∧ Below w.heap.size w w' := by
  go_enter Tryz.func135, Tryz.ntmps135
  by_cases h : madeE e p = 2
  · have M := hid h
    by_cases h1 : e < 1
    · clear h
      go_wp2
      exact bodyPost_ret (v := .tuple #[.agg #[.int .i64 0, .slice none 0 0], .int .i64 2]) (by simp [results, Tryz.results135, go_sem, cellOf (heap_alloc_new w _)]) rfl ⟨fun _ => rfl, fun h => absurd (M.out.symm.trans h) (by decide), (Below.refl _ w).alloc (Nat.le_refl _) _⟩
    by_cases h2 : 1048576 < e
    · clear h
      go_wp2
      exact bodyPost_ret (v := .tuple #[.agg #[.int .i64 0, .slice none 0 0], .int .i64 2]) (by simp [results, Tryz.results135, go_sem, cellOf (heap_alloc_new w _)]) rfl ⟨fun _ => rfl, fun h => absurd (M.out.symm.trans h) (by decide), (Below.refl _ w).alloc (Nat.le_refl _) _⟩
    by_cases h3 : p < 0
    · clear h
      go_wp2
      exact bodyPost_ret (v := .tuple #[.agg #[.int .i64 0, .slice none 0 0], .int .i64 2]) (by simp [results, Tryz.results135, go_sem, cellOf (heap_alloc_new w _)]) rfl ⟨fun _ => rfl, fun h => absurd (M.out.symm.trans h) (by decide), (Below.refl _ w).alloc (Nat.le_refl _) _⟩
    have h4 : 128 ≤ p := by
      unfold madeE at h
      split at h
      · omega
      · cases h
    clear h
    go_wp2
    exact bodyPost_ret (v := .tuple #[.agg #[.int .i64 0, .slice none 0 0], .int .i64 2]) (by simp [results, Tryz.results135, go_sem, cellOf (heap_alloc_new w _)]) rfl ⟨fun _ => rfl, fun h => absurd (M.out.symm.trans h) (by decide), (Below.refl _ w).alloc (Nat.le_refl _) _⟩
  · have M := hid h
    have h1 : ¬ e < 1 ∧ ¬ 1048576 < e ∧ ¬ p < 0 ∧ ¬ 128 ≤ p := by
      unfold madeE at h
      split at h
      · exact absurd rfl h
      · omega
    obtain ⟨h1, h2, h3, h4⟩ := h1
    clear h
    go_wp2
    exact bodyPost_ret (v := .tuple #[.agg #[.int .i64 e, .slice a n c], .int .i64 0]) (by simp [results, Tryz.results135, go_sem, cellOf (heap_alloc_new w _)]) rfl ⟨fun h => absurd h M.out, fun _ => rfl, (Below.refl _ w).alloc (Nat.le_refl _) _⟩

def ArrPost (w : World) (e : Int) (x : Ending) (w' : World) : Prop := Below w.heap.size w w' ∧ (madeE e 0 = 2 → x = .returned (.tuple #[.agg #[.int .i64 0, .slice none 0 0], .int .i64 2])) ∧
  (madeE e 0 = 0 → ∃ sa sc, x = .returned (.tuple #[.agg #[.int .i64 e, .slice sa 1 sc], .int .i64 0]) ∧ IsInts (fun b => w.heap.size ≤ b ∧ b < w'.heap.size) w' sa 1 sc [1])
theorem made_two (e p : Int) : madeE e p = 2 ∨ madeE e p = 0 := by unfold madeE; split <;> simp
set_option maxRecDepth 100000 in
set_option maxHeartbeats 2000000 in
theorem arrival_call (e : Int) (w : World) : Calls Tryz.prog 105 #[.int .i64 e] w (ArrPost w e) := by
  obtain ⟨w1, hw1⟩ : ∃ w1, w1 = (w.alloc (.cells #[.int .i64 0, .slice none 0 0] 24)).alloc (.cells #[.int .i64 1] 3) := ⟨_, rfl⟩
  have o0 : w1.heap[w.heap.size]? = some (.cells #[.int .i64 0, .slice none 0 0] 24 (0, 0)) := by rw [hw1]; exact heapAlloc _ (heap_alloc_new w _)
  have o1 : w1.heap[w.heap.size + 1]? = some (.cells #[.int .i64 1] 3 (0, 0)) := by rw [hw1]; exact heapNewAt _ _ _ (by simp)
  have hb : Below w.heap.size w w1 := by rw [hw1]; exact ((Below.refl _ w).alloc (Nat.le_refl _) _).alloc (by simp) _
  have hm := made_call e 0 (some ⟨w.heap.size + 1, 0, none⟩) 1 1 w1
  have HB := hid hb
  have O := hid (And.intro o0 o1)
  have HW1 := hid hw1
  rw [hw1] at hm
  have HM := hid hm
  clear hb o0 o1 hw1 hm
  go_enter Tryz.func105, Tryz.ntmps105
  rcases made_two e 0 with h2 | h2
  · have M := hid h2
    clear h2
    go_wp2_with (go_at_call 135; refine HM.out.mono ?_; rintro x w2 ⟨g1, _, hb2⟩; rw [g1 M.out]; rw [← HW1.out] at hb2; have k0 := heapExt hb2 O.out.1; have z0 := cellOf k0 0; have z1 := cellOf k0 1; have y0 := freeOf k0 0; have y1 := freeOf k0 1; (try dsimp only at z0 z1); have K0 := hid k0; clear k0 g1)
    have h1 := heapSet (o := 1) (Value.slice none 0 0) (heapSet (o := 0) (Value.int .i64 0) K0.out)
    exact bodyPost_ret (v := .tuple #[.agg #[.int .i64 0, .slice none 0 0], .int .i64 2]) (by simp [results, Tryz.results105, go_sem, cellOf h1]) rfl ⟨((HB.out.trans (hb2.mono HB.out.size)).setCell (p := ⟨w.heap.size, 0, none⟩) (by dsimp only; omega) _).setCell (p := ⟨w.heap.size, 1, none⟩) (by dsimp only; omega) _, fun _ => rfl, fun h => absurd (M.out.symm.trans h) (by decide)⟩
  · have M := hid h2
    clear h2
    go_wp2_with (go_at_call 135; refine HM.out.mono ?_; rintro x w2 ⟨_, g1, hb2⟩; rw [g1 M.out]; rw [← HW1.out] at hb2; have k0 := heapExt hb2 O.out.1; have k1 := heapExt hb2 O.out.2; have z0 := cellOf k0 0; have z1 := cellOf k0 1; have y0 := freeOf k0 0; have y1 := freeOf k0 1; (try dsimp only at z0 z1); have K0 := hid k0; have K1 := hid k1; clear k0 k1 g1)
    have h1 := heapSet (o := 1) (Value.slice (some ⟨w.heap.size + 1, 0, none⟩) 1 1) (heapSet (o := 0) (Value.int .i64 e) K0.out)
    have hk := ltOf K1.out
    refine bodyPost_ret (v := .tuple #[.agg #[.int .i64 e, .slice (some ⟨w.heap.size + 1, 0, none⟩) 1 1], .int .i64 0]) (by simp [results, Tryz.results105, go_sem, cellOf h1]) rfl ⟨((HB.out.trans (hb2.mono HB.out.size)).setCell (p := ⟨w.heap.size, 0, none⟩) (by dsimp only; omega) _).setCell (p := ⟨w.heap.size, 1, none⟩) (by dsimp only; omega) _, fun h => absurd (M.out.symm.trans h) (by decide), fun _ => ⟨_, _, rfl, rfl, Nat.le_refl _, by decide, fun x hx => by (rw [List.mem_singleton] at hx; subst hx; exact ⟨by decide, by decide⟩), .inr ⟨w.heap.size + 1, 0, rfl, ⟨by omega, by simpa [World.setCell] using hk⟩, fun j hj => ?_⟩⟩⟩
    have hj0 : j = 0 := by simpa using hj
    subst hj0
    exact cellOf (heapSetOther _ _ (heapSetOther _ _ K1.out (by dsimp only; omega)) (by dsimp only; omega)) 0

def newE (e : Int) (d : Val) : Int := if madeE e 0 = 2 then 2 else bodyE d
abbrev zeroMsg : Value := .agg #[.int .i64 0, .slice none 0 0, .int .i64 0, .slice none 0 0, .int .i64 0, .int .i64 0, .int .i64 0, .string ⟨#[]⟩, .slice none 0 0, .slice none 0 0]
def NewPost (w : World) (e : Int) (d : Val) (x : Ending) (w' : World) : Prop := Below w.heap.size w w' ∧ (newE e d ≠ 0 → x = .returned (.tuple #[zeroMsg, .int .i64 (newE e d)])) ∧
  (newE e d = 0 → ∃ c' : MC, x = .returned (.tuple #[c'.v, .int .i64 0]) ∧ IsMsg (fun b => w.heap.size ≤ b ∧ b < w'.heap.size) w' c' ⟨⟨e, [1]⟩, 1048576, [e], d⟩)

set_option maxRecDepth 100000 in
set_option maxHeartbeats 8000000 in
theorem new_call (e0 : Int) (c : VC) (d : Val) (w : World) (he0 : I64 e0) (hd : IsVal (· < w.heap.size) w c d) (hT : Tabs w) : Calls Tryz.prog 58 #[.int .i64 e0, c.v] w (NewPost w e0 d) := by
  have HWB : Hid (Below w.heap.size w ((w.alloc (.cells #[.int .i64 c.k, .int .i64 c.i, .int .i64 c.s, .string c.t, .slice c.la c.ll c.lc, .slice c.fa c.fl c.fc] 28)).alloc (.cells #[.int .i64 0, .slice none 0 0, .int .i64 0, .slice none 0 0, .int .i64 0, .int .i64 0, .int .i64 0, .string ByteArray.empty, .slice none 0 0, .slice none 0 0] 30))) := hid (((Below.refl _ w).alloc (Nat.le_refl _) _).alloc (by simp) _)
  obtain ⟨wb, hwb⟩ : ∃ wb, wb = ((w.alloc (.cells #[.int .i64 c.k, .int .i64 c.i, .int .i64 c.s, .string c.t, .slice c.la c.ll c.lc, .slice c.fa c.fl c.fc] 28)).alloc (.cells #[.int .i64 0, .slice none 0 0, .int .i64 0, .slice none 0 0, .int .i64 0, .int .i64 0, .int .i64 0, .string ByteArray.empty, .slice none 0 0, .slice none 0 0] 30)) := ⟨_, rfl⟩
  have hbwb : Below w.heap.size w wb := by rw [hwb]; exact HWB.out
  have hsw : wb.heap.size = w.heap.size + 2 := by rw [hwb]; simp
  have o0 : wb.heap[w.heap.size]? = some (.cells #[.int .i64 c.k, .int .i64 c.i, .int .i64 c.s, .string c.t, .slice c.la c.ll c.lc, .slice c.fa c.fl c.fc] 28 (0, 0)) := by rw [hwb]; exact heapAlloc _ (heap_alloc_new w _)
  have o1 : wb.heap[w.heap.size + 1]? = some (.cells #[.int .i64 0, .slice none 0 0, .int .i64 0, .slice none 0 0, .int .i64 0, .int .i64 0, .int .i64 0, .string ByteArray.empty, .slice none 0 0, .slice none 0 0] 30 (0, 0)) := by rw [hwb]; exact heapNewAt _ _ _ (by simp)
  have later : ∀ w', Below wb.heap.size wb w' → IsVal (· < w'.heap.size) w' c d ∧ Tabs w' ∧ Below w.heap.size w w' := fun w' h => by
    have hb := hbwb.trans (h.mono hbwb.size)
    exact ⟨hd.same fun b q => ⟨Nat.lt_of_lt_of_le q hb.size, hb.block b q⟩, hT.below hb, hb⟩
  have HBD := hid (fun w' h => body_call c d w' (later w' h).1 (later w' h).2.1)
  have HCL : Hid (∀ w', Below wb.heap.size wb w' → Calls Tryz.prog 107 #[.agg #[.int .i64 c.k, .int .i64 c.i, .int .i64 c.s, .string c.t, .slice c.la c.ll c.lc, .slice c.fa c.fl c.fc]] w' fun e w2 => ∃ c' : VC, e = .returned c'.v ∧ Below w'.heap.size w' w2 ∧ IsVal (fun b => w'.heap.size ≤ b ∧ b < w2.heap.size) w2 c' d) := hid fun w' h =>
    (clone_call (later w' h).1).mono fun e w2 ⟨c', he, hb, hi⟩ => ⟨c', he, hb, hi⟩
  have O := hid (And.intro o0 o1)
  have HWBE := hid hwb
  have HSW := hid hsw
  have HBWB := hid hbwb
  have HI0 := hid he0
  have harr := arrival_call e0 ((w.alloc (.cells #[.int .i64 c.k, .int .i64 c.i, .int .i64 c.s, .string c.t, .slice c.la c.ll c.lc, .slice c.fa c.fl c.fc] 28)).alloc (.cells #[.int .i64 0, .slice none 0 0, .int .i64 0, .slice none 0 0, .int .i64 0, .int .i64 0, .int .i64 0, .string ByteArray.empty, .slice none 0 0, .slice none 0 0] 30))
  have HA := hid harr
  clear later hwb hsw o0 o1 hbwb hd hT he0 harr
  go_enter Tryz.func58, Tryz.ntmps58
  rcases made_two e0 0 with h2 | h2
  · have HE := hid (show newE e0 d = 2 by rw [newE, if_pos h2])
    have M := hid h2
    clear h2
    go_wp2_with (go_at_call 105; refine HA.out.mono ?_; rintro x w2 ⟨hb2, g1, _⟩; rw [g1 M.out]; rw [← HWBE.out] at hb2; have k0 := heapAlloc (.cells #[.int .i64 0, .slice none 0 0] 24) (heapExt hb2 O.out.2); have z0 := cellOf k0 0; have y0 := freeOf k0 0; have z1 := cellOf k0 1; have y1 := freeOf k0 1; have z2 := cellOf k0 2; have y2 := freeOf k0 2; have z3 := cellOf k0 3; have y3 := freeOf k0 3; have z4 := cellOf k0 4; have y4 := freeOf k0 4; have z5 := cellOf k0 5; have y5 := freeOf k0 5; have z6 := cellOf k0 6; have y6 := freeOf k0 6; have z7 := cellOf k0 7; have y7 := freeOf k0 7; have z8 := cellOf k0 8; have y8 := freeOf k0 8; have z9 := cellOf k0 9; have y9 := freeOf k0 9; (try dsimp only at z0 z1 z2 z3 z4 z5 z6 z7 z8 z9); have K0 := hid k0; clear k0 g1)
    have h1 := setTen_heap (c := ⟨⟨0, none, 0, 0⟩, 0, none, 0, 0, ⟨0, 0, 0, ⟨#[]⟩, none, 0, 0, none, 0, 0⟩⟩) K0.out
    have hbb := hb2.size
    have hsw := HSW.out
    have h2 := ((HBWB.out.trans (hb2.mono HBWB.out.size)).alloc (by omega) (.cells #[.int .i64 0, .slice none 0 0] 24)).trans (setTen_below (c := ⟨⟨0, none, 0, 0⟩, 0, none, 0, 0, ⟨0, 0, 0, ⟨#[]⟩, none, 0, 0, none, 0, 0⟩⟩) _ (w.heap.size + 1) w.heap.size (by omega))
    dsimp only [setTen] at h1 h2
    exact bodyPost_ret (v := .tuple #[zeroMsg, .int .i64 2]) (by simp [results, Tryz.results58, go_sem, cellOf h1]) rfl ⟨h2, fun _ => by rw [HE.out], fun h => absurd (HE.out.symm.trans h) (by decide)⟩
  · have M := hid h2
    have HE := hid (show newE e0 d = bodyE d by rw [newE, if_neg (by rw [h2]; decide)])
    clear h2
    obtain ⟨u, hu⟩ : ∃ u, u = bodyE d := ⟨_, rfl⟩
    have HU := hid hu
    have hbd : ∀ w', Below wb.heap.size wb w' → Calls Tryz.prog 106 #[.agg #[.int .i64 c.k, .int .i64 c.i, .int .i64 c.s, .string c.t, .slice c.la c.ll c.lc, .slice c.fa c.fl c.fc]] w' fun e w2 => e = .returned (.int .i64 u) ∧ Below w'.heap.size w' w2 := fun w' h => by rw [hu]; exact HBD.out w' h
    have HBD' := hid hbd
    clear hbd HBD hu
    by_cases q : u = 0
    · subst q
      have HE0 := hid (HE.out.trans HU.out.symm)
      go_upto_region 7 with (first
        | (go_at_call 105; refine HA.out.mono ?_; rintro x w2 ⟨hb2, _, g1⟩; obtain ⟨sa, sc, hx, hsi⟩ := g1 M.out; rw [hx]; rw [← HWBE.out] at hb2 hsi; have k1 := heapAlloc (.cells #[.int .i64 e0, .slice sa 1 sc] 24) (heapExt hb2 O.out.1); have x0 := cellOf k1 0; have x1 := cellOf k1 1; have x2 := cellOf k1 2; have x3 := cellOf k1 3; have x4 := cellOf k1 4; have x5 := cellOf k1 5; clear hx k1)
        | (go_at_call 106; refine (HBD'.out _ (hb2.alloc hb2.size _)).mono ?_; rintro x w3 ⟨rfl, hb3⟩; have hb3' := (hb2.alloc hb2.size (.cells #[.int .i64 e0, .slice sa 1 sc] 24)).trans (hb3.mono (Nat.le_trans hb2.size (by simp))); clear x0 x1 x2 x3 x4 x5))
      have HBW : Hid (Below w.heap.size w w3) := hid (HBWB.out.trans (hb3'.mono HBWB.out.size))
      have O2 := hid (heapExt hb3' O.out.2)
      have hst : w3.heap[w2.heap.size]? = some (.cells #[.int .i64 e0, .slice sa 1 sc] 24 (0, 0)) := heapExt hb3 (heap_alloc_new w2 _)
      have hvb := heapExt hb3' O.out.1
      have hs2 := hb2.size
      have hs3 := hb3.size
      simp only [World.size_alloc] at hs3
      have hsw := HSW.out
      have HV : Hid (∀ w', Below w3.heap.size w3 w' → Calls Tryz.prog 107 #[.agg #[.int .i64 c.k, .int .i64 c.i, .int .i64 c.s, .string c.t, .slice c.la c.ll c.lc, .slice c.fa c.fl c.fc]] w' fun e w2 => ∃ c' : VC, e = .returned c'.v ∧ Below w'.heap.size w' w2 ∧ IsVal (fun b => w3.heap.size ≤ b ∧ b < w2.heap.size) w2 c' d) := hid fun w' h =>
        (HCL.out w' (hb3'.trans (h.mono hb3'.size))).mono fun e w2 ⟨c', he, hb, hi⟩ => ⟨c', he, hb, hi.same fun b q => ⟨⟨Nat.le_trans h.size q.1, q.2⟩, rfl⟩⟩
      have HC : Hid (∀ w', Below w3.heap.size w3 w' → w'.cell? ⟨w2.heap.size, 0, none⟩ = some (.int .i64 e0) ∧ w'.cell? ⟨w2.heap.size, 1, none⟩ = some (.slice sa 1 sc) ∧ w'.cell? ⟨w.heap.size, 0, none⟩ = some (.int .i64 c.k) ∧ w'.cell? ⟨w.heap.size, 1, none⟩ = some (.int .i64 c.i) ∧ w'.cell? ⟨w.heap.size, 2, none⟩ = some (.int .i64 c.s) ∧ w'.cell? ⟨w.heap.size, 3, none⟩ = some (.string c.t) ∧ w'.cell? ⟨w.heap.size, 4, none⟩ = some (.slice c.la c.ll c.lc) ∧ w'.cell? ⟨w.heap.size, 5, none⟩ = some (.slice c.fa c.fl c.fc)) := hid fun w' h => by
        have g1 := heapExt h hst
        have g2 := heapExt h hvb
        exact ⟨cellOf g1 0, cellOf g1 1, cellOf g2 0, cellOf g2 1, cellOf g2 2, cellOf g2 3, cellOf g2 4, cellOf g2 5⟩
      have NR : Hid (∀ (w' : World) (cb : VC) (gb : Nat), Below w3.heap.size w3 w' → w3.heap.size ≤ gb → w'.heap[gb]? = some (.cells #[.int .i64 e0] 3 (0, 0)) → IsVal (fun b => w3.heap.size ≤ b ∧ b < w'.heap.size) w' cb d →
          IsMsg (fun b => w.heap.size ≤ b ∧ b < w'.heap.size ∧ b ≠ w.heap.size + 1) w' ⟨⟨e0, sa, 1, sc⟩, 1048576, some ⟨gb, 0, none⟩, 1, 1, cb⟩ ⟨⟨e0, [1]⟩, 1048576, [e0], d⟩) := hid fun w' cb gb h hg hgo hi => by
        have hs := h.size
        refine ⟨⟨rfl, HI0.out, hsi.same fun b ⟨q1, q2⟩ => ⟨by omega, (h.block b (by omega)).trans ((hb3.block b (by simp; omega)).trans (Below.heap_alloc _ _ _ q2))⟩⟩, rfl, (show I64 1048576 from ⟨by decide, by decide⟩), ⟨rfl, Nat.le_refl _, (show 1 * 8 ≤ 140737488351232 by decide), fun x hx => ?_, .inr ⟨gb, 0, rfl, ?_, fun j hj => ?_⟩⟩, hi.same fun b ⟨q1, q2⟩ => ⟨by omega, rfl⟩⟩
        · rw [List.mem_singleton] at hx; subst hx; exact HI0.out
        · have := ltOf hgo; omega
        · have hj0 : j = 0 := by simpa using hj
          subst hj0
          exact cellOf hgo 0
      clear hst hvb hsi hb3 hb3' hb2 hsw hs2 hs3
      refine wp_region_split 6 (fun w' => Below w3.heap.size w3 w') (by kernel_rfl) (by kernel_rfl) (by kernel_rfl) (by decide) ((Below.refl _ _).drew) (fun hS => ?_)
      simp only [List.take_succ_cons, List.take_zero, List.drop_succ_cons, List.drop_zero]
      refine wpAnyH_take (i := 0) (oi := _) (v := ?_) rfl (by kernel_rfl) (by kernel_rfl) (by kernel_rfl) (fun _ _ _ h => h) (Or.inl ⟨by rfl, ?_⟩) hS ?_
      rotate_left
      · intro w' hw'
        have hcells := HC.out w' hw'
        go_simp
        (try with_reducible rfl)
      simp only [Act.put, List.setIfInBounds_toArray, List.set_cons_zero, List.set_cons_succ]
      refine wpAnyH_take (i := 1) (oi := _) (v := ?_) rfl (by kernel_rfl) (by kernel_rfl) (by kernel_rfl) (fun _ _ _ h => h) (Or.inl ⟨by rfl, ?_⟩) hS ?_
      rotate_left
      · intro w' hw'
        have hcells := HC.out w' hw'
        go_simp
        (try with_reducible rfl)
      simp only [Act.put, List.setIfInBounds_toArray, List.set_cons_zero, List.set_cons_succ]
      refine wpAnyH_take (i := 3) (oi := _) (v := ?_) rfl (by kernel_rfl) (by kernel_rfl) (by kernel_rfl) (fun _ _ _ h => h) (Or.inl ⟨by rfl, ?_⟩) hS ?_
      rotate_left
      · intro w' hw'
        have hcells := HC.out w' hw'
        go_simp
        (try with_reducible rfl)
      simp only [Act.put, List.setIfInBounds_toArray, List.set_cons_zero, List.set_cons_succ]
      refine wpAnyH_ready (rs := [2, 4]) (by kernel_rfl) (by simp) ?_
      refine AllReadyH.cons (o := _) rfl (fun K hK => ?_) ?_
      · go_simp
        obtain ⟨gb, hgb⟩ : ∃ gb, gb = w3.heap.size := ⟨_, rfl⟩
        have HGB := hid hgb
        clear hgb
        have HGO : Hid ((w3.drew.alloc (.cells #[.int .i64 e0] 3)).heap[gb]? = some (.cells #[.int .i64 e0] 3 (0, 0))) := hid (by rw [HGB.out]; exact heap_alloc_new w3.drew _)
        refine hK.out _ _ (hS.trans (((Below.refl _ _).alloc (Nat.le_refl _) _).mono hS.size)) (fun hS => ?_)
        clear hK K
        (try simp only [Act.put, List.setIfInBounds_toArray, List.set_cons_zero, List.set_cons_succ])
        refine wpAnyH_ready (rs := [4]) (by kernel_rfl) (by simp) ?_
        refine AllReadyH.cons (o := _) rfl (fun K hK => ?_) AllReadyH.nil
        go_simp; go_at_call 107; refine (HV.out _ hS).mono ?_
        rintro e w5 ⟨cb, rfl, hb5, hi5⟩
        have hres := hid (NR.out w5 cb gb (hS.trans (hb5.mono hS.size)) (by rw [HGB.out]; exact Nat.le_refl _) (heapExt hb5 HGO.out) hi5)
        clear hi5
        refine hK.out _ _ (hS.trans (hb5.mono hS.size)) (fun hS => ?_)
        clear hK K
        (try simp only [Act.put, List.setIfInBounds_toArray, List.set_cons_zero, List.set_cons_succ])
        refine wpAnyH_take (i := 5) (oi := _) (v := ?_) rfl (by kernel_rfl) (by kernel_rfl) (by kernel_rfl) (fun _ _ _ h => h) (Or.inl ⟨by rfl, ?_⟩) hS ?_
        rotate_left
        · intro w' hw'
          have hcells := HC.out w' hw'
          go_simp
          (try with_reducible rfl)
        simp only [Act.put, List.setIfInBounds_toArray, List.set_cons_zero, List.set_cons_succ]
        refine wpAnyH_done (by kernel_rfl) ?_ _
        (try dsimp only)
        rw [← HGB.out]
        have hB := heapExt hS O2.out
        have hBL := hid hS
        clear hS HC HV
        have z0 := cellOf hB 0
        have z1 := cellOf hB 1
        have z2 := cellOf hB 2
        have z3 := cellOf hB 3
        have z4 := cellOf hB 4
        have z5 := cellOf hB 5
        have z6 := cellOf hB 6
        have z7 := cellOf hB 7
        have z8 := cellOf hB 8
        have z9 := cellOf hB 9
        have y0 := freeOf hB 0
        have y1 := freeOf hB 1
        have y2 := freeOf hB 2
        have y3 := freeOf hB 3
        have y4 := freeOf hB 4
        have y5 := freeOf hB 5
        have y6 := freeOf hB 6
        have y7 := freeOf hB 7
        have y8 := freeOf hB 8
        have y9 := freeOf hB 9
        (try dsimp only at z0 z1 z2 z3 z4 z5 z6 z7 z8 z9)
        have HB := hid hB
        clear hB
        have HRI := hres
        go_wp2
        have h1 := setTen_heap (c := ⟨⟨e0, sa, 1, sc⟩, 1048576, some ⟨gb, 0, none⟩, 1, 1, cb⟩) HB.out
        have h4 := fun w' => setTen_size (c := ⟨⟨e0, sa, 1, sc⟩, 1048576, some ⟨gb, 0, none⟩, 1, 1, cb⟩) w' (w.heap.size + 1)
        have h3 := fun w' b hb => setTen_other (c := ⟨⟨e0, sa, 1, sc⟩, 1048576, some ⟨gb, 0, none⟩, 1, 1, cb⟩) w' (w.heap.size + 1) b hb
        have h2 := fun w' => setTen_below (c := ⟨⟨e0, sa, 1, sc⟩, 1048576, some ⟨gb, 0, none⟩, 1, 1, cb⟩) w' (w.heap.size + 1) w.heap.size (by omega)
        dsimp only [setTen] at h1 h2 h3 h4
        refine bodyPost_ret (v := .tuple #[MC.v ⟨⟨e0, sa, 1, sc⟩, 1048576, some ⟨gb, 0, none⟩, 1, 1, cb⟩, .int .i64 0]) (by simp [results, Tryz.results58, go_sem, cellOf h1]) rfl ⟨(HBW.out.trans (hBL.out.mono HBW.out.size)).trans (h2 _), fun h => absurd HE0.out h, fun _ => ⟨_, rfl, ?_⟩⟩
        exact HRI.out.same fun b hb => ⟨by rw [h4]; exact ⟨hb.1, hb.2.1⟩, h3 _ b hb.2.2⟩
      refine AllReadyH.cons (o := _) rfl (fun K hK => ?_) AllReadyH.nil
      go_simp; go_at_call 107; refine (HV.out _ hS).mono ?_
      rintro e w5 ⟨cb, rfl, hb5, hi5⟩
      refine hK.out _ _ (hS.trans (hb5.mono hS.size)) (fun hS => ?_)
      clear hK K
      (try simp only [Act.put, List.setIfInBounds_toArray, List.set_cons_zero, List.set_cons_succ])
      refine wpAnyH_ready (rs := [2]) (by kernel_rfl) (by simp) ?_
      refine AllReadyH.cons (o := _) rfl (fun K hK => ?_) AllReadyH.nil
      go_simp
      obtain ⟨gb, hgb⟩ : ∃ gb, gb = w5.heap.size := ⟨_, rfl⟩
      have HGB := hid hgb
      clear hgb
      have hres := hid (NR.out (w5.alloc (.cells #[.int .i64 e0] 3)) cb gb (hS.trans (((Below.refl _ _).alloc (Nat.le_refl _) _).mono hS.size)) (by rw [HGB.out]; exact hS.size) (by rw [HGB.out]; exact heap_alloc_new w5 _) (hi5.same fun b hb => ⟨⟨hb.1, by simp; omega⟩, Below.heap_alloc _ _ _ hb.2⟩))
      refine hK.out _ _ (hS.trans (((Below.refl _ _).alloc (Nat.le_refl _) _).mono hS.size)) (fun hS => ?_)
      clear hK K
      (try simp only [Act.put, List.setIfInBounds_toArray, List.set_cons_zero, List.set_cons_succ])
      refine wpAnyH_take (i := 5) (oi := _) (v := ?_) rfl (by kernel_rfl) (by kernel_rfl) (by kernel_rfl) (fun _ _ _ h => h) (Or.inl ⟨by rfl, ?_⟩) hS ?_
      rotate_left
      · intro w' hw'
        have hcells := HC.out w' hw'
        go_simp
        (try with_reducible rfl)
      simp only [Act.put, List.setIfInBounds_toArray, List.set_cons_zero, List.set_cons_succ]
      refine wpAnyH_done (by kernel_rfl) ?_ _
      (try dsimp only)
      rw [← HGB.out]
      have hB := heapExt hS O2.out
      have hBL := hid hS
      clear hS HC HV
      have z0 := cellOf hB 0
      have z1 := cellOf hB 1
      have z2 := cellOf hB 2
      have z3 := cellOf hB 3
      have z4 := cellOf hB 4
      have z5 := cellOf hB 5
      have z6 := cellOf hB 6
      have z7 := cellOf hB 7
      have z8 := cellOf hB 8
      have z9 := cellOf hB 9
      have y0 := freeOf hB 0
      have y1 := freeOf hB 1
      have y2 := freeOf hB 2
      have y3 := freeOf hB 3
      have y4 := freeOf hB 4
      have y5 := freeOf hB 5
      have y6 := freeOf hB 6
      have y7 := freeOf hB 7
      have y8 := freeOf hB 8
      have y9 := freeOf hB 9
      (try dsimp only at z0 z1 z2 z3 z4 z5 z6 z7 z8 z9)
      have HB := hid hB
      clear hB
      have HRI := hres
      go_wp2
      have h1 := setTen_heap (c := ⟨⟨e0, sa, 1, sc⟩, 1048576, some ⟨gb, 0, none⟩, 1, 1, cb⟩) HB.out
      have h4 := fun w' => setTen_size (c := ⟨⟨e0, sa, 1, sc⟩, 1048576, some ⟨gb, 0, none⟩, 1, 1, cb⟩) w' (w.heap.size + 1)
      have h3 := fun w' b hb => setTen_other (c := ⟨⟨e0, sa, 1, sc⟩, 1048576, some ⟨gb, 0, none⟩, 1, 1, cb⟩) w' (w.heap.size + 1) b hb
      have h2 := fun w' => setTen_below (c := ⟨⟨e0, sa, 1, sc⟩, 1048576, some ⟨gb, 0, none⟩, 1, 1, cb⟩) w' (w.heap.size + 1) w.heap.size (by omega)
      dsimp only [setTen] at h1 h2 h3 h4
      refine bodyPost_ret (v := .tuple #[MC.v ⟨⟨e0, sa, 1, sc⟩, 1048576, some ⟨gb, 0, none⟩, 1, 1, cb⟩, .int .i64 0]) (by simp [results, Tryz.results58, go_sem, cellOf h1]) rfl ⟨(HBW.out.trans (hBL.out.mono HBW.out.size)).trans (h2 _), fun h => absurd HE0.out h, fun _ => ⟨_, rfl, ?_⟩⟩
      exact HRI.out.same fun b hb => ⟨by rw [h4]; exact ⟨hb.1, hb.2.1⟩, h3 _ b hb.2.2⟩
    · have Q := hid q
      go_wp2_with (first
        | (go_at_call 105; refine HA.out.mono ?_; rintro x w2 ⟨hb2, _, g1⟩; obtain ⟨sa, sc, hx, hsi⟩ := g1 M.out; rw [hx]; rw [← HWBE.out] at hb2 hsi; have k1 := heapAlloc (.cells #[.int .i64 e0, .slice sa 1 sc] 24) (heapExt hb2 O.out.1); have x0 := cellOf k1 0; have x1 := cellOf k1 1; have x2 := cellOf k1 2; have x3 := cellOf k1 3; have x4 := cellOf k1 4; have x5 := cellOf k1 5; clear hx k1)
        | (go_at_call 106; refine (HBD'.out _ (hb2.alloc hb2.size _)).mono ?_; rintro x w3 ⟨rfl, hb3⟩; have hb3' := (hb2.alloc hb2.size (.cells #[.int .i64 e0, .slice sa 1 sc] 24)).trans (hb3.mono (Nat.le_trans hb2.size (by simp))); have k0 := heapExt hb3' O.out.2; have z0 := cellOf k0 0; have y0 := freeOf k0 0; have z1 := cellOf k0 1; have y1 := freeOf k0 1; have z2 := cellOf k0 2; have y2 := freeOf k0 2; have z3 := cellOf k0 3; have y3 := freeOf k0 3; have z4 := cellOf k0 4; have y4 := freeOf k0 4; have z5 := cellOf k0 5; have y5 := freeOf k0 5; have z6 := cellOf k0 6; have y6 := freeOf k0 6; have z7 := cellOf k0 7; have y7 := freeOf k0 7; have z8 := cellOf k0 8; have y8 := freeOf k0 8; have z9 := cellOf k0 9; have y9 := freeOf k0 9; (try dsimp only at z0 z1 z2 z3 z4 z5 z6 z7 z8 z9); have K0 := hid k0; clear k0 x0 x1 x2 x3 x4 x5))
      have h1 := setTen_heap (c := ⟨⟨0, none, 0, 0⟩, 0, none, 0, 0, ⟨0, 0, 0, ⟨#[]⟩, none, 0, 0, none, 0, 0⟩⟩) K0.out
      have hbb := hb3'.size
      have hsw := HSW.out
      have h2 := (HBWB.out.trans (hb3'.mono HBWB.out.size)).trans (setTen_below (c := ⟨⟨0, none, 0, 0⟩, 0, none, 0, 0, ⟨0, 0, 0, ⟨#[]⟩, none, 0, 0, none, 0, 0⟩⟩) _ (w.heap.size + 1) w.heap.size (by omega))
      dsimp only [setTen] at h1 h2
      exact bodyPost_ret (v := .tuple #[zeroMsg, .int .i64 u]) (by simp [results, Tryz.results58, go_sem, cellOf h1]) rfl ⟨h2, fun _ => by rw [HE.out, HU.out], fun h => absurd (HU.out.trans (HE.out.symm.trans h)) Q.out⟩
end Go.Proofs.YthjlgpmajeafpaaGreatDoor

/-
  manifoldlaw29.known returns true: the examples of the chapter. Condition: Tabs.
-/
namespace Go.Proofs.YthjlgpmajeafpaaGreatDoor
open Go Go.RowKit Go.Shelf
set_option linter.unusedVariables false
set_option linter.unusedSimpArgs false

def oneV : Val := .mk 2 1 0 ⟨#[]⟩ [] [] []
def knownV : Val := .mk 9 0 0 ⟨#[]⟩ [] [⟨#[97]⟩] [oneV]
def knownT : ByteArray := ⟨#[123, 97, 58, 32, 49, 125]⟩
theorem known_check : chkVal knownV = 0 := by kernel_rfl
theorem known_newE : newE 7 knownV = 0 := by kernel_rfl
theorem known_msgE : msgE ⟨⟨7, [1]⟩, 1048576, [7], knownV⟩ = 0 := by kernel_rfl
theorem known_encT : encT ⟨⟨7, [1]⟩, 1048576, [7], knownV⟩ knownT = ⟨#[55, 47, 49, 32, 49, 48, 52, 56, 53, 55, 54, 32, 55, 32, 123, 97, 58, 32, 49, 125]⟩ := by kernel_rfl
theorem known_text (c : VC) (w : World) (hd : IsVal (· < w.heap.size) w c knownV) : Calls Tryz.prog 137 #[c.v] w fun e w' => e = .returned (.string knownT) ∧ Below w.heap.size w w' := by
  obtain ⟨k, i, s, t, la, ll, lc, fa, fl, fc⟩ := c
  have hd' := hd
  obtain ⟨⟨hk, hi, hs, ht, hok, hll, hfl, _⟩, _, _⟩ := hd'
  dsimp only at hk hi hs ht hll hfl
  subst hk; subst hi; subst hs; subst ht
  have hfl1 : fl = 1 := hfl
  subst hfl1
  have h := textRec_call 0 0 ⟨#[]⟩ la ll lc fa 1 fc [] [⟨#[97]⟩] [oneV] w hd [⟨#[97, 58, 32, 49]⟩] (fun _ => ⟨#[49]⟩) (by decide) rfl (fun j h hn => by
      have hj : j = 0 := by simpa using h
      subst hj
      exact (by kernel_rfl : (⟨#[97, 58, 32, 49]⟩ : ByteArray) = ⟨#[97]⟩ ++ ⟨#[58, 32]⟩ ++ ⟨#[49]⟩)) 4 (fun x hx => by rw [List.mem_singleton] at hx; subst hx; decide) (by decide) (fun j h x w' hb hx => by
      have hj : j = 0 := by simpa using h
      subst hj
      obtain ⟨k, i, s, t, la, ll, lc, fa, fl, fc⟩ := x
      obtain ⟨⟨hk, hi, _⟩, _, _⟩ := hx
      dsimp only at hk hi ⊢
      subst hk; subst hi
      have h1 := textInt_call 1 (by decide) s t la ll lc fa fl fc w'
      have e1 : (⟨(Lib.decDigits 1).toArray⟩ : ByteArray) = ⟨#[49]⟩ := by kernel_rfl
      rw [e1] at h1
      exact h1)
  have e2 : recT [⟨#[97, 58, 32, 49]⟩] = knownT := by kernel_rfl
  rw [e2] at h
  exact h
theorem known_lit (c : VC) (w : World) (hd : IsVal (· < w.heap.size) w c knownV) (hT : Tabs w) : Calls Tryz.prog 108 #[c.v] w fun e w' => e = .returned (.tuple #[.string knownT, .int .i64 0]) ∧ Below w.heap.size w w' :=
  litText_call c knownV w hd hT knownT (by decide) known_check fun w' h => known_text c w' (hd.same fun b q => ⟨Nat.lt_of_lt_of_le q h.size, h.block b q⟩)

abbrev kF : Obj := .cells #[.string ⟨#[97]⟩, .int .i64 2, .int .i64 1, .int .i64 0, .string ⟨#[]⟩, .slice none 0 0, .slice none 0 0] 35
abbrev kC (B : Nat) : VC := ⟨9, 0, 0, ⟨#[]⟩, none, 0, 0, some ⟨B, 0, none⟩, 1, 1⟩
theorem okZ : VC.ok ⟨2, 1, 0, ⟨#[]⟩, none, 0, 0, none, 0, 0⟩ := ⟨⟨by decide, by decide⟩, ⟨by decide, by decide⟩, ⟨by decide, by decide⟩, by decide, by decide, by decide, by decide, by decide⟩
theorem okK (B : Nat) : VC.ok (kC B) := ⟨(show I64 9 from ⟨by decide, by decide⟩), (show I64 0 from ⟨by decide, by decide⟩), (show I64 0 from ⟨by decide, by decide⟩), (show (⟨#[]⟩ : ByteArray).size ≤ 140737488351232 by decide), (show 0 * 88 ≤ 140737488351232 by decide), (show 1 * 104 ≤ 140737488351232 by decide), (show 0 ≤ 0 by decide), (show 1 ≤ 1 by decide)⟩
theorem known_isVal (S : Nat → Prop) (w : World) (B : Nat) (hB : S B) (h : w.heap[B]? = some kF) : IsVal S w (kC B) knownV := by
  refine ⟨⟨rfl, rfl, rfl, rfl, okK B, rfl, rfl, rfl⟩, .inl rfl, .inr ⟨B, 0, rfl, hB, ?_⟩⟩
  refine ⟨⟨⟨cellOf h 0, by decide⟩, ⟨2, 1, 0, ⟨#[]⟩, none, 0, 0, none, 0, 0⟩, ⟨cellOf h 1, cellOf h 2, cellOf h 3, cellOf h 4, cellOf h 5, cellOf h 6⟩, ?_⟩, trivial⟩
  exact ⟨⟨rfl, rfl, rfl, rfl, okZ, rfl, rfl, rfl⟩, .inl rfl, .inl rfl⟩

abbrev kM (m : Int) : Msg := ⟨⟨7, [1]⟩, m, [7], knownV⟩
theorem known_parts {S : Nat → Prop} {w : World} {a : Option Addr} {c : Nat} (h : IsMsgs S w a 3 c (partsL (kM 10) 10 [knownV, knownV, knownV])) :
    ∃ b o pb po pc, a = some ⟨b, o, none⟩ ∧ w.cell? ⟨b, o + 2, none⟩ = some (.int .i64 4) ∧ w.cell? ⟨b, o + 20 + 2, none⟩ = some (.int .i64 3) ∧ w.cell? ⟨b, o + 10 + 1, none⟩ = some (.slice (some ⟨pb, po, none⟩) 2 pc) ∧ w.cell? ⟨pb, po + 1, none⟩ = some (.int .i64 1) := by
  rcases h.at' with h0 | ⟨b, o, ha, hS, hx⟩
  · have hl : (partsL (kM 10) 10 [knownV, knownV, knownV]).length = 3 := by kernel_rfl
    rw [h0] at hl
    cases hl
  · obtain ⟨x0, h0, i0⟩ := hx 0 (by decide)
    obtain ⟨x1, h1, i1⟩ := hx 1 (by decide)
    obtain ⟨x2, h2, i2⟩ := hx 2 (by decide)
    have m0 : x0.m = 4 := i0.m.trans (by kernel_rfl)
    have m2 : x2.m = 3 := i2.m.trans (by kernel_rfl)
    have ep : (partsL (kM 10) 10 [knownV, knownV, knownV])[1].st.ps = [1, 0 + 1] := by kernel_rfl
    have en : x1.st.n = 2 := i1.st.ps.len.trans (by kernel_rfl)
    obtain ⟨pb, po, hpa, _, hpc⟩ := i1.st.ps.slot (by rw [en]; decide)
    have p1 := hpc 1 (by decide)
    refine ⟨b, o, pb, po, x1.st.c, ha, ?_, ?_, ?_, p1⟩
    · have := h0.m; rw [m0] at this; simpa using this
    · have := h2.m; rw [m2] at this; exact this
    · have := h1.p; rw [en, hpa] at this; exact this

set_option maxRecDepth 100000 in
set_option maxHeartbeats 4000000 in
theorem known_call (w : World) (hT : Tabs w) : Calls Tryz.prog 15 #[] w fun e w' => e = .returned (.bool true) ∧ Below w.heap.size w w' := by
  obtain ⟨W1, hW1⟩ : ∃ W1, W1 = (w.alloc kF).alloc (vObj (kC w.heap.size)) := ⟨_, rfl⟩
  have hb1 : Below w.heap.size w W1 := by rw [hW1]; exact ((Below.refl _ w).alloc (Nat.le_refl _) _).alloc (by simp) _
  have g0 : W1.heap[w.heap.size]? = some kF := by rw [hW1]; exact heapAlloc _ (heap_alloc_new w _)
  have g1 : W1.heap[w.heap.size + 1]? = some (vObj (kC w.heap.size)) := by rw [hW1]; exact heapNewAt _ _ _ (by simp)
  have hlt0 := ltOf g1
  have hv : IsVal (· < W1.heap.size) W1 (kC w.heap.size) knownV := known_isVal _ _ _ (by omega) g0
  have HNEW : Hid (Calls Tryz.prog 58 #[.int .i64 7, (kC w.heap.size).v] W1 (NewPost W1 7 knownV)) := hid (new_call 7 _ knownV W1 ⟨by decide, by decide⟩ hv (hT.below hb1))
  -- what is known behind New, in the message's box
  have HB : Hid (∀ (w2 : World) (c : MC), Below W1.heap.size W1 w2 → IsMsg (fun b => W1.heap.size ≤ b ∧ b < w2.heap.size) w2 c (kM 1048576) → ∀ w3, Below (w2.alloc (mObj c)).heap.size (w2.alloc (mObj c)) w3 →
      Below w.heap.size w w3 ∧ IsMsg (fun b => W1.heap.size ≤ b ∧ b < w2.heap.size) w3 c (kM 1048576) ∧ w3.heap[w2.heap.size]? = some (mObj c) ∧ w3.heap[w.heap.size]? = some kF ∧ w3.heap[w.heap.size + 1]? = some (vObj (kC w.heap.size)) ∧ Tabs w3) := hid fun w2 c h hi w3 h3 => by
    have ha : Below w2.heap.size w2 (w2.alloc (mObj c)) := (Below.refl _ w2).alloc (Nat.le_refl _) _
    have h23 : Below w2.heap.size w2 w3 := ha.trans (h3.mono ha.size)
    have h13 : Below W1.heap.size W1 w3 := h.trans (h23.mono h.size)
    have h03 : Below w.heap.size w w3 := hb1.trans (h13.mono hb1.size)
    exact ⟨h03, hi.same fun b q => ⟨q, h23.block b q.2⟩, heapExt h3 (heap_alloc_new w2 _), heapExt h13 g0, heapExt h13 g1, hT.below h03⟩
  have HENC : Hid (∀ (w2 : World) (c : MC), Below W1.heap.size W1 w2 → IsMsg (fun b => W1.heap.size ≤ b ∧ b < w2.heap.size) w2 c (kM 1048576) → Calls Tryz.prog 59 #[c.v] (w2.alloc (mObj c)) fun e w' => e = .returned (.tuple #[.string ⟨#[55, 47, 49, 32, 49, 48, 52, 56, 53, 55, 54, 32, 55, 32, 123, 97, 58, 32, 49, 125]⟩, .int .i64 0]) ∧ Below (w2.alloc (mObj c)).heap.size (w2.alloc (mObj c)) w') := hid fun w2 c h hi => by
    obtain ⟨q1, q2, q3, q4, q5, q6⟩ := HB.out w2 c h hi _ (Below.refl _ _)
    have hm : IsMsg (· < (w2.alloc (mObj c)).heap.size) (w2.alloc (mObj c)) c (kM 1048576) := q2.same fun b q => ⟨by simp; omega, rfl⟩
    rw [← known_encT]
    exact encode_call c _ _ hm q6 knownT known_msgE (by decide) fun w' hb' => known_lit _ w' (hm.b.same fun b q => ⟨Nat.lt_of_lt_of_le q hb'.size, hb'.block b q⟩) (q6.below hb')
  have HPARTS : Hid (∀ (w5 : World) (c : MC) (N : Nat), w5.heap[w.heap.size]? = some kF → w.heap.size + 2 ≤ N → N < w5.heap.size → IsMsg (fun b => w.heap.size + 2 ≤ b ∧ b < N) w5 c (kM 1048576) →
      Calls Tryz.prog 18 #[MC.v { c with m := 10 }, .slice (some ⟨w5.heap.size, 0, none⟩) 3 3] (w5.alloc (.cells #[.int .i64 9, .int .i64 0, .int .i64 0, .string ⟨#[]⟩, .slice none 0 0, .slice (some ⟨w.heap.size, 0, none⟩) 1 1, .int .i64 9, .int .i64 0, .int .i64 0, .string ⟨#[]⟩, .slice none 0 0, .slice (some ⟨w.heap.size, 0, none⟩) 1 1, .int .i64 9, .int .i64 0, .int .i64 0, .string ⟨#[]⟩, .slice none 0 0, .slice (some ⟨w.heap.size, 0, none⟩) 1 1] 28)) fun e w' =>
        (∃ b o pb po pc cc, e = .returned (.slice (some ⟨b, o, none⟩) 3 cc) ∧ w'.cell? ⟨b, o + 2, none⟩ = some (.int .i64 4) ∧ w'.cell? ⟨b, o + 20 + 2, none⟩ = some (.int .i64 3) ∧ w'.cell? ⟨b, o + 10 + 1, none⟩ = some (.slice (some ⟨pb, po, none⟩) 2 pc) ∧ w'.cell? ⟨pb, po + 1, none⟩ = some (.int .i64 1)) ∧ Below w5.heap.size w5 w') := hid fun w5 c N hF hN1 hN2 hi => by
    obtain ⟨w6, hw6⟩ : ∃ w6, w6 = (w5.alloc (.cells #[.int .i64 9, .int .i64 0, .int .i64 0, .string ⟨#[]⟩, .slice none 0 0, .slice (some ⟨w.heap.size, 0, none⟩) 1 1, .int .i64 9, .int .i64 0, .int .i64 0, .string ⟨#[]⟩, .slice none 0 0, .slice (some ⟨w.heap.size, 0, none⟩) 1 1, .int .i64 9, .int .i64 0, .int .i64 0, .string ⟨#[]⟩, .slice none 0 0, .slice (some ⟨w.heap.size, 0, none⟩) 1 1] 28)) := ⟨_, rfl⟩
    have hb6 : Below w5.heap.size w5 w6 := by rw [hw6]; exact (Below.refl _ w5).alloc (Nat.le_refl _) _
    have gl := heap_alloc_new w5 (.cells #[.int .i64 9, .int .i64 0, .int .i64 0, .string ⟨#[]⟩, .slice none 0 0, .slice (some ⟨w.heap.size, 0, none⟩) 1 1, .int .i64 9, .int .i64 0, .int .i64 0, .string ⟨#[]⟩, .slice none 0 0, .slice (some ⟨w.heap.size, 0, none⟩) 1 1, .int .i64 9, .int .i64 0, .int .i64 0, .string ⟨#[]⟩, .slice none 0 0, .slice (some ⟨w.heap.size, 0, none⟩) 1 1] 28)
    rw [← hw6] at gl ⊢
    have hlt := ltOf gl
    have hF6 : w6.heap[w.heap.size]? = some kF := heapExt hb6 hF
    have hv6 : IsVal (· < w6.heap.size) w6 (kC w.heap.size) knownV := known_isVal _ _ _ (ltOf hF6) hF6
    have hm6 : IsMsg (· < w6.heap.size) w6 { c with m := 10 } (kM 10) :=
      ⟨hi.st.same fun b q => ⟨by omega, hb6.block b (by omega)⟩, rfl, (show I64 10 from ⟨by decide, by decide⟩), hi.es.same fun b q => ⟨by omega, hb6.block b (by omega)⟩, hi.b.same fun b q => ⟨by omega, hb6.block b (by omega)⟩⟩
    have hvs : IsVals (· < w6.heap.size) w6 w5.heap.size 0 [knownV, knownV, knownV] :=
      ⟨⟨kC w.heap.size, ⟨cellOf gl 0, cellOf gl 1, cellOf gl 2, cellOf gl 3, cellOf gl 4, cellOf gl 5⟩, hv6⟩, ⟨kC w.heap.size, ⟨cellOf gl 6, cellOf gl 7, cellOf gl 8, cellOf gl 9, cellOf gl 10, cellOf gl 11⟩, hv6⟩, ⟨kC w.heap.size, ⟨cellOf gl 12, cellOf gl 13, cellOf gl 14, cellOf gl 15, cellOf gl 16, cellOf gl 17⟩, hv6⟩, trivial⟩
    have hst2 : c.st.n = 1 := hi.st.ps.len
    refine (partsM_call { c with m := 10 } (kM 10) (some ⟨w5.heap.size, 0, none⟩) 3 3 [knownV, knownV, knownV] w6 10 hm6 rfl (by decide) (.inr ⟨_, _, rfl, hlt, hvs⟩) rfl (by decide) (by decide) (by show c.st.n ≤ 1000000; omega)).mono fun e w' ⟨a, c', he, hb, hms⟩ => ?_
    obtain ⟨b, o, pb, po, pc, ha, r1, r2, r3, r4⟩ := known_parts hms
    exact ⟨⟨b, o, pb, po, pc, c', by rw [he, ha], r1, r2, r3, r4⟩, hb6.trans (hb.mono hb6.size)⟩
  have HSZ : Hid (W1.heap.size = w.heap.size + 2) := hid (by rw [hW1]; simp)
  rw [hW1] at HNEW
  have HW1 := hid hW1
  clear hv g0 g1 hT hb1 hW1 hlt0
  dsimp only [kC, VC.v] at HNEW
  go_enter Tryz.func15, Tryz.ntmps15
  go_upto_region 5 with (first
    | (go_at_call 58; refine HNEW.out.mono ?_; rintro e w2 ⟨hb2, _, h2⟩; rw [← HW1.out] at hb2 h2; obtain ⟨⟨⟨ce, sa, sn, sc⟩, m, a, n, cap, ⟨k, i', s, tt, la, ll, lc, fa, fl, fc⟩⟩, rfl, hi2⟩ := h2 known_newE; have HI2 := hid hi2; have HB2 := hid hb2; clear h2 hi2 hb2)
    | (go_at_call 59; refine (HENC.out w2 _ HB2.out HI2.out).mono ?_; rintro e w3 ⟨rfl, hb3⟩; obtain ⟨q1, q2, q3, q4, q5, q6⟩ := HB.out w2 _ HB2.out HI2.out w3 hb3; have z2 := cellOf q3 2; have y2 := freeOf q3 2; dsimp only at z2; have Q := hid (And.intro q1 (And.intro q2 (And.intro q3 (And.intro q4 q5)))); clear q1 q2 q3 q4 q5 q6 hb3))
  obtain ⟨q1, q2, q3, q4, q5⟩ := Q.out
  have hs2 := HB2.out.size
  have hsz := HSZ.out
  have hlt3 := ltOf q3
  obtain ⟨w5, hw5⟩ : ∃ w5, w5 = w3.setCell ⟨w2.heap.size, 2, none⟩ (.int .i64 10) := ⟨_, rfl⟩
  rw [← hw5]
  have hs5 : w5.heap.size = w3.heap.size := by rw [hw5]; simp [World.setCell]
  have r3 : w5.heap[w2.heap.size]? = some (.cells #[.int .i64 ce, .slice sa sn sc, .int .i64 10, .slice a n cap, .int .i64 k, .int .i64 i', .int .i64 s, .string tt, .slice la ll lc, .slice fa fl fc] 30 (0, 0)) := by rw [hw5]; exact heapSet _ q3
  have r4 : w5.heap[w.heap.size]? = some kF := by rw [hw5]; exact heapSetOther _ _ q4 (by dsimp only; omega)
  have r5 : w5.heap[w.heap.size + 1]? = some (vObj (kC w.heap.size)) := by rw [hw5]; exact heapSetOther _ _ q5 (by dsimp only; omega)
  have rm := q2.same (S' := fun b => w.heap.size + 2 ≤ b ∧ b < w2.heap.size) (w' := w5) fun b q => ⟨by omega, by rw [hw5]; exact Below.heap_setCell _ _ _ _ (by dsimp only; omega)⟩
  have hbw5 : Below w.heap.size w w5 := by rw [hw5]; exact q1.setCell (by dsimp only; omega) _
  have HP := hid (HPARTS.out w5 _ w2.heap.size r4 (by omega) (by omega) rm)
  have HBW5 := hid hbw5
  have e0 := cellOf r3 0
  have e1 := cellOf r3 1
  have e2 := cellOf r3 2
  have e3 := cellOf r3 3
  have e4 := cellOf r3 4
  have e5 := cellOf r3 5
  have e6 := cellOf r3 6
  have e7 := cellOf r3 7
  have e8 := cellOf r3 8
  have e9 := cellOf r3 9
  have f0 := cellOf r5 0
  have f1 := cellOf r5 1
  have f2 := cellOf r5 2
  have f3 := cellOf r5 3
  have f4 := cellOf r5 4
  have f5 := cellOf r5 5
  dsimp only at e0 e1 e2 e3 e4 e5 e6 e7 e8 e9 f0 f1 f2 f3 f4 f5
  clear q1 q2 q3 q4 q5 Q hs2 hsz hlt3 hw5 hs5 r3 r4 r5 rm hbw5 z2 y2 HB HENC HPARTS HNEW HI2 HB2
  dsimp only [MC.v] at HP
  go_wp2_with (go_at_call 18; refine HP.out.mono ?_; rintro e w7 ⟨⟨b, o, pb, po, pc, cc, rfl, x0, x2, x1, p1⟩, hb7⟩)
  go_ret
  exact ⟨rfl, HBW5.out.trans (hb7.mono HBW5.out.size)⟩
end Go.Proofs.YthjlgpmajeafpaaGreatDoor
