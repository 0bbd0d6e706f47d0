/-
  The law's own reading of a request and a reply. Conditions: the text has at most 65536 bytes; Tabs, ZTab, NumVars.
-/
import Derived.Test.YtkljbfaemahchaaGreatDoorET44Mrg
namespace Go.Proofs.YtkljbfaemahchaaGreatDoor
set_option linter.unusedVariables false
set_option linter.unusedSimpArgs false
open Go Go.RowKit Go.Shelf
def moB (dn : Bool) : ByteArray := if dn then ⟨#[32, 100, 111, 110, 101]⟩ else ⟨#[32, 114, 101, 102, 117, 115, 101, 100]⟩
theorem fldJ1 (node : ByteArray) (call : Int) (t : ByteArray) (un : Bool) (h : 0 ≤ call) : fldJ node call t [wdB un] = node ++ ⟨#[32]⟩ ++ decB call.toNat ++ ⟨#[32]⟩ ++ wdB un ++ ⟨#[]⟩ ++ ⟨#[32]⟩ ++ t := by
  obtain ⟨n, rfl⟩ : ∃ n : Nat, call = n := ⟨call.toNat, by omega⟩
  unfold fldJ
  rw [decB_itoa]
  apply ByteArray.ext
  apply Array.ext'
  simp [joinB, Lib.join, ByteArray.data_append]
theorem fldJ2 (node : ByteArray) (call : Int) (t : ByteArray) (un dn : Bool) (h : 0 ≤ call) : fldJ node call t [wdB un, dnB dn] = node ++ ⟨#[32]⟩ ++ decB call.toNat ++ ⟨#[32]⟩ ++ wdB un ++ moB dn ++ ⟨#[32]⟩ ++ t := by
  obtain ⟨n, rfl⟩ : ∃ n : Nat, call = n := ⟨call.toNat, by omega⟩
  unfold fldJ
  rw [decB_itoa]
  apply ByteArray.ext
  apply Array.ext'
  cases dn <;> simp [joinB, Lib.join, ByteArray.data_append, moB, dnB]
theorem lTx_eq1 (node : ByteArray) (call : Int) (un : Bool) (d : Val) : fldF node call d [wdB un] = lTxF node call un ⟨#[]⟩ d := by
  unfold fldF lTxF
  by_cases hc : call < 1 ∨ 999999999999999 < call
  · rw [if_pos hc, if_pos hc]
  · rw [if_neg hc, if_neg hc, fldJ1 _ _ _ _ (by omega)]
theorem lTx_eq2 (node : ByteArray) (call : Int) (un dn : Bool) (d : Val) : fldF node call d [wdB un, dnB dn] = lTxF node call un (moB dn) d := by
  unfold fldF lTxF
  by_cases hc : call < 1 ∨ 999999999999999 < call
  · rw [if_pos hc, if_pos hc]
  · rw [if_neg hc, if_neg hc, fldJ2 _ _ _ _ _ (by omega)]
set_option maxRecDepth 100000 in
set_option maxHeartbeats 8000000 in
theorem lReqT_call (pa : ByteArray) (cl : Int) (un : Bool) (c : VC) (d : Val) (w : World) (hd : IsVal (· < w.heap.size) w c d) (hT : Tabs w) (hZ : ZTab w) (hns : pa.size ≤ 1000000) :
    Calls Tryz.prog 29 #[.agg #[.string pa, .int .i64 cl, .bool un, .int .i64 c.k, .int .i64 c.i, .int .i64 c.s, .string c.t, .slice c.la c.ll c.lc, .slice c.fa c.fl c.fc]] w fun e w' => e = .returned (.tuple #[.string (fldF pa cl d [wdB un]).1, .int .i64 (fldF pa cl d [wdB un]).2]) ∧ Below w.heap.size w w' := by
  have hb0 : Below w.heap.size w (w.alloc (.cells #[.string pa, .int .i64 cl, .bool un, .int .i64 c.k, .int .i64 c.i, .int .i64 c.s, .string c.t, .slice c.la c.ll c.lc, .slice c.fa c.fl c.fc] 48)) := (Below.refl _ w).alloc (Nat.le_refl _) _
  rw [lTx_eq1 pa cl un d]
  obtain ⟨R, hR⟩ : ∃ R, R = lTxF pa cl un ⟨#[]⟩ d := ⟨_, rfl⟩
  have ht := lText_call pa hns cl un ⟨#[]⟩ (by decide) c d (w.alloc (.cells #[.string pa, .int .i64 cl, .bool un, .int .i64 c.k, .int .i64 c.i, .int .i64 c.s, .string c.t, .slice c.la c.ll c.lc, .slice c.fa c.fl c.fc] 48)) (hd.same fun b q => ⟨Nat.lt_of_lt_of_le q hb0.size, hb0.block b q⟩) (hT.below hb0) (hZ.below hb0)
  rw [← hR] at ht ⊢
  have HT := hid ht
  have HB0 := hid hb0
  have hx := heap_alloc_new w (.cells #[.string pa, .int .i64 cl, .bool un, .int .i64 c.k, .int .i64 c.i, .int .i64 c.s, .string c.t, .slice c.la c.ll c.lc, .slice c.fa c.fl c.fc] 48)
  have e0 := cellOf hx 0
  have e1 := cellOf hx 1
  have e2 := cellOf hx 2
  have e3 := cellOf hx 3
  have e4 := cellOf hx 4
  have e5 := cellOf hx 5
  have e6 := cellOf hx 6
  have e7 := cellOf hx 7
  have e8 := cellOf hx 8
  clear hR ht hb0 hd hT hZ hx
  obtain ⟨k, i, s, tt, la, ll, lc, fa, fln, fc⟩ := c
  dsimp only [VC.v] at *
  go_enter Tryz.func29, Tryz.ntmps29
  go_wp2_with (go_at_call 79; refine HT.out.mono ?_; rintro e w2 ⟨rfl, hb2⟩; have HB2 := hid (HB0.out.trans (hb2.mono HB0.out.size)); clear hb2)
  exact bodyPost_ret (v := .tuple #[.string R.1, .int .i64 R.2]) (by simp [results, Tryz.results29, go_sem]) rfl ⟨rfl, HB2.out⟩
set_option maxRecDepth 100000 in
set_option maxHeartbeats 8000000 in
theorem lRepT_call (pa : ByteArray) (cl : Int) (un dn : Bool) (c : VC) (d : Val) (w : World) (hd : IsVal (· < w.heap.size) w c d) (hT : Tabs w) (hZ : ZTab w) (hns : pa.size ≤ 1000000) :
    Calls Tryz.prog 30 #[.agg #[.string pa, .int .i64 cl, .bool un, .bool dn, .int .i64 c.k, .int .i64 c.i, .int .i64 c.s, .string c.t, .slice c.la c.ll c.lc, .slice c.fa c.fl c.fc]] w fun e w' => e = .returned (.tuple #[.string (fldF pa cl d [wdB un, dnB dn]).1, .int .i64 (fldF pa cl d [wdB un, dnB dn]).2]) ∧ Below w.heap.size w w' := by
  have hb0 : Below w.heap.size w (w.alloc (.cells #[.string pa, .int .i64 cl, .bool un, .bool dn, .int .i64 c.k, .int .i64 c.i, .int .i64 c.s, .string c.t, .slice c.la c.ll c.lc, .slice c.fa c.fl c.fc] 45)) := (Below.refl _ w).alloc (Nat.le_refl _) _
  rw [lTx_eq2 pa cl un dn d]
  obtain ⟨R, hR⟩ : ∃ R, R = lTxF pa cl un (moB dn) d := ⟨_, rfl⟩
  have ht := lText_call pa hns cl un (moB dn) (by cases dn <;> decide) c d (w.alloc (.cells #[.string pa, .int .i64 cl, .bool un, .bool dn, .int .i64 c.k, .int .i64 c.i, .int .i64 c.s, .string c.t, .slice c.la c.ll c.lc, .slice c.fa c.fl c.fc] 45)) (hd.same fun b q => ⟨Nat.lt_of_lt_of_le q hb0.size, hb0.block b q⟩) (hT.below hb0) (hZ.below hb0)
  rw [← hR] at ht ⊢
  have HT := hid ht
  have HB0 := hid hb0
  have hx := heap_alloc_new w (.cells #[.string pa, .int .i64 cl, .bool un, .bool dn, .int .i64 c.k, .int .i64 c.i, .int .i64 c.s, .string c.t, .slice c.la c.ll c.lc, .slice c.fa c.fl c.fc] 45)
  have e0 := cellOf hx 0
  have e1 := cellOf hx 1
  have e2 := cellOf hx 2
  have e3 := cellOf hx 3
  have e4 := cellOf hx 4
  have e5 := cellOf hx 5
  have e6 := cellOf hx 6
  have e7 := cellOf hx 7
  have e8 := cellOf hx 8
  have e9 := cellOf hx 9
  clear hR ht hb0 hd hT hZ hx
  obtain ⟨k, i, s, tt, la, ll, lc, fa, fln, fc⟩ := c
  dsimp only [VC.v] at *
  cases dn
  · go_enter Tryz.func30, Tryz.ntmps30
    go_wp2_with (go_at_call 79; refine HT.out.mono ?_; rintro e w2 ⟨rfl, hb2⟩; have HB2 := hid (HB0.out.trans (hb2.mono HB0.out.size)); clear hb2)
    exact bodyPost_ret (v := .tuple #[.string R.1, .int .i64 R.2]) (by simp [results, Tryz.results30, go_sem]) rfl ⟨rfl, HB2.out⟩
  · go_enter Tryz.func30, Tryz.ntmps30
    go_wp2_with (go_at_call 79; refine HT.out.mono ?_; rintro e w2 ⟨rfl, hb2⟩; have HB2 := hid (HB0.out.trans (hb2.mono HB0.out.size)); clear hb2)
    exact bodyPost_ret (v := .tuple #[.string R.1, .int .i64 R.2]) (by simp [results, Tryz.results30, go_sem]) rfl ⟨rfl, HB2.out⟩
section
attribute [-go_sem] loadCellsFrom storeCells
attribute [local go_sem] lcf0 lcf1 lcf2 lcf3 lcf4 lcf5 stc0 stc1
end
end Go.Proofs.YtkljbfaemahchaaGreatDoor
