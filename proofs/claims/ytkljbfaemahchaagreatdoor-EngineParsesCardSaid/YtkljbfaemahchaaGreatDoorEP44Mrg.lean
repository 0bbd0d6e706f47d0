/-
  The law's own reading of a request and a reply. Conditions: the text has at most 65536 bytes; Tabs, ZTab, NumVars.
-/
import Derived.Test.YtkljbfaemahchaaGreatDoorEP43Mrg
namespace Go.Proofs.YtkljbfaemahchaaGreatDoor
set_option linter.unusedVariables false
set_option linter.unusedSimpArgs false
open Go Go.RowKit Go.Shelf
def moB (dn : Bool) : ByteArray := if dn then ⟨#[32, 100, 111, 110, 101]⟩ else ⟨#[32, 114, 101, 102, 117, 115, 101, 100]⟩
theorem fldJ1 (node : ByteArray) (call : Int) (t : ByteArray) (un : Bool) (h : 0 ≤ call) : fldJ node call t [wdB un] = node ++ ⟨#[32]⟩ ++ decB call.toNat ++ ⟨#[32]⟩ ++ wdB un ++ ⟨#[]⟩ ++ ⟨#[32]⟩ ++ t := by
  obtain ⟨n, rfl⟩ : ∃ n : Nat, call = n := ⟨call.toNat, by omega⟩
  unfold fldJ
  rw [decB_itoa]
  apply ByteArray.ext
  apply Array.ext'
  simp [joinB, Lib.join, ByteArray.data_append]
theorem fldJ2 (node : ByteArray) (call : Int) (t : ByteArray) (un dn : Bool) (h : 0 ≤ call) : fldJ node call t [wdB un, dnB dn] = node ++ ⟨#[32]⟩ ++ decB call.toNat ++ ⟨#[32]⟩ ++ wdB un ++ moB dn ++ ⟨#[32]⟩ ++ t := by
  obtain ⟨n, rfl⟩ : ∃ n : Nat, call = n := ⟨call.toNat, by omega⟩
  unfold fldJ
  rw [decB_itoa]
  apply ByteArray.ext
  apply Array.ext'
  cases dn <;> simp [joinB, Lib.join, ByteArray.data_append, moB, dnB]
theorem lTx_eq1 (node : ByteArray) (call : Int) (un : Bool) (d : Val) : fldF node call d [wdB un] = lTxF node call un ⟨#[]⟩ d := by
  unfold fldF lTxF
  by_cases hc : call < 1 ∨ 999999999999999 < call
  · rw [if_pos hc, if_pos hc]
  · rw [if_neg hc, if_neg hc, fldJ1 _ _ _ _ (by omega)]
theorem lTx_eq2 (node : ByteArray) (call : Int) (un dn : Bool) (d : Val) : fldF node call d [wdB un, dnB dn] = lTxF node call un (moB dn) d := by
  unfold fldF lTxF
  by_cases hc : call < 1 ∨ 999999999999999 < call
  · rw [if_pos hc, if_pos hc]
  · rw [if_neg hc, if_neg hc, fldJ2 _ _ _ _ _ (by omega)]
set_option maxRecDepth 100000 in
set_option maxHeartbeats 8000000 in
theorem lReqT_call (pa : ByteArray) (cl : Int) (un : Bool) (c : VC) (d : Val) (w : World) (hd : IsVal (· < w.heap.size) w c d) (hT : Tabs w) (hZ : ZTab w) (hns : pa.size ≤ 1000000) :
    Calls Tryz.prog 29 #[.agg #[.string pa, .int .i64 cl, .bool un, .int .i64 c.k, .int .i64 c.i, .int .i64 c.s, .string c.t, .slice c.la c.ll c.lc, .slice c.fa c.fl c.fc]] w fun e w' => e = .returned (.tuple #[.string (fldF pa cl d [wdB un]).1, .int .i64 (fldF pa cl d [wdB un]).2]) ∧ Below w.heap.size w w' := by
  have hb0 : Below w.heap.size w (w.alloc (.cells #[.string pa, .int .i64 cl, .bool un, .int .i64 c.k, .int .i64 c.i, .int .i64 c.s, .string c.t, .slice c.la c.ll c.lc, .slice c.fa c.fl c.fc] 48)) := (Below.refl _ w).alloc (Nat.le_refl _) _
  rw [lTx_eq1 pa cl un d]
  obtain ⟨R, hR⟩ : ∃ R, R = lTxF pa cl un ⟨#[]⟩ d := ⟨_, rfl⟩
  have ht := lText_call pa hns cl un ⟨#[]⟩ (by decide) c d (w.alloc (.cells #[.string pa, .int .i64 cl, .bool un, .int .i64 c.k, .int .i64 c.i, .int .i64 c.s, .string c.t, .slice c.la c.ll c.lc, .slice c.fa c.fl c.fc] 48)) (hd.same fun b q => ⟨Nat.lt_of_lt_of_le q hb0.size, hb0.block b q⟩) (hT.below hb0) (hZ.below hb0)
  rw [← hR] at ht ⊢
  have HT := hid ht
  have HB0 := hid hb0
  have hx := heap_alloc_new w (.cells #[.string pa, .int .i64 cl, .bool un, .int .i64 c.k, .int .i64 c.i, .int .i64 c.s, .string c.t, .slice c.la c.ll c.lc, .slice c.fa c.fl c.fc] 48)
  have e0 := cellOf hx 0
  have e1 := cellOf hx 1
  have e2 := cellOf hx 2
  have e3 := cellOf hx 3
  have e4 := cellOf hx 4
  have e5 := cellOf hx 5
  have e6 := cellOf hx 6
  have e7 := cellOf hx 7
  have e8 := cellOf hx 8
  clear hR ht hb0 hd hT hZ hx
  obtain ⟨k, i, s, tt, la, ll, lc, fa, fln, fc⟩ := c
  dsimp only [VC.v] at *
  go_enter Tryz.func29, Tryz.ntmps29
  go_wp2_with (go_at_call 79; refine HT.out.mono ?_; rintro e w2 ⟨rfl, hb2⟩; have HB2 := hid (HB0.out.trans (hb2.mono HB0.out.size)); clear hb2)
  exact bodyPost_ret (v := .tuple #[.string R.1, .int .i64 R.2]) (by simp [results, Tryz.results29, go_sem]) rfl ⟨rfl, HB2.out⟩
set_option maxRecDepth 100000 in
set_option maxHeartbeats 8000000 in
theorem lRepT_call (pa : ByteArray) (cl : Int) (un dn : Bool) (c : VC) (d : Val) (w : World) (hd : IsVal (· < w.heap.size) w c d) (hT : Tabs w) (hZ : ZTab w) (hns : pa.size ≤ 1000000) :
    Calls Tryz.prog 30 #[.agg #[.string pa, .int .i64 cl, .bool un, .bool dn, .int .i64 c.k, .int .i64 c.i, .int .i64 c.s, .string c.t, .slice c.la c.ll c.lc, .slice c.fa c.fl c.fc]] w fun e w' => e = .returned (.tuple #[.string (fldF pa cl d [wdB un, dnB dn]).1, .int .i64 (fldF pa cl d [wdB un, dnB dn]).2]) ∧ Below w.heap.size w w' := by
  have hb0 : Below w.heap.size w (w.alloc (.cells #[.string pa, .int .i64 cl, .bool un, .bool dn, .int .i64 c.k, .int .i64 c.i, .int .i64 c.s, .string c.t, .slice c.la c.ll c.lc, .slice c.fa c.fl c.fc] 45)) := (Below.refl _ w).alloc (Nat.le_refl _) _
  rw [lTx_eq2 pa cl un dn d]
  obtain ⟨R, hR⟩ : ∃ R, R = lTxF pa cl un (moB dn) d := ⟨_, rfl⟩
  have ht := lText_call pa hns cl un (moB dn) (by cases dn <;> decide) c d (w.alloc (.cells #[.string pa, .int .i64 cl, .bool un, .bool dn, .int .i64 c.k, .int .i64 c.i, .int .i64 c.s, .string c.t, .slice c.la c.ll c.lc, .slice c.fa c.fl c.fc] 45)) (hd.same fun b q => ⟨Nat.lt_of_lt_of_le q hb0.size, hb0.block b q⟩) (hT.below hb0) (hZ.below hb0)
  rw [← hR] at ht ⊢
  have HT := hid ht
  have HB0 := hid hb0
  have hx := heap_alloc_new w (.cells #[.string pa, .int .i64 cl, .bool un, .bool dn, .int .i64 c.k, .int .i64 c.i, .int .i64 c.s, .string c.t, .slice c.la c.ll c.lc, .slice c.fa c.fl c.fc] 45)
  have e0 := cellOf hx 0
  have e1 := cellOf hx 1
  have e2 := cellOf hx 2
  have e3 := cellOf hx 3
  have e4 := cellOf hx 4
  have e5 := cellOf hx 5
  have e6 := cellOf hx 6
  have e7 := cellOf hx 7
  have e8 := cellOf hx 8
  have e9 := cellOf hx 9
  clear hR ht hb0 hd hT hZ hx
  obtain ⟨k, i, s, tt, la, ll, lc, fa, fln, fc⟩ := c
  dsimp only [VC.v] at *
  cases dn
  · go_enter Tryz.func30, Tryz.ntmps30
    go_wp2_with (go_at_call 79; refine HT.out.mono ?_; rintro e w2 ⟨rfl, hb2⟩; have HB2 := hid (HB0.out.trans (hb2.mono HB0.out.size)); clear hb2)
    exact bodyPost_ret (v := .tuple #[.string R.1, .int .i64 R.2]) (by simp [results, Tryz.results30, go_sem]) rfl ⟨rfl, HB2.out⟩
  · go_enter Tryz.func30, Tryz.ntmps30
    go_wp2_with (go_at_call 79; refine HT.out.mono ?_; rintro e w2 ⟨rfl, hb2⟩; have HB2 := hid (HB0.out.trans (hb2.mono HB0.out.size)); clear hb2)
    exact bodyPost_ret (v := .tuple #[.string R.1, .int .i64 R.2]) (by simp [results, Tryz.results30, go_sem]) rfl ⟨rfl, HB2.out⟩
section
attribute [-go_sem] loadCellsFrom storeCells
attribute [local go_sem] lcf0 lcf1 lcf2 lcf3 lcf4 lcf5 stc0 stc1
set_option maxRecDepth 100000 in
set_option maxHeartbeats 16000000 in
theorem lReq_call (s : ByteArray) (w : World) (hs : s.size ≤ 65536) (hT : Tabs w) (hZ : ZTab w) (hNV : NumVars w) :
    Calls Tryz.prog 34 #[.string s] w fun x w' => ∃ c : VC, x = .returned (.tuple #[.agg #[.string (lReq s).1.1, .int .i64 (lReq s).1.2.1, .bool (lReq s).1.2.2.1, .int .i64 c.k, .int .i64 c.i, .int .i64 c.s, .string c.t, .slice c.la c.ll c.lc, .slice c.fa c.fl c.fc], .bool (lReq s).2]) ∧ IsVal (fun i => w.heap.size ≤ i ∧ i < w'.heap.size) w' c (lReq s).1.2.2.2 ∧ Below w.heap.size w w' := by
  obtain ⟨N, hN⟩ : ∃ N, N = w.heap.size := ⟨_, rfl⟩
  obtain ⟨w0, hw0⟩ : ∃ w0, w0 = w.alloc (.cells #[.string ⟨#[]⟩, .int .i64 0, .bool false, .int .i64 0, .int .i64 0, .int .i64 0, .string ⟨#[]⟩, .slice none 0 0, .slice none 0 0] 48) := ⟨_, rfl⟩
  have hz0 : w0.heap[N]? = some (.cells #[.string ⟨#[]⟩, .int .i64 0, .bool false, .int .i64 0, .int .i64 0, .int .i64 0, .string ⟨#[]⟩, .slice none 0 0, .slice none 0 0] 48) := by rw [hw0, hN]; exact heap_alloc_new w _
  have hb0 : Below N w w0 := by rw [hw0, hN]; exact (Below.refl _ w).alloc (Nat.le_refl _) _
  have hT0 : Tabs w0 := hT.below (hN ▸ hb0)
  have hV0 : NumVars w0 := hNV.below (hN ▸ hb0)
  have HZT := hid hZ
  have HST := hid (fun (w2 : World) (cur : Array Value) (hc : cur.size = 9) (vs : List Value) (hv : vs.length = 9) (h1 : ∀ v ∈ vs, v.oneCell' = true) (hz : w2.heap[N]? = some (.cells cur 48)) =>
    (show (storeCells ⟨N, 0, none⟩ vs 0).run Tryz.prog w2 = .ok () (w2.setRow N vs.toArray) ∧ (loadCellsFrom ⟨N, 0, none⟩ 0 9 #[]).run Tryz.prog (w2.setRow N vs.toArray) = .ok vs.toArray (w2.setRow N vs.toArray) from
      ⟨stOld vs hz (by rw [hc, hv]) h1, by have := ldAll (P := Tryz.prog) (vs := vs) (setRow_heap w2 N _ vs.toArray 48 (0, 0) hz); rw [hv] at this; exact this⟩))
  rw [← hN]
  have HW := hid hw0
  have HN := hid hN
  have HZ0 := hid hz0
  have HB0 := hid hb0
  have HT0 := hid hT0
  have HV0 := hid hV0
  have HT := hid hT
  have hN0 : N < w0.heap.size := ltOf hz0
  have HN0 := hid hN0
  rcases split4 s w0 (by omega) hV0 with ⟨pa, pb, pc, pe, hp, hsp⟩ | ⟨hp, hsp⟩
  · have hz5 : pe.size ≤ s.size := pieces_size 4 s pe (by rw [hp]; simp)
    have hzb : pb.size ≤ s.size := pieces_size 4 s pb (by rw [hp]; simp)
    have HZ5 := hid hz5
    have HZB := hid hzb
    have hza : pa.size ≤ s.size := pieces_size 4 s pa (by rw [hp]; simp)
    have HZA := hid hza
    clear hza
    have HSP := hid hsp
    obtain ⟨un, hun⟩ : ∃ un, un = (pc.toList == [117, 110, 100, 111]) := ⟨_, rfl⟩
    have hun2 : un = decide (pc = ⟨#[117, 110, 100, 111]⟩) := by rw [hun, bt_of]
    have HUN := hid hun.symm
    have HUN2 := hid hun2
    clear hun hun2
    obtain ⟨cl, hcl⟩ : ∃ cl : Int, cl = ((lNum pb.data.toList 999999999999999).1 : Int) := ⟨_, rfl⟩
    obtain ⟨cb, hcb⟩ : ∃ cb : Bool, cb = (lNum pb.data.toList 999999999999999).2 := ⟨_, rfl⟩
    obtain ⟨P, hP⟩ : ∃ P, P = w0.heap.size := ⟨_, rfl⟩
    obtain ⟨w1, hw1⟩ : ∃ w1, w1 = w0.alloc (.cells #[.string pa, .string pb, .string pc, .string pe] 9) := ⟨_, rfl⟩
    have hp1 : w1.heap[P]? = some (.cells #[.string pa, .string pb, .string pc, .string pe] 9) := by rw [hw1, hP]; exact heap_alloc_new w0 _
    have hb1 : Below w0.heap.size w0 w1 := by rw [hw1]; exact (Below.refl _ w0).alloc (Nat.le_refl _) _
    have q0 : w1.cell? ⟨P, 1, none⟩ = some (.string pb) := cellOf hp1 1
    have hnc : Calls Tryz.prog 63 #[.string pb, .int .i64 999999999999999] w1 fun e w' => e = .returned (.tuple #[.int .i64 cl, .bool cb]) ∧ Below w1.heap.size w1 w' := by
      rw [hcl, hcb]; exact lNum_call pb 999999999999999 (by decide) w1
    have HNC := hid hnc
    have HCL := hid hcl
    have HB1 := hid hb1
    have HP1 := hid hp1
    have HW1 := hid hw1
    have HP := hid hP
    have HPC := hid hp
    clear hw0 hN hz0 hb0 hT0 hV0 hN0 hp hsp hz5 hzb hcl hcb hP hw1 hp1 hb1 hnc hT hZ hNV
    go_enter Tryz.func34, Tryz.ntmps34
    go_upto_region 1 with (fail)
    rw [← HW.out, ← HN.out]
    go_upto_region 2 with (go_at_call 80; refine HSP.out.mono ?_; rintro e w1' ⟨rfl, rfl⟩)
    rw [← HW1.out, ← HP.out]
    go_upto_region 5 with (go_at_call 63; refine HNC.out.mono ?_; rintro e w2 ⟨rfl, hb2⟩; have HB2 := hid hb2; clear hb2)
    clear q0
    have hp2 : w2.heap[P]? = some (.cells #[.string pa, .string pb, .string pc, .string pe] 9) := heapExt HB2.out HP1.out
    have q0 : w2.cell? ⟨P, 3, none⟩ = some (.string pe) := cellOf hp2 3
    have hb02 : Below w0.heap.size w0 w2 := HB1.out.trans (HB2.out.mono HB1.out.size)
    have HPA := hid (parse_call pe w2 (by have := HZ5.out; omega) (HT0.out.below hb02) (HV0.out.below hb02))
    have HP2 := hid hp2
    have HB02 := hid hb02
    clear hp2 hb02
    have hst := fun (w3 : World) (c : VC) => st6New w3 #[.int .i64 0, .int .i64 0, .int .i64 0, .string ⟨#[]⟩, .slice none 0 0, .slice none 0 0] rfl (.int .i64 c.k) (.int .i64 c.i) (.int .i64 c.s) (.string c.t) (.slice c.la c.ll c.lc) (.slice c.fa c.fl c.fc) (by simp [Value.oneCell'])
    go_upto_region 6 with (go_at_call 81; refine HPA.out.mono ?_; rintro e w3 ⟨c, rfl, hv3, hb3⟩; have HV3 := hid hv3; have HB3 := hid hb3; clear hv3 hb3)
    clear q0 hst
    obtain ⟨T7, hT7⟩ : ∃ T7, T7 = w3.heap.size := ⟨_, rfl⟩
    obtain ⟨w4, hw4⟩ : ∃ w4, w4 = w3.alloc (.cells #[.int .i64 c.k, .int .i64 c.i, .int .i64 c.s, .string c.t, .slice c.la c.ll c.lc, .slice c.fa c.fl c.fc] 43) := ⟨_, rfl⟩
    rw [← hw4, ← hT7]
    have hp3 : w3.heap[P]? = some (.cells #[.string pa, .string pb, .string pc, .string pe] 9) := heapExt HB3.out HP2.out
    have h4p : w4.heap[P]? = some (.cells #[.string pa, .string pb, .string pc, .string pe] 9) := by rw [hw4]; exact heapAlloc _ hp3
    have h4t : w4.heap[T7]? = some (.cells #[.int .i64 c.k, .int .i64 c.i, .int .i64 c.s, .string c.t, .slice c.la c.ll c.lc, .slice c.fa c.fl c.fc] 43) := by rw [hw4, hT7]; exact heap_alloc_new w3 _
    have hb03 : Below w0.heap.size w0 w3 := HB02.out.trans (HB3.out.mono HB02.out.size)
    have hb4 : Below w0.heap.size w0 w4 := by rw [hw4]; exact hb03.alloc hb03.size _
    have hv4 : IsVal (fun i => w0.heap.size ≤ i ∧ i < w4.heap.size) w4 c (parF pe).1 := by
      rw [hw4]
      exact HV3.out.same fun i hi => ⟨⟨by have := HB02.out.size; omega, by rw [World.size_alloc]; omega⟩, heap_alloc_old w3 _ _ hi.2⟩
    have H4 := hid (show w4.heap[P]? = some (.cells #[.string pa, .string pb, .string pc, .string pe] 9) ∧ w4.heap[T7]? = some (.cells #[.int .i64 c.k, .int .i64 c.i, .int .i64 c.s, .string c.t, .slice c.la c.ll c.lc, .slice c.fa c.fl c.fc] 43) ∧ Below w0.heap.size w0 w4 ∧ IsVal (fun i => w0.heap.size ≤ i ∧ i < w4.heap.size) w4 c (parF pe).1 from ⟨h4p, h4t, hb4, hv4⟩)
    clear hT7 hw4 hp3 h4p h4t hb03 hb4 hv4
    have HC6 := hid (fun (w' : World) (h : Below w4.heap.size w4 w') => (show w'.cell? ⟨P, 0, none⟩ = some (.string pa) ∧ w'.cell? ⟨P, 2, none⟩ = some (.string pc) ∧ (loadCellsFrom ⟨T7, 0, none⟩ 0 6 #[]).run Tryz.prog w' = .ok #[.int .i64 c.k, .int .i64 c.i, .int .i64 c.s, .string c.t, .slice c.la c.ll c.lc, .slice c.fa c.fl c.fc] w' from ⟨cellOf (heapExt h H4.out.1) 0, cellOf (heapExt h H4.out.1) 2, ld6 (heapExt h H4.out.2.1)⟩))
    have hun := HUN.out
    have HPRE5 := hid (show Below w4.heap.size w4 w4.drew from (Below.refl _ _).drew)
    go_cut [10] (fun v wz => ∃ T, v = .pointer (some ⟨T, 0, none⟩) ∧ w4.heap.size ≤ T ∧ wz.heap[T]? = some (.cells #[.string pa, .int .i64 cl, .bool un, .int .i64 c.k, .int .i64 c.i, .int .i64 c.s, .string c.t, .slice c.la c.ll c.lc, .slice c.fa c.fl c.fc] 48) ∧ Below w4.heap.size w4 wz)
    case first =>
      refine wp_region_held_drew (S := (fun w' => Below w4.heap.size w4 w')) (by kernel_rfl) ((Below.refl _ _).drew) (fun hS => ?_)
      refine wpAnyH_take (i := 0) (oi := _) (v := ?_) rfl (by kernel_rfl) (by kernel_rfl) (by kernel_rfl) (fun _ _ _ h => h) (Or.inl ⟨by rfl, ?_⟩) hS ?_
      rotate_left
      · intro w' hw'
        have hcells := HC6.out w' hw'
        go_simp
        (try with_reducible rfl)
      simp only [Act.put, pt1, pt2, pt3, pt4, pt5, pt6]
      refine wpAnyH_take (i := 1) (oi := _) (v := ?_) rfl (by kernel_rfl) (by kernel_rfl) (by kernel_rfl) (fun _ _ _ h => h) (Or.inl ⟨by rfl, ?_⟩) hS ?_
      rotate_left
      · intro w' hw'
        have hcells := HC6.out w' hw'
        go_simp
        (try with_reducible rfl)
      simp only [Act.put, pt1, pt2, pt3, pt4, pt5, pt6]
      refine wpAnyH_take (i := 2) (oi := _) (v := ?_) rfl (by kernel_rfl) (by kernel_rfl) (by kernel_rfl) (fun _ _ _ h => h) (Or.inl ⟨by rfl, ?_⟩) hS ?_
      rotate_left
      · intro w' hw'
        have hcells := HC6.out w' hw'
        go_simp
        (try with_reducible rfl)
      simp only [Act.put, pt1, pt2, pt3, pt4, pt5, pt6]
      refine wpAnyH_take (i := 3) (oi := _) (v := ?_) rfl (by kernel_rfl) (by kernel_rfl) (by kernel_rfl) (fun _ _ _ h => h) (Or.inl ⟨by rfl, ?_⟩) hS ?_
      rotate_left
      · intro w' hw'
        have hcells := HC6.out w' hw'
        go_simp
        (try with_reducible rfl)
      simp only [Act.put, pt1, pt2, pt3, pt4, pt5, pt6]
      refine wpAnyH_take (i := 4) (oi := _) (v := ?_) rfl (by kernel_rfl) (by kernel_rfl) (by kernel_rfl) (fun _ _ _ h => h) (Or.inl ⟨by rfl, ?_⟩) hS ?_
      rotate_left
      · intro w' hw'
        have hcells := HC6.out w' hw'
        go_simp
        (try with_reducible rfl)
      simp only [Act.put, pt1, pt2, pt3, pt4, pt5, pt6]
      refine wpAnyH_take (i := 5) (oi := _) (v := ?_) rfl (by kernel_rfl) (by kernel_rfl) (by kernel_rfl) (fun _ _ _ h => h) (Or.inl ⟨by rfl, ?_⟩) hS ?_
      rotate_left
      · intro w' hw'
        have hcells := HC6.out w' hw'
        go_simp
        (try with_reducible rfl)
      simp only [Act.put, pt1, pt2, pt3, pt4, pt5, pt6]
      refine wpAnyH_take (i := 6) (oi := _) (v := ?_) rfl (by kernel_rfl) (by kernel_rfl) (by kernel_rfl) (fun _ _ _ h => h) (Or.inl ⟨by rfl, ?_⟩) hS ?_
      rotate_left
      · intro w' hw'
        have hcells := HC6.out w' hw'
        go_simp
        (try with_reducible rfl)
      simp only [Act.put, pt1, pt2, pt3, pt4, pt5, pt6]
      refine wpAnyH_take (i := 7) (oi := _) (v := ?_) rfl (by kernel_rfl) (by kernel_rfl) (by kernel_rfl) (fun _ _ _ h => h) (Or.inl ⟨by rfl, ?_⟩) hS ?_
      rotate_left
      · intro w' hw'
        have hcells := HC6.out w' hw'
        go_simp
        (try with_reducible rfl)
      simp only [Act.put, pt1, pt2, pt3, pt4, pt5, pt6]
      refine wpAnyH_take (i := 8) (oi := _) (v := ?_) rfl (by kernel_rfl) (by kernel_rfl) (by kernel_rfl) (fun _ _ _ h => h) (Or.inl ⟨by rfl, ?_⟩) hS ?_
      rotate_left
      · intro w' hw'
        have hcells := HC6.out w' hw'
        go_simp
        (try with_reducible rfl)
      simp only [Act.put, pt1, pt2, pt3, pt4, pt5, pt6]
      refine wpAnyH_take (i := 9) (oi := _) (v := ?_) rfl (by kernel_rfl) (by kernel_rfl) (by kernel_rfl) (fun _ _ _ h => h) (Or.inl ⟨by rfl, ?_⟩) hS ?_
      rotate_left
      · intro w' hw'
        have hcells := HC6.out w' hw'
        go_simp
        (try with_reducible rfl)
      simp only [Act.put, pt1, pt2, pt3, pt4, pt5, pt6]
      refine wpAnyH_ready (rs := [10]) (by kernel_rfl) (by simp) ?_
      refine AllReadyH.cons (o := _) rfl (fun K hK => ?_) AllReadyH.nil
      go_simp
      refine hK.out _ _ (hS.trans (((Below.refl _ _).alloc (Nat.le_refl _) _).mono hS.size)) (fun hS => ?_)
      clear hK K
      (try simp only [Act.put, pt1, pt2, pt3, pt4, pt5, pt6])
      refine wpAnyH_ready (rs := [11]) (by kernel_rfl) (by simp) ?_
      refine AllReadyH.cons (o := _) rfl (fun K hK => ?_) AllReadyH.nil
      have hst9 : (storeCells ⟨w4.heap.size, 0, none⟩ [.string pa, .int .i64 cl, .bool un, .int .i64 c.k, .int .i64 c.i, .int .i64 c.s, .string c.t, .slice c.la c.ll c.lc, .slice c.fa c.fl c.fc] 0).run Tryz.prog (w4.alloc (.cells #[.string ⟨#[]⟩, .int .i64 0, .bool false, .int .i64 0, .int .i64 0, .int .i64 0, .string ⟨#[]⟩, .slice none 0 0, .slice none 0 0] 48)).drew = .ok () (w4.alloc (.cells #[.string pa, .int .i64 cl, .bool un, .int .i64 c.k, .int .i64 c.i, .int .i64 c.s, .string c.t, .slice c.la c.ll c.lc, .slice c.fa c.fl c.fc] 48)).drew := stNew w4.drew 48 #[.string ⟨#[]⟩, .int .i64 0, .bool false, .int .i64 0, .int .i64 0, .int .i64 0, .string ⟨#[]⟩, .slice none 0 0, .slice none 0 0] [.string pa, .int .i64 cl, .bool un, .int .i64 c.k, .int .i64 c.i, .int .i64 c.s, .string c.t, .slice c.la c.ll c.lc, .slice c.fa c.fl c.fc] infoT4 rfl (by simp [Value.oneCell'])
      go_simp
      refine hK.out _ _ (show Below w4.heap.size w4 (w4.alloc (.cells #[.string pa, .int .i64 cl, .bool un, .int .i64 c.k, .int .i64 c.i, .int .i64 c.s, .string c.t, .slice c.la c.ll c.lc, .slice c.fa c.fl c.fc] 48)).drew from ((Below.refl _ w4).alloc (Nat.le_refl _) _).drew) (fun hS => ?_)
      clear hK K
      (try simp only [Act.put, pt1, pt2, pt3, pt4, pt5, pt6])
      refine wpAnyH_done (by kernel_rfl) ?_ _
      (try dsimp only)
      have HS2 := hid hS
      clear hS
      go_wp2
      go_meet
      exact ⟨w4.heap.size, rfl, Nat.le_refl _, (show (w4.alloc (.cells #[.string pa, .int .i64 cl, .bool un, .int .i64 c.k, .int .i64 c.i, .int .i64 c.s, .string c.t, .slice c.la c.ll c.lc, .slice c.fa c.fl c.fc] 48)).heap[w4.heap.size]? = some (.cells #[.string pa, .int .i64 cl, .bool un, .int .i64 c.k, .int .i64 c.i, .int .i64 c.s, .string c.t, .slice c.la c.ll c.lc, .slice c.fa c.fl c.fc] 48) from heap_alloc_new w4 _), HS2.out⟩
    case rest =>
    obtain ⟨T, rfl, hTa, hTz, hTb⟩ := hcut
    obtain ⟨wz, hwz⟩ : ∃ wz, wz = wc := ⟨_, rfl⟩
    rw [← hwz] at hTz hTb ⊢
    clear hwz hun HPRE5
    have hl9 : (loadCellsFrom ⟨T, 0, none⟩ 0 9 #[]).run Tryz.prog wz = .ok #[.string pa, .int .i64 cl, .bool un, .int .i64 c.k, .int .i64 c.i, .int .i64 c.s, .string c.t, .slice c.la c.ll c.lc, .slice c.fa c.fl c.fc] wz := ldAll (P := Tryz.prog) (vs := [.string pa, .int .i64 cl, .bool un, .int .i64 c.k, .int .i64 c.i, .int .i64 c.s, .string c.t, .slice c.la c.ll c.lc, .slice c.fa c.fl c.fc]) hTz
    have hbz : Below w0.heap.size w0 wz := H4.out.2.2.1.trans (hTb.mono H4.out.2.2.1.size)
    have hbwz : Below w.heap.size w wz := by rw [← HN.out]; exact HB0.out.trans (hbz.mono (by have := HN0.out; omega))
    have hvz : IsVal (fun i => w0.heap.size ≤ i ∧ i < wz.heap.size) wz c (parF pe).1 := H4.out.2.2.2.same fun i hi => ⟨⟨hi.1, by have := hTb.size; omega⟩, hTb.block i hi.2⟩
    have htc := lReqT_call pa cl un c (parF pe).1 wz (hvz.same fun i hi => ⟨hi.2, rfl⟩) (HT.out.below hbwz) (HZT.out.below hbwz) (by have := HZA.out; omega)
    obtain ⟨tx, htx⟩ : ∃ tx, tx = fldF pa cl (parF pe).1 [wdB un] := ⟨_, rfl⟩
    have htc' : Calls Tryz.prog 29 #[.agg #[.string pa, .int .i64 cl, .bool un, .int .i64 c.k, .int .i64 c.i, .int .i64 c.s, .string c.t, .slice c.la c.ll c.lc, .slice c.fa c.fl c.fc]] wz fun e w' => e = .returned (.tuple #[.string tx.1, .int .i64 tx.2]) ∧ Below wz.heap.size wz w' := by rw [htx]; exact htc
    have HTC := hid htc'
    have HTX := hid htx
    have HZZ := hid (show Below w0.heap.size w0 wz ∧ IsVal (fun i => w0.heap.size ≤ i ∧ i < wz.heap.size) wz c (parF pe).1 ∧ wz.heap[T]? = some (.cells #[.string pa, .int .i64 cl, .bool un, .int .i64 c.k, .int .i64 c.i, .int .i64 c.s, .string c.t, .slice c.la c.ll c.lc, .slice c.fa c.fl c.fc] 48) ∧ N < T ∧ Below N w wz from ⟨hbz, hvz, hTz, by have := H4.out.2.2.1.size; have := HN0.out; omega, by rw [HN.out]; exact hbwz⟩)
    clear hTa hTz hTb hbz hbwz hvz htc htc' htx
    obtain ⟨pf, hpf⟩ : ∃ pf, pf = (parF pe).2.2 := ⟨_, rfl⟩
    have HPF := hid hpf
    rw [← hpf]
    clear hpf
    go_upto_region 8 with (go_at_call 29; refine HTC.out.mono ?_; rintro e w8 ⟨rfl, hb8⟩; have HB8 := hid hb8; clear hb8)
    clear hl9
    have h8n : w8.heap[N]? = some (.cells #[.string ⟨#[]⟩, .int .i64 0, .bool false, .int .i64 0, .int .i64 0, .int .i64 0, .string ⟨#[]⟩, .slice none 0 0, .slice none 0 0] 48) := heapExt HB8.out (heapExt HZZ.out.1 HZ0.out)
    have h8t : w8.heap[T]? = some (.cells #[.string pa, .int .i64 cl, .bool un, .int .i64 c.k, .int .i64 c.i, .int .i64 c.s, .string c.t, .slice c.la c.ll c.lc, .slice c.fa c.fl c.fc] 48) := heapExt HB8.out HZZ.out.2.2.1
    have hl8 : (loadCellsFrom ⟨T, 0, none⟩ 0 9 #[]).run Tryz.prog w8 = .ok #[.string pa, .int .i64 cl, .bool un, .int .i64 c.k, .int .i64 c.i, .int .i64 c.s, .string c.t, .slice c.la c.ll c.lc, .slice c.fa c.fl c.fc] w8 := ldAll (P := Tryz.prog) (vs := [.string pa, .int .i64 cl, .bool un, .int .i64 c.k, .int .i64 c.i, .int .i64 c.s, .string c.t, .slice c.la c.ll c.lc, .slice c.fa c.fl c.fc]) h8t
    obtain ⟨hsR, hlR⟩ := HST.out w8 _ rfl [.string pa, .int .i64 cl, .bool un, .int .i64 c.k, .int .i64 c.i, .int .i64 c.s, .string c.t, .slice c.la c.ll c.lc, .slice c.fa c.fl c.fc] rfl (by simp [Value.oneCell']) h8n
    obtain ⟨hsZ, hlZ⟩ := HST.out w8 _ rfl [.string ⟨#[]⟩, .int .i64 0, .bool false, .int .i64 0, .int .i64 0, .int .i64 0, .string ⟨#[]⟩, .slice none 0 0, .slice none 0 0] rfl (by simp [Value.oneCell']) h8n
    have HBW := hid (show Below N w w8 from HZZ.out.2.2.2.2.trans (HB8.out.mono (by have := HZZ.out.1.size; have := HN0.out; omega)))
    have HV8 := hid (show IsVal (fun i => w0.heap.size ≤ i ∧ i < w8.heap.size) w8 c (parF pe).1 from HZZ.out.2.1.same fun i hi => ⟨⟨hi.1, by have := HB8.out.size; omega⟩, HB8.out.block i hi.2⟩)
    clear h8n h8t
    have hres : lReq s = ((pa, cl, un, (parF pe).1), decide (tx.2 = 0 ∧ tx.1 = s)) := by unfold lReq; rw [HPC.out]; dsimp only; rw [← HCL.out, ← HUN2.out, ← HTX.out]
    have HRES := hid hres
    clear hres hsZ hlZ
    by_cases h2 : tx.2 = 0
    · have g2 : (tx.2 == 0) = true := by simp [h2]
      have H2 := hid h2
      clear h2
      obtain ⟨b3, hb3⟩ : ∃ b3, b3 = (tx.1.toList == s.toList) := ⟨_, rfl⟩
      have HX3 := hid (show decide (tx.2 = 0 ∧ tx.1 = s) = b3 by rw [hb3, bList]; simp [H2.out])
      have g3 := hb3.symm
      clear hb3
      go_wp2
      refine bodyPost_ret (v := .tuple #[.agg #[.string pa, .int .i64 cl, .bool un, .int .i64 c.k, .int .i64 c.i, .int .i64 c.s, .string c.t, .slice c.la c.ll c.lc, .slice c.fa c.fl c.fc], .bool b3]) (by simp [results, Tryz.results34, go_sem, hlR]) rfl ?_
      rw [HRES.out, HX3.out]
      exact ⟨c, rfl, HV8.out.same fun i hi => ⟨⟨by have := HN0.out; omega, by rw [setRow_size]; exact hi.2⟩, setRow_other w8 N i _ (by have := HN0.out; omega)⟩, HBW.out.trans (setRow_below w8 N _)⟩
    · have g2 : (tx.2 == 0) = false := by simp [h2]
      have HX3 := hid (show decide (tx.2 = 0 ∧ tx.1 = s) = false by simp [h2])
      clear h2
      go_wp2
      refine bodyPost_ret (v := .tuple #[.agg #[.string pa, .int .i64 cl, .bool un, .int .i64 c.k, .int .i64 c.i, .int .i64 c.s, .string c.t, .slice c.la c.ll c.lc, .slice c.fa c.fl c.fc], .bool false]) (by simp [results, Tryz.results34, go_sem, hlR]) rfl ?_
      rw [HRES.out, HX3.out]
      exact ⟨c, rfl, HV8.out.same fun i hi => ⟨⟨by have := HN0.out; omega, by rw [setRow_size]; exact hi.2⟩, setRow_other w8 N i _ (by have := HN0.out; omega)⟩, HBW.out.trans (setRow_below w8 N _)⟩
  · have HSP := hid hsp
    have HPC := hid hp
    clear hw0 hN hz0 hb0 hT0 hV0 hN0 hp hsp hT hZ hNV
    go_enter Tryz.func34, Tryz.ntmps34
    go_upto_region 1 with (fail)
    rw [← HW.out, ← HN.out]
    go_upto_region 2 with (go_at_call 80; refine HSP.out.mono ?_; rintro e w1 ⟨pn, pk, hpn, rfl, hb1⟩; have HB1 := hid hb1; clear hb1)
    have g1 : ((pn : Int) < 4) := by omega
    have h1n : w1.heap[N]? = some (.cells #[.string ⟨#[]⟩, .int .i64 0, .bool false, .int .i64 0, .int .i64 0, .int .i64 0, .string ⟨#[]⟩, .slice none 0 0, .slice none 0 0] 48) := heapExt HB1.out HZ0.out
    obtain ⟨hsZ, hlZ⟩ := HST.out w1 _ rfl [.string ⟨#[]⟩, .int .i64 0, .bool false, .int .i64 0, .int .i64 0, .int .i64 0, .string ⟨#[]⟩, .slice none 0 0, .slice none 0 0] rfl (by simp [Value.oneCell']) h1n
    have HBW := hid (show Below N w w1 from HB0.out.trans (HB1.out.mono (by have := HN0.out; omega)))
    clear h1n hpn
    go_wp2
    refine bodyPost_ret (v := .tuple #[.agg #[.string ⟨#[]⟩, .int .i64 0, .bool false, .int .i64 0, .int .i64 0, .int .i64 0, .string ⟨#[]⟩, .slice none 0 0, .slice none 0 0], .bool false]) (by simp [results, Tryz.results34, go_sem, hlZ]) rfl ?_
    have HSPC := hid (show lReq s = ((⟨#[]⟩, 0, false, nulV), false) by
      unfold lReq
      split
      · rename_i h; rw [h] at HPC; exact absurd HPC.out (by simp)
      · rfl)
    rw [HSPC.out]
    exact ⟨⟨0, 0, 0, ⟨#[]⟩, none, 0, 0, none, 0, 0⟩, rfl, leaf_val 0 0 (by simp [I64]) (by simp [I64]), HBW.out.trans (setRow_below w1 N _)⟩
set_option maxRecDepth 100000 in
set_option maxHeartbeats 16000000 in
theorem lRep_call (s : ByteArray) (w : World) (hs : s.size ≤ 65536) (hT : Tabs w) (hZ : ZTab w) (hNV : NumVars w) :
    Calls Tryz.prog 35 #[.string s] w fun x w' => ∃ c : VC, x = .returned (.tuple #[.agg #[.string (lRep s).1.1, .int .i64 (lRep s).1.2.1, .bool (lRep s).1.2.2.1, .bool (lRep s).1.2.2.2.1, .int .i64 c.k, .int .i64 c.i, .int .i64 c.s, .string c.t, .slice c.la c.ll c.lc, .slice c.fa c.fl c.fc], .bool (lRep s).2]) ∧ IsVal (fun i => w.heap.size ≤ i ∧ i < w'.heap.size) w' c (lRep s).1.2.2.2.2 ∧ Below w.heap.size w w' := by
  obtain ⟨N, hN⟩ : ∃ N, N = w.heap.size := ⟨_, rfl⟩
  obtain ⟨w0, hw0⟩ : ∃ w0, w0 = w.alloc (.cells #[.string ⟨#[]⟩, .int .i64 0, .bool false, .bool false, .int .i64 0, .int .i64 0, .int .i64 0, .string ⟨#[]⟩, .slice none 0 0, .slice none 0 0] 45) := ⟨_, rfl⟩
  have hz0 : w0.heap[N]? = some (.cells #[.string ⟨#[]⟩, .int .i64 0, .bool false, .bool false, .int .i64 0, .int .i64 0, .int .i64 0, .string ⟨#[]⟩, .slice none 0 0, .slice none 0 0] 45) := by rw [hw0, hN]; exact heap_alloc_new w _
  have hb0 : Below N w w0 := by rw [hw0, hN]; exact (Below.refl _ w).alloc (Nat.le_refl _) _
  have hT0 : Tabs w0 := hT.below (hN ▸ hb0)
  have hV0 : NumVars w0 := hNV.below (hN ▸ hb0)
  have HZT := hid hZ
  have HST := hid (fun (w2 : World) (cur : Array Value) (hc : cur.size = 10) (vs : List Value) (hv : vs.length = 10) (h1 : ∀ v ∈ vs, v.oneCell' = true) (hz : w2.heap[N]? = some (.cells cur 45)) =>
    (show (storeCells ⟨N, 0, none⟩ vs 0).run Tryz.prog w2 = .ok () (w2.setRow N vs.toArray) ∧ (loadCellsFrom ⟨N, 0, none⟩ 0 10 #[]).run Tryz.prog (w2.setRow N vs.toArray) = .ok vs.toArray (w2.setRow N vs.toArray) from
      ⟨stOld vs hz (by rw [hc, hv]) h1, by have := ldAll (P := Tryz.prog) (vs := vs) (setRow_heap w2 N _ vs.toArray 45 (0, 0) hz); rw [hv] at this; exact this⟩))
  rw [← hN]
  have HW := hid hw0
  have HN := hid hN
  have HZ0 := hid hz0
  have HB0 := hid hb0
  have HT0 := hid hT0
  have HV0 := hid hV0
  have HT := hid hT
  have hN0 : N < w0.heap.size := ltOf hz0
  have HN0 := hid hN0
  rcases split5 s w0 (by omega) hV0 with ⟨pa, pb, pc, pd, pe, hp, hsp⟩ | ⟨hp, hsp⟩
  · have hz5 : pe.size ≤ s.size := pieces_size 5 s pe (by rw [hp]; simp)
    have hzb : pb.size ≤ s.size := pieces_size 5 s pb (by rw [hp]; simp)
    have HZ5 := hid hz5
    have HZB := hid hzb
    have hza : pa.size ≤ s.size := pieces_size 5 s pa (by rw [hp]; simp)
    have HZA := hid hza
    clear hza
    have HSP := hid hsp
    obtain ⟨un, hun⟩ : ∃ un, un = (pc.toList == [117, 110, 100, 111]) := ⟨_, rfl⟩
    have hun2 : un = decide (pc = ⟨#[117, 110, 100, 111]⟩) := by rw [hun, bt_of]
    obtain ⟨dn, hdn⟩ : ∃ dn, dn = (pd.toList == [100, 111, 110, 101]) := ⟨_, rfl⟩
    have hdn2 : dn = decide (pd = ⟨#[100, 111, 110, 101]⟩) := by rw [hdn, bt_of]
    have HDN := hid hdn.symm
    have HDN2 := hid hdn2
    clear hdn hdn2
    have HUN := hid hun.symm
    have HUN2 := hid hun2
    clear hun hun2
    obtain ⟨cl, hcl⟩ : ∃ cl : Int, cl = ((lNum pb.data.toList 999999999999999).1 : Int) := ⟨_, rfl⟩
    obtain ⟨cb, hcb⟩ : ∃ cb : Bool, cb = (lNum pb.data.toList 999999999999999).2 := ⟨_, rfl⟩
    obtain ⟨P, hP⟩ : ∃ P, P = w0.heap.size := ⟨_, rfl⟩
    obtain ⟨w1, hw1⟩ : ∃ w1, w1 = w0.alloc (.cells #[.string pa, .string pb, .string pc, .string pd, .string pe] 9) := ⟨_, rfl⟩
    have hp1 : w1.heap[P]? = some (.cells #[.string pa, .string pb, .string pc, .string pd, .string pe] 9) := by rw [hw1, hP]; exact heap_alloc_new w0 _
    have hb1 : Below w0.heap.size w0 w1 := by rw [hw1]; exact (Below.refl _ w0).alloc (Nat.le_refl _) _
    have q0 : w1.cell? ⟨P, 1, none⟩ = some (.string pb) := cellOf hp1 1
    have hnc : Calls Tryz.prog 63 #[.string pb, .int .i64 999999999999999] w1 fun e w' => e = .returned (.tuple #[.int .i64 cl, .bool cb]) ∧ Below w1.heap.size w1 w' := by
      rw [hcl, hcb]; exact lNum_call pb 999999999999999 (by decide) w1
    have HNC := hid hnc
    have HCL := hid hcl
    have HB1 := hid hb1
    have HP1 := hid hp1
    have HW1 := hid hw1
    have HP := hid hP
    have HPC := hid hp
    clear hw0 hN hz0 hb0 hT0 hV0 hN0 hp hsp hz5 hzb hcl hcb hP hw1 hp1 hb1 hnc hT hZ hNV
    go_enter Tryz.func35, Tryz.ntmps35
    go_upto_region 1 with (fail)
    rw [← HW.out, ← HN.out]
    go_upto_region 2 with (go_at_call 80; refine HSP.out.mono ?_; rintro e w1' ⟨rfl, rfl⟩)
    rw [← HW1.out, ← HP.out]
    go_upto_region 5 with (go_at_call 63; refine HNC.out.mono ?_; rintro e w2 ⟨rfl, hb2⟩; have HB2 := hid hb2; clear hb2)
    clear q0
    have hp2 : w2.heap[P]? = some (.cells #[.string pa, .string pb, .string pc, .string pd, .string pe] 9) := heapExt HB2.out HP1.out
    have q0 : w2.cell? ⟨P, 4, none⟩ = some (.string pe) := cellOf hp2 4
    have hb02 : Below w0.heap.size w0 w2 := HB1.out.trans (HB2.out.mono HB1.out.size)
    have HPA := hid (parse_call pe w2 (by have := HZ5.out; omega) (HT0.out.below hb02) (HV0.out.below hb02))
    have HP2 := hid hp2
    have HB02 := hid hb02
    clear hp2 hb02
    have hst := fun (w3 : World) (c : VC) => st6New w3 #[.int .i64 0, .int .i64 0, .int .i64 0, .string ⟨#[]⟩, .slice none 0 0, .slice none 0 0] rfl (.int .i64 c.k) (.int .i64 c.i) (.int .i64 c.s) (.string c.t) (.slice c.la c.ll c.lc) (.slice c.fa c.fl c.fc) (by simp [Value.oneCell'])
    go_upto_region 6 with (go_at_call 81; refine HPA.out.mono ?_; rintro e w3 ⟨c, rfl, hv3, hb3⟩; have HV3 := hid hv3; have HB3 := hid hb3; clear hv3 hb3)
    clear q0 hst
    obtain ⟨T7, hT7⟩ : ∃ T7, T7 = w3.heap.size := ⟨_, rfl⟩
    obtain ⟨w4, hw4⟩ : ∃ w4, w4 = w3.alloc (.cells #[.int .i64 c.k, .int .i64 c.i, .int .i64 c.s, .string c.t, .slice c.la c.ll c.lc, .slice c.fa c.fl c.fc] 43) := ⟨_, rfl⟩
    rw [← hw4, ← hT7]
    have hp3 : w3.heap[P]? = some (.cells #[.string pa, .string pb, .string pc, .string pd, .string pe] 9) := heapExt HB3.out HP2.out
    have h4p : w4.heap[P]? = some (.cells #[.string pa, .string pb, .string pc, .string pd, .string pe] 9) := by rw [hw4]; exact heapAlloc _ hp3
    have h4t : w4.heap[T7]? = some (.cells #[.int .i64 c.k, .int .i64 c.i, .int .i64 c.s, .string c.t, .slice c.la c.ll c.lc, .slice c.fa c.fl c.fc] 43) := by rw [hw4, hT7]; exact heap_alloc_new w3 _
    have hb03 : Below w0.heap.size w0 w3 := HB02.out.trans (HB3.out.mono HB02.out.size)
    have hb4 : Below w0.heap.size w0 w4 := by rw [hw4]; exact hb03.alloc hb03.size _
    have hv4 : IsVal (fun i => w0.heap.size ≤ i ∧ i < w4.heap.size) w4 c (parF pe).1 := by
      rw [hw4]
      exact HV3.out.same fun i hi => ⟨⟨by have := HB02.out.size; omega, by rw [World.size_alloc]; omega⟩, heap_alloc_old w3 _ _ hi.2⟩
    have H4 := hid (show w4.heap[P]? = some (.cells #[.string pa, .string pb, .string pc, .string pd, .string pe] 9) ∧ w4.heap[T7]? = some (.cells #[.int .i64 c.k, .int .i64 c.i, .int .i64 c.s, .string c.t, .slice c.la c.ll c.lc, .slice c.fa c.fl c.fc] 43) ∧ Below w0.heap.size w0 w4 ∧ IsVal (fun i => w0.heap.size ≤ i ∧ i < w4.heap.size) w4 c (parF pe).1 from ⟨h4p, h4t, hb4, hv4⟩)
    clear hT7 hw4 hp3 h4p h4t hb03 hb4 hv4
    have HC6 := hid (fun (w' : World) (h : Below w4.heap.size w4 w') => (show w'.cell? ⟨P, 0, none⟩ = some (.string pa) ∧ w'.cell? ⟨P, 2, none⟩ = some (.string pc) ∧ w'.cell? ⟨P, 3, none⟩ = some (.string pd) ∧ (loadCellsFrom ⟨T7, 0, none⟩ 0 6 #[]).run Tryz.prog w' = .ok #[.int .i64 c.k, .int .i64 c.i, .int .i64 c.s, .string c.t, .slice c.la c.ll c.lc, .slice c.fa c.fl c.fc] w' from ⟨cellOf (heapExt h H4.out.1) 0, cellOf (heapExt h H4.out.1) 2, cellOf (heapExt h H4.out.1) 3, ld6 (heapExt h H4.out.2.1)⟩))
    have hun := HUN.out
    have hdn := HDN.out
    have HPRE5 := hid (show Below w4.heap.size w4 w4.drew from (Below.refl _ _).drew)
    go_cut [10] (fun v wz => ∃ T, v = .pointer (some ⟨T, 0, none⟩) ∧ w4.heap.size ≤ T ∧ wz.heap[T]? = some (.cells #[.string pa, .int .i64 cl, .bool un, .bool dn, .int .i64 c.k, .int .i64 c.i, .int .i64 c.s, .string c.t, .slice c.la c.ll c.lc, .slice c.fa c.fl c.fc] 45) ∧ Below w4.heap.size w4 wz)
    case first =>
      refine wp_region_held_drew (S := (fun w' => Below w4.heap.size w4 w')) (by kernel_rfl) ((Below.refl _ _).drew) (fun hS => ?_)
      refine wpAnyH_take (i := 0) (oi := _) (v := ?_) rfl (by kernel_rfl) (by kernel_rfl) (by kernel_rfl) (fun _ _ _ h => h) (Or.inl ⟨by rfl, ?_⟩) hS ?_
      rotate_left
      · intro w' hw'
        have hcells := HC6.out w' hw'
        go_simp
        (try with_reducible rfl)
      simp only [Act.put, pt1, pt2, pt3, pt4, pt5, pt6]
      refine wpAnyH_take (i := 1) (oi := _) (v := ?_) rfl (by kernel_rfl) (by kernel_rfl) (by kernel_rfl) (fun _ _ _ h => h) (Or.inl ⟨by rfl, ?_⟩) hS ?_
      rotate_left
      · intro w' hw'
        have hcells := HC6.out w' hw'
        go_simp
        (try with_reducible rfl)
      simp only [Act.put, pt1, pt2, pt3, pt4, pt5, pt6]
      refine wpAnyH_take (i := 2) (oi := _) (v := ?_) rfl (by kernel_rfl) (by kernel_rfl) (by kernel_rfl) (fun _ _ _ h => h) (Or.inl ⟨by rfl, ?_⟩) hS ?_
      rotate_left
      · intro w' hw'
        have hcells := HC6.out w' hw'
        go_simp
        (try with_reducible rfl)
      simp only [Act.put, pt1, pt2, pt3, pt4, pt5, pt6]
      refine wpAnyH_take (i := 3) (oi := _) (v := ?_) rfl (by kernel_rfl) (by kernel_rfl) (by kernel_rfl) (fun _ _ _ h => h) (Or.inl ⟨by rfl, ?_⟩) hS ?_
      rotate_left
      · intro w' hw'
        have hcells := HC6.out w' hw'
        go_simp
        (try with_reducible rfl)
      simp only [Act.put, pt1, pt2, pt3, pt4, pt5, pt6]
      refine wpAnyH_take (i := 4) (oi := _) (v := ?_) rfl (by kernel_rfl) (by kernel_rfl) (by kernel_rfl) (fun _ _ _ h => h) (Or.inl ⟨by rfl, ?_⟩) hS ?_
      rotate_left
      · intro w' hw'
        have hcells := HC6.out w' hw'
        go_simp
        (try with_reducible rfl)
      simp only [Act.put, pt1, pt2, pt3, pt4, pt5, pt6]
      refine wpAnyH_take (i := 5) (oi := _) (v := ?_) rfl (by kernel_rfl) (by kernel_rfl) (by kernel_rfl) (fun _ _ _ h => h) (Or.inl ⟨by rfl, ?_⟩) hS ?_
      rotate_left
      · intro w' hw'
        have hcells := HC6.out w' hw'
        go_simp
        (try with_reducible rfl)
      simp only [Act.put, pt1, pt2, pt3, pt4, pt5, pt6]
      refine wpAnyH_take (i := 6) (oi := _) (v := ?_) rfl (by kernel_rfl) (by kernel_rfl) (by kernel_rfl) (fun _ _ _ h => h) (Or.inl ⟨by rfl, ?_⟩) hS ?_
      rotate_left
      · intro w' hw'
        have hcells := HC6.out w' hw'
        go_simp
        (try with_reducible rfl)
      simp only [Act.put, pt1, pt2, pt3, pt4, pt5, pt6]
      refine wpAnyH_take (i := 7) (oi := _) (v := ?_) rfl (by kernel_rfl) (by kernel_rfl) (by kernel_rfl) (fun _ _ _ h => h) (Or.inl ⟨by rfl, ?_⟩) hS ?_
      rotate_left
      · intro w' hw'
        have hcells := HC6.out w' hw'
        go_simp
        (try with_reducible rfl)
      simp only [Act.put, pt1, pt2, pt3, pt4, pt5, pt6]
      refine wpAnyH_take (i := 8) (oi := _) (v := ?_) rfl (by kernel_rfl) (by kernel_rfl) (by kernel_rfl) (fun _ _ _ h => h) (Or.inl ⟨by rfl, ?_⟩) hS ?_
      rotate_left
      · intro w' hw'
        have hcells := HC6.out w' hw'
        go_simp
        (try with_reducible rfl)
      simp only [Act.put, pt1, pt2, pt3, pt4, pt5, pt6]
      refine wpAnyH_take (i := 9) (oi := _) (v := ?_) rfl (by kernel_rfl) (by kernel_rfl) (by kernel_rfl) (fun _ _ _ h => h) (Or.inl ⟨by rfl, ?_⟩) hS ?_
      rotate_left
      · intro w' hw'
        have hcells := HC6.out w' hw'
        go_simp
        (try with_reducible rfl)
      simp only [Act.put, pt1, pt2, pt3, pt4, pt5, pt6]
      refine wpAnyH_take (i := 10) (oi := _) (v := ?_) rfl (by kernel_rfl) (by kernel_rfl) (by kernel_rfl) (fun _ _ _ h => h) (Or.inl ⟨by rfl, ?_⟩) hS ?_
      rotate_left
      · intro w' hw'
        have hcells := HC6.out w' hw'
        go_simp
        (try with_reducible rfl)
      simp only [Act.put, pt1, pt2, pt3, pt4, pt5, pt6]
      refine wpAnyH_take (i := 11) (oi := _) (v := ?_) rfl (by kernel_rfl) (by kernel_rfl) (by kernel_rfl) (fun _ _ _ h => h) (Or.inl ⟨by rfl, ?_⟩) hS ?_
      rotate_left
      · intro w' hw'
        have hcells := HC6.out w' hw'
        go_simp
        (try with_reducible rfl)
      simp only [Act.put, pt1, pt2, pt3, pt4, pt5, pt6]
      refine wpAnyH_take (i := 12) (oi := _) (v := ?_) rfl (by kernel_rfl) (by kernel_rfl) (by kernel_rfl) (fun _ _ _ h => h) (Or.inl ⟨by rfl, ?_⟩) hS ?_
      rotate_left
      · intro w' hw'
        have hcells := HC6.out w' hw'
        go_simp
        (try with_reducible rfl)
      simp only [Act.put, pt1, pt2, pt3, pt4, pt5, pt6]
      refine wpAnyH_take (i := 13) (oi := _) (v := ?_) rfl (by kernel_rfl) (by kernel_rfl) (by kernel_rfl) (fun _ _ _ h => h) (Or.inl ⟨by rfl, ?_⟩) hS ?_
      rotate_left
      · intro w' hw'
        have hcells := HC6.out w' hw'
        go_simp
        (try with_reducible rfl)
      simp only [Act.put, pt1, pt2, pt3, pt4, pt5, pt6]
      refine wpAnyH_ready (rs := [14]) (by kernel_rfl) (by simp) ?_
      refine AllReadyH.cons (o := _) rfl (fun K hK => ?_) AllReadyH.nil
      go_simp
      refine hK.out _ _ (hS.trans (((Below.refl _ _).alloc (Nat.le_refl _) _).mono hS.size)) (fun hS => ?_)
      clear hK K
      (try simp only [Act.put, pt1, pt2, pt3, pt4, pt5, pt6])
      refine wpAnyH_ready (rs := [15]) (by kernel_rfl) (by simp) ?_
      refine AllReadyH.cons (o := _) rfl (fun K hK => ?_) AllReadyH.nil
      have hst9 : (storeCells ⟨w4.heap.size, 0, none⟩ [.string pa, .int .i64 cl, .bool un, .bool dn, .int .i64 c.k, .int .i64 c.i, .int .i64 c.s, .string c.t, .slice c.la c.ll c.lc, .slice c.fa c.fl c.fc] 0).run Tryz.prog (w4.alloc (.cells #[.string ⟨#[]⟩, .int .i64 0, .bool false, .bool false, .int .i64 0, .int .i64 0, .int .i64 0, .string ⟨#[]⟩, .slice none 0 0, .slice none 0 0] 45)).drew = .ok () (w4.alloc (.cells #[.string pa, .int .i64 cl, .bool un, .bool dn, .int .i64 c.k, .int .i64 c.i, .int .i64 c.s, .string c.t, .slice c.la c.ll c.lc, .slice c.fa c.fl c.fc] 45)).drew := stNew w4.drew 45 #[.string ⟨#[]⟩, .int .i64 0, .bool false, .bool false, .int .i64 0, .int .i64 0, .int .i64 0, .string ⟨#[]⟩, .slice none 0 0, .slice none 0 0] [.string pa, .int .i64 cl, .bool un, .bool dn, .int .i64 c.k, .int .i64 c.i, .int .i64 c.s, .string c.t, .slice c.la c.ll c.lc, .slice c.fa c.fl c.fc] infoT5 rfl (by simp [Value.oneCell'])
      go_simp
      refine hK.out _ _ (show Below w4.heap.size w4 (w4.alloc (.cells #[.string pa, .int .i64 cl, .bool un, .bool dn, .int .i64 c.k, .int .i64 c.i, .int .i64 c.s, .string c.t, .slice c.la c.ll c.lc, .slice c.fa c.fl c.fc] 45)).drew from ((Below.refl _ w4).alloc (Nat.le_refl _) _).drew) (fun hS => ?_)
      clear hK K
      (try simp only [Act.put, pt1, pt2, pt3, pt4, pt5, pt6])
      refine wpAnyH_done (by kernel_rfl) ?_ _
      (try dsimp only)
      have HS2 := hid hS
      clear hS
      go_wp2
      go_meet
      exact ⟨w4.heap.size, rfl, Nat.le_refl _, (show (w4.alloc (.cells #[.string pa, .int .i64 cl, .bool un, .bool dn, .int .i64 c.k, .int .i64 c.i, .int .i64 c.s, .string c.t, .slice c.la c.ll c.lc, .slice c.fa c.fl c.fc] 45)).heap[w4.heap.size]? = some (.cells #[.string pa, .int .i64 cl, .bool un, .bool dn, .int .i64 c.k, .int .i64 c.i, .int .i64 c.s, .string c.t, .slice c.la c.ll c.lc, .slice c.fa c.fl c.fc] 45) from heap_alloc_new w4 _), HS2.out⟩
    case rest =>
    obtain ⟨T, rfl, hTa, hTz, hTb⟩ := hcut
    obtain ⟨wz, hwz⟩ : ∃ wz, wz = wc := ⟨_, rfl⟩
    rw [← hwz] at hTz hTb ⊢
    clear hwz hun hdn HPRE5
    have hl9 : (loadCellsFrom ⟨T, 0, none⟩ 0 10 #[]).run Tryz.prog wz = .ok #[.string pa, .int .i64 cl, .bool un, .bool dn, .int .i64 c.k, .int .i64 c.i, .int .i64 c.s, .string c.t, .slice c.la c.ll c.lc, .slice c.fa c.fl c.fc] wz := ldAll (P := Tryz.prog) (vs := [.string pa, .int .i64 cl, .bool un, .bool dn, .int .i64 c.k, .int .i64 c.i, .int .i64 c.s, .string c.t, .slice c.la c.ll c.lc, .slice c.fa c.fl c.fc]) hTz
    have hbz : Below w0.heap.size w0 wz := H4.out.2.2.1.trans (hTb.mono H4.out.2.2.1.size)
    have hbwz : Below w.heap.size w wz := by rw [← HN.out]; exact HB0.out.trans (hbz.mono (by have := HN0.out; omega))
    have hvz : IsVal (fun i => w0.heap.size ≤ i ∧ i < wz.heap.size) wz c (parF pe).1 := H4.out.2.2.2.same fun i hi => ⟨⟨hi.1, by have := hTb.size; omega⟩, hTb.block i hi.2⟩
    have htc := lRepT_call pa cl un dn c (parF pe).1 wz (hvz.same fun i hi => ⟨hi.2, rfl⟩) (HT.out.below hbwz) (HZT.out.below hbwz) (by have := HZA.out; omega)
    obtain ⟨tx, htx⟩ : ∃ tx, tx = fldF pa cl (parF pe).1 [wdB un, dnB dn] := ⟨_, rfl⟩
    have htc' : Calls Tryz.prog 30 #[.agg #[.string pa, .int .i64 cl, .bool un, .bool dn, .int .i64 c.k, .int .i64 c.i, .int .i64 c.s, .string c.t, .slice c.la c.ll c.lc, .slice c.fa c.fl c.fc]] wz fun e w' => e = .returned (.tuple #[.string tx.1, .int .i64 tx.2]) ∧ Below wz.heap.size wz w' := by rw [htx]; exact htc
    have HTC := hid htc'
    have HTX := hid htx
    have HZZ := hid (show Below w0.heap.size w0 wz ∧ IsVal (fun i => w0.heap.size ≤ i ∧ i < wz.heap.size) wz c (parF pe).1 ∧ wz.heap[T]? = some (.cells #[.string pa, .int .i64 cl, .bool un, .bool dn, .int .i64 c.k, .int .i64 c.i, .int .i64 c.s, .string c.t, .slice c.la c.ll c.lc, .slice c.fa c.fl c.fc] 45) ∧ N < T ∧ Below N w wz from ⟨hbz, hvz, hTz, by have := H4.out.2.2.1.size; have := HN0.out; omega, by rw [HN.out]; exact hbwz⟩)
    clear hTa hTz hTb hbz hbwz hvz htc htc' htx
    obtain ⟨pf, hpf⟩ : ∃ pf, pf = (parF pe).2.2 := ⟨_, rfl⟩
    have HPF := hid hpf
    rw [← hpf]
    clear hpf
    go_upto_region 8 with (go_at_call 30; refine HTC.out.mono ?_; rintro e w8 ⟨rfl, hb8⟩; have HB8 := hid hb8; clear hb8)
    clear hl9
    have h8n : w8.heap[N]? = some (.cells #[.string ⟨#[]⟩, .int .i64 0, .bool false, .bool false, .int .i64 0, .int .i64 0, .int .i64 0, .string ⟨#[]⟩, .slice none 0 0, .slice none 0 0] 45) := heapExt HB8.out (heapExt HZZ.out.1 HZ0.out)
    have h8t : w8.heap[T]? = some (.cells #[.string pa, .int .i64 cl, .bool un, .bool dn, .int .i64 c.k, .int .i64 c.i, .int .i64 c.s, .string c.t, .slice c.la c.ll c.lc, .slice c.fa c.fl c.fc] 45) := heapExt HB8.out HZZ.out.2.2.1
    have hl8 : (loadCellsFrom ⟨T, 0, none⟩ 0 10 #[]).run Tryz.prog w8 = .ok #[.string pa, .int .i64 cl, .bool un, .bool dn, .int .i64 c.k, .int .i64 c.i, .int .i64 c.s, .string c.t, .slice c.la c.ll c.lc, .slice c.fa c.fl c.fc] w8 := ldAll (P := Tryz.prog) (vs := [.string pa, .int .i64 cl, .bool un, .bool dn, .int .i64 c.k, .int .i64 c.i, .int .i64 c.s, .string c.t, .slice c.la c.ll c.lc, .slice c.fa c.fl c.fc]) h8t
    obtain ⟨hsR, hlR⟩ := HST.out w8 _ rfl [.string pa, .int .i64 cl, .bool un, .bool dn, .int .i64 c.k, .int .i64 c.i, .int .i64 c.s, .string c.t, .slice c.la c.ll c.lc, .slice c.fa c.fl c.fc] rfl (by simp [Value.oneCell']) h8n
    obtain ⟨hsZ, hlZ⟩ := HST.out w8 _ rfl [.string ⟨#[]⟩, .int .i64 0, .bool false, .bool false, .int .i64 0, .int .i64 0, .int .i64 0, .string ⟨#[]⟩, .slice none 0 0, .slice none 0 0] rfl (by simp [Value.oneCell']) h8n
    have HBW := hid (show Below N w w8 from HZZ.out.2.2.2.2.trans (HB8.out.mono (by have := HZZ.out.1.size; have := HN0.out; omega)))
    have HV8 := hid (show IsVal (fun i => w0.heap.size ≤ i ∧ i < w8.heap.size) w8 c (parF pe).1 from HZZ.out.2.1.same fun i hi => ⟨⟨hi.1, by have := HB8.out.size; omega⟩, HB8.out.block i hi.2⟩)
    clear h8n h8t
    have hres : lRep s = ((pa, cl, un, dn, (parF pe).1), decide (tx.2 = 0 ∧ tx.1 = s)) := by unfold lRep; rw [HPC.out]; dsimp only; rw [← HCL.out, ← HUN2.out, ← HDN2.out, ← HTX.out]
    have HRES := hid hres
    clear hres hsZ hlZ
    by_cases h2 : tx.2 = 0
    · have g2 : (tx.2 == 0) = true := by simp [h2]
      have H2 := hid h2
      clear h2
      obtain ⟨b3, hb3⟩ : ∃ b3, b3 = (tx.1.toList == s.toList) := ⟨_, rfl⟩
      have HX3 := hid (show decide (tx.2 = 0 ∧ tx.1 = s) = b3 by rw [hb3, bList]; simp [H2.out])
      have g3 := hb3.symm
      clear hb3
      go_wp2
      refine bodyPost_ret (v := .tuple #[.agg #[.string pa, .int .i64 cl, .bool un, .bool dn, .int .i64 c.k, .int .i64 c.i, .int .i64 c.s, .string c.t, .slice c.la c.ll c.lc, .slice c.fa c.fl c.fc], .bool b3]) (by simp [results, Tryz.results35, go_sem, hlR]) rfl ?_
      rw [HRES.out, HX3.out]
      exact ⟨c, rfl, HV8.out.same fun i hi => ⟨⟨by have := HN0.out; omega, by rw [setRow_size]; exact hi.2⟩, setRow_other w8 N i _ (by have := HN0.out; omega)⟩, HBW.out.trans (setRow_below w8 N _)⟩
    · have g2 : (tx.2 == 0) = false := by simp [h2]
      have HX3 := hid (show decide (tx.2 = 0 ∧ tx.1 = s) = false by simp [h2])
      clear h2
      go_wp2
      refine bodyPost_ret (v := .tuple #[.agg #[.string pa, .int .i64 cl, .bool un, .bool dn, .int .i64 c.k, .int .i64 c.i, .int .i64 c.s, .string c.t, .slice c.la c.ll c.lc, .slice c.fa c.fl c.fc], .bool false]) (by simp [results, Tryz.results35, go_sem, hlR]) rfl ?_
      rw [HRES.out, HX3.out]
      exact ⟨c, rfl, HV8.out.same fun i hi => ⟨⟨by have := HN0.out; omega, by rw [setRow_size]; exact hi.2⟩, setRow_other w8 N i _ (by have := HN0.out; omega)⟩, HBW.out.trans (setRow_below w8 N _)⟩
  · have HSP := hid hsp
    have HPC := hid hp
    clear hw0 hN hz0 hb0 hT0 hV0 hN0 hp hsp hT hZ hNV
    go_enter Tryz.func35, Tryz.ntmps35
    go_upto_region 1 with (fail)
    rw [← HW.out, ← HN.out]
    go_upto_region 2 with (go_at_call 80; refine HSP.out.mono ?_; rintro e w1 ⟨pn, pk, hpn, rfl, hb1⟩; have HB1 := hid hb1; clear hb1)
    have g1 : ((pn : Int) < 5) := by omega
    have h1n : w1.heap[N]? = some (.cells #[.string ⟨#[]⟩, .int .i64 0, .bool false, .bool false, .int .i64 0, .int .i64 0, .int .i64 0, .string ⟨#[]⟩, .slice none 0 0, .slice none 0 0] 45) := heapExt HB1.out HZ0.out
    obtain ⟨hsZ, hlZ⟩ := HST.out w1 _ rfl [.string ⟨#[]⟩, .int .i64 0, .bool false, .bool false, .int .i64 0, .int .i64 0, .int .i64 0, .string ⟨#[]⟩, .slice none 0 0, .slice none 0 0] rfl (by simp [Value.oneCell']) h1n
    have HBW := hid (show Below N w w1 from HB0.out.trans (HB1.out.mono (by have := HN0.out; omega)))
    clear h1n hpn
    go_wp2
    refine bodyPost_ret (v := .tuple #[.agg #[.string ⟨#[]⟩, .int .i64 0, .bool false, .bool false, .int .i64 0, .int .i64 0, .int .i64 0, .string ⟨#[]⟩, .slice none 0 0, .slice none 0 0], .bool false]) (by simp [results, Tryz.results35, go_sem, hlZ]) rfl ?_
    have HSPC := hid (show lRep s = ((⟨#[]⟩, 0, false, false, nulV), false) by
      unfold lRep
      split
      · rename_i h; rw [h] at HPC; exact absurd HPC.out (by simp)
      · rfl)
    rw [HSPC.out]
    exact ⟨⟨0, 0, 0, ⟨#[]⟩, none, 0, 0, none, 0, 0⟩, rfl, leaf_val 0 0 (by simp [I64]) (by simp [I64]), HBW.out.trans (setRow_below w1 N _)⟩
end
end Go.Proofs.YtkljbfaemahchaaGreatDoor
