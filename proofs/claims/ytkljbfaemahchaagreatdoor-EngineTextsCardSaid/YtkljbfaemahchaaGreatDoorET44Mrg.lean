/-
  engine.ParseRequest and ParseReply: the request and the reply of a text. Conditions: the text has at most 65536 bytes; Tabs, ZTab, NumVars.
-/
import Derived.Test.YtkljbfaemahchaaGreatDoorET40Mrg
import Derived.Test.YtkljbfaemahchaaGreatDoorET43Mrg
import Derived.Test.YtkljbfaemahchaaGreatDoorET8Mrg
import Derived.Test.YtkljbfaemahchaaGreatDoorET25Mrg
namespace Go.Proofs.YtkljbfaemahchaaGreatDoor
set_option linter.unusedVariables false
set_option linter.unusedSimpArgs false
section
open Go Go.RowKit Go.Shelf
theorem infoT4 : (Tryz.prog.info? 48).map (·.size) = some 9 := by kernel_rfl
theorem infoT5 : (Tryz.prog.info? 45).map (·.size) = some 10 := by kernel_rfl
def wdB (un : Bool) : ByteArray := if un then ⟨#[117, 110, 100, 111]⟩ else ⟨#[100, 111]⟩
def dnB (dn : Bool) : ByteArray := if dn then ⟨#[100, 111, 110, 101]⟩ else ⟨#[114, 101, 102, 117, 115, 101, 100]⟩
def pReq (s : ByteArray) : (ByteArray × Int × Bool × Val) × Int := match pieces 4 s with
  | [a, b, c, e] => if (parF e).2.2 ≠ 0 ∨ (fldF a ((eNum b.data.toList).1) (parF e).1 [wdB (decide (c = ⟨#[117, 110, 100, 111]⟩))]).2 ≠ 0 ∨ (fldF a ((eNum b.data.toList).1) (parF e).1 [wdB (decide (c = ⟨#[117, 110, 100, 111]⟩))]).1 ≠ s then ((⟨#[]⟩, 0, false, nulV), 3) else ((a, (eNum b.data.toList).1, decide (c = ⟨#[117, 110, 100, 111]⟩), (parF e).1), 0)
  | _ => ((⟨#[]⟩, 0, false, nulV), 3)
def lReq (s : ByteArray) : (ByteArray × Int × Bool × Val) × Bool := match pieces 4 s with
  | [a, b, c, e] => ((a, ((lNum b.data.toList 999999999999999).1 : Int), decide (c = ⟨#[117, 110, 100, 111]⟩), (parF e).1), decide ((fldF a (((lNum b.data.toList 999999999999999).1 : Int)) (parF e).1 [wdB (decide (c = ⟨#[117, 110, 100, 111]⟩))]).2 = 0 ∧ (fldF a (((lNum b.data.toList 999999999999999).1 : Int)) (parF e).1 [wdB (decide (c = ⟨#[117, 110, 100, 111]⟩))]).1 = s))
  | _ => ((⟨#[]⟩, 0, false, nulV), false)
def pRep (s : ByteArray) : (ByteArray × Int × Bool × Bool × Val) × Int := match pieces 5 s with
  | [a, b, c, d, e] => if (parF e).2.2 ≠ 0 ∨ (fldF a ((eNum b.data.toList).1) (parF e).1 [wdB (decide (c = ⟨#[117, 110, 100, 111]⟩)), dnB (decide (d = ⟨#[100, 111, 110, 101]⟩))]).2 ≠ 0 ∨ (fldF a ((eNum b.data.toList).1) (parF e).1 [wdB (decide (c = ⟨#[117, 110, 100, 111]⟩)), dnB (decide (d = ⟨#[100, 111, 110, 101]⟩))]).1 ≠ s then ((⟨#[]⟩, 0, false, false, nulV), 3) else ((a, (eNum b.data.toList).1, decide (c = ⟨#[117, 110, 100, 111]⟩), decide (d = ⟨#[100, 111, 110, 101]⟩), (parF e).1), 0)
  | _ => ((⟨#[]⟩, 0, false, false, nulV), 3)
def lRep (s : ByteArray) : (ByteArray × Int × Bool × Bool × Val) × Bool := match pieces 5 s with
  | [a, b, c, d, e] => ((a, ((lNum b.data.toList 999999999999999).1 : Int), decide (c = ⟨#[117, 110, 100, 111]⟩), decide (d = ⟨#[100, 111, 110, 101]⟩), (parF e).1), decide ((fldF a (((lNum b.data.toList 999999999999999).1 : Int)) (parF e).1 [wdB (decide (c = ⟨#[117, 110, 100, 111]⟩)), dnB (decide (d = ⟨#[100, 111, 110, 101]⟩))]).2 = 0 ∧ (fldF a (((lNum b.data.toList 999999999999999).1 : Int)) (parF e).1 [wdB (decide (c = ⟨#[117, 110, 100, 111]⟩)), dnB (decide (d = ⟨#[100, 111, 110, 101]⟩))]).1 = s))
  | _ => ((⟨#[]⟩, 0, false, false, nulV), false)
theorem idxU (w : World) : (Instr.index 122 (.agg #[.string ⟨#[100, 111]⟩, .string ⟨#[117, 110, 100, 111]⟩]) (.int .i64 1)).run Tryz.prog w = .ok (.string ⟨#[117, 110, 100, 111]⟩) w := by
  kernel_rfl
theorem idxD (w : World) : (Instr.index 122 (.agg #[.string ⟨#[114, 101, 102, 117, 115, 101, 100]⟩, .string ⟨#[100, 111, 110, 101]⟩]) (.int .i64 1)).run Tryz.prog w = .ok (.string ⟨#[100, 111, 110, 101]⟩) w := by
  kernel_rfl
section
attribute [-go_sem] loadCellsFrom storeCells
attribute [local go_sem] idxU idxD
attribute [local go_sem] lcf0 lcf1 lcf2 lcf3 lcf4 lcf5 stc0 stc1
set_option maxRecDepth 100000 in
set_option maxHeartbeats 16000000 in
theorem pReq_call (s : ByteArray) (w : World) (hs : s.size ≤ 65536) (hT : Tabs w) (hZ : ZTab w) (hNV : NumVars w) :
    Calls Tryz.prog 31 #[.string s] w fun x w' => ∃ c : VC, x = .returned (.tuple #[.agg #[.string (pReq s).1.1, .int .i64 (pReq s).1.2.1, .bool (pReq s).1.2.2.1, .int .i64 c.k, .int .i64 c.i, .int .i64 c.s, .string c.t, .slice c.la c.ll c.lc, .slice c.fa c.fl c.fc], .int .i64 (pReq s).2]) ∧ IsVal (fun i => w.heap.size ≤ i ∧ i < w'.heap.size) w' c (pReq s).1.2.2.2 ∧ Below w.heap.size w w' := by
  obtain ⟨N, hN⟩ : ∃ N, N = w.heap.size := ⟨_, rfl⟩
  obtain ⟨w0, hw0⟩ : ∃ w0, w0 = w.alloc (.cells #[.string ⟨#[]⟩, .int .i64 0, .bool false, .int .i64 0, .int .i64 0, .int .i64 0, .string ⟨#[]⟩, .slice none 0 0, .slice none 0 0] 48) := ⟨_, rfl⟩
  have hz0 : w0.heap[N]? = some (.cells #[.string ⟨#[]⟩, .int .i64 0, .bool false, .int .i64 0, .int .i64 0, .int .i64 0, .string ⟨#[]⟩, .slice none 0 0, .slice none 0 0] 48) := by rw [hw0, hN]; exact heap_alloc_new w _
  have hb0 : Below N w w0 := by rw [hw0, hN]; exact (Below.refl _ w).alloc (Nat.le_refl _) _
  have hT0 : Tabs w0 := hT.below (hN ▸ hb0)
  have hV0 : NumVars w0 := hNV.below (hN ▸ hb0)
  have HZT := hid hZ
  have HST := hid (fun (w2 : World) (cur : Array Value) (hc : cur.size = 9) (vs : List Value) (hv : vs.length = 9) (h1 : ∀ v ∈ vs, v.oneCell' = true) (hz : w2.heap[N]? = some (.cells cur 48)) =>
    (show (storeCells ⟨N, 0, none⟩ vs 0).run Tryz.prog w2 = .ok () (w2.setRow N vs.toArray) ∧ (loadCellsFrom ⟨N, 0, none⟩ 0 9 #[]).run Tryz.prog (w2.setRow N vs.toArray) = .ok vs.toArray (w2.setRow N vs.toArray) from
      ⟨stOld vs hz (by rw [hc, hv]) h1, by have := ldAll (P := Tryz.prog) (vs := vs) (setRow_heap w2 N _ vs.toArray 48 (0, 0) hz); rw [hv] at this; exact this⟩))
  rw [← hN]
  have HW := hid hw0
  have HN := hid hN
  have HZ0 := hid hz0
  have HB0 := hid hb0
  have HT0 := hid hT0
  have HV0 := hid hV0
  have HT := hid hT
  have hN0 : N < w0.heap.size := ltOf hz0
  have HN0 := hid hN0
  rcases split4 s w0 (by omega) hV0 with ⟨pa, pb, pc, pe, hp, hsp⟩ | ⟨hp, hsp⟩
  · have hz5 : pe.size ≤ s.size := pieces_size 4 s pe (by rw [hp]; simp)
    have hzb : pb.size ≤ s.size := pieces_size 4 s pb (by rw [hp]; simp)
    have HZ5 := hid hz5
    have HZB := hid hzb
    have hza : pa.size ≤ s.size := pieces_size 4 s pa (by rw [hp]; simp)
    have HZA := hid hza
    clear hza
    have HSP := hid hsp
    obtain ⟨un, hun⟩ : ∃ un, un = (pc.toList == [117, 110, 100, 111]) := ⟨_, rfl⟩
    have hun2 : un = decide (pc = ⟨#[117, 110, 100, 111]⟩) := by rw [hun, bt_of]
    have HUN := hid hun.symm
    have HUN2 := hid hun2
    clear hun hun2
    obtain ⟨cl, hcl⟩ : ∃ cl : Int, cl = (eNum pb.data.toList).1 := ⟨_, rfl⟩
    obtain ⟨cb, hcb⟩ : ∃ cb : Bool, cb = (eNum pb.data.toList).2 := ⟨_, rfl⟩
    obtain ⟨P, hP⟩ : ∃ P, P = w0.heap.size := ⟨_, rfl⟩
    obtain ⟨w1, hw1⟩ : ∃ w1, w1 = w0.alloc (.cells #[.string pa, .string pb, .string pc, .string pe] 9) := ⟨_, rfl⟩
    have hp1 : w1.heap[P]? = some (.cells #[.string pa, .string pb, .string pc, .string pe] 9) := by rw [hw1, hP]; exact heap_alloc_new w0 _
    have hb1 : Below w0.heap.size w0 w1 := by rw [hw1]; exact (Below.refl _ w0).alloc (Nat.le_refl _) _
    have q0 : w1.cell? ⟨P, 1, none⟩ = some (.string pb) := cellOf hp1 1
    have hnc : Calls Tryz.prog 62 #[.string pb] w1 fun e w' => e = .returned (.tuple #[.int .i64 cl, .bool cb]) ∧ Below w1.heap.size w1 w' := by
      rw [hcl, hcb]; exact eNum_call pb (by omega) w1 (hT0.below hb1) (hV0.below hb1)
    have HNC := hid hnc
    have HCL := hid hcl
    have HB1 := hid hb1
    have HP1 := hid hp1
    have HW1 := hid hw1
    have HP := hid hP
    have HPC := hid hp
    clear hw0 hN hz0 hb0 hT0 hV0 hN0 hp hsp hz5 hzb hcl hcb hP hw1 hp1 hb1 hnc hT hZ hNV
    go_enter Tryz.func31, Tryz.ntmps31
    go_upto_region 1 with (fail)
    rw [← HW.out, ← HN.out]
    go_upto_region 2 with (go_at_call 80; refine HSP.out.mono ?_; rintro e w1' ⟨rfl, rfl⟩)
    rw [← HW1.out, ← HP.out]
    go_upto_region 5 with (go_at_call 62; refine HNC.out.mono ?_; rintro e w2 ⟨rfl, hb2⟩; have HB2 := hid hb2; clear hb2)
    clear q0
    have hp2 : w2.heap[P]? = some (.cells #[.string pa, .string pb, .string pc, .string pe] 9) := heapExt HB2.out HP1.out
    have q0 : w2.cell? ⟨P, 3, none⟩ = some (.string pe) := cellOf hp2 3
    have hb02 : Below w0.heap.size w0 w2 := HB1.out.trans (HB2.out.mono HB1.out.size)
    have HPA := hid (parse_call pe w2 (by have := HZ5.out; omega) (HT0.out.below hb02) (HV0.out.below hb02))
    have HP2 := hid hp2
    have HB02 := hid hb02
    clear hp2 hb02
    have hst := fun (w3 : World) (c : VC) => st6New w3 #[.int .i64 0, .int .i64 0, .int .i64 0, .string ⟨#[]⟩, .slice none 0 0, .slice none 0 0] rfl (.int .i64 c.k) (.int .i64 c.i) (.int .i64 c.s) (.string c.t) (.slice c.la c.ll c.lc) (.slice c.fa c.fl c.fc) (by simp [Value.oneCell'])
    go_upto_region 6 with (go_at_call 81; refine HPA.out.mono ?_; rintro e w3 ⟨c, rfl, hv3, hb3⟩; have HV3 := hid hv3; have HB3 := hid hb3; clear hv3 hb3)
    clear q0 hst
    obtain ⟨T7, hT7⟩ : ∃ T7, T7 = w3.heap.size := ⟨_, rfl⟩
    obtain ⟨w4, hw4⟩ : ∃ w4, w4 = w3.alloc (.cells #[.int .i64 c.k, .int .i64 c.i, .int .i64 c.s, .string c.t, .slice c.la c.ll c.lc, .slice c.fa c.fl c.fc] 43) := ⟨_, rfl⟩
    rw [← hw4, ← hT7]
    have hp3 : w3.heap[P]? = some (.cells #[.string pa, .string pb, .string pc, .string pe] 9) := heapExt HB3.out HP2.out
    have h4p : w4.heap[P]? = some (.cells #[.string pa, .string pb, .string pc, .string pe] 9) := by rw [hw4]; exact heapAlloc _ hp3
    have h4t : w4.heap[T7]? = some (.cells #[.int .i64 c.k, .int .i64 c.i, .int .i64 c.s, .string c.t, .slice c.la c.ll c.lc, .slice c.fa c.fl c.fc] 43) := by rw [hw4, hT7]; exact heap_alloc_new w3 _
    have hb03 : Below w0.heap.size w0 w3 := HB02.out.trans (HB3.out.mono HB02.out.size)
    have hb4 : Below w0.heap.size w0 w4 := by rw [hw4]; exact hb03.alloc hb03.size _
    have hv4 : IsVal (fun i => w0.heap.size ≤ i ∧ i < w4.heap.size) w4 c (parF pe).1 := by
      rw [hw4]
      exact HV3.out.same fun i hi => ⟨⟨by have := HB02.out.size; omega, by rw [World.size_alloc]; omega⟩, heap_alloc_old w3 _ _ hi.2⟩
    have H4 := hid (show w4.heap[P]? = some (.cells #[.string pa, .string pb, .string pc, .string pe] 9) ∧ w4.heap[T7]? = some (.cells #[.int .i64 c.k, .int .i64 c.i, .int .i64 c.s, .string c.t, .slice c.la c.ll c.lc, .slice c.fa c.fl c.fc] 43) ∧ Below w0.heap.size w0 w4 ∧ IsVal (fun i => w0.heap.size ≤ i ∧ i < w4.heap.size) w4 c (parF pe).1 from ⟨h4p, h4t, hb4, hv4⟩)
    clear hT7 hw4 hp3 h4p h4t hb03 hb4 hv4
    have HC6 := hid (fun (w' : World) (h : Below w4.heap.size w4 w') => (show w'.cell? ⟨P, 0, none⟩ = some (.string pa) ∧ w'.cell? ⟨P, 2, none⟩ = some (.string pc) ∧ (loadCellsFrom ⟨T7, 0, none⟩ 0 6 #[]).run Tryz.prog w' = .ok #[.int .i64 c.k, .int .i64 c.i, .int .i64 c.s, .string c.t, .slice c.la c.ll c.lc, .slice c.fa c.fl c.fc] w' from ⟨cellOf (heapExt h H4.out.1) 0, cellOf (heapExt h H4.out.1) 2, ld6 (heapExt h H4.out.2.1)⟩))
    have hun := HUN.out
    have HPRE5 := hid (show Below w4.heap.size w4 w4.drew from (Below.refl _ _).drew)
    go_cut [10] (fun v wz => ∃ T, v = .pointer (some ⟨T, 0, none⟩) ∧ w4.heap.size ≤ T ∧ wz.heap[T]? = some (.cells #[.string pa, .int .i64 cl, .bool un, .int .i64 c.k, .int .i64 c.i, .int .i64 c.s, .string c.t, .slice c.la c.ll c.lc, .slice c.fa c.fl c.fc] 48) ∧ Below w4.heap.size w4 wz)
    case first =>
      refine wp_region_held_drew (S := (fun w' => Below w4.heap.size w4 w')) (by kernel_rfl) ((Below.refl _ _).drew) (fun hS => ?_)
      refine wpAnyH_take (i := 0) (oi := _) (v := ?_) rfl (by kernel_rfl) (by kernel_rfl) (by kernel_rfl) (fun _ _ _ h => h) (Or.inl ⟨by rfl, ?_⟩) hS ?_
      rotate_left
      · intro w' hw'
        have hcells := HC6.out w' hw'
        go_simp
        (try with_reducible rfl)
      simp only [Act.put, pt1, pt2, pt3, pt4, pt5, pt6]
      refine wpAnyH_take (i := 1) (oi := _) (v := ?_) rfl (by kernel_rfl) (by kernel_rfl) (by kernel_rfl) (fun _ _ _ h => h) (Or.inl ⟨by rfl, ?_⟩) hS ?_
      rotate_left
      · intro w' hw'
        have hcells := HC6.out w' hw'
        go_simp
        (try with_reducible rfl)
      simp only [Act.put, pt1, pt2, pt3, pt4, pt5, pt6]
      refine wpAnyH_take (i := 2) (oi := _) (v := ?_) rfl (by kernel_rfl) (by kernel_rfl) (by kernel_rfl) (fun _ _ _ h => h) (Or.inl ⟨by rfl, ?_⟩) hS ?_
      rotate_left
      · intro w' hw'
        have hcells := HC6.out w' hw'
        go_simp
        (try with_reducible rfl)
      simp only [Act.put, pt1, pt2, pt3, pt4, pt5, pt6]
      refine wpAnyH_take (i := 3) (oi := _) (v := ?_) rfl (by kernel_rfl) (by kernel_rfl) (by kernel_rfl) (fun _ _ _ h => h) (Or.inl ⟨by rfl, ?_⟩) hS ?_
      rotate_left
      · intro w' hw'
        have hcells := HC6.out w' hw'
        go_simp
        (try with_reducible rfl)
      simp only [Act.put, pt1, pt2, pt3, pt4, pt5, pt6]
      refine wpAnyH_take (i := 4) (oi := _) (v := ?_) rfl (by kernel_rfl) (by kernel_rfl) (by kernel_rfl) (fun _ _ _ h => h) (Or.inl ⟨by rfl, ?_⟩) hS ?_
      rotate_left
      · intro w' hw'
        have hcells := HC6.out w' hw'
        go_simp
        (try with_reducible rfl)
      simp only [Act.put, pt1, pt2, pt3, pt4, pt5, pt6]
      refine wpAnyH_take (i := 5) (oi := _) (v := ?_) rfl (by kernel_rfl) (by kernel_rfl) (by kernel_rfl) (fun _ _ _ h => h) (Or.inl ⟨by rfl, ?_⟩) hS ?_
      rotate_left
      · intro w' hw'
        have hcells := HC6.out w' hw'
        go_simp
        (try with_reducible rfl)
      simp only [Act.put, pt1, pt2, pt3, pt4, pt5, pt6]
      refine wpAnyH_take (i := 6) (oi := _) (v := ?_) rfl (by kernel_rfl) (by kernel_rfl) (by kernel_rfl) (fun _ _ _ h => h) (Or.inl ⟨by rfl, ?_⟩) hS ?_
      rotate_left
      · intro w' hw'
        have hcells := HC6.out w' hw'
        go_simp
        (try with_reducible rfl)
      simp only [Act.put, pt1, pt2, pt3, pt4, pt5, pt6]
      refine wpAnyH_take (i := 10) (oi := _) (v := ?_) rfl (by kernel_rfl) (by kernel_rfl) (by kernel_rfl) (fun _ _ _ h => h) (Or.inl ⟨by rfl, ?_⟩) hS ?_
      rotate_left
      · intro w' hw'
        have hcells := HC6.out w' hw'
        go_simp
        (try with_reducible rfl)
      simp only [Act.put, pt1, pt2, pt3, pt4, pt5, pt6]
      refine wpAnyH_ready (rs := [7, 12]) (by kernel_rfl) (by simp) ?_
      refine AllReadyH.cons (o := _) rfl (fun K hK => ?_) ?_
      · go_simp; go_at_call 77; refine (doWords_call _).mono ?_
        rintro e w5 ⟨rfl, hb5⟩
        have HPRE6 := hid (show Below w4.heap.size w4 w5 from hS.trans (hb5.mono hS.size))
        refine hK.out _ _ (HPRE6.out) (fun hS => ?_)
        clear hK K
        (try simp only [Act.put, pt1, pt2, pt3, pt4, pt5, pt6])
        refine wpAnyH_take (i := 8) (oi := _) (v := ?_) rfl (by kernel_rfl) (by kernel_rfl) (by kernel_rfl) (fun _ _ _ h => h) (Or.inl ⟨by rfl, ?_⟩) hS ?_
        rotate_left
        · intro w' hw'
          have hcells := HC6.out w' hw'
          go_simp
          (try with_reducible rfl)
        simp only [Act.put, pt1, pt2, pt3, pt4, pt5, pt6]
        refine wpAnyH_take (i := 9) (oi := _) (v := ?_) rfl (by kernel_rfl) (by kernel_rfl) (by kernel_rfl) (fun _ _ _ h => h) (Or.inl ⟨by rfl, ?_⟩) hS ?_
        rotate_left
        · intro w' hw'
          have hcells := HC6.out w' hw'
          go_simp
          (try with_reducible rfl)
        simp only [Act.put, pt1, pt2, pt3, pt4, pt5, pt6]
        refine wpAnyH_take (i := 11) (oi := _) (v := ?_) rfl (by kernel_rfl) (by kernel_rfl) (by kernel_rfl) (fun _ _ _ h => h) (Or.inl ⟨by rfl, ?_⟩) hS ?_
        rotate_left
        · intro w' hw'
          have hcells := HC6.out w' hw'
          go_simp
          (try with_reducible rfl)
        simp only [Act.put, pt1, pt2, pt3, pt4, pt5, pt6]
        refine wpAnyH_ready (rs := [12]) (by kernel_rfl) (by simp) ?_
        refine AllReadyH.cons (o := _) rfl (fun K hK => ?_) AllReadyH.nil
        go_simp
        refine hK.out _ _ (hS.trans (((Below.refl _ _).alloc (Nat.le_refl _) _).mono hS.size)) (fun hS => ?_)
        clear hK K
        (try simp only [Act.put, pt1, pt2, pt3, pt4, pt5, pt6])
        refine wpAnyH_ready (rs := [13]) (by kernel_rfl) (by simp) ?_
        refine AllReadyH.cons (o := _) rfl (fun K hK => ?_) AllReadyH.nil
        have hst9 := stNew w5 48 #[.string ⟨#[]⟩, .int .i64 0, .bool false, .int .i64 0, .int .i64 0, .int .i64 0, .string ⟨#[]⟩, .slice none 0 0, .slice none 0 0] [.string pa, .int .i64 cl, .bool un, .int .i64 c.k, .int .i64 c.i, .int .i64 c.s, .string c.t, .slice c.la c.ll c.lc, .slice c.fa c.fl c.fc] infoT4 rfl (by simp [Value.oneCell'])
        (try simp only [World.size_drew] at hst9)
        have HA9 := hid (show w4.heap.size ≤ w5.heap.size from (show Below w4.heap.size w4 w5 from HPRE6.out).size)
        go_simp
        refine hK.out _ _ ((HPRE6.out).trans (((Below.refl _ _).alloc (Nat.le_refl _) _).mono HA9.out)) (fun hS => ?_)
        clear hK K
        (try simp only [Act.put, pt1, pt2, pt3, pt4, pt5, pt6])
        refine wpAnyH_done (by kernel_rfl) ?_ _
        (try dsimp only)
        have HS2 := hid hS
        clear hS
        go_wp2
        go_meet
        exact ⟨_, rfl, HA9.out, heap_alloc_new _ _, HS2.out⟩
      refine AllReadyH.cons (o := _) rfl (fun K hK => ?_) AllReadyH.nil
      go_simp
      refine hK.out _ _ (hS.trans (((Below.refl _ _).alloc (Nat.le_refl _) _).mono hS.size)) (fun hS => ?_)
      clear hK K
      (try simp only [Act.put, pt1, pt2, pt3, pt4, pt5, pt6])
      refine wpAnyH_ready (rs := [7]) (by kernel_rfl) (by simp) ?_
      refine AllReadyH.cons (o := _) rfl (fun K hK => ?_) AllReadyH.nil
      go_simp; go_at_call 77; refine (doWords_call _).mono ?_
      rintro e w5 ⟨rfl, hb5⟩
      have HPRE6 := hid (show Below w4.heap.size w4 w5 from hS.trans (hb5.mono hS.size))
      have HZ9_6 := hid (show w5.heap[w4.drew.heap.size]? = some (.cells #[.string ⟨#[]⟩, .int .i64 0, .bool false, .int .i64 0, .int .i64 0, .int .i64 0, .string ⟨#[]⟩, .slice none 0 0, .slice none 0 0] 48) from heapExt hb5 (heap_alloc_new w4.drew _))
      have HA9_6 := hid (show w4.heap.size ≤ w4.drew.heap.size from (show Below w4.heap.size w4 w4.drew from HPRE5.out).size)
      refine hK.out _ _ (HPRE6.out) (fun hS => ?_)
      clear hK K
      (try simp only [Act.put, pt1, pt2, pt3, pt4, pt5, pt6])
      refine wpAnyH_take (i := 8) (oi := _) (v := ?_) rfl (by kernel_rfl) (by kernel_rfl) (by kernel_rfl) (fun _ _ _ h => h) (Or.inl ⟨by rfl, ?_⟩) hS ?_
      rotate_left
      · intro w' hw'
        have hcells := HC6.out w' hw'
        go_simp
        (try with_reducible rfl)
      simp only [Act.put, pt1, pt2, pt3, pt4, pt5, pt6]
      refine wpAnyH_take (i := 9) (oi := _) (v := ?_) rfl (by kernel_rfl) (by kernel_rfl) (by kernel_rfl) (fun _ _ _ h => h) (Or.inl ⟨by rfl, ?_⟩) hS ?_
      rotate_left
      · intro w' hw'
        have hcells := HC6.out w' hw'
        go_simp
        (try with_reducible rfl)
      simp only [Act.put, pt1, pt2, pt3, pt4, pt5, pt6]
      refine wpAnyH_take (i := 11) (oi := _) (v := ?_) rfl (by kernel_rfl) (by kernel_rfl) (by kernel_rfl) (fun _ _ _ h => h) (Or.inl ⟨by rfl, ?_⟩) hS ?_
      rotate_left
      · intro w' hw'
        have hcells := HC6.out w' hw'
        go_simp
        (try with_reducible rfl)
      simp only [Act.put, pt1, pt2, pt3, pt4, pt5, pt6]
      refine wpAnyH_ready (rs := [13]) (by kernel_rfl) (by simp) ?_
      refine AllReadyH.cons (o := _) rfl (fun K hK => ?_) AllReadyH.nil
      have hz9 : w5.heap[w4.drew.heap.size]? = some (.cells #[.string ⟨#[]⟩, .int .i64 0, .bool false, .int .i64 0, .int .i64 0, .int .i64 0, .string ⟨#[]⟩, .slice none 0 0, .slice none 0 0] 48) := HZ9_6.out
      have HZ9 := hid hz9
      have HA9 := hid HA9_6.out
      have hst9 := stOld (P := Tryz.prog) [.string pa, .int .i64 cl, .bool un, .int .i64 c.k, .int .i64 c.i, .int .i64 c.s, .string c.t, .slice c.la c.ll c.lc, .slice c.fa c.fl c.fc] hz9 rfl (by simp [Value.oneCell'])
      (try simp only [World.size_drew] at hst9)
      clear hz9
      go_simp
      refine hK.out _ _ (hS.trans ((setRow_below w5 w4.drew.heap.size _).mono HA9.out)) (fun hS => ?_)
      clear hK K
      (try simp only [Act.put, pt1, pt2, pt3, pt4, pt5, pt6])
      refine wpAnyH_done (by kernel_rfl) ?_ _
      (try dsimp only)
      have HS2 := hid hS
      clear hS
      go_wp2
      go_meet
      exact ⟨_, rfl, HA9.out, setRow_heap w5 _ _ _ _ (0, 0) HZ9.out, HS2.out⟩
    case rest =>
    obtain ⟨T, rfl, hTa, hTz, hTb⟩ := hcut
    obtain ⟨wz, hwz⟩ : ∃ wz, wz = wc := ⟨_, rfl⟩
    rw [← hwz] at hTz hTb ⊢
    clear hwz hun HPRE5
    have hl9 : (loadCellsFrom ⟨T, 0, none⟩ 0 9 #[]).run Tryz.prog wz = .ok #[.string pa, .int .i64 cl, .bool un, .int .i64 c.k, .int .i64 c.i, .int .i64 c.s, .string c.t, .slice c.la c.ll c.lc, .slice c.fa c.fl c.fc] wz := ldAll (P := Tryz.prog) (vs := [.string pa, .int .i64 cl, .bool un, .int .i64 c.k, .int .i64 c.i, .int .i64 c.s, .string c.t, .slice c.la c.ll c.lc, .slice c.fa c.fl c.fc]) hTz
    have hbz : Below w0.heap.size w0 wz := H4.out.2.2.1.trans (hTb.mono H4.out.2.2.1.size)
    have hbwz : Below w.heap.size w wz := by rw [← HN.out]; exact HB0.out.trans (hbz.mono (by have := HN0.out; omega))
    have hvz : IsVal (fun i => w0.heap.size ≤ i ∧ i < wz.heap.size) wz c (parF pe).1 := H4.out.2.2.2.same fun i hi => ⟨⟨hi.1, by have := hTb.size; omega⟩, hTb.block i hi.2⟩
    have htc := reqT_call pa cl un c (parF pe).1 wz (hvz.same fun i hi => ⟨hi.2, rfl⟩) (HT.out.below hbwz) (HZT.out.below hbwz)
    obtain ⟨tx, htx⟩ : ∃ tx, tx = fldF pa cl (parF pe).1 [wdB un] := ⟨_, rfl⟩
    have htc' : Calls Tryz.prog 27 #[.agg #[.string pa, .int .i64 cl, .bool un, .int .i64 c.k, .int .i64 c.i, .int .i64 c.s, .string c.t, .slice c.la c.ll c.lc, .slice c.fa c.fl c.fc]] wz fun e w' => e = .returned (.tuple #[.string tx.1, .int .i64 tx.2]) ∧ Below wz.heap.size wz w' := by rw [htx]; exact htc
    have HTC := hid htc'
    have HTX := hid htx
    have HZZ := hid (show Below w0.heap.size w0 wz ∧ IsVal (fun i => w0.heap.size ≤ i ∧ i < wz.heap.size) wz c (parF pe).1 ∧ wz.heap[T]? = some (.cells #[.string pa, .int .i64 cl, .bool un, .int .i64 c.k, .int .i64 c.i, .int .i64 c.s, .string c.t, .slice c.la c.ll c.lc, .slice c.fa c.fl c.fc] 48) ∧ N < T ∧ Below N w wz from ⟨hbz, hvz, hTz, by have := H4.out.2.2.1.size; have := HN0.out; omega, by rw [HN.out]; exact hbwz⟩)
    clear hTa hTz hTb hbz hbwz hvz htc htc' htx
    obtain ⟨pf, hpf⟩ : ∃ pf, pf = (parF pe).2.2 := ⟨_, rfl⟩
    have HPF := hid hpf
    rw [← hpf]
    clear hpf
    go_upto_region 8 with (go_at_call 27; refine HTC.out.mono ?_; rintro e w8 ⟨rfl, hb8⟩; have HB8 := hid hb8; clear hb8)
    clear hl9
    have h8n : w8.heap[N]? = some (.cells #[.string ⟨#[]⟩, .int .i64 0, .bool false, .int .i64 0, .int .i64 0, .int .i64 0, .string ⟨#[]⟩, .slice none 0 0, .slice none 0 0] 48) := heapExt HB8.out (heapExt HZZ.out.1 HZ0.out)
    have h8t : w8.heap[T]? = some (.cells #[.string pa, .int .i64 cl, .bool un, .int .i64 c.k, .int .i64 c.i, .int .i64 c.s, .string c.t, .slice c.la c.ll c.lc, .slice c.fa c.fl c.fc] 48) := heapExt HB8.out HZZ.out.2.2.1
    have hl8 : (loadCellsFrom ⟨T, 0, none⟩ 0 9 #[]).run Tryz.prog w8 = .ok #[.string pa, .int .i64 cl, .bool un, .int .i64 c.k, .int .i64 c.i, .int .i64 c.s, .string c.t, .slice c.la c.ll c.lc, .slice c.fa c.fl c.fc] w8 := ldAll (P := Tryz.prog) (vs := [.string pa, .int .i64 cl, .bool un, .int .i64 c.k, .int .i64 c.i, .int .i64 c.s, .string c.t, .slice c.la c.ll c.lc, .slice c.fa c.fl c.fc]) h8t
    obtain ⟨hsR, hlR⟩ := HST.out w8 _ rfl [.string pa, .int .i64 cl, .bool un, .int .i64 c.k, .int .i64 c.i, .int .i64 c.s, .string c.t, .slice c.la c.ll c.lc, .slice c.fa c.fl c.fc] rfl (by simp [Value.oneCell']) h8n
    obtain ⟨hsZ, hlZ⟩ := HST.out w8 _ rfl [.string ⟨#[]⟩, .int .i64 0, .bool false, .int .i64 0, .int .i64 0, .int .i64 0, .string ⟨#[]⟩, .slice none 0 0, .slice none 0 0] rfl (by simp [Value.oneCell']) h8n
    have HBW := hid (show Below N w w8 from HZZ.out.2.2.2.2.trans (HB8.out.mono (by have := HZZ.out.1.size; have := HN0.out; omega)))
    have HV8 := hid (show IsVal (fun i => w0.heap.size ≤ i ∧ i < w8.heap.size) w8 c (parF pe).1 from HZZ.out.2.1.same fun i hi => ⟨⟨hi.1, by have := HB8.out.size; omega⟩, HB8.out.block i hi.2⟩)
    clear h8n h8t
    by_cases h1 : pf = 0
    · have g1 : (pf != 0) = false := by simp [h1]
      have H1 := hid h1
      clear h1
      by_cases h2 : tx.2 = 0
      · have g2 : (tx.2 != 0) = false := by simp [h2]
        have H2 := hid h2
        clear h2
        by_cases h3 : tx.1 = s
        · have g3 : (tx.1.toList != s.toList) = false := by rw [h3]; simp
          have g3' : (tx.1.toList == s.toList) = true := by rw [h3]; simp
          have H3 := hid h3
          clear h3 hsZ hlZ
          go_wp2
          refine bodyPost_ret (v := .tuple #[.agg #[.string pa, .int .i64 cl, .bool un, .int .i64 c.k, .int .i64 c.i, .int .i64 c.s, .string c.t, .slice c.la c.ll c.lc, .slice c.fa c.fl c.fc], .int .i64 0]) (by simp [results, Tryz.results31, go_sem, hlR]) rfl ?_
          have HSPC := hid (show pReq s = ((pa, cl, un, (parF pe).1), 0) by unfold pReq; rw [HPC.out]; dsimp only; rw [← HCL.out, ← HUN2.out, ← HTX.out, ← HPF.out, if_neg (by intro h; rcases h with h | h | h <;> first | exact h H1.out | exact h H2.out | exact h H3.out)])
          rw [HSPC.out]
          exact ⟨c, rfl, HV8.out.same fun i hi => ⟨⟨by have := HN0.out; omega, by rw [setRow_size]; exact hi.2⟩, setRow_other w8 N i _ (by have := HN0.out; omega)⟩, HBW.out.trans (setRow_below w8 N _)⟩
        · have g3 : (tx.1.toList != s.toList) = true := by rw [bne, bList]; simp [h3]
          have g3' : (tx.1.toList == s.toList) = false := by rw [bList]; simp [h3]
          have HBAD := hid (show pf ≠ 0 ∨ tx.2 ≠ 0 ∨ tx.1 ≠ s from .inr (.inr h3))
          clear h3 hsR hlR
          go_wp2
          refine bodyPost_ret (v := .tuple #[.agg #[.string ⟨#[]⟩, .int .i64 0, .bool false, .int .i64 0, .int .i64 0, .int .i64 0, .string ⟨#[]⟩, .slice none 0 0, .slice none 0 0], .int .i64 3]) (by simp [results, Tryz.results31, go_sem, hlZ]) rfl ?_
          have HSPC := hid (show pReq s = ((⟨#[]⟩, 0, false, nulV), 3) by unfold pReq; rw [HPC.out]; dsimp only; rw [← HCL.out, ← HUN2.out, ← HTX.out, ← HPF.out, if_pos (HBAD.out)])
          rw [HSPC.out]
          exact ⟨⟨0, 0, 0, ⟨#[]⟩, none, 0, 0, none, 0, 0⟩, rfl, leaf_val 0 0 (by simp [I64]) (by simp [I64]), HBW.out.trans (setRow_below w8 N _)⟩
      · have g2 : (tx.2 != 0) = true := by simp [h2]
        have HBAD := hid (show pf ≠ 0 ∨ tx.2 ≠ 0 ∨ tx.1 ≠ s from .inr (.inl h2))
        clear h2 hsR hlR
        go_wp2
        refine bodyPost_ret (v := .tuple #[.agg #[.string ⟨#[]⟩, .int .i64 0, .bool false, .int .i64 0, .int .i64 0, .int .i64 0, .string ⟨#[]⟩, .slice none 0 0, .slice none 0 0], .int .i64 3]) (by simp [results, Tryz.results31, go_sem, hlZ]) rfl ?_
        have HSPC := hid (show pReq s = ((⟨#[]⟩, 0, false, nulV), 3) by unfold pReq; rw [HPC.out]; dsimp only; rw [← HCL.out, ← HUN2.out, ← HTX.out, ← HPF.out, if_pos (HBAD.out)])
        rw [HSPC.out]
        exact ⟨⟨0, 0, 0, ⟨#[]⟩, none, 0, 0, none, 0, 0⟩, rfl, leaf_val 0 0 (by simp [I64]) (by simp [I64]), HBW.out.trans (setRow_below w8 N _)⟩
    · have g1 : (pf != 0) = true := by simp [h1]
      have HBAD := hid (show pf ≠ 0 ∨ tx.2 ≠ 0 ∨ tx.1 ≠ s from .inl h1)
      clear h1 hsR hlR
      go_wp2
      refine bodyPost_ret (v := .tuple #[.agg #[.string ⟨#[]⟩, .int .i64 0, .bool false, .int .i64 0, .int .i64 0, .int .i64 0, .string ⟨#[]⟩, .slice none 0 0, .slice none 0 0], .int .i64 3]) (by simp [results, Tryz.results31, go_sem, hlZ]) rfl ?_
      have HSPC := hid (show pReq s = ((⟨#[]⟩, 0, false, nulV), 3) by unfold pReq; rw [HPC.out]; dsimp only; rw [← HCL.out, ← HUN2.out, ← HTX.out, ← HPF.out, if_pos (HBAD.out)])
      rw [HSPC.out]
      exact ⟨⟨0, 0, 0, ⟨#[]⟩, none, 0, 0, none, 0, 0⟩, rfl, leaf_val 0 0 (by simp [I64]) (by simp [I64]), HBW.out.trans (setRow_below w8 N _)⟩
  · have HSP := hid hsp
    have HPC := hid hp
    clear hw0 hN hz0 hb0 hT0 hV0 hN0 hp hsp hT hZ hNV
    go_enter Tryz.func31, Tryz.ntmps31
    go_upto_region 1 with (fail)
    rw [← HW.out, ← HN.out]
    go_upto_region 2 with (go_at_call 80; refine HSP.out.mono ?_; rintro e w1 ⟨pn, pk, hpn, rfl, hb1⟩; have HB1 := hid hb1; clear hb1)
    have g1 : ((pn : Int) < 4) := by omega
    have h1n : w1.heap[N]? = some (.cells #[.string ⟨#[]⟩, .int .i64 0, .bool false, .int .i64 0, .int .i64 0, .int .i64 0, .string ⟨#[]⟩, .slice none 0 0, .slice none 0 0] 48) := heapExt HB1.out HZ0.out
    obtain ⟨hsZ, hlZ⟩ := HST.out w1 _ rfl [.string ⟨#[]⟩, .int .i64 0, .bool false, .int .i64 0, .int .i64 0, .int .i64 0, .string ⟨#[]⟩, .slice none 0 0, .slice none 0 0] rfl (by simp [Value.oneCell']) h1n
    have HBW := hid (show Below N w w1 from HB0.out.trans (HB1.out.mono (by have := HN0.out; omega)))
    clear h1n hpn
    go_wp2
    refine bodyPost_ret (v := .tuple #[.agg #[.string ⟨#[]⟩, .int .i64 0, .bool false, .int .i64 0, .int .i64 0, .int .i64 0, .string ⟨#[]⟩, .slice none 0 0, .slice none 0 0], .int .i64 3]) (by simp [results, Tryz.results31, go_sem, hlZ]) rfl ?_
    have HSPC := hid (show pReq s = ((⟨#[]⟩, 0, false, nulV), 3) by
      unfold pReq
      split
      · rename_i h; rw [h] at HPC; exact absurd HPC.out (by simp)
      · rfl)
    rw [HSPC.out]
    exact ⟨⟨0, 0, 0, ⟨#[]⟩, none, 0, 0, none, 0, 0⟩, rfl, leaf_val 0 0 (by simp [I64]) (by simp [I64]), HBW.out.trans (setRow_below w1 N _)⟩
set_option maxRecDepth 100000 in
set_option maxHeartbeats 16000000 in
theorem pRep_call (s : ByteArray) (w : World) (hs : s.size ≤ 65536) (hT : Tabs w) (hZ : ZTab w) (hNV : NumVars w) :
    Calls Tryz.prog 33 #[.string s] w fun x w' => ∃ c : VC, x = .returned (.tuple #[.agg #[.string (pRep s).1.1, .int .i64 (pRep s).1.2.1, .bool (pRep s).1.2.2.1, .bool (pRep s).1.2.2.2.1, .int .i64 c.k, .int .i64 c.i, .int .i64 c.s, .string c.t, .slice c.la c.ll c.lc, .slice c.fa c.fl c.fc], .int .i64 (pRep s).2]) ∧ IsVal (fun i => w.heap.size ≤ i ∧ i < w'.heap.size) w' c (pRep s).1.2.2.2.2 ∧ Below w.heap.size w w' := by
  obtain ⟨N, hN⟩ : ∃ N, N = w.heap.size := ⟨_, rfl⟩
  obtain ⟨w0, hw0⟩ : ∃ w0, w0 = w.alloc (.cells #[.string ⟨#[]⟩, .int .i64 0, .bool false, .bool false, .int .i64 0, .int .i64 0, .int .i64 0, .string ⟨#[]⟩, .slice none 0 0, .slice none 0 0] 45) := ⟨_, rfl⟩
  have hz0 : w0.heap[N]? = some (.cells #[.string ⟨#[]⟩, .int .i64 0, .bool false, .bool false, .int .i64 0, .int .i64 0, .int .i64 0, .string ⟨#[]⟩, .slice none 0 0, .slice none 0 0] 45) := by rw [hw0, hN]; exact heap_alloc_new w _
  have hb0 : Below N w w0 := by rw [hw0, hN]; exact (Below.refl _ w).alloc (Nat.le_refl _) _
  have hT0 : Tabs w0 := hT.below (hN ▸ hb0)
  have hV0 : NumVars w0 := hNV.below (hN ▸ hb0)
  have HZT := hid hZ
  have HST := hid (fun (w2 : World) (cur : Array Value) (hc : cur.size = 10) (vs : List Value) (hv : vs.length = 10) (h1 : ∀ v ∈ vs, v.oneCell' = true) (hz : w2.heap[N]? = some (.cells cur 45)) =>
    (show (storeCells ⟨N, 0, none⟩ vs 0).run Tryz.prog w2 = .ok () (w2.setRow N vs.toArray) ∧ (loadCellsFrom ⟨N, 0, none⟩ 0 10 #[]).run Tryz.prog (w2.setRow N vs.toArray) = .ok vs.toArray (w2.setRow N vs.toArray) from
      ⟨stOld vs hz (by rw [hc, hv]) h1, by have := ldAll (P := Tryz.prog) (vs := vs) (setRow_heap w2 N _ vs.toArray 45 (0, 0) hz); rw [hv] at this; exact this⟩))
  rw [← hN]
  have HW := hid hw0
  have HN := hid hN
  have HZ0 := hid hz0
  have HB0 := hid hb0
  have HT0 := hid hT0
  have HV0 := hid hV0
  have HT := hid hT
  have hN0 : N < w0.heap.size := ltOf hz0
  have HN0 := hid hN0
  rcases split5 s w0 (by omega) hV0 with ⟨pa, pb, pc, pd, pe, hp, hsp⟩ | ⟨hp, hsp⟩
  · have hz5 : pe.size ≤ s.size := pieces_size 5 s pe (by rw [hp]; simp)
    have hzb : pb.size ≤ s.size := pieces_size 5 s pb (by rw [hp]; simp)
    have HZ5 := hid hz5
    have HZB := hid hzb
    have hza : pa.size ≤ s.size := pieces_size 5 s pa (by rw [hp]; simp)
    have HZA := hid hza
    clear hza
    have HSP := hid hsp
    obtain ⟨un, hun⟩ : ∃ un, un = (pc.toList == [117, 110, 100, 111]) := ⟨_, rfl⟩
    have hun2 : un = decide (pc = ⟨#[117, 110, 100, 111]⟩) := by rw [hun, bt_of]
    obtain ⟨dn, hdn⟩ : ∃ dn, dn = (pd.toList == [100, 111, 110, 101]) := ⟨_, rfl⟩
    have hdn2 : dn = decide (pd = ⟨#[100, 111, 110, 101]⟩) := by rw [hdn, bt_of]
    have HDN := hid hdn.symm
    have HDN2 := hid hdn2
    clear hdn hdn2
    have HUN := hid hun.symm
    have HUN2 := hid hun2
    clear hun hun2
    obtain ⟨cl, hcl⟩ : ∃ cl : Int, cl = (eNum pb.data.toList).1 := ⟨_, rfl⟩
    obtain ⟨cb, hcb⟩ : ∃ cb : Bool, cb = (eNum pb.data.toList).2 := ⟨_, rfl⟩
    obtain ⟨P, hP⟩ : ∃ P, P = w0.heap.size := ⟨_, rfl⟩
    obtain ⟨w1, hw1⟩ : ∃ w1, w1 = w0.alloc (.cells #[.string pa, .string pb, .string pc, .string pd, .string pe] 9) := ⟨_, rfl⟩
    have hp1 : w1.heap[P]? = some (.cells #[.string pa, .string pb, .string pc, .string pd, .string pe] 9) := by rw [hw1, hP]; exact heap_alloc_new w0 _
    have hb1 : Below w0.heap.size w0 w1 := by rw [hw1]; exact (Below.refl _ w0).alloc (Nat.le_refl _) _
    have q0 : w1.cell? ⟨P, 1, none⟩ = some (.string pb) := cellOf hp1 1
    have hnc : Calls Tryz.prog 62 #[.string pb] w1 fun e w' => e = .returned (.tuple #[.int .i64 cl, .bool cb]) ∧ Below w1.heap.size w1 w' := by
      rw [hcl, hcb]; exact eNum_call pb (by omega) w1 (hT0.below hb1) (hV0.below hb1)
    have HNC := hid hnc
    have HCL := hid hcl
    have HB1 := hid hb1
    have HP1 := hid hp1
    have HW1 := hid hw1
    have HP := hid hP
    have HPC := hid hp
    clear hw0 hN hz0 hb0 hT0 hV0 hN0 hp hsp hz5 hzb hcl hcb hP hw1 hp1 hb1 hnc hT hZ hNV
    go_enter Tryz.func33, Tryz.ntmps33
    go_upto_region 1 with (fail)
    rw [← HW.out, ← HN.out]
    go_upto_region 2 with (go_at_call 80; refine HSP.out.mono ?_; rintro e w1' ⟨rfl, rfl⟩)
    rw [← HW1.out, ← HP.out]
    go_upto_region 5 with (go_at_call 62; refine HNC.out.mono ?_; rintro e w2 ⟨rfl, hb2⟩; have HB2 := hid hb2; clear hb2)
    clear q0
    have hp2 : w2.heap[P]? = some (.cells #[.string pa, .string pb, .string pc, .string pd, .string pe] 9) := heapExt HB2.out HP1.out
    have q0 : w2.cell? ⟨P, 4, none⟩ = some (.string pe) := cellOf hp2 4
    have hb02 : Below w0.heap.size w0 w2 := HB1.out.trans (HB2.out.mono HB1.out.size)
    have HPA := hid (parse_call pe w2 (by have := HZ5.out; omega) (HT0.out.below hb02) (HV0.out.below hb02))
    have HP2 := hid hp2
    have HB02 := hid hb02
    clear hp2 hb02
    have hst := fun (w3 : World) (c : VC) => st6New w3 #[.int .i64 0, .int .i64 0, .int .i64 0, .string ⟨#[]⟩, .slice none 0 0, .slice none 0 0] rfl (.int .i64 c.k) (.int .i64 c.i) (.int .i64 c.s) (.string c.t) (.slice c.la c.ll c.lc) (.slice c.fa c.fl c.fc) (by simp [Value.oneCell'])
    go_upto_region 6 with (go_at_call 81; refine HPA.out.mono ?_; rintro e w3 ⟨c, rfl, hv3, hb3⟩; have HV3 := hid hv3; have HB3 := hid hb3; clear hv3 hb3)
    clear q0 hst
    obtain ⟨T7, hT7⟩ : ∃ T7, T7 = w3.heap.size := ⟨_, rfl⟩
    obtain ⟨w4, hw4⟩ : ∃ w4, w4 = w3.alloc (.cells #[.int .i64 c.k, .int .i64 c.i, .int .i64 c.s, .string c.t, .slice c.la c.ll c.lc, .slice c.fa c.fl c.fc] 43) := ⟨_, rfl⟩
    rw [← hw4, ← hT7]
    have hp3 : w3.heap[P]? = some (.cells #[.string pa, .string pb, .string pc, .string pd, .string pe] 9) := heapExt HB3.out HP2.out
    have h4p : w4.heap[P]? = some (.cells #[.string pa, .string pb, .string pc, .string pd, .string pe] 9) := by rw [hw4]; exact heapAlloc _ hp3
    have h4t : w4.heap[T7]? = some (.cells #[.int .i64 c.k, .int .i64 c.i, .int .i64 c.s, .string c.t, .slice c.la c.ll c.lc, .slice c.fa c.fl c.fc] 43) := by rw [hw4, hT7]; exact heap_alloc_new w3 _
    have hb03 : Below w0.heap.size w0 w3 := HB02.out.trans (HB3.out.mono HB02.out.size)
    have hb4 : Below w0.heap.size w0 w4 := by rw [hw4]; exact hb03.alloc hb03.size _
    have hv4 : IsVal (fun i => w0.heap.size ≤ i ∧ i < w4.heap.size) w4 c (parF pe).1 := by
      rw [hw4]
      exact HV3.out.same fun i hi => ⟨⟨by have := HB02.out.size; omega, by rw [World.size_alloc]; omega⟩, heap_alloc_old w3 _ _ hi.2⟩
    have H4 := hid (show w4.heap[P]? = some (.cells #[.string pa, .string pb, .string pc, .string pd, .string pe] 9) ∧ w4.heap[T7]? = some (.cells #[.int .i64 c.k, .int .i64 c.i, .int .i64 c.s, .string c.t, .slice c.la c.ll c.lc, .slice c.fa c.fl c.fc] 43) ∧ Below w0.heap.size w0 w4 ∧ IsVal (fun i => w0.heap.size ≤ i ∧ i < w4.heap.size) w4 c (parF pe).1 from ⟨h4p, h4t, hb4, hv4⟩)
    clear hT7 hw4 hp3 h4p h4t hb03 hb4 hv4
    have HC6 := hid (fun (w' : World) (h : Below w4.heap.size w4 w') => (show w'.cell? ⟨P, 0, none⟩ = some (.string pa) ∧ w'.cell? ⟨P, 2, none⟩ = some (.string pc) ∧ w'.cell? ⟨P, 3, none⟩ = some (.string pd) ∧ (loadCellsFrom ⟨T7, 0, none⟩ 0 6 #[]).run Tryz.prog w' = .ok #[.int .i64 c.k, .int .i64 c.i, .int .i64 c.s, .string c.t, .slice c.la c.ll c.lc, .slice c.fa c.fl c.fc] w' from ⟨cellOf (heapExt h H4.out.1) 0, cellOf (heapExt h H4.out.1) 2, cellOf (heapExt h H4.out.1) 3, ld6 (heapExt h H4.out.2.1)⟩))
    have hun := HUN.out
    have hdn := HDN.out
    have HPRE5 := hid (show Below w4.heap.size w4 w4.drew from (Below.refl _ _).drew)
    go_cut [10] (fun v wz => ∃ T, v = .pointer (some ⟨T, 0, none⟩) ∧ w4.heap.size ≤ T ∧ wz.heap[T]? = some (.cells #[.string pa, .int .i64 cl, .bool un, .bool dn, .int .i64 c.k, .int .i64 c.i, .int .i64 c.s, .string c.t, .slice c.la c.ll c.lc, .slice c.fa c.fl c.fc] 45) ∧ Below w4.heap.size w4 wz)
    case first =>
      refine wp_region_held_drew (S := (fun w' => Below w4.heap.size w4 w')) (by kernel_rfl) ((Below.refl _ _).drew) (fun hS => ?_)
      refine wpAnyH_take (i := 0) (oi := _) (v := ?_) rfl (by kernel_rfl) (by kernel_rfl) (by kernel_rfl) (fun _ _ _ h => h) (Or.inl ⟨by rfl, ?_⟩) hS ?_
      rotate_left
      · intro w' hw'
        have hcells := HC6.out w' hw'
        go_simp
        (try with_reducible rfl)
      simp only [Act.put, pt1, pt2, pt3, pt4, pt5, pt6]
      refine wpAnyH_take (i := 1) (oi := _) (v := ?_) rfl (by kernel_rfl) (by kernel_rfl) (by kernel_rfl) (fun _ _ _ h => h) (Or.inl ⟨by rfl, ?_⟩) hS ?_
      rotate_left
      · intro w' hw'
        have hcells := HC6.out w' hw'
        go_simp
        (try with_reducible rfl)
      simp only [Act.put, pt1, pt2, pt3, pt4, pt5, pt6]
      refine wpAnyH_take (i := 2) (oi := _) (v := ?_) rfl (by kernel_rfl) (by kernel_rfl) (by kernel_rfl) (fun _ _ _ h => h) (Or.inl ⟨by rfl, ?_⟩) hS ?_
      rotate_left
      · intro w' hw'
        have hcells := HC6.out w' hw'
        go_simp
        (try with_reducible rfl)
      simp only [Act.put, pt1, pt2, pt3, pt4, pt5, pt6]
      refine wpAnyH_take (i := 3) (oi := _) (v := ?_) rfl (by kernel_rfl) (by kernel_rfl) (by kernel_rfl) (fun _ _ _ h => h) (Or.inl ⟨by rfl, ?_⟩) hS ?_
      rotate_left
      · intro w' hw'
        have hcells := HC6.out w' hw'
        go_simp
        (try with_reducible rfl)
      simp only [Act.put, pt1, pt2, pt3, pt4, pt5, pt6]
      refine wpAnyH_take (i := 4) (oi := _) (v := ?_) rfl (by kernel_rfl) (by kernel_rfl) (by kernel_rfl) (fun _ _ _ h => h) (Or.inl ⟨by rfl, ?_⟩) hS ?_
      rotate_left
      · intro w' hw'
        have hcells := HC6.out w' hw'
        go_simp
        (try with_reducible rfl)
      simp only [Act.put, pt1, pt2, pt3, pt4, pt5, pt6]
      refine wpAnyH_take (i := 5) (oi := _) (v := ?_) rfl (by kernel_rfl) (by kernel_rfl) (by kernel_rfl) (fun _ _ _ h => h) (Or.inl ⟨by rfl, ?_⟩) hS ?_
      rotate_left
      · intro w' hw'
        have hcells := HC6.out w' hw'
        go_simp
        (try with_reducible rfl)
      simp only [Act.put, pt1, pt2, pt3, pt4, pt5, pt6]
      refine wpAnyH_take (i := 6) (oi := _) (v := ?_) rfl (by kernel_rfl) (by kernel_rfl) (by kernel_rfl) (fun _ _ _ h => h) (Or.inl ⟨by rfl, ?_⟩) hS ?_
      rotate_left
      · intro w' hw'
        have hcells := HC6.out w' hw'
        go_simp
        (try with_reducible rfl)
      simp only [Act.put, pt1, pt2, pt3, pt4, pt5, pt6]
      refine wpAnyH_take (i := 10) (oi := _) (v := ?_) rfl (by kernel_rfl) (by kernel_rfl) (by kernel_rfl) (fun _ _ _ h => h) (Or.inl ⟨by rfl, ?_⟩) hS ?_
      rotate_left
      · intro w' hw'
        have hcells := HC6.out w' hw'
        go_simp
        (try with_reducible rfl)
      simp only [Act.put, pt1, pt2, pt3, pt4, pt5, pt6]
      refine wpAnyH_take (i := 11) (oi := _) (v := ?_) rfl (by kernel_rfl) (by kernel_rfl) (by kernel_rfl) (fun _ _ _ h => h) (Or.inl ⟨by rfl, ?_⟩) hS ?_
      rotate_left
      · intro w' hw'
        have hcells := HC6.out w' hw'
        go_simp
        (try with_reducible rfl)
      simp only [Act.put, pt1, pt2, pt3, pt4, pt5, pt6]
      refine wpAnyH_take (i := 12) (oi := _) (v := ?_) rfl (by kernel_rfl) (by kernel_rfl) (by kernel_rfl) (fun _ _ _ h => h) (Or.inl ⟨by rfl, ?_⟩) hS ?_
      rotate_left
      · intro w' hw'
        have hcells := HC6.out w' hw'
        go_simp
        (try with_reducible rfl)
      simp only [Act.put, pt1, pt2, pt3, pt4, pt5, pt6]
      refine wpAnyH_take (i := 16) (oi := _) (v := ?_) rfl (by kernel_rfl) (by kernel_rfl) (by kernel_rfl) (fun _ _ _ h => h) (Or.inl ⟨by rfl, ?_⟩) hS ?_
      rotate_left
      · intro w' hw'
        have hcells := HC6.out w' hw'
        go_simp
        (try with_reducible rfl)
      simp only [Act.put, pt1, pt2, pt3, pt4, pt5, pt6]
      refine wpAnyH_ready (rs := [7, 18]) (by kernel_rfl) (by simp) ?_
      refine AllReadyH.cons (o := _) rfl (fun K hK => ?_) ?_
      · go_simp; go_at_call 77; refine (doWords_call _).mono ?_
        rintro e w5 ⟨rfl, hb5⟩
        have HPRE6 := hid (show Below w4.heap.size w4 w5 from hS.trans (hb5.mono hS.size))
        refine hK.out _ _ (HPRE6.out) (fun hS => ?_)
        clear hK K
        (try simp only [Act.put, pt1, pt2, pt3, pt4, pt5, pt6])
        refine wpAnyH_take (i := 8) (oi := _) (v := ?_) rfl (by kernel_rfl) (by kernel_rfl) (by kernel_rfl) (fun _ _ _ h => h) (Or.inl ⟨by rfl, ?_⟩) hS ?_
        rotate_left
        · intro w' hw'
          have hcells := HC6.out w' hw'
          go_simp
          (try with_reducible rfl)
        simp only [Act.put, pt1, pt2, pt3, pt4, pt5, pt6]
        refine wpAnyH_take (i := 9) (oi := _) (v := ?_) rfl (by kernel_rfl) (by kernel_rfl) (by kernel_rfl) (fun _ _ _ h => h) (Or.inl ⟨by rfl, ?_⟩) hS ?_
        rotate_left
        · intro w' hw'
          have hcells := HC6.out w' hw'
          go_simp
          (try with_reducible rfl)
        simp only [Act.put, pt1, pt2, pt3, pt4, pt5, pt6]
        refine wpAnyH_ready (rs := [13, 18]) (by kernel_rfl) (by simp) ?_
        refine AllReadyH.cons (o := _) rfl (fun K hK => ?_) ?_
        · go_simp; go_at_call 78; refine (doneWords_call _).mono ?_
          rintro e w6 ⟨rfl, hb6⟩
          have HPRE7 := hid (show Below w4.heap.size w4 w6 from hS.trans (hb6.mono hS.size))
          refine hK.out _ _ (HPRE7.out) (fun hS => ?_)
          clear hK K
          (try simp only [Act.put, pt1, pt2, pt3, pt4, pt5, pt6])
          refine wpAnyH_take (i := 14) (oi := _) (v := ?_) rfl (by kernel_rfl) (by kernel_rfl) (by kernel_rfl) (fun _ _ _ h => h) (Or.inl ⟨by rfl, ?_⟩) hS ?_
          rotate_left
          · intro w' hw'
            have hcells := HC6.out w' hw'
            go_simp
            (try with_reducible rfl)
          simp only [Act.put, pt1, pt2, pt3, pt4, pt5, pt6]
          refine wpAnyH_take (i := 15) (oi := _) (v := ?_) rfl (by kernel_rfl) (by kernel_rfl) (by kernel_rfl) (fun _ _ _ h => h) (Or.inl ⟨by rfl, ?_⟩) hS ?_
          rotate_left
          · intro w' hw'
            have hcells := HC6.out w' hw'
            go_simp
            (try with_reducible rfl)
          simp only [Act.put, pt1, pt2, pt3, pt4, pt5, pt6]
          refine wpAnyH_take (i := 17) (oi := _) (v := ?_) rfl (by kernel_rfl) (by kernel_rfl) (by kernel_rfl) (fun _ _ _ h => h) (Or.inl ⟨by rfl, ?_⟩) hS ?_
          rotate_left
          · intro w' hw'
            have hcells := HC6.out w' hw'
            go_simp
            (try with_reducible rfl)
          simp only [Act.put, pt1, pt2, pt3, pt4, pt5, pt6]
          refine wpAnyH_ready (rs := [18]) (by kernel_rfl) (by simp) ?_
          refine AllReadyH.cons (o := _) rfl (fun K hK => ?_) AllReadyH.nil
          go_simp
          refine hK.out _ _ (hS.trans (((Below.refl _ _).alloc (Nat.le_refl _) _).mono hS.size)) (fun hS => ?_)
          clear hK K
          (try simp only [Act.put, pt1, pt2, pt3, pt4, pt5, pt6])
          refine wpAnyH_ready (rs := [19]) (by kernel_rfl) (by simp) ?_
          refine AllReadyH.cons (o := _) rfl (fun K hK => ?_) AllReadyH.nil
          have hst9 := stNew w6 45 #[.string ⟨#[]⟩, .int .i64 0, .bool false, .bool false, .int .i64 0, .int .i64 0, .int .i64 0, .string ⟨#[]⟩, .slice none 0 0, .slice none 0 0] [.string pa, .int .i64 cl, .bool un, .bool dn, .int .i64 c.k, .int .i64 c.i, .int .i64 c.s, .string c.t, .slice c.la c.ll c.lc, .slice c.fa c.fl c.fc] infoT5 rfl (by simp [Value.oneCell'])
          (try simp only [World.size_drew] at hst9)
          have HA9 := hid (show w4.heap.size ≤ w6.heap.size from (show Below w4.heap.size w4 w6 from HPRE7.out).size)
          go_simp
          refine hK.out _ _ ((HPRE7.out).trans (((Below.refl _ _).alloc (Nat.le_refl _) _).mono HA9.out)) (fun hS => ?_)
          clear hK K
          (try simp only [Act.put, pt1, pt2, pt3, pt4, pt5, pt6])
          refine wpAnyH_done (by kernel_rfl) ?_ _
          (try dsimp only)
          have HS2 := hid hS
          clear hS
          go_wp2
          go_meet
          exact ⟨_, rfl, HA9.out, heap_alloc_new _ _, HS2.out⟩
        refine AllReadyH.cons (o := _) rfl (fun K hK => ?_) AllReadyH.nil
        go_simp
        refine hK.out _ _ (hS.trans (((Below.refl _ _).alloc (Nat.le_refl _) _).mono hS.size)) (fun hS => ?_)
        clear hK K
        (try simp only [Act.put, pt1, pt2, pt3, pt4, pt5, pt6])
        refine wpAnyH_ready (rs := [13]) (by kernel_rfl) (by simp) ?_
        refine AllReadyH.cons (o := _) rfl (fun K hK => ?_) AllReadyH.nil
        go_simp; go_at_call 78; refine (doneWords_call _).mono ?_
        rintro e w6 ⟨rfl, hb6⟩
        have HPRE7 := hid (show Below w4.heap.size w4 w6 from hS.trans (hb6.mono hS.size))
        have HZ9_7 := hid (show w6.heap[w5.heap.size]? = some (.cells #[.string ⟨#[]⟩, .int .i64 0, .bool false, .bool false, .int .i64 0, .int .i64 0, .int .i64 0, .string ⟨#[]⟩, .slice none 0 0, .slice none 0 0] 45) from heapExt hb6 (heap_alloc_new w5 _))
        have HA9_7 := hid (show w4.heap.size ≤ w5.heap.size from (show Below w4.heap.size w4 w5 from HPRE6.out).size)
        refine hK.out _ _ (HPRE7.out) (fun hS => ?_)
        clear hK K
        (try simp only [Act.put, pt1, pt2, pt3, pt4, pt5, pt6])
        refine wpAnyH_take (i := 14) (oi := _) (v := ?_) rfl (by kernel_rfl) (by kernel_rfl) (by kernel_rfl) (fun _ _ _ h => h) (Or.inl ⟨by rfl, ?_⟩) hS ?_
        rotate_left
        · intro w' hw'
          have hcells := HC6.out w' hw'
          go_simp
          (try with_reducible rfl)
        simp only [Act.put, pt1, pt2, pt3, pt4, pt5, pt6]
        refine wpAnyH_take (i := 15) (oi := _) (v := ?_) rfl (by kernel_rfl) (by kernel_rfl) (by kernel_rfl) (fun _ _ _ h => h) (Or.inl ⟨by rfl, ?_⟩) hS ?_
        rotate_left
        · intro w' hw'
          have hcells := HC6.out w' hw'
          go_simp
          (try with_reducible rfl)
        simp only [Act.put, pt1, pt2, pt3, pt4, pt5, pt6]
        refine wpAnyH_take (i := 17) (oi := _) (v := ?_) rfl (by kernel_rfl) (by kernel_rfl) (by kernel_rfl) (fun _ _ _ h => h) (Or.inl ⟨by rfl, ?_⟩) hS ?_
        rotate_left
        · intro w' hw'
          have hcells := HC6.out w' hw'
          go_simp
          (try with_reducible rfl)
        simp only [Act.put, pt1, pt2, pt3, pt4, pt5, pt6]
        refine wpAnyH_ready (rs := [19]) (by kernel_rfl) (by simp) ?_
        refine AllReadyH.cons (o := _) rfl (fun K hK => ?_) AllReadyH.nil
        have hz9 : w6.heap[w5.heap.size]? = some (.cells #[.string ⟨#[]⟩, .int .i64 0, .bool false, .bool false, .int .i64 0, .int .i64 0, .int .i64 0, .string ⟨#[]⟩, .slice none 0 0, .slice none 0 0] 45) := HZ9_7.out
        have HZ9 := hid hz9
        have HA9 := hid HA9_7.out
        have hst9 := stOld (P := Tryz.prog) [.string pa, .int .i64 cl, .bool un, .bool dn, .int .i64 c.k, .int .i64 c.i, .int .i64 c.s, .string c.t, .slice c.la c.ll c.lc, .slice c.fa c.fl c.fc] hz9 rfl (by simp [Value.oneCell'])
        (try simp only [World.size_drew] at hst9)
        clear hz9
        go_simp
        refine hK.out _ _ (hS.trans ((setRow_below w6 w5.heap.size _).mono HA9.out)) (fun hS => ?_)
        clear hK K
        (try simp only [Act.put, pt1, pt2, pt3, pt4, pt5, pt6])
        refine wpAnyH_done (by kernel_rfl) ?_ _
        (try dsimp only)
        have HS2 := hid hS
        clear hS
        go_wp2
        go_meet
        exact ⟨_, rfl, HA9.out, setRow_heap w6 _ _ _ _ (0, 0) HZ9.out, HS2.out⟩
      refine AllReadyH.cons (o := _) rfl (fun K hK => ?_) AllReadyH.nil
      go_simp
      refine hK.out _ _ (hS.trans (((Below.refl _ _).alloc (Nat.le_refl _) _).mono hS.size)) (fun hS => ?_)
      clear hK K
      (try simp only [Act.put, pt1, pt2, pt3, pt4, pt5, pt6])
      refine wpAnyH_ready (rs := [7]) (by kernel_rfl) (by simp) ?_
      refine AllReadyH.cons (o := _) rfl (fun K hK => ?_) AllReadyH.nil
      go_simp; go_at_call 77; refine (doWords_call _).mono ?_
      rintro e w5 ⟨rfl, hb5⟩
      have HPRE6 := hid (show Below w4.heap.size w4 w5 from hS.trans (hb5.mono hS.size))
      have HZ9_6 := hid (show w5.heap[w4.drew.heap.size]? = some (.cells #[.string ⟨#[]⟩, .int .i64 0, .bool false, .bool false, .int .i64 0, .int .i64 0, .int .i64 0, .string ⟨#[]⟩, .slice none 0 0, .slice none 0 0] 45) from heapExt hb5 (heap_alloc_new w4.drew _))
      have HA9_6 := hid (show w4.heap.size ≤ w4.drew.heap.size from (show Below w4.heap.size w4 w4.drew from HPRE5.out).size)
      refine hK.out _ _ (HPRE6.out) (fun hS => ?_)
      clear hK K
      (try simp only [Act.put, pt1, pt2, pt3, pt4, pt5, pt6])
      refine wpAnyH_take (i := 8) (oi := _) (v := ?_) rfl (by kernel_rfl) (by kernel_rfl) (by kernel_rfl) (fun _ _ _ h => h) (Or.inl ⟨by rfl, ?_⟩) hS ?_
      rotate_left
      · intro w' hw'
        have hcells := HC6.out w' hw'
        go_simp
        (try with_reducible rfl)
      simp only [Act.put, pt1, pt2, pt3, pt4, pt5, pt6]
      refine wpAnyH_take (i := 9) (oi := _) (v := ?_) rfl (by kernel_rfl) (by kernel_rfl) (by kernel_rfl) (fun _ _ _ h => h) (Or.inl ⟨by rfl, ?_⟩) hS ?_
      rotate_left
      · intro w' hw'
        have hcells := HC6.out w' hw'
        go_simp
        (try with_reducible rfl)
      simp only [Act.put, pt1, pt2, pt3, pt4, pt5, pt6]
      refine wpAnyH_ready (rs := [13]) (by kernel_rfl) (by simp) ?_
      refine AllReadyH.cons (o := _) rfl (fun K hK => ?_) AllReadyH.nil
      go_simp; go_at_call 78; refine (doneWords_call _).mono ?_
      rintro e w6 ⟨rfl, hb6⟩
      have HPRE7 := hid (show Below w4.heap.size w4 w6 from hS.trans (hb6.mono hS.size))
      have HZ9_7 := hid (show w6.heap[w4.drew.heap.size]? = some (.cells #[.string ⟨#[]⟩, .int .i64 0, .bool false, .bool false, .int .i64 0, .int .i64 0, .int .i64 0, .string ⟨#[]⟩, .slice none 0 0, .slice none 0 0] 45) from heapExt hb6 HZ9_6.out)
      have HA9_7 := hid HA9_6.out
      refine hK.out _ _ (HPRE7.out) (fun hS => ?_)
      clear hK K
      (try simp only [Act.put, pt1, pt2, pt3, pt4, pt5, pt6])
      refine wpAnyH_take (i := 14) (oi := _) (v := ?_) rfl (by kernel_rfl) (by kernel_rfl) (by kernel_rfl) (fun _ _ _ h => h) (Or.inl ⟨by rfl, ?_⟩) hS ?_
      rotate_left
      · intro w' hw'
        have hcells := HC6.out w' hw'
        go_simp
        (try with_reducible rfl)
      simp only [Act.put, pt1, pt2, pt3, pt4, pt5, pt6]
      refine wpAnyH_take (i := 15) (oi := _) (v := ?_) rfl (by kernel_rfl) (by kernel_rfl) (by kernel_rfl) (fun _ _ _ h => h) (Or.inl ⟨by rfl, ?_⟩) hS ?_
      rotate_left
      · intro w' hw'
        have hcells := HC6.out w' hw'
        go_simp
        (try with_reducible rfl)
      simp only [Act.put, pt1, pt2, pt3, pt4, pt5, pt6]
      refine wpAnyH_take (i := 17) (oi := _) (v := ?_) rfl (by kernel_rfl) (by kernel_rfl) (by kernel_rfl) (fun _ _ _ h => h) (Or.inl ⟨by rfl, ?_⟩) hS ?_
      rotate_left
      · intro w' hw'
        have hcells := HC6.out w' hw'
        go_simp
        (try with_reducible rfl)
      simp only [Act.put, pt1, pt2, pt3, pt4, pt5, pt6]
      refine wpAnyH_ready (rs := [19]) (by kernel_rfl) (by simp) ?_
      refine AllReadyH.cons (o := _) rfl (fun K hK => ?_) AllReadyH.nil
      have hz9 : w6.heap[w4.drew.heap.size]? = some (.cells #[.string ⟨#[]⟩, .int .i64 0, .bool false, .bool false, .int .i64 0, .int .i64 0, .int .i64 0, .string ⟨#[]⟩, .slice none 0 0, .slice none 0 0] 45) := HZ9_7.out
      have HZ9 := hid hz9
      have HA9 := hid HA9_7.out
      have hst9 := stOld (P := Tryz.prog) [.string pa, .int .i64 cl, .bool un, .bool dn, .int .i64 c.k, .int .i64 c.i, .int .i64 c.s, .string c.t, .slice c.la c.ll c.lc, .slice c.fa c.fl c.fc] hz9 rfl (by simp [Value.oneCell'])
      (try simp only [World.size_drew] at hst9)
      clear hz9
      go_simp
      refine hK.out _ _ (hS.trans ((setRow_below w6 w4.drew.heap.size _).mono HA9.out)) (fun hS => ?_)
      clear hK K
      (try simp only [Act.put, pt1, pt2, pt3, pt4, pt5, pt6])
      refine wpAnyH_done (by kernel_rfl) ?_ _
      (try dsimp only)
      have HS2 := hid hS
      clear hS
      go_wp2
      go_meet
      exact ⟨_, rfl, HA9.out, setRow_heap w6 _ _ _ _ (0, 0) HZ9.out, HS2.out⟩
    case rest =>
    obtain ⟨T, rfl, hTa, hTz, hTb⟩ := hcut
    obtain ⟨wz, hwz⟩ : ∃ wz, wz = wc := ⟨_, rfl⟩
    rw [← hwz] at hTz hTb ⊢
    clear hwz hun hdn HPRE5
    have hl9 : (loadCellsFrom ⟨T, 0, none⟩ 0 10 #[]).run Tryz.prog wz = .ok #[.string pa, .int .i64 cl, .bool un, .bool dn, .int .i64 c.k, .int .i64 c.i, .int .i64 c.s, .string c.t, .slice c.la c.ll c.lc, .slice c.fa c.fl c.fc] wz := ldAll (P := Tryz.prog) (vs := [.string pa, .int .i64 cl, .bool un, .bool dn, .int .i64 c.k, .int .i64 c.i, .int .i64 c.s, .string c.t, .slice c.la c.ll c.lc, .slice c.fa c.fl c.fc]) hTz
    have hbz : Below w0.heap.size w0 wz := H4.out.2.2.1.trans (hTb.mono H4.out.2.2.1.size)
    have hbwz : Below w.heap.size w wz := by rw [← HN.out]; exact HB0.out.trans (hbz.mono (by have := HN0.out; omega))
    have hvz : IsVal (fun i => w0.heap.size ≤ i ∧ i < wz.heap.size) wz c (parF pe).1 := H4.out.2.2.2.same fun i hi => ⟨⟨hi.1, by have := hTb.size; omega⟩, hTb.block i hi.2⟩
    have htc := repT_call pa cl un dn c (parF pe).1 wz (hvz.same fun i hi => ⟨hi.2, rfl⟩) (HT.out.below hbwz) (HZT.out.below hbwz)
    obtain ⟨tx, htx⟩ : ∃ tx, tx = fldF pa cl (parF pe).1 [wdB un, dnB dn] := ⟨_, rfl⟩
    have htc' : Calls Tryz.prog 28 #[.agg #[.string pa, .int .i64 cl, .bool un, .bool dn, .int .i64 c.k, .int .i64 c.i, .int .i64 c.s, .string c.t, .slice c.la c.ll c.lc, .slice c.fa c.fl c.fc]] wz fun e w' => e = .returned (.tuple #[.string tx.1, .int .i64 tx.2]) ∧ Below wz.heap.size wz w' := by rw [htx]; exact htc
    have HTC := hid htc'
    have HTX := hid htx
    have HZZ := hid (show Below w0.heap.size w0 wz ∧ IsVal (fun i => w0.heap.size ≤ i ∧ i < wz.heap.size) wz c (parF pe).1 ∧ wz.heap[T]? = some (.cells #[.string pa, .int .i64 cl, .bool un, .bool dn, .int .i64 c.k, .int .i64 c.i, .int .i64 c.s, .string c.t, .slice c.la c.ll c.lc, .slice c.fa c.fl c.fc] 45) ∧ N < T ∧ Below N w wz from ⟨hbz, hvz, hTz, by have := H4.out.2.2.1.size; have := HN0.out; omega, by rw [HN.out]; exact hbwz⟩)
    clear hTa hTz hTb hbz hbwz hvz htc htc' htx
    obtain ⟨pf, hpf⟩ : ∃ pf, pf = (parF pe).2.2 := ⟨_, rfl⟩
    have HPF := hid hpf
    rw [← hpf]
    clear hpf
    go_upto_region 8 with (go_at_call 28; refine HTC.out.mono ?_; rintro e w8 ⟨rfl, hb8⟩; have HB8 := hid hb8; clear hb8)
    clear hl9
    have h8n : w8.heap[N]? = some (.cells #[.string ⟨#[]⟩, .int .i64 0, .bool false, .bool false, .int .i64 0, .int .i64 0, .int .i64 0, .string ⟨#[]⟩, .slice none 0 0, .slice none 0 0] 45) := heapExt HB8.out (heapExt HZZ.out.1 HZ0.out)
    have h8t : w8.heap[T]? = some (.cells #[.string pa, .int .i64 cl, .bool un, .bool dn, .int .i64 c.k, .int .i64 c.i, .int .i64 c.s, .string c.t, .slice c.la c.ll c.lc, .slice c.fa c.fl c.fc] 45) := heapExt HB8.out HZZ.out.2.2.1
    have hl8 : (loadCellsFrom ⟨T, 0, none⟩ 0 10 #[]).run Tryz.prog w8 = .ok #[.string pa, .int .i64 cl, .bool un, .bool dn, .int .i64 c.k, .int .i64 c.i, .int .i64 c.s, .string c.t, .slice c.la c.ll c.lc, .slice c.fa c.fl c.fc] w8 := ldAll (P := Tryz.prog) (vs := [.string pa, .int .i64 cl, .bool un, .bool dn, .int .i64 c.k, .int .i64 c.i, .int .i64 c.s, .string c.t, .slice c.la c.ll c.lc, .slice c.fa c.fl c.fc]) h8t
    obtain ⟨hsR, hlR⟩ := HST.out w8 _ rfl [.string pa, .int .i64 cl, .bool un, .bool dn, .int .i64 c.k, .int .i64 c.i, .int .i64 c.s, .string c.t, .slice c.la c.ll c.lc, .slice c.fa c.fl c.fc] rfl (by simp [Value.oneCell']) h8n
    obtain ⟨hsZ, hlZ⟩ := HST.out w8 _ rfl [.string ⟨#[]⟩, .int .i64 0, .bool false, .bool false, .int .i64 0, .int .i64 0, .int .i64 0, .string ⟨#[]⟩, .slice none 0 0, .slice none 0 0] rfl (by simp [Value.oneCell']) h8n
    have HBW := hid (show Below N w w8 from HZZ.out.2.2.2.2.trans (HB8.out.mono (by have := HZZ.out.1.size; have := HN0.out; omega)))
    have HV8 := hid (show IsVal (fun i => w0.heap.size ≤ i ∧ i < w8.heap.size) w8 c (parF pe).1 from HZZ.out.2.1.same fun i hi => ⟨⟨hi.1, by have := HB8.out.size; omega⟩, HB8.out.block i hi.2⟩)
    clear h8n h8t
    by_cases h1 : pf = 0
    · have g1 : (pf != 0) = false := by simp [h1]
      have H1 := hid h1
      clear h1
      by_cases h2 : tx.2 = 0
      · have g2 : (tx.2 != 0) = false := by simp [h2]
        have H2 := hid h2
        clear h2
        by_cases h3 : tx.1 = s
        · have g3 : (tx.1.toList != s.toList) = false := by rw [h3]; simp
          have g3' : (tx.1.toList == s.toList) = true := by rw [h3]; simp
          have H3 := hid h3
          clear h3 hsZ hlZ
          go_wp2
          refine bodyPost_ret (v := .tuple #[.agg #[.string pa, .int .i64 cl, .bool un, .bool dn, .int .i64 c.k, .int .i64 c.i, .int .i64 c.s, .string c.t, .slice c.la c.ll c.lc, .slice c.fa c.fl c.fc], .int .i64 0]) (by simp [results, Tryz.results33, go_sem, hlR]) rfl ?_
          have HSPC := hid (show pRep s = ((pa, cl, un, dn, (parF pe).1), 0) by unfold pRep; rw [HPC.out]; dsimp only; rw [← HCL.out, ← HUN2.out, ← HDN2.out, ← HTX.out, ← HPF.out, if_neg (by intro h; rcases h with h | h | h <;> first | exact h H1.out | exact h H2.out | exact h H3.out)])
          rw [HSPC.out]
          exact ⟨c, rfl, HV8.out.same fun i hi => ⟨⟨by have := HN0.out; omega, by rw [setRow_size]; exact hi.2⟩, setRow_other w8 N i _ (by have := HN0.out; omega)⟩, HBW.out.trans (setRow_below w8 N _)⟩
        · have g3 : (tx.1.toList != s.toList) = true := by rw [bne, bList]; simp [h3]
          have g3' : (tx.1.toList == s.toList) = false := by rw [bList]; simp [h3]
          have HBAD := hid (show pf ≠ 0 ∨ tx.2 ≠ 0 ∨ tx.1 ≠ s from .inr (.inr h3))
          clear h3 hsR hlR
          go_wp2
          refine bodyPost_ret (v := .tuple #[.agg #[.string ⟨#[]⟩, .int .i64 0, .bool false, .bool false, .int .i64 0, .int .i64 0, .int .i64 0, .string ⟨#[]⟩, .slice none 0 0, .slice none 0 0], .int .i64 3]) (by simp [results, Tryz.results33, go_sem, hlZ]) rfl ?_
          have HSPC := hid (show pRep s = ((⟨#[]⟩, 0, false, false, nulV), 3) by unfold pRep; rw [HPC.out]; dsimp only; rw [← HCL.out, ← HUN2.out, ← HDN2.out, ← HTX.out, ← HPF.out, if_pos (HBAD.out)])
          rw [HSPC.out]
          exact ⟨⟨0, 0, 0, ⟨#[]⟩, none, 0, 0, none, 0, 0⟩, rfl, leaf_val 0 0 (by simp [I64]) (by simp [I64]), HBW.out.trans (setRow_below w8 N _)⟩
      · have g2 : (tx.2 != 0) = true := by simp [h2]
        have HBAD := hid (show pf ≠ 0 ∨ tx.2 ≠ 0 ∨ tx.1 ≠ s from .inr (.inl h2))
        clear h2 hsR hlR
        go_wp2
        refine bodyPost_ret (v := .tuple #[.agg #[.string ⟨#[]⟩, .int .i64 0, .bool false, .bool false, .int .i64 0, .int .i64 0, .int .i64 0, .string ⟨#[]⟩, .slice none 0 0, .slice none 0 0], .int .i64 3]) (by simp [results, Tryz.results33, go_sem, hlZ]) rfl ?_
        have HSPC := hid (show pRep s = ((⟨#[]⟩, 0, false, false, nulV), 3) by unfold pRep; rw [HPC.out]; dsimp only; rw [← HCL.out, ← HUN2.out, ← HDN2.out, ← HTX.out, ← HPF.out, if_pos (HBAD.out)])
        rw [HSPC.out]
        exact ⟨⟨0, 0, 0, ⟨#[]⟩, none, 0, 0, none, 0, 0⟩, rfl, leaf_val 0 0 (by simp [I64]) (by simp [I64]), HBW.out.trans (setRow_below w8 N _)⟩
    · have g1 : (pf != 0) = true := by simp [h1]
      have HBAD := hid (show pf ≠ 0 ∨ tx.2 ≠ 0 ∨ tx.1 ≠ s from .inl h1)
      clear h1 hsR hlR
      go_wp2
      refine bodyPost_ret (v := .tuple #[.agg #[.string ⟨#[]⟩, .int .i64 0, .bool false, .bool false, .int .i64 0, .int .i64 0, .int .i64 0, .string ⟨#[]⟩, .slice none 0 0, .slice none 0 0], .int .i64 3]) (by simp [results, Tryz.results33, go_sem, hlZ]) rfl ?_
      have HSPC := hid (show pRep s = ((⟨#[]⟩, 0, false, false, nulV), 3) by unfold pRep; rw [HPC.out]; dsimp only; rw [← HCL.out, ← HUN2.out, ← HDN2.out, ← HTX.out, ← HPF.out, if_pos (HBAD.out)])
      rw [HSPC.out]
      exact ⟨⟨0, 0, 0, ⟨#[]⟩, none, 0, 0, none, 0, 0⟩, rfl, leaf_val 0 0 (by simp [I64]) (by simp [I64]), HBW.out.trans (setRow_below w8 N _)⟩
  · have HSP := hid hsp
    have HPC := hid hp
    clear hw0 hN hz0 hb0 hT0 hV0 hN0 hp hsp hT hZ hNV
    go_enter Tryz.func33, Tryz.ntmps33
    go_upto_region 1 with (fail)
    rw [← HW.out, ← HN.out]
    go_upto_region 2 with (go_at_call 80; refine HSP.out.mono ?_; rintro e w1 ⟨pn, pk, hpn, rfl, hb1⟩; have HB1 := hid hb1; clear hb1)
    have g1 : ((pn : Int) < 5) := by omega
    have h1n : w1.heap[N]? = some (.cells #[.string ⟨#[]⟩, .int .i64 0, .bool false, .bool false, .int .i64 0, .int .i64 0, .int .i64 0, .string ⟨#[]⟩, .slice none 0 0, .slice none 0 0] 45) := heapExt HB1.out HZ0.out
    obtain ⟨hsZ, hlZ⟩ := HST.out w1 _ rfl [.string ⟨#[]⟩, .int .i64 0, .bool false, .bool false, .int .i64 0, .int .i64 0, .int .i64 0, .string ⟨#[]⟩, .slice none 0 0, .slice none 0 0] rfl (by simp [Value.oneCell']) h1n
    have HBW := hid (show Below N w w1 from HB0.out.trans (HB1.out.mono (by have := HN0.out; omega)))
    clear h1n hpn
    go_wp2
    refine bodyPost_ret (v := .tuple #[.agg #[.string ⟨#[]⟩, .int .i64 0, .bool false, .bool false, .int .i64 0, .int .i64 0, .int .i64 0, .string ⟨#[]⟩, .slice none 0 0, .slice none 0 0], .int .i64 3]) (by simp [results, Tryz.results33, go_sem, hlZ]) rfl ?_
    have HSPC := hid (show pRep s = ((⟨#[]⟩, 0, false, false, nulV), 3) by
      unfold pRep
      split
      · rename_i h; rw [h] at HPC; exact absurd HPC.out (by simp)
      · rfl)
    rw [HSPC.out]
    exact ⟨⟨0, 0, 0, ⟨#[]⟩, none, 0, 0, none, 0, 0⟩, rfl, leaf_val 0 0 (by simp [I64]) (by simp [I64]), HBW.out.trans (setRow_below w1 N _)⟩
end
end
section
open Go Go.RowKit Go.Shelf
set_option maxHeartbeats 8000000 in
theorem lNamed_call (s : ByteArray) (hsz : s.size ≤ 1000000) (w : World) : Calls Tryz.prog 133 #[.string s] w fun e w' => e = .returned (.bool (isNameB s)) ∧ w = w' := by
  go_enter Tryz.func133, Tryz.ntmps133
  go_wp2
  go_loopw [3] (fun i wr => ∃ k : Nat, wr = w ∧ k ≤ s.size ∧ i = .int .i64 k ∧ (∀ j (h : j < k) (hs : j < s.size), nmC s[j].toNat = true) ∧ (∀ h : 0 < s.size, 0 < k → 97 ≤ s[0].toNat ∧ s[0].toNat ≤ 122)) (fun i _ => s.size - (intOf i).toNat)
  case atStart => exact ⟨0, rfl, Nat.zero_le _, rfl, fun j h => absurd h (by omega), fun _ h => absurd h (by omega)⟩
  case round =>
    obtain ⟨k, rfl, hk, rfl, hall, hfst⟩ := hrel
    obtain ⟨wl, rfl⟩ : ∃ wl : World, wl = wr := ⟨_, rfl⟩
    have HALL := hid hall
    have HFST := hid hfst
    clear hall hfst
    by_cases hlt : k < s.size
    · have hlt' : (k : Int) < (s.size : Int) := by omega
      have hk0 : (0 : Int) ≤ (k : Int) := by omega
      obtain ⟨c, hc⟩ : ∃ c : Nat, s[k].toNat = c := ⟨_, rfl⟩
      have HC := hid hc
      have hcases : (97 ≤ c ∧ c ≤ 122) ∨ (k = 0 ∧ (c < 97 ∨ 122 < c)) ∨ (0 < k ∧ c = 95) ∨ (0 < k ∧ 48 ≤ c ∧ c ≤ 57) ∨ (0 < k ∧ c < 48) ∨ (0 < k ∧ 57 < c ∧ c < 97 ∧ c ≠ 95) ∨ (0 < k ∧ 122 < c) := by omega
      have HNX := hid (fun (hn : nmC c = true) (hf : 0 < k ∨ (97 ≤ c ∧ c ≤ 122)) => (show (∀ j (h : j < k + 1) (hs : j < s.size), nmC s[j].toNat = true) ∧ (∀ h : 0 < s.size, 0 < k + 1 → 97 ≤ s[0].toNat ∧ s[0].toNat ≤ 122) from
        ⟨fun j h hs => (Nat.lt_succ_iff_lt_or_eq.1 h).elim (fun h => HALL.out j h hs) (fun h => by subst h; rw [HC.out]; exact hn), fun h _ => by
          rcases Nat.eq_zero_or_pos k with h0 | h0
          · subst h0; rw [HC.out]; omega
          · exact HFST.out h h0⟩))
      have HBAD := hid (fun (hn : nmC c = false) => isNameB_bad k hlt (by rw [hc]; exact hn))
      have HBAD0 := hid (fun (h : k = 0) (hn : c < 97 ∨ 122 < c) => (show isNameB s = false from isNameB_first (by omega) (by subst h; rw [HC.out]; exact hn)))
      go_upto_region 5 with (fail)
      clear hc
      have Q : ∀ (a b : Bool), True := fun _ _ => trivial
      rcases hcases with h | h | h | h | h | h | h
      · have q1 : (97 : Int) ≤ (c : Int) := by omega
        have q2 : (c : Int) ≤ 122 := by omega
        have HN := hid (HNX.out (by simp [nmC]; omega) (.inr h))
        clear h Q
        go_wp2
        go_roundw
        case rel => exact ⟨k + 1, trivial, hlt, by go_num, HN.out.1, HN.out.2⟩
        case measure => simp [intOf]; omega
      · have HN := hid (HBAD0.out h.1 h.2)
        obtain ⟨rfl, h⟩ := h
        rcases h with h | h
        · have q1 : ¬ (97 : Int) ≤ (c : Int) := by omega
          have q3 : ¬ (0 : Int) < ((0 : Nat) : Int) := by omega
          clear h Q
          go_wp2
          go_ret
          exact ⟨retB HN.out.symm, rfl⟩
        · have q1 : (97 : Int) ≤ (c : Int) := by omega
          have q2 : ¬ (c : Int) ≤ 122 := by omega
          have q3 : ¬ (0 : Int) < ((0 : Nat) : Int) := by omega
          clear h Q
          go_wp2
          go_ret
          exact ⟨retB HN.out.symm, rfl⟩
      · have q1 : ¬ (97 : Int) ≤ (c : Int) := by omega
        have q3 : (0 : Int) < (k : Int) := by omega
        have q5 : (48 : Int) ≤ (c : Int) := by omega
        have q6 : ¬ (c : Int) ≤ 57 := by omega
        have q4 : ((c : Int) == 95) = true := by simp; omega
        have HN := hid (HNX.out (by simp [nmC]; omega) (.inl h.1))
        clear h Q
        go_wp2
        go_roundw
        case rel => exact ⟨k + 1, trivial, hlt, by go_num, HN.out.1, HN.out.2⟩
        case measure => simp [intOf]; omega
      · have q1 : ¬ (97 : Int) ≤ (c : Int) := by omega
        have q3 : (0 : Int) < (k : Int) := by omega
        have q5 : (48 : Int) ≤ (c : Int) := by omega
        have q6 : (c : Int) ≤ 57 := by omega
        have HN := hid (HNX.out (by simp [nmC]; omega) (.inl h.1))
        clear h Q
        go_wp2
        go_roundw
        case rel => exact ⟨k + 1, trivial, hlt, by go_num, HN.out.1, HN.out.2⟩
        case measure => simp [intOf]; omega
      · have q1 : ¬ (97 : Int) ≤ (c : Int) := by omega
        have q3 : (0 : Int) < (k : Int) := by omega
        have q5 : ¬ (48 : Int) ≤ (c : Int) := by omega
        have q4 : ((c : Int) == 95) = false := by simp; omega
        have HN := hid (HBAD.out (by simp [nmC]; omega))
        clear h Q
        go_wp2
        go_ret
        exact ⟨retB HN.out.symm, rfl⟩
      · have q1 : ¬ (97 : Int) ≤ (c : Int) := by omega
        have q3 : (0 : Int) < (k : Int) := by omega
        have q5 : (48 : Int) ≤ (c : Int) := by omega
        have q6 : ¬ (c : Int) ≤ 57 := by omega
        have q4 : ((c : Int) == 95) = false := by simp; omega
        have HN := hid (HBAD.out (by simp [nmC]; omega))
        clear h Q
        go_wp2
        go_ret
        exact ⟨retB HN.out.symm, rfl⟩
      · have q1 : (97 : Int) ≤ (c : Int) := by omega
        have q2 : ¬ (c : Int) ≤ 122 := by omega
        have q3 : (0 : Int) < (k : Int) := by omega
        have q5 : (48 : Int) ≤ (c : Int) := by omega
        have q6 : ¬ (c : Int) ≤ 57 := by omega
        have q4 : ((c : Int) == 95) = false := by simp; omega
        have HN := hid (HBAD.out (by simp [nmC]; omega))
        clear h Q
        go_wp2
        go_ret
        exact ⟨retB HN.out.symm, rfl⟩
    · obtain rfl : k = s.size := by omega
      by_cases h0 : s.size = 0
      · have HR := hid (show isNameB s = false from isNameB_empty (by rw [ByteArray.toList_eq]; exact List.eq_nil_of_length_eq_zero (by rw [blen]; exact h0)))
        have h1 : ¬ (0 : Int) < (s.size : Int) := by omega
        clear h0
        go_wp2
        go_ret
        exact ⟨retB HR.out.symm, rfl⟩
      · have h1 : (0 : Int) < (s.size : Int) := by omega
        by_cases hb : 32 < s.size
        · have HR := hid (isNameB_big hb)
          have h2 : ¬ (s.size : Int) ≤ 32 := by omega
          clear h0 hb
          go_wp2
          go_ret
          exact ⟨retB HR.out.symm, rfl⟩
        · have h2 : (s.size : Int) ≤ 32 := by omega
          have HR := hid (show isNameB s = true from isNameB_good (by omega) (by omega) (HFST.out (by omega) (by omega)).1 (HFST.out (by omega) (by omega)).2 (fun j hj => HALL.out j hj hj))
          clear h0 hb
          go_wp2
          go_ret
          exact ⟨retB HR.out.symm, rfl⟩
def lTxF (node : ByteArray) (call : Int) (un : Bool) (more : ByteArray) (d : Val) : ByteArray × Int :=
  if isNameB node = false then (⟨#[]⟩, 12) else if call < 1 ∨ 999999999999999 < call then (⟨#[]⟩, 2) else if isNullV d = false ∧ kindV d ≠ 9 then (⟨#[]⟩, 18) else
  if (litF d).2 ≠ 0 then (⟨#[]⟩, (litF d).2) else if 65536 < (node ++ ⟨#[32]⟩ ++ decB call.toNat ++ ⟨#[32]⟩ ++ wdB un ++ more ++ ⟨#[32]⟩ ++ (litF d).1).size then (⟨#[]⟩, 5) else (node ++ ⟨#[32]⟩ ++ decB call.toNat ++ ⟨#[32]⟩ ++ wdB un ++ more ++ ⟨#[32]⟩ ++ (litF d).1, 0)
set_option maxRecDepth 100000 in
set_option maxHeartbeats 16000000 in
theorem lText_call (node : ByteArray) (hns : node.size ≤ 1000000) (call : Int) (un : Bool) (more : ByteArray) (hmo : more.size ≤ 20) (c : VC) (d : Val) (w : World) (hd : IsVal (· < w.heap.size) w c d) (hT : Tabs w) (hZ : ZTab w) :
    Calls Tryz.prog 79 #[.string node, .int .i64 call, .bool un, .string more, c.v] w fun e w' => e = .returned (.tuple #[.string (lTxF node call un more d).1, .int .i64 (lTxF node call un more d).2]) ∧ Below w.heap.size w w' := by
  have hb0 : Below w.heap.size w (w.alloc (vObj c)) := (Below.refl _ w).alloc (Nat.le_refl _) _
  have HB0 := hid hb0
  have HNM := hid (fun w => lNamed_call node hns w)
  have HIN := hid (fun w => isNull_call c.k c.i c.s c.t c.la c.ll c.lc c.fa c.fl c.fc w)
  have HX0 := hid (heap_alloc_new w (vObj c))
  have HSIX := hid (fun (w' : World) (h : w'.heap[w.heap.size]? = some (vObj c)) => sixOf h)
  have HL := hid (fun (w' : World) (h : Below w.heap.size w w') => litG_call c d w' (hd.same fun b q => ⟨Nat.lt_of_lt_of_le q h.size, h.block b q⟩) (hT.below h) (hZ.below h))
  have hnv := isNullV_of hd
  have hkv := kindV_of hd
  unfold lTxF
  rw [hnv, hkv]
  have htz := litF_size d
  obtain ⟨q, hq⟩ : ∃ q, q = litF d := ⟨_, rfl⟩
  rw [← hq] at HL htz ⊢
  obtain ⟨t, x⟩ := q
  dsimp only at HL htz ⊢
  clear hd hT hZ hb0 hq hnv hkv
  obtain ⟨k, i, s, tt, la, ll, lc, fa, fl, fc⟩ := c
  dsimp only [vObj, VC.v] at HL HIN HSIX HX0 HB0 ⊢
  obtain ⟨j1, j2, j3, j4, j5, j6⟩ := HSIX.out _ HX0.out
  by_cases hnm : isNameB node = false
  · rw [if_pos hnm]
    rw [hnm] at HNM
    clear hnm
    go_enter Tryz.func79, Tryz.ntmps79
    go_wp2_with (go_at_call 133; refine (HNM.out _).mono ?_; rintro e w' ⟨rfl, rfl⟩)
    exact bodyPost_ret (v := .tuple #[.string ⟨#[]⟩, .int .i64 12]) (by simp [results, Tryz.results79, go_sem]) rfl ⟨rfl, HB0.out⟩
  rw [if_neg hnm]
  rw [Bool.not_eq_false] at hnm
  rw [hnm] at HNM
  clear hnm
  by_cases hc1 : call < 1
  · rw [if_pos (.inl hc1)]
    go_enter Tryz.func79, Tryz.ntmps79
    go_wp2_with (go_at_call 133; refine (HNM.out _).mono ?_; rintro e w' ⟨rfl, rfl⟩)
    exact bodyPost_ret (v := .tuple #[.string ⟨#[]⟩, .int .i64 2]) (by simp [results, Tryz.results79, go_sem]) rfl ⟨rfl, HB0.out⟩
  by_cases hc2 : 999999999999999 < call
  · rw [if_pos (.inr hc2)]
    go_enter Tryz.func79, Tryz.ntmps79
    go_wp2_with (go_at_call 133; refine (HNM.out _).mono ?_; rintro e w' ⟨rfl, rfl⟩)
    exact bodyPost_ret (v := .tuple #[.string ⟨#[]⟩, .int .i64 2]) (by simp [results, Tryz.results79, go_sem]) rfl ⟨rfl, HB0.out⟩
  rw [if_neg (fun h => h.elim hc1 hc2)]
  obtain ⟨n, rfl⟩ : ∃ n : Nat, call = n := ⟨call.toNat, by omega⟩
  have HDE := hid (fun w => eDec_call n (by omega) w)
  have hdz := dec_size n (by omega)
  rw [show ((n : Int)).toNat = n from rfl]
  obtain ⟨wd, hwd⟩ : ∃ wd, wd = wdB un := ⟨_, rfl⟩
  have hwz : wd.size ≤ 4 := by rw [hwd]; cases un <;> decide
  rw [← hwd]
  obtain ⟨z, hz⟩ : ∃ z, z = node ++ ⟨#[32]⟩ ++ decB n ++ ⟨#[32]⟩ ++ wd ++ more ++ ⟨#[32]⟩ ++ t := ⟨_, rfl⟩
  rw [← hz]
  have HWD := hid hwd
  have HZD := hid hz
  have S1 := hid (show node.size + 1 ≤ 9223372036854775807 by omega)
  have S2 := hid (show node.size + 1 + (decB n).size ≤ 9223372036854775807 by omega)
  have S3 := hid (show node.size + 1 + (decB n).size + 1 ≤ 9223372036854775807 by omega)
  have S4 := hid (show node.size + 1 + (decB n).size + 1 + wd.size ≤ 9223372036854775807 by omega)
  have S5 := hid (show node.size + 1 + (decB n).size + 1 + wd.size + more.size ≤ 9223372036854775807 by omega)
  have S6 := hid (show node.size + 1 + (decB n).size + 1 + wd.size + more.size + 1 ≤ 9223372036854775807 by omega)
  have S7 := hid (show node.size + 1 + (decB n).size + 1 + wd.size + more.size + 1 + t.size ≤ 9223372036854775807 by omega)
  clear hwd hz hwz hdz htz hns hmo
  by_cases hty : isNullB k i s tt ll fl = false ∧ k ≠ 9
  · rw [if_pos hty]
    rw [hty.1] at HIN
    have hk9 : (k == 9) = false := by simp [hty.2]
    have hk9n : (k != 9) = true := by simp [hty.2]
    clear hty
    go_enter Tryz.func79, Tryz.ntmps79
    go_wp2_with (first
  | (go_at_call 42; refine (HL.out _ HBN.out).mono ?_; rintro e w1 ⟨rfl, hb1⟩; have HB1 := hid (HBN.out.trans (hb1.mono HBN.out.size)); clear hb1)
  | (go_at_call 133; refine (HNM.out _).mono ?_; rintro e w' ⟨rfl, rfl⟩)
  | (go_at_call 19; refine (HDE.out _).mono ?_; rintro e w2 ⟨rfl, hb2⟩; have HB2 := hid (HB1.out.trans (hb2.mono HB1.out.size)); clear hb2)
  | (go_at_call 96; refine (HIN.out _).mono ?_; rintro e wn ⟨rfl, hbn⟩; have HBN := hid (HB0.out.trans (hbn.mono HB0.out.size)); obtain ⟨m1, m2, m3, m4, m5, m6⟩ := HSIX.out _ (heapExt hbn HX0.out); clear hbn))
    exact bodyPost_ret (v := .tuple #[.string ⟨#[]⟩, .int .i64 18]) (by simp [results, Tryz.results79, go_sem]) rfl ⟨rfl, HBN.out⟩
  rw [if_neg hty]
  rcases Bool.eq_false_or_eq_true (isNullB k i s tt ll fl) with hnn | hnn
  · have hnn : isNullB k i s tt ll fl = true := hnn
    rw [hnn] at HIN
    clear hnn hty
    by_cases hx : x = 0
    · have hx1 : (x != 0) = false := by simp [hx]
      have HX := hid hx
      rw [if_neg (show ¬ x ≠ 0 from fun h => h hx)]
      obtain ⟨R, hR⟩ : ∃ R : ByteArray × Int, R = if 65536 < z.size then (⟨#[]⟩, 5) else (z, 0) := ⟨_, rfl⟩
      rw [← hR]
      have HR := hid hR
      clear hx hR
      go_enter Tryz.func79, Tryz.ntmps79
      go_upto_if 41 with (first
  | (go_at_call 42; refine (HL.out _ HBN.out).mono ?_; rintro e w1 ⟨rfl, hb1⟩; have HB1 := hid (HBN.out.trans (hb1.mono HBN.out.size)); clear hb1)
  | (go_at_call 133; refine (HNM.out _).mono ?_; rintro e w' ⟨rfl, rfl⟩)
  | (go_at_call 19; refine (HDE.out _).mono ?_; rintro e w2 ⟨rfl, hb2⟩; have HB2 := hid (HB1.out.trans (hb2.mono HB1.out.size)); clear hb2)
  | (go_at_call 96; refine (HIN.out _).mono ?_; rintro e wn ⟨rfl, hbn⟩; have HBN := hid (HB0.out.trans (hbn.mono HB0.out.size)); obtain ⟨m1, m2, m3, m4, m5, m6⟩ := HSIX.out _ (heapExt hbn HX0.out); clear hbn))
      clear HL HIN HNM HSIX HX0 j1 j2 j3 j4 j5 j6 m1 m2 m3 m4 m5 m6
      go_cut [14] (fun v wz => v = .string wd ∧ wz = w1)
      case first =>
        cases un
        · go_wp2
          go_meet
          exact ⟨by rw [HWD.out]; rfl, rfl⟩
        · go_wp2
          go_meet
          exact ⟨by rw [HWD.out]; rfl, rfl⟩
      case rest =>
      obtain ⟨rfl, hwc⟩ := hcut
      obtain ⟨w1', hw1'⟩ : ∃ u, u = wc := ⟨_, rfl⟩
      rw [← hw1'] at hwc ⊢
      clear hw1'
      subst hwc
      go_upto_region 13 with (fail)
      go_cut [15] (fun v wz => v = .string z ∧ Below w.heap.size w wz)
      case first =>
        have g1 := S1.out
        have g2 := S2.out
        have g3 := S3.out
        have g4 := S4.out
        have g5 := S5.out
        have g6 := S6.out
        have g7 := S7.out
        go_wp2_with (go_at_call 19; refine (HDE.out _).mono ?_; rintro e w2 ⟨rfl, hb2⟩; have HB2 := hid (HB1.out.trans (hb2.mono HB1.out.size)); clear hb2)
        go_meet
        exact ⟨by rw [HZD.out], HB2.out⟩
      case rest =>
      obtain ⟨rfl, hwb⟩ := hcut
      obtain ⟨w2, hw2⟩ : ∃ u, u = wc := ⟨_, rfl⟩
      rw [← hw2] at hwb ⊢
      clear hw2
      have HWB := hid hwb
      clear hwb
      by_cases hz : 65536 < z.size
      · have HRR := hid (show R = (⟨#[]⟩, 5) by rw [HR.out, if_pos hz])
        have hz' : (65536 : Int) < (z.size : Int) := by omega
        clear hz
        go_wp2
        exact bodyPost_ret (v := .tuple #[.string ⟨#[]⟩, .int .i64 5]) (by simp [results, Tryz.results79, go_sem]) rfl ⟨by rw [HRR.out], HWB.out⟩
      · have HRR := hid (show R = (z, 0) by rw [HR.out, if_neg hz])
        have hz' : ¬ (65536 : Int) < (z.size : Int) := by omega
        clear hz
        go_wp2
        exact bodyPost_ret (v := .tuple #[.string z, .int .i64 0]) (by simp [results, Tryz.results79, go_sem]) rfl ⟨by rw [HRR.out], HWB.out⟩
    · have hx1 : (x != 0) = true := by simp [hx]
      rw [if_pos hx]
      clear hx
      go_enter Tryz.func79, Tryz.ntmps79
      go_wp2_with (first
  | (go_at_call 42; refine (HL.out _ HBN.out).mono ?_; rintro e w1 ⟨rfl, hb1⟩; have HB1 := hid (HBN.out.trans (hb1.mono HBN.out.size)); clear hb1)
  | (go_at_call 133; refine (HNM.out _).mono ?_; rintro e w' ⟨rfl, rfl⟩)
  | (go_at_call 19; refine (HDE.out _).mono ?_; rintro e w2 ⟨rfl, hb2⟩; have HB2 := hid (HB1.out.trans (hb2.mono HB1.out.size)); clear hb2)
  | (go_at_call 96; refine (HIN.out _).mono ?_; rintro e wn ⟨rfl, hbn⟩; have HBN := hid (HB0.out.trans (hbn.mono HB0.out.size)); obtain ⟨m1, m2, m3, m4, m5, m6⟩ := HSIX.out _ (heapExt hbn HX0.out); clear hbn))
      exact bodyPost_ret (v := .tuple #[.string ⟨#[]⟩, .int .i64 x]) (by simp [results, Tryz.results79, go_sem]) rfl ⟨rfl, HB1.out⟩
  · have hnn : isNullB k i s tt ll fl = false := hnn
    rw [hnn] at HIN
    have hk9 : (k == 9) = true := by simp; exact Classical.byContradiction fun hk => hty ⟨by rw [hnn], hk⟩
    have hk9n : (k != 9) = false := by simp; exact Classical.byContradiction fun hk => hty ⟨by rw [hnn], hk⟩
    clear hnn hty
    by_cases hx : x = 0
    · have hx1 : (x != 0) = false := by simp [hx]
      have HX := hid hx
      rw [if_neg (show ¬ x ≠ 0 from fun h => h hx)]
      obtain ⟨R, hR⟩ : ∃ R : ByteArray × Int, R = if 65536 < z.size then (⟨#[]⟩, 5) else (z, 0) := ⟨_, rfl⟩
      rw [← hR]
      have HR := hid hR
      clear hx hR
      go_enter Tryz.func79, Tryz.ntmps79
      go_upto_if 41 with (first
  | (go_at_call 42; refine (HL.out _ HBN.out).mono ?_; rintro e w1 ⟨rfl, hb1⟩; have HB1 := hid (HBN.out.trans (hb1.mono HBN.out.size)); clear hb1)
  | (go_at_call 133; refine (HNM.out _).mono ?_; rintro e w' ⟨rfl, rfl⟩)
  | (go_at_call 19; refine (HDE.out _).mono ?_; rintro e w2 ⟨rfl, hb2⟩; have HB2 := hid (HB1.out.trans (hb2.mono HB1.out.size)); clear hb2)
  | (go_at_call 96; refine (HIN.out _).mono ?_; rintro e wn ⟨rfl, hbn⟩; have HBN := hid (HB0.out.trans (hbn.mono HB0.out.size)); obtain ⟨m1, m2, m3, m4, m5, m6⟩ := HSIX.out _ (heapExt hbn HX0.out); clear hbn))
      clear HL HIN HNM HSIX HX0 j1 j2 j3 j4 j5 j6 m1 m2 m3 m4 m5 m6
      go_cut [14] (fun v wz => v = .string wd ∧ wz = w1)
      case first =>
        cases un
        · go_wp2
          go_meet
          exact ⟨by rw [HWD.out]; rfl, rfl⟩
        · go_wp2
          go_meet
          exact ⟨by rw [HWD.out]; rfl, rfl⟩
      case rest =>
      obtain ⟨rfl, hwc⟩ := hcut
      obtain ⟨w1', hw1'⟩ : ∃ u, u = wc := ⟨_, rfl⟩
      rw [← hw1'] at hwc ⊢
      clear hw1'
      subst hwc
      go_upto_region 13 with (fail)
      go_cut [15] (fun v wz => v = .string z ∧ Below w.heap.size w wz)
      case first =>
        have g1 := S1.out
        have g2 := S2.out
        have g3 := S3.out
        have g4 := S4.out
        have g5 := S5.out
        have g6 := S6.out
        have g7 := S7.out
        go_wp2_with (go_at_call 19; refine (HDE.out _).mono ?_; rintro e w2 ⟨rfl, hb2⟩; have HB2 := hid (HB1.out.trans (hb2.mono HB1.out.size)); clear hb2)
        go_meet
        exact ⟨by rw [HZD.out], HB2.out⟩
      case rest =>
      obtain ⟨rfl, hwb⟩ := hcut
      obtain ⟨w2, hw2⟩ : ∃ u, u = wc := ⟨_, rfl⟩
      rw [← hw2] at hwb ⊢
      clear hw2
      have HWB := hid hwb
      clear hwb
      by_cases hz : 65536 < z.size
      · have HRR := hid (show R = (⟨#[]⟩, 5) by rw [HR.out, if_pos hz])
        have hz' : (65536 : Int) < (z.size : Int) := by omega
        clear hz
        go_wp2
        exact bodyPost_ret (v := .tuple #[.string ⟨#[]⟩, .int .i64 5]) (by simp [results, Tryz.results79, go_sem]) rfl ⟨by rw [HRR.out], HWB.out⟩
      · have HRR := hid (show R = (z, 0) by rw [HR.out, if_neg hz])
        have hz' : ¬ (65536 : Int) < (z.size : Int) := by omega
        clear hz
        go_wp2
        exact bodyPost_ret (v := .tuple #[.string z, .int .i64 0]) (by simp [results, Tryz.results79, go_sem]) rfl ⟨by rw [HRR.out], HWB.out⟩
    · have hx1 : (x != 0) = true := by simp [hx]
      rw [if_pos hx]
      clear hx
      go_enter Tryz.func79, Tryz.ntmps79
      go_wp2_with (first
  | (go_at_call 42; refine (HL.out _ HBN.out).mono ?_; rintro e w1 ⟨rfl, hb1⟩; have HB1 := hid (HBN.out.trans (hb1.mono HBN.out.size)); clear hb1)
  | (go_at_call 133; refine (HNM.out _).mono ?_; rintro e w' ⟨rfl, rfl⟩)
  | (go_at_call 19; refine (HDE.out _).mono ?_; rintro e w2 ⟨rfl, hb2⟩; have HB2 := hid (HB1.out.trans (hb2.mono HB1.out.size)); clear hb2)
  | (go_at_call 96; refine (HIN.out _).mono ?_; rintro e wn ⟨rfl, hbn⟩; have HBN := hid (HB0.out.trans (hbn.mono HB0.out.size)); obtain ⟨m1, m2, m3, m4, m5, m6⟩ := HSIX.out _ (heapExt hbn HX0.out); clear hbn))
      exact bodyPost_ret (v := .tuple #[.string ⟨#[]⟩, .int .i64 x]) (by simp [results, Tryz.results79, go_sem]) rfl ⟨rfl, HB1.out⟩
end
end Go.Proofs.YtkljbfaemahchaaGreatDoor
