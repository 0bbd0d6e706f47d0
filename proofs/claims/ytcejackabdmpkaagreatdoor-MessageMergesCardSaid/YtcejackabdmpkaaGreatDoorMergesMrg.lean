/-
  MessageMerges returns true. Conditions: the arguments can be read as data; Tabs.
-/
import Derived.Test.YtcejackabdmpkaaGreatDoorMergeMrg
import Derived.Test.YtcejackabdmpkaaGreatDoorFateAMrg
import Derived.Test.YtcejackabdmpkaaGreatDoorKnownMrg
import Derived.Test.YtcejackabdmpkaaGreatDoorG9Mrg
namespace Go.Proofs.YtcejackabdmpkaaGreatDoor
open Go Go.RowKit Go.Shelf
set_option linter.unusedVariables false
set_option linter.unusedSimpArgs false

def zMsg : Msg := ⟨⟨0, []⟩, 0, [], noVal⟩
def bVal : Val := .mk 9 0 0 ⟨#[]⟩ [] [] []
theorem okNil (k : Int) (h : I64 k) : VC.ok ⟨k, 0, 0, ⟨#[]⟩, none, 0, 0, none, 0, 0⟩ := ⟨h, (show I64 0 from ⟨by decide, by decide⟩), (show I64 0 from ⟨by decide, by decide⟩), (show (0:Nat) ≤ 140737488351232 by decide), (show 0 * 88 ≤ 140737488351232 by decide), (show 0 * 104 ≤ 140737488351232 by decide), Nat.le_refl 0, Nat.le_refl 0⟩
theorem bVal_is (S : Nat → Prop) (w : World) : IsVal S w ⟨9, 0, 0, ⟨#[]⟩, none, 0, 0, none, 0, 0⟩ bVal := ⟨⟨rfl, rfl, rfl, rfl, okNil 9 ⟨by decide, by decide⟩, rfl, rfl, rfl⟩, .inl rfl, .inl rfl⟩
theorem noInts (S : Nat → Prop) (w : World) : IsInts S w none 0 0 [] := ⟨rfl, Nat.le_refl _, (by decide), (fun x hx => by cases hx), .inl rfl⟩
theorem zMsg_is (S : Nat → Prop) (w : World) : IsMsg S w zMC zMsg := ⟨⟨rfl, ⟨by decide, by decide⟩, noInts S w⟩, rfl, ⟨by decide, by decide⟩, noInts S w, ⟨⟨rfl, rfl, rfl, rfl, okNil 0 ⟨by decide, by decide⟩, rfl, rfl, rfl⟩, .inl rfl, .inl rfl⟩⟩
def mergeD (l : List Msg) (ds : St) (dv : Val) : Msg := if mergeE l = 0 then ⟨ds, sumM l, orgs l, dv⟩ else zMsg
theorem MergePost.two {w w' : World} {l : List Msg} {ds : St} {dv : Val} {e : Ending} (h : MergePost w l ds dv e w') : Below w.heap.size w w' ∧ ∃ c : MC, e = .returned (.tuple #[c.v, .int .i64 (mergeE l)]) ∧ IsMsg (fun b => w.heap.size ≤ b ∧ b < w'.heap.size) w' c (mergeD l ds dv) := by
  refine ⟨h.1, ?_⟩
  by_cases h0 : mergeE l = 0
  · obtain ⟨c, he, hi⟩ := h.2.2 h0
    exact ⟨c, by rw [h0]; exact he, by rw [mergeD, if_pos h0]; exact hi⟩
  · exact ⟨zMC, h.2.1 h0, by rw [mergeD, if_neg h0]; exact zMsg_is _ _⟩

set_option maxRecDepth 100000 in
set_option maxHeartbeats 16000000 in
theorem msgMerges_call (a : Option Addr) (n c : Nat) (l : List Msg) (s : SC) (ds : St) (w : World) (hd : IsRow msgK (· < w.heap.size) w a n c l) (hs : IsSt (· < w.heap.size) w s ds) (hT : Tabs w) : Calls Tryz.prog 5 #[.slice a n c, s.v] w fun e w' => e = .returned (.bool true) ∧ Below w.heap.size w w' := by
  obtain ⟨ti, hi, hz0, hz1, hz2⟩ := info_parts infoInt
  have HB0 : Hid (Below w.heap.size w (w.alloc (.cells #[.int .i64 s.e, .slice s.a s.n s.c] 39))) := hid ((Below.refl _ w).alloc (Nat.le_refl _) _)
  have HT := hid hT
  have HD := hid hd
  have HSI := hid hs
  have HL := hid hd.len
  have UPW : Hid (∀ w', Below (w.alloc (.cells #[.int .i64 s.e, .slice s.a s.n s.c] 39)).heap.size (w.alloc (.cells #[.int .i64 s.e, .slice s.a s.n s.c] 39)) w' → Below w.heap.size w w') := hid fun w' h => HB0.out.trans (h.mono HB0.out.size)
  have HDU : Hid (∀ w', Below w.heap.size w w' → IsRow msgK (· < w'.heap.size) w' a n c l) := hid fun w' h => HD.out.same fun b q => ⟨Nat.lt_of_lt_of_le q h.size, h.block b q⟩
  have HK : Hid (∀ w', Below (w.alloc (.cells #[.int .i64 s.e, .slice s.a s.n s.c] 39)).heap.size (w.alloc (.cells #[.int .i64 s.e, .slice s.a s.n s.c] 39)) w' → Calls Tryz.prog 9 #[] w' fun e w2 => e = .returned (.bool true) ∧ Below w'.heap.size w' w2) := hid fun w' h => known_call w' (HT.out.below (UPW.out _ h))
  have HSM : Hid (∀ w', Below (w.alloc (.cells #[.int .i64 s.e, .slice s.a s.n s.c] 39)).heap.size (w.alloc (.cells #[.int .i64 s.e, .slice s.a s.n s.c] 39)) w' → Calls Tryz.prog 22 #[.slice a n c] w' (SmallsPost2 w' n l)) := hid fun w' h => smalls2_call a n c l w' (HDU.out w' (UPW.out _ h)).msgs
  have CEL : Hid (∀ w', Below (w.alloc (.cells #[.int .i64 s.e, .slice s.a s.n s.c] 39)).heap.size (w.alloc (.cells #[.int .i64 s.e, .slice s.a s.n s.c] 39)) w' → w'.cell? ⟨w.heap.size, 0, none⟩ = some (.int .i64 s.e) ∧ w'.cell? ⟨w.heap.size, 1, none⟩ = some (.slice s.a s.n s.c)) := hid fun w' h => by
    have g := heapExt h (heap_alloc_new w (.cells #[.int .i64 s.e, .slice s.a s.n s.c] 39))
    exact ⟨cellOf g 0, cellOf g 1⟩
  have hsbig := hs.ps.big
  clear hd hs hT
  go_enter Tryz.func5, Tryz.ntmps5
  by_cases hq : s.n ≤ 40
  case neg =>
    have hq' : (40 : Int) < (s.n : Int) := by omega
    go_wp2_with (first
    | (go_at_call 9; refine (HK.out _ hb3).mono ?_; rintro e w9 ⟨rfl, hb9⟩; have hbz := HB0.out.trans ((hb3.trans (hb9.mono hb3.size)).mono HB0.out.size))
    | (go_at_call 22; refine (HSM.out _ hb2).mono ?_; rintro e w3 ⟨⟨b1, rfl, hs1⟩, hb3'⟩; have hb3 := hb2.trans (hb3'.mono hb2.size); obtain ⟨p0, p1⟩ := CEL.out _ hb3; cases b1)
    | (go_at_call 9; refine (HK.out _ (Below.refl _ _)).mono ?_; rintro e w2 ⟨rfl, hb2⟩))
    all_goals go_ret
    all_goals exact ⟨rfl, hbz⟩
  have hq' : ¬ (40 : Int) < (s.n : Int) := by omega
  go_upto_region 4 with (first
    | (go_at_call 9; refine (HK.out _ hb3).mono ?_; rintro e w9 ⟨rfl, hb9⟩; have hbz := HB0.out.trans ((hb3.trans (hb9.mono hb3.size)).mono HB0.out.size))
    | (go_at_call 22; refine (HSM.out _ hb2).mono ?_; rintro e w3 ⟨⟨b1, rfl, hs1⟩, hb3'⟩; have hb3 := hb2.trans (hb3'.mono hb2.size); obtain ⟨p0, p1⟩ := CEL.out _ hb3; cases b1)
    | (go_at_call 9; refine (HK.out _ (Below.refl _ _)).mono ?_; rintro e w2 ⟨rfl, hb2⟩))
  · go_ret
    exact ⟨rfl, hbz⟩
  obtain ⟨h20, hsl⟩ : n ≤ 20 ∧ ∀ j (h : j < l.length), l[j].st.ps.length ≤ 40 ∧ l[j].es.length ≤ 300 := by first | exact hs1 rfl | exact hs1 trivial | exact hs1
  have HN20 := hid h20
  have HSL := hid hsl
  have HB3 := hid hb3
  have hb4 : Below (w.alloc (.cells #[.int .i64 s.e, .slice s.a s.n s.c] 39)).heap.size (w.alloc (.cells #[.int .i64 s.e, .slice s.a s.n s.c] 39)) (w3.alloc (.cells #[.int .i64 9, .int .i64 0, .int .i64 0, .string ⟨#[]⟩, .slice none 0 0, .slice none 0 0] 25)) := hb3.alloc hb3.size _
  obtain ⟨q0, q1⟩ := CEL.out _ hb4
  have HMG : Hid (Calls Tryz.prog 20 #[.slice a n c, .agg #[.int .i64 s.e, .slice s.a s.n s.c], .agg #[.int .i64 9, .int .i64 0, .int .i64 0, .string ⟨#[]⟩, .slice none 0 0, .slice none 0 0]] (w3.alloc (.cells #[.int .i64 9, .int .i64 0, .int .i64 0, .string ⟨#[]⟩, .slice none 0 0, .slice none 0 0] 25)) (MergePost (w3.alloc (.cells #[.int .i64 9, .int .i64 0, .int .i64 0, .string ⟨#[]⟩, .slice none 0 0, .slice none 0 0] 25)) l ds bVal)) := hid (by
    have h := UPW.out _ hb4
    exact merge_call a n c l s ds ⟨9, 0, 0, ⟨#[]⟩, none, 0, 0, none, 0, 0⟩ bVal _ (HDU.out _ h) (HSI.out.same fun b q => ⟨Nat.lt_of_lt_of_le q h.size, h.block b q⟩) (bVal_is _ _) (by have := HN20.out; omega) (fun j hj => (HSL.out j hj).2))
  have HB4 := hid hb4
  clear HK HSM hs1 hb3' hb2 hb3 hb4 p0 p1 hsl h20
  go_upto_region 5 with (go_at_call 20; refine HMG.out.mono ?_; rintro e w5 hpost; obtain ⟨hb5, cm, rfl, hcm⟩ := hpost.two; have HB5 := hid hb5; have HCM0 := hid hcm; clear hpost hb5 hcm; (try dsimp only [MC.v]))
  obtain ⟨wm, hwm⟩ : ∃ wm, wm = w5.alloc (.cells #[.int .i64 cm.st.e, .slice cm.st.a cm.st.n cm.st.c, .int .i64 cm.m, .slice cm.a cm.n cm.c, .int .i64 cm.b.k, .int .i64 cm.b.i, .int .i64 cm.b.s, .string cm.b.t, .slice cm.b.la cm.b.ll cm.b.lc, .slice cm.b.fa cm.b.fl cm.b.fc] 41) := ⟨_, rfl⟩
  have HMB := hid (show wm.heap[w5.heap.size]? = some (.cells #[.int .i64 cm.st.e, .slice cm.st.a cm.st.n cm.st.c, .int .i64 cm.m, .slice cm.a cm.n cm.c, .int .i64 cm.b.k, .int .i64 cm.b.i, .int .i64 cm.b.s, .string cm.b.t, .slice cm.b.la cm.b.ll cm.b.lc, .slice cm.b.fa cm.b.fl cm.b.fc] 41 (0, 0)) by rw [hwm]; exact heap_alloc_new w5 _)
  have HVB := hid (show wm.heap[w3.heap.size]? = some (.cells #[.int .i64 9, .int .i64 0, .int .i64 0, .string ⟨#[]⟩, .slice none 0 0, .slice none 0 0] 25) by rw [hwm]; exact heapAlloc _ (heapExt HB5.out (heap_alloc_new w3 _)))
  have HBM : Hid (Below (w.alloc (.cells #[.int .i64 s.e, .slice s.a s.n s.c] 39)).heap.size (w.alloc (.cells #[.int .i64 s.e, .slice s.a s.n s.c] 39)) wm) := hid (by rw [hwm]; exact (HB4.out.trans (HB5.out.mono HB4.out.size)).alloc (Nat.le_trans HB4.out.size HB5.out.size) _)
  have HUPM : Hid (∀ w', Below wm.heap.size wm w' → Below w.heap.size w w') := hid fun w' h => UPW.out _ (HBM.out.trans (h.mono HBM.out.size))
  have HUM5 : Hid (∀ b, (w3.alloc (.cells #[.int .i64 9, .int .i64 0, .int .i64 0, .string ⟨#[]⟩, .slice none 0 0, .slice none 0 0] 25)).heap.size ≤ b ∧ b < w5.heap.size → b < wm.heap.size) := hid fun b q => by rw [hwm, World.size_alloc]; omega
  have HCM : Hid (IsMsg (fun b => (w3.alloc (.cells #[.int .i64 9, .int .i64 0, .int .i64 0, .string ⟨#[]⟩, .slice none 0 0, .slice none 0 0] 25)).heap.size ≤ b ∧ b < w5.heap.size) wm cm (mergeD l ds bVal)) := hid (HCM0.out.same fun b q => ⟨q, by rw [hwm]; exact Below.heap_alloc _ _ _ q.2⟩)
  have HALL : Hid (∀ k, k ≤ n → (allL (l.take k)).length ≤ 6000) := hid fun k hk => by
    have h1 := allL_len l 300 (fun j hj => (HSL.out j hj).2) k (by have := HL.out; omega)
    have h2 := HN20.out
    have h3 : k * 300 ≤ 20 * 300 := Nat.mul_le_mul_right _ (by omega)
    omega
  have HALI : Hid (∀ k, k ≤ n → ∀ y ∈ allL (l.take k), I64 y) := hid fun k hk => by
    induction k with
    | zero => intro y hy; simp [allL] at hy
    | succ k ih =>
      have hkl : k < l.length := by have := HL.out; omega
      intro y hy
      rw [allL_take l k hkl] at hy
      split at hy
      · exact ih (by omega) y hy
      · rw [addAll_mem] at hy
        rcases hy with hy | hy
        · exact ih (by omega) y hy
        · obtain ⟨b, o, _, _, hx⟩ := HD.out.slot (show 0 < n by omega)
          obtain ⟨x, _, hxi⟩ := hx k hkl
          exact hxi.es.rng y hy
  rw [← hwm]
  clear hwm HCM0 HMG
  go_wp2
  go_loopw [8, 9, 10, 11] (fun zv bv av iv wr => ∃ (k : Nat) (z : Int) (wb : Bool) (v : Value), zv = .int .i64 z ∧ bv = .bool wb ∧ v = av ∧ k ≤ n ∧ iv = .int .i64 k ∧ z = lawSum (l.take k) ∧ wb = anyHv (l.take k) ∧ wr.ownsRow wm.heap.size 3 1 v (allL (l.take k)).length ((allL (l.take k)).map (Value.int .i64)) ∧ Below wm.heap.size wm wr) (fun _ _ _ i _ => n - (intOf i).toNat)
  case atStart => exact ⟨0, 0, false, _, rfl, rfl, rfl, Nat.zero_le _, rfl, rfl, rfl, World.ownsRow_nil _ _ _ _, Below.refl _ _⟩
  case round =>
  obtain ⟨k, z, wb, v, rfl, rfl, rfl, hk, rfl, hz, hwb, hown, hbr⟩ := hrel
  obtain ⟨wp, rfl⟩ : ∃ w1 : World, w1 = wr := ⟨_, rfl⟩
  by_cases hlt : k < n
  · have hkl : k < l.length := by have := HL.out; omega
    obtain ⟨b, o, hab, hb, hx⟩ := HD.out.slot (show 0 < n by omega)
    subst hab
    obtain ⟨x, hxa, hxi⟩ := hx k hkl
    obtain ⟨x0, x1, x2, x3, x4, x5, x6, x7, x8, x9⟩ := (hxa.same ((HUPM.out _ hbr).block b hb)).m
    have hlt' : (k : Int) < (n : Int) := by omega
    have hk0 : (0 : Int) ≤ (k : Int) := by omega
    have hxm : x.m = l[k].m := hxi.m
    obtain ⟨es, hes⟩ : ∃ es, es = l[k].es := ⟨_, rfl⟩
    have hei : IsInts (· < w.heap.size) w x.a x.n x.c es := by rw [hes]; exact hxi.es
    have HES := hid hei
    have HXN := hid (show x.n ≤ 300 by have := HES.out.len; have := (HSL.out k hkl).2; rw [← hes] at this; omega)
    have HXA := hid hxa
    have HBB := hid hb
    have HOWN := hid hown
    have HBR := hid hbr
    obtain ⟨A, hA⟩ : ∃ A, A = allL (l.take k) := ⟨_, rfl⟩
    rw [← hA] at HOWN
    have HAR := hid (show ∀ y ∈ A, I64 y from fun y hy => HALI.out k (by omega) y (by rw [← hA]; exact hy))
    have HALN := hid (show A.length ≤ 6000 by rw [hA]; exact HALL.out k (by omega))
    have hzin := lawSum_in l k (by omega)
    rw [← hz] at hzin
    have hn20 := HN20.out
    have hxn := HXN.out
    by_cases hhv : heavyB x.m = true
    · have HSX := hid (show z = lawSum (l.take (k + 1)) by rw [lawSum_take l k hkl, if_pos (by rw [← hxm]; exact hhv), hz])
      have HANY := hid (show true = anyHv (l.take (k + 1)) by rw [anyHv_take l k hkl, ← hxm, hhv, Bool.or_true])
      have HNX := hid (show allL (l.take (k + 1)) = A by rw [allL_take l k hkl, if_pos (by rw [← hxm]; exact hhv), hA])
      have hhv' : x.m < 0 ∨ 1099511627776 < x.m := by simpa [heavyB] using hhv
      clear hx hxa hxi hb hown hbr hhv hxm hes hei hA hz hwb hzin
      by_cases h1 : x.m < 0
      · clear hhv'
        go_wp2
        go_roundw
        case rel => exact ⟨k + 1, z, true, _, rfl, rfl, rfl, by omega, by go_num, HSX.out, HANY.out, by rw [HNX.out]; exact HOWN.out, HBR.out⟩
        case measure => simp [intOf]; omega
      · have h2 : 1099511627776 < x.m := hhv'.resolve_left h1
        clear hhv'
        go_wp2
        go_roundw
        case rel => exact ⟨k + 1, z, true, _, rfl, rfl, rfl, by omega, by go_num, HSX.out, HANY.out, by rw [HNX.out]; exact HOWN.out, HBR.out⟩
        case measure => simp [intOf]; omega
    · have hhf : heavyB x.m = false := by simpa using hhv
      have HSX := hid (show z + x.m = lawSum (l.take (k + 1)) by rw [lawSum_take l k hkl, if_neg (by rw [← hxm]; exact hhv), hz, hxm])
      have HNX := hid (show allL (l.take (k + 1)) = addAll A es by rw [allL_take l k hkl, if_neg (by rw [← hxm]; exact hhv), hA, hes])
      have hxm2 : 0 ≤ x.m ∧ x.m ≤ 1099511627776 := by (simp [heavyB] at hhf; omega)
      obtain ⟨h1, h2⟩ := hxm2
      have h1' : ¬ x.m < 0 := by omega
      have h2' : ¬ 1099511627776 < x.m := by omega
      have hwr : IntKind.i64.wrap (z + x.m) = z + x.m := IntWalk.i64_in _ (by omega)
      have HANY := hid (show wb = anyHv (l.take (k + 1)) by rw [anyHv_take l k hkl, ← hxm, hhf, Bool.or_false, hwb])
      clear hx hxa hxi hb hown hbr hhv hhf hxm hes hei hA hz hwb hzin
      go_wp2
      go_loopw [10, 12] (fun av jv wr2 => ∃ (j : Nat) (v2 : Value), v2 = av ∧ j ≤ x.n ∧ jv = .int .i64 j ∧ wr2.ownsRow wm.heap.size 3 1 v2 (addAll A (es.take j)).length ((addAll A (es.take j)).map (Value.int .i64)) ∧ Below wm.heap.size wm wr2) (fun _ jv _ => x.n - (intOf jv).toNat)
      case atStart => exact ⟨0, v, rfl, Nat.zero_le _, rfl, HOWN.out, HBR.out⟩
      case round =>
      obtain ⟨j, v2, rfl, hj, rfl, hown2, hbr2⟩ := hrel
      obtain ⟨wp, rfl⟩ : ∃ w1 : World, w1 = wr := ⟨_, rfl⟩
      obtain ⟨C, hC⟩ : ∃ C, C = addAll A (es.take j) := ⟨_, rfl⟩
      rw [← hC] at hown2
      have HCE := hid hC
      have HOWN2 := hid hown2
      have HBR2 := hid hbr2
      have HCR := hid (show ∀ y ∈ C, I64 y from fun y hy => by
        rw [hC, addAll_mem] at hy
        rcases hy with hy | hy
        · exact HAR.out y hy
        · exact HES.out.rng y (List.mem_of_mem_take hy))
      have hclen : C.length ≤ 6300 := by
        have h1 := addAll_len (es.take j) A
        have h2 := HALN.out
        have h3 := HXN.out
        have h4 := HES.out.len
        rw [← hC, List.length_take] at h1
        omega
      obtain ⟨x0, x1, x2, x3, x4, x5, x6, x7, x8, x9⟩ := (HXA.out.same ((HUPM.out _ hbr2).block b HBB.out)).m
      clear hC hown2
      by_cases hlt2 : j < x.n
      · have hjl : j < es.length := by have := HES.out.len; omega
        obtain ⟨eb, eo, hea, heb, hec⟩ := HES.out.slot (show 0 < x.n by omega)
        obtain ⟨y, hy⟩ : ∃ y, y = es[j] := ⟨_, rfl⟩
        have hyc := (World.cell?_of_block (w := w) (a := ⟨eb, eo + j, none⟩) ((HUPM.out _ hbr2).block eb heb)).trans (hec j hjl)
        rw [← hy] at hyc
        have HSTEP := hid (show addAll A (es.take (j + 1)) = add1 C y by rw [addAll_take A es j hjl, ← HCE.out, ← hy])
        rw [hea] at x3
        have hlt2' : (j : Int) < (x.n : Int) := by omega
        have hj0 : (0 : Int) ≤ (j : Int) := by omega
        obtain ⟨av, ac, hve, hai⟩ := own_ints HOWN2.out (by omega) HCR.out
        subst hve
        have HHAS := hid (has_call av C.length ac C y _ wp hai)
        have HYR := hid (show I64 y from HES.out.rng y (by rw [hy]; exact List.getElem_mem hjl))
        clear hec heb hy hai hbr2
        by_cases hin : y ∈ C
        · have HH2 : Hid (Calls Tryz.prog 23 #[.slice av C.length ac, .int .i64 y] wp fun e w' => e = .returned (.bool true) ∧ wp = w') := hid (by have := HHAS.out; rw [decide_eq_true hin] at this; exact this.mono fun e w' ⟨h1, h2⟩ => ⟨h1, h2.symm⟩)
          have HS1 := hid (show add1 C y = C from if_pos hin)
          clear hin HHAS
          go_wp2_with (go_at_call 23; refine HH2.out.mono ?_; rintro e w5 ⟨rfl, rfl⟩)
          go_roundw
          case rel => exact ⟨j + 1, _, rfl, by omega, by go_num, by rw [HSTEP.out, HS1.out]; exact HOWN2.out, HBR2.out⟩
          case measure => simp [intOf]; omega
        · have HH2 : Hid (Calls Tryz.prog 23 #[.slice av C.length ac, .int .i64 y] wp fun e w' => e = .returned (.bool false) ∧ wp = w') := hid (by have := HHAS.out; rw [decide_eq_false hin] at this; exact this.mono fun e w' ⟨h1, h2⟩ => ⟨h1, h2.symm⟩)
          have HS1 := hid (show add1 C y = C ++ [y] from if_neg hin)
          have hcap1 : C.length + 1 ≤ maxLen := by unfold maxLen; omega
          have hcap2 : (C.length + 1) * 8 ≤ 140737488355328 := by omega
          have hsz0 : wm.heap.size ≤ wp.heap.size := HBR2.out.size
          have HNE := hid (own_ge2 HOWN2.out)
          clear hin HHAS
          go_wp2_with (first
            | (at_builtin; refine wpList_append_own_at _ (by rfl) _ _ 37 (by rfl) wm.heap.size 3 ti _ 1 8 Tryz.underlying37 hi hz0 hz1 hz2 rfl (by omega) (.slice av C.length ac) C.length (C.map (Value.int .i64)) (by rfl) (HOWN2.out.alloc _) ⟨wp.heap.size, 0, none⟩ 1 1 [.int .i64 y] (by rfl) (by rfl) (cell_one_new _ _ _) (by simp [Value.oneCell']) hcap1 hcap2 (by simp; omega) ?_; intro v' w6 hown' hgrow hnil hloc; obtain ⟨g6, cap6, rfl⟩ := row_succ hown'; have HO6 := hid hown'; have HG := hid hgrow; clear hown' hgrow hnil hloc)
            | (go_at_call 23; refine HH2.out.mono ?_; rintro e w5 ⟨rfl, rfl⟩))
          go_roundw
          case rel => exact ⟨j + 1, _, rfl, by omega, by go_num, by rw [HSTEP.out, HS1.out, List.length_append, List.map_append]; exact HO6.out, (HBR2.out.alloc HBR2.out.size _).grown HG.out (by simp; omega) fun r hr => HNE.out _ hr⟩
          case measure => simp [intOf]; omega
      · obtain rfl : j = x.n := by omega
        have HFIN := hid (show allL (l.take (k + 1)) = C by rw [HCE.out, HNX.out, show x.n = es.length from HES.out.len, List.take_length])
        go_wp2
        go_roundw
        case rel => exact ⟨k + 1, z + x.m, wb, _, rfl, rfl, rfl, by omega, by go_num, HSX.out, HANY.out, by rw [HFIN.out]; exact HOWN2.out, HBR2.out⟩
        case measure => simp [intOf]; omega
  · obtain rfl : n = k := by omega
    have hll : l.take n = l := by rw [HL.out, List.take_length]
    rw [hll] at hz hwb hown
    have hn20 := HN20.out
    have hal := HALL.out n (Nat.le_refl _)
    rw [hll] at hal
    obtain ⟨na, hna⟩ : ∃ na, na = (allL l).length := ⟨_, rfl⟩
    rw [← hna] at hown hal
    obtain ⟨av, ac, hve, hai⟩ := own_ints hown (by omega) (by have := HALI.out n (Nat.le_refl _); rw [hll] at this; exact this)
    subst hve
    have HZ0 := hid hz
    have HWB := hid hwb
    have HAI := hid hai
    have HNA := hid hna
    have HBR := hid hbr
    have hzin := lawSum_in l n (by have := HL.out; omega)
    rw [hll, ← HZ0.out] at hzin
    have HST : Hid (Calls Tryz.prog 24 #[.slice a n c] wp (StsPost wp n (l.map (·.st)))) := hid (stamps_call a n c l wp (HDU.out _ (HUPM.out _ hbr)).msgs)
    clear hlt hz hwb hown hai hna hbr hll hzin
    cases wb with
    | true =>
      have HMS : Hid (∀ w', Below wm.heap.size wm w' → Calls Tryz.prog 25 #[.slice a n c] w' fun e w2 => e = .returned (.int .i64 0) ∧ Below w'.heap.size w' w2) := hid fun w' h => by
        have hc := mass_call a n c l w' (HDU.out w' (HUPM.out _ h))
        rw [show massL l = 0 by rw [massL, if_pos (.inr HWB.out.symm)]] at hc
        exact hc
      go_wp2_with (first
        | (go_at_call 25; refine (HMS.out _ hb6').mono ?_; rintro e w7 ⟨rfl, hb7⟩)
        | (go_at_call 24; refine HST.out.mono ?_; rintro e w6 ⟨a6, c6, rfl, hb6, hr6⟩; have HR6 := hid hr6; clear hr6; have hb6' := HBR.out.trans (hb6.mono HBR.out.size)))
      have HB67 := hid hb7
      have HUM7 : Hid (∀ w', Below w7.heap.size w7 w' → Below wm.heap.size wm w') := hid fun w' h => hb6'.trans ((hb7.trans (h.mono hb7.size)).mono hb6'.size)
      have HUP7 : Hid (∀ w', Below w7.heap.size w7 w' → Below w.heap.size w w') := hid fun w' h => HUPM.out _ (HUM7.out _ h)
      have HB5S : Hid (Below wp.heap.size wp w7) := hid (hb6.trans (hb7.mono hb6.size))
      clear hb6 hb6' hb7 HBR
      go_loopw [14] (fun i wr2 => ∃ j : Nat, j ≤ n ∧ i = .int .i64 j ∧ Below w7.heap.size w7 wr2) (fun i _ => n - (intOf i).toNat)
      case atStart => exact ⟨0, Nat.zero_le _, rfl, Below.refl _ _⟩
      case round =>
      obtain ⟨j, hj, rfl, hbr⟩ := hrel
      obtain ⟨ws, hws⟩ : ∃ ws, ws = wr := ⟨_, rfl⟩
      rw [← hws] at hbr ⊢
      clear hws
      have HBR := hid hbr
      by_cases hlt : j < n
      · have hjl : j < l.length := by have := HL.out; omega
        obtain ⟨b, o, hab, hb, hx⟩ := HD.out.slot (show 0 < n by omega)
        subst hab
        obtain ⟨x, hxa, hxi⟩ := hx j hjl
        obtain ⟨b6, o6, hab6, hb6, hx6⟩ := HR6.out.slot (show 0 < n by omega)
        subst hab6
        obtain ⟨y, hya, hyi⟩ := hx6 j (by rw [List.length_map]; exact hjl)
        obtain ⟨d, hd⟩ : ∃ d, d = l[j].st := ⟨_, rfl⟩
        have hxs := hxi.st
        rw [← hd] at hxs
        have hys : IsSt (fun b => wp.heap.size ≤ b ∧ b < w6.heap.size) w6 y d := by rw [hd]; have := hyi; rw [List.getElem_map] at this; exact this
        have HXA := hid hxa
        have HYA := hid hya
        have HC24 : Hid (∀ w', Below ws.heap.size ws w' → (w'.cell? ⟨b6, o6 + j * 2, none⟩ = some (.int .i64 y.e) ∧ w'.cell? ⟨b6, o6 + j * 2 + 1, none⟩ = some (.slice y.a y.n y.c)) ∧ (w'.cell? ⟨b, o + j * 10, none⟩ = some (.int .i64 x.st.e) ∧ w'.cell? ⟨b, o + j * 10 + 1, none⟩ = some (.slice x.st.a x.st.n x.st.c))) := hid fun w' h => by
          have h1 := HBR.out.trans (h.mono HBR.out.size)
          have h2 := HB67.out.trans (h1.mono HB67.out.size)
          have h3 := HUP7.out _ h1
          obtain ⟨x0, x1, _⟩ := (HXA.out.same (h3.block b hb)).m
          obtain ⟨y0, y1⟩ := (HYA.out.same (h2.block b6 hb6.2)).two
          exact ⟨⟨y0, y1⟩, x0, x1⟩
        have HSS : Hid (∀ w', Below ws.heap.size ws w' → Calls Tryz.prog 26 #[.agg #[.int .i64 y.e, .slice y.a y.n y.c], .agg #[.int .i64 x.st.e, .slice x.st.a x.st.n x.st.c]] w' fun e w2 => e = .returned (.bool true) ∧ Below w'.heap.size w' w2) := hid fun w' h => by
          have h1 := HBR.out.trans (h.mono HBR.out.size)
          have h2 := HB67.out.trans (h1.mono HB67.out.size)
          have h3 := HUP7.out _ h1
          have hc := sameStamp_call y x.st d d w' (hys.same fun b q => ⟨Nat.lt_of_lt_of_le q.2 h2.size, h2.block b q.2⟩) (hxs.same fun b q => ⟨Nat.lt_of_lt_of_le q h3.size, h3.block b q⟩)
          rw [stEqB_refl] at hc
          exact hc
        have hlt' : (j : Int) < (n : Int) := by omega
        have hj0 : (0 : Int) ≤ (j : Int) := by omega
        clear hx hxa hxi hx6 hya hyi hxs hys hd hb hb6 hbr
        go_upto_region 24 with (fail)
        refine wp_region_split 11 (fun w' => Below ws.heap.size ws w') (by kernel_rfl) (by kernel_rfl) (by kernel_rfl) (by decide) ((Below.refl _ _).drew) (fun hS => ?_)
        simp only [List.take_succ_cons, List.take_zero, List.drop_succ_cons, List.drop_zero]
        refine wpAnyH_take (i := 0) (oi := _) (v := ?_) rfl (by kernel_rfl) (by kernel_rfl) (by kernel_rfl) (fun _ _ _ h => h) (Or.inl ⟨by rfl, ?_⟩) hS ?_
        rotate_left
        · intro w' hw'
          have hcells := HC24.out w' hw'
          obtain ⟨⟨u0, u1⟩, v0, v1⟩ := hcells; go_simp
          (try with_reducible rfl)
        simp only [Act.put, List.getElem_toArray, List.getElem_cons_succ, List.getElem_cons_zero, List.setIfInBounds_toArray, List.set_cons_zero, List.set_cons_succ]
        refine wpAnyH_take (i := 1) (oi := _) (v := ?_) rfl (by kernel_rfl) (by kernel_rfl) (by kernel_rfl) (fun _ _ _ h => h) (Or.inl ⟨by rfl, ?_⟩) hS ?_
        rotate_left
        · intro w' hw'
          have hcells := HC24.out w' hw'
          obtain ⟨⟨u0, u1⟩, v0, v1⟩ := hcells; go_simp
          (try with_reducible rfl)
        simp only [Act.put, List.getElem_toArray, List.getElem_cons_succ, List.getElem_cons_zero, List.setIfInBounds_toArray, List.set_cons_zero, List.set_cons_succ]
        refine wpAnyH_take (i := 2) (oi := _) (v := ?_) rfl (by kernel_rfl) (by kernel_rfl) (by kernel_rfl) (fun _ _ _ h => h) (Or.inl ⟨by rfl, ?_⟩) hS ?_
        rotate_left
        · intro w' hw'
          have hcells := HC24.out w' hw'
          obtain ⟨⟨u0, u1⟩, v0, v1⟩ := hcells; go_simp
          (try with_reducible rfl)
        simp only [Act.put, List.getElem_toArray, List.getElem_cons_succ, List.getElem_cons_zero, List.setIfInBounds_toArray, List.set_cons_zero, List.set_cons_succ]
        refine wpAnyH_take (i := 3) (oi := _) (v := ?_) rfl (by kernel_rfl) (by kernel_rfl) (by kernel_rfl) (fun _ _ _ h => h) (Or.inl ⟨by rfl, ?_⟩) hS ?_
        rotate_left
        · intro w' hw'
          have hcells := HC24.out w' hw'
          obtain ⟨⟨u0, u1⟩, v0, v1⟩ := hcells; go_simp
          (try with_reducible rfl)
        simp only [Act.put, List.getElem_toArray, List.getElem_cons_succ, List.getElem_cons_zero, List.setIfInBounds_toArray, List.set_cons_zero, List.set_cons_succ]
        refine wpAnyH_take (i := 4) (oi := _) (v := ?_) rfl (by kernel_rfl) (by kernel_rfl) (by kernel_rfl) (fun _ _ _ h => h) (Or.inl ⟨by rfl, ?_⟩) hS ?_
        rotate_left
        · intro w' hw'
          have hcells := HC24.out w' hw'
          obtain ⟨⟨u0, u1⟩, v0, v1⟩ := hcells; go_simp
          (try with_reducible rfl)
        simp only [Act.put, List.getElem_toArray, List.getElem_cons_succ, List.getElem_cons_zero, List.setIfInBounds_toArray, List.set_cons_zero, List.set_cons_succ]
        refine wpAnyH_take (i := 5) (oi := _) (v := ?_) rfl (by kernel_rfl) (by kernel_rfl) (by kernel_rfl) (fun _ _ _ h => h) (Or.inl ⟨by rfl, ?_⟩) hS ?_
        rotate_left
        · intro w' hw'
          have hcells := HC24.out w' hw'
          obtain ⟨⟨u0, u1⟩, v0, v1⟩ := hcells; go_simp
          (try with_reducible rfl)
        simp only [Act.put, List.getElem_toArray, List.getElem_cons_succ, List.getElem_cons_zero, List.setIfInBounds_toArray, List.set_cons_zero, List.set_cons_succ]
        refine wpAnyH_take (i := 6) (oi := _) (v := ?_) rfl (by kernel_rfl) (by kernel_rfl) (by kernel_rfl) (fun _ _ _ h => h) (Or.inl ⟨by rfl, ?_⟩) hS ?_
        rotate_left
        · intro w' hw'
          have hcells := HC24.out w' hw'
          obtain ⟨⟨u0, u1⟩, v0, v1⟩ := hcells; go_simp
          (try with_reducible rfl)
        simp only [Act.put, List.getElem_toArray, List.getElem_cons_succ, List.getElem_cons_zero, List.setIfInBounds_toArray, List.set_cons_zero, List.set_cons_succ]
        refine wpAnyH_take (i := 7) (oi := _) (v := ?_) rfl (by kernel_rfl) (by kernel_rfl) (by kernel_rfl) (fun _ _ _ h => h) (Or.inl ⟨by rfl, ?_⟩) hS ?_
        rotate_left
        · intro w' hw'
          have hcells := HC24.out w' hw'
          obtain ⟨⟨u0, u1⟩, v0, v1⟩ := hcells; go_simp
          (try with_reducible rfl)
        simp only [Act.put, List.getElem_toArray, List.getElem_cons_succ, List.getElem_cons_zero, List.setIfInBounds_toArray, List.set_cons_zero, List.set_cons_succ]
        refine wpAnyH_take (i := 8) (oi := _) (v := ?_) rfl (by kernel_rfl) (by kernel_rfl) (by kernel_rfl) (fun _ _ _ h => h) (Or.inl ⟨by rfl, ?_⟩) hS ?_
        rotate_left
        · intro w' hw'
          have hcells := HC24.out w' hw'
          obtain ⟨⟨u0, u1⟩, v0, v1⟩ := hcells; go_simp
          (try with_reducible rfl)
        simp only [Act.put, List.getElem_toArray, List.getElem_cons_succ, List.getElem_cons_zero, List.setIfInBounds_toArray, List.set_cons_zero, List.set_cons_succ]
        refine wpAnyH_ready (rs := [9]) (by kernel_rfl) (by simp) ?_
        refine AllReadyH.cons (o := _) rfl (fun K hK => ?_) AllReadyH.nil
        go_simp; go_at_call 26; refine (HSS.out _ hS).mono ?_
        rintro e wy ⟨rfl, hby⟩
        refine hK.out _ _ (hS.trans (hby.mono hS.size)) (fun hS => ?_)
        clear hK K
        (try simp only [Act.put, List.getElem_toArray, List.getElem_cons_succ, List.getElem_cons_zero, List.setIfInBounds_toArray, List.set_cons_zero, List.set_cons_succ])
        refine wpAnyH_take (i := 10) (oi := _) (v := ?_) rfl (by kernel_rfl) (by kernel_rfl) (by kernel_rfl) (fun _ _ _ h => h) (Or.inl ⟨by rfl, ?_⟩) hS ?_
        rotate_left
        · intro w' hw'
          have hcells := HC24.out w' hw'
          obtain ⟨⟨u0, u1⟩, v0, v1⟩ := hcells; go_simp
          (try with_reducible rfl)
        simp only [Act.put, List.getElem_toArray, List.getElem_cons_succ, List.getElem_cons_zero, List.setIfInBounds_toArray, List.set_cons_zero, List.set_cons_succ]
        refine wpAnyH_done (by kernel_rfl) ?_ _
        (try dsimp only)
        have HBZ := hid hS
        clear hS
        go_wp2
        go_roundw
        case rel => exact ⟨j + 1, by omega, by go_num, HBR.out.trans (HBZ.out.mono HBR.out.size)⟩
        case measure => simp [intOf]; omega
      · obtain rfl : n = j := by omega
        have HUP8 : Hid (∀ w', Below ws.heap.size ws w' → Below w.heap.size w w' ∧ Below wm.heap.size wm w') := hid fun w' h => ⟨HUP7.out _ (HBR.out.trans (h.mono HBR.out.size)), HUM7.out _ (HBR.out.trans (h.mono HBR.out.size))⟩
        clear hbr hlt
        have HNV : Hid (anyHv l = true) := hid HWB.out.symm
        have HWS : Hid (Below wp.heap.size wp ws) := hid (HB5S.out.trans (HBR.out.mono HB5S.out.size))
        have CM8 : Hid (∀ w', Below ws.heap.size ws w' → Ten w' w5.heap.size cm ∧ w'.cell? ⟨w3.heap.size, 0, none⟩ = some (.int .i64 9) ∧ w'.cell? ⟨w3.heap.size, 1, none⟩ = some (.int .i64 0) ∧ w'.cell? ⟨w3.heap.size, 2, none⟩ = some (.int .i64 0) ∧ w'.cell? ⟨w3.heap.size, 3, none⟩ = some (.string ⟨#[]⟩) ∧ w'.cell? ⟨w3.heap.size, 4, none⟩ = some (.slice none 0 0) ∧ w'.cell? ⟨w3.heap.size, 5, none⟩ = some (.slice none 0 0)) := hid fun w' h => by
          have h2 := (HUP8.out _ h).2
          have g := heapExt h2 HVB.out
          exact ⟨tenOf (heapExt h2 HMB.out), cellOf g 0, cellOf g 1, cellOf g 2, cellOf g 3, cellOf g 4, cellOf g 5⟩
        have SC8 : Hid (∀ w', Below ws.heap.size ws w' → w'.cell? ⟨w.heap.size, 0, none⟩ = some (.int .i64 s.e) ∧ w'.cell? ⟨w.heap.size, 1, none⟩ = some (.slice s.a s.n s.c)) := hid fun w' h => CEL.out _ (HBM.out.trans ((HUP8.out _ h).2.mono HBM.out.size))
        dsimp only [Ten] at CM8
        obtain ⟨⟨q0, q1, q2, q3, q4, q5, q6, q7, q8, q9⟩, r0, r1, r2, r3, r4, r5⟩ := CM8.out _ (Below.refl _ _)
        have hn0 : ¬ n = 0 := fun h => by
          have hl : l = [] := List.eq_nil_of_length_eq_zero (by rw [← HL.out]; exact h)
          have := HNV.out
          rw [hl] at this
          exact absurd this (by decide)
        have hn2 : ((n : Int) == 0) = false := by simp [hn0]
        have HN0 := hid hn0
        clear hn0
        have HM := hid (show mergeE l = 38 by rw [mergeE, if_neg (by have := HL.out; have := HN0.out; omega), if_pos (by rw [massE_eq l 0 (by decide), HNV.out, Bool.true_or])])
        have hmi : IsMsg (· < ws.heap.size) ws cm zMsg := by
          have h := HCM.out
          rw [mergeD, if_neg (by rw [HM.out]; decide)] at h
          have hm := (HUP8.out _ (Below.refl _ _)).2
          exact h.same fun b q => ⟨Nat.lt_of_lt_of_le (HUM5.out b q) hm.size, hm.block b (HUM5.out b q)⟩
        have HSA : Hid (Calls Tryz.prog 21 #[.agg #[.int .i64 cm.st.e, .slice cm.st.a cm.st.n cm.st.c, .int .i64 cm.m, .slice cm.a cm.n cm.c, .int .i64 cm.b.k, .int .i64 cm.b.i, .int .i64 cm.b.s, .string cm.b.t, .slice cm.b.la cm.b.ll cm.b.lc, .slice cm.b.fa cm.b.fl cm.b.fc], .agg #[.int .i64 0, .slice none 0 0, .int .i64 0, .slice none 0 0, .int .i64 0, .int .i64 0, .int .i64 0, .string ⟨#[]⟩, .slice none 0 0, .slice none 0 0]] ws fun e w2 => e = .returned (.bool true) ∧ Below ws.heap.size ws w2) := hid (by
          have hc := same_call cm zMC zMsg zMsg ws hmi (zMsg_is _ _)
          rw [msgEqB_refl] at hc
          exact hc)
        have hME := HM.out
        rw [hME]
        clear hmi hME
        go_wp2_with (go_at_call 21; refine HSA.out.mono ?_; rintro e wy ⟨rfl, hby⟩)
        go_ret
        exact ⟨rfl, (HUP8.out _ hby).1⟩
    | false =>
      have HMS : Hid (∀ w', Below wm.heap.size wm w' → Calls Tryz.prog 25 #[.slice a n c] w' fun e w2 => e = .returned (.int .i64 z) ∧ Below w'.heap.size w' w2) := hid fun w' h => by
        have hc := mass_call a n c l w' (HDU.out w' (HUPM.out _ h))
        rw [show massL l = z by rw [massL, if_neg (fun h => by rcases h with h | h; have := HL.out; have := HN20.out; omega; rw [← HWB.out] at h; cases h), ← law_sum HWB.out.symm, ← HZ0.out]] at hc
        exact hc
      go_wp2_with (first
        | (go_at_call 25; refine (HMS.out _ hb6').mono ?_; rintro e w7 ⟨rfl, hb7⟩)
        | (go_at_call 24; refine HST.out.mono ?_; rintro e w6 ⟨a6, c6, rfl, hb6, hr6⟩; have HR6 := hid hr6; clear hr6; have hb6' := HBR.out.trans (hb6.mono HBR.out.size)))
      have HB67 := hid hb7
      have HUM7 : Hid (∀ w', Below w7.heap.size w7 w' → Below wm.heap.size wm w') := hid fun w' h => hb6'.trans ((hb7.trans (h.mono hb7.size)).mono hb6'.size)
      have HUP7 : Hid (∀ w', Below w7.heap.size w7 w' → Below w.heap.size w w') := hid fun w' h => HUPM.out _ (HUM7.out _ h)
      have HB5S : Hid (Below wp.heap.size wp w7) := hid (hb6.trans (hb7.mono hb6.size))
      clear hb6 hb6' hb7 HBR
      go_loopw [14] (fun i wr2 => ∃ j : Nat, j ≤ n ∧ i = .int .i64 j ∧ Below w7.heap.size w7 wr2) (fun i _ => n - (intOf i).toNat)
      case atStart => exact ⟨0, Nat.zero_le _, rfl, Below.refl _ _⟩
      case round =>
      obtain ⟨j, hj, rfl, hbr⟩ := hrel
      obtain ⟨ws, hws⟩ : ∃ ws, ws = wr := ⟨_, rfl⟩
      rw [← hws] at hbr ⊢
      clear hws
      have HBR := hid hbr
      by_cases hlt : j < n
      · have hjl : j < l.length := by have := HL.out; omega
        obtain ⟨b, o, hab, hb, hx⟩ := HD.out.slot (show 0 < n by omega)
        subst hab
        obtain ⟨x, hxa, hxi⟩ := hx j hjl
        obtain ⟨b6, o6, hab6, hb6, hx6⟩ := HR6.out.slot (show 0 < n by omega)
        subst hab6
        obtain ⟨y, hya, hyi⟩ := hx6 j (by rw [List.length_map]; exact hjl)
        obtain ⟨d, hd⟩ : ∃ d, d = l[j].st := ⟨_, rfl⟩
        have hxs := hxi.st
        rw [← hd] at hxs
        have hys : IsSt (fun b => wp.heap.size ≤ b ∧ b < w6.heap.size) w6 y d := by rw [hd]; have := hyi; rw [List.getElem_map] at this; exact this
        have HXA := hid hxa
        have HYA := hid hya
        have HC24 : Hid (∀ w', Below ws.heap.size ws w' → (w'.cell? ⟨b6, o6 + j * 2, none⟩ = some (.int .i64 y.e) ∧ w'.cell? ⟨b6, o6 + j * 2 + 1, none⟩ = some (.slice y.a y.n y.c)) ∧ (w'.cell? ⟨b, o + j * 10, none⟩ = some (.int .i64 x.st.e) ∧ w'.cell? ⟨b, o + j * 10 + 1, none⟩ = some (.slice x.st.a x.st.n x.st.c))) := hid fun w' h => by
          have h1 := HBR.out.trans (h.mono HBR.out.size)
          have h2 := HB67.out.trans (h1.mono HB67.out.size)
          have h3 := HUP7.out _ h1
          obtain ⟨x0, x1, _⟩ := (HXA.out.same (h3.block b hb)).m
          obtain ⟨y0, y1⟩ := (HYA.out.same (h2.block b6 hb6.2)).two
          exact ⟨⟨y0, y1⟩, x0, x1⟩
        have HSS : Hid (∀ w', Below ws.heap.size ws w' → Calls Tryz.prog 26 #[.agg #[.int .i64 y.e, .slice y.a y.n y.c], .agg #[.int .i64 x.st.e, .slice x.st.a x.st.n x.st.c]] w' fun e w2 => e = .returned (.bool true) ∧ Below w'.heap.size w' w2) := hid fun w' h => by
          have h1 := HBR.out.trans (h.mono HBR.out.size)
          have h2 := HB67.out.trans (h1.mono HB67.out.size)
          have h3 := HUP7.out _ h1
          have hc := sameStamp_call y x.st d d w' (hys.same fun b q => ⟨Nat.lt_of_lt_of_le q.2 h2.size, h2.block b q.2⟩) (hxs.same fun b q => ⟨Nat.lt_of_lt_of_le q h3.size, h3.block b q⟩)
          rw [stEqB_refl] at hc
          exact hc
        have hlt' : (j : Int) < (n : Int) := by omega
        have hj0 : (0 : Int) ≤ (j : Int) := by omega
        clear hx hxa hxi hx6 hya hyi hxs hys hd hb hb6 hbr
        go_upto_region 24 with (fail)
        refine wp_region_split 11 (fun w' => Below ws.heap.size ws w') (by kernel_rfl) (by kernel_rfl) (by kernel_rfl) (by decide) ((Below.refl _ _).drew) (fun hS => ?_)
        simp only [List.take_succ_cons, List.take_zero, List.drop_succ_cons, List.drop_zero]
        refine wpAnyH_take (i := 0) (oi := _) (v := ?_) rfl (by kernel_rfl) (by kernel_rfl) (by kernel_rfl) (fun _ _ _ h => h) (Or.inl ⟨by rfl, ?_⟩) hS ?_
        rotate_left
        · intro w' hw'
          have hcells := HC24.out w' hw'
          obtain ⟨⟨u0, u1⟩, v0, v1⟩ := hcells; go_simp
          (try with_reducible rfl)
        simp only [Act.put, List.getElem_toArray, List.getElem_cons_succ, List.getElem_cons_zero, List.setIfInBounds_toArray, List.set_cons_zero, List.set_cons_succ]
        refine wpAnyH_take (i := 1) (oi := _) (v := ?_) rfl (by kernel_rfl) (by kernel_rfl) (by kernel_rfl) (fun _ _ _ h => h) (Or.inl ⟨by rfl, ?_⟩) hS ?_
        rotate_left
        · intro w' hw'
          have hcells := HC24.out w' hw'
          obtain ⟨⟨u0, u1⟩, v0, v1⟩ := hcells; go_simp
          (try with_reducible rfl)
        simp only [Act.put, List.getElem_toArray, List.getElem_cons_succ, List.getElem_cons_zero, List.setIfInBounds_toArray, List.set_cons_zero, List.set_cons_succ]
        refine wpAnyH_take (i := 2) (oi := _) (v := ?_) rfl (by kernel_rfl) (by kernel_rfl) (by kernel_rfl) (fun _ _ _ h => h) (Or.inl ⟨by rfl, ?_⟩) hS ?_
        rotate_left
        · intro w' hw'
          have hcells := HC24.out w' hw'
          obtain ⟨⟨u0, u1⟩, v0, v1⟩ := hcells; go_simp
          (try with_reducible rfl)
        simp only [Act.put, List.getElem_toArray, List.getElem_cons_succ, List.getElem_cons_zero, List.setIfInBounds_toArray, List.set_cons_zero, List.set_cons_succ]
        refine wpAnyH_take (i := 3) (oi := _) (v := ?_) rfl (by kernel_rfl) (by kernel_rfl) (by kernel_rfl) (fun _ _ _ h => h) (Or.inl ⟨by rfl, ?_⟩) hS ?_
        rotate_left
        · intro w' hw'
          have hcells := HC24.out w' hw'
          obtain ⟨⟨u0, u1⟩, v0, v1⟩ := hcells; go_simp
          (try with_reducible rfl)
        simp only [Act.put, List.getElem_toArray, List.getElem_cons_succ, List.getElem_cons_zero, List.setIfInBounds_toArray, List.set_cons_zero, List.set_cons_succ]
        refine wpAnyH_take (i := 4) (oi := _) (v := ?_) rfl (by kernel_rfl) (by kernel_rfl) (by kernel_rfl) (fun _ _ _ h => h) (Or.inl ⟨by rfl, ?_⟩) hS ?_
        rotate_left
        · intro w' hw'
          have hcells := HC24.out w' hw'
          obtain ⟨⟨u0, u1⟩, v0, v1⟩ := hcells; go_simp
          (try with_reducible rfl)
        simp only [Act.put, List.getElem_toArray, List.getElem_cons_succ, List.getElem_cons_zero, List.setIfInBounds_toArray, List.set_cons_zero, List.set_cons_succ]
        refine wpAnyH_take (i := 5) (oi := _) (v := ?_) rfl (by kernel_rfl) (by kernel_rfl) (by kernel_rfl) (fun _ _ _ h => h) (Or.inl ⟨by rfl, ?_⟩) hS ?_
        rotate_left
        · intro w' hw'
          have hcells := HC24.out w' hw'
          obtain ⟨⟨u0, u1⟩, v0, v1⟩ := hcells; go_simp
          (try with_reducible rfl)
        simp only [Act.put, List.getElem_toArray, List.getElem_cons_succ, List.getElem_cons_zero, List.setIfInBounds_toArray, List.set_cons_zero, List.set_cons_succ]
        refine wpAnyH_take (i := 6) (oi := _) (v := ?_) rfl (by kernel_rfl) (by kernel_rfl) (by kernel_rfl) (fun _ _ _ h => h) (Or.inl ⟨by rfl, ?_⟩) hS ?_
        rotate_left
        · intro w' hw'
          have hcells := HC24.out w' hw'
          obtain ⟨⟨u0, u1⟩, v0, v1⟩ := hcells; go_simp
          (try with_reducible rfl)
        simp only [Act.put, List.getElem_toArray, List.getElem_cons_succ, List.getElem_cons_zero, List.setIfInBounds_toArray, List.set_cons_zero, List.set_cons_succ]
        refine wpAnyH_take (i := 7) (oi := _) (v := ?_) rfl (by kernel_rfl) (by kernel_rfl) (by kernel_rfl) (fun _ _ _ h => h) (Or.inl ⟨by rfl, ?_⟩) hS ?_
        rotate_left
        · intro w' hw'
          have hcells := HC24.out w' hw'
          obtain ⟨⟨u0, u1⟩, v0, v1⟩ := hcells; go_simp
          (try with_reducible rfl)
        simp only [Act.put, List.getElem_toArray, List.getElem_cons_succ, List.getElem_cons_zero, List.setIfInBounds_toArray, List.set_cons_zero, List.set_cons_succ]
        refine wpAnyH_take (i := 8) (oi := _) (v := ?_) rfl (by kernel_rfl) (by kernel_rfl) (by kernel_rfl) (fun _ _ _ h => h) (Or.inl ⟨by rfl, ?_⟩) hS ?_
        rotate_left
        · intro w' hw'
          have hcells := HC24.out w' hw'
          obtain ⟨⟨u0, u1⟩, v0, v1⟩ := hcells; go_simp
          (try with_reducible rfl)
        simp only [Act.put, List.getElem_toArray, List.getElem_cons_succ, List.getElem_cons_zero, List.setIfInBounds_toArray, List.set_cons_zero, List.set_cons_succ]
        refine wpAnyH_ready (rs := [9]) (by kernel_rfl) (by simp) ?_
        refine AllReadyH.cons (o := _) rfl (fun K hK => ?_) AllReadyH.nil
        go_simp; go_at_call 26; refine (HSS.out _ hS).mono ?_
        rintro e wy ⟨rfl, hby⟩
        refine hK.out _ _ (hS.trans (hby.mono hS.size)) (fun hS => ?_)
        clear hK K
        (try simp only [Act.put, List.getElem_toArray, List.getElem_cons_succ, List.getElem_cons_zero, List.setIfInBounds_toArray, List.set_cons_zero, List.set_cons_succ])
        refine wpAnyH_take (i := 10) (oi := _) (v := ?_) rfl (by kernel_rfl) (by kernel_rfl) (by kernel_rfl) (fun _ _ _ h => h) (Or.inl ⟨by rfl, ?_⟩) hS ?_
        rotate_left
        · intro w' hw'
          have hcells := HC24.out w' hw'
          obtain ⟨⟨u0, u1⟩, v0, v1⟩ := hcells; go_simp
          (try with_reducible rfl)
        simp only [Act.put, List.getElem_toArray, List.getElem_cons_succ, List.getElem_cons_zero, List.setIfInBounds_toArray, List.set_cons_zero, List.set_cons_succ]
        refine wpAnyH_done (by kernel_rfl) ?_ _
        (try dsimp only)
        have HBZ := hid hS
        clear hS
        go_wp2
        go_roundw
        case rel => exact ⟨j + 1, by omega, by go_num, HBR.out.trans (HBZ.out.mono HBR.out.size)⟩
        case measure => simp [intOf]; omega
      · obtain rfl : n = j := by omega
        have HUP8 : Hid (∀ w', Below ws.heap.size ws w' → Below w.heap.size w w' ∧ Below wm.heap.size wm w') := hid fun w' h => ⟨HUP7.out _ (HBR.out.trans (h.mono HBR.out.size)), HUM7.out _ (HBR.out.trans (h.mono HBR.out.size))⟩
        clear hbr hlt
        have HNV : Hid (anyHv l = false) := hid HWB.out.symm
        have HZS : Hid (z = sumM l) := hid (by rw [HZ0.out, law_sum HWB.out.symm])
        have HWS : Hid (Below wp.heap.size wp ws) := hid (HB5S.out.trans (HBR.out.mono HB5S.out.size))
        have CM8 : Hid (∀ w', Below ws.heap.size ws w' → Ten w' w5.heap.size cm ∧ w'.cell? ⟨w3.heap.size, 0, none⟩ = some (.int .i64 9) ∧ w'.cell? ⟨w3.heap.size, 1, none⟩ = some (.int .i64 0) ∧ w'.cell? ⟨w3.heap.size, 2, none⟩ = some (.int .i64 0) ∧ w'.cell? ⟨w3.heap.size, 3, none⟩ = some (.string ⟨#[]⟩) ∧ w'.cell? ⟨w3.heap.size, 4, none⟩ = some (.slice none 0 0) ∧ w'.cell? ⟨w3.heap.size, 5, none⟩ = some (.slice none 0 0)) := hid fun w' h => by
          have h2 := (HUP8.out _ h).2
          have g := heapExt h2 HVB.out
          exact ⟨tenOf (heapExt h2 HMB.out), cellOf g 0, cellOf g 1, cellOf g 2, cellOf g 3, cellOf g 4, cellOf g 5⟩
        have SC8 : Hid (∀ w', Below ws.heap.size ws w' → w'.cell? ⟨w.heap.size, 0, none⟩ = some (.int .i64 s.e) ∧ w'.cell? ⟨w.heap.size, 1, none⟩ = some (.slice s.a s.n s.c)) := hid fun w' h => CEL.out _ (HBM.out.trans ((HUP8.out _ h).2.mono HBM.out.size))
        dsimp only [Ten] at CM8
        obtain ⟨⟨q0, q1, q2, q3, q4, q5, q6, q7, q8, q9⟩, r0, r1, r2, r3, r4, r5⟩ := CM8.out _ (Below.refl _ _)
        by_cases hn0 : n = 0
        · have HN0 := hid hn0
          subst hn0
          have HM := hid (show mergeE l = 4 by rw [mergeE, if_pos (by have := HL.out; omega)])
          have hmi : IsMsg (· < ws.heap.size) ws cm zMsg := by
            have h := HCM.out
            rw [mergeD, if_neg (by rw [HM.out]; decide)] at h
            have hm := (HUP8.out _ (Below.refl _ _)).2
            exact h.same fun b q => ⟨Nat.lt_of_lt_of_le (HUM5.out b q) hm.size, hm.block b (HUM5.out b q)⟩
          have HSA : Hid (Calls Tryz.prog 21 #[.agg #[.int .i64 cm.st.e, .slice cm.st.a cm.st.n cm.st.c, .int .i64 cm.m, .slice cm.a cm.n cm.c, .int .i64 cm.b.k, .int .i64 cm.b.i, .int .i64 cm.b.s, .string cm.b.t, .slice cm.b.la cm.b.ll cm.b.lc, .slice cm.b.fa cm.b.fl cm.b.fc], .agg #[.int .i64 0, .slice none 0 0, .int .i64 0, .slice none 0 0, .int .i64 0, .int .i64 0, .int .i64 0, .string ⟨#[]⟩, .slice none 0 0, .slice none 0 0]] ws fun e w2 => e = .returned (.bool true) ∧ Below ws.heap.size ws w2) := hid (by
            have hc := same_call cm zMC zMsg zMsg ws hmi (zMsg_is _ _)
            rw [msgEqB_refl] at hc
            exact hc)
          have hME := HM.out
          rw [hME]
          clear hmi hME
          go_wp2_with (go_at_call 21; refine HSA.out.mono ?_; rintro e wy ⟨rfl, hby⟩)
          go_ret
          exact ⟨rfl, (HUP8.out _ hby).1⟩
        have hn2 : ((n : Int) == 0) = false := by simp [hn0]
        have HN0 := hid hn0
        by_cases hzb : 1099511627776 < z
        · clear hn0
          have HM := hid (show mergeE l = 38 by rw [mergeE, if_neg (by have := HL.out; have := HN0.out; omega), if_pos (by rw [massE_eq l 0 (by decide), HNV.out, Bool.false_or, Int.zero_add, ← HZS.out]; exact decide_eq_true hzb)])
          have hmi : IsMsg (· < ws.heap.size) ws cm zMsg := by
            have h := HCM.out
            rw [mergeD, if_neg (by rw [HM.out]; decide)] at h
            have hm := (HUP8.out _ (Below.refl _ _)).2
            exact h.same fun b q => ⟨Nat.lt_of_lt_of_le (HUM5.out b q) hm.size, hm.block b (HUM5.out b q)⟩
          have HSA : Hid (Calls Tryz.prog 21 #[.agg #[.int .i64 cm.st.e, .slice cm.st.a cm.st.n cm.st.c, .int .i64 cm.m, .slice cm.a cm.n cm.c, .int .i64 cm.b.k, .int .i64 cm.b.i, .int .i64 cm.b.s, .string cm.b.t, .slice cm.b.la cm.b.ll cm.b.lc, .slice cm.b.fa cm.b.fl cm.b.fc], .agg #[.int .i64 0, .slice none 0 0, .int .i64 0, .slice none 0 0, .int .i64 0, .int .i64 0, .int .i64 0, .string ⟨#[]⟩, .slice none 0 0, .slice none 0 0]] ws fun e w2 => e = .returned (.bool true) ∧ Below ws.heap.size ws w2) := hid (by
            have hc := same_call cm zMC zMsg zMsg ws hmi (zMsg_is _ _)
            rw [msgEqB_refl] at hc
            exact hc)
          have hME := HM.out
          rw [hME]
          clear hmi hME
          go_wp2_with (go_at_call 21; refine HSA.out.mono ?_; rintro e wy ⟨rfl, hby⟩)
          go_ret
          exact ⟨rfl, (HUP8.out _ hby).1⟩
        have HME : Hid (massE 0 l = false) := hid (by rw [massE_eq l 0 (by decide), HNV.out, Bool.false_or, Int.zero_add, ← HZS.out]; exact decide_eq_false hzb)
        by_cases hnb : 4096 < na
        · have hnb' : (4096 : Int) < (na : Int) := by omega
          clear hn0
          have HM := hid (show mergeE l = 9 by rw [mergeE, if_neg (by have := HL.out; have := HN0.out; omega), if_neg (by rw [HME.out]; decide), if_pos (by have := HNA.out; have := all_orgs HNV.out; omega)])
          have hmi : IsMsg (· < ws.heap.size) ws cm zMsg := by
            have h := HCM.out
            rw [mergeD, if_neg (by rw [HM.out]; decide)] at h
            have hm := (HUP8.out _ (Below.refl _ _)).2
            exact h.same fun b q => ⟨Nat.lt_of_lt_of_le (HUM5.out b q) hm.size, hm.block b (HUM5.out b q)⟩
          have HSA : Hid (Calls Tryz.prog 21 #[.agg #[.int .i64 cm.st.e, .slice cm.st.a cm.st.n cm.st.c, .int .i64 cm.m, .slice cm.a cm.n cm.c, .int .i64 cm.b.k, .int .i64 cm.b.i, .int .i64 cm.b.s, .string cm.b.t, .slice cm.b.la cm.b.ll cm.b.lc, .slice cm.b.fa cm.b.fl cm.b.fc], .agg #[.int .i64 0, .slice none 0 0, .int .i64 0, .slice none 0 0, .int .i64 0, .int .i64 0, .int .i64 0, .string ⟨#[]⟩, .slice none 0 0, .slice none 0 0]] ws fun e w2 => e = .returned (.bool true) ∧ Below ws.heap.size ws w2) := hid (by
            have hc := same_call cm zMC zMsg zMsg ws hmi (zMsg_is _ _)
            rw [msgEqB_refl] at hc
            exact hc)
          have hME := HM.out
          rw [hME]
          clear hmi hME
          go_wp2_with (go_at_call 21; refine HSA.out.mono ?_; rintro e wy ⟨rfl, hby⟩)
          go_ret
          exact ⟨rfl, (HUP8.out _ hby).1⟩
        have hnb' : ¬ (4096 : Int) < (na : Int) := by omega
        have HM := hid (show mergeE l = 0 by rw [mergeE, if_neg (by have := HL.out; omega), if_neg (by rw [HME.out]; decide), if_neg (by have := HNA.out; have := all_orgs HNV.out; omega)])
        have hmi : IsMsg (· < ws.heap.size) ws cm ⟨ds, sumM l, orgs l, bVal⟩ := by
          have h := HCM.out
          rw [mergeD, if_pos HM.out] at h
          have hm := (HUP8.out _ (Below.refl _ _)).2
          exact h.same fun b q => ⟨Nat.lt_of_lt_of_le (HUM5.out b q) hm.size, hm.block b (HUM5.out b q)⟩
        have HMI := hid hmi
        have hme : mergeE l = 0 := HM.out
        rw [hme]
        have hmm : z = cm.m := by rw [HZS.out]; exact hmi.m.symm
        have hmn : cm.n = (orgs l).length := hmi.es.len
        have hmn2 : na = cm.n := by rw [hmn, HNA.out, all_orgs HNV.out]
        have hcmb := hmi.es.big
        have HS1 : Hid (∀ w', Below ws.heap.size ws w' → Calls Tryz.prog 26 #[.agg #[.int .i64 cm.st.e, .slice cm.st.a cm.st.n cm.st.c], .agg #[.int .i64 s.e, .slice s.a s.n s.c]] w' fun e w2 => e = .returned (.bool true) ∧ Below w'.heap.size w' w2) := hid fun w' h => by
          have h3 := (HUP8.out _ h).1
          have hc := sameStamp_call cm.st s ds ds w' (HMI.out.st.same fun b q => ⟨Nat.lt_of_lt_of_le q h.size, h.block b q⟩) (HSI.out.same fun b q => ⟨Nat.lt_of_lt_of_le q h3.size, h3.block b q⟩)
          rw [stEqB_refl] at hc
          exact hc
        have HEQ : Hid (∀ w', Below ws.heap.size ws w' → Calls Tryz.prog 14 #[.agg #[.int .i64 cm.b.k, .int .i64 cm.b.i, .int .i64 cm.b.s, .string cm.b.t, .slice cm.b.la cm.b.ll cm.b.lc, .slice cm.b.fa cm.b.fl cm.b.fc], .agg #[.int .i64 9, .int .i64 0, .int .i64 0, .string ⟨#[]⟩, .slice none 0 0, .slice none 0 0]] w' fun e w2 => e = .returned (.bool true) ∧ Below w'.heap.size w' w2) := hid fun w' h => by
          have hc := valEqual_call cm.b ⟨9, 0, 0, ⟨#[]⟩, none, 0, 0, none, 0, 0⟩ bVal bVal w' (HMI.out.b.same fun b q => ⟨Nat.lt_of_lt_of_le q h.size, h.block b q⟩) (bVal_is _ _)
          rw [cmpV_refl] at hc
          exact hc
        have HMN := hid hmn
        clear hmi hme hmn
        subst hmm hmn2
        obtain ⟨g0, g1⟩ := SC8.out _ (Below.refl _ _)
        go_wp2_with (first
          | (go_at_call 14; refine (HEQ.out _ hby).mono ?_; rintro e wx ⟨rfl, hbx'⟩; have hbx := hby.trans (hbx'.mono hby.size))
          | (go_at_call 26; refine (HS1.out _ (Below.refl _ _)).mono ?_; rintro e wy ⟨rfl, hby⟩; clear q0 q1 q2 q3 q4 q5 q6 q7 q8 q9 r0 r1 r2 r3 r4 r5 g0 g1; obtain ⟨⟨q0, q1, q2, q3, q4, q5, q6, q7, q8, q9⟩, r0, r1, r2, r3, r4, r5⟩ := CM8.out _ hby))
        have HBX := hid hbx
        clear q0 q1 q2 q3 q4 q5 q6 q7 q8 q9 r0 r1 r2 r3 r4 r5 HS1 HEQ hby hbx' hbx
        go_loopw [15] (fun i wr2 => ∃ j : Nat, j ≤ cm.n ∧ i = .int .i64 j ∧ Below wx.heap.size wx wr2) (fun i _ => cm.n - (intOf i).toNat)
        case atStart => exact ⟨0, Nat.zero_le _, rfl, Below.refl _ _⟩
        case round =>
        obtain ⟨j, hj, rfl, hbr⟩ := hrel
        obtain ⟨wv, hwv⟩ : ∃ wv, wv = wr := ⟨_, rfl⟩
        rw [← hwv] at hbr ⊢
        clear hwv
        have HBR9 := hid hbr
        have HUV : Hid (∀ w', Below wv.heap.size wv w' → Below ws.heap.size ws w') := hid fun w' h => HBX.out.trans ((HBR9.out.trans (h.mono HBR9.out.size)).mono HBX.out.size)
        obtain ⟨⟨q0, q1, q2, q3, q4, q5, q6, q7, q8, q9⟩, r0, r1, r2, r3, r4, r5⟩ := CM8.out _ (HUV.out _ (Below.refl _ _))
        clear hbr
        by_cases hlt : j < cm.n
        · have hjl : j < (orgs l).length := by have := HMN.out; omega
          obtain ⟨eb, eo, hea, heb, hec⟩ := HMI.out.es.slot (show 0 < cm.n by omega)
          obtain ⟨y, hy⟩ : ∃ y, y = (orgs l)[j] := ⟨_, rfl⟩
          have hlt' : (j : Int) < (cm.n : Int) := by omega
          have hj0 : (0 : Int) ≤ (j : Int) := by omega
          have hhas : y ∈ allL l := all_has HNV.out y (by rw [hy]; exact List.getElem_mem hjl)
          have HHAS : Hid (∀ w', Below wv.heap.size wv w' → Calls Tryz.prog 23 #[.slice av cm.n ac, .int .i64 y] w' fun e w2 => e = .returned (.bool true) ∧ w' = w2) := hid fun w' h => by
            have h1 := HUV.out _ h
            have h2 := HWS.out.trans (h1.mono HWS.out.size)
            have hc := has_call av cm.n ac (allL l) y (fun b => b < w'.heap.size) w' (HAI.out.same fun b q => ⟨Nat.lt_of_lt_of_le q.2 h2.size, h2.block b q.2⟩)
            rw [decide_eq_true hhas] at hc
            exact hc.mono fun e w' ⟨h1, h2⟩ => ⟨h1, h2.symm⟩
          by_cases hjz : j = 0
          · have hj6 : ¬ (0 : Int) < (j : Int) := by omega
            have hjd : decide ((0 : Int) < (j : Int)) = false := decide_eq_false hj6
            have hjd2 : decide (0 < j) = false := decide_eq_false (by omega)
            have HC37 : Hid (∀ w', Below wv.heap.size wv w' → w'.cell? ⟨w5.heap.size, 3, none⟩ = some (.slice (some ⟨eb, eo, none⟩) cm.n cm.c) ∧ w'.cell? ⟨eb, eo + j, none⟩ = some (.int .i64 y)) := hid fun w' h => by
              have h1 := HUV.out _ h
              have h2 := (CM8.out _ h1).1
              refine ⟨by rw [← hea]; exact h2.2.2.2.1, ?_⟩
              have h3 := (World.cell?_of_block (w := ws) (a := ⟨eb, eo + j, none⟩) (h1.block eb heb)).trans (hec j hjl)
              rw [hy]
              exact h3
            clear hjz
            clear hec heb hy hhas
            clear q0 q1 q2 q4 q5 q6 q7 q8 q9 r0 r1 r2 r3 r4 r5
            go_upto_region 37 with (fail)
            refine wp_region_split 26 (fun w' => Below wv.heap.size wv w') (by kernel_rfl) (by kernel_rfl) (by kernel_rfl) (by decide) ((Below.refl _ _).drew) (fun hS => ?_)
            simp only [List.take_succ_cons, List.take_zero, List.drop_succ_cons, List.drop_zero]
            refine wpAnyH_take (i := 0) (oi := _) (v := ?_) rfl (by kernel_rfl) (by kernel_rfl) (by kernel_rfl) (fun _ _ _ h => h) (Or.inl ⟨by rfl, ?_⟩) hS ?_
            rotate_left
            · intro w' hw'
              have hcells := HC37.out w' hw'
              obtain ⟨t0, t1⟩ := hcells; go_simp
              (try with_reducible rfl)
            simp only [Act.put, List.getElem_toArray, List.getElem_cons_succ, List.getElem_cons_zero, List.setIfInBounds_toArray, List.set_cons_zero, List.set_cons_succ]
            refine wpAnyH_take (i := 1) (oi := _) (v := ?_) rfl (by kernel_rfl) (by kernel_rfl) (by kernel_rfl) (fun _ _ _ h => h) (Or.inl ⟨by rfl, ?_⟩) hS ?_
            rotate_left
            · intro w' hw'
              have hcells := HC37.out w' hw'
              obtain ⟨t0, t1⟩ := hcells; go_simp
              (try with_reducible rfl)
            simp only [Act.put, List.getElem_toArray, List.getElem_cons_succ, List.getElem_cons_zero, List.setIfInBounds_toArray, List.set_cons_zero, List.set_cons_succ]
            refine wpAnyH_take (i := 2) (oi := _) (v := ?_) rfl (by kernel_rfl) (by kernel_rfl) (by kernel_rfl) (fun _ _ _ h => h) (Or.inl ⟨by rfl, ?_⟩) hS ?_
            rotate_left
            · intro w' hw'
              have hcells := HC37.out w' hw'
              obtain ⟨t0, t1⟩ := hcells; go_simp
              (try with_reducible rfl)
            simp only [Act.put, List.getElem_toArray, List.getElem_cons_succ, List.getElem_cons_zero, List.setIfInBounds_toArray, List.set_cons_zero, List.set_cons_succ]
            refine wpAnyH_take (i := 3) (oi := _) (v := ?_) rfl (by kernel_rfl) (by kernel_rfl) (by kernel_rfl) (fun _ _ _ h => h) (Or.inl ⟨by rfl, ?_⟩) hS ?_
            rotate_left
            · intro w' hw'
              have hcells := HC37.out w' hw'
              obtain ⟨t0, t1⟩ := hcells; go_simp
              (try with_reducible rfl)
            simp only [Act.put, List.getElem_toArray, List.getElem_cons_succ, List.getElem_cons_zero, List.setIfInBounds_toArray, List.set_cons_zero, List.set_cons_succ]
            refine wpAnyH_take (i := 4) (oi := _) (v := ?_) rfl (by kernel_rfl) (by kernel_rfl) (by kernel_rfl) (fun _ _ _ h => h) (Or.inl ⟨by rfl, ?_⟩) hS ?_
            rotate_left
            · intro w' hw'
              have hcells := HC37.out w' hw'
              obtain ⟨t0, t1⟩ := hcells; go_simp
              (try with_reducible rfl)
            simp only [Act.put, List.getElem_toArray, List.getElem_cons_succ, List.getElem_cons_zero, List.setIfInBounds_toArray, List.set_cons_zero, List.set_cons_succ]
            refine wpAnyH_take (i := 5) (oi := _) (v := ?_) rfl (by kernel_rfl) (by kernel_rfl) (by kernel_rfl) (fun _ _ _ h => h) (Or.inl ⟨by rfl, ?_⟩) hS ?_
            rotate_left
            · intro w' hw'
              have hcells := HC37.out w' hw'
              obtain ⟨t0, t1⟩ := hcells; go_simp
              (try with_reducible rfl)
            simp only [Act.put, List.getElem_toArray, List.getElem_cons_succ, List.getElem_cons_zero, List.setIfInBounds_toArray, List.set_cons_zero, List.set_cons_succ]
            refine wpAnyH_ready (rs := [6]) (by kernel_rfl) (by simp) ?_
            refine AllReadyH.cons (o := _) rfl (fun K hK => ?_) AllReadyH.nil
            go_simp; go_at_call 23; refine (HHAS.out _ hS).mono ?_
            rintro e wy2 ⟨rfl, rfl⟩
            refine hK.out _ _ (hS) (fun hS => ?_)
            clear hK K
            (try simp only [Act.put, List.getElem_toArray, List.getElem_cons_succ, List.getElem_cons_zero, List.setIfInBounds_toArray, List.set_cons_zero, List.set_cons_succ])
            refine wpAnyH_take (i := 7) (oi := _) (v := ?_) rfl (by kernel_rfl) (by kernel_rfl) (by kernel_rfl) (fun _ _ _ h => h) (Or.inl ⟨by rfl, ?_⟩) hS ?_
            rotate_left
            · intro w' hw'
              have hcells := HC37.out w' hw'
              obtain ⟨t0, t1⟩ := hcells; go_simp
              (try with_reducible rfl)
            simp only [Act.put, List.getElem_toArray, List.getElem_cons_succ, List.getElem_cons_zero, List.setIfInBounds_toArray, List.set_cons_zero, List.set_cons_succ]
            refine wpAnyH_take (i := 8) (oi := _) (v := ?_) rfl (by kernel_rfl) (by kernel_rfl) (by kernel_rfl) (fun _ _ _ h => h) (Or.inl ⟨by rfl, ?_⟩) hS ?_
            rotate_left
            · intro w' hw'
              have hcells := HC37.out w' hw'
              obtain ⟨t0, t1⟩ := hcells; go_simp
              (try with_reducible rfl)
            simp only [Act.put, List.getElem_toArray, List.getElem_cons_succ, List.getElem_cons_zero, List.setIfInBounds_toArray, List.set_cons_zero, List.set_cons_succ]
            refine wpAnyH_take (i := 9) (oi := _) (v := ?_) rfl (by kernel_rfl) (by kernel_rfl) (by kernel_rfl) (fun _ _ _ h => h) (Or.inl ⟨by rfl, ?_⟩) hS ?_
            rotate_left
            · intro w' hw'
              have hcells := HC37.out w' hw'
              obtain ⟨t0, t1⟩ := hcells; go_simp
              (try with_reducible rfl)
            simp only [Act.put, List.getElem_toArray, List.getElem_cons_succ, List.getElem_cons_zero, List.setIfInBounds_toArray, List.set_cons_zero, List.set_cons_succ]
            refine wpAnyH_take (i := 10) (oi := _) (v := ?_) rfl (by kernel_rfl) (by kernel_rfl) (by kernel_rfl) (fun _ _ _ h => h) (Or.inl ⟨by rfl, ?_⟩) hS ?_
            rotate_left
            · intro w' hw'
              have hcells := HC37.out w' hw'
              obtain ⟨t0, t1⟩ := hcells; go_simp
              (try with_reducible rfl)
            simp only [Act.put, List.getElem_toArray, List.getElem_cons_succ, List.getElem_cons_zero, List.setIfInBounds_toArray, List.set_cons_zero, List.set_cons_succ]
            refine wpAnyH_take (i := 11) (oi := _) (v := ?_) rfl (by kernel_rfl) (by kernel_rfl) (by kernel_rfl) (fun _ _ _ h => h) (Or.inl ⟨by rfl, ?_⟩) hS ?_
            rotate_left
            · intro w' hw'
              have hcells := HC37.out w' hw'
              obtain ⟨t0, t1⟩ := hcells; go_simp
              (try with_reducible rfl)
            simp only [Act.put, List.getElem_toArray, List.getElem_cons_succ, List.getElem_cons_zero, List.setIfInBounds_toArray, List.set_cons_zero, List.set_cons_succ]
            refine wpAnyH_take (i := 12) (oi := _) (v := undef) rfl (by kernel_rfl) (by kernel_rfl) (by kernel_rfl) (fun _ _ _ h => h) (Or.inr ⟨by rfl, rfl⟩) hS ?_
            simp only [Act.put, List.getElem_toArray, List.getElem_cons_succ, List.getElem_cons_zero, List.setIfInBounds_toArray, List.set_cons_zero, List.set_cons_succ]
            refine wpAnyH_take (i := 13) (oi := _) (v := undef) rfl (by kernel_rfl) (by kernel_rfl) (by kernel_rfl) (fun _ _ _ h => h) (Or.inr ⟨by rfl, rfl⟩) hS ?_
            simp only [Act.put, List.getElem_toArray, List.getElem_cons_succ, List.getElem_cons_zero, List.setIfInBounds_toArray, List.set_cons_zero, List.set_cons_succ]
            refine wpAnyH_take (i := 14) (oi := _) (v := undef) rfl (by kernel_rfl) (by kernel_rfl) (by kernel_rfl) (fun _ _ _ h => h) (Or.inr ⟨by rfl, rfl⟩) hS ?_
            simp only [Act.put, List.getElem_toArray, List.getElem_cons_succ, List.getElem_cons_zero, List.setIfInBounds_toArray, List.set_cons_zero, List.set_cons_succ]
            refine wpAnyH_take (i := 15) (oi := _) (v := undef) rfl (by kernel_rfl) (by kernel_rfl) (by kernel_rfl) (fun _ _ _ h => h) (Or.inr ⟨by rfl, rfl⟩) hS ?_
            simp only [Act.put, List.getElem_toArray, List.getElem_cons_succ, List.getElem_cons_zero, List.setIfInBounds_toArray, List.set_cons_zero, List.set_cons_succ]
            refine wpAnyH_take (i := 16) (oi := _) (v := undef) rfl (by kernel_rfl) (by kernel_rfl) (by kernel_rfl) (fun _ _ _ h => h) (Or.inr ⟨by rfl, rfl⟩) hS ?_
            simp only [Act.put, List.getElem_toArray, List.getElem_cons_succ, List.getElem_cons_zero, List.setIfInBounds_toArray, List.set_cons_zero, List.set_cons_succ]
            refine wpAnyH_take (i := 17) (oi := _) (v := undef) rfl (by kernel_rfl) (by kernel_rfl) (by kernel_rfl) (fun _ _ _ h => h) (Or.inr ⟨by rfl, rfl⟩) hS ?_
            simp only [Act.put, List.getElem_toArray, List.getElem_cons_succ, List.getElem_cons_zero, List.setIfInBounds_toArray, List.set_cons_zero, List.set_cons_succ]
            refine wpAnyH_take (i := 18) (oi := _) (v := undef) rfl (by kernel_rfl) (by kernel_rfl) (by kernel_rfl) (fun _ _ _ h => h) (Or.inr ⟨by rfl, rfl⟩) hS ?_
            simp only [Act.put, List.getElem_toArray, List.getElem_cons_succ, List.getElem_cons_zero, List.setIfInBounds_toArray, List.set_cons_zero, List.set_cons_succ]
            refine wpAnyH_take (i := 19) (oi := _) (v := undef) rfl (by kernel_rfl) (by kernel_rfl) (by kernel_rfl) (fun _ _ _ h => h) (Or.inr ⟨by rfl, rfl⟩) hS ?_
            simp only [Act.put, List.getElem_toArray, List.getElem_cons_succ, List.getElem_cons_zero, List.setIfInBounds_toArray, List.set_cons_zero, List.set_cons_succ]
            refine wpAnyH_take (i := 20) (oi := _) (v := undef) rfl (by kernel_rfl) (by kernel_rfl) (by kernel_rfl) (fun _ _ _ h => h) (Or.inr ⟨by rfl, rfl⟩) hS ?_
            simp only [Act.put, List.getElem_toArray, List.getElem_cons_succ, List.getElem_cons_zero, List.setIfInBounds_toArray, List.set_cons_zero, List.set_cons_succ]
            refine wpAnyH_take (i := 21) (oi := _) (v := undef) rfl (by kernel_rfl) (by kernel_rfl) (by kernel_rfl) (fun _ _ _ h => h) (Or.inr ⟨by rfl, rfl⟩) hS ?_
            simp only [Act.put, List.getElem_toArray, List.getElem_cons_succ, List.getElem_cons_zero, List.setIfInBounds_toArray, List.set_cons_zero, List.set_cons_succ]
            refine wpAnyH_take (i := 22) (oi := _) (v := undef) rfl (by kernel_rfl) (by kernel_rfl) (by kernel_rfl) (fun _ _ _ h => h) (Or.inr ⟨by rfl, rfl⟩) hS ?_
            simp only [Act.put, List.getElem_toArray, List.getElem_cons_succ, List.getElem_cons_zero, List.setIfInBounds_toArray, List.set_cons_zero, List.set_cons_succ]
            refine wpAnyH_take (i := 23) (oi := _) (v := undef) rfl (by kernel_rfl) (by kernel_rfl) (by kernel_rfl) (fun _ _ _ h => h) (Or.inr ⟨by rfl, rfl⟩) hS ?_
            simp only [Act.put, List.getElem_toArray, List.getElem_cons_succ, List.getElem_cons_zero, List.setIfInBounds_toArray, List.set_cons_zero, List.set_cons_succ]
            refine wpAnyH_take (i := 24) (oi := _) (v := ?_) rfl (by kernel_rfl) (by kernel_rfl) (by kernel_rfl) (fun _ _ _ h => h) (Or.inl ⟨by rfl, ?_⟩) hS ?_
            rotate_left
            · intro w' hw'
              have hcells := HC37.out w' hw'
              obtain ⟨t0, t1⟩ := hcells; go_simp
              (try with_reducible rfl)
            simp only [Act.put, List.getElem_toArray, List.getElem_cons_succ, List.getElem_cons_zero, List.setIfInBounds_toArray, List.set_cons_zero, List.set_cons_succ]
            refine wpAnyH_take (i := 25) (oi := _) (v := ?_) rfl (by kernel_rfl) (by kernel_rfl) (by kernel_rfl) (fun _ _ _ h => h) (Or.inl ⟨by rfl, ?_⟩) hS ?_
            rotate_left
            · intro w' hw'
              have hcells := HC37.out w' hw'
              obtain ⟨t0, t1⟩ := hcells; go_simp
              (try with_reducible rfl)
            simp only [Act.put, List.getElem_toArray, List.getElem_cons_succ, List.getElem_cons_zero, List.setIfInBounds_toArray, List.set_cons_zero, List.set_cons_succ]
            refine wpAnyH_done (by kernel_rfl) ?_ _
            (try dsimp only)
            have HBZ := hid hS
            clear hS
            go_wp2
            go_roundw
            case rel => exact ⟨j + 1, by omega, by go_num, HBR9.out.trans (HBZ.out.mono HBR9.out.size)⟩
            case measure => simp [intOf]; omega
          · obtain ⟨y2, hy2⟩ : ∃ y2, y2 = (orgs l)[j - 1]'(by omega) := ⟨_, rfl⟩
            have hyy : y2 < y := by
              rw [hy, hy2]
              exact List.pairwise_iff_getElem.1 (orgs_lt l) (j - 1) j (by omega) hjl (by omega)
            have hyl : ¬ y ≤ y2 := by omega
            have hyd : decide (y ≤ y2) = false := decide_eq_false hyl
            have hj6 : (0 : Int) < (j : Int) := by omega
            have hjd : decide ((0 : Int) < (j : Int)) = true := decide_eq_true hj6
            have hjd2 : decide (0 < j) = true := decide_eq_true (by omega)
            have hwr : IntKind.i64.wrap ((j : Int) - 1) = (j : Int) - 1 := IntWalk.i64_in _ (by omega)
            have hj1 : (0 : Int) ≤ (j : Int) - 1 := by omega
            have hj2 : (1 : Int) ≤ (j : Int) := by omega
            have hj3 : 1 ≤ j := by omega
            have hj4 : (j : Int) - 1 < (cm.n : Int) := by omega
            have HC37 : Hid (∀ w', Below wv.heap.size wv w' → w'.cell? ⟨w5.heap.size, 3, none⟩ = some (.slice (some ⟨eb, eo, none⟩) cm.n cm.c) ∧ w'.cell? ⟨eb, eo + j, none⟩ = some (.int .i64 y) ∧ w'.cell? ⟨eb, eo + (j - 1), none⟩ = some (.int .i64 y2)) := hid fun w' h => by
              have h1 := HUV.out _ h
              have h2 := (CM8.out _ h1).1
              refine ⟨by rw [← hea]; exact h2.2.2.2.1, ?_, ?_⟩
              · have h3 := (World.cell?_of_block (w := ws) (a := ⟨eb, eo + j, none⟩) (h1.block eb heb)).trans (hec j hjl)
                rw [hy]
                exact h3
              · have h3 := (World.cell?_of_block (w := ws) (a := ⟨eb, eo + (j - 1), none⟩) (h1.block eb heb)).trans (hec (j - 1) (show j - 1 < (orgs l).length by omega))
                rw [hy2]
                exact h3
            clear hec heb hy hy2 hhas hyy
            clear q0 q1 q2 q4 q5 q6 q7 q8 q9 r0 r1 r2 r3 r4 r5
            go_upto_region 37 with (fail)
            refine wp_region_split 26 (fun w' => Below wv.heap.size wv w') (by kernel_rfl) (by kernel_rfl) (by kernel_rfl) (by decide) ((Below.refl _ _).drew) (fun hS => ?_)
            simp only [List.take_succ_cons, List.take_zero, List.drop_succ_cons, List.drop_zero]
            refine wpAnyH_take (i := 0) (oi := _) (v := ?_) rfl (by kernel_rfl) (by kernel_rfl) (by kernel_rfl) (fun _ _ _ h => h) (Or.inl ⟨by rfl, ?_⟩) hS ?_
            rotate_left
            · intro w' hw'
              have hcells := HC37.out w' hw'
              obtain ⟨t0, t1, t2⟩ := hcells; go_simp
              (try with_reducible rfl)
            simp only [Act.put, List.getElem_toArray, List.getElem_cons_succ, List.getElem_cons_zero, List.setIfInBounds_toArray, List.set_cons_zero, List.set_cons_succ]
            refine wpAnyH_take (i := 1) (oi := _) (v := ?_) rfl (by kernel_rfl) (by kernel_rfl) (by kernel_rfl) (fun _ _ _ h => h) (Or.inl ⟨by rfl, ?_⟩) hS ?_
            rotate_left
            · intro w' hw'
              have hcells := HC37.out w' hw'
              obtain ⟨t0, t1, t2⟩ := hcells; go_simp
              (try with_reducible rfl)
            simp only [Act.put, List.getElem_toArray, List.getElem_cons_succ, List.getElem_cons_zero, List.setIfInBounds_toArray, List.set_cons_zero, List.set_cons_succ]
            refine wpAnyH_take (i := 2) (oi := _) (v := ?_) rfl (by kernel_rfl) (by kernel_rfl) (by kernel_rfl) (fun _ _ _ h => h) (Or.inl ⟨by rfl, ?_⟩) hS ?_
            rotate_left
            · intro w' hw'
              have hcells := HC37.out w' hw'
              obtain ⟨t0, t1, t2⟩ := hcells; go_simp
              (try with_reducible rfl)
            simp only [Act.put, List.getElem_toArray, List.getElem_cons_succ, List.getElem_cons_zero, List.setIfInBounds_toArray, List.set_cons_zero, List.set_cons_succ]
            refine wpAnyH_take (i := 3) (oi := _) (v := ?_) rfl (by kernel_rfl) (by kernel_rfl) (by kernel_rfl) (fun _ _ _ h => h) (Or.inl ⟨by rfl, ?_⟩) hS ?_
            rotate_left
            · intro w' hw'
              have hcells := HC37.out w' hw'
              obtain ⟨t0, t1, t2⟩ := hcells; go_simp
              (try with_reducible rfl)
            simp only [Act.put, List.getElem_toArray, List.getElem_cons_succ, List.getElem_cons_zero, List.setIfInBounds_toArray, List.set_cons_zero, List.set_cons_succ]
            refine wpAnyH_take (i := 4) (oi := _) (v := ?_) rfl (by kernel_rfl) (by kernel_rfl) (by kernel_rfl) (fun _ _ _ h => h) (Or.inl ⟨by rfl, ?_⟩) hS ?_
            rotate_left
            · intro w' hw'
              have hcells := HC37.out w' hw'
              obtain ⟨t0, t1, t2⟩ := hcells; go_simp
              (try with_reducible rfl)
            simp only [Act.put, List.getElem_toArray, List.getElem_cons_succ, List.getElem_cons_zero, List.setIfInBounds_toArray, List.set_cons_zero, List.set_cons_succ]
            refine wpAnyH_take (i := 5) (oi := _) (v := ?_) rfl (by kernel_rfl) (by kernel_rfl) (by kernel_rfl) (fun _ _ _ h => h) (Or.inl ⟨by rfl, ?_⟩) hS ?_
            rotate_left
            · intro w' hw'
              have hcells := HC37.out w' hw'
              obtain ⟨t0, t1, t2⟩ := hcells; go_simp
              (try with_reducible rfl)
            simp only [Act.put, List.getElem_toArray, List.getElem_cons_succ, List.getElem_cons_zero, List.setIfInBounds_toArray, List.set_cons_zero, List.set_cons_succ]
            refine wpAnyH_ready (rs := [6]) (by kernel_rfl) (by simp) ?_
            refine AllReadyH.cons (o := _) rfl (fun K hK => ?_) AllReadyH.nil
            go_simp; go_at_call 23; refine (HHAS.out _ hS).mono ?_
            rintro e wy2 ⟨rfl, rfl⟩
            refine hK.out _ _ (hS) (fun hS => ?_)
            clear hK K
            (try simp only [Act.put, List.getElem_toArray, List.getElem_cons_succ, List.getElem_cons_zero, List.setIfInBounds_toArray, List.set_cons_zero, List.set_cons_succ])
            refine wpAnyH_take (i := 7) (oi := _) (v := ?_) rfl (by kernel_rfl) (by kernel_rfl) (by kernel_rfl) (fun _ _ _ h => h) (Or.inl ⟨by rfl, ?_⟩) hS ?_
            rotate_left
            · intro w' hw'
              have hcells := HC37.out w' hw'
              obtain ⟨t0, t1, t2⟩ := hcells; go_simp
              (try with_reducible rfl)
            simp only [Act.put, List.getElem_toArray, List.getElem_cons_succ, List.getElem_cons_zero, List.setIfInBounds_toArray, List.set_cons_zero, List.set_cons_succ]
            refine wpAnyH_take (i := 8) (oi := _) (v := ?_) rfl (by kernel_rfl) (by kernel_rfl) (by kernel_rfl) (fun _ _ _ h => h) (Or.inl ⟨by rfl, ?_⟩) hS ?_
            rotate_left
            · intro w' hw'
              have hcells := HC37.out w' hw'
              obtain ⟨t0, t1, t2⟩ := hcells; go_simp
              (try with_reducible rfl)
            simp only [Act.put, List.getElem_toArray, List.getElem_cons_succ, List.getElem_cons_zero, List.setIfInBounds_toArray, List.set_cons_zero, List.set_cons_succ]
            refine wpAnyH_take (i := 9) (oi := _) (v := ?_) rfl (by kernel_rfl) (by kernel_rfl) (by kernel_rfl) (fun _ _ _ h => h) (Or.inl ⟨by rfl, ?_⟩) hS ?_
            rotate_left
            · intro w' hw'
              have hcells := HC37.out w' hw'
              obtain ⟨t0, t1, t2⟩ := hcells; go_simp
              (try with_reducible rfl)
            simp only [Act.put, List.getElem_toArray, List.getElem_cons_succ, List.getElem_cons_zero, List.setIfInBounds_toArray, List.set_cons_zero, List.set_cons_succ]
            refine wpAnyH_take (i := 10) (oi := _) (v := ?_) rfl (by kernel_rfl) (by kernel_rfl) (by kernel_rfl) (fun _ _ _ h => h) (Or.inl ⟨by rfl, ?_⟩) hS ?_
            rotate_left
            · intro w' hw'
              have hcells := HC37.out w' hw'
              obtain ⟨t0, t1, t2⟩ := hcells; go_simp
              (try with_reducible rfl)
            simp only [Act.put, List.getElem_toArray, List.getElem_cons_succ, List.getElem_cons_zero, List.setIfInBounds_toArray, List.set_cons_zero, List.set_cons_succ]
            refine wpAnyH_take (i := 11) (oi := _) (v := ?_) rfl (by kernel_rfl) (by kernel_rfl) (by kernel_rfl) (fun _ _ _ h => h) (Or.inl ⟨by rfl, ?_⟩) hS ?_
            rotate_left
            · intro w' hw'
              have hcells := HC37.out w' hw'
              obtain ⟨t0, t1, t2⟩ := hcells; go_simp
              (try with_reducible rfl)
            simp only [Act.put, List.getElem_toArray, List.getElem_cons_succ, List.getElem_cons_zero, List.setIfInBounds_toArray, List.set_cons_zero, List.set_cons_succ]
            refine wpAnyH_take (i := 12) (oi := _) (v := ?_) rfl (by kernel_rfl) (by kernel_rfl) (by kernel_rfl) (fun _ _ _ h => h) (Or.inl ⟨by rfl, ?_⟩) hS ?_
            rotate_left
            · intro w' hw'
              have hcells := HC37.out w' hw'
              obtain ⟨t0, t1, t2⟩ := hcells; go_simp
              (try with_reducible rfl)
            simp only [Act.put, List.getElem_toArray, List.getElem_cons_succ, List.getElem_cons_zero, List.setIfInBounds_toArray, List.set_cons_zero, List.set_cons_succ]
            refine wpAnyH_take (i := 13) (oi := _) (v := ?_) rfl (by kernel_rfl) (by kernel_rfl) (by kernel_rfl) (fun _ _ _ h => h) (Or.inl ⟨by rfl, ?_⟩) hS ?_
            rotate_left
            · intro w' hw'
              have hcells := HC37.out w' hw'
              obtain ⟨t0, t1, t2⟩ := hcells; go_simp
              (try with_reducible rfl)
            simp only [Act.put, List.getElem_toArray, List.getElem_cons_succ, List.getElem_cons_zero, List.setIfInBounds_toArray, List.set_cons_zero, List.set_cons_succ]
            refine wpAnyH_take (i := 14) (oi := _) (v := ?_) rfl (by kernel_rfl) (by kernel_rfl) (by kernel_rfl) (fun _ _ _ h => h) (Or.inl ⟨by rfl, ?_⟩) hS ?_
            rotate_left
            · intro w' hw'
              have hcells := HC37.out w' hw'
              obtain ⟨t0, t1, t2⟩ := hcells; go_simp
              (try with_reducible rfl)
            simp only [Act.put, List.getElem_toArray, List.getElem_cons_succ, List.getElem_cons_zero, List.setIfInBounds_toArray, List.set_cons_zero, List.set_cons_succ]
            refine wpAnyH_take (i := 15) (oi := _) (v := ?_) rfl (by kernel_rfl) (by kernel_rfl) (by kernel_rfl) (fun _ _ _ h => h) (Or.inl ⟨by rfl, ?_⟩) hS ?_
            rotate_left
            · intro w' hw'
              have hcells := HC37.out w' hw'
              obtain ⟨t0, t1, t2⟩ := hcells; go_simp
              (try with_reducible rfl)
            simp only [Act.put, List.getElem_toArray, List.getElem_cons_succ, List.getElem_cons_zero, List.setIfInBounds_toArray, List.set_cons_zero, List.set_cons_succ]
            refine wpAnyH_take (i := 16) (oi := _) (v := ?_) rfl (by kernel_rfl) (by kernel_rfl) (by kernel_rfl) (fun _ _ _ h => h) (Or.inl ⟨by rfl, ?_⟩) hS ?_
            rotate_left
            · intro w' hw'
              have hcells := HC37.out w' hw'
              obtain ⟨t0, t1, t2⟩ := hcells; go_simp
              (try with_reducible rfl)
            simp only [Act.put, List.getElem_toArray, List.getElem_cons_succ, List.getElem_cons_zero, List.setIfInBounds_toArray, List.set_cons_zero, List.set_cons_succ]
            refine wpAnyH_take (i := 17) (oi := _) (v := ?_) rfl (by kernel_rfl) (by kernel_rfl) (by kernel_rfl) (fun _ _ _ h => h) (Or.inl ⟨by rfl, ?_⟩) hS ?_
            rotate_left
            · intro w' hw'
              have hcells := HC37.out w' hw'
              obtain ⟨t0, t1, t2⟩ := hcells; go_simp
              (try with_reducible rfl)
            simp only [Act.put, List.getElem_toArray, List.getElem_cons_succ, List.getElem_cons_zero, List.setIfInBounds_toArray, List.set_cons_zero, List.set_cons_succ]
            refine wpAnyH_take (i := 18) (oi := _) (v := ?_) rfl (by kernel_rfl) (by kernel_rfl) (by kernel_rfl) (fun _ _ _ h => h) (Or.inl ⟨by rfl, ?_⟩) hS ?_
            rotate_left
            · intro w' hw'
              have hcells := HC37.out w' hw'
              obtain ⟨t0, t1, t2⟩ := hcells; go_simp
              (try with_reducible rfl)
            simp only [Act.put, List.getElem_toArray, List.getElem_cons_succ, List.getElem_cons_zero, List.setIfInBounds_toArray, List.set_cons_zero, List.set_cons_succ]
            refine wpAnyH_take (i := 19) (oi := _) (v := ?_) rfl (by kernel_rfl) (by kernel_rfl) (by kernel_rfl) (fun _ _ _ h => h) (Or.inl ⟨by rfl, ?_⟩) hS ?_
            rotate_left
            · intro w' hw'
              have hcells := HC37.out w' hw'
              obtain ⟨t0, t1, t2⟩ := hcells; go_simp
              (try with_reducible rfl)
            simp only [Act.put, List.getElem_toArray, List.getElem_cons_succ, List.getElem_cons_zero, List.setIfInBounds_toArray, List.set_cons_zero, List.set_cons_succ]
            refine wpAnyH_take (i := 20) (oi := _) (v := ?_) rfl (by kernel_rfl) (by kernel_rfl) (by kernel_rfl) (fun _ _ _ h => h) (Or.inl ⟨by rfl, ?_⟩) hS ?_
            rotate_left
            · intro w' hw'
              have hcells := HC37.out w' hw'
              obtain ⟨t0, t1, t2⟩ := hcells; go_simp
              (try with_reducible rfl)
            simp only [Act.put, List.getElem_toArray, List.getElem_cons_succ, List.getElem_cons_zero, List.setIfInBounds_toArray, List.set_cons_zero, List.set_cons_succ]
            refine wpAnyH_take (i := 21) (oi := _) (v := ?_) rfl (by kernel_rfl) (by kernel_rfl) (by kernel_rfl) (fun _ _ _ h => h) (Or.inl ⟨by rfl, ?_⟩) hS ?_
            rotate_left
            · intro w' hw'
              have hcells := HC37.out w' hw'
              obtain ⟨t0, t1, t2⟩ := hcells; go_simp
              (try with_reducible rfl)
            simp only [Act.put, List.getElem_toArray, List.getElem_cons_succ, List.getElem_cons_zero, List.setIfInBounds_toArray, List.set_cons_zero, List.set_cons_succ]
            refine wpAnyH_take (i := 22) (oi := _) (v := ?_) rfl (by kernel_rfl) (by kernel_rfl) (by kernel_rfl) (fun _ _ _ h => h) (Or.inl ⟨by rfl, ?_⟩) hS ?_
            rotate_left
            · intro w' hw'
              have hcells := HC37.out w' hw'
              obtain ⟨t0, t1, t2⟩ := hcells; go_simp
              (try with_reducible rfl)
            simp only [Act.put, List.getElem_toArray, List.getElem_cons_succ, List.getElem_cons_zero, List.setIfInBounds_toArray, List.set_cons_zero, List.set_cons_succ]
            refine wpAnyH_take (i := 23) (oi := _) (v := ?_) rfl (by kernel_rfl) (by kernel_rfl) (by kernel_rfl) (fun _ _ _ h => h) (Or.inl ⟨by rfl, ?_⟩) hS ?_
            rotate_left
            · intro w' hw'
              have hcells := HC37.out w' hw'
              obtain ⟨t0, t1, t2⟩ := hcells; go_simp
              (try with_reducible rfl)
            simp only [Act.put, List.getElem_toArray, List.getElem_cons_succ, List.getElem_cons_zero, List.setIfInBounds_toArray, List.set_cons_zero, List.set_cons_succ]
            refine wpAnyH_take (i := 24) (oi := _) (v := ?_) rfl (by kernel_rfl) (by kernel_rfl) (by kernel_rfl) (fun _ _ _ h => h) (Or.inl ⟨by rfl, ?_⟩) hS ?_
            rotate_left
            · intro w' hw'
              have hcells := HC37.out w' hw'
              obtain ⟨t0, t1, t2⟩ := hcells; go_simp
              (try with_reducible rfl)
            simp only [Act.put, List.getElem_toArray, List.getElem_cons_succ, List.getElem_cons_zero, List.setIfInBounds_toArray, List.set_cons_zero, List.set_cons_succ]
            refine wpAnyH_take (i := 25) (oi := _) (v := ?_) rfl (by kernel_rfl) (by kernel_rfl) (by kernel_rfl) (fun _ _ _ h => h) (Or.inl ⟨by rfl, ?_⟩) hS ?_
            rotate_left
            · intro w' hw'
              have hcells := HC37.out w' hw'
              obtain ⟨t0, t1, t2⟩ := hcells; go_simp
              (try with_reducible rfl)
            simp only [Act.put, List.getElem_toArray, List.getElem_cons_succ, List.getElem_cons_zero, List.setIfInBounds_toArray, List.set_cons_zero, List.set_cons_succ]
            refine wpAnyH_done (by kernel_rfl) ?_ _
            (try dsimp only)
            have HBZ := hid hS
            clear hS
            go_wp2
            go_roundw
            case rel => exact ⟨j + 1, by omega, by go_num, HBR9.out.trans (HBZ.out.mono HBR9.out.size)⟩
            case measure => simp [intOf]; omega
        · obtain rfl : j = cm.n := by omega
          clear hlt
          go_wp2
          go_ret
          exact ⟨rfl, (HUP8.out _ (HUV.out _ (Below.refl _ _))).1⟩
end Go.Proofs.YtcejackabdmpkaaGreatDoor
