/-
  engine: word, doWords, doneWords, fields and ReplyText of the example of the law's gate. Conditions: Tabs; the value of the example can be read.
-/
import Derived.Test.YtkljbfaemahchaaGreatDoorET8Mrg
import Derived.Test.YtkljbfaemahchaaGreatDoorET6Mrg
import Derived.Test.YtkljbfaemahchaaGreatDoorET41Mrg
import Derived.Deep.AppendLies
import Derived.Deep.RegionHeld3
namespace Go.Proofs.YtkljbfaemahchaaGreatDoor
set_option linter.unusedVariables false
set_option linter.unusedSimpArgs false
section
open Go Go.RowKit Go.Shelf
attribute [local go_sem ↓] Go.wp_at_zero Go.wp_at_succ
abbrev trV : Val := .mk 1 1 0 ⟨#[]⟩ [] [] []
def okV : Val := .mk 9 0 0 ⟨#[]⟩ [] [⟨#[111, 107]⟩] [trV]
def okT : ByteArray := ⟨#[123, 111, 107, 58, 32, 116, 114, 117, 101, 125]⟩
def payT : ByteArray := ⟨#[112, 97, 121, 32, 51, 32, 100, 111, 32, 100, 111, 110, 101, 32, 123, 111, 107, 58, 32, 116, 114, 117, 101, 125]⟩
theorem okV_check : chkVal okV = 0 := by kernel_rfl
set_option maxRecDepth 100000 in
set_option maxHeartbeats 1000000 in
theorem textBool_call (b : Int) (s : Int) (t : ByteArray) (la : Option Addr) (ll lc : Nat) (fa : Option Addr) (fl fc : Nat) (w : World) :
    Calls Tryz.prog 98 #[.agg #[.int .i64 1, .int .i64 b, .int .i64 s, .string t, .slice la ll lc, .slice fa fl fc]] w fun e w' => e = .returned (.string ⟨(Lib.formatBool (b == 1)).toArray⟩) ∧ Below w.heap.size w w' := by
  go_enter Tryz.func98, Tryz.ntmps98
  go_wp2_with (go_at_call 160; refine (Tryz.strconv_FormatBool _ _).mono ?_; rintro e w' ⟨rfl, rfl⟩)
  go_ret
  exact ⟨rfl, (Below.refl _ w).alloc (Nat.le_refl _) _⟩
theorem ok_text (c : VC) (w : World) (hd : IsVal (· < w.heap.size) w c okV) : Calls Tryz.prog 98 #[c.v] w fun e w' => e = .returned (.string okT) ∧ Below w.heap.size w w' := by
  obtain ⟨k, i, s, t, la, ll, lc, fa, fl, fc⟩ := c
  have hd' := hd
  obtain ⟨⟨hk, hi, hs, ht, hok, hll, hfl, _⟩, _, _⟩ := hd'
  dsimp only at hk hi hs ht hll hfl
  subst hk; subst hi; subst hs; subst ht
  have hfl1 : fl = 1 := hfl
  subst hfl1
  have h := textRec_call 0 0 ⟨#[]⟩ la ll lc fa 1 fc [] [⟨#[111, 107]⟩] [trV] w hd [⟨#[111, 107, 58, 32, 116, 114, 117, 101]⟩] (fun _ => ⟨#[116, 114, 117, 101]⟩) (by decide) rfl (fun j h hn => by
      have hj : j = 0 := by simpa using h
      subst hj
      exact (by kernel_rfl : (⟨#[111, 107, 58, 32, 116, 114, 117, 101]⟩ : ByteArray) = ⟨#[111, 107]⟩ ++ ⟨#[58, 32]⟩ ++ ⟨#[116, 114, 117, 101]⟩)) 8 (fun x hx => by rw [List.mem_singleton] at hx; subst hx; decide) (by decide) (fun j h x w' hb hx => by
      have hj : j = 0 := by simpa using h
      subst hj
      obtain ⟨k, i, s, t, la, ll, lc, fa, fl, fc⟩ := x
      obtain ⟨⟨hk, hi, _⟩, _, _⟩ := hx
      dsimp only at hk hi ⊢
      subst hk; subst hi
      exact textBool_call 1 s t la ll lc fa fl fc w')
  have e2 : recT [⟨#[111, 107, 58, 32, 116, 114, 117, 101]⟩] = okT := by kernel_rfl
  rw [e2] at h
  exact h
theorem ok_lit (c : VC) (w : World) (hd : IsVal (· < w.heap.size) w c okV) (hT : Tabs w) : Calls Tryz.prog 42 #[c.v] w fun e w' => e = .returned (.tuple #[.string okT, .int .i64 0]) ∧ Below w.heap.size w w' :=
  litText_call c okV w hd hT okT (by decide) okV_check fun w' h => ok_text c w' (hd.same fun b q => ⟨Nat.lt_of_lt_of_le q h.size, h.block b q⟩)
theorem word_call (b : Bool) (x y : ByteArray) (w : World) : Calls Tryz.prog 76 #[.bool b, .agg #[.string x, .string y]] w fun e w' => e = .returned (.string (if b then y else x)) ∧ Below w.heap.size w w' := by
  cases b
  all_goals go_enter Tryz.func76, Tryz.ntmps76
  all_goals go_wp2
  all_goals go_ret
  all_goals exact ⟨rfl, (Below.refl _ w).alloc (Nat.le_refl _) _⟩
theorem doWords_call (w : World) : Calls Tryz.prog 77 #[] w fun e w' => e = .returned (.agg #[.string ⟨#[100, 111]⟩, .string ⟨#[117, 110, 100, 111]⟩]) ∧ Below w.heap.size w w' := by
  go_enter Tryz.func77, Tryz.ntmps77
  go_wp2
  exact bodyPost_ret (v := .agg #[.string ⟨#[100, 111]⟩, .string ⟨#[117, 110, 100, 111]⟩]) (by simp [results, Tryz.results77, go_sem]) rfl ⟨rfl, (Below.refl _ w).alloc (Nat.le_refl _) _⟩
theorem doneWords_call (w : World) : Calls Tryz.prog 78 #[] w fun e w' => e = .returned (.agg #[.string ⟨#[114, 101, 102, 117, 115, 101, 100]⟩, .string ⟨#[100, 111, 110, 101]⟩]) ∧ Below w.heap.size w w' := by
  go_enter Tryz.func78, Tryz.ntmps78
  go_wp2
  exact bodyPost_ret (v := .agg #[.string ⟨#[114, 101, 102, 117, 115, 101, 100]⟩, .string ⟨#[100, 111, 110, 101]⟩]) (by simp [results, Tryz.results78, go_sem]) rfl ⟨rfl, (Below.refl _ w).alloc (Nat.le_refl _) _⟩
theorem own_two {w : World} {b B : Nat} {x y : ByteArray} (h : w.heap[b]? = some (.cells #[.string x, .string y] 9)) (hb : B ≤ b) : w.ownsRow B 9 1 (.slice (some ⟨b, 0, none⟩) 2 2) 2 [.string x, .string y] :=
  ⟨rfl, .inr ⟨b, 2, _, rfl, hb, h, Nat.le_refl _, by decide, rfl, rfl⟩⟩
theorem pay_join : joinB [⟨#[112, 97, 121]⟩, ⟨#[51]⟩, ⟨#[100, 111]⟩, ⟨#[100, 111, 110, 101]⟩, okT] ⟨#[32]⟩ = payT := by kernel_rfl
theorem pay_name : isNameB ⟨#[112, 97, 121]⟩ = true := by kernel_rfl
set_option maxRecDepth 100000 in
set_option maxHeartbeats 8000000 in
theorem fldPay_call (c : VC) (g : Nat) (w : World) (hd : IsVal (· < w.heap.size) w c okV) (hg : w.heap[g]? = some (.cells #[.string ⟨#[100, 111]⟩, .string ⟨#[100, 111, 110, 101]⟩] 9)) (hT : Tabs w) :
    Calls Tryz.prog 75 #[.string ⟨#[112, 97, 121]⟩, .int .i64 3, c.v, .slice (some ⟨g, 0, none⟩) 2 2] w fun e w' => e = .returned (.tuple #[.string payT, .int .i64 0]) ∧ Below w.heap.size w w' := by
  obtain ⟨ti, hif, hz0, hz1, hz2⟩ := info_parts infoStr
  have hb0 : Below w.heap.size w (w.alloc (vObj c)) := (Below.refl _ w).alloc (Nat.le_refl _) _
  have HB0 := hid hb0
  have HL := hid (fun (w' : World) (h : Below w.heap.size w w') => ok_lit c w' (hd.same fun b q => ⟨Nat.lt_of_lt_of_le q h.size, h.block b q⟩) (hT.below h))
  have HIN := hid (fun w => isNull_call c.k c.i c.s c.t c.la c.ll c.lc c.fa c.fl c.fc w)
  have hnn : isNullB c.k c.i c.s c.t c.ll c.fl = false := by
    rw [← isNullV_of hd]; rfl
  rw [hnn] at HIN
  have hk : c.k = 9 := by obtain ⟨h, _⟩ := hd; exact h.1
  have HX0 := hid (heap_alloc_new w (vObj c))
  have HSIX := hid (fun (w' : World) (h : w'.heap[w.heap.size]? = some (vObj c)) => sixOf h)
  have HG := hid hg
  have HGL := hid (ltOf hg)
  have HNM := hid (fun w => cName_call ⟨#[112, 97, 121]⟩ w)
  rw [pay_name] at HNM
  have HI := hid (fun w => Tryz.strconv_Itoa_small 3 (by decide) w)
  rw [show (⟨(Lib.decDigits 3).toArray⟩ : ByteArray) = ⟨#[51]⟩ by kernel_rfl] at HI
  have hps : payT.size = 24 := rfl
  clear hd hT hb0 hg hnn
  obtain ⟨k, i, s, tt, la, ll, lc, fa, fl, fc⟩ := c
  dsimp only [vObj, VC.v] at HL HIN HSIX HX0 HB0 hk ⊢
  subst hk
  obtain ⟨j1, j2, j3, j4, j5, j6⟩ := HSIX.out _ HX0.out
  go_enter Tryz.func75, Tryz.ntmps75
  go_wp2_with (first
    | (go_at_call 132; refine (HNM.out _).mono ?_; rintro e w' ⟨rfl, rfl⟩)
    | (go_at_call 96; refine (HIN.out _).mono ?_; rintro e wn ⟨rfl, hbn⟩; have HBN := hid (HB0.out.trans (hbn.mono HB0.out.size)); have HGN := hid (heapExt hbn (heapAlloc _ HG.out)); obtain ⟨m1, m2, m3, m4, m5, m6⟩ := HSIX.out _ (heapExt hbn HX0.out); clear hbn)
    | (go_at_call 42; refine (HL.out _ HBN.out).mono ?_; rintro e w1 ⟨rfl, hb1⟩; have HG1 := hid (heapExt hb1 HGN.out); have HB1 := hid (HBN.out.trans (hb1.mono HBN.out.size)); clear hb1)
    | (go_at_call 64; refine (HI.out _).mono ?_; rintro e w' ⟨rfl, hw⟩; rw [hw]; clear hw w')
    | (go_at_call 90; refine (HJ.out _ (Below.refl _ _)).mono ?_; rintro e w4 ⟨rfl, hb4⟩; rw [pay_join])
    | (at_builtin; refine wpList_append_lies _ (by rfl) _ _ 37 (by rfl) w.heap.size 9 ti _ 1 16 Tryz.underlying37 hif hz0 hz1 hz2 rfl (by omega) (.slice (some ⟨g1, 0, none⟩) (2 + 2) cap1) (2 + 2) _ (by rfl) (hown1.alloc _) ⟨w2.heap.size, 0, none⟩ 1 1 [.string okT] (by rfl) (by rfl) (World.news_of_block (heap_alloc_new w2 _)) (by simp [Value.oneCell']) (by omega) (by decide) (by decide) (by have := HB1.out.size; have := hgrow1.size; simp at *; omega) _ rfl ?_; intro g2 cap2 w3 hown2 hgrow2 hloc2 hlt2; have HJ := hid (strRow_join (xs := [⟨#[112, 97, 121]⟩, ⟨#[51]⟩, ⟨#[100, 111]⟩, ⟨#[100, 111, 110, 101]⟩, okT]) hown2 rfl (by omega) 40 (by decide) ⟨#[32]⟩ (by decide)).choose_spec.choose_spec.2)
    | (at_builtin; refine wpList_append_lies _ (by rfl) _ _ 37 (by rfl) w.heap.size 9 ti _ 1 16 Tryz.underlying37 hif hz0 hz1 hz2 rfl (by omega) (.slice (some ⟨w1.heap.size, 0, none⟩) 2 2) 2 [.string ⟨#[112, 97, 121]⟩, .string ⟨#[51]⟩] (by rfl) (own_two (heap_alloc_new w1 _) HB1.out.size) ⟨g, 0, none⟩ 2 2 [.string ⟨#[100, 111]⟩, .string ⟨#[100, 111, 110, 101]⟩] (by rfl) (by rfl) (World.news_of_block (heapAlloc _ HG1.out)) (by simp [Value.oneCell']) (by omega) (by decide) (by decide) (by have := HB1.out.size; simp; omega) _ rfl ?_; intro g1 cap1 w2 hown1 hgrow1 hloc1 hlt1))
  refine bodyPost_ret (v := .tuple #[.string payT, .int .i64 0]) (by simp [results, Tryz.results75, go_sem]) rfl ⟨rfl, ?_⟩
  have a2 := HB1.out.alloc HB1.out.size (.cells #[.string ⟨#[112, 97, 121]⟩, .string ⟨#[51]⟩] 9)
  have a3 := a2.grown hgrow1 (by have := a2.size; exact this) (fun r hr => by have e := Option.some.inj hr; have h1 := HB1.out.size; have e2 : w1.heap.size = r := e; omega)
  have a4 := a3.alloc a3.size (.cells #[.string okT] 9)
  have a5 := a4.grown hgrow2 (by have := a4.size; exact this) (fun r hr => own_ge2 hown1 r hr)
  exact a5.trans (hb4.mono a5.size)
end
section
open Go Go.RowKit Go.Shelf
attribute [local go_sem ↓] Go.wp_at_zero Go.wp_at_succ
set_option maxRecDepth 100000 in
set_option maxHeartbeats 8000000 in
theorem replyPay_call (c : VC) (w : World) (hd : IsVal (· < w.heap.size) w c okV) (hT : Tabs w) :
    Calls Tryz.prog 28 #[.agg #[.string ⟨#[112, 97, 121]⟩, .int .i64 3, .bool false, .bool true, .int .i64 c.k, .int .i64 c.i, .int .i64 c.s, .string c.t, .slice c.la c.ll c.lc, .slice c.fa c.fl c.fc]] w fun e w' => e = .returned (.tuple #[.string payT, .int .i64 0]) ∧ Below w.heap.size w w' := by
  have hb0 : Below w.heap.size w (w.alloc (.cells #[.string ⟨#[112, 97, 121]⟩, .int .i64 3, .bool false, .bool true, .int .i64 c.k, .int .i64 c.i, .int .i64 c.s, .string c.t, .slice c.la c.ll c.lc, .slice c.fa c.fl c.fc] 45)) := (Below.refl _ w).alloc (Nat.le_refl _) _
  have HB0 := hid hb0
  have HF := hid (fun (w' : World) (g : Nat) (h : Below (w.alloc (.cells #[.string ⟨#[112, 97, 121]⟩, .int .i64 3, .bool false, .bool true, .int .i64 c.k, .int .i64 c.i, .int .i64 c.s, .string c.t, .slice c.la c.ll c.lc, .slice c.fa c.fl c.fc] 45)).heap.size (w.alloc (.cells #[.string ⟨#[112, 97, 121]⟩, .int .i64 3, .bool false, .bool true, .int .i64 c.k, .int .i64 c.i, .int .i64 c.s, .string c.t, .slice c.la c.ll c.lc, .slice c.fa c.fl c.fc] 45)) w') (hg : w'.heap[g]? = some (.cells #[.string ⟨#[100, 111]⟩, .string ⟨#[100, 111, 110, 101]⟩] 9)) => fldPay_call c g w' (hd.same fun b q => ⟨Nat.lt_of_lt_of_le q (Nat.le_trans hb0.size h.size), (h.block b (Nat.lt_of_lt_of_le q hb0.size)).trans (hb0.block b q)⟩) hg (hT.below (hb0.trans (h.mono hb0.size))))
  have HC := hid (fun (w' : World) (h : Below (w.alloc (.cells #[.string ⟨#[112, 97, 121]⟩, .int .i64 3, .bool false, .bool true, .int .i64 c.k, .int .i64 c.i, .int .i64 c.s, .string c.t, .slice c.la c.ll c.lc, .slice c.fa c.fl c.fc] 45)).heap.size (w.alloc (.cells #[.string ⟨#[112, 97, 121]⟩, .int .i64 3, .bool false, .bool true, .int .i64 c.k, .int .i64 c.i, .int .i64 c.s, .string c.t, .slice c.la c.ll c.lc, .slice c.fa c.fl c.fc] 45)) w') =>
    have q := heapExt h (heap_alloc_new w (.cells #[.string ⟨#[112, 97, 121]⟩, .int .i64 3, .bool false, .bool true, .int .i64 c.k, .int .i64 c.i, .int .i64 c.s, .string c.t, .slice c.la c.ll c.lc, .slice c.fa c.fl c.fc] 45))
    (show w'.cell? ⟨w.heap.size, 0, none⟩ = some (.string ⟨#[112, 97, 121]⟩) ∧ w'.cell? ⟨w.heap.size, 1, none⟩ = some (.int .i64 3) ∧ w'.cell? ⟨w.heap.size, 2, none⟩ = some (.bool false) ∧ w'.cell? ⟨w.heap.size, 3, none⟩ = some (.bool true) ∧ w'.cell? ⟨w.heap.size, 4, none⟩ = some (.int .i64 c.k) ∧ w'.cell? ⟨w.heap.size, 5, none⟩ = some (.int .i64 c.i) ∧ w'.cell? ⟨w.heap.size, 6, none⟩ = some (.int .i64 c.s) ∧ w'.cell? ⟨w.heap.size, 7, none⟩ = some (.string c.t) ∧ w'.cell? ⟨w.heap.size, 8, none⟩ = some (.slice c.la c.ll c.lc) ∧ w'.cell? ⟨w.heap.size, 9, none⟩ = some (.slice c.fa c.fl c.fc) from ⟨cellOf q 0, cellOf q 1, cellOf q 2, cellOf q 3, cellOf q 4, cellOf q 5, cellOf q 6, cellOf q 7, cellOf q 8, cellOf q 9⟩))
  clear hd hT hb0
  dsimp only [VC.v] at HF
  go_enter Tryz.func28, Tryz.ntmps28
  go_upto_region 1 with (fail)
  refine wp_region_split 18 (fun w' => Below (w.alloc (.cells #[.string ⟨#[112, 97, 121]⟩, .int .i64 3, .bool false, .bool true, .int .i64 c.k, .int .i64 c.i, .int .i64 c.s, .string c.t, .slice c.la c.ll c.lc, .slice c.fa c.fl c.fc] 45)).heap.size (w.alloc (.cells #[.string ⟨#[112, 97, 121]⟩, .int .i64 3, .bool false, .bool true, .int .i64 c.k, .int .i64 c.i, .int .i64 c.s, .string c.t, .slice c.la c.ll c.lc, .slice c.fa c.fl c.fc] 45)) w') (by kernel_rfl) (by kernel_rfl) (by kernel_rfl) (by decide) ((Below.refl _ _).drew) (fun hS => ?_)
  simp only [List.take_succ_cons, List.take_zero, List.drop_succ_cons, List.drop_zero]
  refine wpAnyH_take (i := 0) (oi := _) (v := ?_) rfl (by kernel_rfl) (by kernel_rfl) (by kernel_rfl) (fun _ _ _ h => h) (Or.inl ⟨by rfl, ?_⟩) hS ?_
  rotate_left
  · intro w' hw'
    have hcells := HC.out w' hw'
    go_simp
    (try with_reducible rfl)
  simp only [Act.put, pt1, pt2, pt3, pt4, pt5, pt6]
  refine wpAnyH_take (i := 1) (oi := _) (v := ?_) rfl (by kernel_rfl) (by kernel_rfl) (by kernel_rfl) (fun _ _ _ h => h) (Or.inl ⟨by rfl, ?_⟩) hS ?_
  rotate_left
  · intro w' hw'
    have hcells := HC.out w' hw'
    go_simp
    (try with_reducible rfl)
  simp only [Act.put, pt1, pt2, pt3, pt4, pt5, pt6]
  refine wpAnyH_take (i := 2) (oi := _) (v := ?_) rfl (by kernel_rfl) (by kernel_rfl) (by kernel_rfl) (fun _ _ _ h => h) (Or.inl ⟨by rfl, ?_⟩) hS ?_
  rotate_left
  · intro w' hw'
    have hcells := HC.out w' hw'
    go_simp
    (try with_reducible rfl)
  simp only [Act.put, pt1, pt2, pt3, pt4, pt5, pt6]
  refine wpAnyH_take (i := 3) (oi := _) (v := ?_) rfl (by kernel_rfl) (by kernel_rfl) (by kernel_rfl) (fun _ _ _ h => h) (Or.inl ⟨by rfl, ?_⟩) hS ?_
  rotate_left
  · intro w' hw'
    have hcells := HC.out w' hw'
    go_simp
    (try with_reducible rfl)
  simp only [Act.put, pt1, pt2, pt3, pt4, pt5, pt6]
  refine wpAnyH_take (i := 4) (oi := _) (v := ?_) rfl (by kernel_rfl) (by kernel_rfl) (by kernel_rfl) (fun _ _ _ h => h) (Or.inl ⟨by rfl, ?_⟩) hS ?_
  rotate_left
  · intro w' hw'
    have hcells := HC.out w' hw'
    go_simp
    (try with_reducible rfl)
  simp only [Act.put, pt1, pt2, pt3, pt4, pt5, pt6]
  refine wpAnyH_take (i := 5) (oi := _) (v := ?_) rfl (by kernel_rfl) (by kernel_rfl) (by kernel_rfl) (fun _ _ _ h => h) (Or.inl ⟨by rfl, ?_⟩) hS ?_
  rotate_left
  · intro w' hw'
    have hcells := HC.out w' hw'
    go_simp
    (try with_reducible rfl)
  simp only [Act.put, pt1, pt2, pt3, pt4, pt5, pt6]
  refine wpAnyH_take (i := 6) (oi := _) (v := ?_) rfl (by kernel_rfl) (by kernel_rfl) (by kernel_rfl) (fun _ _ _ h => h) (Or.inl ⟨by rfl, ?_⟩) hS ?_
  rotate_left
  · intro w' hw'
    have hcells := HC.out w' hw'
    go_simp
    (try with_reducible rfl)
  simp only [Act.put, pt1, pt2, pt3, pt4, pt5, pt6]
  refine wpAnyH_take (i := 7) (oi := _) (v := ?_) rfl (by kernel_rfl) (by kernel_rfl) (by kernel_rfl) (fun _ _ _ h => h) (Or.inl ⟨by rfl, ?_⟩) hS ?_
  rotate_left
  · intro w' hw'
    have hcells := HC.out w' hw'
    go_simp
    (try with_reducible rfl)
  simp only [Act.put, pt1, pt2, pt3, pt4, pt5, pt6]
  refine wpAnyH_take (i := 10) (oi := _) (v := ?_) rfl (by kernel_rfl) (by kernel_rfl) (by kernel_rfl) (fun _ _ _ h => h) (Or.inl ⟨by rfl, ?_⟩) hS ?_
  rotate_left
  · intro w' hw'
    have hcells := HC.out w' hw'
    go_simp
    (try with_reducible rfl)
  simp only [Act.put, pt1, pt2, pt3, pt4, pt5, pt6]
  refine wpAnyH_take (i := 11) (oi := _) (v := ?_) rfl (by kernel_rfl) (by kernel_rfl) (by kernel_rfl) (fun _ _ _ h => h) (Or.inl ⟨by rfl, ?_⟩) hS ?_
  rotate_left
  · intro w' hw'
    have hcells := HC.out w' hw'
    go_simp
    (try with_reducible rfl)
  simp only [Act.put, pt1, pt2, pt3, pt4, pt5, pt6]
  refine wpAnyH_ready (rs := [8]) (by kernel_rfl) (by simp) ?_
  refine AllReadyH.cons (o := _) rfl (fun K hK => ?_) AllReadyH.nil
  go_simp; go_at_call 77; refine (doWords_call _).mono ?_
  rintro e w1 ⟨rfl, hb1⟩
  refine hK.out _ _ (hS.trans (hb1.mono hS.size)) (fun hS => ?_)
  clear hK K
  (try simp only [Act.put, pt1, pt2, pt3, pt4, pt5, pt6])
  refine wpAnyH_ready (rs := [9]) (by kernel_rfl) (by simp) ?_
  refine AllReadyH.cons (o := _) rfl (fun K hK => ?_) AllReadyH.nil
  go_simp; go_at_call 76; refine (word_call false _ _ _).mono ?_
  rintro e w2 ⟨rfl, hb2⟩
  refine hK.out _ _ (hS.trans (hb2.mono hS.size)) (fun hS => ?_)
  clear hK K
  (try simp only [Act.put, pt1, pt2, pt3, pt4, pt5, pt6])
  refine wpAnyH_ready (rs := [12]) (by kernel_rfl) (by simp) ?_
  refine AllReadyH.cons (o := _) rfl (fun K hK => ?_) AllReadyH.nil
  go_simp; go_at_call 78; refine (doneWords_call _).mono ?_
  rintro e w3 ⟨rfl, hb3⟩
  refine hK.out _ _ (hS.trans (hb3.mono hS.size)) (fun hS => ?_)
  clear hK K
  (try simp only [Act.put, pt1, pt2, pt3, pt4, pt5, pt6])
  refine wpAnyH_ready (rs := [13]) (by kernel_rfl) (by simp) ?_
  refine AllReadyH.cons (o := _) rfl (fun K hK => ?_) AllReadyH.nil
  go_simp; go_at_call 76; refine (word_call true _ _ _).mono ?_
  rintro e w4 ⟨rfl, hb4⟩
  refine hK.out _ _ (hS.trans (hb4.mono hS.size)) (fun hS => ?_)
  clear hK K
  (try simp only [Act.put, pt1, pt2, pt3, pt4, pt5, pt6])
  refine wpAnyH_ready (rs := [14]) (by kernel_rfl) (by simp) ?_
  refine AllReadyH.cons (o := _) rfl (fun K hK => ?_) AllReadyH.nil
  go_simp
  refine hK.out _ _ ((hS.alloc hS.size _)) (fun hS => ?_)
  clear hK K
  (try simp only [Act.put, pt1, pt2, pt3, pt4, pt5, pt6])
  refine wpAnyH_ready (rs := [15]) (by kernel_rfl) (by simp) ?_
  refine AllReadyH.cons (o := _) rfl (fun K hK => ?_) AllReadyH.nil
  go_simp; go_at_call 75; refine (HF.out _ _ hS (heap_alloc_new _ _)).mono ?_
  rintro e w5 ⟨rfl, hb5⟩
  refine hK.out _ _ (hS.trans (hb5.mono hS.size)) (fun hS => ?_)
  clear hK K
  (try simp only [Act.put, pt1, pt2, pt3, pt4, pt5, pt6])
  refine wpAnyH_take (i := 16) (oi := _) (v := ?_) rfl (by kernel_rfl) (by kernel_rfl) (by kernel_rfl) (fun _ _ _ h => h) (Or.inl ⟨by rfl, ?_⟩) hS ?_
  rotate_left
  · intro w' hw'
    have hcells := HC.out w' hw'
    go_simp
    (try with_reducible rfl)
  simp only [Act.put, pt1, pt2, pt3, pt4, pt5, pt6]
  refine wpAnyH_take (i := 17) (oi := _) (v := ?_) rfl (by kernel_rfl) (by kernel_rfl) (by kernel_rfl) (fun _ _ _ h => h) (Or.inl ⟨by rfl, ?_⟩) hS ?_
  rotate_left
  · intro w' hw'
    have hcells := HC.out w' hw'
    go_simp
    (try with_reducible rfl)
  simp only [Act.put, pt1, pt2, pt3, pt4, pt5, pt6]
  refine wpAnyH_done (by kernel_rfl) ?_ _
  (try dsimp only)
  have hb9 := hb5
  have HSS := hid hS
  clear hS
  go_wp2
  refine bodyPost_ret (v := .tuple #[.string payT, .int .i64 0]) (by simp [results, Tryz.results28, go_sem]) rfl ⟨rfl, HB0.out.trans (HSS.out.mono HB0.out.size)⟩
theorem okTr : VC.ok ⟨1, 1, 0, ⟨#[]⟩, none, 0, 0, none, 0, 0⟩ := ⟨⟨by decide, by decide⟩, ⟨by decide, by decide⟩, ⟨by decide, by decide⟩, by decide, by decide, by decide, by decide, by decide⟩
theorem trV_is (S : Nat → Prop) (w : World) : IsVal S w ⟨1, 1, 0, ⟨#[]⟩, none, 0, 0, none, 0, 0⟩ trV := ⟨⟨rfl, rfl, rfl, rfl, okTr, rfl, rfl, rfl⟩, .inl rfl, .inl rfl⟩
theorem arr_x : eArr (⟨#[120]⟩ : ByteArray).data.toList = (1, [120]) := by kernel_rfl
theorem vBool_call (w : World) : Calls Tryz.prog 60 #[.bool true] w fun e w' => e = .returned (.agg #[.int .i64 1, .int .i64 1, .int .i64 0, .string ⟨#[]⟩, .slice none 0 0, .slice none 0 0]) ∧ Below w.heap.size w w' := by
  go_enter Tryz.func60, Tryz.ntmps60
  go_wp2
  exact bodyPost_ret (v := .agg #[.int .i64 1, .int .i64 1, .int .i64 0, .string ⟨#[]⟩, .slice none 0 0, .slice none 0 0]) (by simp [results, Tryz.results60, go_sem]) rfl ⟨rfl, (Below.refl _ w).alloc (Nat.le_refl _) _⟩
set_option maxRecDepth 100000 in
set_option maxHeartbeats 8000000 in
theorem known50_call (w : World) (hT : Tabs w) (hN : NumVars w) : Calls Tryz.prog 15 #[] w fun e w' => e = .returned (.bool true) ∧ Below w.heap.size w w' := by
  have HA := hid (fun w hT => arrT_ok 2 (by decide) (by decide) ⟨#[123, 97, 58, 32, 49, 125]⟩ (by decide) w hT)
  rw [show (itoaB ((2 : Nat) : Int) ++ ⟨#[10]⟩ ++ ⟨#[123, 97, 58, 32, 49, 125]⟩ : ByteArray) = ⟨#[50, 10, 123, 97, 58, 32, 49, 125]⟩ by kernel_rfl] at HA
  have HP := hid (fun w hT hN => pArr_call ⟨#[120]⟩ (by decide) w hT hN)
  rw [arr_x] at HP
  dsimp only at HA HP
  have HR := hid (fun (g : Nat) (w : World) (hg : w.heap[g]? = some (.cells #[.string ⟨#[111, 107]⟩, .int .i64 1, .int .i64 1, .int .i64 0, .string ⟨#[]⟩, .slice none 0 0, .slice none 0 0] 95)) => recV_call g 1 ⟨#[111, 107]⟩ ⟨1, 1, 0, ⟨#[]⟩, none, 0, 0, none, 0, 0⟩ trV w (by decide) hg (trV_is _ _) rfl)
  have HY := hid (fun (c : VC) (w : World) (hd : IsVal (· < w.heap.size) w c okV) (hT : Tabs w) => replyPay_call c w hd hT)
  dsimp only [payT] at HY
  go_enter Tryz.func15, Tryz.ntmps15
  go_wp2_with (first
    | (go_at_call 28; refine (HY.out c5 w5 (hv5.same fun b q => ⟨q.2, rfl⟩) (hT.below (HB4.out.trans (hb5.mono HB4.out.size)))).mono ?_; rintro e w6 ⟨rfl, hb6⟩)
    | (go_at_call 59; go_loud (refine (HR.out _ _ (heap_alloc_new w3 _)).mono ?_); rintro e w5 ⟨c5, rfl, hb5, hv5⟩; have HB4 := hid (HB3.out.alloc HB3.out.size (.cells #[.string ⟨#[111, 107]⟩, .int .i64 1, .int .i64 1, .int .i64 0, .string ⟨#[]⟩, .slice none 0 0, .slice none 0 0] 95)); (try dsimp only [VC.v]))
    | (go_at_call 60; refine (vBool_call _).mono ?_; rintro e w3 ⟨rfl, hb3⟩; have HB3 := hid (HB2.out.trans (hb3.mono HB2.out.size)); clear hb3)
    | (go_at_call 16; go_loud (refine (HP.out w1 (hT.below HB1.out) (hN.below HB1.out)).mono ?_); rintro e w2 ⟨rfl, hb2⟩; have HB2 := hid (HB1.out.trans (hb2.mono HB1.out.size)); clear hb2)
    | (go_at_call 18; refine (HA.out w hT).mono ?_; rintro e w1 ⟨rfl, hb1⟩; have HB1 := hid hb1; clear hb1))
  go_ret
  have h45 := HB4.out.trans (hb5.mono HB4.out.size)
  exact ⟨rfl, h45.trans (hb6.mono h45.size)⟩
end
end Go.Proofs.YtkljbfaemahchaaGreatDoor
