/-
  literal.Text and message.Encode where nothing is wrong: the texts. Conditions: the message can be read as data, it is valid; what literal.text answers for its body; Tabs.
-/
import Derived.Test.YthjlgpmajeafpaaGreatDoorStrs
import Derived.Test.YthjlgpmajeafpaaGreatDoorText
import Derived.Test.YthjlgpmajeafpaaGreatDoorMsg
namespace Go.Proofs.YthjlgpmajeafpaaGreatDoor
open Go Go.RowKit Go.Shelf
set_option linter.unusedVariables false
set_option linter.unusedSimpArgs false

set_option maxRecDepth 100000 in
set_option maxHeartbeats 2000000 in
theorem litText_call (c : VC) (d : Val) (w : World) (hd : IsVal (· < w.heap.size) w c d) (hT : Tabs w) (t : ByteArray) (ht : t.size ≤ 65536) (h0 : chkVal d = 0)
    (htx : ∀ w', Below w.heap.size w w' → Calls Tryz.prog 137 #[c.v] w' fun e w2 => e = .returned (.string t) ∧ Below w'.heap.size w' w2) :
    Calls Tryz.prog 108 #[c.v] w fun e w' => e = .returned (.tuple #[.string t, .int .i64 0]) ∧ Below w.heap.size w w' := by
  have hb1 : Below w.heap.size w (w.alloc (vObj c)) := (Below.refl _ w).alloc (Nat.le_refl _) _
  have HB1 := hid hb1
  have HC := hid (check_later c d w hd hT _ hb1)
  rw [h0] at HC
  have HTX := hid htx
  have HSIX : Hid (∀ w2, Below (w.alloc (vObj c)).heap.size (w.alloc (vObj c)) w2 → Six w2 w.heap.size c ∧ Below w.heap.size w w2) := hid fun w2 h => ⟨sixOf (heapExt h (heap_alloc_new w _)), hb1.trans (h.mono hb1.size)⟩
  clear hd hT h0 htx hb1
  obtain ⟨k, i, s, tt, la, ll, lc, fa, fl, fc⟩ := c
  dsimp only [vObj, VC.v] at HC HTX HSIX HB1 ⊢
  go_enter Tryz.func108, Tryz.ntmps108
  go_wp2_with (first
    | (go_at_call 75; refine HC.out.mono ?_; rintro e w2 ⟨rfl, hb2⟩; obtain ⟨⟨j1, j2, j3, j4, j5, j6⟩, hb3⟩ := HSIX.out _ hb2)
    | (go_at_call 137; refine (HTX.out _ hb3).mono ?_; rintro e w4 ⟨rfl, hb4⟩)
    | (go_at_call 136; refine (limited_call t ht _).mono ?_; rintro e w5 ⟨rfl, rfl⟩))
  exact bodyPost_ret (v := .tuple #[.string t, .int .i64 0]) (by simp [results, Tryz.results108, go_sem]) rfl ⟨rfl, hb3.trans (hb4.mono hb3.size)⟩

theorem stampT_size (d : St) (h1 : I64 d.e) (h2 : ∀ x ∈ d.ps, I64 x) (h3 : d.ps.length ≤ 512) : (stampT d).size ≤ 20000 := by
  have a1 := itoaB_size d.e h1
  have a2 := joinB_size (d.ps.map itoaB) ⟨#[46]⟩ 21 (fun x hx => by
    rw [List.mem_map] at hx
    obtain ⟨y, hy, rfl⟩ := hx
    exact itoaB_len y (h2 y hy))
  rw [List.length_map, show (⟨#[46]⟩ : ByteArray).data.toList.length = 1 from rfl] at a2
  rw [stampT, ByteArray.size_append, ByteArray.size_append, show (⟨#[47]⟩ : ByteArray).size = 1 from rfl]
  omega
theorem stampE_len {d : St} (h : stampE d = 0) : d.ps.length ≤ 512 := by
  unfold stampE at h
  split at h
  · simp at h
  · split at h
    · simp at h
    · split at h
      · simp at h
      · omega
def encT (d : Msg) (t : ByteArray) : ByteArray := stampT d.st ++ ⟨#[32]⟩ ++ itoaB d.m ++ ⟨#[32]⟩ ++ joinB (d.es.map itoaB) ⟨#[44]⟩ ++ ⟨#[32]⟩ ++ t
theorem msgE_zero {d : Msg} (h : msgE d = 0) : stampE d.st = 0 ∧ d.es ≠ [] ∧ d.es.length ≤ 4096 := by
  unfold msgE at h
  split at h
  · contradiction
  · rename_i h1
    split at h
    · simp at h
    · split at h
      · simp at h
      · split at h
        · simp at h
        · rename_i h4 h5
          exact ⟨by simpa using h1, h4, by omega⟩
/-- What the message's box gives, whatever came behind it. -/
structure EncAt (w w1 : World) (c : MC) (d : Msg) : Prop where
  ten : Ten w1 w.heap.size c
  bel : Below w.heap.size w w1
  msg : IsMsg (· < w1.heap.size) w1 c d
  tabs : Tabs w1
theorem encAt (c : MC) (d : Msg) (w : World) (hd : IsMsg (· < w.heap.size) w c d) (hT : Tabs w) (w1 : World) (hb : Below (w.alloc (mObj c)).heap.size (w.alloc (mObj c)) w1) : EncAt w w1 c d := by
  have hb0 : Below w.heap.size w (w.alloc (mObj c)) := (Below.refl _ w).alloc (Nat.le_refl _) _
  have hbw : Below w.heap.size w w1 := hb0.trans (hb.mono hb0.size)
  exact ⟨tenOf (heapExt hb (heap_alloc_new w _)), hbw, hd.same fun b h => ⟨Nat.lt_of_lt_of_le h hbw.size, hbw.block b h⟩, hT.below hbw⟩

set_option maxRecDepth 100000 in
set_option maxHeartbeats 4000000 in
theorem encode_call (c : MC) (d : Msg) (w : World) (hd : IsMsg (· < w.heap.size) w c d) (hT : Tabs w) (t : ByteArray) (h0 : msgE d = 0) (htz : t.size ≤ 65536)
    (hlit : ∀ w', Below w.heap.size w w' → Calls Tryz.prog 108 #[c.b.v] w' fun e w2 => e = .returned (.tuple #[.string t, .int .i64 0]) ∧ Below w'.heap.size w' w2) :
    Calls Tryz.prog 59 #[c.v] w fun e w' => e = .returned (.tuple #[.string (encT d t), .int .i64 0]) ∧ Below w.heap.size w w' := by
  obtain ⟨ti, hi, hz0, hz1, hz2⟩ := info_parts infoStr
  obtain ⟨hs0, hne, hlen⟩ := msgE_zero h0
  have HM := hid (encAt c d w hd hT)
  have HL := hid hd.es.len
  have HR := hid hd.es.rng
  have hn0 : 0 < c.n := by rw [HL.out]; exact List.length_pos_iff.2 hne
  have hn4 : c.n ≤ 4096 := by rw [HL.out]; exact hlen
  have HMD := hid hd.m
  have hrm : I64 c.m := by rw [hd.m]; exact hd.rm
  have HRM := hid hrm
  have HCK : Hid (∀ w1, Below (w.alloc (mObj c)).heap.size (w.alloc (mObj c)) w1 → Calls Tryz.prog 80 #[c.v] w1 fun e w' => e = .returned (.int .i64 0) ∧ Below w1.heap.size w1 w') := hid fun w1 h => by
    have q := encAt c d w hd hT w1 h
    rw [← h0]; exact msgCheck_call c d w1 q.msg q.tabs
  have HST : Hid (∀ w1, Below (w.alloc (mObj c)).heap.size (w.alloc (mObj c)) w1 → Calls Tryz.prog 109 #[c.st.v] w1 fun e w' => e = .returned (.tuple #[.string (stampT d.st), .int .i64 0]) ∧ Below w1.heap.size w1 w') := hid fun w1 h => by
    have q := encAt c d w hd hT w1 h
    refine (stampText_call c.st d.st w1 q.msg.st q.tabs).mono fun e w' ⟨he, hb⟩ => ⟨?_, hb⟩
    rw [he, stampR, if_pos hs0]
  have HLT : Hid (∀ w1, Below (w.alloc (mObj c)).heap.size (w.alloc (mObj c)) w1 → Calls Tryz.prog 108 #[c.b.v] w1 fun e w' => e = .returned (.tuple #[.string t, .int .i64 0]) ∧ Below w1.heap.size w1 w') := hid fun w1 h => hlit w1 (encAt c d w hd hT w1 h).bel
  have hstz : (stampT d.st).size ≤ 20000 := stampT_size d.st hd.st.re hd.st.ps.rng (stampE_len hs0)
  clear hd hT hlit hne hlen hrm h0 hs0
  obtain ⟨⟨ce, sa, sn, sc⟩, m, a, n, cap, ⟨k, i', s, tt, la, ll, lc, fa, fl, fc⟩⟩ := c
  have h00 := HM.out _ (Below.refl _ _)
  have h0t := h00.ten
  dsimp only [Ten, mObj] at h0t
  obtain ⟨e0, e1, e2, e3, e4, e5, e6, e7, e8, e9⟩ := h0t
  clear h00
  have hck := HCK.out _ (Below.refl _ _)
  have HCK0 := hid hck
  dsimp only [mObj, SC.v, VC.v, MC.v] at HM HL HR hn0 hn4 HMD HRM HCK0 HST HLT ⊢
  clear hck HCK
  go_enter Tryz.func59, Tryz.ntmps59
  go_wp2_with (first
    | (go_at_call 80; refine HCK0.out.mono ?_; rintro e w2 ⟨rfl, hb2⟩; obtain ⟨⟨j0, j1, j2, j3, j4, j5, j6, j7, j8, j9⟩, _, _, _⟩ := HM.out _ hb2; clear e0 e1 e2 e3 e4 e5 e6 e7 e8 e9)
    | (go_at_call 108; refine (HLT.out _ hb2).mono ?_; rintro e w3 ⟨rfl, hb3⟩; have hb3' := hb2.trans (hb3.mono hb2.size); obtain ⟨⟨l0, l1, l2, l3, l4, l5, l6, l7, l8, l9⟩, _, _, _⟩ := HM.out _ hb3'; clear j0 j1 j2 j3 j4 j5 j6 j7 j8 j9)
    | (go_at_call 109; refine (HST.out _ hb3').mono ?_; rintro e w4 ⟨rfl, hb4⟩; have hb4' := hb3'.trans (hb4.mono hb3'.size); obtain ⟨⟨m0, m1, m2, m3, m4, m5, m6, m7, m8, m9⟩, hbw4, hms4, htb4⟩ := HM.out _ hb4'; have HP4 := hid hms4.es; have HT4 := hid htb4; clear hms4 htb4 l0 l1 l2 l3 l4 l5 l6 l7 l8 l9))
  go_loopw [9, 35] (fun v i wr => ∃ k : Nat, k ≤ n ∧ i = .int .i64 k ∧ wr.ownsRow w4.heap.size 9 1 v k (((d.es.take k).map itoaB).map Value.string) ∧ Below w4.heap.size w4 wr) (fun _ i _ => n - (intOf i).toNat)
  case atStart => exact ⟨0, Nat.zero_le _, rfl, World.ownsRow_nil _ _ _ _, Below.refl _ _⟩
  case round =>
    obtain ⟨q, hk, rfl, hown, hbr⟩ := hrel
    have HBR := hid hbr
    by_cases hlt : q < n
    · obtain ⟨b, o, rfl, hb, hc⟩ := HP4.out.slot hn0
      have hkl : q < d.es.length := by have := HL.out; omega
      have hc0 := (World.cell?_of_block (w := w4) (a := ⟨b, o + q, none⟩) (hbr.block b hb)).trans (hc q hkl)
      clear hc
      obtain ⟨z, hz⟩ : ∃ z, z = d.es[q] := ⟨_, rfl⟩
      rw [← hz] at hc0
      have hit := hid (itoa_call z (by rw [hz]; exact HR.out _ (List.getElem_mem _)) wr (HT4.out.below hbr))
      have HZ := hid hz
      clear hz
      have hlt' : (q : Int) < (n : Int) := by omega
      have HOWN := hid hown
      clear hown hbr
      have hcap1 : q + 1 ≤ maxLen := by unfold maxLen; omega
      have hcap2 : (q + 1) * 16 ≤ 140737488355328 := by omega
      go_wp2_with (first
        | (go_at_call 110; refine hit.out.mono ?_; rintro e w6 ⟨rfl, hb6⟩)
        | (at_builtin; refine wpList_append_own_at _ (by rfl) _ _ 144 (by rfl) w4.heap.size 9 ti _ 1 16 Tryz.underlying144 hi hz0 hz1 hz2 rfl (by omega) _ _ _ (by rfl) ((ownExt HOWN.out hb6).alloc _) ⟨w6.heap.size, 0, none⟩ 1 1 [.string (itoaB z)] (by rfl) (by rfl) (cell_one_new _ _ _) (by simp [Value.oneCell']) hcap1 hcap2 (by have := HBR.out.size; have := hb6.size; simp; omega) ?_; intro v' w5 hown' hgrow hnil hloc; have HO2 := hid hown'; have HG := hid hgrow; clear hown' hgrow hnil hloc))
      go_roundw
      case rel =>
        refine ⟨q + 1, by omega, by go_num, ?_, ?_⟩
        · have h := HO2.out
          rw [show ((d.es.take (q + 1)).map itoaB).map Value.string = ((d.es.take q).map itoaB).map Value.string ++ [.string (itoaB z)] by rw [List.take_succ_eq_append_getElem hkl, HZ.out, List.map_append, List.map_append]; rfl]
          exact h
        · have h3 := HBR.out.trans (hb6.mono HBR.out.size)
          refine (h3.alloc h3.size _).grown HG.out (by have := h3.size; simp; omega) fun r hr => ?_
          exact own_ge2 HOWN.out r hr
      case measure => simp [intOf]; omega
    · obtain rfl : q = n := by omega
      clear hlt
      rw [List.take_of_length_le (by have := HL.out; omega)] at hown
      obtain ⟨g, cap', rfl, hj⟩ := strRow_join hown (by rw [List.length_map]; exact HL.out) hn0 21 (fun x hx => by
        rw [List.mem_map] at hx
        obtain ⟨y, hy, rfl⟩ := hx
        exact itoaB_len y (HR.out y hy)) ⟨#[44]⟩ (by simp; omega)
      have HJ := hid hj
      have hit := hid (itoa_call m HRM.out wr (HT4.out.below hbr))
      have z1 := itoaB_size m HRM.out
      have z2 := joinB_size (d.es.map itoaB) ⟨#[44]⟩ 21 (fun x hx => by
        rw [List.mem_map] at hx
        obtain ⟨y, hy, rfl⟩ := hx
        exact itoaB_len y (HR.out y hy))
      rw [List.length_map, ← HL.out] at z2
      simp at z2
      have s1 : (stampT d.st).size + 1 ≤ 9223372036854775807 := by omega
      have s2 : (stampT d.st).size + 1 + (itoaB m).size ≤ 9223372036854775807 := by omega
      have s3 : (stampT d.st).size + 1 + (itoaB m).size + 1 ≤ 9223372036854775807 := by omega
      have s4 : (stampT d.st).size + 1 + (itoaB m).size + 1 + (joinB (d.es.map itoaB) ⟨#[44]⟩).size ≤ 9223372036854775807 := by omega
      have s5 : (stampT d.st).size + 1 + (itoaB m).size + 1 + (joinB (d.es.map itoaB) ⟨#[44]⟩).size + 1 ≤ 9223372036854775807 := by omega
      have s6 : (stampT d.st).size + 1 + (itoaB m).size + 1 + (joinB (d.es.map itoaB) ⟨#[44]⟩).size + 1 + t.size ≤ 9223372036854775807 := by omega
      have c0 := (World.cell?_of_block (w := w4) (a := ⟨w.heap.size, 2, none⟩) (hbr.block _ (World.block_lt_of_cell? _ _ m2))).trans m2
      clear hj hown hbr
      go_wp2_with (first
        | (go_at_call 110; refine hit.out.mono ?_; rintro e w6 ⟨rfl, hb6⟩)
        | (go_at_call 111; refine (HJ.out _ hb6).mono ?_; rintro e w7 ⟨rfl, hb7⟩))
      have hbz : Below w.heap.size w w7 := by
        have h1 := hbw4.trans (HBR.out.mono hbw4.size)
        have h2 := h1.trans (hb6.mono h1.size)
        exact h2.trans (hb7.mono h2.size)
      exact bodyPost_ret (v := .tuple #[.string (encT d t), .int .i64 0]) (by simp [results, Tryz.results59, go_sem, encT, HMD.out]) rfl ⟨rfl, hbz⟩
end Go.Proofs.YthjlgpmajeafpaaGreatDoor
