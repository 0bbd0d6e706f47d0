/-
  MessageOrigins returns true. Conditions: the arguments are of their kinds; Tabs.
-/
import Derived.Test.YtkcoicijenclhaaGreatDoorKnown
import Derived.Test.YtkcoicijenclhaaGreatDoorOrgs
namespace Go.Proofs.YtkcoicijenclhaaGreatDoor
open Go Go.RowKit Go.Shelf
set_option linter.unusedVariables false
set_option linter.unusedSimpArgs false

abbrev orC (B : Nat) (a : Option Addr) (n c : Nat) : MC := ⟨⟨1, some ⟨B, 0, none⟩, 1, 1⟩, 0, a, n, c, ⟨0, 0, 0, ⟨#[]⟩, none, 0, 0, none, 0, 0⟩⟩
theorem i64_0 : I64 0 := ⟨by decide, by decide⟩
theorem i64_1 : I64 1 := ⟨by decide, by decide⟩
theorem okN : VC.ok ⟨0, 0, 0, ⟨#[]⟩, none, 0, 0, none, 0, 0⟩ := ⟨i64_0, i64_0, i64_0, by decide, by decide, by decide, by decide, by decide⟩
theorem noV_is (S : Nat → Prop) (w : World) : IsVal S w ⟨0, 0, 0, ⟨#[]⟩, none, 0, 0, none, 0, 0⟩ noV := ⟨⟨rfl, rfl, rfl, rfl, okN, rfl, rfl, rfl⟩, .inl rfl, .inl rfl⟩
theorem one_isInts (S : Nat → Prop) (w : World) (B : Nat) (z : Int) (hz : I64 z) (hB : S B) (h : w.heap[B]? = some (.cells #[.int .i64 z] 3)) : IsInts S w (some ⟨B, 0, none⟩) 1 1 [z] :=
  ⟨rfl, by decide, by decide, fun x hx => by rw [List.mem_singleton] at hx; subst hx; exact hz, .inr ⟨B, 0, rfl, hB, fun j hj => by
    have hj0 : j = 0 := by simpa using hj
    subst hj0
    exact cellOf h 0⟩⟩
theorem or_isMsg (S : Nat → Prop) (w : World) (B : Nat) (hB : S B) (h : w.heap[B]? = some (.cells #[.int .i64 1] 3)) (a : Option Addr) (n c : Nat) (f : Int) (hi : IsInts S w a n c (orgs f n)) : IsMsg S w (orC B a n c) ⟨⟨1, [1]⟩, 0, orgs f n, noV⟩ :=
  ⟨⟨rfl, i64_1, one_isInts S w B 1 i64_1 hB h⟩, rfl, i64_0, hi, noV_is S w⟩

set_option maxRecDepth 100000 in
set_option maxHeartbeats 4000000 in
theorem origins_call (m f : Int) (hm0 : 0 ≤ m) (hm1 : m ≤ 255) (hf0: 0 ≤ f) (hf1 : f ≤ 65535) (w : World) (hT : Tabs w) : Calls Tryz.prog 3 #[.int .u8 m, .int .u16 f] w fun e w' => e = .returned (.bool true) ∧ Below w.heap.size w w' := by
  obtain ⟨ti, hi, hz0, hz1, hz2⟩ := info_parts infoInt
  have HT := hid hT
  clear hT
  obtain ⟨n, hn⟩ : ∃ n : Nat, (n : Int) = 4095 + m % 3 := ⟨(4095 + m % 3).toNat, by omega⟩
  have hn1 : 4095 ≤ n := by omega
  have hn2 : n ≤ 4097 := by omega
  have HN := hid hn
  go_enter Tryz.func3, Tryz.ntmps3
  clear hn
  go_wp2
  rw [← HN.out]
  clear HN hm0 hm1
  obtain ⟨w0, hw0⟩ : ∃ w0, w0 = (w.alloc (.cells #[.int .i64 1] 3)).alloc (mObj (orC w.heap.size none 0 0)) := ⟨_, rfl⟩
  have hb0 : Below w.heap.size w w0 := by rw [hw0]; exact ((Below.refl _ w).alloc (Nat.le_refl _) _).alloc (by simp) _
  have g0 : w0.heap[w.heap.size]? = some (.cells #[.int .i64 1] 3) := by rw [hw0]; exact heapAlloc _ (heap_alloc_new w _)
  have g1 : w0.heap[w.heap.size + 1]? = some (mObj (orC w.heap.size none 0 0)) := by rw [hw0]; exact heapNewAt _ _ _ (by simp)
  have hs0 : w0.heap.size = w.heap.size + 2 := by rw [hw0]; simp
  dsimp only [mObj, orC] at hw0
  rw [← hw0]
  clear hw0
  go_loopw [7] (fun i wr => ∃ (k : Nat) (v : Value), k ≤ n ∧ i = .int .i64 k ∧ wr.heap[w.heap.size + 1]? = some (.cells #[.int .i64 1, .slice (some ⟨w.heap.size, 0, none⟩) 1 1, .int .i64 0, v, .int .i64 0, .int .i64 0, .int .i64 0, .string ⟨#[]⟩, .slice none 0 0, .slice none 0 0] 31 (0, 0)) ∧
      wr.heap[w.heap.size]? = some (.cells #[.int .i64 1] 3) ∧ wr.ownsRow (w.heap.size + 2) 3 1 v k ((orgs f k).map (Value.int .i64)) ∧ Below w.heap.size w wr ∧ w.heap.size + 2 ≤ wr.heap.size) (fun i _ => n - (intOf i).toNat)
  case atStart => exact ⟨0, _, Nat.zero_le _, rfl, g1, g0, World.ownsRow_nil _ _ _ _, hb0, by omega⟩
  case round =>
    obtain ⟨k, v, hk, rfl, hb1, hb2, hown, hbr, hsr⟩ := hrel
    clear g0 g1 hb0
    by_cases hlt : k < n
    · have hlt' : (k : Int) < (n : Int) := by omega
      have hn' : (n : Int) ≤ 4097 := by omega
      have hk0 : (0 : Int) ≤ (k : Int) := by omega
      have c3 := cellOf hb1 3
      have HB1 := hid hb1
      have HB2 := hid hb2
      have HOWN := hid hown
      have HBR := hid hbr
      clear hb1 hb2 hown hbr
      have hcap1 : k + 1 ≤ maxLen := by unfold maxLen; omega
      have hcap2 : (k + 1) * 8 ≤ 140737488355328 := by omega
      have hne : ∀ r, v.ownBlock = some r → w.heap.size + 2 ≤ r := own_ge2 HOWN.out
      have HNE := hid hne
      clear hne
      go_wp2_with (at_builtin; refine wpList_append_own_at _ (by rfl) _ _ 23 (by rfl) (w.heap.size + 2) 3 ti _ 1 8 Tryz.underlying23 hi hz0 hz1 hz2 rfl (by omega) v k ((orgs f k).map (Value.int .i64)) (by rfl) (HOWN.out.alloc _) ⟨wr.heap.size, 0, none⟩ 1 1 [.int .i64 (1 + f + 2 * (k : Int))] (by rfl) (by rfl) (cell_one_new _ _ _) (by simp [Value.oneCell']) hcap1 hcap2 (by simp; omega) ?_; intro v' w5 hown' hgrow hnil hloc; obtain ⟨g5, cap5, rfl⟩ := row_succ hown'; have HO2 := hid hown'; have HG := hid hgrow; have r1 := heapGrown hgrow (heapAlloc _ HB1.out) (fun e => by have := HNE.out _ e.symm; omega); have d3 := cellOf r1 3; have d4 := freeOf r1 3; have R1 := hid r1; clear hown' hgrow hnil hloc r1)
      go_roundw
      case rel =>
        refine ⟨k + 1, _, by omega, by go_num, heapSet _ R1.out, heapSetOther _ _ (heapGrown HG.out (heapAlloc _ HB2.out) (fun e => by have := HNE.out _ e.symm; omega)) (by dsimp only; omega), ?_, ?_, ?_⟩
        · refine ownsRow_setCell_below ?_ (by dsimp only; omega) _
          rw [orgs_succ, List.map_append]
          exact HO2.out
        · exact (((HBR.out.alloc (by omega) _).grown HG.out (by simp; omega) fun r hr => by have := HNE.out _ hr; omega)).setCell (by dsimp only; omega) _
        · have := HG.out.size; simp at this; simp [World.setCell]; omega
      case measure => simp [intOf]; omega
    · obtain rfl : k = n := by omega
      clear hlt
      have hn4 : (k : Int) ≤ 4097 := by omega
      obtain ⟨a, cap, rfl, hii⟩ := ints_of_row hown (by omega) (fun x hx => by
        obtain ⟨j, hj, rfl⟩ := List.getElem_of_mem hx
        rw [orgs_get]
        have := orgs_length f k
        exact ⟨by omega, by omega⟩)
      have HKN := hid (known_call wr (HT.out.below hbr))
      have HX : Hid (∀ w2, Below wr.heap.size wr w2 → Ten w2 (w.heap.size + 1) (orC w.heap.size a k cap) ∧ Below w.heap.size w w2 ∧ Calls Tryz.prog 16 #[(orC w.heap.size a k cap).v] w2 fun e w' => e = .returned (.int .i64 (if k ≤ 4096 then 0 else 9)) ∧ Below w2.heap.size w2 w') := hid fun w2 h => by
        have hb := hbr.trans (h.mono hbr.size)
        refine ⟨tenOf (heapExt h hb1), hb, ?_⟩
        have hm : IsMsg (· < w2.heap.size) w2 (orC w.heap.size a k cap) ⟨⟨1, [1]⟩, 0, orgs f k, noV⟩ := or_isMsg (fun b => b < w2.heap.size) w2 w.heap.size (ltOf (heapExt h hb2)) (heapExt h hb2) _ _ _ _ (hii.same fun b q => ⟨Nat.lt_of_lt_of_le (show b < wr.heap.size from q.2) h.size, h.block b q.2⟩)
        rw [← orgs_msg f k hf0 hf1 (by omega) hn2]
        exact msgCheck_call _ _ w2 hm (HT.out.below hb)
      clear hown hbr hb1 hb2 hii
      dsimp only [orC, MC.v, Ten] at HX
      by_cases h4 : k ≤ 4096
      · have hk1 : (k : Int) ≤ 4096 := by omega
        simp only [h4, if_true] at HX
        go_wp2_with (first
          | (go_at_call 15; refine HKN.out.mono ?_; rintro e w2 ⟨rfl, hb2⟩; obtain ⟨⟨e0, e1, e2, e3, e4, e5, e6, e7, e8, e9⟩, hbw2, hck2⟩ := HX.out w2 hb2; have HCK2 := hid hck2; clear hck2)
          | (go_at_call 16; refine HCK2.out.mono ?_; rintro e w3 ⟨rfl, hb3⟩))
        go_ret
        exact ⟨rfl, hbw2.trans (hb3.mono hbw2.size)⟩
      · have hk1 : ¬ (k : Int) ≤ 4096 := by omega
        simp only [h4, if_false] at HX
        go_wp2_with (first
          | (go_at_call 15; refine HKN.out.mono ?_; rintro e w2 ⟨rfl, hb2⟩; obtain ⟨⟨e0, e1, e2, e3, e4, e5, e6, e7, e8, e9⟩, hbw2, hck2⟩ := HX.out w2 hb2; have HCK2 := hid hck2; clear hck2)
          | (go_at_call 16; refine HCK2.out.mono ?_; rintro e w3 ⟨rfl, hb3⟩; obtain ⟨⟨j0, j1, j2, j3, j4, j5, j6, j7, j8, j9⟩, hbw3, hck3⟩ := HX.out w3 (hb2.trans (hb3.mono hb2.size)); clear HCK2; have HCK3 := hid hck3; clear hck3)
          | (go_at_call 16; refine HCK3.out.mono ?_; rintro e w4 ⟨rfl, hb4⟩))
        go_ret
        exact ⟨retB (by simp; omega), hbw3.trans (hb4.mono hbw3.size)⟩
end Go.Proofs.YtkcoicijenclhaaGreatDoor
