/-
  Rows of strings that the call builds; strconv.Itoa and strings.Join over them; stamp.Text returns the text of a stamp, or its error. Conditions: the stamp can be read as data; Tabs.
-/
import Derived.Test.YthjlgpmajeafpaaGreatDoorTabs
import Derived.Test.YthjlgpmajeafpaaGreatDoorStamp
import Derived.Lib.ItoaLen
import Derived.Lib.AppendIntMem
import Derived.Maps.AppendAt
namespace Go.Proofs.YthjlgpmajeafpaaGreatDoor
open Go Go.RowKit Go.Shelf
set_option linter.unusedVariables false
set_option linter.unusedSimpArgs false

theorem own_ge2 {w : World} {base : Nat} {e : TypeId} {size : Nat} {v : Value} {n : Nat} {xs : List Value} (h : w.ownsRow base e size v n xs) (k : Nat) (hk : v.ownBlock = some k) : base ≤ k := by
  rcases h.2 with ⟨rfl, _⟩ | ⟨g, cap, cur, rfl, hb, _⟩
  · cases hk
  · cases hk; exact hb
def itoaB (n : Int) : ByteArray := ⟨(Lib.itoa n).toArray⟩
def joinB (xs : List ByteArray) (sep : ByteArray) : ByteArray := ⟨(Lib.join (xs.map (·.data.toList)) sep.data.toList).toArray⟩
theorem itoa_call (n : Int) (h : I64 n) (w : World) (hT : Tabs w) : Calls Tryz.prog 110 #[.int .i64 n] w fun e w' => e = .returned (.string (itoaB n)) ∧ Below w.heap.size w w' :=
  (Tryz.strconv_Itoa n h.1 h.2 w hT.2).mono fun e w' ⟨he, k, os, hw⟩ => ⟨he, by rw [hw]; exact Lib.below_grow _ w (Nat.le_refl _) k os⟩
theorem join_len (l : List (List UInt8)) (sep : List UInt8) (B : Nat) (h : ∀ x ∈ l, x.length ≤ B) : (Lib.join l sep).length ≤ l.length * (B + sep.length) := by
  cases l with
  | nil => simp [Lib.join_nil]
  | cons x r =>
    rw [Lib.join_cons, List.length_append, Lib.joinTail_length]
    have h1 := h x (by simp)
    have h2 : Lib.lens r ≤ r.length * B := by
      have key : ∀ r : List (List UInt8), (∀ x ∈ r, x.length ≤ B) → Lib.lens r ≤ r.length * B := by
        intro r
        induction r with
        | nil => intro _; simp [Lib.lens]
        | cons y r ih =>
          intro h
          have h2 := ih (fun x hx => h x (by simp [hx]))
          have h3 := h y (by simp)
          simp only [Lib.lens, List.map_cons, List.sum_cons, List.length_cons, Nat.add_mul] at h2 ⊢
          omega
      exact key r fun x hx => h x (by simp [hx])
    simp only [List.length_cons]
    rw [Nat.add_mul, Nat.mul_add, Nat.mul_comm sep.length]
    omega
theorem itoaB_len (n : Int) (h : I64 n) : (itoaB n).data.toList.length ≤ 21 := by
  have := Lib.itoa_length_le n h.1 h.2
  simpa [itoaB] using this
theorem itoaB_size (n : Int) (h : I64 n) : (itoaB n).size ≤ 21 := by
  have := itoaB_len n h
  simpa using this
theorem joinB_size (xs : List ByteArray) (sep : ByteArray) (L : Nat) (h : ∀ x ∈ xs, x.data.toList.length ≤ L) : (joinB xs sep).size ≤ xs.length * (L + sep.data.toList.length) := by
  have := join_len (xs.map (·.data.toList)) sep.data.toList L (fun y hy => by
    rw [List.mem_map] at hy
    obtain ⟨x, hx1, rfl⟩ := hy
    exact h x hx1)
  rw [List.length_map] at this
  show (joinB xs sep).data.size ≤ _
  simpa [joinB] using this
theorem infoStr : (Tryz.prog.info? 9).map (fun i => (i.zero, i.size, i.bytes)) = some (some (.string ByteArray.empty), 1, 16) := by kernel_rfl
theorem strRow_join {w : World} {B n T : Nat} {v : Value} {xs : List ByteArray} (h : w.ownsRow B T 1 v n (xs.map Value.string)) (hl : n = xs.length) (h0 : 0 < n) (L : Nat) (hx : ∀ x ∈ xs, x.data.toList.length ≤ L) (sep : ByteArray) (hN : n * (L + sep.data.toList.length + 1) ≤ 140737488355328) :
    ∃ g cap, v = .slice (some ⟨g, 0, none⟩) n cap ∧ ∀ w', Below w.heap.size w w' → Calls Tryz.prog 111 #[v, .string sep] w' fun e w2 => e = .returned (.string (joinB xs sep)) ∧ Below w'.heap.size w' w2 := by
  have hc := fun g => h.cells (g := g)
  rcases h.2 with ⟨rfl, h1⟩ | ⟨g, cap, cur, rfl, hb, hg, hn, _⟩
  · omega
  · refine ⟨g, cap, rfl, fun w' hw => ?_⟩
    subst hl
    refine Tryz.strings_Join g 0 cap xs sep w' (fun j x hj => ?_) (by have := ltOf hg; have := hw.size; omega) ?_ hn ?_
    · have h2 := hc g rfl j (.string x) (by simp [hj])
      rw [show (⟨g, 0, none⟩ : Addr).add j = ⟨g, 0 + j, none⟩ by unfold Addr.add; split <;> simp_all] at h2
      exact (World.cell?_of_block (w := w) (a := ⟨g, 0 + j, none⟩) (hw.block g (ltOf hg))).trans h2
    · rw [Nat.mul_add] at hN; omega
    · have := join_len (xs.map (·.data.toList)) sep.data.toList L (fun y hy => by
        rw [List.mem_map] at hy
        obtain ⟨x, hx1, rfl⟩ := hy
        exact hx x hx1)
      rw [List.length_map] at this
      rw [Nat.mul_add, Nat.mul_one] at hN
      omega

def stampT (d : St) : ByteArray := itoaB d.e ++ ⟨#[47]⟩ ++ joinB (d.ps.map itoaB) ⟨#[46]⟩
def stampR (d : St) : Value := if stampE d = 0 then .tuple #[.string (stampT d), .int .i64 0] else .tuple #[.string ⟨#[]⟩, .int .i64 (stampE d)]
set_option maxRecDepth 100000 in
set_option maxHeartbeats 4000000 in
theorem stampText_call (c : SC) (d : St) (w : World) (hx : IsSt (· < w.heap.size) w c d) (hT : Tabs w) : Calls Tryz.prog 109 #[c.v] w fun e w' => e = .returned (stampR d) ∧ Below w.heap.size w w' := by
  obtain ⟨ti, hi, hz0, hz1, hz2⟩ := info_parts infoStr
  obtain ⟨ce, a, n, cap⟩ := c
  obtain ⟨e0, ps⟩ := d
  obtain ⟨he0, re, hps⟩ := hx
  dsimp only [SC.v] at hps he0 re ⊢
  subst he0
  obtain ⟨w1, hw1⟩ : ∃ w1, w1 = w.alloc (.cells #[.int .i64 ce, .slice a n cap] 24) := ⟨_, rfl⟩
  have hb1 : Below w.heap.size w w1 := by rw [hw1]; exact (Below.refl _ w).alloc (Nat.le_refl _) _
  have hbox : w1.heap[w.heap.size]? = some (.cells #[.int .i64 ce, .slice a n cap] 24 (0, 0)) := by rw [hw1]; exact heap_alloc_new w _
  obtain ⟨u, hu⟩ : ∃ u, u = stampE ⟨ce, ps⟩ := ⟨_, rfl⟩
  have HSC : Hid (Calls Tryz.prog 127 #[.agg #[.int .i64 ce, .slice a n cap]] w1 fun e w2 => e = .returned (.int .i64 u) ∧ Below w1.heap.size w1 w2) := hid (by rw [hu]; exact stampCheck_call _ ⟨ce, a, n, cap⟩ ⟨ce, ps⟩ w w1 ⟨rfl, re, hps⟩ (fun b hb => ⟨Nat.lt_of_lt_of_le hb hb1.size, hb1.block b hb⟩))
  have HX : Hid (∀ w2, Below w1.heap.size w1 w2 → (w2.cell? ⟨w.heap.size, 0, none⟩ = some (.int .i64 ce) ∧ w2.cell? ⟨w.heap.size, 1, none⟩ = some (.slice a n cap)) ∧ Below w.heap.size w w2 ∧ IsInts (· < w2.heap.size) w2 a n cap ps ∧ Tabs w2) := hid fun w2 h => by
    have g := heapExt h hbox
    have hb := hb1.trans (h.mono hb1.size)
    exact ⟨⟨cellOf g 0, cellOf g 1⟩, hb, hps.same fun b q => ⟨Nat.lt_of_lt_of_le q hb.size, hb.block b q⟩, hT.below hb⟩
  rw [hw1] at HSC HX
  have HL := hid hps.len
  have HR := hid hps.rng
  have RE := hid re
  have HU := hid hu
  clear hps hT hbox hb1 hw1 hu re
  go_enter Tryz.func109, Tryz.ntmps109
  by_cases q1 : u = 0
  · subst q1
    have hfin := hid (show stampR ⟨ce, ps⟩ = .tuple #[.string (stampT ⟨ce, ps⟩), .int .i64 0] by rw [stampR, ← HU.out, if_pos rfl])
    have hn0 : 0 < n := by
      rcases Nat.eq_zero_or_pos n with h | h
      · have h0 : ps = [] := List.eq_nil_of_length_eq_zero (by rw [← HL.out]; exact h)
        have h1 := HU.out
        rw [h0, stampE] at h1
        dsimp only at h1
        split at h1
        · simp at h1
        · simp at h1
      · exact h
    have hn512 : n ≤ 512 := by
      rcases Nat.lt_or_ge 512 n with h | h
      · have h1 := HU.out
        rw [stampE] at h1
        dsimp only at h1
        have h2 := HL.out
        split at h1
        · simp at h1
        · split at h1
          · simp at h1
          · rw [if_pos (by omega)] at h1; simp at h1
      · exact h
    go_wp2_with (go_at_call 127; refine HSC.out.mono ?_; rintro e w2 ⟨rfl, hb2⟩; obtain ⟨⟨j0, j1⟩, hbw2, hps2, hT2⟩ := HX.out _ hb2; have HP2 := hid hps2; have HT2 := hid hT2; clear hps2 hT2 hb2)
    go_loopw [5, 16] (fun v i wr => ∃ k : Nat, k ≤ n ∧ i = .int .i64 k ∧ wr.ownsRow w2.heap.size 9 1 v k (((ps.take k).map itoaB).map Value.string) ∧ Below w2.heap.size w2 wr) (fun _ i _ => n - (intOf i).toNat)
    case atStart => exact ⟨0, Nat.zero_le _, rfl, World.ownsRow_nil _ _ _ _, Below.refl _ _⟩
    case round =>
      obtain ⟨k, hk, rfl, hown, hbr⟩ := hrel
      have HBR := hid hbr
      by_cases hlt : k < n
      · obtain ⟨b, o, rfl, hb, hc⟩ := HP2.out.slot hn0
        have hkl : k < ps.length := by have := HL.out; omega
        have hc0 := (World.cell?_of_block (w := w2) (a := ⟨b, o + k, none⟩) (hbr.block b hb)).trans (hc k hkl)
        clear hc
        obtain ⟨z, hz⟩ : ∃ z, z = ps[k] := ⟨_, rfl⟩
        rw [← hz] at hc0
        have hit := hid (itoa_call z (by rw [hz]; exact HR.out _ (List.getElem_mem _)) wr (HT2.out.below hbr))
        have HZ := hid hz
        clear hz
        have hlt' : (k : Int) < (n : Int) := by omega
        have HOWN := hid hown
        clear hown hbr
        have hcap1 : k + 1 ≤ maxLen := by unfold maxLen; omega
        have hcap2 : (k + 1) * 16 ≤ 140737488355328 := by omega
        go_wp2_with (first
          | (go_at_call 110; refine hit.out.mono ?_; rintro e w3 ⟨rfl, hb3⟩)
          | (at_builtin; refine wpList_append_own_at _ (by rfl) _ _ 144 (by rfl) w2.heap.size 9 ti _ 1 16 Tryz.underlying144 hi hz0 hz1 hz2 rfl (by omega) _ _ _ (by rfl) ((ownExt HOWN.out hb3).alloc _) ⟨w3.heap.size, 0, none⟩ 1 1 [.string (itoaB z)] (by rfl) (by rfl) (cell_one_new _ _ _) (by simp [Value.oneCell']) hcap1 hcap2 (by have := HBR.out.size; have := hb3.size; simp; omega) ?_; intro v' w5 hown' hgrow hnil hloc; have HO2 := hid hown'; have HG := hid hgrow; clear hown' hgrow hnil hloc))
        go_roundw
        case rel =>
          refine ⟨k + 1, by omega, by go_num, ?_, ?_⟩
          · have h := HO2.out
            rw [show ((ps.take (k + 1)).map itoaB).map Value.string = ((ps.take k).map itoaB).map Value.string ++ [.string (itoaB z)] by rw [List.take_succ_eq_append_getElem hkl, HZ.out, List.map_append, List.map_append]; rfl]
            exact h
          · have h3 := HBR.out.trans (hb3.mono HBR.out.size)
            refine (h3.alloc h3.size _).grown HG.out (by have := h3.size; simp; omega) fun r hr => ?_
            exact own_ge2 HOWN.out r hr
        case measure => simp [intOf]; omega
      · obtain rfl : k = n := by omega
        clear hlt
        rw [List.take_of_length_le (by have := HL.out; omega)] at hown
        obtain ⟨g, cap', rfl, hj⟩ := strRow_join hown (by rw [List.length_map]; exact HL.out) hn0 21 (fun x hx => by
          rw [List.mem_map] at hx
          obtain ⟨y, hy, rfl⟩ := hx
          exact itoaB_len y (HR.out y hy)) ⟨#[46]⟩ (by simp; omega)
        have HJ := hid hj
        have hit := hid (itoa_call ce RE.out wr (HT2.out.below hbr))
        have s1 : (itoaB ce).size + 1 ≤ 9223372036854775807 := by have := itoaB_size ce RE.out; omega
        have s2 : (itoaB ce).size + 1 + (joinB (ps.map itoaB) ⟨#[46]⟩).size ≤ 9223372036854775807 := by
          have h1 := itoaB_size ce RE.out
          have h2 := joinB_size (ps.map itoaB) ⟨#[46]⟩ 21 (fun x hx => by
            rw [List.mem_map] at hx
            obtain ⟨y, hy, rfl⟩ := hx
            exact itoaB_len y (HR.out y hy))
          rw [List.length_map, ← HL.out] at h2
          simp at h2
          omega
        have c0 := (World.cell?_of_block (w := w2) (a := ⟨w.heap.size, 0, none⟩) (hbr.block _ (World.block_lt_of_cell? _ _ j0))).trans j0
        clear hj hown hbr
        go_wp2_with (first
          | (go_at_call 110; refine hit.out.mono ?_; rintro e w3 ⟨rfl, hb3⟩)
          | (go_at_call 111; refine (HJ.out _ hb3).mono ?_; rintro e w4 ⟨rfl, hb4⟩))
        have hbz : Below w.heap.size w w4 := by
          have h1 := hbw2.trans (HBR.out.mono hbw2.size)
          have h2 := h1.trans (hb3.mono h1.size)
          exact h2.trans (hb4.mono h2.size)
        exact bodyPost_ret (v := .tuple #[.string (stampT ⟨ce, ps⟩), .int .i64 0]) (by simp [results, Tryz.results109, go_sem, stampT]) rfl ⟨by rw [hfin.out], hbz⟩
  · have hfin := hid (show stampR ⟨ce, ps⟩ = .tuple #[.string ⟨#[]⟩, .int .i64 u] by rw [stampR, ← HU.out, if_neg q1])
    go_wp2_with (go_at_call 127; refine HSC.out.mono ?_; rintro e w2 ⟨rfl, hb2⟩; obtain ⟨⟨j0, j1⟩, hbw2, hps2, hT2⟩ := HX.out _ hb2; clear hps2 hT2 hb2)
    exact bodyPost_ret (v := .tuple #[.string ⟨#[]⟩, .int .i64 u]) (by simp [results, Tryz.results109, go_sem]) rfl ⟨by rw [hfin.out], hbw2⟩
end Go.Proofs.YthjlgpmajeafpaaGreatDoor
