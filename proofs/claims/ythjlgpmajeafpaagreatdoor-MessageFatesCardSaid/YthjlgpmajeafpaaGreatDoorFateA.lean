/-
  manifoldlaw29.smalls, message.Stamps. Condition: the list can be read as data.
-/
import Derived.Test.YthjlgpmajeafpaaGreatDoorRow
import Derived.Test.YthjlgpmajeafpaaGreatDoorEq
import Derived.Test.YthjlgpmajeafpaaGreatDoorCopy
import Derived.Deep.AppendLies
namespace Go.Proofs.YthjlgpmajeafpaaGreatDoor
open Go Go.RowKit Go.Shelf
set_option linter.unusedVariables false
set_option linter.unusedSimpArgs false

def SmallsPost (w : World) (n : Nat) (e : Ending) (w' : World) : Prop := (∃ b : Bool, e = .returned (.bool b) ∧ (b = true → n ≤ 20)) ∧ Below w.heap.size w w'
set_option maxRecDepth 100000 in
set_option maxHeartbeats 4000000 in
theorem smalls_call (a : Option Addr) (n c : Nat) (l : List Msg) (w : World) (hd : IsMsgs (· < w.heap.size) w a n c l) : Calls Tryz.prog 21 #[.slice a n c] w (SmallsPost w n) := by
  have hbig := hd.big
  have HL := hid hd.len
  have HD := hid hd
  clear hd
  go_enter Tryz.func21, Tryz.ntmps21
  by_cases q : n ≤ 20
  · have q' : (n : Int) ≤ 20 := by omega
    go_wp2
    go_loopw [3] (fun i wr => ∃ k : Nat, k ≤ n ∧ i = .int .i64 k ∧ Below w.heap.size w wr) (fun i _ => n - (intOf i).toNat)
    case atStart => exact ⟨0, Nat.zero_le _, rfl, Below.refl _ _⟩
    case round =>
      obtain ⟨k, hk, rfl, hbr⟩ := hrel
      by_cases hlt : k < n
      · have hkl : k < l.length := by have := HL.out; omega
        obtain ⟨b, o, rfl, hb, hx⟩ := HD.out.at'.resolve_left fun h => by rw [h] at hkl; simp at hkl
        obtain ⟨x, hxa, hxi⟩ := hx k hkl
        obtain ⟨x0, x1, x2, x3, x4, x5, x6, x7, x8, x9⟩ := hxa.same (hbr.block b hb)
        have hlt' : (k : Int) < (n : Int) := by omega
        have hk0 : (0 : Int) ≤ (k : Int) := by omega
        have HSM := hid (small_call x l[k] wr (hxi.same fun b q => ⟨by have := hbr.size; omega, hbr.block b q⟩))
        have HBR := hid hbr
        clear hbr hxi hxa hx hb
        dsimp only [MC.v] at HSM
        go_wp2_with (go_at_call 16; refine HSM.out.mono ?_; rintro e w3 ⟨⟨b1, rfl, _⟩, hb3⟩; cases b1)
        · go_ret
          exact ⟨⟨false, rfl, fun h => by cases h⟩, HBR.out.trans (hb3.mono HBR.out.size)⟩
        · go_roundw
          case rel => exact ⟨k + 1, by omega, by go_num, HBR.out.trans (hb3.mono HBR.out.size)⟩
          case measure => simp [intOf]; omega
      · obtain rfl : k = n := by omega
        go_wp2
        go_ret
        exact ⟨⟨true, rfl, fun _ => q⟩, hbr⟩
  · have q' : ¬ (n : Int) ≤ 20 := by omega
    go_wp2
    go_ret
    exact ⟨⟨false, rfl, fun h => by cases h⟩, Below.refl _ _⟩

theorem infoSt : (Tryz.prog.info? 24).map (fun i => (i.zero, i.size, i.bytes)) = some (some (.agg #[.int .i64 0, .slice none 0 0]), 2, 32) := by kernel_rfl
def StsPost (w : World) (n : Nat) (l : List St) (e : Ending) (w' : World) : Prop := ∃ a' c', e = .returned (.slice a' n c') ∧ Below w.heap.size w w' ∧ IsRow stK (fun b => w.heap.size ≤ b ∧ b < w'.heap.size) w' a' n c' l
set_option maxRecDepth 100000 in
set_option maxHeartbeats 4000000 in
theorem stamps_call (a : Option Addr) (n c : Nat) (l : List Msg) (w : World) (hd : IsMsgs (· < w.heap.size) w a n c l) : Calls Tryz.prog 22 #[.slice a n c] w (StsPost w n (l.map (·.st))) := by
  obtain ⟨ti, hi, hz0, hz1, hz2⟩ := info_parts infoSt
  have hbig := hd.big
  have HL := hid hd.len
  have HD := hid hd
  clear hd
  go_enter Tryz.func22, Tryz.ntmps22
  go_wp2
  go_loopw [3, 8] (fun vv i wr => ∃ (k : Nat) (v : Value), v = vv ∧ k ≤ n ∧ i = .int .i64 k ∧ Built stK 24 w.heap.size wr v k (l.map (·.st)) ∧ Below w.heap.size w wr) (fun _ i _ => n - (intOf i).toNat)
  case atStart => exact ⟨0, _, rfl, Nat.zero_le _, rfl, Built.nil _ _ _ _, Below.refl _ _⟩
  case round =>
    obtain ⟨k, v, rfl, hk, rfl, hbu, hbr⟩ := hrel
    obtain ⟨wp, rfl⟩ : ∃ w1 : World, w1 = wr := ⟨_, rfl⟩
    by_cases hlt : k < n
    · have hkl : k < l.length := by have := HL.out; omega
      obtain ⟨b, o, rfl, hb, hx⟩ := HD.out.at'.resolve_left fun h => by rw [h] at hkl; simp at hkl
      obtain ⟨x, hxa, hxi⟩ := hx k hkl
      obtain ⟨x0, x1, x2, x3, x4, x5, x6, x7, x8, x9⟩ := hxa.same (hbr.block b hb)
      have hlt' : (k : Int) < (n : Int) := by omega
      have hk0 : (0 : Int) ≤ (k : Int) := by omega
      obtain ⟨cs, hcs, hown, hel⟩ := hbu
      have hvb := Built.own (K := stK) ⟨cs, hcs, hown, hel⟩
      have hba : Below w.heap.size w (wp.alloc (mObj x)) := hbr.alloc hbr.size _
      have HCS := hid (copyStamp_call x.st l[k].st (wp.alloc (mObj x)) (hxi.st.same fun b q => ⟨by have := hba.size; omega, hba.block b q⟩))
      have HVB := hid hvb
      have HOWN := hid hown
      have HEL := hid hel
      have HCL := hid hcs
      have HBA := hid hba
      have HBR := hid hbr
      have HXI := hid hxi
      clear hvb hown hel hcs hba hbr hxi hxa hx hb
      have hcap1 : k + 1 ≤ maxLen := by unfold maxLen; omega
      have hcap2 : (k + 1) * 32 ≤ 140737488355328 := by omega
      dsimp only [mObj, SC.v] at HCS HBA
      go_wp2_with (first
        | (go_at_call 66; refine HCS.out.mono ?_; rintro e w4 ⟨c4, rfl, hb4, hi4⟩; have HB4 := hid hb4; have HI4 := hid hi4; clear hb4 hi4)
        | (at_builtin; go_loud (refine wpList_append_lies _ (by rfl) _ _ 42 (by rfl) w.heap.size 24 ti _ 2 32 Tryz.underlying42 hi hz0 hz1 hz2 rfl (by omega) v k (cs.flatMap SC.cs) (by rfl) ((ownExt (HOWN.out.alloc _) HB4.out).alloc (.cells #[.int .i64 c4.e, .slice c4.a c4.n c4.c] 24)) ⟨w4.heap.size, 0, none⟩ 1 1 (SC.cs c4) (by rfl) (by rfl) (World.news_of_block (heap_alloc_new w4 _)) (by simp [SC.cs, Value.oneCell']) (by omega) hcap1 hcap2 (by have h1 := HBA.out.size; have h2 := HB4.out.size; simp at h1 h2 ⊢; omega) (w4.heap.size + 1) (by simp) ?_); intro gg cap5 w5 hown2 hgrow hat hlt2; have HO2 := hid hown2; have HG := hid hgrow; have HAT := hid hat; clear hown2 hgrow hat hlt2))
      go_roundw
      case rel =>
        have h4 := HB4.out.size
        simp only [World.size_alloc] at h4
        have h14 : Below w.heap.size w w4 := HBA.out.trans (HB4.out.mono HBA.out.size)
        have hs0 := HBR.out.size
        have hkm : k < (l.map (·.st)).length := by simpa using hkl
        have hpush : Built stK 24 w.heap.size w5 (.slice (some ⟨gg, 0, none⟩) (k + 1) cap5) (k + 1) (l.map (·.st)) :=
          Built.push (K := stK) (N := wp.heap.size) (w1 := w4) (o := .cells #[.int .i64 c4.e, .slice c4.a c4.n c4.c] 24) (c := c4) HCL.out
            (fun j hj hj' => (HEL.out j hj hj').same fun b hb => ⟨⟨hb.1, by have := hb.2.1; omega, hb.2.2⟩, (HB4.out.block b (by have := hb.2.1; simp; omega)).trans (Below.heap_alloc _ _ _ (by have := hb.2.1; omega))⟩) hkm
            (by rw [List.getElem_map]; exact HI4.out.same fun b hb => ⟨⟨by have := hb.1; simp at this; omega, hb.2⟩, rfl⟩) hs0 (fun r e => (HVB.out r e).2) HO2.out HG.out HAT.out
        exact ⟨k + 1, _, rfl, by omega, by go_num, hpush, (h14.alloc h14.size _).grown HG.out (by simp; omega) (fun r e => (HVB.out r e).1)⟩
      case measure => simp [intOf]; omega
    · obtain rfl : k = n := by omega
      obtain ⟨av, capv, rfl, hrow⟩ := Built.row' hbu (by rw [List.length_map]; exact HL.out) (by dsimp only; omega)
      go_wp2
      go_ret
      exact ⟨av, capv, rfl, hbr, hrow⟩
end Go.Proofs.YthjlgpmajeafpaaGreatDoor
