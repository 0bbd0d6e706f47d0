/-
  Plain: the comparison of values is a total order (opposite arguments give the opposite sign; it is transitive; -1, 0 or 1). No program in sight.
-/
import Derived.Test.YthjlgpmajeafpaaGreatDoorSymmMrg
import Derived.Test.YthjlgpmajeafpaaGreatDoorSlotMrg
import Derived.Test.YthjlgpmajeafpaaGreatDoorKeepMrg
import Derived.Test.YthjlgpmajeafpaaGreatDoorSharesMrg
import Derived.Deep.AppendLies
namespace Go.Proofs.YthjlgpmajeafpaaGreatDoor
open Go Go.RowKit
set_option linter.unusedVariables false
set_option linter.unusedSimpArgs false

def lex (x y : Int) : Int := if x ≠ 0 then x else y
theorem orL_lex (x : Int) (r : List Int) : orL (x :: r) = lex x (orL r) := rfl
theorem lex_neg {x y x' y' : Int} (h : x' = -x) (h' : y' = -y) : lex x' y' = -lex x y := by
  subst h; subst h'; unfold lex; split <;> split <;> omega
/-- What the three comparisons of three things obey. -/
def Tri (x y z : Int) : Prop := (x ≤ 0 → y ≤ 0 → z ≤ 0) ∧ (z ≤ 0 → 0 ≤ y → x ≤ 0) ∧ (0 ≤ x → z ≤ 0 → y ≤ 0) ∧ (y ≤ 0 → 0 ≤ z → 0 ≤ x) ∧ (0 ≤ z → x ≤ 0 → 0 ≤ y) ∧ (0 ≤ y → 0 ≤ x → 0 ≤ z)
theorem lex_tri {x y z x' y' z' : Int} (h : Tri x y z) (h' : Tri x' y' z') : Tri (lex x x') (lex y y') (lex z z') := by
  unfold Tri at *
  unfold lex
  by_cases hx : x = 0 <;> by_cases hy : y = 0 <;> by_cases hz : z = 0 <;> simp only [hx, hy, hz, ne_eq, not_true_eq_false, not_false_eq_true, if_true, if_false] <;> first | exact h' | omega
def Sg (x : Int) : Prop := x = -1 ∨ x = 0 ∨ x = 1
theorem lex_sg {x y : Int} (h : Sg x) (h' : Sg y) : Sg (lex x y) := by unfold lex; split <;> assumption
theorem tri0 : Tri 0 0 0 := by unfold Tri; omega
theorem sg0 : Sg 0 := .inr (.inl rfl)
theorem cmpInt_anti (x y : Int) : Lib.compareInt y x = -Lib.compareInt x y := by unfold Lib.compareInt; split <;> split <;> (try split) <;> omega
theorem cmpInt_sg (x y : Int) : Sg (Lib.compareInt x y) := by unfold Lib.compareInt Sg; split <;> (try split) <;> omega
theorem cmpInt_tri (x y z : Int) : Tri (Lib.compareInt x y) (Lib.compareInt y z) (Lib.compareInt x z) := by
  unfold Lib.compareInt Tri
  by_cases h1 : x < y <;> by_cases h2 : y < z <;> by_cases h3 : x < z <;> by_cases h4 : x > y <;> by_cases h5 : y > z <;> by_cases h6 : x > z <;> simp [h1, h2, h3, h4, h5, h6] <;> omega
theorem cmpB_lex (a b : UInt8) (r q : List UInt8) : Lib.compareBytes (a :: r) (b :: q) = lex (Lib.compareInt a.toNat b.toNat) (Lib.compareBytes r q) := by
  rw [Lib.compareBytes, lex, Lib.compareInt]
  by_cases h1 : a < b
  · have : (a.toNat : Int) < b.toNat := by have := UInt8.lt_iff_toNat_lt.1 h1; omega
    simp [h1, this]
  · by_cases h2 : b < a
    · have h3 : (b.toNat : Int) < a.toNat := by have := UInt8.lt_iff_toNat_lt.1 h2; omega
      have h4 : ¬ (a.toNat : Int) < b.toNat := by omega
      simp [h1, h2, h3, h4]
    · have h3 : ¬ (b.toNat : Int) < a.toNat := fun h => h2 (UInt8.lt_iff_toNat_lt.2 (by omega))
      have h4 : ¬ (a.toNat : Int) < b.toNat := fun h => h1 (UInt8.lt_iff_toNat_lt.2 (by omega))
      simp [h1, h2, h3, h4]
theorem cmpB_anti : ∀ (xs ys : List UInt8), Lib.compareBytes ys xs = -Lib.compareBytes xs ys
  | [], [] => rfl
  | [], _ :: _ => rfl
  | _ :: _, [] => rfl
  | a :: r, b :: q => by rw [cmpB_lex, cmpB_lex]; exact lex_neg (cmpInt_anti _ _) (cmpB_anti r q)
theorem cmpB_sg : ∀ (xs ys : List UInt8), Sg (Lib.compareBytes xs ys)
  | [], [] => .inr (.inl rfl)
  | [], _ :: _ => .inl rfl
  | _ :: _, [] => .inr (.inr rfl)
  | a :: r, b :: q => by rw [cmpB_lex]; exact lex_sg (cmpInt_sg _ _) (cmpB_sg r q)
theorem cmpB_tri : ∀ (xs ys zs : List UInt8), Tri (Lib.compareBytes xs ys) (Lib.compareBytes ys zs) (Lib.compareBytes xs zs)
  | [], [], [] => tri0
  | [], [], _ :: _ => by simp only [Lib.compareBytes, Tri]; omega
  | [], _ :: _, [] => by simp only [Lib.compareBytes, Tri]; omega
  | _ :: _, [], [] => by simp only [Lib.compareBytes, Tri]; omega
  | [], b :: q, c :: t => by
    have h := cmpB_sg (b :: q) (c :: t)
    rw [show Lib.compareBytes [] (b :: q) = -1 from rfl, show Lib.compareBytes [] (c :: t) = -1 from rfl]
    simp only [Tri, Sg] at *; omega
  | a :: r, [], c :: t => by
    have h := cmpB_sg (a :: r) (c :: t)
    rw [show Lib.compareBytes [] (c :: t) = -1 from rfl, show Lib.compareBytes (a :: r) [] = 1 from rfl]
    simp only [Tri, Sg] at *; omega
  | a :: r, b :: q, [] => by
    have h := cmpB_sg (a :: r) (b :: q)
    rw [show Lib.compareBytes (a :: r) [] = 1 from rfl, show Lib.compareBytes (b :: q) [] = 1 from rfl]
    simp only [Tri, Sg] at *; omega
  | a :: r, b :: q, c :: t => by rw [cmpB_lex, cmpB_lex, cmpB_lex]; exact lex_tri (cmpInt_tri _ _ _) (cmpB_tri r q t)
theorem cmpVs_lex (d d' : Val) (l l' : List Val) : cmpVs (d :: l) (d' :: l') = lex (cmpV d d') (cmpVs l l') := by rw [cmpVs, lex]
theorem cmpFs_lex (ns ns' : List ByteArray) (d d' : Val) (l l' : List Val) : cmpFs ns (d :: l) ns' (d' :: l') = lex (lex (Lib.compareBytes (ns.headD ByteArray.empty).data.toList (ns'.headD ByteArray.empty).data.toList) (lex (cmpV d d') 0)) (cmpFs ns.tail l ns'.tail l') := by rw [cmpFs, lex]; rfl
mutual
theorem cmpV_anti : ∀ (d d2 : Val), cmpV d2 d = -cmpV d d2
  | .mk k i s t l ns fs, .mk k' i' s' t' l' ns' fs' => by
    rw [cmpV, cmpV]
    simp only [orL_lex]
    exact lex_neg (cmpInt_anti _ _) (lex_neg (cmpInt_anti _ _) (lex_neg (cmpInt_anti _ _) (lex_neg (cmpB_anti _ _) (lex_neg (cmpVs_anti l l') (lex_neg (cmpFs_anti fs ns ns' fs') rfl)))))
theorem cmpVs_anti : ∀ (l l' : List Val), cmpVs l' l = -cmpVs l l'
  | [], [] => by simp [cmpVs]
  | [], _ :: _ => by simp [cmpVs]
  | _ :: _, [] => by simp [cmpVs]
  | d :: l, d' :: l' => by rw [cmpVs_lex, cmpVs_lex]; exact lex_neg (cmpV_anti d d') (cmpVs_anti l l')
theorem cmpFs_anti : ∀ (l : List Val) (ns ns' : List ByteArray) (l' : List Val), cmpFs ns' l' ns l = -cmpFs ns l ns' l'
  | [], ns, ns', [] => by simp [cmpFs]
  | [], ns, ns', _ :: _ => by simp [cmpFs]
  | _ :: _, ns, ns', [] => by simp [cmpFs]
  | d :: l, ns, ns', d' :: l' => by rw [cmpFs_lex, cmpFs_lex]; exact lex_neg (lex_neg (cmpB_anti _ _) (lex_neg (cmpV_anti d d') rfl)) (cmpFs_anti l ns.tail ns'.tail l')
end
mutual
theorem cmpV_sg : ∀ (d d2 : Val), Sg (cmpV d d2)
  | .mk k i s t l ns fs, .mk k' i' s' t' l' ns' fs' => by
    rw [cmpV]
    simp only [orL_lex]
    exact lex_sg (cmpInt_sg _ _) (lex_sg (cmpInt_sg _ _) (lex_sg (cmpInt_sg _ _) (lex_sg (cmpB_sg _ _) (lex_sg (cmpVs_sg l l') (lex_sg (cmpFs_sg fs ns ns' fs') sg0)))))
theorem cmpVs_sg : ∀ (l l' : List Val), Sg (cmpVs l l')
  | [], [] => by rw [cmpVs]; exact sg0
  | [], _ :: _ => by rw [cmpVs]; exact .inl rfl
  | _ :: _, [] => by rw [cmpVs]; exact .inr (.inr rfl)
  | d :: l, d' :: l' => by rw [cmpVs_lex]; exact lex_sg (cmpV_sg d d') (cmpVs_sg l l')
theorem cmpFs_sg : ∀ (l : List Val) (ns ns' : List ByteArray) (l' : List Val), Sg (cmpFs ns l ns' l')
  | [], ns, ns', [] => by rw [cmpFs]; exact sg0
  | [], ns, ns', _ :: _ => by rw [cmpFs]; exact .inl rfl
  | _ :: _, ns, ns', [] => by rw [cmpFs]; exact .inr (.inr rfl)
  | d :: l, ns, ns', d' :: l' => by rw [cmpFs_lex]; exact lex_sg (lex_sg (cmpB_sg _ _) (lex_sg (cmpV_sg d d') sg0)) (cmpFs_sg l ns.tail ns'.tail l')
end
mutual
theorem cmpV_tri : ∀ (a b c : Val), Tri (cmpV a b) (cmpV b c) (cmpV a c)
  | .mk k i s t l ns fs, .mk k' i' s' t' l' ns' fs', .mk k2 i2 s2 t2 l2 ns2 fs2 => by
    rw [cmpV, cmpV, cmpV]
    simp only [orL_lex]
    exact lex_tri (cmpInt_tri _ _ _) (lex_tri (cmpInt_tri _ _ _) (lex_tri (cmpInt_tri _ _ _) (lex_tri (cmpB_tri _ _ _) (lex_tri (cmpVs_tri l l' l2) (lex_tri (cmpFs_tri fs ns ns' fs' ns2 fs2) tri0)))))
theorem cmpVs_tri : ∀ (l l' l2 : List Val), Tri (cmpVs l l') (cmpVs l' l2) (cmpVs l l2)
  | [], [], [] => by simp only [cmpVs]; exact tri0
  | [], [], _ :: _ => by simp only [cmpVs, Tri]; omega
  | [], _ :: _, [] => by simp only [cmpVs, Tri]; omega
  | _ :: _, [], [] => by simp only [cmpVs, Tri]; omega
  | [], b :: q, c :: t => by
    have h := cmpVs_sg (b :: q) (c :: t)
    rw [show cmpVs [] (b :: q) = -1 by rw [cmpVs], show cmpVs [] (c :: t) = -1 by rw [cmpVs]]
    simp only [Tri, Sg] at *; omega
  | a :: r, [], c :: t => by
    have h := cmpVs_sg (a :: r) (c :: t)
    rw [show cmpVs [] (c :: t) = -1 by rw [cmpVs], show cmpVs (a :: r) [] = 1 by rw [cmpVs]]
    simp only [Tri, Sg] at *; omega
  | a :: r, b :: q, [] => by
    have h := cmpVs_sg (a :: r) (b :: q)
    rw [show cmpVs (a :: r) [] = 1 by rw [cmpVs], show cmpVs (b :: q) [] = 1 by rw [cmpVs]]
    simp only [Tri, Sg] at *; omega
  | a :: r, b :: q, c :: t => by rw [cmpVs_lex, cmpVs_lex, cmpVs_lex]; exact lex_tri (cmpV_tri a b c) (cmpVs_tri r q t)
theorem cmpFs_tri : ∀ (l : List Val) (ns ns' : List ByteArray) (l' : List Val) (ns2 : List ByteArray) (l2 : List Val), Tri (cmpFs ns l ns' l') (cmpFs ns' l' ns2 l2) (cmpFs ns l ns2 l2)
  | [], ns, ns', [], ns2, [] => by simp only [cmpFs]; exact tri0
  | [], ns, ns', [], ns2, _ :: _ => by simp only [cmpFs, Tri]; omega
  | [], ns, ns', _ :: _, ns2, [] => by simp only [cmpFs, Tri]; omega
  | _ :: _, ns, ns', [], ns2, [] => by simp only [cmpFs, Tri]; omega
  | [], ns, ns', b :: q, ns2, c :: t => by
    have h := cmpFs_sg (b :: q) ns' ns2 (c :: t)
    rw [show cmpFs ns [] ns' (b :: q) = -1 by rw [cmpFs], show cmpFs ns [] ns2 (c :: t) = -1 by rw [cmpFs]]
    simp only [Tri, Sg] at *; omega
  | a :: r, ns, ns', [], ns2, c :: t => by
    have h := cmpFs_sg (a :: r) ns ns2 (c :: t)
    rw [show cmpFs ns' [] ns2 (c :: t) = -1 by rw [cmpFs], show cmpFs ns (a :: r) ns' [] = 1 by rw [cmpFs]]
    simp only [Tri, Sg] at *; omega
  | a :: r, ns, ns', b :: q, ns2, [] => by
    have h := cmpFs_sg (a :: r) ns ns' (b :: q)
    rw [show cmpFs ns (a :: r) ns2 [] = 1 by rw [cmpFs], show cmpFs ns' (b :: q) ns2 [] = 1 by rw [cmpFs]]
    simp only [Tri, Sg] at *; omega
  | a :: r, ns, ns', b :: q, ns2, c :: t => by rw [cmpFs_lex, cmpFs_lex, cmpFs_lex]; exact lex_tri (lex_tri (cmpB_tri _ _ _) (lex_tri (cmpV_tri a b c) tri0)) (cmpFs_tri r ns.tail ns'.tail q ns2.tail t)
end
end Go.Proofs.YthjlgpmajeafpaaGreatDoor

/-
  manifoldlaw29.smalls, message.Stamps. Condition: the list can be read as data.
-/
namespace Go.Proofs.YthjlgpmajeafpaaGreatDoor
open Go Go.RowKit Go.Shelf
set_option linter.unusedVariables false
set_option linter.unusedSimpArgs false

def SmallsPost (w : World) (n : Nat) (e : Ending) (w' : World) : Prop := (∃ b : Bool, e = .returned (.bool b) ∧ (b = true → n ≤ 20)) ∧ Below w.heap.size w w'
set_option maxRecDepth 100000 in
set_option maxHeartbeats 4000000 in
theorem smalls_call (a : Option Addr) (n c : Nat) (l : List Msg) (w : World) (hd : IsMsgs (· < w.heap.size) w a n c l) : Calls Tryz.prog 21 #[.slice a n c] w (SmallsPost w n) := by
  have hbig := hd.big
  have HL := hid hd.len
  have HD := hid hd
  clear hd
  go_enter Tryz.func21, Tryz.ntmps21
  by_cases q : n ≤ 20
  · have q' : (n : Int) ≤ 20 := by omega
    go_wp2
    go_loopw [3] (fun i wr => ∃ k : Nat, k ≤ n ∧ i = .int .i64 k ∧ Below w.heap.size w wr) (fun i _ => n - (intOf i).toNat)
    case atStart => exact ⟨0, Nat.zero_le _, rfl, Below.refl _ _⟩
    case round =>
      obtain ⟨k, hk, rfl, hbr⟩ := hrel
      by_cases hlt : k < n
      · have hkl : k < l.length := by have := HL.out; omega
        obtain ⟨b, o, rfl, hb, hx⟩ := HD.out.at'.resolve_left fun h => by rw [h] at hkl; simp at hkl
        obtain ⟨x, hxa, hxi⟩ := hx k hkl
        obtain ⟨x0, x1, x2, x3, x4, x5, x6, x7, x8, x9⟩ := hxa.same (hbr.block b hb)
        have hlt' : (k : Int) < (n : Int) := by omega
        have hk0 : (0 : Int) ≤ (k : Int) := by omega
        have HSM := hid (small_call x l[k] wr (hxi.same fun b q => ⟨by have := hbr.size; omega, hbr.block b q⟩))
        have HBR := hid hbr
        clear hbr hxi hxa hx hb
        dsimp only [MC.v] at HSM
        go_wp2_with (go_at_call 16; refine HSM.out.mono ?_; rintro e w3 ⟨⟨b1, rfl, _⟩, hb3⟩; cases b1)
        · go_ret
          exact ⟨⟨false, rfl, fun h => by cases h⟩, HBR.out.trans (hb3.mono HBR.out.size)⟩
        · go_roundw
          case rel => exact ⟨k + 1, by omega, by go_num, HBR.out.trans (hb3.mono HBR.out.size)⟩
          case measure => simp [intOf]; omega
      · obtain rfl : k = n := by omega
        go_wp2
        go_ret
        exact ⟨⟨true, rfl, fun _ => q⟩, hbr⟩
  · have q' : ¬ (n : Int) ≤ 20 := by omega
    go_wp2
    go_ret
    exact ⟨⟨false, rfl, fun h => by cases h⟩, Below.refl _ _⟩

theorem infoSt : (Tryz.prog.info? 24).map (fun i => (i.zero, i.size, i.bytes)) = some (some (.agg #[.int .i64 0, .slice none 0 0]), 2, 32) := by kernel_rfl
def StsPost (w : World) (n : Nat) (l : List St) (e : Ending) (w' : World) : Prop := ∃ a' c', e = .returned (.slice a' n c') ∧ Below w.heap.size w w' ∧ IsRow stK (fun b => w.heap.size ≤ b ∧ b < w'.heap.size) w' a' n c' l
set_option maxRecDepth 100000 in
set_option maxHeartbeats 4000000 in
theorem stamps_call (a : Option Addr) (n c : Nat) (l : List Msg) (w : World) (hd : IsMsgs (· < w.heap.size) w a n c l) : Calls Tryz.prog 22 #[.slice a n c] w (StsPost w n (l.map (·.st))) := by
  obtain ⟨ti, hi, hz0, hz1, hz2⟩ := info_parts infoSt
  have hbig := hd.big
  have HL := hid hd.len
  have HD := hid hd
  clear hd
  go_enter Tryz.func22, Tryz.ntmps22
  go_wp2
  go_loopw [3, 8] (fun vv i wr => ∃ (k : Nat) (v : Value), v = vv ∧ k ≤ n ∧ i = .int .i64 k ∧ Built stK 24 w.heap.size wr v k (l.map (·.st)) ∧ Below w.heap.size w wr) (fun _ i _ => n - (intOf i).toNat)
  case atStart => exact ⟨0, _, rfl, Nat.zero_le _, rfl, Built.nil _ _ _ _, Below.refl _ _⟩
  case round =>
    obtain ⟨k, v, rfl, hk, rfl, hbu, hbr⟩ := hrel
    obtain ⟨wp, rfl⟩ : ∃ w1 : World, w1 = wr := ⟨_, rfl⟩
    by_cases hlt : k < n
    · have hkl : k < l.length := by have := HL.out; omega
      obtain ⟨b, o, rfl, hb, hx⟩ := HD.out.at'.resolve_left fun h => by rw [h] at hkl; simp at hkl
      obtain ⟨x, hxa, hxi⟩ := hx k hkl
      obtain ⟨x0, x1, x2, x3, x4, x5, x6, x7, x8, x9⟩ := hxa.same (hbr.block b hb)
      have hlt' : (k : Int) < (n : Int) := by omega
      have hk0 : (0 : Int) ≤ (k : Int) := by omega
      obtain ⟨cs, hcs, hown, hel⟩ := hbu
      have hvb := Built.own (K := stK) ⟨cs, hcs, hown, hel⟩
      have hba : Below w.heap.size w (wp.alloc (mObj x)) := hbr.alloc hbr.size _
      have HCS := hid (copyStamp_call x.st l[k].st (wp.alloc (mObj x)) (hxi.st.same fun b q => ⟨by have := hba.size; omega, hba.block b q⟩))
      have HVB := hid hvb
      have HOWN := hid hown
      have HEL := hid hel
      have HCL := hid hcs
      have HBA := hid hba
      have HBR := hid hbr
      have HXI := hid hxi
      clear hvb hown hel hcs hba hbr hxi hxa hx hb
      have hcap1 : k + 1 ≤ maxLen := by unfold maxLen; omega
      have hcap2 : (k + 1) * 32 ≤ 140737488355328 := by omega
      dsimp only [mObj, SC.v] at HCS HBA
      go_wp2_with (first
        | (go_at_call 66; refine HCS.out.mono ?_; rintro e w4 ⟨c4, rfl, hb4, hi4⟩; have HB4 := hid hb4; have HI4 := hid hi4; clear hb4 hi4)
        | (at_builtin; go_loud (refine wpList_append_lies _ (by rfl) _ _ 42 (by rfl) w.heap.size 24 ti _ 2 32 Tryz.underlying42 hi hz0 hz1 hz2 rfl (by omega) v k (cs.flatMap SC.cs) (by rfl) ((ownExt (HOWN.out.alloc _) HB4.out).alloc (.cells #[.int .i64 c4.e, .slice c4.a c4.n c4.c] 24)) ⟨w4.heap.size, 0, none⟩ 1 1 (SC.cs c4) (by rfl) (by rfl) (World.news_of_block (heap_alloc_new w4 _)) (by simp [SC.cs, Value.oneCell']) (by omega) hcap1 hcap2 (by have h1 := HBA.out.size; have h2 := HB4.out.size; simp at h1 h2 ⊢; omega) (w4.heap.size + 1) (by simp) ?_); intro gg cap5 w5 hown2 hgrow hat hlt2; have HO2 := hid hown2; have HG := hid hgrow; have HAT := hid hat; clear hown2 hgrow hat hlt2))
      go_roundw
      case rel =>
        have h4 := HB4.out.size
        simp only [World.size_alloc] at h4
        have h14 : Below w.heap.size w w4 := HBA.out.trans (HB4.out.mono HBA.out.size)
        have hs0 := HBR.out.size
        have hkm : k < (l.map (·.st)).length := by simpa using hkl
        have hpush : Built stK 24 w.heap.size w5 (.slice (some ⟨gg, 0, none⟩) (k + 1) cap5) (k + 1) (l.map (·.st)) :=
          Built.push (K := stK) (N := wp.heap.size) (w1 := w4) (o := .cells #[.int .i64 c4.e, .slice c4.a c4.n c4.c] 24) (c := c4) HCL.out
            (fun j hj hj' => (HEL.out j hj hj').same fun b hb => ⟨⟨hb.1, by have := hb.2.1; omega, hb.2.2⟩, (HB4.out.block b (by have := hb.2.1; simp; omega)).trans (Below.heap_alloc _ _ _ (by have := hb.2.1; omega))⟩) hkm
            (by rw [List.getElem_map]; exact HI4.out.same fun b hb => ⟨⟨by have := hb.1; simp at this; omega, hb.2⟩, rfl⟩) hs0 (fun r e => (HVB.out r e).2) HO2.out HG.out HAT.out
        exact ⟨k + 1, _, rfl, by omega, by go_num, hpush, (h14.alloc h14.size _).grown HG.out (by simp; omega) (fun r e => (HVB.out r e).1)⟩
      case measure => simp [intOf]; omega
    · obtain rfl : k = n := by omega
      obtain ⟨av, capv, rfl, hrow⟩ := Built.row' hbu (by rw [List.length_map]; exact HL.out) (by dsimp only; omega)
      go_wp2
      go_ret
      exact ⟨av, capv, rfl, hbr, hrow⟩
end Go.Proofs.YthjlgpmajeafpaaGreatDoor
