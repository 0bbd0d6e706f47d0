/-
  Contracts of cmp.Or, of slices.CompareFunc over numbers, of slices.Equal and slices.Clone over numbers. Condition: the slices can be read.
-/
import Derived.Test.YthjlgpmajeafpaaGreatDoorStamp
import Derived.Test.YthjlgpmajeafpaaGreatDoorShelf
namespace Go.Proofs.YthjlgpmajeafpaaGreatDoor
open Go Go.RowKit Go.Shelf
set_option linter.unusedVariables false
set_option linter.unusedSimpArgs false

def orL : List Int → Int
  | [] => 0
  | x :: r => if x ≠ 0 then x else orL r
theorem orL_drop (xs : List Int) (k : Nat) (h : k < xs.length) : orL (xs.drop k) = if xs[k] ≠ 0 then xs[k] else orL (xs.drop (k + 1)) := by
  rw [List.drop_eq_getElem_cons h, orL]

set_option maxRecDepth 100000 in
set_option maxHeartbeats 1000000 in
theorem or_call (a : Option Addr) (n c : Nat) (xs : List Int) (w : World) (hlen : n = xs.length) (hbig : n * 8 ≤ 140737488351232) (hsl : 0 < n → ∃ b o, a = some ⟨b, o, none⟩ ∧ ∀ (j : Nat) (h : j < xs.length), w.cell? ⟨b, o + j, none⟩ = some (.int .i64 xs[j])) : Calls Tryz.prog 95 #[.slice a n c] w fun e w' => e = .returned (.int .i64 (orL xs)) ∧ w = w' := by
  have HL := hid hlen
  have HXX := hid hsl
  clear hlen hsl
  go_enter Tryz.func95, Tryz.ntmps95
  go_wp2
  go_loop [8] (fun i => ∃ k : Nat, k ≤ n ∧ i = .int .i64 k ∧ orL xs = orL (xs.drop k)) (fun i => n - (intOf i).toNat)
  case atStart => exact ⟨0, Nat.zero_le _, rfl, rfl⟩
  case round =>
    obtain ⟨k, hk, rfl, hall⟩ := hrel
    have HA := hid hall
    clear hall
    by_cases hlt : k < n
    · obtain ⟨b, o, rfl, hc⟩ := HXX.out (show 0 < n by omega)
      have hkl : k < xs.length := by have := HL.out; omega
      have hck := hc k hkl
      clear hc
      have hlt' : (k : Int) < (n : Int) := by omega
      have hn63 : (n : Int) ≤ 9223372036854775807 := by omega
      have hd := orL_drop xs k hkl
      obtain ⟨z, hz⟩ : ∃ z, z = xs[k] := ⟨_, rfl⟩
      rw [← hz] at hck hd
      have HD := hid hd
      clear hz hd
      by_cases h0 : z = 0
      · subst h0
        go_wp2
        go_round
        case rel => exact ⟨k + 1, by omega, by go_num, by rw [HA.out, HD.out, if_neg (by simp)]⟩
        case measure => simp [intOf]; omega
      · have H0 := hid h0
        go_wp2
        go_ret
        exact ⟨by rw [HA.out, HD.out, if_pos H0.out]; rfl, rfl⟩
    · obtain rfl : k = n := by omega
      go_wp2
      go_ret
      exact ⟨by rw [HA.out, HL.out, List.drop_length]; rfl, rfl⟩

theorem or_new (xs : List Int) (w : World) (t : TypeId) (hbig : xs.length * 8 ≤ 140737488351232) : Calls Tryz.prog 95 #[.slice (some ⟨w.heap.size, 0, none⟩) xs.length xs.length] (w.alloc (.cells (xs.map (Value.int .i64)).toArray t)) fun e w' => e = .returned (.int .i64 (orL xs)) ∧ w.alloc (.cells (xs.map (Value.int .i64)).toArray t) = w' :=
  or_call _ _ _ xs _ rfl hbig fun _ => ⟨_, _, rfl, fun j hj => by rw [cellOf (heap_alloc_new w _)]; simp [hj]⟩

def cmpI : List Int → List Int → Int
  | [], [] => 0
  | [], _ :: _ => -1
  | _ :: _, [] => 1
  | x :: r, y :: s => if Lib.compareInt x y ≠ 0 then Lib.compareInt x y else cmpI r s
theorem cmpI_drop (xs ys : List Int) (k : Nat) (h : k < xs.length) (h2 : k < ys.length) : cmpI (xs.drop k) (ys.drop k) = if Lib.compareInt xs[k] ys[k] ≠ 0 then Lib.compareInt xs[k] ys[k] else cmpI (xs.drop (k + 1)) (ys.drop (k + 1)) := by
  rw [List.drop_eq_getElem_cons h, List.drop_eq_getElem_cons h2, cmpI]
theorem cmpI_long (xs ys : List Int) (k : Nat) (h : k < xs.length) (h2 : ys.length = k) : cmpI (xs.drop k) (ys.drop k) = 1 := by
  subst h2; rw [List.drop_eq_getElem_cons h, List.drop_length, cmpI]
theorem cmpI_short (xs ys : List Int) (k : Nat) (h : xs.length = k) (h2 : k < ys.length) : cmpI (xs.drop k) (ys.drop k) = -1 := by
  subst h; rw [List.drop_eq_getElem_cons h2, List.drop_length, cmpI]
theorem cmpI_end (xs ys : List Int) (k : Nat) (h : xs.length = k) (h2 : ys.length = k) : cmpI (xs.drop k) (ys.drop k) = 0 := by
  subst h; rw [← h2, List.drop_length, h2, List.drop_length, cmpI]

theorem cmp1_call (x y : Int) (w : World) : Calls Tryz.prog 98 #[.int .i64 x, .int .i64 y] w fun e w' => e = .returned (.int .i64 (Lib.compareInt x y)) ∧ w = w' := by
  go_enter Tryz.func98, Tryz.ntmps98
  go_wp2_with (go_at_call 96; refine (Tryz.cmp_Compare_int _ _ _).mono ?_; rintro e w' ⟨rfl, rfl⟩)
  go_ret
  exact ⟨rfl, rfl⟩

set_option maxRecDepth 100000 in
set_option maxHeartbeats 2000000 in
theorem cmpInts_call (S S' : Nat → Prop) (a a' : Option Addr) (n c n' c' : Nat) (xs ys : List Int) (w : World) (hx : IsInts S w a n c xs) (hy : IsInts S' w a' n' c' ys) :
    Calls Tryz.prog 97 #[.slice a n c, .slice a' n' c', .func (.func 98) #[] #[]] w fun e w' => e = .returned (.int .i64 (cmpI xs ys)) ∧ w = w' := by
  have hen : ∀ args w, (callFunc 98 args).run Tryz.prog w = .ok (.enter 98 args) w := enters_of Tryz.func98 (by kernel_rfl) rfl
  have hbig := hx.big
  have hbig' := hy.big
  have HL := hid hx.len
  have HL' := hid hy.len
  have HX := hid hx
  have HY := hid hy
  clear hx hy
  go_enter Tryz.func97, Tryz.ntmps97
  go_wp2
  go_loop [13] (fun i => ∃ k : Nat, k ≤ n ∧ k ≤ n' ∧ i = .int .i64 k ∧ cmpI xs ys = cmpI (xs.drop k) (ys.drop k)) (fun i => n - (intOf i).toNat)
  case atStart => exact ⟨0, Nat.zero_le _, Nat.zero_le _, rfl, rfl⟩
  case round =>
    obtain ⟨k, hk, hk', rfl, hall⟩ := hrel
    have HA := hid hall
    clear hall
    have hn63 : (n : Int) ≤ 9223372036854775807 := by omega
    have hn63' : (n' : Int) ≤ 9223372036854775807 := by omega
    by_cases hlt : k < n
    · have hkl : k < xs.length := by have := HL.out; omega
      obtain ⟨b, o, rfl, hb, hc⟩ := HX.out.slot (show 0 < n by omega)
      have hck := hc k hkl
      clear hc
      have hlt' : (k : Int) < (n : Int) := by omega
      by_cases hlt2 : k < n'
      · have hkl' : k < ys.length := by have := HL'.out; omega
        obtain ⟨b', o', rfl, hb', hc'⟩ := HY.out.slot (show 0 < n' by omega)
        have hck' := hc' k hkl'
        clear hc'
        have hlt2' : (k : Int) < (n' : Int) := by omega
        have hd := cmpI_drop xs ys k hkl hkl'
        obtain ⟨z, hz⟩ : ∃ z, z = xs[k] := ⟨_, rfl⟩
        obtain ⟨y, hy⟩ : ∃ y, y = ys[k] := ⟨_, rfl⟩
        rw [← hz, ← hy] at hd
        rw [← hz] at hck
        rw [← hy] at hck'
        clear hz hy
        obtain ⟨r, hr⟩ : ∃ r, r = Lib.compareInt z y := ⟨_, rfl⟩
        rw [← hr] at hd
        have HD := hid hd
        have hcc := (cmp1_call z y w)
        rw [← hr] at hcc
        have HC := hid hcc
        clear hr hd hcc
        by_cases h0 : r = 0
        · subst h0
          go_wp2_with (go_at_call 98; refine HC.out.mono ?_; rintro e w' ⟨rfl, rfl⟩)
          go_round
          case rel => exact ⟨k + 1, by omega, by omega, by go_num, by rw [HA.out, HD.out, if_neg (by simp)]⟩
          case measure => simp [intOf]; omega
        · have H0 := hid h0
          go_wp2_with (go_at_call 98; refine HC.out.mono ?_; rintro e w' ⟨rfl, rfl⟩)
          go_ret
          exact ⟨by rw [HA.out, HD.out, if_pos H0.out]; rfl, rfl⟩
      · obtain rfl : k = n' := by omega
        have r := hid (HA.out.trans (cmpI_long xs ys k hkl HL'.out.symm))
        go_wp2
        go_ret
        exact ⟨by rw [r.out]; rfl, rfl⟩
    · obtain rfl : k = n := by omega
      by_cases hlt2 : k < n'
      · have hlt2' : (k : Int) < (n' : Int) := by omega
        have r := hid (HA.out.trans (cmpI_short xs ys k HL.out.symm (by have := HL'.out; omega)))
        go_wp2
        go_ret
        exact ⟨by rw [r.out]; rfl, rfl⟩
      · obtain rfl : k = n' := by omega
        have r := hid (HA.out.trans (cmpI_end xs ys k HL.out.symm HL'.out.symm))
        go_wp2
        go_ret
        exact ⟨by rw [r.out]; rfl, rfl⟩
end Go.Proofs.YthjlgpmajeafpaaGreatDoor
