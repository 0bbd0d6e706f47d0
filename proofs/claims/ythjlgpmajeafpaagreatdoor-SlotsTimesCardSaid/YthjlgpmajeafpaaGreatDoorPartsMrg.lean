/-
  Contracts of cmp.Or, of slices.CompareFunc over numbers, of slices.Equal and slices.Clone over numbers. Condition: the slices can be read.
-/
import Derived.Test.YthjlgpmajeafpaaGreatDoorStampMrg
import Derived.Test.YthjlgpmajeafpaaGreatDoorShelf
import Derived.Test.YthjlgpmajeafpaaGreatDoorProg
import Derived.WalkKit
import Derived.WalkLawsBesides
import Derived.WalkSpells
import Derived.Outline
import Derived.BigQuiet
import Derived.Deep.RegionHeld3
import Derived.Deep.AppendLies
import Derived.Deep.DrawnRows
import Derived.Deep.LoopGhost
namespace Go.Proofs.YthjlgpmajeafpaaGreatDoor
open Go Go.RowKit Go.Shelf
set_option linter.unusedVariables false
set_option linter.unusedSimpArgs false

def orL : List Int → Int
  | [] => 0
  | x :: r => if x ≠ 0 then x else orL r
theorem orL_drop (xs : List Int) (k : Nat) (h : k < xs.length) : orL (xs.drop k) = if xs[k] ≠ 0 then xs[k] else orL (xs.drop (k + 1)) := by
  rw [List.drop_eq_getElem_cons h, orL]

set_option maxRecDepth 100000 in
set_option maxHeartbeats 1000000 in
theorem or_call (a : Option Addr) (n c : Nat) (xs : List Int) (w : World) (hlen : n = xs.length) (hbig : n * 8 ≤ 140737488351232) (hsl : 0 < n → ∃ b o, a = some ⟨b, o, none⟩ ∧ ∀ (j : Nat) (h : j < xs.length), w.cell? ⟨b, o + j, none⟩ = some (.int .i64 xs[j])) : Calls Tryz.prog 95 #[.slice a n c] w fun e w' => e = .returned (.int .i64 (orL xs)) ∧ w = w' := by
  have HL := hid hlen
  have HXX := hid hsl
  clear hlen hsl
  go_enter Tryz.func95, Tryz.ntmps95
  go_wp2
  go_loop [8] (fun i => ∃ k : Nat, k ≤ n ∧ i = .int .i64 k ∧ orL xs = orL (xs.drop k)) (fun i => n - (intOf i).toNat)
  case atStart => exact ⟨0, Nat.zero_le _, rfl, rfl⟩
  case round =>
    obtain ⟨k, hk, rfl, hall⟩ := hrel
    have HA := hid hall
    clear hall
    by_cases hlt : k < n
    · obtain ⟨b, o, rfl, hc⟩ := HXX.out (show 0 < n by omega)
      have hkl : k < xs.length := by have := HL.out; omega
      have hck := hc k hkl
      clear hc
      have hlt' : (k : Int) < (n : Int) := by omega
      have hn63 : (n : Int) ≤ 9223372036854775807 := by omega
      have hd := orL_drop xs k hkl
      obtain ⟨z, hz⟩ : ∃ z, z = xs[k] := ⟨_, rfl⟩
      rw [← hz] at hck hd
      have HD := hid hd
      clear hz hd
      by_cases h0 : z = 0
      · subst h0
        go_wp2
        go_round
        case rel => exact ⟨k + 1, by omega, by go_num, by rw [HA.out, HD.out, if_neg (by simp)]⟩
        case measure => simp [intOf]; omega
      · have H0 := hid h0
        go_wp2
        go_ret
        exact ⟨by rw [HA.out, HD.out, if_pos H0.out]; rfl, rfl⟩
    · obtain rfl : k = n := by omega
      go_wp2
      go_ret
      exact ⟨by rw [HA.out, HL.out, List.drop_length]; rfl, rfl⟩

theorem or_new (xs : List Int) (w : World) (t : TypeId) (hbig : xs.length * 8 ≤ 140737488351232) : Calls Tryz.prog 95 #[.slice (some ⟨w.heap.size, 0, none⟩) xs.length xs.length] (w.alloc (.cells (xs.map (Value.int .i64)).toArray t)) fun e w' => e = .returned (.int .i64 (orL xs)) ∧ w.alloc (.cells (xs.map (Value.int .i64)).toArray t) = w' :=
  or_call _ _ _ xs _ rfl hbig fun _ => ⟨_, _, rfl, fun j hj => by rw [cellOf (heap_alloc_new w _)]; simp [hj]⟩

def cmpI : List Int → List Int → Int
  | [], [] => 0
  | [], _ :: _ => -1
  | _ :: _, [] => 1
  | x :: r, y :: s => if Lib.compareInt x y ≠ 0 then Lib.compareInt x y else cmpI r s
theorem cmpI_drop (xs ys : List Int) (k : Nat) (h : k < xs.length) (h2 : k < ys.length) : cmpI (xs.drop k) (ys.drop k) = if Lib.compareInt xs[k] ys[k] ≠ 0 then Lib.compareInt xs[k] ys[k] else cmpI (xs.drop (k + 1)) (ys.drop (k + 1)) := by
  rw [List.drop_eq_getElem_cons h, List.drop_eq_getElem_cons h2, cmpI]
theorem cmpI_long (xs ys : List Int) (k : Nat) (h : k < xs.length) (h2 : ys.length = k) : cmpI (xs.drop k) (ys.drop k) = 1 := by
  subst h2; rw [List.drop_eq_getElem_cons h, List.drop_length, cmpI]
theorem cmpI_short (xs ys : List Int) (k : Nat) (h : xs.length = k) (h2 : k < ys.length) : cmpI (xs.drop k) (ys.drop k) = -1 := by
  subst h; rw [List.drop_eq_getElem_cons h2, List.drop_length, cmpI]
theorem cmpI_end (xs ys : List Int) (k : Nat) (h : xs.length = k) (h2 : ys.length = k) : cmpI (xs.drop k) (ys.drop k) = 0 := by
  subst h; rw [← h2, List.drop_length, h2, List.drop_length, cmpI]

theorem cmp1_call (x y : Int) (w : World) : Calls Tryz.prog 98 #[.int .i64 x, .int .i64 y] w fun e w' => e = .returned (.int .i64 (Lib.compareInt x y)) ∧ w = w' := by
  go_enter Tryz.func98, Tryz.ntmps98
  go_wp2_with (go_at_call 96; refine (Tryz.cmp_Compare_int _ _ _).mono ?_; rintro e w' ⟨rfl, rfl⟩)
  go_ret
  exact ⟨rfl, rfl⟩

set_option maxRecDepth 100000 in
set_option maxHeartbeats 2000000 in
theorem cmpInts_call (S S' : Nat → Prop) (a a' : Option Addr) (n c n' c' : Nat) (xs ys : List Int) (w : World) (hx : IsInts S w a n c xs) (hy : IsInts S' w a' n' c' ys) :
    Calls Tryz.prog 97 #[.slice a n c, .slice a' n' c', .func (.func 98) #[] #[]] w fun e w' => e = .returned (.int .i64 (cmpI xs ys)) ∧ w = w' := by
  have hen : ∀ args w, (callFunc 98 args).run Tryz.prog w = .ok (.enter 98 args) w := enters_of Tryz.func98 (by kernel_rfl) rfl
  have hbig := hx.big
  have hbig' := hy.big
  have HL := hid hx.len
  have HL' := hid hy.len
  have HX := hid hx
  have HY := hid hy
  clear hx hy
  go_enter Tryz.func97, Tryz.ntmps97
  go_wp2
  go_loop [13] (fun i => ∃ k : Nat, k ≤ n ∧ k ≤ n' ∧ i = .int .i64 k ∧ cmpI xs ys = cmpI (xs.drop k) (ys.drop k)) (fun i => n - (intOf i).toNat)
  case atStart => exact ⟨0, Nat.zero_le _, Nat.zero_le _, rfl, rfl⟩
  case round =>
    obtain ⟨k, hk, hk', rfl, hall⟩ := hrel
    have HA := hid hall
    clear hall
    have hn63 : (n : Int) ≤ 9223372036854775807 := by omega
    have hn63' : (n' : Int) ≤ 9223372036854775807 := by omega
    by_cases hlt : k < n
    · have hkl : k < xs.length := by have := HL.out; omega
      obtain ⟨b, o, rfl, hb, hc⟩ := HX.out.slot (show 0 < n by omega)
      have hck := hc k hkl
      clear hc
      have hlt' : (k : Int) < (n : Int) := by omega
      by_cases hlt2 : k < n'
      · have hkl' : k < ys.length := by have := HL'.out; omega
        obtain ⟨b', o', rfl, hb', hc'⟩ := HY.out.slot (show 0 < n' by omega)
        have hck' := hc' k hkl'
        clear hc'
        have hlt2' : (k : Int) < (n' : Int) := by omega
        have hd := cmpI_drop xs ys k hkl hkl'
        obtain ⟨z, hz⟩ : ∃ z, z = xs[k] := ⟨_, rfl⟩
        obtain ⟨y, hy⟩ : ∃ y, y = ys[k] := ⟨_, rfl⟩
        rw [← hz, ← hy] at hd
        rw [← hz] at hck
        rw [← hy] at hck'
        clear hz hy
        obtain ⟨r, hr⟩ : ∃ r, r = Lib.compareInt z y := ⟨_, rfl⟩
        rw [← hr] at hd
        have HD := hid hd
        have hcc := (cmp1_call z y w)
        rw [← hr] at hcc
        have HC := hid hcc
        clear hr hd hcc
        by_cases h0 : r = 0
        · subst h0
          go_wp2_with (go_at_call 98; refine HC.out.mono ?_; rintro e w' ⟨rfl, rfl⟩)
          go_round
          case rel => exact ⟨k + 1, by omega, by omega, by go_num, by rw [HA.out, HD.out, if_neg (by simp)]⟩
          case measure => simp [intOf]; omega
        · have H0 := hid h0
          go_wp2_with (go_at_call 98; refine HC.out.mono ?_; rintro e w' ⟨rfl, rfl⟩)
          go_ret
          exact ⟨by rw [HA.out, HD.out, if_pos H0.out]; rfl, rfl⟩
      · obtain rfl : k = n' := by omega
        have r := hid (HA.out.trans (cmpI_long xs ys k hkl HL'.out.symm))
        go_wp2
        go_ret
        exact ⟨by rw [r.out]; rfl, rfl⟩
    · obtain rfl : k = n := by omega
      by_cases hlt2 : k < n'
      · have hlt2' : (k : Int) < (n' : Int) := by omega
        have r := hid (HA.out.trans (cmpI_short xs ys k HL.out.symm (by have := HL'.out; omega)))
        go_wp2
        go_ret
        exact ⟨by rw [r.out]; rfl, rfl⟩
      · obtain rfl : k = n' := by omega
        have r := hid (HA.out.trans (cmpI_end xs ys k HL.out.symm HL'.out.symm))
        go_wp2
        go_ret
        exact ⟨by rw [r.out]; rfl, rfl⟩
end Go.Proofs.YthjlgpmajeafpaaGreatDoor

/-
  value.Clone returns a copy of a value in memory of its own; what was there is as it was. Conditions: the value can be read as data (IsVal).
-/
namespace Go.Proofs.YthjlgpmajeafpaaGreatDoor
open Go Go.RowKit
set_option linter.unusedVariables false
set_option linter.unusedSimpArgs false
attribute [local go_sem ↓] Go.wp_at_zero Go.wp_at_succ

theorem infoValue : (Tryz.prog.info? 28).map (fun i => (i.zero, i.size, i.bytes)) = some (some (.agg #[.int .i64 0, .int .i64 0, .int .i64 0, .string ByteArray.empty, .slice none 0 0, .slice none 0 0]), 6, 88) := by kernel_rfl
theorem infoField : (Tryz.prog.info? 35).map (fun i => (i.zero, i.size, i.bytes)) = some (some (.agg #[.string ByteArray.empty, .int .i64 0, .int .i64 0, .int .i64 0, .string ByteArray.empty, .slice none 0 0, .slice none 0 0]), 7, 104) := by kernel_rfl

/-- What a value's clone is. -/
def ClonePost (w : World) (d : Val) (e : Ending) (w' : World) : Prop := ∃ c' : VC, e = .returned c'.v ∧ Below w.heap.size w w' ∧ IsVal (fun b => w.heap.size ≤ b ∧ b < w'.heap.size) w' c' d

set_option maxRecDepth 100000 in
set_option maxHeartbeats 4000000 in
theorem clone_step (N : Nat) (ih : ∀ n, n < N → ∀ (d : Val) (c : VC) (w : World), Val.sz d ≤ n → IsVal (· < w.heap.size) w c d → Calls Tryz.prog 107 #[c.v] w (ClonePost w d))
    (k0 i0 s0 : Int) (t0 : ByteArray) (la : Option Addr) (ll lc : Nat) (fa : Option Addr) (fl fc : Nat) (l : List Val) (ns : List ByteArray) (fs : List Val) (w : World) (hN : Val.sz (.mk k0 i0 s0 t0 l ns fs) ≤ N) (hd : IsVal (· < w.heap.size) w ⟨k0, i0, s0, t0, la, ll, lc, fa, fl, fc⟩ (.mk k0 i0 s0 t0 l ns fs)) :
    Calls Tryz.prog 107 #[.agg #[.int .i64 k0, .int .i64 i0, .int .i64 s0, .string t0, .slice la ll lc, .slice fa fl fc]] w (ClonePost w (.mk k0 i0 s0 t0 l ns fs)) := by
  obtain ⟨⟨_, _, _, _, hok, hll, hfl, hns⟩, hv, hf⟩ := hd
  dsimp only at hll hfl hv hf
  have hreach : ll * 88 ≤ 140737488351232 := hok.l
  have hreachf : fl * 104 ≤ 140737488351232 := hok.f
  have HL := hid hll; clear hll
  have HF := hid hfl; clear hfl
  have HNS := hid hns; clear hns
  have HOK := hid hok; clear hok
  have hszl : ∀ k (h : k < l.length), Val.sz l[k] < N := fun k h => by have := Val.szs_get l k h; simp only [Val.sz] at hN; omega
  have hszf : ∀ k (h : k < fs.length), Val.sz fs[k] < N := fun k h => by have := Val.szs_get fs k h; simp only [Val.sz] at hN; omega
  clear hN
  obtain ⟨ti, hi, hz0, hz1, hz2⟩ := info_parts infoValue
  obtain ⟨tf, hif, hzf0, hzf1, hzf2⟩ := info_parts infoField
  go_enter Tryz.func107, Tryz.ntmps107
  go_wp2
  go_loopw [14] (fun i wr => ∃ (k : Nat) (v : Value), k ≤ ll ∧ i = .int .i64 k ∧
      wr.heap[w.heap.size + 2]? = some (Obj.cells #[Value.int IntKind.i64 k0, Value.int IntKind.i64 i0, Value.int IntKind.i64 s0, Value.string t0, v, .slice none 0 0] 28 (0, 0)) ∧
      wr.heap[w.heap.size]? = some (Obj.cells #[Value.int IntKind.i64 k0, Value.int IntKind.i64 i0, Value.int IntKind.i64 s0, Value.string t0, .slice la ll lc, .slice fa fl fc] 28 (0, 0)) ∧
      wr.heap[w.heap.size + 1]? = some (.cells #[.int .i64 0, .int .i64 0, .int .i64 0, .string ByteArray.empty, .slice none 0 0, .slice none 0 0] 28 (0, 0)) ∧
      BuiltV 28 (w.heap.size + 3) wr v k l ∧ Below w.heap.size w wr)
    (fun i _ => ll - (intOf i).toNat)
  case atStart =>
    exact ⟨0, _, Nat.zero_le _, rfl, heapNewAt _ _ _ (by simp), heapAlloc _ (heapAlloc _ (heap_alloc_new w _)), heapAlloc _ (heapNewAt _ _ _ (by simp)), BuiltV.nil _ _ _ _, ((((Below.refl _ w).alloc (Nat.le_refl _) _).alloc (by simp) _).alloc (by simp; omega) _)⟩
  case round =>
    obtain ⟨k, v, hk, rfl, hb3, hb1, hb2, hbu, hbel⟩ := hrel
    have hsz := hbel.size
    have hlt3 : w.heap.size + 2 < wr.heap.size := ltOf hb3
    have HB3 := hid hb3; clear hb3
    have HB1 := hid hb1; clear hb1
    have HB2 := hid hb2; clear hb2
    by_cases hlt : k < ll
    · rcases hv with rfl | ⟨b, o, rfl, hb, hvs⟩
      · exfalso; have := HL.out; simp at this; omega
      · have hkl : k < l.length := by have := HL.out; omega
        obtain ⟨x, hx, hxv⟩ := hvs.get k hkl
        have hx' := hx.same (w' := wr) (hbel.block b hb)
        obtain ⟨hx0, hx1, hx2, hx3, hx4, hx5⟩ := hx'
        have hxv' : IsVal (fun b => b < wr.heap.size) wr x l[k] := hxv.same fun b hb => ⟨by omega, hbel.block b hb⟩
        have hlt' : (k : Int) < (ll : Int) := by omega
        clear hx
        have HC := hid (fun (w' : World) (h : w'.heap[w.heap.size + 2]? = some (Obj.cells #[Value.int IntKind.i64 k0, Value.int IntKind.i64 i0, Value.int IntKind.i64 s0, Value.string t0, v, .slice none 0 0] 28 (0, 0)) ∧ w'.heap[wr.heap.size]? = some (Obj.cells #[Value.int IntKind.i64 x.k, Value.int IntKind.i64 x.i, Value.int IntKind.i64 x.s, Value.string x.t, Value.slice x.la x.ll x.lc, Value.slice x.fa x.fl x.fc] 28 (0, 0))) =>
          (show w'.cell? ⟨w.heap.size + 1 + 1, 4, none⟩ = some v ∧ w'.cell? ⟨wr.heap.size, 0, none⟩ = some (.int .i64 x.k) ∧ w'.cell? ⟨wr.heap.size, 1, none⟩ = some (.int .i64 x.i) ∧ w'.cell? ⟨wr.heap.size, 2, none⟩ = some (.int .i64 x.s) ∧ w'.cell? ⟨wr.heap.size, 3, none⟩ = some (.string x.t) ∧ w'.cell? ⟨wr.heap.size, 4, none⟩ = some (.slice x.la x.ll x.lc) ∧ w'.cell? ⟨wr.heap.size, 5, none⟩ = some (.slice x.fa x.fl x.fc) from ⟨cellOf h.1 4, cellOf h.2 0, cellOf h.2 1, cellOf h.2 2, cellOf h.2 3, cellOf h.2 4, cellOf h.2 5⟩))
        go_wp2
        obtain ⟨wa, hwa⟩ : ∃ wa, wa = wr.alloc (Obj.cells #[Value.int IntKind.i64 x.k, Value.int IntKind.i64 x.i, Value.int IntKind.i64 x.s, Value.string x.t, Value.slice x.la x.ll x.lc, Value.slice x.fa x.fl x.fc] 28 (0, 0)) := ⟨_, rfl⟩
        rw [← hwa]
        have p1 := heapAlloc (Obj.cells #[Value.int IntKind.i64 x.k, Value.int IntKind.i64 x.i, Value.int IntKind.i64 x.s, Value.string x.t, Value.slice x.la x.ll x.lc, Value.slice x.fa x.fl x.fc] 28 (0, 0)) HB3.out
        have p2 := heap_alloc_new wr (Obj.cells #[Value.int IntKind.i64 x.k, Value.int IntKind.i64 x.i, Value.int IntKind.i64 x.s, Value.string x.t, Value.slice x.la x.ll x.lc, Value.slice x.fa x.fl x.fc] 28 (0, 0))
        rw [← hwa] at p1 p2
        have hxa : IsVal (fun b => b < wa.drew.heap.size) wa.drew x l[k] := hxv'.same fun b hb => by rw [hwa]; exact ⟨by simp; omega, Below.heap_alloc _ _ _ hb⟩
        obtain ⟨cs, hcs, hown, hel⟩ := hbu
        have hvb := BuiltV.own ⟨cs, hcs, hown, hel⟩
        have HCS := hid hcs; clear hcs
        have hbwa : Below wr.heap.size wr wa.drew := by rw [hwa]; exact ((Below.refl _ wr).alloc (Nat.le_refl _) _).drew
        have hwas : wr.heap.size ≤ wa.drew.heap.size := hbwa.size
        have hwas' : wr.heap.size < wa.heap.size := by rw [hwa]; simp
        have P1 : Hid (wa.drew.heap[w.heap.size + 2]? = _) := hid p1; clear p1
        have P2 : Hid (wa.drew.heap[wr.heap.size]? = _) := hid p2; clear p2
        clear hwa
        have hcap1 : k + 1 ≤ maxLen := by unfold maxLen; omega
        have hcap2 : (k + 1) * 88 ≤ 140737488355328 := by omega
        have hne3 : some (w.heap.size + 2) ≠ v.ownBlock := fun e => by have := (hvb _ e.symm).1; omega
        have hnex : some wr.heap.size ≠ v.ownBlock := fun e => by have := (hvb _ e.symm).2; omega
        refine wp_region_split 6 (fun w' => w'.heap[w.heap.size + 2]? = some (Obj.cells #[Value.int IntKind.i64 k0, Value.int IntKind.i64 i0, Value.int IntKind.i64 s0, Value.string t0, v, .slice none 0 0] 28 (0, 0)) ∧ w'.heap[wr.heap.size]? = some (Obj.cells #[Value.int IntKind.i64 x.k, Value.int IntKind.i64 x.i, Value.int IntKind.i64 x.s, Value.string x.t, Value.slice x.la x.ll x.lc, Value.slice x.fa x.fl x.fc] 28 (0, 0))) (by kernel_rfl) (by kernel_rfl) (by kernel_rfl) (by decide) (⟨P1.out, P2.out⟩) (fun hS => ?_)
        simp only [List.take_succ_cons, List.take_zero, List.drop_succ_cons, List.drop_zero]
        refine wpAnyH_take (i := 0) (oi := _) (v := ?_) rfl (by kernel_rfl) (by kernel_rfl) (by kernel_rfl) (fun _ _ _ h => h) (Or.inl ⟨by rfl, ?_⟩) hS ?_
        rotate_left
        · intro w' hw'
          have hcells := HC.out w' hw'
          go_simp
          (try with_reducible rfl)
        simp only [Act.put, List.setIfInBounds_toArray, List.set_cons_zero, List.set_cons_succ]
        refine wpAnyH_take (i := 1) (oi := _) (v := ?_) rfl (by kernel_rfl) (by kernel_rfl) (by kernel_rfl) (fun _ _ _ h => h) (Or.inl ⟨by rfl, ?_⟩) hS ?_
        rotate_left
        · intro w' hw'
          have hcells := HC.out w' hw'
          go_simp
          (try with_reducible rfl)
        simp only [Act.put, List.setIfInBounds_toArray, List.set_cons_zero, List.set_cons_succ]
        refine wpAnyH_take (i := 2) (oi := _) (v := ?_) rfl (by kernel_rfl) (by kernel_rfl) (by kernel_rfl) (fun _ _ _ h => h) (Or.inl ⟨by rfl, ?_⟩) hS ?_
        rotate_left
        · intro w' hw'
          have hcells := HC.out w' hw'
          go_simp
          (try with_reducible rfl)
        simp only [Act.put, List.setIfInBounds_toArray, List.set_cons_zero, List.set_cons_succ]
        refine wpAnyH_ready (rs := [3]) (by kernel_rfl) (by simp) ?_
        refine AllReadyH.cons (o := _) rfl (fun K hK => ?_) AllReadyH.nil
        go_simp; go_at_call 107; refine (ih (Val.sz l[k]) (hszl k hkl) l[k] x _ (Nat.le_refl _) hxa).mono ?_
        rintro e w1 ⟨c1, rfl, hb1, hv1⟩
        have q1 := hid (heapExt hb1 P1.out)
        have q2 := hid (heapExt hb1 P2.out)
        have hs1 := hb1.size
        simp only [World.size_drew] at hs1
        refine hK.out _ _ (⟨q1.out, q2.out⟩) (fun hS => ?_)
        clear hK K
        (try simp only [Act.put, List.setIfInBounds_toArray, List.set_cons_zero, List.set_cons_succ])
        refine wpAnyH_ready (rs := [4]) (by kernel_rfl) (by simp) ?_
        refine AllReadyH.cons (o := _) rfl (fun K hK => ?_) AllReadyH.nil
        go_simp
        refine hK.out _ _ (⟨heapAlloc _ q1.out, heapAlloc _ q2.out⟩) (fun hS => ?_)
        clear hK K
        (try simp only [Act.put, List.setIfInBounds_toArray, List.set_cons_zero, List.set_cons_succ])
        refine wpAnyH_ready (rs := [5]) (by kernel_rfl) (by simp) ?_
        refine AllReadyH.cons (o := _) rfl (fun K hK => ?_) AllReadyH.nil
        refine step_append_lies _ (by rfl) _ _ _ (by rfl) (w.heap.size + 3) 28 ti _ 6 88 Tryz.underlying25 hi hz0 hz1 hz2 rfl (by omega) v k (cs.flatMap VC.cs) (by rfl) ((ownExt hown (hbwa.trans (hb1.mono hwas))).alloc _) ⟨w1.heap.size, 0, none⟩ 1 1 c1.cs (by rfl) (by rfl) (World.news_of_block (heap_alloc_new w1 _)) (by simp [VC.cs, Value.oneCell']) (by omega) hcap1 hcap2 (by simp; omega) (w1.heap.size + 1) (by simp) ?_
        intro gg cap w2 hown2 hgrow hat hlt2
        have r1 := hid (heapGrown hgrow (heapAlloc _ q1.out) hne3)
        have r2 := hid (heapGrown hgrow (heapAlloc _ q2.out) hnex)
        refine hK.out _ _ (⟨r1.out, r2.out⟩) (fun hS => ?_)
        clear hK K
        (try simp only [Act.put, List.setIfInBounds_toArray, List.set_cons_zero, List.set_cons_succ])
        refine wpAnyH_done (by kernel_rfl) ?_ _
        (try dsimp only)
        have hc2 : w2.cell? ⟨w.heap.size + 1 + 1, 4, none⟩ = some v := cellOf r1.out 4
        have hf2 : w2.frozen? ⟨w.heap.size + 1 + 1, 4, none⟩ = false := freeOf r1.out 4
        clear hS HC
        go_wp2
        go_roundw
        case rel =>
          have hst : Below w.heap.size w w2 := (((hbel.trans (hbwa.mono hsz)).trans (hb1.mono (by omega))).alloc (by omega) _).grown hgrow (by simp; omega) (fun r e => by have := (hvb r e).1; omega)
          have hpush : BuiltV 28 (w.heap.size + 3) w2 (.slice (some ⟨gg, 0, none⟩) (k + 1) cap) (k + 1) l :=
            BuiltV.push HCS.out (fun j hj hj' => (hel j hj hj').same fun b hb => ⟨⟨hb.1, by have := hb.2.1; omega, hb.2.2⟩, (hb1.block b (by have := hb.2.1; omega)).trans (hbwa.block b hb.2.1)⟩) hkl hv1 (by omega) (fun r e => by have := (hvb r e).2; omega) hown2 hgrow hat
          exact ⟨k + 1, _, by omega, by go_num, heapSet _ r1.out, heapSetOther _ _ (heapGrown hgrow (heapAlloc _ (heapExt hb1 (heapExt hbwa HB1.out))) (fun e => by have := (hvb _ e.symm).1; omega)) (by dsimp only; omega), heapSetOther _ _ (heapGrown hgrow (heapAlloc _ (heapExt hb1 (heapExt hbwa HB2.out))) (fun e => by have := (hvb _ e.symm).1; omega)) (by dsimp only; omega),
            hpush.set _ _ (by dsimp only; omega), hst.setCell (by simp; omega) _⟩
        case measure => simp [intOf]; omega
    · obtain ⟨ll0, rfl⟩ : ∃ n, n = k := ⟨_, rfl⟩
      obtain rfl : ll0 = ll := by omega
      clear hlt
      obtain ⟨al, capl, rfl, hcl, hal, hvb⟩ := hbu.shape
      have hvals : l = [] ∨ ∃ b o, al = some ⟨b, o, none⟩ ∧ (w.heap.size + 3 ≤ b ∧ b < wr.heap.size) ∧ IsVals (fun b => w.heap.size + 3 ≤ b ∧ b < wr.heap.size) wr b o l := by
        have h := hbu; rw [HL.out] at h; exact h.vals
      clear hbu
      obtain ⟨vl, hvl⟩ : ∃ vl, vl = Value.slice al ll0 capl := ⟨_, rfl⟩
      rw [← hvl] at HB3
      have hc5 : wr.cell? ⟨w.heap.size, 5, none⟩ = some (.slice fa fl fc) := cellOf HB1.out 5
      go_wp2
      clear hc5
      obtain ⟨wl, rfl⟩ : ∃ wl : World, wl = wr := ⟨_, rfl⟩
      have hgo : True := trivial
      go_loopw [29] (fun i wr => ∃ (k : Nat) (v : Value), k ≤ fl ∧ i = .int .i64 k ∧
          wr.heap[w.heap.size + 2]? = some (Obj.cells #[Value.int IntKind.i64 k0, Value.int IntKind.i64 i0, Value.int IntKind.i64 s0, Value.string t0, vl, v] 28 (0, 0)) ∧
          (∀ b, b < wl.heap.size → b ≠ w.heap.size + 2 → wr.heap[b]? = wl.heap[b]?) ∧
          BuiltF 35 wl.heap.size wr v k ns fs ∧ Below w.heap.size w wr ∧ wl.heap.size ≤ wr.heap.size)
        (fun i _ => fl - (intOf i).toNat)
      case atStart =>
        exact ⟨0, _, Nat.zero_le _, rfl, HB3.out, fun _ _ _ => rfl, BuiltF.nil _ _ _ _ _, hbel, Nat.le_refl _⟩
      case round =>
        obtain ⟨k, v, hk, rfl, hb3, hkeep, hbu, hbelr, hszr⟩ := hrel
        have HB3r := hid hb3; clear hb3
        have HK := hid hkeep; clear hkeep
        by_cases hlt : k < fl
        · rcases hf with rfl | ⟨b, o, rfl, hb, hvs⟩
          · exfalso; have := HF.out; simp at this; omega
          · have hkl : k < fs.length := by have := HF.out; omega
            have hkn : k < ns.length := by have := HF.out; have := HNS.out; omega
            obtain ⟨⟨hnm, hnz⟩, x, hx, hxv⟩ := hvs.get HNS.out k hkl hkn
            obtain ⟨nm, hnmd⟩ : ∃ nm, nm = ns[k] := ⟨_, rfl⟩
            rw [← hnmd] at hnm hnz
            have HNM := hid hnmd; clear hnmd
            have hx' := hx.same (w' := wr) (hbelr.block b hb)
            have hnm' : wr.cell? ⟨b, o + k * 7, none⟩ = some (.string nm) := (World.cell?_of_block (w := w) (a := ⟨b, o + k * 7, none⟩) (hbelr.block b hb)).trans hnm
            obtain ⟨hx0, hx1, hx2, hx3, hx4, hx5⟩ := hx'
            have hxv' : IsVal (fun b => b < wr.heap.size) wr x fs[k] := hxv.same fun b hb => ⟨by omega, hbelr.block b hb⟩
            have hlt' : (k : Int) < (fl : Int) := by omega
            clear hx hnm
            have HC := hid (fun (w' : World) (h : w'.heap[w.heap.size + 2]? = some (Obj.cells #[Value.int IntKind.i64 k0, Value.int IntKind.i64 i0, Value.int IntKind.i64 s0, Value.string t0, vl, v] 28 (0, 0)) ∧ w'.heap[wr.heap.size]? = some (Obj.cells #[Value.string nm, Value.int IntKind.i64 x.k, Value.int IntKind.i64 x.i, Value.int IntKind.i64 x.s, Value.string x.t, Value.slice x.la x.ll x.lc, Value.slice x.fa x.fl x.fc] 35 (0, 0))) =>
              (show w'.cell? ⟨w.heap.size + 1 + 1, 5, none⟩ = some v ∧ w'.cell? ⟨wr.heap.size, 0, none⟩ = some (.string nm) ∧ w'.cell? ⟨wr.heap.size, 1, none⟩ = some (.int .i64 x.k) ∧ w'.cell? ⟨wr.heap.size, 2, none⟩ = some (.int .i64 x.i) ∧ w'.cell? ⟨wr.heap.size, 3, none⟩ = some (.int .i64 x.s) ∧ w'.cell? ⟨wr.heap.size, 4, none⟩ = some (.string x.t) ∧ w'.cell? ⟨wr.heap.size, 5, none⟩ = some (.slice x.la x.ll x.lc) ∧ w'.cell? ⟨wr.heap.size, 6, none⟩ = some (.slice x.fa x.fl x.fc) from ⟨cellOf h.1 5, cellOf h.2 0, cellOf h.2 1, cellOf h.2 2, cellOf h.2 3, cellOf h.2 4, cellOf h.2 5, cellOf h.2 6⟩))
            go_wp2
            obtain ⟨wa, hwa⟩ : ∃ wa, wa = wr.alloc (Obj.cells #[Value.string nm, Value.int IntKind.i64 x.k, Value.int IntKind.i64 x.i, Value.int IntKind.i64 x.s, Value.string x.t, Value.slice x.la x.ll x.lc, Value.slice x.fa x.fl x.fc] 35 (0, 0)) := ⟨_, rfl⟩
            rw [← hwa]
            have p1 := heapAlloc (Obj.cells #[Value.string nm, Value.int IntKind.i64 x.k, Value.int IntKind.i64 x.i, Value.int IntKind.i64 x.s, Value.string x.t, Value.slice x.la x.ll x.lc, Value.slice x.fa x.fl x.fc] 35 (0, 0)) HB3r.out
            have p2 := heap_alloc_new wr (Obj.cells #[Value.string nm, Value.int IntKind.i64 x.k, Value.int IntKind.i64 x.i, Value.int IntKind.i64 x.s, Value.string x.t, Value.slice x.la x.ll x.lc, Value.slice x.fa x.fl x.fc] 35 (0, 0))
            rw [← hwa] at p1 p2
            have hxa : IsVal (fun b => b < wa.drew.heap.size) wa.drew x fs[k] := hxv'.same fun b hb => by rw [hwa]; exact ⟨by simp; omega, Below.heap_alloc _ _ _ hb⟩
            obtain ⟨cs, hcs, hown, hel⟩ := hbu
            have hvbf := BuiltF.own ⟨cs, hcs, hown, hel⟩
            have HCS := hid hcs; clear hcs
            have hbwa : Below wr.heap.size wr wa.drew := by rw [hwa]; exact ((Below.refl _ wr).alloc (Nat.le_refl _) _).drew
            have hwas : wr.heap.size ≤ wa.drew.heap.size := hbwa.size
            have hwas' : wr.heap.size < wa.heap.size := by rw [hwa]; simp
            have P1 : Hid (wa.drew.heap[w.heap.size + 2]? = _) := hid p1; clear p1
            have P2 : Hid (wa.drew.heap[wr.heap.size]? = _) := hid p2; clear p2
            clear hwa
            have hcap1 : k + 1 ≤ maxLen := by unfold maxLen; omega
            have hcap2 : (k + 1) * 104 ≤ 140737488355328 := by omega
            have hne3 : some (w.heap.size + 2) ≠ v.ownBlock := fun e => by have := (hvbf _ e.symm).1; omega
            have hnex : some wr.heap.size ≠ v.ownBlock := fun e => by have := (hvbf _ e.symm).2; omega
            refine wp_region_split 10 (fun w' => w'.heap[w.heap.size + 2]? = some (Obj.cells #[Value.int IntKind.i64 k0, Value.int IntKind.i64 i0, Value.int IntKind.i64 s0, Value.string t0, vl, v] 28 (0, 0)) ∧ w'.heap[wr.heap.size]? = some (Obj.cells #[Value.string nm, Value.int IntKind.i64 x.k, Value.int IntKind.i64 x.i, Value.int IntKind.i64 x.s, Value.string x.t, Value.slice x.la x.ll x.lc, Value.slice x.fa x.fl x.fc] 35 (0, 0))) (by kernel_rfl) (by kernel_rfl) (by kernel_rfl) (by decide) (⟨P1.out, P2.out⟩) (fun hS => ?_)
            simp only [List.take_succ_cons, List.take_zero, List.drop_succ_cons, List.drop_zero]
            refine wpAnyH_take (i := 0) (oi := _) (v := ?_) rfl (by kernel_rfl) (by kernel_rfl) (by kernel_rfl) (fun _ _ _ h => h) (Or.inl ⟨by rfl, ?_⟩) hS ?_
            rotate_left
            · intro w' hw'
              have hcells := HC.out w' hw'
              go_simp
              (try with_reducible rfl)
            simp only [Act.put, List.setIfInBounds_toArray, List.set_cons_zero, List.set_cons_succ]
            refine wpAnyH_take (i := 1) (oi := _) (v := ?_) rfl (by kernel_rfl) (by kernel_rfl) (by kernel_rfl) (fun _ _ _ h => h) (Or.inl ⟨by rfl, ?_⟩) hS ?_
            rotate_left
            · intro w' hw'
              have hcells := HC.out w' hw'
              go_simp
              (try with_reducible rfl)
            simp only [Act.put, List.setIfInBounds_toArray, List.set_cons_zero, List.set_cons_succ]
            refine wpAnyH_take (i := 2) (oi := _) (v := ?_) rfl (by kernel_rfl) (by kernel_rfl) (by kernel_rfl) (fun _ _ _ h => h) (Or.inl ⟨by rfl, ?_⟩) hS ?_
            rotate_left
            · intro w' hw'
              have hcells := HC.out w' hw'
              go_simp
              (try with_reducible rfl)
            simp only [Act.put, List.setIfInBounds_toArray, List.set_cons_zero, List.set_cons_succ]
            refine wpAnyH_take (i := 3) (oi := _) (v := ?_) rfl (by kernel_rfl) (by kernel_rfl) (by kernel_rfl) (fun _ _ _ h => h) (Or.inl ⟨by rfl, ?_⟩) hS ?_
            rotate_left
            · intro w' hw'
              have hcells := HC.out w' hw'
              go_simp
              (try with_reducible rfl)
            simp only [Act.put, List.setIfInBounds_toArray, List.set_cons_zero, List.set_cons_succ]
            refine wpAnyH_take (i := 4) (oi := _) (v := ?_) rfl (by kernel_rfl) (by kernel_rfl) (by kernel_rfl) (fun _ _ _ h => h) (Or.inl ⟨by rfl, ?_⟩) hS ?_
            rotate_left
            · intro w' hw'
              have hcells := HC.out w' hw'
              go_simp
              (try with_reducible rfl)
            simp only [Act.put, List.setIfInBounds_toArray, List.set_cons_zero, List.set_cons_succ]
            refine wpAnyH_take (i := 5) (oi := _) (v := ?_) rfl (by kernel_rfl) (by kernel_rfl) (by kernel_rfl) (fun _ _ _ h => h) (Or.inl ⟨by rfl, ?_⟩) hS ?_
            rotate_left
            · intro w' hw'
              have hcells := HC.out w' hw'
              go_simp
              (try with_reducible rfl)
            simp only [Act.put, List.setIfInBounds_toArray, List.set_cons_zero, List.set_cons_succ]
            refine wpAnyH_ready (rs := [6]) (by kernel_rfl) (by simp) ?_
            refine AllReadyH.cons (o := _) rfl (fun K hK => ?_) AllReadyH.nil
            go_simp; go_at_call 107; refine (ih (Val.sz fs[k]) (hszf k hkl) fs[k] x _ (Nat.le_refl _) hxa).mono ?_
            rintro e w1 ⟨c1, rfl, hb1, hv1⟩
            have q1 := hid (heapExt hb1 P1.out)
            have q2 := hid (heapExt hb1 P2.out)
            have hs1 := hb1.size
            simp only [World.size_drew] at hs1
            refine hK.out _ _ (⟨q1.out, q2.out⟩) (fun hS => ?_)
            clear hK K
            (try simp only [Act.put, List.setIfInBounds_toArray, List.set_cons_zero, List.set_cons_succ])
            refine wpAnyH_take (i := 7) (oi := _) (v := ?_) rfl (by kernel_rfl) (by kernel_rfl) (by kernel_rfl) (fun _ _ _ h => h) (Or.inl ⟨by rfl, ?_⟩) hS ?_
            rotate_left
            · intro w' hw'
              have hcells := HC.out w' hw'
              go_simp
              (try with_reducible rfl)
            simp only [Act.put, List.setIfInBounds_toArray, List.set_cons_zero, List.set_cons_succ]
            refine wpAnyH_ready (rs := [8]) (by kernel_rfl) (by simp) ?_
            refine AllReadyH.cons (o := _) rfl (fun K hK => ?_) AllReadyH.nil
            go_simp
            refine hK.out _ _ (⟨heapAlloc _ q1.out, heapAlloc _ q2.out⟩) (fun hS => ?_)
            clear hK K
            (try simp only [Act.put, List.setIfInBounds_toArray, List.set_cons_zero, List.set_cons_succ])
            refine wpAnyH_ready (rs := [9]) (by kernel_rfl) (by simp) ?_
            refine AllReadyH.cons (o := _) rfl (fun K hK => ?_) AllReadyH.nil
            refine step_append_lies _ (by rfl) _ _ _ (by rfl) wl.heap.size 35 tf _ 7 104 Tryz.underlying26 hif hzf0 hzf1 hzf2 rfl (by omega) v k (cs.flatMap FC.cs) (by rfl) ((ownExt hown (hbwa.trans (hb1.mono hwas))).alloc _) ⟨w1.heap.size, 0, none⟩ 1 1 (FC.cs (nm, c1)) (by rfl) (by rfl) (World.news_of_block (heap_alloc_new w1 _)) (by simp [FC.cs, VC.cs, Value.oneCell']) (by omega) hcap1 hcap2 (by simp; omega) (w1.heap.size + 1) (by simp) ?_
            intro gg cap w2 hown2 hgrow hat hlt2
            have r1 := hid (heapGrown hgrow (heapAlloc _ q1.out) hne3)
            have r2 := hid (heapGrown hgrow (heapAlloc _ q2.out) hnex)
            refine hK.out _ _ (⟨r1.out, r2.out⟩) (fun hS => ?_)
            clear hK K
            (try simp only [Act.put, List.setIfInBounds_toArray, List.set_cons_zero, List.set_cons_succ])
            refine wpAnyH_done (by kernel_rfl) ?_ _
            (try dsimp only)
            have hc2 : w2.cell? ⟨w.heap.size + 1 + 1, 5, none⟩ = some v := cellOf r1.out 5
            have hf2 : w2.frozen? ⟨w.heap.size + 1 + 1, 5, none⟩ = false := freeOf r1.out 5
            clear hS HC
            go_wp2
            go_roundw
            case rel =>
              have hst : Below w.heap.size w w2 := (((hbelr.trans (hbwa.mono (by omega))).trans (hb1.mono (by omega))).alloc (by omega) _).grown hgrow (by simp; omega) (fun r e => by have := (hvbf r e).1; omega)
              have hpush : BuiltF 35 wl.heap.size w2 (.slice (some ⟨gg, 0, none⟩) (k + 1) cap) (k + 1) ns fs :=
                BuiltF.push HCS.out (fun j hj hj' hn => ⟨(hel j hj hj' hn).1, (hel j hj hj' hn).2.same fun b hb => ⟨⟨hb.1, by have := hb.2.1; omega, hb.2.2⟩, (hb1.block b (by have := hb.2.1; omega)).trans (hbwa.block b hb.2.1)⟩⟩) hkl hkn HNM.out hv1 (by omega) (fun r e => by have := (hvbf r e).2; omega) hown2 hgrow hat
              refine ⟨k + 1, _, by omega, by go_num, heapSet _ r1.out, fun b hb hne => ?_, hpush.set _ _ (by simp; omega), hst.setCell (by simp; omega) _, by have := hgrow.size; simp at this; simp [World.setCell]; omega⟩
              rw [Below.heap_setCell _ _ _ _ (by simpa using hne), hgrow.block b (by simp; omega) (fun e => by have := (hvbf _ e.symm).1; omega), Below.heap_alloc _ _ _ (by omega), hb1.block b (by omega), hbwa.block b (by omega)]
              exact HK.out b hb hne
            case measure => simp [intOf]; omega
        · obtain rfl : k = fl := by omega
          clear hlt
          obtain ⟨af, capf, rfl, hcf, haf, hvbf⟩ := hbu.shape
          have hflds : fs = [] ∨ ∃ b o, af = some ⟨b, o, none⟩ ∧ (wl.heap.size ≤ b ∧ b < wr.heap.size) ∧ IsFlds (fun b => wl.heap.size ≤ b ∧ b < wr.heap.size) wr b o ns fs := by
            have h := hbu; rw [HF.out] at h
            refine h.flds HNS.out fun n hn => ?_
            rcases hf with rfl | ⟨b, o, rfl, hb, hvs⟩
            · have := HNS.out; simp at this; subst this; cases hn
            · obtain ⟨j, hj, rfl⟩ := List.getElem_of_mem hn
              exact (hvs.get HNS.out j (by have := HNS.out; omega) hj).1.2
          clear hbu
          have hd3 := HB3r.out
          have hd2 : wr.heap[w.heap.size + 1]? = _ := (HK.out _ (by omega) (by omega)).trans HB2.out
          rw [hvl] at hd3
          have e0 : wr.cell? ⟨w.heap.size + 1 + 1, 0, none⟩ = some (.int .i64 k0) := cellOf hd3 0
          have e1 : wr.cell? ⟨w.heap.size + 1 + 1, 1, none⟩ = some (.int .i64 i0) := cellOf hd3 1
          have e2 : wr.cell? ⟨w.heap.size + 1 + 1, 2, none⟩ = some (.int .i64 s0) := cellOf hd3 2
          have e3 : wr.cell? ⟨w.heap.size + 1 + 1, 3, none⟩ = some (.string t0) := cellOf hd3 3
          have e4 := cellOf hd3 4
          have e5 := cellOf hd3 5
          have g0 := cellOf hd2 0
          have g1 := cellOf hd2 1
          have g2 := cellOf hd2 2
          have g3 := cellOf hd2 3
          have g4 := cellOf hd2 4
          have g5 := cellOf hd2 5
          have z0 := freeOf hd2 0
          have z1 := freeOf hd2 1
          have z2 := freeOf hd2 2
          have z3 := freeOf hd2 3
          have z4 := freeOf hd2 4
          have z5 := freeOf hd2 5
          go_wp2
          refine (fun (Wf : World) (h1 : Wf.heap[w.heap.size + 1]? = some (Obj.cells #[Value.int IntKind.i64 k0, Value.int IntKind.i64 i0, Value.int IntKind.i64 s0, Value.string t0, .slice al ll0 capl, .slice af k capf] 28 (0, 0))) (h2 : ∀ b, b ≠ w.heap.size + 1 → Wf.heap[b]? = wr.heap[b]?) (h3 : Below w.heap.size w Wf) (h4 : Wf.heap.size = wr.heap.size) => ?_ : ∀ Wf : World, _ → _ → _ → _ → bodyPost _ _ _ _ _ Wf) _
            (heapSet _ (heapSet _ (heapSet _ (heapSet _ (heapSet _ (heapSet _ hd2)))))) (fun b hb => ((Below.heap_setCell _ _ _ _ (by exact hb)).trans ((Below.heap_setCell _ _ _ _ (by exact hb)).trans ((Below.heap_setCell _ _ _ _ (by exact hb)).trans ((Below.heap_setCell _ _ _ _ (by exact hb)).trans ((Below.heap_setCell _ _ _ _ (by exact hb)).trans (Below.heap_setCell _ _ _ _ (by exact hb)))))))) ((((((hbelr.setCell (by simp) _).setCell (by simp) _).setCell (by simp) _).setCell (by simp) _).setCell (by simp) _).setCell (by simp) _) (by simp [World.setCell])
          refine bodyPost_ret (v := VC.v ⟨k0, i0, s0, t0, al, ll0, capl, af, k, capf⟩) (by simp [results, Tryz.results107, go_sem, cellOf h1]) rfl ⟨_, rfl, h3, ⟨⟨rfl, rfl, rfl, rfl, ⟨HOK.out.k, HOK.out.i, HOK.out.s, HOK.out.t, HOK.out.l, HOK.out.f, hcl, hcf⟩, HL.out, HF.out, HNS.out⟩, ?_, ?_⟩⟩
          · rcases hvals with rfl | ⟨b, o, rfl, hb, hvv⟩
            · exact .inl rfl
            · refine .inr ⟨b, o, rfl, ⟨by omega, by omega⟩, hvv.same (fun b hb => ⟨⟨by omega, by omega⟩, (h2 b (by omega)).trans (HK.out b hb.2 (by omega))⟩) ((h2 b (by omega)).trans (HK.out b hb.2 (by omega)))⟩
          · rcases hflds with rfl | ⟨b, o, rfl, hb, hvv⟩
            · exact .inl rfl
            · exact .inr ⟨b, o, rfl, ⟨by omega, by omega⟩, hvv.same (fun b hb => ⟨⟨by omega, by omega⟩, h2 b (by omega)⟩) (h2 b (by omega))⟩

/-- value.Clone: a copy in memory of its own. -/
theorem clone_any : ∀ (n : Nat) (d : Val) (c : VC) (w : World), Val.sz d ≤ n → IsVal (· < w.heap.size) w c d → Calls Tryz.prog 107 #[c.v] w (ClonePost w d) := by
  intro n
  induction n using Nat.strongRecOn with
  | _ n ih =>
    intro d c w hn hd
    obtain ⟨k, i, s, t, l, ns, fs⟩ := d
    obtain ⟨k0, i0, s0, t0, la, ll, lc, fa, fl, fc⟩ := c
    obtain ⟨rfl, rfl, rfl, rfl, _⟩ := hd.1
    exact clone_step n ih _ _ _ _ la ll lc fa fl fc l ns fs w hn hd
theorem clone_call {d : Val} {c : VC} {w : World} (hd : IsVal (· < w.heap.size) w c d) : Calls Tryz.prog 107 #[c.v] w (ClonePost w d) := clone_any _ d c w (Nat.le_refl _) hd


end Go.Proofs.YthjlgpmajeafpaaGreatDoor

/-
  value.parts returns the values of which a value consists directly, and leaves what was there as it was. Condition: the value can be read as data.
-/
namespace Go.Proofs.YthjlgpmajeafpaaGreatDoor
open Go Go.RowKit
set_option linter.unusedVariables false
set_option linter.unusedSimpArgs false

def kids : Val → List Val
  | .mk k _ _ _ l _ fs => if k = 8 ∨ k = 10 then l else if k = 9 then fs else []

/-- A slice of values in w', whose own slices lie in w below n. -/
def KidsAt (n₀ m : Nat) (w w' : World) (a : Option Addr) (n : Nat) (l : List Val) : Prop :=
  n = l.length ∧ (l = [] ∨ ∃ b o, a = some ⟨b, o, none⟩ ∧ b < w'.heap.size ∧ (b < n₀ ∨ m ≤ b) ∧ (∃ cs t fr, w'.heap[b]? = some (.cells cs t fr)) ∧ ∀ j (h : j < l.length), ∃ x, At w' b (o + j * 6) x ∧ IsVal (· < n₀) w x l[j])
def PartsPost (n₀ : Nat) (w0 : World) (d : Val) (w : World) (e : Ending) (w' : World) : Prop := ∃ a n cap, e = .returned (.slice a n cap) ∧ Below w.heap.size w w' ∧ n * 88 ≤ 140737488351232 * 2 ∧ KidsAt n₀ w.heap.size w0 w' a n (kids d)

theorem blockOf {w : World} {b o : Nat} {v : Value} (h : w.cell? ⟨b, o, none⟩ = some v) : ∃ cs t fr, w.heap[b]? = some (.cells cs t fr) := by
  unfold World.cell? at h
  dsimp only at h
  split at h
  · rename_i c t fr e; exact ⟨_, _, _, e⟩
  · cases h

set_option maxRecDepth 100000 in
set_option maxHeartbeats 2000000 in
theorem parts_call (n₀ : Nat) (w0 : World) (d : Val) (c : VC) (w : World) (hw : Below n₀ w0 w) (hn₀ : n₀ ≤ w.heap.size) (hd : IsVal (· < n₀) w0 c d) :
    Calls Tryz.prog 175 #[c.v] w (PartsPost n₀ w0 d w) := by
  obtain ⟨k0, i0, s0, t0, l, ns, fs⟩ := d
  obtain ⟨k1, i1, s1, t1, la, ll, lc, fa, fl, fc⟩ := c
  obtain ⟨⟨h1, h2, h3, h4, hok, hll, hfl, hns⟩, hv, hf⟩ := hd
  dsimp only at h1 h2 h3 h4 hll hfl hv hf
  subst h1 h2 h3 h4
  have hrl : ll * 88 ≤ 140737488351232 := hok.l
  have hrf : fl * 104 ≤ 140737488351232 := hok.f
  clear hok
  have HLL := hid hll; clear hll
  have HFL := hid hfl; clear hfl
  have HNS := hid hns; clear hns
  by_cases h8 : k1 = 8 ∨ k1 = 10
  · have HR := hid (show kids (.mk k1 i1 s1 t1 l ns fs) = l by simp [kids, h8])
    have hpost : ∀ w', Below w.heap.size w w' → PartsPost n₀ w0 (.mk k1 i1 s1 t1 l ns fs) w (.returned (.slice la ll lc)) w' := fun w' hb => by
      refine ⟨_, _, _, rfl, hb, by omega, ?_⟩
      rw [HR.out]
      refine ⟨HLL.out, ?_⟩
      rcases hv with rfl | ⟨b, o, rfl, hb', hvs⟩
      · exact .inl rfl
      · by_cases hl0 : l = []
        · exact .inl hl0
        · have hlp : 0 < l.length := List.length_pos_iff.2 hl0
          have hs := hb.size
          refine .inr ⟨b, o, rfl, by omega, .inl hb', ?_, fun j hj => ?_⟩
          · obtain ⟨x, hx, _⟩ := hvs.get 0 hlp
            exact blockOf ((hx.same ((hb.block b (by omega)).trans (hw.block b hb'))).k)
          · obtain ⟨x, hx, hxv⟩ := hvs.get j hj
            exact ⟨x, hx.same ((hb.block b (by omega)).trans (hw.block b hb')), hxv⟩
    have HP := hid hpost
    clear hpost hv hf
    rcases h8 with rfl | rfl
    all_goals
      go_enter Tryz.func175, Tryz.ntmps175
      go_wp2
      go_ret
      exact HP.out _ ((Below.refl _ w).alloc (Nat.le_refl _) _)
  · by_cases h9 : k1 = 9
    · have HR := hid (show kids (.mk k1 i1 s1 t1 l ns fs) = fs by subst h9; simp [kids])
      subst h9
      obtain ⟨ti, hi, hz0, hz1, hz2⟩ := info_parts infoValue
      clear h8 hv
      have HW := hid hw
      go_enter Tryz.func175, Tryz.ntmps175
      go_wp2
      go_loopw [3, 18] (fun v i wr => ∃ (k : Nat) (cs : List VC), k ≤ fl ∧ i = .int .i64 k ∧ cs.length = k ∧ wr.ownsRow (w.heap.size + 1) 28 6 v k (cs.flatMap VC.cs) ∧
          (∀ j (h : j < cs.length) (h' : j < fs.length), IsVal (· < n₀) w0 cs[j] fs[j]) ∧ Below w.heap.size w wr ∧ w.heap.size + 1 ≤ wr.heap.size)
        (fun _ i _ => fl - (intOf i).toNat)
      case atStart => exact ⟨0, [], Nat.zero_le _, rfl, rfl, World.ownsRow_nil _ _ _ _, fun j h => by simp at h, (Below.refl _ w).alloc (Nat.le_refl _) _, by simp⟩
      case round =>
        obtain ⟨k, cs, hk, rfl, hcs, hown, hel, hbel, hszr⟩ := hrel
        have HCS := hid hcs; clear hcs
        have HEL := hid hel; clear hel
        by_cases hlt : k < fl
        · rcases hf with rfl | ⟨b, o, rfl, hb, hvs⟩
          · exfalso; have h1 := HFL.out; simp only [List.length_nil] at h1; omega
          · have hkl : k < fs.length := by have h1 := HFL.out; omega
            have hkn : k < ns.length := by have h1 := HFL.out; have h2 := HNS.out; omega
            obtain ⟨⟨hnm, hnz⟩, x, hx, hxv⟩ := hvs.get HNS.out k hkl hkn
            obtain ⟨nm, hnmd⟩ : ∃ nm, nm = ns[k] := ⟨_, rfl⟩
            rw [← hnmd] at hnm
            clear hnmd hnz
            obtain ⟨hx0, hx1, hx2, hx3, hx4, hx5⟩ := hx.same (w' := wr) ((hbel.block b (by omega)).trans (HW.out.block b hb))
            have hnm' : wr.cell? ⟨b, o + k * 7, none⟩ = some (.string nm) := (World.cell?_of_block (w := w0) (a := ⟨b, o + k * 7, none⟩) ((hbel.block b (by omega)).trans (HW.out.block b hb))).trans hnm
            have hlt' : (k : Int) < (fl : Int) := by omega
            have hcap1 : k + 1 ≤ maxLen := by unfold maxLen; omega
            have hcap2 : (k + 1) * 88 ≤ 140737488355328 := by omega
            clear hx hnm hw
            have HX := hid hxv; clear hxv
            go_wp2_with (at_builtin; (refine wpList_append_lies _ (by rfl) _ _ 25 (by rfl) (w.heap.size + 1) 28 ti _ 6 88 Tryz.underlying25 hi hz0 hz1 hz2 rfl (by omega) _ k (cs.flatMap VC.cs) (by rfl) ((hown.alloc _).alloc _) ⟨wr.heap.size + 1, 0, none⟩ 1 1 x.cs (by rfl) (by rfl) (World.news_of_block (heapNewAt _ _ _ (by simp))) (by simp [VC.cs, Value.oneCell']) (by omega) hcap1 hcap2 (by simp; omega) (wr.heap.size + 1 + 1) (by simp) ?_); intro gg cap w2 hown2 hgrow hat hlt2)
            go_roundw
            case rel =>
              refine ⟨k + 1, cs ++ [x], by omega, by go_num, by simp [HCS.out], by simpa using hown2, fun j hj hj' => ?_, ((hbel.alloc (by omega) _).alloc (by simp; omega) _).grown hgrow (by simp; omega) (fun r e => by have := (hown.lt r e).1; omega), by have := hgrow.size; simp at this; omega⟩
              by_cases hjk : j < cs.length
              · rw [List.getElem_append_left hjk]; exact HEL.out j hjk hj'
              · obtain rfl : j = k := by have := HCS.out; simp at hj; omega
                rw [List.getElem_append_right (by omega)]
                simp only [HCS.out, Nat.sub_self, List.getElem_cons_zero]
                exact HX.out
            case measure => simp [intOf]; omega
        · obtain rfl : k = fl := by omega
          go_wp2
          go_ret
          have hsh : ∃ a cap, (∀ r, a = some r → ∃ g, r = ⟨g, 0, none⟩) ∧ u3 = .slice a k cap := by
            rcases hown.2 with ⟨rfl, rfl⟩ | ⟨g, cap, cur, rfl, _⟩
            · exact ⟨none, 0, fun r h => (by cases h), rfl⟩
            · exact ⟨_, cap, fun r h => ⟨g, (by cases h; rfl)⟩, rfl⟩
          obtain ⟨a, cap, ha, rfl⟩ := hsh
          refine ⟨a, k, cap, rfl, hbel, by omega, ?_⟩
          rw [HR.out]
          refine ⟨HFL.out, ?_⟩
          by_cases hl0 : fs = []
          · exact .inl hl0
          · have hlp : 0 < fs.length := List.length_pos_iff.2 hl0
            have h1 := HFL.out
            rcases hown.2 with ⟨h2, h3⟩ | ⟨g, cap', cur, hv, hb, hg, _⟩
            · omega
            · simp only [Value.slice.injEq] at hv
              obtain ⟨rfl, _, rfl⟩ := hv
              have h2 := HCS.out
              exact .inr ⟨g, 0, rfl, ltOf hg, .inr (by omega), ⟨_, _, _, hg⟩, fun j hj => ⟨cs[j]'(by omega), by rw [Nat.zero_add]; exact At.ofRow hown j (by omega), HEL.out j (by omega) hj⟩⟩
    · have HR := hid (show kids (.mk k1 i1 s1 t1 l ns fs) = [] by simp [kids, h8, h9])
      have e8 : (k1 == 8) = false := by simp; omega
      have e9 : (k1 == 9) = false := by simp; omega
      have e10 : (k1 == 10) = false := by simp; omega
      clear hv hf h8 h9 hw
      go_enter Tryz.func175, Tryz.ntmps175
      go_wp2
      go_ret
      exact ⟨_, _, _, rfl, (Below.refl _ w).alloc (Nat.le_refl _) _, by omega, by rw [HR.out]; exact ⟨rfl, .inl rfl⟩⟩
end Go.Proofs.YthjlgpmajeafpaaGreatDoor
