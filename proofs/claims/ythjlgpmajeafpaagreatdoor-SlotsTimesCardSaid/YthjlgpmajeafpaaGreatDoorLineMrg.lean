/-
  Plain: states of k slots whose keys are the ints 0 .. k-1: they are checked as their number says. No program in sight.
-/
import Derived.Test.YthjlgpmajeafpaaGreatDoorSymmMrg
import Derived.Test.YthjlgpmajeafpaaGreatDoorReflMrg
import Derived.Shelf.Strings.BuilderK
import Derived.Test.YthjlgpmajeafpaaGreatDoorStampMrg
import Derived.Test.YthjlgpmajeafpaaGreatDoorProg
import Derived.Test.YthjlgpmajeafpaaGreatDoorShelf
import Derived.Lib.UnsafeStr
namespace Go.Proofs.YthjlgpmajeafpaaGreatDoor
open Go Go.RowKit
set_option linter.unusedVariables false
set_option linter.unusedSimpArgs false

abbrev intV (i : Int) : Val := .mk 2 i 0 ⟨#[]⟩ [] [] []
def mkS (i : Int) : Slot := ⟨intV i, 0, 0, [], []⟩
def longF : Nat → Nat → List Slot
  | _, 0 => []
  | j, m + 1 => mkS j :: longF (j + 1) m
theorem longF_snoc : ∀ (m j : Nat), longF j (m + 1) = longF j m ++ [mkS ((j + m : Nat) : Int)]
  | 0, j => by simp [longF]
  | m + 1, j => by
    rw [longF, longF_snoc m (j + 1), longF, show j + 1 + m = j + (m + 1) by omega]
    rfl
theorem longF_len : ∀ (m j : Nat), (longF j m).length = m
  | 0, _ => rfl
  | m + 1, j => by rw [longF, List.length_cons, longF_len m]
theorem intV_chk {i : Int} (h0 : 0 ≤ i) (h1 : i ≤ 999999999999999) : chkVal (intV i) = 0 := by
  have hb : betweenE i (-999999999999999) 999999999999999 = 0 := by
    unfold betweenE
    split
    · omega
    · rfl
  have h3 : chkItem 1 (1, intV i) = 0 := by
    have e1 : isNullV (intV i) = false := by simp [isNullV, isNullB, intV]
    have e2 : usesV (intV i) = true := by simp [usesV, usesB, numK, intV]
    simp only [chkItem, e1, e2]
    simp [kindV, ruleE, hb]
  have h2 : preL 1 (intV i) = [(1, intV i)] := by simp [preL, intV, preLs]
  rw [chkVal, h2]
  simp only [chkGo, Nat.zero_add, h3]
  simp
theorem intV_cmp {i j : Int} (h : j < i) : cmpV (intV i) (intV j) = 1 := by
  have h1 : Lib.compareInt i j = 1 := by unfold Lib.compareInt; split <;> (try split) <;> omega
  have h2 : Lib.compareInt 2 2 = 0 := by decide
  simp [cmpV, orL, h1, h2, intV]
theorem mkS_slotE (i : Int) : slotE [] 0 (mkS i) = (0, [], 0) := by
  rw [slotE, if_neg (by show ¬ numE 0 0 ≠ 0; decide)]
  rfl
theorem longF_slotsE : ∀ (m j : Nat) (p : Option Val), j + m ≤ 100000 → (∀ q, p = some q → ∃ i : Int, q = intV i ∧ i < j) → slotsE p [] 0 (longF j m) = 0
  | 0, j, p, _, _ => by cases p <;> rfl
  | m + 1, j, p, h, hp => by
    have hc : cmpP p (intV j) = 1 := by
      cases p with
      | none => rfl
      | some q =>
        obtain ⟨i, rfl, hi⟩ := hp q rfl
        exact intV_cmp hi
    rw [longF, slotsE, show (mkS (j : Int)).k = intV j from rfl, if_neg (fun g => g.1 (intV_chk (by omega) (by omega))), hc, if_neg (by decide), if_neg (by decide), mkS_slotE, if_neg (by decide)]
    exact longF_slotsE m (j + 1) _ (by omega) (fun q e => ⟨j, (Option.some.inj e).symm, by omega⟩)
theorem long_checkE (k : Nat) (h : k ≤ 100000) : checkE ⟨0, 0, longF 0 k⟩ = if 1024 < k then 9 else 0 := by
  rw [checkE, if_neg (by show ¬ numE 0 0 ≠ 0; decide)]
  show (if 1024 < (longF 0 k).length then (9 : Int) else slotsE none [] 0 (longF 0 k)) = _
  rw [longF_len, longF_slotsE k 0 none (by omega) (fun q e => by cases e)]
abbrev intC (i : Int) : SlC := ⟨⟨2, i, 0, ⟨#[]⟩, none, 0, 0, none, 0, 0⟩, 0, 0, none, 0, 0, none, 0, 0⟩
theorem intC_is (S : Nat → Prop) (w : World) {i : Int} (h0 : 0 ≤ i) (h1 : i ≤ 999999999999999) : IsSl S w (intC i) (mkS i) := by
  have z0 : I64 0 := ⟨by decide, by decide⟩
  have z2 : I64 2 := ⟨by decide, by decide⟩
  have zi : I64 i := ⟨by omega, by omega⟩
  have n1 : (0 : Nat) * 88 ≤ 140737488351232 := by decide
  have n2 : (0 : Nat) * 104 ≤ 140737488351232 := by decide
  have n3 : (ByteArray.mk #[]).size ≤ 140737488351232 := by decide
  have n4 : (0 : Nat) * 152 ≤ 140737488351232 := by decide
  exact ⟨⟨⟨rfl, rfl, rfl, rfl, ⟨z2, zi, z0, n3, n1, n2, Nat.le_refl 0, Nat.le_refl 0⟩, rfl, rfl, rfl⟩, .inl rfl, .inl rfl⟩, rfl, z0, rfl, z0, ⟨rfl, Nat.le_refl _, n4, .inl rfl⟩, ⟨rfl, Nat.le_refl _, n1, .inl rfl⟩⟩
end Go.Proofs.YthjlgpmajeafpaaGreatDoor

/-
  strings.Builder's copyCheck and WriteString at this program: the bytes go in behind, and every block that is not the builder's and is no row of bytes stays. Condition: the block holds a builder.
-/
namespace Go.Proofs.YthjlgpmajeafpaaGreatDoor
open Go Go.RowKit Go.Shelf
set_option linter.unusedVariables false
set_option linter.unusedSimpArgs false

theorem sizeBld : (Tryz.prog.info? 155).map (·.size) = some 2 := by kernel_rfl
theorem liesBld : liesAt Tryz.prog Tryz.prog.depth 155 (2 / Tryz.prog.cellsOf 155) 0 155 1 = true := by kernel_rfl
set_option maxRecDepth 100000 in
theorem cc_used (b : Nat) (w : World) (h0 : w.cell? ⟨b, 0, none⟩ = some (.pointer (some ⟨b, 0, none⟩))) :
    Calls Tryz.prog 142 #[.pointer (some ⟨b, 0, none⟩)] w fun e w' => e = .returned (.tuple #[]) ∧ w' = w := by
  obtain ⟨j, hj, _⟩ := Option.map_eq_some_iff.1 sizeBld
  go_enter Tryz.func142, Tryz.ntmps142
  go_wp2
  rw [Lib.run_neq_ptr_same w _ Tryz.underlying152 hj]
  go_wp2
  go_end0
  exact ⟨rfl, rfl⟩
set_option maxRecDepth 100000 in
theorem cc_fresh (b : Nat) (w : World) (h0 : w.cell? ⟨b, 0, none⟩ = some (.pointer none)) (hsh : w.shape? b = some (155, 2)) (hfz : w.frozen? ⟨b, 0, none⟩ = false) :
    Calls Tryz.prog 142 #[.pointer (some ⟨b, 0, none⟩)] w fun e w' => e = .returned (.tuple #[]) ∧ w' = w.setCell ⟨b, 0, none⟩ (.pointer (some ⟨b, 0, none⟩)) := by
  obtain ⟨j, hj, hjs⟩ := Option.map_eq_some_iff.1 sizeBld
  go_enter Tryz.func142, Tryz.ntmps142
  go_wp2
  rw [Lib.run_to_unsafe w ⟨b, 0, none⟩ Tryz.underlying152 Tryz.underlying199 hj (by rw [hjs]; decide) hsh (Nat.zero_lt_succ 1)]
  simp only [Result.andThen]
  rw [Oper.upon_value]
  go_wp2
  rw [run_callFunc_extern Tryz.func176 (by kernel_rfl) (by kernel_rfl) (by kernel_rfl) (e := Extern.AbiNoEscape.same) (by kernel_rfl)]
  rw [Lib.run_noEscape]
  simp only [Result.andThen]
  rw [Oper.upon_value]
  go_wp2
  rw [Lib.run_from_unsafe w ⟨b, 0, none⟩ Tryz.underlying199 Tryz.underlying152 hj hsh liesBld]
  simp only [Result.andThen]
  rw [Oper.upon_value]
  go_wp2
  go_end0
  exact ⟨rfl, rfl⟩
abbrev IsBld (B b : Nat) (bs : List Value) (w : World) : Prop := Lib.IsBuilderF 155 5 B b bs w
def BldPost (B b : Nat) (bs : List Value) (v : Value) (w : World) (e : Ending) (w' : World) : Prop := e = .returned v ∧ Lib.BuilderAtF 155 5 B b (.pointer (some ⟨b, 0, none⟩)) bs w' ∧ Below B w w' ∧ Lib.OthersKept 5 (some b) w w'
theorem cc_call (B b : Nat) (bs : List Value) (w : World) (h : IsBld B b bs w) : Calls Tryz.prog 142 #[.pointer (some ⟨b, 0, none⟩)] w (BldPost B b bs (.tuple #[]) w) := by
  rcases h with h | h
  · exact (cc_fresh b w h.cell0 h.shape h.frozen0).mono fun e w' ⟨he, hw⟩ => ⟨he, by rw [hw]; exact h.used _, by rw [hw]; exact (Below.refl B w).setCell (p := ⟨b, 0, none⟩) h.1 _, by rw [hw]; exact (Lib.OthersKept.refl _ _ w).setCell ⟨b, 0, none⟩ rfl _⟩
  · exact (cc_used b w h.cell0).mono fun e w' ⟨he, hw⟩ => ⟨he, by rw [hw]; exact h, by rw [hw]; exact Below.refl B _, by rw [hw]; exact Lib.OthersKept.refl _ _ _⟩
theorem infoU8 : (Tryz.prog.info? 5).map (fun i => (i.zero, i.size, i.bytes)) = some (some (.int .u8 0), 1, 1) := by kernel_rfl

set_option maxRecDepth 100000 in
set_option maxHeartbeats 2000000 in
theorem wstr_call (B b : Nat) (bs : List Value) (s : ByteArray) (w : World) (h : IsBld B b bs w) (hlen : bs.length + s.size ≤ 140737488355328) (hBw : B ≤ w.heap.size) :
    Calls Tryz.prog 117 #[.pointer (some ⟨b, 0, none⟩), .string s] w (BldPost B b (bs ++ Lib.strCells s) (.tuple #[.int .i64 s.size, .nilIface]) w) := by
  obtain ⟨i0, hi, hz0, hz1, hz2⟩ := info_parts infoU8
  have HCC := hid (cc_call B b bs w h)
  clear h
  go_enter Tryz.func117, Tryz.ntmps117
  go_wp2_with (go_at_call 142; refine HCC.out.mono ?_)
  rintro e w1 ⟨rfl, h1, hb1, hk1⟩
  obtain ⟨hB, v, hbk, hown, hne⟩ := h1
  have c0 : w1.cell? ⟨b, 0, none⟩ = some (.pointer (some ⟨b, 0, none⟩)) := by rw [Lib.cell_of_heap hbk]; rfl
  have c1 : w1.cell? ⟨b, 1, none⟩ = some v := by rw [Lib.cell_of_heap hbk]; rfl
  go_wp2_with (at_builtin; refine Lib.wpList_append_own_stringF _ rfl _ _ 153 9 rfl B 5 i0 Tryz.underlying153 Tryz.underlying9 hi hz0 hz1 hz2 _ _ _ rfl hown s rfl ?c3 ?c4 ?c5 ?_)
  case c3 => unfold maxLen; omega
  case c4 => omega
  case c5 => have := hb1.size; omega
  intro v' w2 hown' hgrow _
  have hlt := ltOf hbk
  have hb2 : w2.heap[b]? = some (.cells #[.pointer (some ⟨b, 0, none⟩), v] 155 (0, 0)) := (hgrow.block b hlt (fun e => hne e.symm)).trans hbk
  have d0 := cellOf hb2 0
  have d1 := cellOf hb2 1
  have f1 := freeOf hb2 1
  (try dsimp only at d0 d1)
  obtain ⟨ao, n', cap, rfl⟩ : ∃ ao n' cap, v' = .slice ao n' cap := by
    rcases hown'.2 with ⟨hv, _⟩ | ⟨g, cap, cur, fz, hv, _⟩
    · exact ⟨_, _, _, hv⟩
    · exact ⟨_, _, _, hv⟩
  go_wp2
  go_ret2
  refine ⟨rfl, ?_, ?_, (hk1.grown hgrow (Lib.ownsRowF_kind hown)).setCell ⟨b, 1, none⟩ rfl _⟩
  · exact Lib.BuilderAtF.put (T := 155) (e := 5) hB hb2 (bs' := bs ++ Lib.strCells s) (by simpa [Lib.strCells_length] using hown') (by decide)
  · exact (hb1.grown hgrow (by have := hb1.size; omega) (fun k hk => (hown.lt k hk).1)).setCell (p := ⟨b, 1, none⟩) hB _
set_option maxRecDepth 100000 in
set_option maxHeartbeats 2000000 in
theorem wbyte_call (B b : Nat) (bs : List Value) (c : Int) (w : World) (h : IsBld B b bs w) (hlen : bs.length + 1 ≤ 140737488355328) (hBw : B ≤ w.heap.size) :
    Calls Tryz.prog 185 #[.pointer (some ⟨b, 0, none⟩), .int .u8 c] w (BldPost B b (bs ++ [.int .u8 c]) .nilIface w) := by
  obtain ⟨i0, hi, hz0, hz1, hz2⟩ := info_parts infoU8
  have HCC := hid (cc_call B b bs w h)
  clear h
  go_enter Tryz.func185, Tryz.ntmps185
  go_wp2_with (go_at_call 142; refine HCC.out.mono ?_)
  rintro e w1 ⟨rfl, h1, hb1, hk1⟩
  obtain ⟨hB, v, hbk, hown, hne⟩ := h1
  have c0 : w1.cell? ⟨b, 0, none⟩ = some (.pointer (some ⟨b, 0, none⟩)) := by rw [Lib.cell_of_heap hbk]; rfl
  have c1 : w1.cell? ⟨b, 1, none⟩ = some v := by rw [Lib.cell_of_heap hbk]; rfl
  go_wp2_with (at_builtin; refine wpList_append_ownF _ rfl _ _ 153 rfl B 5 i0 (.int .u8 0) 1 1 Tryz.underlying153 hi hz0 hz1 hz2 rfl (by decide) _ _ _ rfl (hown.alloc _) ⟨w1.heap.size, 0, none⟩ 1 1 [.int .u8 c] rfl rfl ?c1 ?c2 ?c3 ?c4 ?c5 ?_)
  case c1 =>
    intro j u hj
    match j, hj with
    | 0, hj => simp at hj; subst hj; simp [Addr.add]
  case c2 => intro u hu; simp at hu; subst hu; rfl
  case c3 => unfold maxLen; omega
  case c4 => omega
  case c5 => have := hb1.size; simp; omega
  intro v' w2 hown' hgrow _
  have hlt := ltOf hbk
  have hb2 : w2.heap[b]? = some (.cells #[.pointer (some ⟨b, 0, none⟩), v] 155 (0, 0)) := (hgrow.block b (by simp; omega) (fun e => hne e.symm)).trans ((Below.heap_alloc _ _ _ hlt).trans hbk)
  have d0 := cellOf hb2 0
  have d1 := cellOf hb2 1
  have f1 := freeOf hb2 1
  (try dsimp only at d0 d1)
  obtain ⟨g, cap, rfl⟩ : ∃ g cap, v' = .slice (some ⟨g, 0, none⟩) (bs.length + 1) cap := by
    rcases hown'.2 with ⟨_, h0⟩ | ⟨g, cap, cur, fz, hv, _⟩
    · omega
    · exact ⟨g, cap, hv⟩
  go_wp2
  go_ret
  refine ⟨rfl, ?_, ?_, ((hk1.alloc _).grown hgrow (Lib.ownsRowF_kind (hown.alloc _))).setCell ⟨b, 1, none⟩ rfl _⟩
  · exact Lib.BuilderAtF.put (T := 155) (e := 5) hB hb2 (bs' := bs ++ [.int .u8 c]) (by simpa using hown') (by decide)
  · exact ((hb1.alloc (by have := hb1.size; omega) _).grown hgrow (by have := hb1.size; simp; omega) (fun k hk => (hown.lt k hk).1)).setCell (p := ⟨b, 1, none⟩) hB _
end Go.Proofs.YthjlgpmajeafpaaGreatDoor

/-
  slots.Encode's two functions: line writes texts with blanks between them and a newline behind; kept hands a text on. Conditions: the texts can be read, the builder is one, the sizes fit.
-/
namespace Go.Proofs.YthjlgpmajeafpaaGreatDoor
open Go Go.RowKit Go.Shelf
set_option linter.unusedVariables false
set_option linter.unusedSimpArgs false

theorem IsBld.ext {B b : Nat} {bs : List Value} {w w' : World} (h : IsBld B b bs w) (hb : Below w.heap.size w w') : IsBld B b bs w' := by
  rcases h with ⟨hB, v, hbk, hown, hne⟩ | ⟨hB, v, hbk, hown, hne⟩
  · exact .inl ⟨hB, v, heapExt hb hbk, hown.kept (grownOf hb none) (by cases v.ownBlock <;> simp), hne⟩
  · exact .inr ⟨hB, v, heapExt hb hbk, hown.kept (grownOf hb none) (by cases v.ownBlock <;> simp), hne⟩
theorem others_ext {e : TypeId} {b : Option Nat} {w w' : World} (hb : Below w.heap.size w w') : Lib.OthersKept e b w w' := fun k o h _ _ => heapExt hb h
def lineB (xs : List ByteArray) : List UInt8 := Lib.join (xs.map (·.data.toList)) [32] ++ [10]

set_option maxRecDepth 100000 in
set_option maxHeartbeats 2000000 in
theorem line_call (B b : Nat) (bs : List UInt8) (xs : List ByteArray) (bk o cap : Nat) (w : World) (h : IsBld B b (Lib.byteCells bs) w) (hc : ∀ (j : Nat) x, xs[j]? = some x → w.cell? ⟨bk, o + j, none⟩ = some (.string x)) (hbk : bk < w.heap.size) (hcap : xs.length ≤ cap) (hxs : xs.length ≤ 100)
    (hsz : bs.length + (lineB xs).length ≤ 140737488355328) (hBw : B ≤ w.heap.size) :
    Calls Tryz.prog 116 #[.slice (some ⟨bk, o, none⟩) xs.length cap, .pointer (some ⟨b, 0, none⟩)] w (BldPost B b (Lib.byteCells (bs ++ lineB xs)) (.tuple #[]) w) := by
  obtain ⟨js, hjs⟩ : ∃ js, js = Lib.join (xs.map (·.data.toList)) [32] := ⟨_, rfl⟩
  have hl : (lineB xs).length = js.length + 1 := by rw [lineB, hjs]; simp
  have hj := Tryz.strings_Join bk o cap xs ⟨#[32]⟩ w hc hbk (by omega) hcap (by rw [show (⟨#[32]⟩ : ByteArray).data.toList = [32] from rfl, ← hjs]; omega)
  rw [show (⟨#[32]⟩ : ByteArray).data.toList = [32] from rfl, ← hjs] at hj
  have HJ := hid hj
  have HLB := hid (show lineB xs = js ++ [10] by rw [lineB, hjs])
  have hz1 : (⟨js.toArray⟩ : ByteArray).size = js.length := by simp [ByteArray.size]
  have hz2 : (⟨js.toArray⟩ : ByteArray).size + 1 ≤ 9223372036854775807 := by rw [hz1]; omega
  have hz3 : ((⟨js.toArray⟩ : ByteArray).size + (⟨#[10]⟩ : ByteArray).size) ≤ 9223372036854775807 := hz2
  have HWS : Hid (∀ w', Below w.heap.size w w' → Calls Tryz.prog 117 #[.pointer (some ⟨b, 0, none⟩), .string (⟨js.toArray⟩ ++ ⟨#[10]⟩)] w' (BldPost B b (Lib.byteCells bs ++ Lib.strCells (⟨js.toArray⟩ ++ ⟨#[10]⟩)) (.tuple #[.int .i64 ((⟨js.toArray⟩ ++ ⟨#[10]⟩ : ByteArray).size : Nat), .nilIface]) w')) := hid fun w' hb => wstr_call B b _ _ w' (h.ext hb) (by
    have e : (⟨js.toArray⟩ ++ ⟨#[10]⟩ : ByteArray).size = js.length + 1 := by rw [ByteArray.size_append, hz1]; rfl
    rw [e]; simp [Lib.byteCells]; omega) (Nat.le_trans hBw hb.size)
  have HBW := hid hBw
  clear h hc hj hjs hsz hl hbk
  go_enter Tryz.func116, Tryz.ntmps116
  go_wp2_with (first
    | (go_at_call 117; refine (HWS.out _ hb1).mono ?_; rintro e w2 ⟨rfl, h2, hb2, hk2⟩)
    | (go_at_call 111; refine HJ.out.mono ?_; rintro e w1 ⟨rfl, hb1⟩))
  refine bodyPost_ret (v := .tuple #[]) (by simp [results, Tryz.results116, go_sem]) rfl ⟨rfl, ?_, ?_, ?_⟩
  · rw [HLB.out, Lib.byteCells_append]
    have e : Lib.strCells (⟨js.toArray⟩ ++ ⟨#[10]⟩ : ByteArray) = Lib.byteCells (js ++ [10]) := by rw [Lib.strCells_eq, ByteArray.data_append]; simp
    rw [← e]; exact h2
  · exact (hb1.mono HBW.out).trans hb2
  · exact (others_ext hb1).trans hk2
def KeptPost (fb : Nat) (s : ByteArray) (w : World) (e : Ending) (w' : World) : Prop := e = .returned (.string s) ∧ w' = w.setCell ⟨fb, 0, none⟩ (.int .i64 0)
theorem kept_call (fb : Nat) (s : ByteArray) (w : World) (h : w.cell? ⟨fb, 0, none⟩ = some (.int .i64 0)) (hf : w.frozen? ⟨fb, 0, none⟩ = false) :
    Calls Tryz.prog 118 #[.string s, .int .i64 0, .pointer (some ⟨fb, 0, none⟩)] w (KeptPost fb s w) := by
  go_enter Tryz.func118, Tryz.ntmps118
  go_wp2
  go_ret
  exact ⟨rfl, rfl⟩
end Go.Proofs.YthjlgpmajeafpaaGreatDoor
