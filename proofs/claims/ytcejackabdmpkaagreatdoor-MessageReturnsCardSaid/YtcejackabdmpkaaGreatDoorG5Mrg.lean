/-
  Plain: slices of messages, read or built by appending. No program in sight.
-/
import Derived.Test.YtcejackabdmpkaaGreatDoorG1Mrg
import Derived.Test.YtcejackabdmpkaaGreatDoorG3Mrg
import Derived.Test.YtcejackabdmpkaaGreatDoorCloneMrg
import Derived.Test.YtcejackabdmpkaaGreatDoorShelf
namespace Go.Proofs.YtcejackabdmpkaaGreatDoor
open Go Go.RowKit
set_option linter.unusedVariables false
set_option linter.unusedSimpArgs false

def MC.cs (c : MC) : List Value := [.int .i64 c.st.e, .slice c.st.a c.st.n c.st.c, .int .i64 c.m, .slice c.a c.n c.c, .int .i64 c.b.k, .int .i64 c.b.i, .int .i64 c.b.s, .string c.b.t, .slice c.b.la c.b.ll c.b.lc, .slice c.b.fa c.b.fl c.b.fc]
theorem MC.cs_len (c : MC) : c.cs.length = 10 := rfl
structure AtM (w : World) (b o : Nat) (c : MC) : Prop where
  e : w.cell? ⟨b, o, none⟩ = some (.int .i64 c.st.e)
  p : w.cell? ⟨b, o + 1, none⟩ = some (.slice c.st.a c.st.n c.st.c)
  m : w.cell? ⟨b, o + 2, none⟩ = some (.int .i64 c.m)
  es : w.cell? ⟨b, o + 3, none⟩ = some (.slice c.a c.n c.c)
  k : w.cell? ⟨b, o + 4, none⟩ = some (.int .i64 c.b.k)
  i : w.cell? ⟨b, o + 5, none⟩ = some (.int .i64 c.b.i)
  s : w.cell? ⟨b, o + 6, none⟩ = some (.int .i64 c.b.s)
  t : w.cell? ⟨b, o + 7, none⟩ = some (.string c.b.t)
  l : w.cell? ⟨b, o + 8, none⟩ = some (.slice c.b.la c.b.ll c.b.lc)
  f : w.cell? ⟨b, o + 9, none⟩ = some (.slice c.b.fa c.b.fl c.b.fc)

theorem AtM.same {w w' : World} {b o : Nat} {c : MC} (h : AtM w b o c) (hb : w'.heap[b]? = w.heap[b]?) : AtM w' b o c := by
  have e : ∀ j, w'.cell? ⟨b, j, none⟩ = w.cell? ⟨b, j, none⟩ := fun j => World.cell?_of_block (w := w) (a := ⟨b, j, none⟩) hb
  exact ⟨(e _).trans h.e, (e _).trans h.p, (e _).trans h.m, (e _).trans h.es, (e _).trans h.k, (e _).trans h.i, (e _).trans h.s, (e _).trans h.t, (e _).trans h.l, (e _).trans h.f⟩
theorem AtM.ofRow {w : World} {base : Nat} {e : TypeId} {g : Nat} {n cap : Nat} {cs : List MC} (h : w.ownsRow base e 10 (.slice (some ⟨g, 0, none⟩) n cap) n (cs.flatMap MC.cs)) (j : Nat) (hj : j < cs.length) : AtM w g (j * 10) cs[j] := by
  have hc := h.cells (g := g) rfl
  have key : ∀ i u, i < 10 → (cs[j].cs)[i]? = some u → w.cell? ⟨g, j * 10 + i, none⟩ = some u := by
    intro i u hi hu
    have := hc (j * 10 + i) u (by rw [flat_get MC.cs 10 MC.cs_len cs j i hj hi]; exact hu)
    rw [show (⟨g, 0, none⟩ : Addr).add (j * 10 + i) = ⟨g, j * 10 + i, none⟩ by unfold Addr.add; split <;> simp_all] at this
    exact this
  exact ⟨key 0 _ (by omega) rfl, key 1 _ (by omega) rfl, key 2 _ (by omega) rfl, key 3 _ (by omega) rfl, key 4 _ (by omega) rfl, key 5 _ (by omega) rfl, key 6 _ (by omega) rfl, key 7 _ (by omega) rfl, key 8 _ (by omega) rfl, key 9 _ (by omega) rfl⟩
/-- A slice of messages that can be read. -/
structure IsMsgs (S : Nat → Prop) (w : World) (a : Option Addr) (n c : Nat) (l : List Msg) : Prop where
  len : n = l.length
  cap : n ≤ c
  big : n * 152 ≤ 140737488351232
  at' : l = [] ∨ ∃ b o, a = some ⟨b, o, none⟩ ∧ S b ∧ ∀ (j : Nat) (h : j < l.length), ∃ x : MC, AtM w b (o + j * 10) x ∧ IsMsg S w x l[j]
theorem IsMsgs.same {S S' : Nat → Prop} {w w' : World} {a : Option Addr} {n c : Nat} {l : List Msg} (hs : ∀ b, S b → S' b ∧ w'.heap[b]? = w.heap[b]?) (h : IsMsgs S w a n c l) : IsMsgs S' w' a n c l :=
  ⟨h.len, h.cap, h.big, h.at'.imp id fun ⟨b, o, ha, hb, hx⟩ => ⟨b, o, ha, (hs b hb).1, fun j hj => by
    obtain ⟨x, h1, h2⟩ := hx j hj
    exact ⟨x, h1.same (hs b hb).2, h2.same hs⟩⟩⟩

def isC (w : World) (b : Nat) : Prop := ∃ o : Obj, w.heap[b]? = some o ∧ o.isCells = true
theorem isC_cell {w : World} {b o : Nat} {v : Value} (h : w.cell? ⟨b, o, none⟩ = some v) : isC w b := by
  unfold World.cell? at h
  split at h
  · rename_i h1; exact ⟨_, h1, rfl⟩
  · cases h
theorem isC_same {w w' : World} {b : Nat} (h : isC w b) (hb : w'.heap[b]? = w.heap[b]?) : isC w' b := by
  obtain ⟨o, h1, h2⟩ := h
  exact ⟨o, hb.trans h1, h2⟩
mutual
theorem IsVal.strong {S : Nat → Prop} {w : World} : ∀ {c : VC} {d : Val}, IsVal S w c d → IsVal (fun b => S b ∧ isC w b) w c d
  | c, .mk k i s t l ns fs, h => by
    obtain ⟨h1, h2, h3⟩ := h
    refine ⟨h1, ?_, ?_⟩
    · rcases h2 with h2 | ⟨b, o, ha, hb, hv⟩
      · exact .inl h2
      · cases l with
        | nil => exact .inl rfl
        | cons d l => exact .inr ⟨b, o, ha, ⟨hb, by obtain ⟨⟨x, hx, _⟩, _⟩ := hv; exact isC_cell hx.k⟩, IsVals.strong hv⟩
    · rcases h3 with h3 | ⟨b, o, ha, hb, hv⟩
      · exact .inl h3
      · cases fs with
        | nil => exact .inl rfl
        | cons d l => exact .inr ⟨b, o, ha, ⟨hb, by obtain ⟨⟨⟨hn, _⟩, _⟩, _⟩ := hv; exact isC_cell hn⟩, IsFlds.strong hv⟩
theorem IsVals.strong {S : Nat → Prop} {w : World} {b : Nat} : ∀ {o : Nat} {l : List Val}, IsVals S w b o l → IsVals (fun b => S b ∧ isC w b) w b o l
  | _, [], _ => trivial
  | o, d :: l, ⟨⟨c, ha, hv⟩, ht⟩ => ⟨⟨c, ha, IsVal.strong hv⟩, IsVals.strong ht⟩
theorem IsFlds.strong {S : Nat → Prop} {w : World} {b : Nat} : ∀ {o : Nat} {ns : List ByteArray} {l : List Val}, IsFlds S w b o ns l → IsFlds (fun b => S b ∧ isC w b) w b o ns l
  | _, _, [], _ => trivial
  | o, ns, d :: l, ⟨⟨hn, c, ha, hv⟩, ht⟩ => ⟨⟨hn, c, ha, IsVal.strong hv⟩, IsFlds.strong ht⟩
end
theorem IsInts.strong {S : Nat → Prop} {w : World} {a : Option Addr} {n c : Nat} {xs : List Int} (h : IsInts S w a n c xs) : IsInts (fun b => S b ∧ isC w b) w a n c xs := by
  refine ⟨h.len, h.cap, h.big, h.rng, ?_⟩
  rcases h.at' with h0 | ⟨b, o, ha, hb, hx⟩
  · exact .inl h0
  · cases xs with
    | nil => exact .inl rfl
    | cons x xs => exact .inr ⟨b, o, ha, ⟨hb, isC_cell (hx 0 (by simp))⟩, hx⟩
theorem IsMsg.strong {S : Nat → Prop} {w : World} {c : MC} {d : Msg} (h : IsMsg S w c d) : IsMsg (fun b => S b ∧ isC w b) w c d := ⟨⟨h.st.e, h.st.re, h.st.ps.strong⟩, h.m, h.rm, h.es.strong, h.b.strong⟩

/-- The slice v of k messages, built by the call in blocks from B on: its elements are the first k of l, in blocks that are not v's own row. -/
def BuiltM (T B : Nat) (w : World) (v : Value) (k : Nat) (l : List Msg) : Prop :=
  ∃ cs : List MC, cs.length = k ∧ w.ownsRow B T 10 v k (cs.flatMap MC.cs) ∧ ∀ j (h : j < cs.length) (h' : j < l.length), IsMsg (fun b => (B ≤ b ∧ b < w.heap.size ∧ some b ≠ v.ownBlock) ∧ isC w b) w cs[j] l[j]

theorem BuiltM.nil (T B : Nat) (w : World) (l : List Msg) : BuiltM T B w (.slice none 0 0) 0 l := ⟨[], rfl, World.ownsRow_nil _ _ _ _, fun j h => by simp at h⟩
theorem BuiltM.ext {T B : Nat} {w w' : World} {v : Value} {k : Nat} {l : List Msg} (h : BuiltM T B w v k l) (hb : Below w.heap.size w w') : BuiltM T B w' v k l := by
  obtain ⟨cs, h1, h2, h3⟩ := h
  exact ⟨cs, h1, ownExt h2 hb, fun j hj hj' => (h3 j hj hj').same fun b ⟨hb1, hb2⟩ => ⟨⟨⟨hb1.1, by have := hb.size; omega, hb1.2.2⟩, isC_same hb2 (hb.block b hb1.2.1)⟩, hb.block b hb1.2.1⟩⟩
theorem BuiltM.set {T B : Nat} {w : World} {v : Value} {k : Nat} {l : List Msg} (h : BuiltM T B w v k l) (a : Addr) (u : Value) (ha : a.block < B) : BuiltM T B (w.setCell a u) v k l := by
  obtain ⟨cs, h1, h2, h3⟩ := h
  exact ⟨cs, h1, ownsRow_setCell_below h2 ha u, fun j hj hj' => (h3 j hj hj').same fun b ⟨hb1, hb2⟩ => ⟨⟨⟨hb1.1, by simpa [World.setCell] using hb1.2.1, hb1.2.2⟩, isC_same hb2 (Below.heap_setCell _ _ _ _ (by omega))⟩, Below.heap_setCell _ _ _ _ (by omega)⟩⟩
/-- Behind a change of one block that holds no cells. -/
theorem BuiltM.grown {T B : Nat} {w w' : World} {v : Value} {k : Nat} {l : List Msg} {row : Option Nat} (h : BuiltM T B w v k l) (hg : w.grownBy w' row) (hr : ∀ r, row = some r → ∃ o : Obj, w.heap[r]? = some o ∧ o.isCells = false) : BuiltM T B w' v k l := by
  obtain ⟨cs, h1, h2, h3⟩ := h
  have hs := hg.size
  have hne : ∀ b, isC w b → some b ≠ row := fun b ⟨o, ho, hc⟩ e => by
    obtain ⟨o2, ho2, hc2⟩ := hr b e.symm
    rw [ho] at ho2; cases ho2; rw [hc] at hc2; cases hc2
  refine ⟨cs, h1, h2.kept hg ?_, fun j hj hj' => (h3 j hj hj').same fun b ⟨hb1, hb2⟩ => ⟨⟨⟨hb1.1, by omega, hb1.2.2⟩, isC_same hb2 (hg.block b hb1.2.1 (hne b hb2))⟩, hg.block b hb1.2.1 (hne b hb2)⟩⟩
  rcases h2.2 with ⟨rfl, _⟩ | ⟨g, cap, cur, rfl, _, hgg, _⟩
  · exact .inl rfl
  · exact .inr (hne g ⟨_, hgg, rfl⟩)
/-- One more, behind the law on append: the element was laid in a block of its own first. -/
theorem BuiltM.push {T B N : Nat} {w1 w2 : World} {v : Value} {k : Nat} {l : List Msg} {cs : List MC} {c : MC} {o : Obj} {g cap : Nat} (hcs : cs.length = k)
    (hel : ∀ j (h : j < cs.length) (h' : j < l.length), IsMsg (fun b => (B ≤ b ∧ b < w1.heap.size ∧ some b ≠ v.ownBlock) ∧ isC w1 b) w1 cs[j] l[j])
    (hk : k < l.length) (hc0 : IsMsg (fun b => N ≤ b ∧ b < w1.heap.size) w1 c l[k]) (hN : B ≤ N) (hv : ∀ r, v.ownBlock = some r → r < N)
    (hown : w2.ownsRow B T 10 (.slice (some ⟨g, 0, none⟩) (k + 1) cap) (k + 1) (cs.flatMap MC.cs ++ c.cs)) (hgrow : (w1.alloc o).grownBy w2 v.ownBlock) (hat : v.ownBlock = some g ∨ g = w1.heap.size + 1) :
    BuiltM T B w2 (.slice (some ⟨g, 0, none⟩) (k + 1) cap) (k + 1) l := by
  have hc := hc0.strong
  have hsz : w1.heap.size + 1 ≤ w2.heap.size := by have := hgrow.size; simpa using this
  have hst : ∀ b, b < w1.heap.size → some b ≠ v.ownBlock → w2.heap[b]? = w1.heap[b]? := fun b hb hne =>
    (hgrow.block b (by simp; omega) hne).trans (Below.heap_alloc _ _ _ hb)
  have hg : ∀ b, b < w1.heap.size → some b ≠ v.ownBlock → some b ≠ (Value.slice (some ⟨g, 0, none⟩) (k + 1) cap).ownBlock := fun b hb hne e => by
    simp only [Value.ownBlock, Option.some.injEq] at e
    subst e
    rcases hat with h | h
    · exact hne h.symm
    · omega
  refine ⟨cs ++ [c], by simp [hcs], by simpa using hown, fun j hj hj' => ?_⟩
  by_cases hjk : j < cs.length
  · rw [List.getElem_append_left hjk]
    exact (hel j hjk hj').same fun b ⟨hb, hb2⟩ => ⟨⟨⟨hb.1, by omega, hg b hb.2.1 hb.2.2⟩, isC_same hb2 (hst b hb.2.1 hb.2.2)⟩, hst b hb.2.1 hb.2.2⟩
  · obtain rfl : j = k := by simp at hj; omega
    rw [List.getElem_append_right (by omega)]
    simp only [hcs, Nat.sub_self, List.getElem_cons_zero]
    have hne : ∀ b, N ≤ b → some b ≠ v.ownBlock := fun b hb e => by have := hv b e.symm; omega
    exact hc.same fun b ⟨hb, hb2⟩ => ⟨⟨⟨by omega, by omega, hg b hb.2 (hne b hb.1)⟩, isC_same hb2 (hst b hb.2 (hne b hb.1))⟩, hst b hb.2 (hne b hb.1)⟩
theorem BuiltM.shape {T B : Nat} {w : World} {v : Value} {k : Nat} {l : List Msg} (h : BuiltM T B w v k l) : ∃ a cap, v = .slice a k cap ∧ k ≤ cap ∧ (a = none → k = 0) ∧ ∀ r, v.ownBlock = some r → B ≤ r ∧ r < w.heap.size := by
  obtain ⟨cs, h1, h2, h3⟩ := h
  have hlt := h2.lt
  rcases h2.2 with ⟨rfl, rfl⟩ | ⟨g, cap, cur, rfl, hb, hg, hn, _⟩
  · exact ⟨none, 0, rfl, Nat.le_refl _, fun _ => rfl, hlt⟩
  · exact ⟨_, cap, rfl, hn, fun h => by simp at h, hlt⟩
theorem BuiltM.own {T B : Nat} {w : World} {v : Value} {k : Nat} {l : List Msg} (h : BuiltM T B w v k l) : ∀ r, v.ownBlock = some r → B ≤ r ∧ r < w.heap.size := by
  obtain ⟨_, _, h2, _⟩ := h
  exact h2.lt
theorem BuiltM.msgs {T B : Nat} {w : World} {a : Option Addr} {cap : Nat} {l : List Msg} (h : BuiltM T B w (.slice a l.length cap) l.length l) (hbig : l.length * 152 ≤ 140737488351232) : IsMsgs (fun b => B ≤ b ∧ b < w.heap.size) w a l.length cap l := by
  obtain ⟨_, cap', hv, hcap, _⟩ := h.shape
  simp only [Value.slice.injEq] at hv
  obtain ⟨rfl, _, rfl⟩ := hv
  obtain ⟨cs, h1, h2, h3⟩ := h
  refine ⟨rfl, hcap, hbig, ?_⟩
  rcases h2.2 with ⟨h4, h5⟩ | ⟨g, cap', cur, hv, hb, hg, _⟩
  · exact .inl (List.eq_nil_of_length_eq_zero h5)
  · simp only [Value.slice.injEq] at hv
    obtain ⟨rfl, _, rfl⟩ := hv
    refine .inr ⟨g, 0, rfl, ⟨hb, ltOf hg⟩, fun j hj => ⟨cs[j]'(by omega), ?_, ?_⟩⟩
    · rw [Nat.zero_add]; exact AtM.ofRow h2 j (by omega)
    · exact (h3 j (by omega) hj).same fun b hb => ⟨⟨hb.1.1, hb.1.2.1⟩, rfl⟩
end Go.Proofs.YtcejackabdmpkaaGreatDoor

/-
  message.copyStamp and message.Clone return copies in memory of their own. Condition: what is copied can be read as data.
-/
namespace Go.Proofs.YtcejackabdmpkaaGreatDoor
open Go Go.RowKit Go.Shelf
set_option linter.unusedVariables false
set_option linter.unusedSimpArgs false

theorem ints_of_row {w : World} {base n : Nat} {v : Value} {xs : List Int} (h : w.ownsRow base 3 1 v n (xs.map (Value.int .i64))) (hbig : n * 8 ≤ 140737488351232) (hr : ∀ x ∈ xs, I64 x) : ∃ a c, v = .slice a n c ∧ IsInts (fun b => base ≤ b ∧ b < w.heap.size) w a n c xs := by
  obtain ⟨hl, hv⟩ := h
  rw [List.length_map, Nat.mul_one] at hl
  rcases hv with ⟨rfl, rfl⟩ | ⟨g, cap, cur, rfl, hb, hg, hn, _, _, ht⟩
  · exact ⟨none, 0, rfl, hl.symm, Nat.le_refl _, hbig, hr, .inl (List.eq_nil_of_length_eq_zero hl)⟩
  · refine ⟨_, _, rfl, hl.symm, hn, hbig, hr, .inr ⟨g, 0, rfl, ⟨hb, ltOf hg⟩, fun j hj => ?_⟩⟩
    rw [cellOf hg, Nat.zero_add]
    have h1 : (cur.toList.take (n * 1))[j]? = some (Value.int .i64 xs[j]) := by rw [ht]; simp [hj]
    rw [List.getElem?_take] at h1
    split at h1
    · simpa using h1
    · cases h1

theorem clInts_call (a : Option Addr) (n c : Nat) (xs : List Int) (w : World) (hx : IsInts (· < w.heap.size) w a n c xs) (B : Nat) (hB : B ≤ w.heap.size) :
    Calls Tryz.prog 94 #[.slice a n c] w fun e w' => ∃ a' c', e = .returned (.slice a' n c') ∧ Below w.heap.size w w' ∧ IsInts (fun b => B ≤ b ∧ b < w'.heap.size) w' a' n c' xs := by
  have low : ∀ {w' : World} {a' : Option Addr} {c' : Nat}, IsInts (fun b => w.heap.size ≤ b ∧ b < w'.heap.size) w' a' n c' xs → IsInts (fun b => B ≤ b ∧ b < w'.heap.size) w' a' n c' xs := fun h => h.same fun b hb => ⟨⟨by omega, hb.2⟩, rfl⟩
  have hl := hx.len
  have hbig := hx.big
  cases hn : n with
  | zero =>
    subst hn
    have h0 : xs = [] := List.eq_nil_of_length_eq_zero hl.symm
    subst h0
    cases a with
    | none => exact (Tryz.slices_Clone_int_nil 0 c w).mono fun e w' ⟨he, hw⟩ => ⟨none, 0, he, by rw [hw]; exact Below.refl _ _, ⟨rfl, Nat.le_refl _, by omega, fun x h => by (cases h), .inl rfl⟩⟩
    | some a =>
      refine (Tryz.slices_Clone_int_zero a c w).mono fun e w' ⟨v, he, ho, _, hb⟩ => ?_
      obtain ⟨a', c', rfl, hi⟩ := ints_of_row (xs := []) ho (by omega) (fun x h => by (cases h))
      exact ⟨a', c', he, hb, low hi⟩
  | succ m =>
    rw [← hn]
    obtain ⟨b, o, rfl, hb, hc⟩ := hx.slot (show 0 < n by omega)
    refine (Tryz.slices_Clone_int b o n c xs w (by omega) (by omega) (fun j hj => by rw [hc j hj]; simp [List.getD_eq_getElem?_getD, hj])).mono fun e w' ⟨v, he, ho, _, hb'⟩ => ?_
    rw [List.take_of_length_le (by omega)] at ho
    obtain ⟨a', c', rfl, hi⟩ := ints_of_row ho hbig hx.rng
    exact ⟨a', c', he, hb', low hi⟩

abbrev setTen (w : World) (B : Nat) (c : MC) : World := (((((((((w.setCell ⟨B, 0, none⟩ (.int .i64 c.st.e)).setCell ⟨B, 1, none⟩ (.slice c.st.a c.st.n c.st.c)).setCell ⟨B, 2, none⟩ (.int .i64 c.m)).setCell ⟨B, 3, none⟩ (.slice c.a c.n c.c)).setCell ⟨B, 4, none⟩ (.int .i64 c.b.k)).setCell ⟨B, 5, none⟩ (.int .i64 c.b.i)).setCell ⟨B, 6, none⟩ (.int .i64 c.b.s)).setCell ⟨B, 7, none⟩ (.string c.b.t)).setCell ⟨B, 8, none⟩ (.slice c.b.la c.b.ll c.b.lc)).setCell ⟨B, 9, none⟩ (.slice c.b.fa c.b.fl c.b.fc)
theorem setTen_heap {w : World} {B : Nat} {c : MC} {t : TypeId} {x0 x1 x2 x3 x4 x5 x6 x7 x8 x9 : Value} {fr : Nat × Nat} (h : w.heap[B]? = some (.cells #[x0, x1, x2, x3, x4, x5, x6, x7, x8, x9] t fr)) : (setTen w B c).heap[B]? = some (.cells #[.int .i64 c.st.e, .slice c.st.a c.st.n c.st.c, .int .i64 c.m, .slice c.a c.n c.c, .int .i64 c.b.k, .int .i64 c.b.i, .int .i64 c.b.s, .string c.b.t, .slice c.b.la c.b.ll c.b.lc, .slice c.b.fa c.b.fl c.b.fc] t fr) := by
  have e := heapSet (o := 9) (.slice c.b.fa c.b.fl c.b.fc) (heapSet (o := 8) (.slice c.b.la c.b.ll c.b.lc) (heapSet (o := 7) (.string c.b.t) (heapSet (o := 6) (.int .i64 c.b.s) (heapSet (o := 5) (.int .i64 c.b.i) (heapSet (o := 4) (.int .i64 c.b.k) (heapSet (o := 3) (.slice c.a c.n c.c) (heapSet (o := 2) (.int .i64 c.m) (heapSet (o := 1) (.slice c.st.a c.st.n c.st.c) (heapSet (o := 0) (.int .i64 c.st.e) (h))))))))))
  simp only [List.setIfInBounds_toArray, List.set_cons_zero, List.set_cons_succ] at e
  exact e
theorem setTen_other {c : MC} (w : World) (B b : Nat) (hb : b ≠ B) : (setTen w B c).heap[b]? = w.heap[b]? := by
  unfold setTen
  rw [Below.heap_setCell _ _ _ _ hb, Below.heap_setCell _ _ _ _ hb, Below.heap_setCell _ _ _ _ hb, Below.heap_setCell _ _ _ _ hb, Below.heap_setCell _ _ _ _ hb, Below.heap_setCell _ _ _ _ hb, Below.heap_setCell _ _ _ _ hb, Below.heap_setCell _ _ _ _ hb, Below.heap_setCell _ _ _ _ hb, Below.heap_setCell _ _ _ _ hb]
theorem setTen_size {c : MC} (w : World) (B : Nat) : (setTen w B c).heap.size = w.heap.size := by simp [setTen, World.setCell]
theorem setTen_below {c : MC} (w : World) (B N : Nat) (hN : N ≤ B) : Below N w (setTen w B c) :=
  ((((((((((Below.refl _ _).setCell (p := ⟨B, 0, none⟩) (by dsimp only; omega) _).setCell (p := ⟨B, 1, none⟩) (by dsimp only; omega) _).setCell (p := ⟨B, 2, none⟩) (by dsimp only; omega) _).setCell (p := ⟨B, 3, none⟩) (by dsimp only; omega) _).setCell (p := ⟨B, 4, none⟩) (by dsimp only; omega) _).setCell (p := ⟨B, 5, none⟩) (by dsimp only; omega) _).setCell (p := ⟨B, 6, none⟩) (by dsimp only; omega) _).setCell (p := ⟨B, 7, none⟩) (by dsimp only; omega) _).setCell (p := ⟨B, 8, none⟩) (by dsimp only; omega) _).setCell (p := ⟨B, 9, none⟩) (by dsimp only; omega) _

def StPost (w : World) (d : St) (e : Ending) (w' : World) : Prop := ∃ c' : SC, e = .returned c'.v ∧ Below w.heap.size w w' ∧ IsSt (fun b => w.heap.size ≤ b ∧ b < w'.heap.size) w' c' d
def MsgPost (w : World) (d : Msg) (e : Ending) (w' : World) : Prop := ∃ c' : MC, e = .returned c'.v ∧ Below w.heap.size w w' ∧ IsMsg (fun b => w.heap.size ≤ b ∧ b < w'.heap.size) w' c' d

set_option maxRecDepth 100000 in
set_option maxHeartbeats 4000000 in
theorem copyStamp_call (c : SC) (d : St) (w : World) (hd : IsSt (· < w.heap.size) w c d) : Calls Tryz.prog 50 #[c.v] w (StPost w d) := by
  have HWB : Hid (Below w.heap.size w ((w.alloc (.cells #[.int .i64 c.e, .slice c.a c.n c.c] 39)).alloc (.cells #[.int .i64 0, .slice none 0 0] 39))) := hid (((Below.refl _ w).alloc (Nat.le_refl _) _).alloc (by simp) _)
  have HV : Hid (∀ w', Below ((w.alloc (.cells #[.int .i64 c.e, .slice c.a c.n c.c] 39)).alloc (.cells #[.int .i64 0, .slice none 0 0] 39)).heap.size ((w.alloc (.cells #[.int .i64 c.e, .slice c.a c.n c.c] 39)).alloc (.cells #[.int .i64 0, .slice none 0 0] 39)) w' → Calls Tryz.prog 94 #[.slice c.a c.n c.c] w' fun e w2 => ∃ a' c', e = .returned (.slice a' c.n c') ∧ Below w'.heap.size w' w2 ∧ IsInts (fun b => ((w.alloc (.cells #[.int .i64 c.e, .slice c.a c.n c.c] 39)).alloc (.cells #[.int .i64 0, .slice none 0 0] 39)).heap.size ≤ b ∧ b < w2.heap.size) w2 a' c.n c' d.ps) := hid fun w' h => by
    have hb := HWB.out.trans (h.mono HWB.out.size)
    exact clInts_call _ _ _ _ w' (hd.ps.same fun b q => ⟨Nat.lt_of_lt_of_le q hb.size, hb.block b q⟩) _ h.size
  have HC : Hid (∀ w', Below ((w.alloc (.cells #[.int .i64 c.e, .slice c.a c.n c.c] 39)).alloc (.cells #[.int .i64 0, .slice none 0 0] 39)).heap.size ((w.alloc (.cells #[.int .i64 c.e, .slice c.a c.n c.c] 39)).alloc (.cells #[.int .i64 0, .slice none 0 0] 39)) w' → w'.cell? ⟨w.heap.size, 0, none⟩ = some (.int .i64 c.e) ∧ w'.cell? ⟨w.heap.size, 1, none⟩ = some (.slice c.a c.n c.c)) := hid fun w' h => by
    have h1 : w'.heap[w.heap.size]? = some ((.cells #[.int .i64 c.e, .slice c.a c.n c.c] 39 (0, 0))) := heapExt h (heapAlloc _ (heap_alloc_new w _))
    exact ⟨cellOf h1 0, cellOf h1 1⟩
  have HE := hid hd.e
  have HRE := hid hd.re
  clear hd
  go_enter Tryz.func50, Tryz.ntmps50
  go_upto_region 1 with (fail)
  refine wp_region_split 6 (fun w' => Below ((w.alloc (.cells #[.int .i64 c.e, .slice c.a c.n c.c] 39)).alloc (.cells #[.int .i64 0, .slice none 0 0] 39)).heap.size ((w.alloc (.cells #[.int .i64 c.e, .slice c.a c.n c.c] 39)).alloc (.cells #[.int .i64 0, .slice none 0 0] 39)) w') (by kernel_rfl) (by kernel_rfl) (by kernel_rfl) (by decide) ((Below.refl _ _).drew) (fun hS => ?_)
  simp only [List.take_succ_cons, List.take_zero, List.drop_succ_cons, List.drop_zero]
  refine wpAnyH_take (i := 0) (oi := _) (v := ?_) rfl (by kernel_rfl) (by kernel_rfl) (by kernel_rfl) (fun _ _ _ h => h) (Or.inl ⟨by rfl, ?_⟩) hS ?_
  rotate_left
  · intro w' hw'
    have hcells := HC.out w' hw'
    go_simp
    (try with_reducible rfl)
  simp only [Act.put, List.setIfInBounds_toArray, List.set_cons_zero, List.set_cons_succ]
  refine wpAnyH_take (i := 1) (oi := _) (v := ?_) rfl (by kernel_rfl) (by kernel_rfl) (by kernel_rfl) (fun _ _ _ h => h) (Or.inl ⟨by rfl, ?_⟩) hS ?_
  rotate_left
  · intro w' hw'
    have hcells := HC.out w' hw'
    go_simp
    (try with_reducible rfl)
  simp only [Act.put, List.setIfInBounds_toArray, List.set_cons_zero, List.set_cons_succ]
  refine wpAnyH_take (i := 2) (oi := _) (v := ?_) rfl (by kernel_rfl) (by kernel_rfl) (by kernel_rfl) (fun _ _ _ h => h) (Or.inl ⟨by rfl, ?_⟩) hS ?_
  rotate_left
  · intro w' hw'
    have hcells := HC.out w' hw'
    go_simp
    (try with_reducible rfl)
  simp only [Act.put, List.setIfInBounds_toArray, List.set_cons_zero, List.set_cons_succ]
  refine wpAnyH_take (i := 3) (oi := _) (v := ?_) rfl (by kernel_rfl) (by kernel_rfl) (by kernel_rfl) (fun _ _ _ h => h) (Or.inl ⟨by rfl, ?_⟩) hS ?_
  rotate_left
  · intro w' hw'
    have hcells := HC.out w' hw'
    go_simp
    (try with_reducible rfl)
  simp only [Act.put, List.setIfInBounds_toArray, List.set_cons_zero, List.set_cons_succ]
  refine wpAnyH_ready (rs := [4]) (by kernel_rfl) (by simp) ?_
  refine AllReadyH.cons (o := _) rfl (fun K hK => ?_) AllReadyH.nil
  go_simp; go_at_call 94; refine (HV.out _ hS).mono ?_
  rintro e w1 ⟨a', c', rfl, hb1, hi⟩
  refine hK.out _ _ (hS.trans (hb1.mono hS.size)) (fun hS => ?_)
  clear hK K
  (try simp only [Act.put, List.setIfInBounds_toArray, List.set_cons_zero, List.set_cons_succ])
  refine wpAnyH_take (i := 5) (oi := _) (v := ?_) rfl (by kernel_rfl) (by kernel_rfl) (by kernel_rfl) (fun _ _ _ h => h) (Or.inl ⟨by rfl, ?_⟩) hS ?_
  rotate_left
  · intro w' hw'
    have hcells := HC.out w' hw'
    go_simp
    (try with_reducible rfl)
  simp only [Act.put, List.setIfInBounds_toArray, List.set_cons_zero, List.set_cons_succ]
  refine wpAnyH_done (by kernel_rfl) ?_ _
  (try dsimp only)
  have hB := heapExt hS (heapNewAt (w.alloc (.cells #[.int .i64 c.e, .slice c.a c.n c.c] 39)) (.cells #[.int .i64 0, .slice none 0 0] 39) (w.heap.size + 1) (by simp))
  have z0 := cellOf hB 0
  have z1 := cellOf hB 1
  have y0 := freeOf hB 0
  have y1 := freeOf hB 1
  (try dsimp only at z0 z1)
  have HB := hid hB
  have HI := hid hi
  have HS := hid hS
  clear hB hi hS HV HC
  go_wp2
  have h1 := heapSet (o := 1) (Value.slice a' c.n c') (heapSet (o := 0) (Value.int .i64 c.e) HB.out)
  refine bodyPost_ret (v := .agg #[.int .i64 c.e, .slice a' c.n c']) (by simp [results, Tryz.results50, go_sem, cellOf h1]) rfl ⟨⟨c.e, a', c.n, c'⟩, rfl, ?_, ⟨HE.out, HRE.out, ?_⟩⟩
  · exact ((HWB.out.trans (HS.out.mono HWB.out.size)).setCell (p := ⟨w.heap.size + 1, 0, none⟩) (by dsimp only; omega) _).setCell (p := ⟨w.heap.size + 1, 1, none⟩) (by dsimp only; omega) _
  · refine HI.out.same fun b hb => ⟨⟨?_, by simpa [World.setCell] using hb.2⟩, (Below.heap_setCell _ _ _ _ ?_).trans (Below.heap_setCell _ _ _ _ ?_)⟩ <;> (have := hb.1; simp at this ⊢; omega)

set_option maxRecDepth 100000 in
set_option maxHeartbeats 8000000 in
theorem msgClone_call (c : MC) (d : Msg) (w : World) (hd : IsMsg (· < w.heap.size) w c d) : Calls Tryz.prog 93 #[c.v] w (MsgPost w d) := by
  have HWB : Hid (Below w.heap.size w ((w.alloc (.cells #[.int .i64 c.st.e, .slice c.st.a c.st.n c.st.c, .int .i64 c.m, .slice c.a c.n c.c, .int .i64 c.b.k, .int .i64 c.b.i, .int .i64 c.b.s, .string c.b.t, .slice c.b.la c.b.ll c.b.lc, .slice c.b.fa c.b.fl c.b.fc] 41)).alloc (.cells #[.int .i64 0, .slice none 0 0, .int .i64 0, .slice none 0 0, .int .i64 0, .int .i64 0, .int .i64 0, .string ByteArray.empty, .slice none 0 0, .slice none 0 0] 41))) := hid (((Below.refl _ w).alloc (Nat.le_refl _) _).alloc (by simp) _)
  have later : ∀ w', Below ((w.alloc (.cells #[.int .i64 c.st.e, .slice c.st.a c.st.n c.st.c, .int .i64 c.m, .slice c.a c.n c.c, .int .i64 c.b.k, .int .i64 c.b.i, .int .i64 c.b.s, .string c.b.t, .slice c.b.la c.b.ll c.b.lc, .slice c.b.fa c.b.fl c.b.fc] 41)).alloc (.cells #[.int .i64 0, .slice none 0 0, .int .i64 0, .slice none 0 0, .int .i64 0, .int .i64 0, .int .i64 0, .string ByteArray.empty, .slice none 0 0, .slice none 0 0] 41)).heap.size ((w.alloc (.cells #[.int .i64 c.st.e, .slice c.st.a c.st.n c.st.c, .int .i64 c.m, .slice c.a c.n c.c, .int .i64 c.b.k, .int .i64 c.b.i, .int .i64 c.b.s, .string c.b.t, .slice c.b.la c.b.ll c.b.lc, .slice c.b.fa c.b.fl c.b.fc] 41)).alloc (.cells #[.int .i64 0, .slice none 0 0, .int .i64 0, .slice none 0 0, .int .i64 0, .int .i64 0, .int .i64 0, .string ByteArray.empty, .slice none 0 0, .slice none 0 0] 41)) w' → IsMsg (· < w'.heap.size) w' c d ∧ ((w.alloc (.cells #[.int .i64 c.st.e, .slice c.st.a c.st.n c.st.c, .int .i64 c.m, .slice c.a c.n c.c, .int .i64 c.b.k, .int .i64 c.b.i, .int .i64 c.b.s, .string c.b.t, .slice c.b.la c.b.ll c.b.lc, .slice c.b.fa c.b.fl c.b.fc] 41)).alloc (.cells #[.int .i64 0, .slice none 0 0, .int .i64 0, .slice none 0 0, .int .i64 0, .int .i64 0, .int .i64 0, .string ByteArray.empty, .slice none 0 0, .slice none 0 0] 41)).heap.size ≤ w'.heap.size := fun w' h => by
    have hb := HWB.out.trans (h.mono HWB.out.size)
    exact ⟨hd.same fun b q => ⟨Nat.lt_of_lt_of_le q hb.size, hb.block b q⟩, h.size⟩
  have HV : Hid (∀ w', Below ((w.alloc (.cells #[.int .i64 c.st.e, .slice c.st.a c.st.n c.st.c, .int .i64 c.m, .slice c.a c.n c.c, .int .i64 c.b.k, .int .i64 c.b.i, .int .i64 c.b.s, .string c.b.t, .slice c.b.la c.b.ll c.b.lc, .slice c.b.fa c.b.fl c.b.fc] 41)).alloc (.cells #[.int .i64 0, .slice none 0 0, .int .i64 0, .slice none 0 0, .int .i64 0, .int .i64 0, .int .i64 0, .string ByteArray.empty, .slice none 0 0, .slice none 0 0] 41)).heap.size ((w.alloc (.cells #[.int .i64 c.st.e, .slice c.st.a c.st.n c.st.c, .int .i64 c.m, .slice c.a c.n c.c, .int .i64 c.b.k, .int .i64 c.b.i, .int .i64 c.b.s, .string c.b.t, .slice c.b.la c.b.ll c.b.lc, .slice c.b.fa c.b.fl c.b.fc] 41)).alloc (.cells #[.int .i64 0, .slice none 0 0, .int .i64 0, .slice none 0 0, .int .i64 0, .int .i64 0, .int .i64 0, .string ByteArray.empty, .slice none 0 0, .slice none 0 0] 41)) w' → Calls Tryz.prog 50 #[.agg #[.int .i64 c.st.e, .slice c.st.a c.st.n c.st.c]] w' fun e w2 => ∃ c' : SC, e = .returned c'.v ∧ Below w'.heap.size w' w2 ∧ IsSt (fun b => ((w.alloc (.cells #[.int .i64 c.st.e, .slice c.st.a c.st.n c.st.c, .int .i64 c.m, .slice c.a c.n c.c, .int .i64 c.b.k, .int .i64 c.b.i, .int .i64 c.b.s, .string c.b.t, .slice c.b.la c.b.ll c.b.lc, .slice c.b.fa c.b.fl c.b.fc] 41)).alloc (.cells #[.int .i64 0, .slice none 0 0, .int .i64 0, .slice none 0 0, .int .i64 0, .int .i64 0, .int .i64 0, .string ByteArray.empty, .slice none 0 0, .slice none 0 0] 41)).heap.size ≤ b ∧ b < w2.heap.size) w2 c' d.st) := hid fun w' h =>
    (copyStamp_call c.st d.st w' (later w' h).1.st).mono fun e w2 ⟨c', he, hb, hi⟩ => ⟨c', he, hb, hi.same fun b q => ⟨⟨Nat.le_trans h.size q.1, q.2⟩, rfl⟩⟩
  have HV2 : Hid (∀ w', Below ((w.alloc (.cells #[.int .i64 c.st.e, .slice c.st.a c.st.n c.st.c, .int .i64 c.m, .slice c.a c.n c.c, .int .i64 c.b.k, .int .i64 c.b.i, .int .i64 c.b.s, .string c.b.t, .slice c.b.la c.b.ll c.b.lc, .slice c.b.fa c.b.fl c.b.fc] 41)).alloc (.cells #[.int .i64 0, .slice none 0 0, .int .i64 0, .slice none 0 0, .int .i64 0, .int .i64 0, .int .i64 0, .string ByteArray.empty, .slice none 0 0, .slice none 0 0] 41)).heap.size ((w.alloc (.cells #[.int .i64 c.st.e, .slice c.st.a c.st.n c.st.c, .int .i64 c.m, .slice c.a c.n c.c, .int .i64 c.b.k, .int .i64 c.b.i, .int .i64 c.b.s, .string c.b.t, .slice c.b.la c.b.ll c.b.lc, .slice c.b.fa c.b.fl c.b.fc] 41)).alloc (.cells #[.int .i64 0, .slice none 0 0, .int .i64 0, .slice none 0 0, .int .i64 0, .int .i64 0, .int .i64 0, .string ByteArray.empty, .slice none 0 0, .slice none 0 0] 41)) w' → Calls Tryz.prog 94 #[.slice c.a c.n c.c] w' fun e w2 => ∃ a' c', e = .returned (.slice a' c.n c') ∧ Below w'.heap.size w' w2 ∧ IsInts (fun b => ((w.alloc (.cells #[.int .i64 c.st.e, .slice c.st.a c.st.n c.st.c, .int .i64 c.m, .slice c.a c.n c.c, .int .i64 c.b.k, .int .i64 c.b.i, .int .i64 c.b.s, .string c.b.t, .slice c.b.la c.b.ll c.b.lc, .slice c.b.fa c.b.fl c.b.fc] 41)).alloc (.cells #[.int .i64 0, .slice none 0 0, .int .i64 0, .slice none 0 0, .int .i64 0, .int .i64 0, .int .i64 0, .string ByteArray.empty, .slice none 0 0, .slice none 0 0] 41)).heap.size ≤ b ∧ b < w2.heap.size) w2 a' c.n c' d.es) := hid fun w' h =>
    clInts_call _ _ _ _ w' (later w' h).1.es _ h.size
  have HV3 : Hid (∀ w', Below ((w.alloc (.cells #[.int .i64 c.st.e, .slice c.st.a c.st.n c.st.c, .int .i64 c.m, .slice c.a c.n c.c, .int .i64 c.b.k, .int .i64 c.b.i, .int .i64 c.b.s, .string c.b.t, .slice c.b.la c.b.ll c.b.lc, .slice c.b.fa c.b.fl c.b.fc] 41)).alloc (.cells #[.int .i64 0, .slice none 0 0, .int .i64 0, .slice none 0 0, .int .i64 0, .int .i64 0, .int .i64 0, .string ByteArray.empty, .slice none 0 0, .slice none 0 0] 41)).heap.size ((w.alloc (.cells #[.int .i64 c.st.e, .slice c.st.a c.st.n c.st.c, .int .i64 c.m, .slice c.a c.n c.c, .int .i64 c.b.k, .int .i64 c.b.i, .int .i64 c.b.s, .string c.b.t, .slice c.b.la c.b.ll c.b.lc, .slice c.b.fa c.b.fl c.b.fc] 41)).alloc (.cells #[.int .i64 0, .slice none 0 0, .int .i64 0, .slice none 0 0, .int .i64 0, .int .i64 0, .int .i64 0, .string ByteArray.empty, .slice none 0 0, .slice none 0 0] 41)) w' → Calls Tryz.prog 43 #[.agg #[.int .i64 c.b.k, .int .i64 c.b.i, .int .i64 c.b.s, .string c.b.t, .slice c.b.la c.b.ll c.b.lc, .slice c.b.fa c.b.fl c.b.fc]] w' fun e w2 => ∃ c' : VC, e = .returned c'.v ∧ Below w'.heap.size w' w2 ∧ IsVal (fun b => ((w.alloc (.cells #[.int .i64 c.st.e, .slice c.st.a c.st.n c.st.c, .int .i64 c.m, .slice c.a c.n c.c, .int .i64 c.b.k, .int .i64 c.b.i, .int .i64 c.b.s, .string c.b.t, .slice c.b.la c.b.ll c.b.lc, .slice c.b.fa c.b.fl c.b.fc] 41)).alloc (.cells #[.int .i64 0, .slice none 0 0, .int .i64 0, .slice none 0 0, .int .i64 0, .int .i64 0, .int .i64 0, .string ByteArray.empty, .slice none 0 0, .slice none 0 0] 41)).heap.size ≤ b ∧ b < w2.heap.size) w2 c' d.b) := hid fun w' h =>
    (clone_call (later w' h).1.b).mono fun e w2 ⟨c', he, hb, hi⟩ => ⟨c', he, hb, hi.same fun b q => ⟨⟨Nat.le_trans h.size q.1, q.2⟩, rfl⟩⟩
  have HC : Hid (∀ w', Below ((w.alloc (.cells #[.int .i64 c.st.e, .slice c.st.a c.st.n c.st.c, .int .i64 c.m, .slice c.a c.n c.c, .int .i64 c.b.k, .int .i64 c.b.i, .int .i64 c.b.s, .string c.b.t, .slice c.b.la c.b.ll c.b.lc, .slice c.b.fa c.b.fl c.b.fc] 41)).alloc (.cells #[.int .i64 0, .slice none 0 0, .int .i64 0, .slice none 0 0, .int .i64 0, .int .i64 0, .int .i64 0, .string ByteArray.empty, .slice none 0 0, .slice none 0 0] 41)).heap.size ((w.alloc (.cells #[.int .i64 c.st.e, .slice c.st.a c.st.n c.st.c, .int .i64 c.m, .slice c.a c.n c.c, .int .i64 c.b.k, .int .i64 c.b.i, .int .i64 c.b.s, .string c.b.t, .slice c.b.la c.b.ll c.b.lc, .slice c.b.fa c.b.fl c.b.fc] 41)).alloc (.cells #[.int .i64 0, .slice none 0 0, .int .i64 0, .slice none 0 0, .int .i64 0, .int .i64 0, .int .i64 0, .string ByteArray.empty, .slice none 0 0, .slice none 0 0] 41)) w' → w'.cell? ⟨w.heap.size, 0, none⟩ = some (.int .i64 c.st.e) ∧ w'.cell? ⟨w.heap.size, 1, none⟩ = some (.slice c.st.a c.st.n c.st.c) ∧ w'.cell? ⟨w.heap.size, 2, none⟩ = some (.int .i64 c.m) ∧ w'.cell? ⟨w.heap.size, 3, none⟩ = some (.slice c.a c.n c.c) ∧ w'.cell? ⟨w.heap.size, 4, none⟩ = some (.int .i64 c.b.k) ∧ w'.cell? ⟨w.heap.size, 5, none⟩ = some (.int .i64 c.b.i) ∧ w'.cell? ⟨w.heap.size, 6, none⟩ = some (.int .i64 c.b.s) ∧ w'.cell? ⟨w.heap.size, 7, none⟩ = some (.string c.b.t) ∧ w'.cell? ⟨w.heap.size, 8, none⟩ = some (.slice c.b.la c.b.ll c.b.lc) ∧ w'.cell? ⟨w.heap.size, 9, none⟩ = some (.slice c.b.fa c.b.fl c.b.fc)) := hid fun w' h => by
    have h1 : w'.heap[w.heap.size]? = some (mObj c) := heapExt h (heapAlloc _ (heap_alloc_new w _))
    exact ⟨cellOf h1 0, cellOf h1 1, cellOf h1 2, cellOf h1 3, cellOf h1 4, cellOf h1 5, cellOf h1 6, cellOf h1 7, cellOf h1 8, cellOf h1 9⟩
  have HM := hid hd.m
  have HNN := hid hd.st.ps.len.symm
  have HRM := hid hd.rm
  clear hd later
  go_enter Tryz.func93, Tryz.ntmps93
  go_upto_region 1 with (fail)
  refine wp_region_split 12 (fun w' => Below ((w.alloc (.cells #[.int .i64 c.st.e, .slice c.st.a c.st.n c.st.c, .int .i64 c.m, .slice c.a c.n c.c, .int .i64 c.b.k, .int .i64 c.b.i, .int .i64 c.b.s, .string c.b.t, .slice c.b.la c.b.ll c.b.lc, .slice c.b.fa c.b.fl c.b.fc] 41)).alloc (.cells #[.int .i64 0, .slice none 0 0, .int .i64 0, .slice none 0 0, .int .i64 0, .int .i64 0, .int .i64 0, .string ByteArray.empty, .slice none 0 0, .slice none 0 0] 41)).heap.size ((w.alloc (.cells #[.int .i64 c.st.e, .slice c.st.a c.st.n c.st.c, .int .i64 c.m, .slice c.a c.n c.c, .int .i64 c.b.k, .int .i64 c.b.i, .int .i64 c.b.s, .string c.b.t, .slice c.b.la c.b.ll c.b.lc, .slice c.b.fa c.b.fl c.b.fc] 41)).alloc (.cells #[.int .i64 0, .slice none 0 0, .int .i64 0, .slice none 0 0, .int .i64 0, .int .i64 0, .int .i64 0, .string ByteArray.empty, .slice none 0 0, .slice none 0 0] 41)) w') (by kernel_rfl) (by kernel_rfl) (by kernel_rfl) (by decide) ((Below.refl _ _).drew) (fun hS => ?_)
  simp only [List.take_succ_cons, List.take_zero, List.drop_succ_cons, List.drop_zero]
  refine wpAnyH_take (i := 0) (oi := _) (v := ?_) rfl (by kernel_rfl) (by kernel_rfl) (by kernel_rfl) (fun _ _ _ h => h) (Or.inl ⟨by rfl, ?_⟩) hS ?_
  rotate_left
  · intro w' hw'
    have hcells := HC.out w' hw'
    go_simp
    (try with_reducible rfl)
  simp only [Act.put, List.setIfInBounds_toArray, List.set_cons_zero, List.set_cons_succ]
  refine wpAnyH_take (i := 1) (oi := _) (v := ?_) rfl (by kernel_rfl) (by kernel_rfl) (by kernel_rfl) (fun _ _ _ h => h) (Or.inl ⟨by rfl, ?_⟩) hS ?_
  rotate_left
  · intro w' hw'
    have hcells := HC.out w' hw'
    go_simp
    (try with_reducible rfl)
  simp only [Act.put, List.setIfInBounds_toArray, List.set_cons_zero, List.set_cons_succ]
  refine wpAnyH_take (i := 3) (oi := _) (v := ?_) rfl (by kernel_rfl) (by kernel_rfl) (by kernel_rfl) (fun _ _ _ h => h) (Or.inl ⟨by rfl, ?_⟩) hS ?_
  rotate_left
  · intro w' hw'
    have hcells := HC.out w' hw'
    go_simp
    (try with_reducible rfl)
  simp only [Act.put, List.setIfInBounds_toArray, List.set_cons_zero, List.set_cons_succ]
  refine wpAnyH_take (i := 4) (oi := _) (v := ?_) rfl (by kernel_rfl) (by kernel_rfl) (by kernel_rfl) (fun _ _ _ h => h) (Or.inl ⟨by rfl, ?_⟩) hS ?_
  rotate_left
  · intro w' hw'
    have hcells := HC.out w' hw'
    go_simp
    (try with_reducible rfl)
  simp only [Act.put, List.setIfInBounds_toArray, List.set_cons_zero, List.set_cons_succ]
  refine wpAnyH_take (i := 5) (oi := _) (v := ?_) rfl (by kernel_rfl) (by kernel_rfl) (by kernel_rfl) (fun _ _ _ h => h) (Or.inl ⟨by rfl, ?_⟩) hS ?_
  rotate_left
  · intro w' hw'
    have hcells := HC.out w' hw'
    go_simp
    (try with_reducible rfl)
  simp only [Act.put, List.setIfInBounds_toArray, List.set_cons_zero, List.set_cons_succ]
  refine wpAnyH_take (i := 6) (oi := _) (v := ?_) rfl (by kernel_rfl) (by kernel_rfl) (by kernel_rfl) (fun _ _ _ h => h) (Or.inl ⟨by rfl, ?_⟩) hS ?_
  rotate_left
  · intro w' hw'
    have hcells := HC.out w' hw'
    go_simp
    (try with_reducible rfl)
  simp only [Act.put, List.setIfInBounds_toArray, List.set_cons_zero, List.set_cons_succ]
  refine wpAnyH_take (i := 8) (oi := _) (v := ?_) rfl (by kernel_rfl) (by kernel_rfl) (by kernel_rfl) (fun _ _ _ h => h) (Or.inl ⟨by rfl, ?_⟩) hS ?_
  rotate_left
  · intro w' hw'
    have hcells := HC.out w' hw'
    go_simp
    (try with_reducible rfl)
  simp only [Act.put, List.setIfInBounds_toArray, List.set_cons_zero, List.set_cons_succ]
  refine wpAnyH_take (i := 9) (oi := _) (v := ?_) rfl (by kernel_rfl) (by kernel_rfl) (by kernel_rfl) (fun _ _ _ h => h) (Or.inl ⟨by rfl, ?_⟩) hS ?_
  rotate_left
  · intro w' hw'
    have hcells := HC.out w' hw'
    go_simp
    (try with_reducible rfl)
  simp only [Act.put, List.setIfInBounds_toArray, List.set_cons_zero, List.set_cons_succ]
  refine wpAnyH_ready (rs := [2]) (by kernel_rfl) (by simp) ?_
  refine AllReadyH.cons (o := _) rfl (fun K hK => ?_) AllReadyH.nil
  go_simp; go_at_call 50; refine (HV.out _ hS).mono ?_
  rintro e w1 ⟨⟨se, sa, sn, sc⟩, rfl, hb1, hi1⟩
  obtain rfl : se = d.st.e := hi1.e
  obtain rfl : sn = c.st.n := hi1.ps.len.trans HNN.out
  have hsz0 := hS.size
  refine hK.out _ _ (hS.trans (hb1.mono hS.size)) (fun hS => ?_)
  clear hK K
  (try simp only [Act.put, List.setIfInBounds_toArray, List.set_cons_zero, List.set_cons_succ])
  refine wpAnyH_ready (rs := [7]) (by kernel_rfl) (by simp) ?_
  refine AllReadyH.cons (o := _) rfl (fun K hK => ?_) AllReadyH.nil
  go_simp; go_at_call 94; refine (HV2.out _ hS).mono ?_
  rintro e w2 ⟨ea, ec, rfl, hb1, hi2⟩
  have hi1' := hi1.same (S' := fun b => ((w.alloc (.cells #[.int .i64 c.st.e, .slice c.st.a c.st.n c.st.c, .int .i64 c.m, .slice c.a c.n c.c, .int .i64 c.b.k, .int .i64 c.b.i, .int .i64 c.b.s, .string c.b.t, .slice c.b.la c.b.ll c.b.lc, .slice c.b.fa c.b.fl c.b.fc] 41)).alloc (.cells #[.int .i64 0, .slice none 0 0, .int .i64 0, .slice none 0 0, .int .i64 0, .int .i64 0, .int .i64 0, .string ByteArray.empty, .slice none 0 0, .slice none 0 0] 41)).heap.size ≤ b ∧ b < w2.heap.size) (fun b hb => ⟨⟨hb.1, Nat.lt_of_lt_of_le hb.2 hb1.size⟩, hb1.block b hb.2⟩)
  refine hK.out _ _ (hS.trans (hb1.mono hS.size)) (fun hS => ?_)
  clear hK K
  (try simp only [Act.put, List.setIfInBounds_toArray, List.set_cons_zero, List.set_cons_succ])
  refine wpAnyH_ready (rs := [10]) (by kernel_rfl) (by simp) ?_
  refine AllReadyH.cons (o := _) rfl (fun K hK => ?_) AllReadyH.nil
  go_simp; go_at_call 43; refine (HV3.out _ hS).mono ?_
  rintro e w3 ⟨cb, rfl, hb1, hi3⟩
  have hi1'' := hi1'.same (S' := fun b => ((w.alloc (.cells #[.int .i64 c.st.e, .slice c.st.a c.st.n c.st.c, .int .i64 c.m, .slice c.a c.n c.c, .int .i64 c.b.k, .int .i64 c.b.i, .int .i64 c.b.s, .string c.b.t, .slice c.b.la c.b.ll c.b.lc, .slice c.b.fa c.b.fl c.b.fc] 41)).alloc (.cells #[.int .i64 0, .slice none 0 0, .int .i64 0, .slice none 0 0, .int .i64 0, .int .i64 0, .int .i64 0, .string ByteArray.empty, .slice none 0 0, .slice none 0 0] 41)).heap.size ≤ b ∧ b < w3.heap.size) (fun b hb => ⟨⟨hb.1, Nat.lt_of_lt_of_le hb.2 hb1.size⟩, hb1.block b hb.2⟩)
  have hi2' := hi2.same (S' := fun b => ((w.alloc (.cells #[.int .i64 c.st.e, .slice c.st.a c.st.n c.st.c, .int .i64 c.m, .slice c.a c.n c.c, .int .i64 c.b.k, .int .i64 c.b.i, .int .i64 c.b.s, .string c.b.t, .slice c.b.la c.b.ll c.b.lc, .slice c.b.fa c.b.fl c.b.fc] 41)).alloc (.cells #[.int .i64 0, .slice none 0 0, .int .i64 0, .slice none 0 0, .int .i64 0, .int .i64 0, .int .i64 0, .string ByteArray.empty, .slice none 0 0, .slice none 0 0] 41)).heap.size ≤ b ∧ b < w3.heap.size) (fun b hb => ⟨⟨hb.1, Nat.lt_of_lt_of_le hb.2 hb1.size⟩, hb1.block b hb.2⟩)
  refine hK.out _ _ (hS.trans (hb1.mono hS.size)) (fun hS => ?_)
  clear hK K
  (try simp only [Act.put, List.setIfInBounds_toArray, List.set_cons_zero, List.set_cons_succ])
  refine wpAnyH_take (i := 11) (oi := _) (v := ?_) rfl (by kernel_rfl) (by kernel_rfl) (by kernel_rfl) (fun _ _ _ h => h) (Or.inl ⟨by rfl, ?_⟩) hS ?_
  rotate_left
  · intro w' hw'
    have hcells := HC.out w' hw'
    go_simp
    (try with_reducible rfl)
  simp only [Act.put, List.setIfInBounds_toArray, List.set_cons_zero, List.set_cons_succ]
  refine wpAnyH_done (by kernel_rfl) ?_ _
  (try dsimp only)
  have hB := heapExt hS (heapNewAt (w.alloc (.cells #[.int .i64 c.st.e, .slice c.st.a c.st.n c.st.c, .int .i64 c.m, .slice c.a c.n c.c, .int .i64 c.b.k, .int .i64 c.b.i, .int .i64 c.b.s, .string c.b.t, .slice c.b.la c.b.ll c.b.lc, .slice c.b.fa c.b.fl c.b.fc] 41)) (.cells #[.int .i64 0, .slice none 0 0, .int .i64 0, .slice none 0 0, .int .i64 0, .int .i64 0, .int .i64 0, .string ByteArray.empty, .slice none 0 0, .slice none 0 0] 41) (w.heap.size + 1) (by simp))
  have z0 := cellOf hB 0
  have z1 := cellOf hB 1
  have z2 := cellOf hB 2
  have z3 := cellOf hB 3
  have z4 := cellOf hB 4
  have z5 := cellOf hB 5
  have z6 := cellOf hB 6
  have z7 := cellOf hB 7
  have z8 := cellOf hB 8
  have z9 := cellOf hB 9
  have y0 := freeOf hB 0
  have y1 := freeOf hB 1
  have y2 := freeOf hB 2
  have y3 := freeOf hB 3
  have y4 := freeOf hB 4
  have y5 := freeOf hB 5
  have y6 := freeOf hB 6
  have y7 := freeOf hB 7
  have y8 := freeOf hB 8
  have y9 := freeOf hB 9
  (try dsimp only at z0 z1 z2 z3 z4 z5 z6 z7 z8 z9)
  have HB := hid hB
  have HI1 := hid hi1''
  have HI2 := hid hi2'
  have HI3 := hid hi3
  have HS := hid hS
  clear hB hi1 hi1' hi1'' hi2 hi2' hi3 hS HV HV2 HV3 HC
  go_wp2
  have h1 := setTen_heap (c := ⟨⟨d.st.e, sa, c.st.n, sc⟩, c.m, ea, c.n, ec, cb⟩) HB.out
  have h2 := setTen_below (c := ⟨⟨d.st.e, sa, c.st.n, sc⟩, c.m, ea, c.n, ec, cb⟩) w3 (w.heap.size + 1) w.heap.size (by omega)
  have h3 := fun b hb => setTen_other (c := ⟨⟨d.st.e, sa, c.st.n, sc⟩, c.m, ea, c.n, ec, cb⟩) w3 (w.heap.size + 1) b hb
  have h4 := setTen_size (c := ⟨⟨d.st.e, sa, c.st.n, sc⟩, c.m, ea, c.n, ec, cb⟩) w3 (w.heap.size + 1)
  dsimp only [setTen] at h1 h2 h3 h4
  refine bodyPost_ret (v := MC.v ⟨⟨d.st.e, sa, c.st.n, sc⟩, c.m, ea, c.n, ec, cb⟩) (by simp [results, Tryz.results93, go_sem, cellOf h1]) rfl ⟨_, rfl, ?_, ?_⟩
  · exact (HWB.out.trans (HS.out.mono HWB.out.size)).trans h2
  · have key : ∀ b, ((w.alloc (.cells #[.int .i64 c.st.e, .slice c.st.a c.st.n c.st.c, .int .i64 c.m, .slice c.a c.n c.c, .int .i64 c.b.k, .int .i64 c.b.i, .int .i64 c.b.s, .string c.b.t, .slice c.b.la c.b.ll c.b.lc, .slice c.b.fa c.b.fl c.b.fc] 41)).alloc (.cells #[.int .i64 0, .slice none 0 0, .int .i64 0, .slice none 0 0, .int .i64 0, .int .i64 0, .int .i64 0, .string ByteArray.empty, .slice none 0 0, .slice none 0 0] 41)).heap.size ≤ b ∧ b < w3.heap.size → (w.heap.size ≤ b ∧ b < w3.heap.size) ∧ b ≠ w.heap.size + 1 := fun b hb => by (have := hb.1; simp at this; omega)
    exact IsMsg.same (w := w3) (fun b hb => ⟨by rw [h4]; exact (key b hb).1, h3 b (key b hb).2⟩) ⟨⟨rfl, HI1.out.re, HI1.out.ps⟩, HM.out, HRM.out, HI2.out, HI3.out⟩
end Go.Proofs.YtcejackabdmpkaaGreatDoor

/-
  message.With returns a copy in memory of its own, with a new body. Condition: what is copied can be read as data.
-/
namespace Go.Proofs.YtcejackabdmpkaaGreatDoor
open Go Go.RowKit Go.Shelf
set_option linter.unusedVariables false
set_option linter.unusedSimpArgs false

abbrev setSix (w : World) (B : Nat) (c : VC) : World := (((((w.setCell ⟨B, 4, none⟩ (.int .i64 c.k)).setCell ⟨B, 5, none⟩ (.int .i64 c.i)).setCell ⟨B, 6, none⟩ (.int .i64 c.s)).setCell ⟨B, 7, none⟩ (.string c.t)).setCell ⟨B, 8, none⟩ (.slice c.la c.ll c.lc)).setCell ⟨B, 9, none⟩ (.slice c.fa c.fl c.fc)
theorem setSix_other {c : VC} (w : World) (B b : Nat) (hb : b ≠ B) : (setSix w B c).heap[b]? = w.heap[b]? := by
  unfold setSix
  rw [Below.heap_setCell _ _ _ _ hb, Below.heap_setCell _ _ _ _ hb, Below.heap_setCell _ _ _ _ hb, Below.heap_setCell _ _ _ _ hb, Below.heap_setCell _ _ _ _ hb, Below.heap_setCell _ _ _ _ hb]
theorem setSix_size {c : VC} (w : World) (B : Nat) : (setSix w B c).heap.size = w.heap.size := by simp [setSix, World.setCell]
theorem setSix_below {c : VC} (w : World) (B N : Nat) (hN : N ≤ B) : Below N w (setSix w B c) :=
  ((((((Below.refl _ _).setCell (p := ⟨B, 4, none⟩) (by dsimp only; omega) _).setCell (p := ⟨B, 5, none⟩) (by dsimp only; omega) _).setCell (p := ⟨B, 6, none⟩) (by dsimp only; omega) _).setCell (p := ⟨B, 7, none⟩) (by dsimp only; omega) _).setCell (p := ⟨B, 8, none⟩) (by dsimp only; omega) _).setCell (p := ⟨B, 9, none⟩) (by dsimp only; omega) _
abbrev setTwo (w : World) (B : Nat) (c : SC) : World := (w.setCell ⟨B, 0, none⟩ (.int .i64 c.e)).setCell ⟨B, 1, none⟩ (.slice c.a c.n c.c)
theorem setTwo_other {c : SC} (w : World) (B b : Nat) (hb : b ≠ B) : (setTwo w B c).heap[b]? = w.heap[b]? := by
  unfold setTwo
  rw [Below.heap_setCell _ _ _ _ hb, Below.heap_setCell _ _ _ _ hb]
theorem setTwo_size {c : SC} (w : World) (B : Nat) : (setTwo w B c).heap.size = w.heap.size := by simp [setTwo, World.setCell]
theorem setTwo_below {c : SC} (w : World) (B N : Nat) (hN : N ≤ B) : Below N w (setTwo w B c) :=
  ((Below.refl _ _).setCell (p := ⟨B, 0, none⟩) (by dsimp only; omega) _).setCell (p := ⟨B, 1, none⟩) (by dsimp only; omega) _

set_option maxRecDepth 100000 in
set_option maxHeartbeats 8000000 in
theorem with_call (c : MC) (d : Msg) (cv : VC) (dv : Val) (w : World) (hd : IsMsg (· < w.heap.size) w c d) (hdv : IsVal (· < w.heap.size) w cv dv) : Calls Tryz.prog 48 #[c.v, cv.v] w (MsgPost w { d with b := dv }) := by
  have HWB : Hid (Below w.heap.size w (((w.alloc (.cells #[.int .i64 c.st.e, .slice c.st.a c.st.n c.st.c, .int .i64 c.m, .slice c.a c.n c.c, .int .i64 c.b.k, .int .i64 c.b.i, .int .i64 c.b.s, .string c.b.t, .slice c.b.la c.b.ll c.b.lc, .slice c.b.fa c.b.fl c.b.fc] 41)).alloc (.cells #[.int .i64 cv.k, .int .i64 cv.i, .int .i64 cv.s, .string cv.t, .slice cv.la cv.ll cv.lc, .slice cv.fa cv.fl cv.fc] 25)).alloc (.cells #[.int .i64 0, .slice none 0 0, .int .i64 0, .slice none 0 0, .int .i64 0, .int .i64 0, .int .i64 0, .string ByteArray.empty, .slice none 0 0, .slice none 0 0] 41))) := hid ((((Below.refl _ w).alloc (Nat.le_refl _) _).alloc (by simp) _).alloc (by simp; omega) _)
  obtain ⟨wb, hwb⟩ : ∃ wb, wb = (((w.alloc (.cells #[.int .i64 c.st.e, .slice c.st.a c.st.n c.st.c, .int .i64 c.m, .slice c.a c.n c.c, .int .i64 c.b.k, .int .i64 c.b.i, .int .i64 c.b.s, .string c.b.t, .slice c.b.la c.b.ll c.b.lc, .slice c.b.fa c.b.fl c.b.fc] 41)).alloc (.cells #[.int .i64 cv.k, .int .i64 cv.i, .int .i64 cv.s, .string cv.t, .slice cv.la cv.ll cv.lc, .slice cv.fa cv.fl cv.fc] 25)).alloc (.cells #[.int .i64 0, .slice none 0 0, .int .i64 0, .slice none 0 0, .int .i64 0, .int .i64 0, .int .i64 0, .string ByteArray.empty, .slice none 0 0, .slice none 0 0] 41)) := ⟨_, rfl⟩
  have hbwb : Below w.heap.size w wb := by rw [hwb]; exact HWB.out
  have hsw : wb.heap.size = w.heap.size + 3 := by rw [hwb]; simp
  have o0 : wb.heap[w.heap.size]? = some (.cells #[.int .i64 c.st.e, .slice c.st.a c.st.n c.st.c, .int .i64 c.m, .slice c.a c.n c.c, .int .i64 c.b.k, .int .i64 c.b.i, .int .i64 c.b.s, .string c.b.t, .slice c.b.la c.b.ll c.b.lc, .slice c.b.fa c.b.fl c.b.fc] 41 (0, 0)) := by rw [hwb]; exact heapAlloc _ (heapAlloc _ (heap_alloc_new w _))
  have o1 : wb.heap[w.heap.size + 1]? = some (.cells #[.int .i64 cv.k, .int .i64 cv.i, .int .i64 cv.s, .string cv.t, .slice cv.la cv.ll cv.lc, .slice cv.fa cv.fl cv.fc] 25 (0, 0)) := by rw [hwb]; exact heapAlloc _ (heapNewAt _ _ _ (by simp))
  have o2 : wb.heap[w.heap.size + 2]? = some (.cells #[.int .i64 0, .slice none 0 0, .int .i64 0, .slice none 0 0, .int .i64 0, .int .i64 0, .int .i64 0, .string ByteArray.empty, .slice none 0 0, .slice none 0 0] 41 (0, 0)) := by rw [hwb]; exact heapNewAt _ _ _ (by simp)
  -- the first call
  have hv1 : Calls Tryz.prog 93 #[.agg #[.int .i64 c.st.e, .slice c.st.a c.st.n c.st.c, .int .i64 c.m, .slice c.a c.n c.c, .int .i64 c.b.k, .int .i64 c.b.i, .int .i64 c.b.s, .string c.b.t, .slice c.b.la c.b.ll c.b.lc, .slice c.b.fa c.b.fl c.b.fc]] wb fun e w1 => ∃ c1 : MC, e = .returned c1.v ∧ Below wb.heap.size wb w1 ∧ IsMsg (fun b => wb.heap.size ≤ b ∧ b < w1.heap.size) w1 c1 d :=
    msgClone_call c d wb (hd.same fun b q => ⟨by omega, hbwb.block b q⟩)
  -- the world behind it, with the copy in the box
  have hm1 : ∀ (w1 : World) (c1 : MC), Below wb.heap.size wb w1 → IsMsg (fun b => wb.heap.size ≤ b ∧ b < w1.heap.size) w1 c1 d → (setTen w1 w.heap.size c1).heap[w.heap.size]? = some (.cells #[.int .i64 c1.st.e, .slice c1.st.a c1.st.n c1.st.c, .int .i64 c1.m, .slice c1.a c1.n c1.c, .int .i64 c1.b.k, .int .i64 c1.b.i, .int .i64 c1.b.s, .string c1.b.t, .slice c1.b.la c1.b.ll c1.b.lc, .slice c1.b.fa c1.b.fl c1.b.fc] 41 (0, 0)) ∧ (setTen w1 w.heap.size c1).heap[w.heap.size + 1]? = some (.cells #[.int .i64 cv.k, .int .i64 cv.i, .int .i64 cv.s, .string cv.t, .slice cv.la cv.ll cv.lc, .slice cv.fa cv.fl cv.fc] 25 (0, 0)) ∧ (setTen w1 w.heap.size c1).heap[w.heap.size + 2]? = some (.cells #[.int .i64 0, .slice none 0 0, .int .i64 0, .slice none 0 0, .int .i64 0, .int .i64 0, .int .i64 0, .string ByteArray.empty, .slice none 0 0, .slice none 0 0] 41 (0, 0)) ∧
      Below w.heap.size w (setTen w1 w.heap.size c1) ∧ IsMsg (fun b => wb.heap.size ≤ b ∧ b < w1.heap.size) (setTen w1 w.heap.size c1) c1 d ∧ (setTen w1 w.heap.size c1).heap.size = w1.heap.size ∧
      Calls Tryz.prog 43 #[.agg #[.int .i64 cv.k, .int .i64 cv.i, .int .i64 cv.s, .string cv.t, .slice cv.la cv.ll cv.lc, .slice cv.fa cv.fl cv.fc]] (setTen w1 w.heap.size c1) fun e w2 => ∃ c2, e = .returned (c2 : VC).v ∧ Below w1.heap.size (setTen w1 w.heap.size c1) w2 ∧ IsVal (fun b => w1.heap.size ≤ b ∧ b < w2.heap.size) w2 c2 dv := fun w1 c1 hb hi => by
    have hs := hb.size
    have hbw2 : Below w.heap.size w (setTen w1 w.heap.size c1) := (hbwb.trans (hb.mono (by omega))).trans (setTen_below w1 _ _ (Nat.le_refl _))
    obtain ⟨w2, hw2⟩ : ∃ w2, w2 = setTen w1 w.heap.size c1 := ⟨_, rfl⟩
    have hsz : w2.heap.size = w1.heap.size := by rw [hw2]; exact setTen_size w1 _
    have ho : ∀ b, b ≠ w.heap.size → w2.heap[b]? = w1.heap[b]? := fun b hb => by rw [hw2]; exact setTen_other (c := c1) w1 w.heap.size b hb
    have hh := setTen_heap (c := c1) (heapExt hb o0)
    rw [← hw2] at hbw2 hh ⊢
    refine ⟨hh, (ho _ (by omega)).trans (heapExt hb o1), (ho _ (by omega)).trans (heapExt hb o2), hbw2, hi.same (fun b q => ⟨q, ho b (by omega)⟩), hsz, ?_⟩
    refine (clone_call (hdv.same fun b q => ⟨by omega, hbw2.block b q⟩)).mono fun e w3 h => ?_
    obtain ⟨c2, he, hb3, hi3⟩ := h
    simp only [hsz] at hb3 hi3
    exact ⟨c2, he, hb3, hi3⟩
  have HM1 := hid hm1
  have HHWB := hid hwb
  have HO := hid (show wb.heap[w.heap.size]? = _ ∧ wb.heap[w.heap.size + 1]? = _ ∧ wb.heap[w.heap.size + 2]? = _ from ⟨o0, o1, o2⟩)
  have HBWB := hid hbwb
  have HSW := hid hsw
  rw [hwb] at hv1
  have HV1 := hid hv1
  clear hm1 hwb o0 o1 o2 hbwb hsw hv1 hd hdv
  go_enter Tryz.func48, Tryz.ntmps48
  go_wp2_with (first
    | (go_at_call 93; refine HV1.out.mono ?_; rintro e w1 ⟨c1, rfl, hb1, hi1⟩; rw [← HHWB.out] at hb1 hi1; obtain ⟨p0, p1, p2, p3, p4, p5, p6⟩ := HM1.out w1 c1 hb1 hi1; have g0 := heapExt hb1 HO.out.1
       have u0 := cellOf g0 0; have v0 := freeOf g0 0; have u1 := cellOf g0 1; have v1 := freeOf g0 1; have u2 := cellOf g0 2; have v2 := freeOf g0 2; have u3 := cellOf g0 3; have v3 := freeOf g0 3; have u4 := cellOf g0 4; have v4 := freeOf g0 4; have u5 := cellOf g0 5; have v5 := freeOf g0 5; have u6 := cellOf g0 6; have v6 := freeOf g0 6; have u7 := cellOf g0 7; have v7 := freeOf g0 7; have u8 := cellOf g0 8; have v8 := freeOf g0 8; have u9 := cellOf g0 9; have v9 := freeOf g0 9; (try dsimp only at u0 u1 u2 u3 u4 u5 u6 u7 u8 u9)
       have gx := heapExt hb1 HO.out.2.1
       have x0 := cellOf gx 0; have x1 := cellOf gx 1; have x2 := cellOf gx 2; have x3 := cellOf gx 3; have x4 := cellOf gx 4; have x5 := cellOf gx 5; have P0 := hid p0; have P1 := hid p1; have P2 := hid p2; have P3 := hid p3; have P4 := hid p4; have P5 := hid p5; have P6 := hid p6; clear p0 p1 p2 p3 p4 p5 p6 g0 gx hi1)
    | (go_at_call 43; refine P6.out.mono ?_; rintro e w2 ⟨c2, rfl, hb2, hi2⟩; clear u0 v0 u1 v1 u2 v2 u3 v3 u4 v4 u5 v5 u6 v6 u7 v7 u8 v8 u9 v9 x0 x1 x2 x3 x4 x5
       have hb2' : Below (setTen w1 w.heap.size c1).heap.size (setTen w1 w.heap.size c1) w2 := by (rw [P5.out]; exact hb2)
       have g0 := heapExt hb2' P0.out; have g2 := heapExt hb2' P2.out
       have u0 := cellOf g0 0; have v0 := freeOf g0 0; have y0 := freeOf g2 0; have z0 := cellOf g2 0; have u1 := cellOf g0 1; have v1 := freeOf g0 1; have y1 := freeOf g2 1; have z1 := cellOf g2 1; have u2 := cellOf g0 2; have v2 := freeOf g0 2; have y2 := freeOf g2 2; have z2 := cellOf g2 2; have u3 := cellOf g0 3; have v3 := freeOf g0 3; have y3 := freeOf g2 3; have z3 := cellOf g2 3; have u4 := cellOf g0 4; have v4 := freeOf g0 4; have y4 := freeOf g2 4; have z4 := cellOf g2 4; have u5 := cellOf g0 5; have v5 := freeOf g0 5; have y5 := freeOf g2 5; have z5 := cellOf g2 5; have u6 := cellOf g0 6; have v6 := freeOf g0 6; have y6 := freeOf g2 6; have z6 := cellOf g2 6; have u7 := cellOf g0 7; have v7 := freeOf g0 7; have y7 := freeOf g2 7; have z7 := cellOf g2 7; have u8 := cellOf g0 8; have v8 := freeOf g0 8; have y8 := freeOf g2 8; have z8 := cellOf g2 8; have u9 := cellOf g0 9; have v9 := freeOf g0 9; have y9 := freeOf g2 9; have z9 := cellOf g2 9; (try dsimp only at u0 u1 u2 u3 u4 u5 u6 u7 u8 u9 z0 z1 z2 z3 z4 z5 z6 z7 z8 z9)
       have G2 := hid g2; have HI2 := hid hi2; clear g0 g2 hi2))
  have hsz1 := hb1.size
  have hsz2 := hb2.size
  rw [P5.out] at hsz2
  have hsw := HSW.out
  have h1 := setTen_heap (c := ⟨c1.st, c1.m, c1.a, c1.n, c1.c, c2⟩) (B := w.heap.size + 1 + 1) (w := setSix w2 w.heap.size c2) ((setSix_other w2 w.heap.size (w.heap.size + 1 + 1) (by omega)).trans G2.out)
  have h2 : Below w.heap.size w (setTen (setSix w2 w.heap.size c2) (w.heap.size + 1 + 1) ⟨c1.st, c1.m, c1.a, c1.n, c1.c, c2⟩) := ((P3.out.trans (hb2.mono (by omega))).trans (setSix_below w2 w.heap.size w.heap.size (Nat.le_refl _))).trans (setTen_below _ (w.heap.size + 1 + 1) w.heap.size (by omega))
  have h3 : ∀ b, wb.heap.size ≤ b → (setTen (setSix w2 w.heap.size c2) (w.heap.size + 1 + 1) ⟨c1.st, c1.m, c1.a, c1.n, c1.c, c2⟩).heap[b]? = w2.heap[b]? := fun b hb => (setTen_other _ _ _ (by omega)).trans (setSix_other _ _ _ (by omega))
  have h4 : (setTen (setSix w2 w.heap.size c2) (w.heap.size + 1 + 1) ⟨c1.st, c1.m, c1.a, c1.n, c1.c, c2⟩).heap.size = w2.heap.size := (setTen_size _ _).trans (setSix_size _ _)
  have HI1a := hid (P4.out.same (S' := fun b => w.heap.size ≤ b ∧ b < (setTen (setSix w2 w.heap.size c2) (w.heap.size + 1 + 1) ⟨c1.st, c1.m, c1.a, c1.n, c1.c, c2⟩).heap.size) (w' := setTen (setSix w2 w.heap.size c2) (w.heap.size + 1 + 1) ⟨c1.st, c1.m, c1.a, c1.n, c1.c, c2⟩) fun b hb => ⟨by rw [h4]; omega, (h3 b hb.1).trans (hb2.block b hb.2)⟩)
  have HI2a := hid (HI2.out.same (S' := fun b => w.heap.size ≤ b ∧ b < (setTen (setSix w2 w.heap.size c2) (w.heap.size + 1 + 1) ⟨c1.st, c1.m, c1.a, c1.n, c1.c, c2⟩).heap.size) (w' := setTen (setSix w2 w.heap.size c2) (w.heap.size + 1 + 1) ⟨c1.st, c1.m, c1.a, c1.n, c1.c, c2⟩) fun b hb => ⟨by rw [h4]; omega, h3 b (by omega)⟩)
  dsimp only [setTen, setSix] at h1 h2 HI1a HI2a
  exact bodyPost_ret (v := MC.v ⟨c1.st, c1.m, c1.a, c1.n, c1.c, c2⟩) (by simp [results, Tryz.results48, go_sem, cellOf h1]) rfl ⟨_, rfl, h2, ⟨HI1a.out.st, HI1a.out.m, HI1a.out.rm, HI1a.out.es, HI2a.out⟩⟩

end Go.Proofs.YtcejackabdmpkaaGreatDoor

/-
  stamp.made, stamp.Arrival and message.New return a new stamp, a new message. Conditions: the body can be read as data; Tabs.
-/
namespace Go.Proofs.YtcejackabdmpkaaGreatDoor
open Go Go.RowKit Go.Shelf
set_option linter.unusedVariables false
set_option linter.unusedSimpArgs false

def madeE (e p : Int) : Int := if e < 1 ∨ 1048576 < e ∨ p < 0 ∨ 128 ≤ p then 2 else 0

set_option maxRecDepth 100000 in
set_option maxHeartbeats 2000000 in
theorem made_call (e p : Int) (a : Option Addr) (n c : Nat) (w : World) : Calls Tryz.prog 107 #[.int .i64 e, .int .i64 p, .slice a n c] w fun x w' =>
    (madeE e p = 2 → x = .returned (.tuple #[.agg #[.int .i64 0, .slice none 0 0], .int .i64 2])) ∧ (madeE e p = 0 → x = .returned (.tuple #[.agg #[.int .i64 e, .slice a n c], .int .i64 0])) ∧ Below w.heap.size w w' := by
  go_enter Tryz.func107, Tryz.ntmps107
  by_cases h : madeE e p = 2
  · have M := hid h
    by_cases h1 : e < 1
    · clear h
      go_wp2
      exact bodyPost_ret (v := .tuple #[.agg #[.int .i64 0, .slice none 0 0], .int .i64 2]) (by simp [results, Tryz.results107, go_sem, cellOf (heap_alloc_new w _)]) rfl ⟨fun _ => rfl, fun h => absurd (M.out.symm.trans h) (by decide), (Below.refl _ w).alloc (Nat.le_refl _) _⟩
    by_cases h2 : 1048576 < e
    · clear h
      go_wp2
      exact bodyPost_ret (v := .tuple #[.agg #[.int .i64 0, .slice none 0 0], .int .i64 2]) (by simp [results, Tryz.results107, go_sem, cellOf (heap_alloc_new w _)]) rfl ⟨fun _ => rfl, fun h => absurd (M.out.symm.trans h) (by decide), (Below.refl _ w).alloc (Nat.le_refl _) _⟩
    by_cases h3 : p < 0
    · clear h
      go_wp2
      exact bodyPost_ret (v := .tuple #[.agg #[.int .i64 0, .slice none 0 0], .int .i64 2]) (by simp [results, Tryz.results107, go_sem, cellOf (heap_alloc_new w _)]) rfl ⟨fun _ => rfl, fun h => absurd (M.out.symm.trans h) (by decide), (Below.refl _ w).alloc (Nat.le_refl _) _⟩
    have h4 : 128 ≤ p := by
      unfold madeE at h
      split at h
      · omega
      · cases h
    clear h
    go_wp2
    exact bodyPost_ret (v := .tuple #[.agg #[.int .i64 0, .slice none 0 0], .int .i64 2]) (by simp [results, Tryz.results107, go_sem, cellOf (heap_alloc_new w _)]) rfl ⟨fun _ => rfl, fun h => absurd (M.out.symm.trans h) (by decide), (Below.refl _ w).alloc (Nat.le_refl _) _⟩
  · have M := hid h
    have h1 : ¬ e < 1 ∧ ¬ 1048576 < e ∧ ¬ p < 0 ∧ ¬ 128 ≤ p := by
      unfold madeE at h
      split at h
      · exact absurd rfl h
      · omega
    obtain ⟨h1, h2, h3, h4⟩ := h1
    clear h
    go_wp2
    exact bodyPost_ret (v := .tuple #[.agg #[.int .i64 e, .slice a n c], .int .i64 0]) (by simp [results, Tryz.results107, go_sem, cellOf (heap_alloc_new w _)]) rfl ⟨fun h => absurd h M.out, fun _ => rfl, (Below.refl _ w).alloc (Nat.le_refl _) _⟩

def ArrPost (w : World) (e : Int) (x : Ending) (w' : World) : Prop := Below w.heap.size w w' ∧ (madeE e 0 = 2 → x = .returned (.tuple #[.agg #[.int .i64 0, .slice none 0 0], .int .i64 2])) ∧
  (madeE e 0 = 0 → ∃ sa sc, x = .returned (.tuple #[.agg #[.int .i64 e, .slice sa 1 sc], .int .i64 0]) ∧ IsInts (fun b => w.heap.size ≤ b ∧ b < w'.heap.size) w' sa 1 sc [1])
theorem made_two (e p : Int) : madeE e p = 2 ∨ madeE e p = 0 := by unfold madeE; split <;> simp
set_option maxRecDepth 100000 in
set_option maxHeartbeats 2000000 in
theorem arrival_call (e : Int) (w : World) : Calls Tryz.prog 70 #[.int .i64 e] w (ArrPost w e) := by
  obtain ⟨w1, hw1⟩ : ∃ w1, w1 = (w.alloc (.cells #[.int .i64 0, .slice none 0 0] 39)).alloc (.cells #[.int .i64 1] 3) := ⟨_, rfl⟩
  have o0 : w1.heap[w.heap.size]? = some (.cells #[.int .i64 0, .slice none 0 0] 39 (0, 0)) := by rw [hw1]; exact heapAlloc _ (heap_alloc_new w _)
  have o1 : w1.heap[w.heap.size + 1]? = some (.cells #[.int .i64 1] 3 (0, 0)) := by rw [hw1]; exact heapNewAt _ _ _ (by simp)
  have hb : Below w.heap.size w w1 := by rw [hw1]; exact ((Below.refl _ w).alloc (Nat.le_refl _) _).alloc (by simp) _
  have hm := made_call e 0 (some ⟨w.heap.size + 1, 0, none⟩) 1 1 w1
  have HB := hid hb
  have O := hid (And.intro o0 o1)
  have HW1 := hid hw1
  rw [hw1] at hm
  have HM := hid hm
  clear hb o0 o1 hw1 hm
  go_enter Tryz.func70, Tryz.ntmps70
  rcases made_two e 0 with h2 | h2
  · have M := hid h2
    clear h2
    go_wp2_with (go_at_call 107; refine HM.out.mono ?_; rintro x w2 ⟨g1, _, hb2⟩; rw [g1 M.out]; rw [← HW1.out] at hb2; have k0 := heapExt hb2 O.out.1; have z0 := cellOf k0 0; have z1 := cellOf k0 1; have y0 := freeOf k0 0; have y1 := freeOf k0 1; (try dsimp only at z0 z1); have K0 := hid k0; clear k0 g1)
    have h1 := heapSet (o := 1) (Value.slice none 0 0) (heapSet (o := 0) (Value.int .i64 0) K0.out)
    exact bodyPost_ret (v := .tuple #[.agg #[.int .i64 0, .slice none 0 0], .int .i64 2]) (by simp [results, Tryz.results70, go_sem, cellOf h1]) rfl ⟨((HB.out.trans (hb2.mono HB.out.size)).setCell (p := ⟨w.heap.size, 0, none⟩) (by dsimp only; omega) _).setCell (p := ⟨w.heap.size, 1, none⟩) (by dsimp only; omega) _, fun _ => rfl, fun h => absurd (M.out.symm.trans h) (by decide)⟩
  · have M := hid h2
    clear h2
    go_wp2_with (go_at_call 107; refine HM.out.mono ?_; rintro x w2 ⟨_, g1, hb2⟩; rw [g1 M.out]; rw [← HW1.out] at hb2; have k0 := heapExt hb2 O.out.1; have k1 := heapExt hb2 O.out.2; have z0 := cellOf k0 0; have z1 := cellOf k0 1; have y0 := freeOf k0 0; have y1 := freeOf k0 1; (try dsimp only at z0 z1); have K0 := hid k0; have K1 := hid k1; clear k0 k1 g1)
    have h1 := heapSet (o := 1) (Value.slice (some ⟨w.heap.size + 1, 0, none⟩) 1 1) (heapSet (o := 0) (Value.int .i64 e) K0.out)
    have hk := ltOf K1.out
    refine bodyPost_ret (v := .tuple #[.agg #[.int .i64 e, .slice (some ⟨w.heap.size + 1, 0, none⟩) 1 1], .int .i64 0]) (by simp [results, Tryz.results70, go_sem, cellOf h1]) rfl ⟨((HB.out.trans (hb2.mono HB.out.size)).setCell (p := ⟨w.heap.size, 0, none⟩) (by dsimp only; omega) _).setCell (p := ⟨w.heap.size, 1, none⟩) (by dsimp only; omega) _, fun h => absurd (M.out.symm.trans h) (by decide), fun _ => ⟨_, _, rfl, rfl, Nat.le_refl _, by decide, fun x hx => by (rw [List.mem_singleton] at hx; subst hx; exact ⟨by decide, by decide⟩), .inr ⟨w.heap.size + 1, 0, rfl, ⟨by omega, by simpa [World.setCell] using hk⟩, fun j hj => ?_⟩⟩⟩
    have hj0 : j = 0 := by simpa using hj
    subst hj0
    exact cellOf (heapSetOther _ _ (heapSetOther _ _ K1.out (by dsimp only; omega)) (by dsimp only; omega)) 0

def newE (e : Int) (d : Val) : Int := if madeE e 0 = 2 then 2 else bodyE d
abbrev zeroMsg : Value := .agg #[.int .i64 0, .slice none 0 0, .int .i64 0, .slice none 0 0, .int .i64 0, .int .i64 0, .int .i64 0, .string ⟨#[]⟩, .slice none 0 0, .slice none 0 0]
def NewPost (w : World) (e : Int) (d : Val) (x : Ending) (w' : World) : Prop := Below w.heap.size w w' ∧ (newE e d ≠ 0 → x = .returned (.tuple #[zeroMsg, .int .i64 (newE e d)])) ∧
  (newE e d = 0 → ∃ c' : MC, x = .returned (.tuple #[c'.v, .int .i64 0]) ∧ IsMsg (fun b => w.heap.size ≤ b ∧ b < w'.heap.size) w' c' ⟨⟨e, [1]⟩, 1048576, [e], d⟩)

set_option maxRecDepth 100000 in
set_option maxHeartbeats 8000000 in
theorem new_call (e0 : Int) (c : VC) (d : Val) (w : World) (he0 : I64 e0) (hd : IsVal (· < w.heap.size) w c d) (hT : Tabs w) : Calls Tryz.prog 38 #[.int .i64 e0, c.v] w (NewPost w e0 d) := by
  have HWB : Hid (Below w.heap.size w ((w.alloc (.cells #[.int .i64 c.k, .int .i64 c.i, .int .i64 c.s, .string c.t, .slice c.la c.ll c.lc, .slice c.fa c.fl c.fc] 25)).alloc (.cells #[.int .i64 0, .slice none 0 0, .int .i64 0, .slice none 0 0, .int .i64 0, .int .i64 0, .int .i64 0, .string ByteArray.empty, .slice none 0 0, .slice none 0 0] 41))) := hid (((Below.refl _ w).alloc (Nat.le_refl _) _).alloc (by simp) _)
  obtain ⟨wb, hwb⟩ : ∃ wb, wb = ((w.alloc (.cells #[.int .i64 c.k, .int .i64 c.i, .int .i64 c.s, .string c.t, .slice c.la c.ll c.lc, .slice c.fa c.fl c.fc] 25)).alloc (.cells #[.int .i64 0, .slice none 0 0, .int .i64 0, .slice none 0 0, .int .i64 0, .int .i64 0, .int .i64 0, .string ByteArray.empty, .slice none 0 0, .slice none 0 0] 41)) := ⟨_, rfl⟩
  have hbwb : Below w.heap.size w wb := by rw [hwb]; exact HWB.out
  have hsw : wb.heap.size = w.heap.size + 2 := by rw [hwb]; simp
  have o0 : wb.heap[w.heap.size]? = some (.cells #[.int .i64 c.k, .int .i64 c.i, .int .i64 c.s, .string c.t, .slice c.la c.ll c.lc, .slice c.fa c.fl c.fc] 25 (0, 0)) := by rw [hwb]; exact heapAlloc _ (heap_alloc_new w _)
  have o1 : wb.heap[w.heap.size + 1]? = some (.cells #[.int .i64 0, .slice none 0 0, .int .i64 0, .slice none 0 0, .int .i64 0, .int .i64 0, .int .i64 0, .string ByteArray.empty, .slice none 0 0, .slice none 0 0] 41 (0, 0)) := by rw [hwb]; exact heapNewAt _ _ _ (by simp)
  have later : ∀ w', Below wb.heap.size wb w' → IsVal (· < w'.heap.size) w' c d ∧ Tabs w' ∧ Below w.heap.size w w' := fun w' h => by
    have hb := hbwb.trans (h.mono hbwb.size)
    exact ⟨hd.same fun b q => ⟨Nat.lt_of_lt_of_le q hb.size, hb.block b q⟩, hT.below hb, hb⟩
  have HBD := hid (fun w' h => body_call c d w' (later w' h).1 (later w' h).2.1)
  have HCL : Hid (∀ w', Below wb.heap.size wb w' → Calls Tryz.prog 43 #[.agg #[.int .i64 c.k, .int .i64 c.i, .int .i64 c.s, .string c.t, .slice c.la c.ll c.lc, .slice c.fa c.fl c.fc]] w' fun e w2 => ∃ c' : VC, e = .returned c'.v ∧ Below w'.heap.size w' w2 ∧ IsVal (fun b => w'.heap.size ≤ b ∧ b < w2.heap.size) w2 c' d) := hid fun w' h =>
    (clone_call (later w' h).1).mono fun e w2 ⟨c', he, hb, hi⟩ => ⟨c', he, hb, hi⟩
  have O := hid (And.intro o0 o1)
  have HWBE := hid hwb
  have HSW := hid hsw
  have HBWB := hid hbwb
  have HI0 := hid he0
  have harr := arrival_call e0 ((w.alloc (.cells #[.int .i64 c.k, .int .i64 c.i, .int .i64 c.s, .string c.t, .slice c.la c.ll c.lc, .slice c.fa c.fl c.fc] 25)).alloc (.cells #[.int .i64 0, .slice none 0 0, .int .i64 0, .slice none 0 0, .int .i64 0, .int .i64 0, .int .i64 0, .string ByteArray.empty, .slice none 0 0, .slice none 0 0] 41))
  have HA := hid harr
  clear later hwb hsw o0 o1 hbwb hd hT he0 harr
  go_enter Tryz.func38, Tryz.ntmps38
  rcases made_two e0 0 with h2 | h2
  · have HE := hid (show newE e0 d = 2 by rw [newE, if_pos h2])
    have M := hid h2
    clear h2
    go_wp2_with (go_at_call 70; refine HA.out.mono ?_; rintro x w2 ⟨hb2, g1, _⟩; rw [g1 M.out]; rw [← HWBE.out] at hb2; have k0 := heapAlloc (.cells #[.int .i64 0, .slice none 0 0] 39) (heapExt hb2 O.out.2); have z0 := cellOf k0 0; have y0 := freeOf k0 0; have z1 := cellOf k0 1; have y1 := freeOf k0 1; have z2 := cellOf k0 2; have y2 := freeOf k0 2; have z3 := cellOf k0 3; have y3 := freeOf k0 3; have z4 := cellOf k0 4; have y4 := freeOf k0 4; have z5 := cellOf k0 5; have y5 := freeOf k0 5; have z6 := cellOf k0 6; have y6 := freeOf k0 6; have z7 := cellOf k0 7; have y7 := freeOf k0 7; have z8 := cellOf k0 8; have y8 := freeOf k0 8; have z9 := cellOf k0 9; have y9 := freeOf k0 9; (try dsimp only at z0 z1 z2 z3 z4 z5 z6 z7 z8 z9); have K0 := hid k0; clear k0 g1)
    have h1 := setTen_heap (c := ⟨⟨0, none, 0, 0⟩, 0, none, 0, 0, ⟨0, 0, 0, ⟨#[]⟩, none, 0, 0, none, 0, 0⟩⟩) K0.out
    have hbb := hb2.size
    have hsw := HSW.out
    have h2 := ((HBWB.out.trans (hb2.mono HBWB.out.size)).alloc (by omega) (.cells #[.int .i64 0, .slice none 0 0] 39)).trans (setTen_below (c := ⟨⟨0, none, 0, 0⟩, 0, none, 0, 0, ⟨0, 0, 0, ⟨#[]⟩, none, 0, 0, none, 0, 0⟩⟩) _ (w.heap.size + 1) w.heap.size (by omega))
    dsimp only [setTen] at h1 h2
    exact bodyPost_ret (v := .tuple #[zeroMsg, .int .i64 2]) (by simp [results, Tryz.results38, go_sem, cellOf h1]) rfl ⟨h2, fun _ => by rw [HE.out], fun h => absurd (HE.out.symm.trans h) (by decide)⟩
  · have M := hid h2
    have HE := hid (show newE e0 d = bodyE d by rw [newE, if_neg (by rw [h2]; decide)])
    clear h2
    obtain ⟨u, hu⟩ : ∃ u, u = bodyE d := ⟨_, rfl⟩
    have HU := hid hu
    have hbd : ∀ w', Below wb.heap.size wb w' → Calls Tryz.prog 71 #[.agg #[.int .i64 c.k, .int .i64 c.i, .int .i64 c.s, .string c.t, .slice c.la c.ll c.lc, .slice c.fa c.fl c.fc]] w' fun e w2 => e = .returned (.int .i64 u) ∧ Below w'.heap.size w' w2 := fun w' h => by rw [hu]; exact HBD.out w' h
    have HBD' := hid hbd
    clear hbd HBD hu
    by_cases q : u = 0
    · subst q
      have HE0 := hid (HE.out.trans HU.out.symm)
      go_upto_region 7 with (first
        | (go_at_call 70; refine HA.out.mono ?_; rintro x w2 ⟨hb2, _, g1⟩; obtain ⟨sa, sc, hx, hsi⟩ := g1 M.out; rw [hx]; rw [← HWBE.out] at hb2 hsi; have k1 := heapAlloc (.cells #[.int .i64 e0, .slice sa 1 sc] 39) (heapExt hb2 O.out.1); have x0 := cellOf k1 0; have x1 := cellOf k1 1; have x2 := cellOf k1 2; have x3 := cellOf k1 3; have x4 := cellOf k1 4; have x5 := cellOf k1 5; clear hx k1)
        | (go_at_call 71; refine (HBD'.out _ (hb2.alloc hb2.size _)).mono ?_; rintro x w3 ⟨rfl, hb3⟩; have hb3' := (hb2.alloc hb2.size (.cells #[.int .i64 e0, .slice sa 1 sc] 39)).trans (hb3.mono (Nat.le_trans hb2.size (by simp))); clear x0 x1 x2 x3 x4 x5))
      have HBW : Hid (Below w.heap.size w w3) := hid (HBWB.out.trans (hb3'.mono HBWB.out.size))
      have O2 := hid (heapExt hb3' O.out.2)
      have hst : w3.heap[w2.heap.size]? = some (.cells #[.int .i64 e0, .slice sa 1 sc] 39 (0, 0)) := heapExt hb3 (heap_alloc_new w2 _)
      have hvb := heapExt hb3' O.out.1
      have hs2 := hb2.size
      have hs3 := hb3.size
      simp only [World.size_alloc] at hs3
      have hsw := HSW.out
      have HV : Hid (∀ w', Below w3.heap.size w3 w' → Calls Tryz.prog 43 #[.agg #[.int .i64 c.k, .int .i64 c.i, .int .i64 c.s, .string c.t, .slice c.la c.ll c.lc, .slice c.fa c.fl c.fc]] w' fun e w2 => ∃ c' : VC, e = .returned c'.v ∧ Below w'.heap.size w' w2 ∧ IsVal (fun b => w3.heap.size ≤ b ∧ b < w2.heap.size) w2 c' d) := hid fun w' h =>
        (HCL.out w' (hb3'.trans (h.mono hb3'.size))).mono fun e w2 ⟨c', he, hb, hi⟩ => ⟨c', he, hb, hi.same fun b q => ⟨⟨Nat.le_trans h.size q.1, q.2⟩, rfl⟩⟩
      have HC : Hid (∀ w', Below w3.heap.size w3 w' → w'.cell? ⟨w2.heap.size, 0, none⟩ = some (.int .i64 e0) ∧ w'.cell? ⟨w2.heap.size, 1, none⟩ = some (.slice sa 1 sc) ∧ w'.cell? ⟨w.heap.size, 0, none⟩ = some (.int .i64 c.k) ∧ w'.cell? ⟨w.heap.size, 1, none⟩ = some (.int .i64 c.i) ∧ w'.cell? ⟨w.heap.size, 2, none⟩ = some (.int .i64 c.s) ∧ w'.cell? ⟨w.heap.size, 3, none⟩ = some (.string c.t) ∧ w'.cell? ⟨w.heap.size, 4, none⟩ = some (.slice c.la c.ll c.lc) ∧ w'.cell? ⟨w.heap.size, 5, none⟩ = some (.slice c.fa c.fl c.fc)) := hid fun w' h => by
        have g1 := heapExt h hst
        have g2 := heapExt h hvb
        exact ⟨cellOf g1 0, cellOf g1 1, cellOf g2 0, cellOf g2 1, cellOf g2 2, cellOf g2 3, cellOf g2 4, cellOf g2 5⟩
      have NR : Hid (∀ (w' : World) (cb : VC) (gb : Nat), Below w3.heap.size w3 w' → w3.heap.size ≤ gb → w'.heap[gb]? = some (.cells #[.int .i64 e0] 3 (0, 0)) → IsVal (fun b => w3.heap.size ≤ b ∧ b < w'.heap.size) w' cb d →
          IsMsg (fun b => w.heap.size ≤ b ∧ b < w'.heap.size ∧ b ≠ w.heap.size + 1) w' ⟨⟨e0, sa, 1, sc⟩, 1048576, some ⟨gb, 0, none⟩, 1, 1, cb⟩ ⟨⟨e0, [1]⟩, 1048576, [e0], d⟩) := hid fun w' cb gb h hg hgo hi => by
        have hs := h.size
        refine ⟨⟨rfl, HI0.out, hsi.same fun b ⟨q1, q2⟩ => ⟨by omega, (h.block b (by omega)).trans ((hb3.block b (by simp; omega)).trans (Below.heap_alloc _ _ _ q2))⟩⟩, rfl, (show I64 1048576 from ⟨by decide, by decide⟩), ⟨rfl, Nat.le_refl _, (show 1 * 8 ≤ 140737488351232 by decide), fun x hx => ?_, .inr ⟨gb, 0, rfl, ?_, fun j hj => ?_⟩⟩, hi.same fun b ⟨q1, q2⟩ => ⟨by omega, rfl⟩⟩
        · rw [List.mem_singleton] at hx; subst hx; exact HI0.out
        · have := ltOf hgo; omega
        · have hj0 : j = 0 := by simpa using hj
          subst hj0
          exact cellOf hgo 0
      clear hst hvb hsi hb3 hb3' hb2 hsw hs2 hs3
      refine wp_region_split 6 (fun w' => Below w3.heap.size w3 w') (by kernel_rfl) (by kernel_rfl) (by kernel_rfl) (by decide) ((Below.refl _ _).drew) (fun hS => ?_)
      simp only [List.take_succ_cons, List.take_zero, List.drop_succ_cons, List.drop_zero]
      refine wpAnyH_take (i := 0) (oi := _) (v := ?_) rfl (by kernel_rfl) (by kernel_rfl) (by kernel_rfl) (fun _ _ _ h => h) (Or.inl ⟨by rfl, ?_⟩) hS ?_
      rotate_left
      · intro w' hw'
        have hcells := HC.out w' hw'
        go_simp
        (try with_reducible rfl)
      simp only [Act.put, List.setIfInBounds_toArray, List.set_cons_zero, List.set_cons_succ]
      refine wpAnyH_take (i := 1) (oi := _) (v := ?_) rfl (by kernel_rfl) (by kernel_rfl) (by kernel_rfl) (fun _ _ _ h => h) (Or.inl ⟨by rfl, ?_⟩) hS ?_
      rotate_left
      · intro w' hw'
        have hcells := HC.out w' hw'
        go_simp
        (try with_reducible rfl)
      simp only [Act.put, List.setIfInBounds_toArray, List.set_cons_zero, List.set_cons_succ]
      refine wpAnyH_take (i := 3) (oi := _) (v := ?_) rfl (by kernel_rfl) (by kernel_rfl) (by kernel_rfl) (fun _ _ _ h => h) (Or.inl ⟨by rfl, ?_⟩) hS ?_
      rotate_left
      · intro w' hw'
        have hcells := HC.out w' hw'
        go_simp
        (try with_reducible rfl)
      simp only [Act.put, List.setIfInBounds_toArray, List.set_cons_zero, List.set_cons_succ]
      refine wpAnyH_ready (rs := [2, 4]) (by kernel_rfl) (by simp) ?_
      refine AllReadyH.cons (o := _) rfl (fun K hK => ?_) ?_
      · go_simp
        obtain ⟨gb, hgb⟩ : ∃ gb, gb = w3.heap.size := ⟨_, rfl⟩
        have HGB := hid hgb
        clear hgb
        have HGO : Hid ((w3.drew.alloc (.cells #[.int .i64 e0] 3)).heap[gb]? = some (.cells #[.int .i64 e0] 3 (0, 0))) := hid (by rw [HGB.out]; exact heap_alloc_new w3.drew _)
        refine hK.out _ _ (hS.trans (((Below.refl _ _).alloc (Nat.le_refl _) _).mono hS.size)) (fun hS => ?_)
        clear hK K
        (try simp only [Act.put, List.setIfInBounds_toArray, List.set_cons_zero, List.set_cons_succ])
        refine wpAnyH_ready (rs := [4]) (by kernel_rfl) (by simp) ?_
        refine AllReadyH.cons (o := _) rfl (fun K hK => ?_) AllReadyH.nil
        go_simp; go_at_call 43; refine (HV.out _ hS).mono ?_
        rintro e w5 ⟨cb, rfl, hb5, hi5⟩
        have hres := hid (NR.out w5 cb gb (hS.trans (hb5.mono hS.size)) (by rw [HGB.out]; exact Nat.le_refl _) (heapExt hb5 HGO.out) hi5)
        clear hi5
        refine hK.out _ _ (hS.trans (hb5.mono hS.size)) (fun hS => ?_)
        clear hK K
        (try simp only [Act.put, List.setIfInBounds_toArray, List.set_cons_zero, List.set_cons_succ])
        refine wpAnyH_take (i := 5) (oi := _) (v := ?_) rfl (by kernel_rfl) (by kernel_rfl) (by kernel_rfl) (fun _ _ _ h => h) (Or.inl ⟨by rfl, ?_⟩) hS ?_
        rotate_left
        · intro w' hw'
          have hcells := HC.out w' hw'
          go_simp
          (try with_reducible rfl)
        simp only [Act.put, List.setIfInBounds_toArray, List.set_cons_zero, List.set_cons_succ]
        refine wpAnyH_done (by kernel_rfl) ?_ _
        (try dsimp only)
        rw [← HGB.out]
        have hB := heapExt hS O2.out
        have hBL := hid hS
        clear hS HC HV
        have z0 := cellOf hB 0
        have z1 := cellOf hB 1
        have z2 := cellOf hB 2
        have z3 := cellOf hB 3
        have z4 := cellOf hB 4
        have z5 := cellOf hB 5
        have z6 := cellOf hB 6
        have z7 := cellOf hB 7
        have z8 := cellOf hB 8
        have z9 := cellOf hB 9
        have y0 := freeOf hB 0
        have y1 := freeOf hB 1
        have y2 := freeOf hB 2
        have y3 := freeOf hB 3
        have y4 := freeOf hB 4
        have y5 := freeOf hB 5
        have y6 := freeOf hB 6
        have y7 := freeOf hB 7
        have y8 := freeOf hB 8
        have y9 := freeOf hB 9
        (try dsimp only at z0 z1 z2 z3 z4 z5 z6 z7 z8 z9)
        have HB := hid hB
        clear hB
        have HRI := hres
        go_wp2
        have h1 := setTen_heap (c := ⟨⟨e0, sa, 1, sc⟩, 1048576, some ⟨gb, 0, none⟩, 1, 1, cb⟩) HB.out
        have h4 := fun w' => setTen_size (c := ⟨⟨e0, sa, 1, sc⟩, 1048576, some ⟨gb, 0, none⟩, 1, 1, cb⟩) w' (w.heap.size + 1)
        have h3 := fun w' b hb => setTen_other (c := ⟨⟨e0, sa, 1, sc⟩, 1048576, some ⟨gb, 0, none⟩, 1, 1, cb⟩) w' (w.heap.size + 1) b hb
        have h2 := fun w' => setTen_below (c := ⟨⟨e0, sa, 1, sc⟩, 1048576, some ⟨gb, 0, none⟩, 1, 1, cb⟩) w' (w.heap.size + 1) w.heap.size (by omega)
        dsimp only [setTen] at h1 h2 h3 h4
        refine bodyPost_ret (v := .tuple #[MC.v ⟨⟨e0, sa, 1, sc⟩, 1048576, some ⟨gb, 0, none⟩, 1, 1, cb⟩, .int .i64 0]) (by simp [results, Tryz.results38, go_sem, cellOf h1]) rfl ⟨(HBW.out.trans (hBL.out.mono HBW.out.size)).trans (h2 _), fun h => absurd HE0.out h, fun _ => ⟨_, rfl, ?_⟩⟩
        exact HRI.out.same fun b hb => ⟨by rw [h4]; exact ⟨hb.1, hb.2.1⟩, h3 _ b hb.2.2⟩
      refine AllReadyH.cons (o := _) rfl (fun K hK => ?_) AllReadyH.nil
      go_simp; go_at_call 43; refine (HV.out _ hS).mono ?_
      rintro e w5 ⟨cb, rfl, hb5, hi5⟩
      refine hK.out _ _ (hS.trans (hb5.mono hS.size)) (fun hS => ?_)
      clear hK K
      (try simp only [Act.put, List.setIfInBounds_toArray, List.set_cons_zero, List.set_cons_succ])
      refine wpAnyH_ready (rs := [2]) (by kernel_rfl) (by simp) ?_
      refine AllReadyH.cons (o := _) rfl (fun K hK => ?_) AllReadyH.nil
      go_simp
      obtain ⟨gb, hgb⟩ : ∃ gb, gb = w5.heap.size := ⟨_, rfl⟩
      have HGB := hid hgb
      clear hgb
      have hres := hid (NR.out (w5.alloc (.cells #[.int .i64 e0] 3)) cb gb (hS.trans (((Below.refl _ _).alloc (Nat.le_refl _) _).mono hS.size)) (by rw [HGB.out]; exact hS.size) (by rw [HGB.out]; exact heap_alloc_new w5 _) (hi5.same fun b hb => ⟨⟨hb.1, by simp; omega⟩, Below.heap_alloc _ _ _ hb.2⟩))
      refine hK.out _ _ (hS.trans (((Below.refl _ _).alloc (Nat.le_refl _) _).mono hS.size)) (fun hS => ?_)
      clear hK K
      (try simp only [Act.put, List.setIfInBounds_toArray, List.set_cons_zero, List.set_cons_succ])
      refine wpAnyH_take (i := 5) (oi := _) (v := ?_) rfl (by kernel_rfl) (by kernel_rfl) (by kernel_rfl) (fun _ _ _ h => h) (Or.inl ⟨by rfl, ?_⟩) hS ?_
      rotate_left
      · intro w' hw'
        have hcells := HC.out w' hw'
        go_simp
        (try with_reducible rfl)
      simp only [Act.put, List.setIfInBounds_toArray, List.set_cons_zero, List.set_cons_succ]
      refine wpAnyH_done (by kernel_rfl) ?_ _
      (try dsimp only)
      rw [← HGB.out]
      have hB := heapExt hS O2.out
      have hBL := hid hS
      clear hS HC HV
      have z0 := cellOf hB 0
      have z1 := cellOf hB 1
      have z2 := cellOf hB 2
      have z3 := cellOf hB 3
      have z4 := cellOf hB 4
      have z5 := cellOf hB 5
      have z6 := cellOf hB 6
      have z7 := cellOf hB 7
      have z8 := cellOf hB 8
      have z9 := cellOf hB 9
      have y0 := freeOf hB 0
      have y1 := freeOf hB 1
      have y2 := freeOf hB 2
      have y3 := freeOf hB 3
      have y4 := freeOf hB 4
      have y5 := freeOf hB 5
      have y6 := freeOf hB 6
      have y7 := freeOf hB 7
      have y8 := freeOf hB 8
      have y9 := freeOf hB 9
      (try dsimp only at z0 z1 z2 z3 z4 z5 z6 z7 z8 z9)
      have HB := hid hB
      clear hB
      have HRI := hres
      go_wp2
      have h1 := setTen_heap (c := ⟨⟨e0, sa, 1, sc⟩, 1048576, some ⟨gb, 0, none⟩, 1, 1, cb⟩) HB.out
      have h4 := fun w' => setTen_size (c := ⟨⟨e0, sa, 1, sc⟩, 1048576, some ⟨gb, 0, none⟩, 1, 1, cb⟩) w' (w.heap.size + 1)
      have h3 := fun w' b hb => setTen_other (c := ⟨⟨e0, sa, 1, sc⟩, 1048576, some ⟨gb, 0, none⟩, 1, 1, cb⟩) w' (w.heap.size + 1) b hb
      have h2 := fun w' => setTen_below (c := ⟨⟨e0, sa, 1, sc⟩, 1048576, some ⟨gb, 0, none⟩, 1, 1, cb⟩) w' (w.heap.size + 1) w.heap.size (by omega)
      dsimp only [setTen] at h1 h2 h3 h4
      refine bodyPost_ret (v := .tuple #[MC.v ⟨⟨e0, sa, 1, sc⟩, 1048576, some ⟨gb, 0, none⟩, 1, 1, cb⟩, .int .i64 0]) (by simp [results, Tryz.results38, go_sem, cellOf h1]) rfl ⟨(HBW.out.trans (hBL.out.mono HBW.out.size)).trans (h2 _), fun h => absurd HE0.out h, fun _ => ⟨_, rfl, ?_⟩⟩
      exact HRI.out.same fun b hb => ⟨by rw [h4]; exact ⟨hb.1, hb.2.1⟩, h3 _ b hb.2.2⟩
    · have Q := hid q
      go_wp2_with (first
        | (go_at_call 70; refine HA.out.mono ?_; rintro x w2 ⟨hb2, _, g1⟩; obtain ⟨sa, sc, hx, hsi⟩ := g1 M.out; rw [hx]; rw [← HWBE.out] at hb2 hsi; have k1 := heapAlloc (.cells #[.int .i64 e0, .slice sa 1 sc] 39) (heapExt hb2 O.out.1); have x0 := cellOf k1 0; have x1 := cellOf k1 1; have x2 := cellOf k1 2; have x3 := cellOf k1 3; have x4 := cellOf k1 4; have x5 := cellOf k1 5; clear hx k1)
        | (go_at_call 71; refine (HBD'.out _ (hb2.alloc hb2.size _)).mono ?_; rintro x w3 ⟨rfl, hb3⟩; have hb3' := (hb2.alloc hb2.size (.cells #[.int .i64 e0, .slice sa 1 sc] 39)).trans (hb3.mono (Nat.le_trans hb2.size (by simp))); have k0 := heapExt hb3' O.out.2; have z0 := cellOf k0 0; have y0 := freeOf k0 0; have z1 := cellOf k0 1; have y1 := freeOf k0 1; have z2 := cellOf k0 2; have y2 := freeOf k0 2; have z3 := cellOf k0 3; have y3 := freeOf k0 3; have z4 := cellOf k0 4; have y4 := freeOf k0 4; have z5 := cellOf k0 5; have y5 := freeOf k0 5; have z6 := cellOf k0 6; have y6 := freeOf k0 6; have z7 := cellOf k0 7; have y7 := freeOf k0 7; have z8 := cellOf k0 8; have y8 := freeOf k0 8; have z9 := cellOf k0 9; have y9 := freeOf k0 9; (try dsimp only at z0 z1 z2 z3 z4 z5 z6 z7 z8 z9); have K0 := hid k0; clear k0 x0 x1 x2 x3 x4 x5))
      have h1 := setTen_heap (c := ⟨⟨0, none, 0, 0⟩, 0, none, 0, 0, ⟨0, 0, 0, ⟨#[]⟩, none, 0, 0, none, 0, 0⟩⟩) K0.out
      have hbb := hb3'.size
      have hsw := HSW.out
      have h2 := (HBWB.out.trans (hb3'.mono HBWB.out.size)).trans (setTen_below (c := ⟨⟨0, none, 0, 0⟩, 0, none, 0, 0, ⟨0, 0, 0, ⟨#[]⟩, none, 0, 0, none, 0, 0⟩⟩) _ (w.heap.size + 1) w.heap.size (by omega))
      dsimp only [setTen] at h1 h2
      exact bodyPost_ret (v := .tuple #[zeroMsg, .int .i64 u]) (by simp [results, Tryz.results38, go_sem, cellOf h1]) rfl ⟨h2, fun _ => by rw [HE.out, HU.out], fun h => absurd (HU.out.trans (HE.out.symm.trans h)) Q.out⟩
end Go.Proofs.YtcejackabdmpkaaGreatDoor
