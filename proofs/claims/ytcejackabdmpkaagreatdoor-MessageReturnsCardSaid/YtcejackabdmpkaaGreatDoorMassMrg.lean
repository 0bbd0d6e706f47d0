/-
  Plain: slices of things of any kind of n cells, read or built by appending; stamps and fates as such things. No program in sight.
-/
import Derived.Test.YtcejackabdmpkaaGreatDoorG5Mrg
import Derived.Test.YtcejackabdmpkaaGreatDoorG9Mrg
import Derived.Sort.CutIn
namespace Go.Proofs.YtcejackabdmpkaaGreatDoor
open Go Go.RowKit
set_option linter.unusedVariables false
set_option linter.unusedSimpArgs false

/-- A kind of thing: its cells C, its data D, how many cells and bytes an element has, and when the cells are those of the data. -/
structure Kit (C D : Type) where
  n : Nat
  by' : Nat
  cs : C → List Value
  len : ∀ c, (cs c).length = n
  pos : 0 < n
  Is : (Nat → Prop) → World → C → D → Prop
  same : ∀ {S S' : Nat → Prop} {w w' : World} {c : C} {d : D}, (∀ b, S b → S' b ∧ w'.heap[b]? = w.heap[b]?) → Is S w c d → Is S' w' c d

section
variable {C D : Type} (K : Kit C D)

def AtG (w : World) (b o : Nat) (c : C) : Prop := ∀ i, i < K.n → w.cell? ⟨b, o + i, none⟩ = (K.cs c)[i]?
variable {K}
theorem AtG.same {w w' : World} {b o : Nat} {c : C} (h : AtG K w b o c) (hb : w'.heap[b]? = w.heap[b]?) : AtG K w' b o c :=
  fun i hi => (World.cell?_of_block (w := w) (a := ⟨b, o + i, none⟩) hb).trans (h i hi)
theorem AtG.ofRow {w : World} {base : Nat} {e : TypeId} {g : Nat} {n cap : Nat} {cs : List C} (h : w.ownsRow base e K.n (.slice (some ⟨g, 0, none⟩) n cap) n (cs.flatMap K.cs)) (j : Nat) (hj : j < cs.length) : AtG K w g (j * K.n) cs[j] := by
  have hc := h.cells (g := g) rfl
  intro i hi
  have hl := K.len cs[j]
  have h1 : (K.cs cs[j])[i]? = some ((K.cs cs[j])[i]'(by omega)) := List.getElem?_eq_getElem (by omega)
  have := hc (j * K.n + i) _ ((flat_get K.cs K.n K.len cs j i hj hi).trans h1)
  rw [show (⟨g, 0, none⟩ : Addr).add (j * K.n + i) = ⟨g, j * K.n + i, none⟩ by unfold Addr.add; split <;> simp_all] at this
  rw [this, h1]
variable (K)
/-- A slice that can be read. -/
structure IsRow (S : Nat → Prop) (w : World) (a : Option Addr) (n c : Nat) (l : List D) : Prop where
  len : n = l.length
  cap : n ≤ c
  big : n * K.by' ≤ 140737488351232
  at' : l = [] ∨ ∃ b o, a = some ⟨b, o, none⟩ ∧ S b ∧ ∀ (j : Nat) (h : j < l.length), ∃ x : C, AtG K w b (o + j * K.n) x ∧ K.Is S w x l[j]
variable {K}
theorem IsRow.same {S S' : Nat → Prop} {w w' : World} {a : Option Addr} {n c : Nat} {l : List D} (hs : ∀ b, S b → S' b ∧ w'.heap[b]? = w.heap[b]?) (h : IsRow K S w a n c l) : IsRow K S' w' a n c l :=
  ⟨h.len, h.cap, h.big, h.at'.imp id fun ⟨b, o, ha, hb, hx⟩ => ⟨b, o, ha, (hs b hb).1, fun j hj => by
    obtain ⟨x, h1, h2⟩ := hx j hj
    exact ⟨x, h1.same (hs b hb).2, K.same hs h2⟩⟩⟩
theorem IsRow.slot {S : Nat → Prop} {w : World} {a : Option Addr} {n c : Nat} {l : List D} (h : IsRow K S w a n c l) (hn : 0 < n) : ∃ b o, a = some ⟨b, o, none⟩ ∧ S b ∧ ∀ (j : Nat) (h : j < l.length), ∃ x : C, AtG K w b (o + j * K.n) x ∧ K.Is S w x l[j] := by
  rcases h.at' with h0 | h1
  · exact absurd h.len (by rw [h0]; simp; omega)
  · exact h1
variable (K)
/-- The slice v of k things, built by the call in blocks from B on: its elements are the first k of l, in blocks that are not v's own row. -/
def Built (T B : Nat) (w : World) (v : Value) (k : Nat) (l : List D) : Prop :=
  ∃ cs : List C, cs.length = k ∧ w.ownsRow B T K.n v k (cs.flatMap K.cs) ∧ ∀ j (h : j < cs.length) (h' : j < l.length), K.Is (fun b => B ≤ b ∧ b < w.heap.size ∧ some b ≠ v.ownBlock) w cs[j] l[j]
variable {K}
theorem Built.nil (T B : Nat) (w : World) (l : List D) : Built K T B w (.slice none 0 0) 0 l := ⟨[], rfl, World.ownsRow_nil _ _ _ _, fun j h => by simp at h⟩
theorem Built.ext {T B : Nat} {w w' : World} {v : Value} {k : Nat} {l : List D} (h : Built K T B w v k l) (hb : Below w.heap.size w w') : Built K T B w' v k l := by
  obtain ⟨cs, h1, h2, h3⟩ := h
  exact ⟨cs, h1, ownExt h2 hb, fun j hj hj' => K.same (fun b hb' => ⟨⟨hb'.1, by have := hb.size; omega, hb'.2.2⟩, hb.block b hb'.2.1⟩) (h3 j hj hj')⟩
theorem Built.set {T B : Nat} {w : World} {v : Value} {k : Nat} {l : List D} (h : Built K T B w v k l) (a : Addr) (u : Value) (ha : a.block < B) : Built K T B (w.setCell a u) v k l := by
  obtain ⟨cs, h1, h2, h3⟩ := h
  exact ⟨cs, h1, ownsRow_setCell_below h2 ha u, fun j hj hj' => K.same (fun b hb' => ⟨⟨hb'.1, by simpa [World.setCell] using hb'.2.1, hb'.2.2⟩, Below.heap_setCell _ _ _ _ (by omega)⟩) (h3 j hj hj')⟩
/-- What lies outside of a built row stays, whatever the call does from its own blocks on. -/
theorem Built.own {T B : Nat} {w : World} {v : Value} {k : Nat} {l : List D} (h : Built K T B w v k l) : ∀ r, v.ownBlock = some r → B ≤ r ∧ r < w.heap.size := by
  obtain ⟨_, _, h2, _⟩ := h
  exact h2.lt
theorem Built.shape {T B : Nat} {w : World} {v : Value} {k : Nat} {l : List D} (h : Built K T B w v k l) : ∃ a cap, v = .slice a k cap ∧ k ≤ cap ∧ (a = none → k = 0) ∧ ∀ r, v.ownBlock = some r → B ≤ r ∧ r < w.heap.size := by
  obtain ⟨cs, h1, h2, h3⟩ := h
  have hlt := h2.lt
  rcases h2.2 with ⟨rfl, rfl⟩ | ⟨g, cap, cur, rfl, hb, hg, hn, _⟩
  · exact ⟨none, 0, rfl, Nat.le_refl _, fun _ => rfl, hlt⟩
  · exact ⟨_, cap, rfl, hn, fun h => by simp at h, hlt⟩
/-- One more, behind the law on append: the element was laid in a block of its own first. -/
theorem Built.push {T B N : Nat} {w1 w2 : World} {v : Value} {k : Nat} {l : List D} {cs : List C} {c : C} {o : Obj} {g cap : Nat} (hcs : cs.length = k)
    (hel : ∀ j (h : j < cs.length) (h' : j < l.length), K.Is (fun b => B ≤ b ∧ b < w1.heap.size ∧ some b ≠ v.ownBlock) w1 cs[j] l[j])
    (hk : k < l.length) (hc : K.Is (fun b => N ≤ b ∧ b < w1.heap.size) w1 c l[k]) (hN : B ≤ N) (hv : ∀ r, v.ownBlock = some r → r < N)
    (hown : w2.ownsRow B T K.n (.slice (some ⟨g, 0, none⟩) (k + 1) cap) (k + 1) (cs.flatMap K.cs ++ K.cs c)) (hgrow : (w1.alloc o).grownBy w2 v.ownBlock) (hat : v.ownBlock = some g ∨ g = w1.heap.size + 1) :
    Built K T B w2 (.slice (some ⟨g, 0, none⟩) (k + 1) cap) (k + 1) l := by
  have hsz : w1.heap.size + 1 ≤ w2.heap.size := by have := hgrow.size; simpa using this
  have hst : ∀ b, b < w1.heap.size → some b ≠ v.ownBlock → w2.heap[b]? = w1.heap[b]? := fun b hb hne =>
    (hgrow.block b (by simp; omega) hne).trans (Below.heap_alloc _ _ _ hb)
  have hg : ∀ b, b < w1.heap.size → some b ≠ v.ownBlock → some b ≠ (Value.slice (some ⟨g, 0, none⟩) (k + 1) cap).ownBlock := fun b hb hne e => by
    simp only [Value.ownBlock, Option.some.injEq] at e
    subst e
    rcases hat with h | h
    · exact hne h.symm
    · omega
  refine ⟨cs ++ [c], by simp [hcs], by simpa using hown, fun j hj hj' => ?_⟩
  by_cases hjk : j < cs.length
  · rw [List.getElem_append_left hjk]
    exact K.same (fun b hb => ⟨⟨hb.1, by omega, hg b hb.2.1 hb.2.2⟩, hst b hb.2.1 hb.2.2⟩) (hel j hjk hj')
  · obtain rfl : j = k := by simp at hj; omega
    rw [List.getElem_append_right (by omega)]
    simp only [hcs, Nat.sub_self, List.getElem_cons_zero]
    have hne : ∀ b, N ≤ b → some b ≠ v.ownBlock := fun b hb e => by have := hv b e.symm; omega
    exact K.same (fun b hb => ⟨⟨by omega, by omega, hg b hb.2 (hne b hb.1)⟩, hst b hb.2 (hne b hb.1)⟩) hc
theorem Built.row {T B : Nat} {w : World} {a : Option Addr} {cap : Nat} {l : List D} (h : Built K T B w (.slice a l.length cap) l.length l) (hbig : l.length * K.by' ≤ 140737488351232) : IsRow K (fun b => B ≤ b ∧ b < w.heap.size) w a l.length cap l := by
  obtain ⟨_, cap', hv, hcap, _⟩ := h.shape
  simp only [Value.slice.injEq] at hv
  obtain ⟨rfl, _, rfl⟩ := hv
  obtain ⟨cs, h1, h2, h3⟩ := h
  refine ⟨rfl, hcap, hbig, ?_⟩
  rcases h2.2 with ⟨h4, h5⟩ | ⟨g, cap', cur, hv, hb, hg, _⟩
  · exact .inl (List.eq_nil_of_length_eq_zero h5)
  · simp only [Value.slice.injEq] at hv
    obtain ⟨rfl, _, rfl⟩ := hv
    refine .inr ⟨g, 0, rfl, ⟨hb, ltOf hg⟩, fun j hj => ⟨cs[j]'(by omega), ?_, ?_⟩⟩
    · rw [Nat.zero_add]; exact AtG.ofRow h2 j (by omega)
    · exact K.same (fun b hb => ⟨⟨hb.1, hb.2.1⟩, rfl⟩) (h3 j (by omega) hj)
end

/-! ### Stamps, messages, fates as such things -/
def SC.cs (c : SC) : List Value := [.int .i64 c.e, .slice c.a c.n c.c]
@[reducible] def stK : Kit SC St := ⟨2, 32, SC.cs, fun _ => rfl, by decide, IsSt, fun hs h => h.same hs⟩
@[reducible] def msgK : Kit MC Msg := ⟨10, 152, MC.cs, fun _ => rfl, by decide, IsMsg, fun hs h => h.same hs⟩
@[reducible] def valK : Kit VC Val := ⟨6, 88, VC.cs, fun _ => rfl, by decide, IsVal, fun hs h => h.same hs⟩

structure Fate where
  st : St
  k : Int
  node : ByteArray
  into : List St
  text : ByteArray
structure FtC where
  st : SC
  k : Int
  node : ByteArray
  a : Option Addr
  n : Nat
  c : Nat
  text : ByteArray
abbrev FtC.v (c : FtC) : Value := .agg #[.int .i64 c.st.e, .slice c.st.a c.st.n c.st.c, .int .i64 c.k, .string c.node, .slice c.a c.n c.c, .string c.text]
def FtC.cs (c : FtC) : List Value := [.int .i64 c.st.e, .slice c.st.a c.st.n c.st.c, .int .i64 c.k, .string c.node, .slice c.a c.n c.c, .string c.text]
structure IsFt (S : Nat → Prop) (w : World) (c : FtC) (d : Fate) : Prop where
  st : IsSt S w c.st d.st
  k : c.k = d.k
  node : c.node = d.node
  into : IsRow stK S w c.a c.n c.c d.into
  text : c.text = d.text
theorem IsFt.same {S S' : Nat → Prop} {w w' : World} {c : FtC} {d : Fate} (hs : ∀ b, S b → S' b ∧ w'.heap[b]? = w.heap[b]?) (h : IsFt S w c d) : IsFt S' w' c d := ⟨h.st.same hs, h.k, h.node, h.into.same hs, h.text⟩
@[reducible] def ftK : Kit FtC Fate := ⟨6, 96, FtC.cs, fun _ => rfl, by decide, IsFt, fun hs h => h.same hs⟩
section
variable {C D : Type} {K : Kit C D}
theorem Built.row' {T B : Nat} {w : World} {v : Value} {k : Nat} {l : List D} (h : Built K T B w v k l) (hk : k = l.length) (hbig : k * K.by' ≤ 140737488351232) : ∃ a cap, v = .slice a k cap ∧ IsRow K (fun b => B ≤ b ∧ b < w.heap.size) w a k cap l := by
  subst hk
  obtain ⟨a, cap, rfl, _⟩ := h.shape
  exact ⟨a, cap, rfl, h.row hbig⟩
end
/-- Lists that are alike, place by place. -/
def eqL {D : Type} (f : D → D → Bool) : List D → List D → Bool
  | [], [] => true
  | a :: r, b :: s => f a b && eqL f r s
  | [], _ :: _ => false
  | _ :: _, [] => false
theorem eqL_len {D : Type} {f : D → D → Bool} : ∀ {a b : List D}, a.length ≠ b.length → eqL f a b = false
  | [], [], h => absurd rfl h
  | [], _ :: _, _ => rfl
  | _ :: _, [], _ => rfl
  | x :: a, y :: b, h => by rw [eqL, eqL_len (a := a) (b := b) (by simpa using h)]; simp
theorem eqL_of {D : Type} {f : D → D → Bool} : ∀ {a b : List D}, a.length = b.length → (∀ j (h1 : j < a.length) (h2 : j < b.length), f a[j] b[j] = true) → eqL f a b = true
  | [], [], _, _ => rfl
  | [], _ :: _, h, _ => by simp at h
  | _ :: _, [], h, _ => by simp at h
  | x :: a, y :: b, h, g => by
    rw [eqL, eqL_of (a := a) (b := b) (by simpa using h) (fun j h1 h2 => g (j + 1) (Nat.succ_lt_succ h1) (Nat.succ_lt_succ h2))]
    have := g 0 (by simp) (by simp)
    simpa using this
theorem eqL_ne {D : Type} {f : D → D → Bool} : ∀ {a b : List D} (j : Nat) (h1 : j < a.length) (h2 : j < b.length), f a[j] b[j] = false → eqL f a b = false
  | [], [], _, h1, _, _ => by simp at h1
  | [], _ :: _, _, h1, _, _ => by simp at h1
  | _ :: _, [], _, _, h2, _ => by simp at h2
  | x :: a, y :: b, 0, _, _, h => by rw [eqL]; simp at h; simp [h]
  | x :: a, y :: b, j + 1, h1, h2, h => by rw [eqL, eqL_ne (a := a) (b := b) j (Nat.lt_of_succ_lt_succ h1) (Nat.lt_of_succ_lt_succ h2) h]; simp
theorem eqL_refl {D : Type} {f : D → D → Bool} (hf : ∀ d, f d d = true) (a : List D) : eqL f a a = true := eqL_of rfl fun _ _ _ => hf _
theorem eqL_symm {D : Type} {f : D → D → Bool} (hf : ∀ d e, f d e = f e d) : ∀ (a b : List D), eqL f a b = eqL f b a
  | [], [] => rfl
  | [], _ :: _ => rfl
  | _ :: _, [] => rfl
  | x :: a, y :: b => by rw [eqL, eqL, hf x y, eqL_symm hf a b]

/-- The stamp's two cells at a place. -/
theorem AtG.two {w : World} {b o : Nat} {c : SC} (h : AtG stK w b o c) : w.cell? ⟨b, o, none⟩ = some (.int .i64 c.e) ∧ w.cell? ⟨b, o + 1, none⟩ = some (.slice c.a c.n c.c) := ⟨h 0 (by decide), h 1 (by decide)⟩
theorem AtG.six {w : World} {b o : Nat} {c : FtC} (h : AtG ftK w b o c) : w.cell? ⟨b, o, none⟩ = some (.int .i64 c.st.e) ∧ w.cell? ⟨b, o + 1, none⟩ = some (.slice c.st.a c.st.n c.st.c) ∧ w.cell? ⟨b, o + 2, none⟩ = some (.int .i64 c.k) ∧ w.cell? ⟨b, o + 3, none⟩ = some (.string c.node) ∧ w.cell? ⟨b, o + 4, none⟩ = some (.slice c.a c.n c.c) ∧ w.cell? ⟨b, o + 5, none⟩ = some (.string c.text) :=
  ⟨h 0 (by decide), h 1 (by decide), h 2 (by decide), h 3 (by decide), h 4 (by decide), h 5 (by decide)⟩
theorem AtM.g {w : World} {b o : Nat} {c : MC} (h : AtM w b o c) : AtG msgK w b o c := fun i hi => by
  match i, hi with
  | 0, _ => exact h.e
  | 1, _ => exact h.p
  | 2, _ => exact h.m
  | 3, _ => exact h.es
  | 4, _ => exact h.k
  | 5, _ => exact h.i
  | 6, _ => exact h.s
  | 7, _ => exact h.t
  | 8, _ => exact h.l
  | 9, _ => exact h.f
theorem AtG.m {w : World} {b o : Nat} {c : MC} (h : AtG msgK w b o c) : AtM w b o c :=
  ⟨h 0 (by decide), h 1 (by decide), h 2 (by decide), h 3 (by decide), h 4 (by decide), h 5 (by decide), h 6 (by decide), h 7 (by decide), h 8 (by decide), h 9 (by decide)⟩
theorem IsRow.msgs {S : Nat → Prop} {w : World} {a : Option Addr} {n c : Nat} {l : List Msg} (h : IsRow msgK S w a n c l) : IsMsgs S w a n c l :=
  ⟨h.len, h.cap, h.big, h.at'.imp id fun ⟨b, o, ha, hb, hx⟩ => ⟨b, o, ha, hb, fun j hj => by obtain ⟨x, h1, h2⟩ := hx j hj; exact ⟨x, h1.m, h2⟩⟩⟩
theorem IsMsgs.row {S : Nat → Prop} {w : World} {a : Option Addr} {n c : Nat} {l : List Msg} (h : IsMsgs S w a n c l) : IsRow msgK S w a n c l :=
  ⟨h.len, h.cap, h.big, h.at'.imp id fun ⟨b, o, ha, hb, hx⟩ => ⟨b, o, ha, hb, fun j hj => by obtain ⟨x, h1, h2⟩ := hx j hj; exact ⟨x, h1.g, h2⟩⟩⟩
def IdxPost (w : World) (p : Bool) (e : Ending) (w' : World) : Prop := (∃ k : Int, e = .returned (.int .i64 k) ∧ (0 ≤ k ↔ p = true)) ∧ Below w.heap.size w w'
end Go.Proofs.YtcejackabdmpkaaGreatDoor

/-
  message.Mass: the sum of the masses. Conditions: the messages can be read as data.
-/
namespace Go.Proofs.YtcejackabdmpkaaGreatDoor
open Go Go.RowKit Go.Shelf
set_option linter.unusedVariables false
set_option linter.unusedSimpArgs false

def sumM : List Msg → Int
  | [] => 0
  | x :: r => x.m + sumM r
theorem sumM_append : ∀ (l r : List Msg), sumM (l ++ r) = sumM l + sumM r
  | [], r => by simp [sumM]
  | x :: l, r => by rw [List.cons_append, sumM, sumM, sumM_append l r]; omega
theorem sumM_take (l : List Msg) (k : Nat) (h : k < l.length) : sumM (l.take (k + 1)) = sumM (l.take k) + l[k].m := by
  rw [List.take_succ_eq_append_getElem h, sumM_append]
  simp [sumM]
def anyHv (l : List Msg) : Bool := l.any fun m => heavyB m.m
theorem anyHv_get {l : List Msg} (h : anyHv l = false) (k : Nat) (hk : k < l.length) : 0 ≤ l[k].m ∧ l[k].m ≤ 1099511627776 := by
  have h1 : ∀ m ∈ l, heavyB m.m = false := fun m hm => by
    rw [anyHv, List.any_eq_false] at h
    simpa using h m hm
  have h2 := h1 _ (List.getElem_mem hk)
  simp [heavyB] at h2
  omega
theorem sumM_in {l : List Msg} (h : anyHv l = false) : ∀ (k : Nat), k ≤ l.length → 0 ≤ sumM (l.take k) ∧ sumM (l.take k) ≤ (k : Int) * 1099511627776
  | 0, _ => by simp [sumM]
  | k + 1, hk => by
    have h1 := sumM_in h k (by omega)
    have h2 := anyHv_get h k (by omega)
    rw [sumM_take l k (by omega)]
    omega
/-- The sum of the masses, or 0. -/
def massL (l : List Msg) : Int := if 1024 < l.length ∨ anyHv l = true then 0 else sumM l

set_option maxRecDepth 100000 in
theorem mass1_call (x : MC) (d : Msg) (w : World) (hd : IsMsg (· < w.heap.size) w x d) : Calls Tryz.prog 54 #[x.v] w fun e w' => e = .returned (.bool (heavyB d.m)) ∧ Below w.heap.size w w' := by
  have hb : Below w.heap.size w (w.alloc (mObj x)) := (Below.refl _ w).alloc (Nat.le_refl _) _
  have g1 := heap_alloc_new w (mObj x)
  have e2 := cellOf g1 2
  (try dsimp only [mObj] at e2)
  have HM : Hid (∀ w', Calls Tryz.prog 51 #[.int .i64 x.m] w' fun e w2 => e = .returned (.bool (heavyB d.m)) ∧ w' = w2) := hid fun w' => by rw [← hd.m]; exact heavy_call x.m w'
  have HB := hid hb
  clear hb hd g1
  dsimp only [mObj, MC.v] at HB e2 ⊢
  go_enter Tryz.func54, Tryz.ntmps54
  go_wp2_with (go_at_call 51; refine (HM.out _).mono ?_; rintro e w2 ⟨rfl, rfl⟩)
  go_ret
  exact ⟨rfl, HB.out⟩
set_option maxRecDepth 100000 in
set_option maxHeartbeats 4000000 in
theorem idxHv_call (a : Option Addr) (n c : Nat) (l : List Msg) (w : World) (hd : IsRow msgK (· < w.heap.size) w a n c l) : Calls Tryz.prog 97 #[.slice a n c, .func (.func 54) #[] #[]] w (IdxPost w (anyHv l)) := by
  have hen : ∀ args w, (callFunc 54 args).run Tryz.prog w = .ok (.enter 54 args) w := enters_of Tryz.func54 (by kernel_rfl) rfl
  have hbig := hd.big
  have HL := hid hd.len
  have HD := hid hd
  clear hd
  go_enter Tryz.func97, Tryz.ntmps97
  go_wp2
  go_loopw [8] (fun i wr => ∃ k : Nat, k ≤ n ∧ i = .int .i64 k ∧ (∀ j (hj : j < l.length), j < k → heavyB l[j].m = false) ∧ Below w.heap.size w wr) (fun i _ => n - (intOf i).toNat)
  case atStart => exact ⟨0, Nat.zero_le _, rfl, fun j _ h => absurd h (Nat.not_lt_zero j), Below.refl _ _⟩
  case round =>
    obtain ⟨k, hk, rfl, hall, hbr⟩ := hrel
    obtain ⟨wp, rfl⟩ : ∃ w1 : World, w1 = wr := ⟨_, rfl⟩
    have HA := hid hall
    have HBR := hid hbr
    clear hall
    by_cases hlt : k < n
    · have hkl : k < l.length := by have := HL.out; omega
      obtain ⟨b, o, rfl, hb, hx⟩ := HD.out.slot (show 0 < n by omega)
      obtain ⟨x, hxa, hxi⟩ := hx k hkl
      obtain ⟨x0, x1, x2, x3, x4, x5, x6, x7, x8, x9⟩ := (hxa.same (hbr.block b hb)).m
      have hlt' : (k : Int) < (n : Int) := by omega
      have hk0 : (0 : Int) ≤ (k : Int) := by omega
      have hn63 : (n : Int) ≤ 9223372036854775807 := by omega
      obtain ⟨u, hu⟩ : ∃ u, u = heavyB l[k].m := ⟨_, rfl⟩
      have HC : Hid (Calls Tryz.prog 54 #[x.v] wp fun e w' => e = .returned (.bool u) ∧ Below wp.heap.size wp w') := hid (by
        rw [hu]
        have hs := hbr.size
        exact mass1_call x l[k] wp (msgK.same (fun b q => ⟨by omega, hbr.block b q⟩) hxi))
      have HU := hid hu
      dsimp only [MC.v] at HC
      clear hu hx hxa hxi hbr hb
      cases u with
      | true =>
        go_wp2_with (go_at_call 54; refine HC.out.mono ?_; rintro e w3 ⟨rfl, hb3⟩)
        go_ret
        exact ⟨⟨k, rfl, ⟨fun _ => by rw [anyHv, List.any_eq_true]; exact ⟨_, List.getElem_mem hkl, HU.out.symm⟩, fun _ => by omega⟩⟩, HBR.out.trans (hb3.mono HBR.out.size)⟩
      | false =>
        go_wp2_with (go_at_call 54; refine HC.out.mono ?_; rintro e w3 ⟨rfl, hb3⟩)
        go_roundw
        case rel => exact ⟨k + 1, by omega, by go_num, fun j hj h => by
          by_cases hjk : j < k
          · exact HA.out j hj hjk
          · obtain rfl : j = k := by omega
            exact HU.out.symm, HBR.out.trans (hb3.mono HBR.out.size)⟩
        case measure => simp [intOf]; omega
    · obtain rfl : k = n := by omega
      go_wp2
      go_ret
      refine ⟨⟨-1, rfl, ⟨fun h => by omega, fun h => ?_⟩⟩, hbr⟩
      exfalso
      rw [anyHv, List.any_eq_true] at h
      obtain ⟨m, hm, he⟩ := h
      obtain ⟨j, hj, rfl⟩ := List.getElem_of_mem hm
      rw [HA.out j hj (by have := HL.out; omega)] at he
      cases he
theorem hasHv_call (a : Option Addr) (n c : Nat) (l : List Msg) (w : World) (hd : IsRow msgK (· < w.heap.size) w a n c l) : Calls Tryz.prog 53 #[.slice a n c, .func (.func 54) #[] #[]] w fun e w' => e = .returned (.bool (anyHv l)) ∧ Below w.heap.size w w' := by
  obtain ⟨p, hp⟩ : ∃ p, p = anyHv l := ⟨_, rfl⟩
  have hc := idxHv_call a n c l w hd
  rw [← hp] at hc ⊢
  have HC := hid hc
  clear hc hd hp
  go_enter Tryz.func53, Tryz.ntmps53
  cases p with
  | true =>
    go_wp2_with (go_at_call 97; refine HC.out.mono ?_; rintro e w2 ⟨⟨k, rfl, hk⟩, hb2⟩; have hk0 : 0 ≤ k := hk.2 rfl; clear hk)
    go_ret
    exact ⟨rfl, hb2⟩
  | false =>
    go_wp2_with (go_at_call 97; refine HC.out.mono ?_; rintro e w2 ⟨⟨k, rfl, hk⟩, hb2⟩; have hk0 : k < 0 := Int.not_le.1 (fun h => absurd (hk.1 h) (by decide)); have hk1 : decide (0 ≤ k) = false := decide_eq_false (by omega); clear hk)
    go_ret
    exact ⟨rfl, hb2⟩
set_option maxRecDepth 100000 in
set_option maxHeartbeats 4000000 in
theorem mass_call (a : Option Addr) (n c : Nat) (l : List Msg) (w : World) (hd : IsRow msgK (· < w.heap.size) w a n c l) : Calls Tryz.prog 25 #[.slice a n c] w fun e w' => e = .returned (.int .i64 (massL l)) ∧ Below w.heap.size w w' := by
  have hbig := hd.big
  have HL := hid hd.len
  have HD := hid hd
  obtain ⟨p, hp⟩ : ∃ p, p = anyHv l := ⟨_, rfl⟩
  have HP := hid hp
  have HCF : Hid (Calls Tryz.prog 53 #[.slice a n c, .func (.func 54) #[] #[]] w fun e w' => e = .returned (.bool p) ∧ Below w.heap.size w w') := hid (by rw [hp]; exact hasHv_call a n c l w hd)
  clear hd hp
  go_enter Tryz.func25, Tryz.ntmps25
  by_cases hbl : 1024 < n
  · have hbl' : (1024 : Int) < (n : Int) := by omega
    have r := hid (show massL l = 0 by rw [massL, if_pos (.inl (by rw [← HL.out]; exact hbl))])
    go_wp2
    go_ret
    exact ⟨retI r.out.symm, Below.refl _ _⟩
  have hbl' : ¬ (1024 : Int) < (n : Int) := by omega
  cases p with
  | true =>
    have r := hid (show massL l = 0 by rw [massL, if_pos (.inr HP.out.symm)])
    go_wp2_with (go_at_call 53; refine HCF.out.mono ?_; rintro e w2 ⟨rfl, hb2⟩)
    go_ret
    exact ⟨retI r.out.symm, hb2⟩
  | false =>
    have r := hid (show massL l = sumM l by rw [massL, if_neg (fun h => by rcases h with h | h; exact hbl (by rw [HL.out]; exact h); rw [← HP.out] at h; cases h)])
    go_wp2_with (go_at_call 53; refine HCF.out.mono ?_; rintro e w2 ⟨rfl, hb2⟩)
    have HB2 := hid hb2
    clear hb2
    go_loopw [3, 15] (fun vv i wr => ∃ (k : Nat) (z : Int), vv = .int .i64 z ∧ k ≤ n ∧ i = .int .i64 k ∧ z = sumM (l.take k) ∧ Below w.heap.size w wr) (fun _ i _ => n - (intOf i).toNat)
    case atStart => exact ⟨0, 0, rfl, Nat.zero_le _, rfl, (by rw [List.take_zero]; rfl), HB2.out⟩
    case round =>
    obtain ⟨k, z, rfl, hk, rfl, hz, hbr⟩ := hrel
    obtain ⟨wp, rfl⟩ : ∃ w1 : World, w1 = wr := ⟨_, rfl⟩
    have HZ := hid hz
    have HBR := hid hbr
    clear hz
    by_cases hlt : k < n
    · have hkl : k < l.length := by have := HL.out; omega
      obtain ⟨b, o, rfl, hb, hx⟩ := HD.out.slot (show 0 < n by omega)
      obtain ⟨x, hxa, hxi⟩ := hx k hkl
      obtain ⟨x0, x1, x2, x3, x4, x5, x6, x7, x8, x9⟩ := (hxa.same (hbr.block b hb)).m
      have hlt' : (k : Int) < (n : Int) := by omega
      have hk0 : (0 : Int) ≤ (k : Int) := by omega
      have HXM := hid (show x.m = l[k].m from hxi.m)
      have hin := sumM_in HP.out.symm k (by omega)
      have hget := anyHv_get HP.out.symm k hkl
      rw [← HZ.out] at hin
      rw [← HXM.out] at hget
      have hwr : IntKind.i64.wrap (z + x.m) = z + x.m := IntWalk.i64_in _ (by omega)
      have hg := heap_alloc_new wp (.cells #[.int .i64 x.st.e, .slice x.st.a x.st.n x.st.c, .int .i64 x.m, .slice x.a x.n x.c, .int .i64 x.b.k, .int .i64 x.b.i, .int .i64 x.b.s, .string x.b.t, .slice x.b.la x.b.ll x.b.lc, .slice x.b.fa x.b.fl x.b.fc] 41)
      have m2 := cellOf hg 2
      (try dsimp only at m2)
      clear hx hxa hxi hb hg hbr hin hget
      go_wp2
      go_roundw
      case rel => exact ⟨k + 1, z + x.m, rfl, by omega, by go_num, by rw [sumM_take l k hkl, ← HZ.out, HXM.out], HBR.out.alloc HBR.out.size _⟩
      case measure => simp [intOf]; omega
    · obtain rfl : k = n := by omega
      have r2 := hid (show z = sumM l by rw [HZ.out, show k = l.length from HL.out, List.take_length])
      clear hbr
      go_wp2
      go_ret
      exact ⟨retI (by rw [r2.out, r.out]), HBR.out⟩

end Go.Proofs.YtcejackabdmpkaaGreatDoor
