/-
  Plain: slices of messages, read or built by appending. No program in sight.
-/
import Derived.Test.YtkljbfaemahchaaGreatDoorET2Mrg
namespace Go.Proofs.YtkljbfaemahchaaGreatDoor
set_option linter.unusedVariables false
set_option linter.unusedSimpArgs false
section
open Go Go.RowKit
def MC.cs (c : MC) : List Value := [.int .i64 c.st.e, .slice c.st.a c.st.n c.st.c, .int .i64 c.m, .slice c.a c.n c.c, .int .i64 c.b.k, .int .i64 c.b.i, .int .i64 c.b.s, .string c.b.t, .slice c.b.la c.b.ll c.b.lc, .slice c.b.fa c.b.fl c.b.fc]
structure AtM (w : World) (b o : Nat) (c : MC) : Prop where
  e : w.cell? ⟨b, o, none⟩ = some (.int .i64 c.st.e)
  p : w.cell? ⟨b, o + 1, none⟩ = some (.slice c.st.a c.st.n c.st.c)
  m : w.cell? ⟨b, o + 2, none⟩ = some (.int .i64 c.m)
  es : w.cell? ⟨b, o + 3, none⟩ = some (.slice c.a c.n c.c)
  k : w.cell? ⟨b, o + 4, none⟩ = some (.int .i64 c.b.k)
  i : w.cell? ⟨b, o + 5, none⟩ = some (.int .i64 c.b.i)
  s : w.cell? ⟨b, o + 6, none⟩ = some (.int .i64 c.b.s)
  t : w.cell? ⟨b, o + 7, none⟩ = some (.string c.b.t)
  l : w.cell? ⟨b, o + 8, none⟩ = some (.slice c.b.la c.b.ll c.b.lc)
  f : w.cell? ⟨b, o + 9, none⟩ = some (.slice c.b.fa c.b.fl c.b.fc)
theorem AtM.same {w w' : World} {b o : Nat} {c : MC} (h : AtM w b o c) (hb : w'.heap[b]? = w.heap[b]?) : AtM w' b o c := by
  have e : ∀ j, w'.cell? ⟨b, j, none⟩ = w.cell? ⟨b, j, none⟩ := fun j => World.cell?_of_block (w := w) (a := ⟨b, j, none⟩) hb
  exact ⟨(e _).trans h.e, (e _).trans h.p, (e _).trans h.m, (e _).trans h.es, (e _).trans h.k, (e _).trans h.i, (e _).trans h.s, (e _).trans h.t, (e _).trans h.l, (e _).trans h.f⟩
structure IsMsgs (S : Nat → Prop) (w : World) (a : Option Addr) (n c : Nat) (l : List Msg) : Prop where
  len : n = l.length
  cap : n ≤ c
  big : n * 152 ≤ 140737488351232
  at' : l = [] ∨ ∃ b o, a = some ⟨b, o, none⟩ ∧ S b ∧ ∀ (j : Nat) (h : j < l.length), ∃ x : MC, AtM w b (o + j * 10) x ∧ IsMsg S w x l[j]
theorem IsMsgs.same {S S' : Nat → Prop} {w w' : World} {a : Option Addr} {n c : Nat} {l : List Msg} (hs : ∀ b, S b → S' b ∧ w'.heap[b]? = w.heap[b]?) (h : IsMsgs S w a n c l) : IsMsgs S' w' a n c l :=
  ⟨h.len, h.cap, h.big, h.at'.imp id fun ⟨b, o, ha, hb, hx⟩ => ⟨b, o, ha, (hs b hb).1, fun j hj => by
    obtain ⟨x, h1, h2⟩ := hx j hj
    exact ⟨x, h1.same (hs b hb).2, h2.same hs⟩⟩⟩
def isC (w : World) (b : Nat) : Prop := ∃ o : Obj, w.heap[b]? = some o ∧ o.isCells = true
theorem isC_cell {w : World} {b o : Nat} {v : Value} (h : w.cell? ⟨b, o, none⟩ = some v) : isC w b := by
  unfold World.cell? at h
  split at h
  · rename_i h1; exact ⟨_, h1, rfl⟩
  · cases h
mutual
theorem IsVal.strong {S : Nat → Prop} {w : World} : ∀ {c : VC} {d : Val}, IsVal S w c d → IsVal (fun b => S b ∧ isC w b) w c d
  | c, .mk k i s t l ns fs, h => by
    obtain ⟨h1, h2, h3⟩ := h
    refine ⟨h1, ?_, ?_⟩
    · rcases h2 with h2 | ⟨b, o, ha, hb, hv⟩
      · exact .inl h2
      · cases l with
        | nil => exact .inl rfl
        | cons d l => exact .inr ⟨b, o, ha, ⟨hb, by obtain ⟨⟨x, hx, _⟩, _⟩ := hv; exact isC_cell hx.k⟩, IsVals.strong hv⟩
    · rcases h3 with h3 | ⟨b, o, ha, hb, hv⟩
      · exact .inl h3
      · cases fs with
        | nil => exact .inl rfl
        | cons d l => exact .inr ⟨b, o, ha, ⟨hb, by obtain ⟨⟨⟨hn, _⟩, _⟩, _⟩ := hv; exact isC_cell hn⟩, IsFlds.strong hv⟩
theorem IsVals.strong {S : Nat → Prop} {w : World} {b : Nat} : ∀ {o : Nat} {l : List Val}, IsVals S w b o l → IsVals (fun b => S b ∧ isC w b) w b o l
  | _, [], _ => trivial
  | o, d :: l, ⟨⟨c, ha, hv⟩, ht⟩ => ⟨⟨c, ha, IsVal.strong hv⟩, IsVals.strong ht⟩
theorem IsFlds.strong {S : Nat → Prop} {w : World} {b : Nat} : ∀ {o : Nat} {ns : List ByteArray} {l : List Val}, IsFlds S w b o ns l → IsFlds (fun b => S b ∧ isC w b) w b o ns l
  | _, _, [], _ => trivial
  | o, ns, d :: l, ⟨⟨hn, c, ha, hv⟩, ht⟩ => ⟨⟨hn, c, ha, IsVal.strong hv⟩, IsFlds.strong ht⟩
end
end
section
open Go Go.RowKit
structure Kit (C D : Type) where
  n : Nat
  by' : Nat
  cs : C → List Value
  len : ∀ c, (cs c).length = n
  pos : 0 < n
  Is : (Nat → Prop) → World → C → D → Prop
  same : ∀ {S S' : Nat → Prop} {w w' : World} {c : C} {d : D}, (∀ b, S b → S' b ∧ w'.heap[b]? = w.heap[b]?) → Is S w c d → Is S' w' c d
section
variable {C D : Type} (K : Kit C D)
def AtG (w : World) (b o : Nat) (c : C) : Prop := ∀ i, i < K.n → w.cell? ⟨b, o + i, none⟩ = (K.cs c)[i]?
variable {K}
theorem AtG.same {w w' : World} {b o : Nat} {c : C} (h : AtG K w b o c) (hb : w'.heap[b]? = w.heap[b]?) : AtG K w' b o c :=
  fun i hi => (World.cell?_of_block (w := w) (a := ⟨b, o + i, none⟩) hb).trans (h i hi)
variable (K)
structure IsRow (S : Nat → Prop) (w : World) (a : Option Addr) (n c : Nat) (l : List D) : Prop where
  len : n = l.length
  cap : n ≤ c
  big : n * K.by' ≤ 140737488351232
  at' : l = [] ∨ ∃ b o, a = some ⟨b, o, none⟩ ∧ S b ∧ ∀ (j : Nat) (h : j < l.length), ∃ x : C, AtG K w b (o + j * K.n) x ∧ K.Is S w x l[j]
variable {K}
theorem IsRow.same {S S' : Nat → Prop} {w w' : World} {a : Option Addr} {n c : Nat} {l : List D} (hs : ∀ b, S b → S' b ∧ w'.heap[b]? = w.heap[b]?) (h : IsRow K S w a n c l) : IsRow K S' w' a n c l :=
  ⟨h.len, h.cap, h.big, h.at'.imp id fun ⟨b, o, ha, hb, hx⟩ => ⟨b, o, ha, (hs b hb).1, fun j hj => by
    obtain ⟨x, h1, h2⟩ := hx j hj
    exact ⟨x, h1.same (hs b hb).2, K.same hs h2⟩⟩⟩
variable (K)
variable {K}
end
/-! ### Stamps, messages, fates as such things -/
def SC.cs (c : SC) : List Value := [.int .i64 c.e, .slice c.a c.n c.c]
@[reducible] def stK : Kit SC St := ⟨2, 32, SC.cs, fun _ => rfl, by decide, IsSt, fun hs h => h.same hs⟩
@[reducible] def msgK : Kit MC Msg := ⟨10, 152, MC.cs, fun _ => rfl, by decide, IsMsg, fun hs h => h.same hs⟩
@[reducible] def valK : Kit VC Val := ⟨6, 88, VC.cs, fun _ => rfl, by decide, IsVal, fun hs h => h.same hs⟩
structure Fate where
  st : St
  k : Int
  node : ByteArray
  into : List St
  text : ByteArray
structure FtC where
  st : SC
  k : Int
  node : ByteArray
  a : Option Addr
  n : Nat
  c : Nat
  text : ByteArray
abbrev FtC.v (c : FtC) : Value := .agg #[.int .i64 c.st.e, .slice c.st.a c.st.n c.st.c, .int .i64 c.k, .string c.node, .slice c.a c.n c.c, .string c.text]
def FtC.cs (c : FtC) : List Value := [.int .i64 c.st.e, .slice c.st.a c.st.n c.st.c, .int .i64 c.k, .string c.node, .slice c.a c.n c.c, .string c.text]
structure IsFt (S : Nat → Prop) (w : World) (c : FtC) (d : Fate) : Prop where
  st : IsSt S w c.st d.st
  k : c.k = d.k
  node : c.node = d.node
  into : IsRow stK S w c.a c.n c.c d.into
  text : c.text = d.text
theorem IsFt.same {S S' : Nat → Prop} {w w' : World} {c : FtC} {d : Fate} (hs : ∀ b, S b → S' b ∧ w'.heap[b]? = w.heap[b]?) (h : IsFt S w c d) : IsFt S' w' c d := ⟨h.st.same hs, h.k, h.node, h.into.same hs, h.text⟩
@[reducible] def ftK : Kit FtC Fate := ⟨6, 96, FtC.cs, fun _ => rfl, by decide, IsFt, fun hs h => h.same hs⟩
section
variable {C D : Type} {K : Kit C D}
end
theorem AtM.g {w : World} {b o : Nat} {c : MC} (h : AtM w b o c) : AtG msgK w b o c := fun i hi => by
  match i, hi with
  | 0, _ => exact h.e
  | 1, _ => exact h.p
  | 2, _ => exact h.m
  | 3, _ => exact h.es
  | 4, _ => exact h.k
  | 5, _ => exact h.i
  | 6, _ => exact h.s
  | 7, _ => exact h.t
  | 8, _ => exact h.l
  | 9, _ => exact h.f
theorem AtG.m {w : World} {b o : Nat} {c : MC} (h : AtG msgK w b o c) : AtM w b o c :=
  ⟨h 0 (by decide), h 1 (by decide), h 2 (by decide), h 3 (by decide), h 4 (by decide), h 5 (by decide), h 6 (by decide), h 7 (by decide), h 8 (by decide), h 9 (by decide)⟩
end
end Go.Proofs.YtkljbfaemahchaaGreatDoor
