/-
  Plain: effects as data and as cells, and slices of them; a row's argument that is such a list, opened. No program is stepped through here.
-/
import Derived.Test.YtaofolgaiipcjaaGreatDoorJE19Mrg
import Derived.Test.YtaofolgaiipcjaaGreatDoorProg
import Derived.Deep.WholeRow
import Derived.Laws.Cells
namespace Go.Proofs.YtaofolgaiipcjaaGreatDoor
set_option linter.unusedVariables false
set_option linter.unusedSimpArgs false
open Go Go.RowKit
structure Ef where
 k : Int
 nm : ByteArray
 nu : Int
 tx : ByteArray
 st : St
 rs : St
 sv : ByteArray
 ca : Int
 un : Bool
 bd : Val
 nd : ByteArray
structure EfC where
 k : Int
 nm : ByteArray
 nu : Int
 tx : ByteArray
 st : SC
 rs : SC
 sv : ByteArray
 ca : Int
 un : Bool
 bd : VC
 nd : ByteArray
def EfC.cs (c : EfC) : List Value:=[.int .i64 c.k,.string c.nm,.int .i64 c.nu,.string c.tx,.int .i64 c.st.e,.slice c.st.a c.st.n c.st.c,.int .i64 c.rs.e,.slice c.rs.a c.rs.n c.rs.c,.string c.sv,.int .i64 c.ca,.bool c.un,
 .int .i64 c.bd.k,.int .i64 c.bd.i,.int .i64 c.bd.s,.string c.bd.t,.slice c.bd.la c.bd.ll c.bd.lc,.slice c.bd.fa c.bd.fl c.bd.fc,.string c.nd]
abbrev EfC.v (c : EfC) : Value:=.agg #[.int .i64 c.k,.string c.nm,.int .i64 c.nu,.string c.tx,.int .i64 c.st.e,.slice c.st.a c.st.n c.st.c,.int .i64 c.rs.e,.slice c.rs.a c.rs.n c.rs.c,.string c.sv,.int .i64 c.ca,.bool c.un,
 .int .i64 c.bd.k,.int .i64 c.bd.i,.int .i64 c.bd.s,.string c.bd.t,.slice c.bd.la c.bd.ll c.bd.lc,.slice c.bd.fa c.bd.fl c.bd.fc,.string c.nd]
structure IsEf (S : Nat → Prop) (w : World) (c : EfC) (d : Ef) : Prop where
 k : c.k = d.k
 nm : c.nm = d.nm
 nmz : c.nm.size ≤ 140737488351232
 nu : c.nu = d.nu
 tx : c.tx = d.tx
 txz : c.tx.size ≤ 140737488351232
 st : IsSt S w c.st d.st
 rs : IsSt S w c.rs d.rs
 sv : c.sv = d.sv
 ca : c.ca = d.ca
 rca : I64 c.ca
 un : c.un = d.un
 bd : IsVal S w c.bd d.bd
 nd : c.nd = d.nd
 ndz : c.nd.size ≤ 140737488351232
theorem IsEf.same {S S' : Nat → Prop} {w w' : World} {c : EfC} {d : Ef} (hs : ∀ b,S b → S' b ∧ w'.heap[b]? = w.heap[b]?) (h : IsEf S w c d) : IsEf S' w' c d :=
 ⟨h.k,h.nm,h.nmz,h.nu,h.tx,h.txz,h.st.same hs,h.rs.same hs,h.sv,h.ca,h.rca,h.un,h.bd.same hs,h.nd,h.ndz⟩
@[reducible] def efK : Kit EfC Ef:=⟨18,248,EfC.cs,fun _ => rfl,by decide,IsEf,fun hs h => h.same hs⟩
structure Eff18 (w : World) (b o : Nat) (c : EfC) : Prop where
 c0 : w.cell? ⟨b,o,none⟩ = some (.int .i64 c.k)
 c1 : w.cell? ⟨b,o + 1,none⟩ = some (.string c.nm)
 c2 : w.cell? ⟨b,o + 2,none⟩ = some (.int .i64 c.nu)
 c3 : w.cell? ⟨b,o + 3,none⟩ = some (.string c.tx)
 c4 : w.cell? ⟨b,o + 4,none⟩ = some (.int .i64 c.st.e)
 c5 : w.cell? ⟨b,o + 5,none⟩ = some (.slice c.st.a c.st.n c.st.c)
 c6 : w.cell? ⟨b,o + 6,none⟩ = some (.int .i64 c.rs.e)
 c7 : w.cell? ⟨b,o + 7,none⟩ = some (.slice c.rs.a c.rs.n c.rs.c)
 c8 : w.cell? ⟨b,o + 8,none⟩ = some (.string c.sv)
 c9 : w.cell? ⟨b,o + 9,none⟩ = some (.int .i64 c.ca)
 c10 : w.cell? ⟨b,o + 10,none⟩ = some (.bool c.un)
 c11 : w.cell? ⟨b,o + 11,none⟩ = some (.int .i64 c.bd.k)
 c12 : w.cell? ⟨b,o + 12,none⟩ = some (.int .i64 c.bd.i)
 c13 : w.cell? ⟨b,o + 13,none⟩ = some (.int .i64 c.bd.s)
 c14 : w.cell? ⟨b,o + 14,none⟩ = some (.string c.bd.t)
 c15 : w.cell? ⟨b,o + 15,none⟩ = some (.slice c.bd.la c.bd.ll c.bd.lc)
 c16 : w.cell? ⟨b,o + 16,none⟩ = some (.slice c.bd.fa c.bd.fl c.bd.fc)
 c17 : w.cell? ⟨b,o + 17,none⟩ = some (.string c.nd)
/-! The load of a few cells unfolds,when the walk's own unfolding of loadCellsFrom is taken out (so that a load of 18 cells stands still). -/
theorem lcf0 (a : Addr) (i : Nat) (acc : Array Value) : loadCellsFrom a i 0 acc = pure acc:=rfl
theorem lcf1 (a : Addr) (i : Nat) (acc : Array Value) : loadCellsFrom a i 1 acc = (do let v ← load (a.add i); loadCellsFrom a (i + 1) 0 (acc.push v)):=rfl
theorem lcf2 (a : Addr) (i : Nat) (acc : Array Value) : loadCellsFrom a i 2 acc = (do let v ← load (a.add i); loadCellsFrom a (i + 1) 1 (acc.push v)):=rfl
theorem lcf3 (a : Addr) (i : Nat) (acc : Array Value) : loadCellsFrom a i 3 acc = (do let v ← load (a.add i); loadCellsFrom a (i + 1) 2 (acc.push v)):=rfl
theorem lcf4 (a : Addr) (i : Nat) (acc : Array Value) : loadCellsFrom a i 4 acc = (do let v ← load (a.add i); loadCellsFrom a (i + 1) 3 (acc.push v)):=rfl
theorem lcf5 (a : Addr) (i : Nat) (acc : Array Value) : loadCellsFrom a i 5 acc = (do let v ← load (a.add i); loadCellsFrom a (i + 1) 4 (acc.push v)):=rfl
theorem lcf6 (a : Addr) (i : Nat) (acc : Array Value) : loadCellsFrom a i 6 acc = (do let v ← load (a.add i); loadCellsFrom a (i + 1) 5 (acc.push v)):=rfl
theorem lcf7 (a : Addr) (i : Nat) (acc : Array Value) : loadCellsFrom a i 7 acc = (do let v ← load (a.add i); loadCellsFrom a (i + 1) 6 (acc.push v)):=rfl
theorem stc0 (a : Addr) (i : Nat) : storeCells a [] i = pure ():=rfl
theorem stc1 (a : Addr) (i : Nat) (v : Value) : storeCells a [v] i = (do store (a.add i) v; storeCells a [] (i + 1)):=rfl
end Go.Proofs.YtaofolgaiipcjaaGreatDoor
