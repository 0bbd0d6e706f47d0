/- A part. -/
import Derived.Test.YteladbdfiannjaaGreatDoorSX7Mrg
import Derived.Deep.WholeRow
import Derived.Laws.Cells
namespace Go.Proofs.YteladbdfiannjaaGreatDoor
set_option linter.unusedVariables false
set_option linter.unusedSimpArgs false
section
open Go Go.RowKit
structure Ef where
 k:Int
 nm:ByteArray
 nu:Int
 tx:ByteArray
 st:St
 rs:St
 sv:ByteArray
 ca:Int
 un:Bool
 bd:Val
 nd:ByteArray
structure EfC where
 k:Int
 nm:ByteArray
 nu:Int
 tx:ByteArray
 st:SC
 rs:SC
 sv:ByteArray
 ca:Int
 un:Bool
 bd:VC
 nd:ByteArray
def EfC.cs (c:EfC):List Value:=[.int .i64 c.k,.string c.nm,.int .i64 c.nu,.string c.tx,.int .i64 c.st.e,.slice c.st.a c.st.n c.st.c,.int .i64 c.rs.e,.slice c.rs.a c.rs.n c.rs.c,.string c.sv,.int .i64 c.ca,.bool c.un,
 .int .i64 c.bd.k,.int .i64 c.bd.i,.int .i64 c.bd.s,.string c.bd.t,.slice c.bd.la c.bd.ll c.bd.lc,.slice c.bd.fa c.bd.fl c.bd.fc,.string c.nd]
structure IsEf (S:Nat→Prop) (w:World) (c:EfC) (d:Ef):Prop where
 k:c.k=d.k
 nm:c.nm=d.nm
 nmz:c.nm.size≤140737488351232
 nu:c.nu=d.nu
 tx:c.tx=d.tx
 txz:c.tx.size≤140737488351232
 st:IsSt S w c.st d.st
 rs:IsSt S w c.rs d.rs
 sv:c.sv=d.sv
 ca:c.ca=d.ca
 rca:I64 c.ca
 un:c.un=d.un
 bd:IsVal S w c.bd d.bd
 nd:c.nd=d.nd
 ndz:c.nd.size≤140737488351232
theorem IsEf.same {S S':Nat→Prop} {w w':World} {c:EfC} {d:Ef} (hs:∀b,S b→S' b∧w'.heap[b]?=w.heap[b]?) (h:IsEf S w c d):IsEf S' w' c d :=
 ⟨h.k,h.nm,h.nmz,h.nu,h.tx,h.txz,h.st.same hs,h.rs.same hs,h.sv,h.ca,h.rca,h.un,h.bd.same hs,h.nd,h.ndz⟩
@[reducible] def efK:Kit EfC Ef:=⟨18,248,EfC.cs,fun _=>rfl,by decide,IsEf,fun hs h=>h.same hs⟩
theorem qG {w:World} {b o:Nat} {c:EfC} (h:AtG efK w b o c):(loadCellsFrom ⟨b,o,none⟩ 0 18 #[]).run Tryz.prog w=.ok (EfC.cs c).toArray w:=by
 have:=run_loadCells_list (P:=Tryz.prog) w ⟨b,o,none⟩ (EfC.cs c) (fun j v hv=>by
  have hj:j<18:=(List.getElem?_eq_some_iff.1 hv).1
  have hadd:(⟨b,o,none⟩:Addr).add j=⟨b,o+j,none⟩:=by unfold Addr.add;split<;>simp_all
  rw[hadd,h j hj];exact hv)
 exact this
theorem infoEf:(Tryz.prog.info? 75).map (·.size)=some 18:=by kernel_rfl
theorem yS (w:World) (z:Array Value) (hz:z.size=18) (c:EfC):(storeCells ⟨w.heap.size,0,none⟩ (EfC.cs c) 0).run Tryz.prog (w.alloc (.cells z 75))=.ok () (w.alloc (.cells (EfC.cs c).toArray 75)):=by
 have:=run_storeCells_new (P:=Tryz.prog) w 75 z (EfC.cs c).toArray (by rw[infoEf];rfl) (by rw[hz];rfl) (by simp[EfC.cs,Value.oneCell'])
 exact this
theorem aCq (w:World) (c:EfC):(loadCellsFrom ⟨w.heap.size,0,none⟩ 0 18 #[]).run Tryz.prog (w.alloc (.cells (EfC.cs c).toArray 75))=.ok (EfC.cs c).toArray (w.alloc (.cells (EfC.cs c).toArray 75)) :=
 run_loadCellsFrom_new w 75 (EfC.cs c).toArray 18 rfl
/-! The load of a few cells unfolds,when the walk's own unfolding of loadCellsFrom is taken out (so that a load of 18 cells stands still). -/
theorem aAf (a:Addr) (i:Nat) (acc:Array Value):loadCellsFrom a i 0 acc=pure acc:=rfl
theorem aAe (a:Addr) (i:Nat) (acc:Array Value):loadCellsFrom a i 1 acc=(do let v ←load (a.add i);loadCellsFrom a (i+1) 0 (acc.push v)):=rfl
theorem aAd (a:Addr) (i:Nat) (acc:Array Value):loadCellsFrom a i 2 acc=(do let v ←load (a.add i);loadCellsFrom a (i+1) 1 (acc.push v)):=rfl
theorem aAc (a:Addr) (i:Nat) (acc:Array Value):loadCellsFrom a i 3 acc=(do let v ←load (a.add i);loadCellsFrom a (i+1) 2 (acc.push v)):=rfl
theorem aAb (a:Addr) (i:Nat) (acc:Array Value):loadCellsFrom a i 4 acc=(do let v ←load (a.add i);loadCellsFrom a (i+1) 3 (acc.push v)):=rfl
theorem aAa (a:Addr) (i:Nat) (acc:Array Value):loadCellsFrom a i 5 acc=(do let v ←load (a.add i);loadCellsFrom a (i+1) 4 (acc.push v)):=rfl
theorem aA9 (a:Addr) (i:Nat) (acc:Array Value):loadCellsFrom a i 6 acc=(do let v ←load (a.add i);loadCellsFrom a (i+1) 5 (acc.push v)):=rfl
theorem aA8 (a:Addr) (i:Nat) (acc:Array Value):loadCellsFrom a i 7 acc=(do let v ←load (a.add i);loadCellsFrom a (i+1) 6 (acc.push v)):=rfl
theorem zI (a:Addr) (i:Nat):storeCells a [] i=pure ():=rfl
theorem zH (a:Addr) (i:Nat) (v:Value):storeCells a [v] i=(do store (a.add i) v;storeCells a [] (i+1)):=rfl
end
section
open Go Go.RowKit
structure Slot where
 k:Val
 n:Int
 t:Int
 items:List Msg
 vals:List Val
structure SlC where
 k:VC
 n:Int
 t:Int
 ia:Option Addr
 il:Nat
 ic:Nat
 va:Option Addr
 vl:Nat
 vc:Nat
abbrev SlC.v (c:SlC):Value:=.agg #[.int .i64 c.k.k,.int .i64 c.k.i,.int .i64 c.k.s,.string c.k.t,.slice c.k.la c.k.ll c.k.lc,.slice c.k.fa c.k.fl c.k.fc,.int .i64 c.n,.int .i64 c.t,.slice c.ia c.il c.ic,.slice c.va c.vl c.vc]
def SlC.cs (c:SlC):List Value:=[.int .i64 c.k.k,.int .i64 c.k.i,.int .i64 c.k.s,.string c.k.t,.slice c.k.la c.k.ll c.k.lc,.slice c.k.fa c.k.fl c.k.fc,.int .i64 c.n,.int .i64 c.t,.slice c.ia c.il c.ic,.slice c.va c.vl c.vc]
structure IsSl (S:Nat→Prop) (w:World) (c:SlC) (d:Slot):Prop where
 k:IsVal S w c.k d.k
 n:c.n=d.n
 rn:I64 d.n
 t:c.t=d.t
 rt:I64 d.t
 items:IsRow msgK S w c.ia c.il c.ic d.items
 vals:IsRow valK S w c.va c.vl c.vc d.vals
theorem IsSl.same {S S':Nat→Prop} {w w':World} {c:SlC} {d:Slot} (hs:∀b,S b→S' b∧w'.heap[b]?=w.heap[b]?) (h:IsSl S w c d):IsSl S' w' c d:=⟨h.k.same hs,h.n,h.rn,h.t,h.rt,h.items.same hs,h.vals.same hs⟩
@[reducible] def slK:Kit SlC Slot:=⟨10,152,SlC.cs,fun _=>rfl,by decide,IsSl,fun hs h=>h.same hs⟩
structure Sta where
 n:Int
 t:Int
 l:List Slot
structure StC where
 n:Int
 t:Int
 a:Option Addr
 l:Nat
 c:Nat
abbrev StC.v (c:StC):Value:=.agg #[.int .i64 c.n,.int .i64 c.t,.slice c.a c.l c.c]
structure IsSta (S:Nat→Prop) (w:World) (c:StC) (d:Sta):Prop where
 n:c.n=d.n
 rn:I64 d.n
 t:c.t=d.t
 rt:I64 d.t
 l:IsRow slK S w c.a c.l c.c d.l
theorem IsSta.same {S S':Nat→Prop} {w w':World} {c:StC} {d:Sta} (hs:∀b,S b→S' b∧w'.heap[b]?=w.heap[b]?) (h:IsSta S w c d):IsSta S' w' c d:=⟨h.n,h.rn,h.t,h.rt,h.l.same hs⟩
theorem AtG.val {w:World} {b o:Nat} {c:VC} (h:AtG valK w b o c):At w b o c:=⟨h 0 (by decide),h 1 (by decide),h 2 (by decide),h 3 (by decide),h 4 (by decide),h 5 (by decide)⟩
theorem AtG.slot {w:World} {b o:Nat} {c:SlC} (h:AtG slK w b o c):w.cell? ⟨b,o,none⟩=some (.int .i64 c.k.k)∧w.cell? ⟨b,o+1,none⟩=some (.int .i64 c.k.i)∧w.cell? ⟨b,o+2,none⟩=some (.int .i64 c.k.s)∧w.cell? ⟨b,o+3,none⟩=some (.string c.k.t)∧w.cell? ⟨b,o+4,none⟩=some (.slice c.k.la c.k.ll c.k.lc)∧w.cell? ⟨b,o+5,none⟩=some (.slice c.k.fa c.k.fl c.k.fc) ∧
 w.cell? ⟨b,o+6,none⟩=some (.int .i64 c.n)∧w.cell? ⟨b,o+7,none⟩=some (.int .i64 c.t)∧w.cell? ⟨b,o+8,none⟩=some (.slice c.ia c.il c.ic)∧w.cell? ⟨b,o+9,none⟩=some (.slice c.va c.vl c.vc) :=
 ⟨h 0 (by decide),h 1 (by decide),h 2 (by decide),h 3 (by decide),h 4 (by decide),h 5 (by decide),h 6 (by decide),h 7 (by decide),h 8 (by decide),h 9 (by decide)⟩
end
section
open Go Go.RowKit
structure Cnt where
 nm:ByteArray
 nu:Int
def Cnt.cs (c:Cnt):List Value:=[.string c.nm,.int .i64 c.nu]
structure IsCnt (S:Nat→Prop) (w:World) (c d:Cnt):Prop where
 e:c=d
 nmz:c.nm.size≤140737488351232
 rn:I64 c.nu
@[reducible] def cntK:Kit Cnt Cnt:=⟨2,24,Cnt.cs,fun _=>rfl,by decide,IsCnt,fun _ h=>⟨h.e,h.nmz,h.rn⟩⟩
structure Que where
 nm:ByteArray
 nu:Int
 vr:Int
 tx:ByteArray
def Que.cs (c:Que):List Value:=[.string c.nm,.int .i64 c.nu,.int .i64 c.vr,.string c.tx]
structure IsQue (S:Nat→Prop) (w:World) (c d:Que):Prop where
 e:c=d
 nmz:c.nm.size≤140737488351232
 rn:I64 c.nu
 rv:I64 c.vr
 txz:c.tx.size≤140737488351232
@[reducible] def queK:Kit Que Que:=⟨4,48,Que.cs,fun _=>rfl,by decide,IsQue,fun _ h=>⟨h.e,h.nmz,h.rn,h.rv,h.txz⟩⟩
structure Let where
 m:Msg
 nd:ByteArray
 tx:ByteArray
 vr:Int
structure LetC where
 m:MC
 nd:ByteArray
 tx:ByteArray
 vr:Int
def LetC.cs (c:LetC):List Value:=[.int .i64 c.m.st.e,.slice c.m.st.a c.m.st.n c.m.st.c,.int .i64 c.m.m,.slice c.m.a c.m.n c.m.c,.int .i64 c.m.b.k,.int .i64 c.m.b.i,.int .i64 c.m.b.s,.string c.m.b.t,.slice c.m.b.la c.m.b.ll c.m.b.lc,.slice c.m.b.fa c.m.b.fl c.m.b.fc,.string c.nd,.string c.tx,.int .i64 c.vr]
structure IsLet (S:Nat→Prop) (w:World) (c:LetC) (d:Let):Prop where
 m:IsMsg S w c.m d.m
 nd:c.nd=d.nd
 ndz:c.nd.size≤140737488351232
 tx:c.tx=d.tx
 txz:c.tx.size≤140737488351232
 vr:c.vr=d.vr
 rv:I64 c.vr
theorem IsLet.same {S S':Nat→Prop} {w w':World} {c:LetC} {d:Let} (hs:∀b,S b→S' b∧w'.heap[b]?=w.heap[b]?) (h:IsLet S w c d):IsLet S' w' c d :=
 ⟨h.m.same hs,h.nd,h.ndz,h.tx,h.txz,h.vr,h.rv⟩
@[reducible] def letK:Kit LetC Let:=⟨13,192,LetC.cs,fun _=>rfl,by decide,IsLet,fun hs h=>h.same hs⟩
def StC.cs (c:StC):List Value:=[.int .i64 c.n,.int .i64 c.t,.slice c.a c.l c.c]
@[reducible] def staK:Kit StC Sta:=⟨3,40,StC.cs,fun _=>rfl,by decide,IsSta,fun hs h=>h.same hs⟩
theorem AtG.cnt {w:World} {b o:Nat} {c:Cnt} (h:AtG cntK w b o c):w.cell? ⟨b,o,none⟩=some (.string c.nm)∧w.cell? ⟨b,o+1,none⟩=some (.int .i64 c.nu):=⟨h 0 (by decide),h 1 (by decide)⟩
theorem AtG.que {w:World} {b o:Nat} {c:Que} (h:AtG queK w b o c):w.cell? ⟨b,o,none⟩=some (.string c.nm)∧w.cell? ⟨b,o+1,none⟩=some (.int .i64 c.nu)∧w.cell? ⟨b,o+2,none⟩=some (.int .i64 c.vr)∧w.cell? ⟨b,o+3,none⟩=some (.string c.tx):=⟨h 0 (by decide),h 1 (by decide),h 2 (by decide),h 3 (by decide)⟩
theorem AtG.sta {w:World} {b o:Nat} {c:StC} (h:AtG staK w b o c):w.cell? ⟨b,o,none⟩=some (.int .i64 c.n)∧w.cell? ⟨b,o+1,none⟩=some (.int .i64 c.t)∧w.cell? ⟨b,o+2,none⟩=some (.slice c.a c.l c.c):=⟨h 0 (by decide),h 1 (by decide),h 2 (by decide)⟩
structure Let13 (w:World) (b o:Nat) (c:LetC):Prop where
 c0:w.cell? ⟨b,o,none⟩=some (.int .i64 c.m.st.e)
 c1:w.cell? ⟨b,o+1,none⟩=some (.slice c.m.st.a c.m.st.n c.m.st.c)
 c2:w.cell? ⟨b,o+2,none⟩=some (.int .i64 c.m.m)
 c3:w.cell? ⟨b,o+3,none⟩=some (.slice c.m.a c.m.n c.m.c)
 c4:w.cell? ⟨b,o+4,none⟩=some (.int .i64 c.m.b.k)
 c5:w.cell? ⟨b,o+5,none⟩=some (.int .i64 c.m.b.i)
 c6:w.cell? ⟨b,o+6,none⟩=some (.int .i64 c.m.b.s)
 c7:w.cell? ⟨b,o+7,none⟩=some (.string c.m.b.t)
 c8:w.cell? ⟨b,o+8,none⟩=some (.slice c.m.b.la c.m.b.ll c.m.b.lc)
 c9:w.cell? ⟨b,o+9,none⟩=some (.slice c.m.b.fa c.m.b.fl c.m.b.fc)
 c10:w.cell? ⟨b,o+10,none⟩=some (.string c.nd)
 c11:w.cell? ⟨b,o+11,none⟩=some (.string c.tx)
 c12:w.cell? ⟨b,o+12,none⟩=some (.int .i64 c.vr)
theorem AtG.let' {w:World} {b o:Nat} {c:LetC} (h:AtG letK w b o c):Let13 w b o c :=
 ⟨h 0 (by decide),h 1 (by decide),h 2 (by decide),h 3 (by decide),h 4 (by decide),h 5 (by decide),h 6 (by decide),h 7 (by decide),h 8 (by decide),h 9 (by decide),h 10 (by decide),h 11 (by decide),h 12 (by decide)⟩
structure Snp where
 v:Int
 e:Int
 t:Int
 ns:List Sta
 ar:List Cnt
 se:List Cnt
 qs:List Que
 ls:List Let
 ps:List Ef
structure SnC where
 v:Int
 e:Int
 t:Int
 na:Option Addr
 nl:Nat
 nc:Nat
 aa:Option Addr
 al:Nat
 ac:Nat
 sa:Option Addr
 sl:Nat
 sc:Nat
 qa:Option Addr
 ql:Nat
 qc:Nat
 la:Option Addr
 ll:Nat
 lc:Nat
 pa:Option Addr
 pl:Nat
 pc:Nat
def SnC.cs (c:SnC):List Value:=[.int .i64 c.v,.int .i64 c.e,.int .i64 c.t,.slice c.na c.nl c.nc,.slice c.aa c.al c.ac,.slice c.sa c.sl c.sc,.slice c.qa c.ql c.qc,.slice c.la c.ll c.lc,.slice c.pa c.pl c.pc]
abbrev SnC.w (c:SnC):Value:=.agg #[.int .i64 c.v,.int .i64 c.e,.int .i64 c.t,.slice c.na c.nl c.nc,.slice c.aa c.al c.ac,.slice c.sa c.sl c.sc,.slice c.qa c.ql c.qc,.slice c.la c.ll c.lc,.slice c.pa c.pl c.pc]
structure IsSn (S:Nat→Prop) (w:World) (c:SnC) (d:Snp):Prop where
 v:c.v=d.v
 rv:I64 c.v
 e:c.e=d.e
 re:I64 c.e
 t:c.t=d.t
 rt:I64 c.t
 ns:IsRow staK S w c.na c.nl c.nc d.ns
 ar:IsRow cntK S w c.aa c.al c.ac d.ar
 se:IsRow cntK S w c.sa c.sl c.sc d.se
 qs:IsRow queK S w c.qa c.ql c.qc d.qs
 ls:IsRow letK S w c.la c.ll c.lc d.ls
 ps:IsRow efK S w c.pa c.pl c.pc d.ps
theorem IsSn.same {S S':Nat→Prop} {w w':World} {c:SnC} {d:Snp} (hs:∀b,S b→S' b∧w'.heap[b]?=w.heap[b]?) (h:IsSn S w c d):IsSn S' w' c d :=
 ⟨h.v,h.rv,h.e,h.re,h.t,h.rt,h.ns.same hs,h.ar.same hs,h.se.same hs,h.qs.same hs,h.ls.same hs,h.ps.same hs⟩
end
section
open Go
theorem aCs (a:Addr) (i:Nat) (acc:Array Value):loadCellsFrom a i 8 acc=(do let v ←load (a.add i);loadCellsFrom a (i+1) 7 (acc.push v)):=rfl
theorem aCr (a:Addr) (i:Nat) (acc:Array Value):loadCellsFrom a i 9 acc=(do let v ←load (a.add i);loadCellsFrom a (i+1) 8 (acc.push v)):=rfl
theorem yY (a:Addr) (i:Nat) (acc:Array Value):loadCellsFrom a i 10 acc=(do let v ←load (a.add i);loadCellsFrom a (i+1) 9 (acc.push v)):=rfl
theorem yX (a:Addr) (i:Nat) (acc:Array Value):loadCellsFrom a i 11 acc=(do let v ←load (a.add i);loadCellsFrom a (i+1) 10 (acc.push v)):=rfl
theorem yW (a:Addr) (i:Nat) (acc:Array Value):loadCellsFrom a i 12 acc=(do let v ←load (a.add i);loadCellsFrom a (i+1) 11 (acc.push v)):=rfl
theorem yV (a:Addr) (i:Nat) (acc:Array Value):loadCellsFrom a i 13 acc=(do let v ←load (a.add i);loadCellsFrom a (i+1) 12 (acc.push v)):=rfl
theorem aBy (a:Addr) (i:Nat) (v1 v2:Value):storeCells a [v1,v2] i=(do store (a.add i) v1;storeCells a [v2] (i+1)):=rfl
theorem aBx (a:Addr) (i:Nat) (v1 v2 v3:Value):storeCells a [v1,v2,v3] i=(do store (a.add i) v1;storeCells a [v2,v3] (i+1)):=rfl
theorem aBw (a:Addr) (i:Nat) (v1 v2 v3 v4:Value):storeCells a [v1,v2,v3,v4] i=(do store (a.add i) v1;storeCells a [v2,v3,v4] (i+1)):=rfl
theorem aBv (a:Addr) (i:Nat) (v1 v2 v3 v4 v5:Value):storeCells a [v1,v2,v3,v4,v5] i=(do store (a.add i) v1;storeCells a [v2,v3,v4,v5] (i+1)):=rfl
theorem aBu (a:Addr) (i:Nat) (v1 v2 v3 v4 v5 v6:Value):storeCells a [v1,v2,v3,v4,v5,v6] i=(do store (a.add i) v1;storeCells a [v2,v3,v4,v5,v6] (i+1)):=rfl
theorem aBt (a:Addr) (i:Nat) (v1 v2 v3 v4 v5 v6 v7:Value):storeCells a [v1,v2,v3,v4,v5,v6,v7] i=(do store (a.add i) v1;storeCells a [v2,v3,v4,v5,v6,v7] (i+1)):=rfl
theorem aBs (a:Addr) (i:Nat) (v1 v2 v3 v4 v5 v6 v7 v8:Value):storeCells a [v1,v2,v3,v4,v5,v6,v7,v8] i=(do store (a.add i) v1;storeCells a [v2,v3,v4,v5,v6,v7,v8] (i+1)):=rfl
theorem stc9 (a:Addr) (i:Nat) (v1 v2 v3 v4 v5 v6 v7 v8 v9:Value):storeCells a [v1,v2,v3,v4,v5,v6,v7,v8,v9] i=(do store (a.add i) v1;storeCells a [v2,v3,v4,v5,v6,v7,v8,v9] (i+1)):=rfl
theorem aC2 (a:Addr) (i:Nat) (v1 v2 v3 v4 v5 v6 v7 v8 v9 v10:Value):storeCells a [v1,v2,v3,v4,v5,v6,v7,v8,v9,v10] i=(do store (a.add i) v1;storeCells a [v2,v3,v4,v5,v6,v7,v8,v9,v10] (i+1)):=rfl
theorem aC1 (a:Addr) (i:Nat) (v1 v2 v3 v4 v5 v6 v7 v8 v9 v10 v11:Value):storeCells a [v1,v2,v3,v4,v5,v6,v7,v8,v9,v10,v11] i=(do store (a.add i) v1;storeCells a [v2,v3,v4,v5,v6,v7,v8,v9,v10,v11] (i+1)):=rfl
theorem aC0 (a:Addr) (i:Nat) (v1 v2 v3 v4 v5 v6 v7 v8 v9 v10 v11 v12:Value):storeCells a [v1,v2,v3,v4,v5,v6,v7,v8,v9,v10,v11,v12] i=(do store (a.add i) v1;storeCells a [v2,v3,v4,v5,v6,v7,v8,v9,v10,v11,v12] (i+1)):=rfl
theorem aBz (a:Addr) (i:Nat) (v1 v2 v3 v4 v5 v6 v7 v8 v9 v10 v11 v12 v13:Value):storeCells a [v1,v2,v3,v4,v5,v6,v7,v8,v9,v10,v11,v12,v13] i=(do store (a.add i) v1;storeCells a [v2,v3,v4,v5,v6,v7,v8,v9,v10,v11,v12,v13] (i+1)):=rfl
end
end Go.Proofs.YteladbdfiannjaaGreatDoor
