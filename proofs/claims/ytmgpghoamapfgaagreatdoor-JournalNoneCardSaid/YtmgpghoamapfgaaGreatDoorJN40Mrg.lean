/-
  journal.forms: the map of the forms; what it holds at each key. No conditions.
-/
import Derived.Test.YtmgpghoamapfgaaGreatDoorJN28Mrg
import Derived.Maps.Own
import Derived.Maps.Keyed
import Derived.Deep.Cut
namespace Go.Proofs.YtmgpghoamapfgaaGreatDoor
set_option linter.unusedVariables false
set_option maxRecDepth 100000
set_option maxHeartbeats 16000000
set_option linter.unusedSimpArgs false
open Go Go.RowKit Go.Shelf
theorem wf_i64 {k:Int} (h:I64 k):(Lit.int .i64 k).wf=true:=by
 have e1:IntKind.i64.min = -9223372036854775808:=by decide
 have e2:IntKind.i64.max=9223372036854775807:=by decide
 show(decide (IntKind.i64.min≤k)&&decide (k≤IntKind.i64.max))=true
 unfold I64 at h
 rw[e1,e2]
 simp
 omega
def wNo (k:Int):Nat:=if k=1 then 164 else if k=2 then 166 else if k=3 then 168 else if k=4 then 171 else 160
def rNo (k:Int):Nat:=if k=1 then 165 else if k=2 then 167 else if k=3 then 170 else if k=4 then 172 else 162
def formV (k:Int):Value:=.agg #[.func (.func (wNo k)) #[] #[],.func (.func (rNo k)) #[] #[]]
abbrev zForm:Value:=.agg #[.nilFunc,.nilFunc]
theorem zeroForm (w:World):(zeroValue 155).run Tryz.prog w=.ok zForm w:=by
 have h:(Tryz.prog.info? 155).map (·.zero)=some (some zForm):=by kernel_rfl
 cases hi:Tryz.prog.info? 155 with
 | none=>rw[hi] at h;cases h
 | some i =>
   rw[hi] at h
   have hz:i.zero=some zForm:=by simpa using h
   simp[zeroValue,typeInfo,hi,hz]
abbrev rdForm (v:Value):Option (DataW Value × List MemPlace):=some (.held v,[])
def formsD:DataW Value:=(((((((((((((.map []):DataW Value).put (.int .i64 1) (.held (.agg #[.func (.func 164) #[] #[],.func (.func 165) #[] #[]]))):DataW Value).put (.int .i64 2) (.held (.agg #[.func (.func 166) #[] #[],.func (.func 167) #[] #[]]))):DataW Value).put (.int .i64 3) (.held (.agg #[.func (.func 168) #[] #[],.func (.func 170) #[] #[]]))):DataW Value).put (.int .i64 4) (.held (.agg #[.func (.func 171) #[] #[],.func (.func 172) #[] #[]]))):DataW Value).put (.int .i64 5) (.held (.agg #[.func (.func 160) #[] #[],.func (.func 162) #[] #[]]))):DataW Value).put (.int .i64 6) (.held (.agg #[.func (.func 160) #[] #[],.func (.func 162) #[] #[]])))
theorem formsD_at (k:Int) (h1:1≤k) (h6:k≤6) (z:DataW Value):formsD.atKey (.int .i64 k) z=.held (formV k):=by
 have:k=1∨k=2∨k=3∨k=4∨k=5∨k=6:=by omega
 rcases this with rfl | rfl | rfl | rfl | rfl | rfl<;>rfl
def FormsAt (b:Nat) (w:World):Prop:=w.ownsMap Tryz.prog 3 rdForm b 6 formsD
theorem FormsAt.plain {b:Nat} {w:World} (h:FormsAt b w) (k:Int) (hk:I64 k) (h1:1≤k) (h6:k≤6):(Instr.lookup 156 (.map (some b)) (.int .i64 k) false).run Tryz.prog w=.ok (formV k) w:=by
 obtain⟨v,ps,hrun,hv⟩:=h.lookup (Maps.int_keyed Tryz.underlying3) Tryz.underlying156 (zeroForm w) (zd:=.held zForm) (zp:=[]) rfl (key:=.int .i64 k) (kl:=.int .i64 k) (Maps.keyOf_int_mk Tryz.underlying3 (wf_i64 hk))
 rw[formsD_at k h1 h6] at hv
 simp only[rdForm,Option.some.injEq,Prod.mk.injEq,DataW.held.injEq] at hv
 rw[hrun,hv.1]
theorem forms_call (w:World):Calls Tryz.prog 89 #[] w fun e w'=>∃b,e=.returned (.map (some b))∧w.heap.size≤b∧FormsAt b w'∧Below w.heap.size w w':=by
 obtain⟨w0,hw0⟩:∃w0,w0=w.alloc (.cells #[.func (.func 160) #[] #[],.func (.func 162) #[] #[]] 155):=⟨_,rfl⟩
 have h0:w0.heap[w.heap.size]?=some (.cells #[.func (.func 160) #[] #[],.func (.func 162) #[] #[]] 155):=by rw[hw0];exact heap_alloc_new w _
 have hs0:w0.heap.size=w.heap.size+1:=by rw[hw0,World.size_alloc]
 obtain⟨w1,hw1⟩:∃w1,w1=w0.alloc (.map #[] 0):=⟨_,rfl⟩
 have ho0:w1.ownsMap Tryz.prog 3 rdForm (w.heap.size+1) 0 (.map []):=by rw[hw1,←hs0];exact World.ownsMap_made w0 _ _ _
 have hmk:=run_makeMap (P:=Tryz.prog) (w:=w0) 156
 obtain⟨w2,hr1,ho1,hg1⟩:=ho0.update (Maps.int_keyed Tryz.underlying3) Tryz.underlying156 (by unfold maxLen;omega) (key:=.int .i64 1) (val:=.agg #[.func (.func 164) #[] #[],.func (.func 165) #[] #[]]) (kl:=.int .i64 1) (d:=.held (.agg #[.func (.func 164) #[] #[],.func (.func 165) #[] #[]])) (ps:=[]) (Maps.keyOf_int_mk Tryz.underlying3 rfl) rfl
 obtain⟨w3,hr2,ho2,hg2⟩:=ho1.update (Maps.int_keyed Tryz.underlying3) Tryz.underlying156 (by unfold maxLen;omega) (key:=.int .i64 2) (val:=.agg #[.func (.func 166) #[] #[],.func (.func 167) #[] #[]]) (kl:=.int .i64 2) (d:=.held (.agg #[.func (.func 166) #[] #[],.func (.func 167) #[] #[]])) (ps:=[]) (Maps.keyOf_int_mk Tryz.underlying3 rfl) rfl
 obtain⟨w4,hr3,ho3,hg3⟩:=ho2.update (Maps.int_keyed Tryz.underlying3) Tryz.underlying156 (by unfold maxLen;omega) (key:=.int .i64 3) (val:=.agg #[.func (.func 168) #[] #[],.func (.func 170) #[] #[]]) (kl:=.int .i64 3) (d:=.held (.agg #[.func (.func 168) #[] #[],.func (.func 170) #[] #[]])) (ps:=[]) (Maps.keyOf_int_mk Tryz.underlying3 rfl) rfl
 obtain⟨w5,hr4,ho4,hg4⟩:=ho3.update (Maps.int_keyed Tryz.underlying3) Tryz.underlying156 (by unfold maxLen;omega) (key:=.int .i64 4) (val:=.agg #[.func (.func 171) #[] #[],.func (.func 172) #[] #[]]) (kl:=.int .i64 4) (d:=.held (.agg #[.func (.func 171) #[] #[],.func (.func 172) #[] #[]])) (ps:=[]) (Maps.keyOf_int_mk Tryz.underlying3 rfl) rfl
 obtain⟨w6,hr5,ho5,hg5⟩:=ho4.update (Maps.int_keyed Tryz.underlying3) Tryz.underlying156 (by unfold maxLen;omega) (key:=.int .i64 5) (val:=.agg #[.func (.func 160) #[] #[],.func (.func 162) #[] #[]]) (kl:=.int .i64 5) (d:=.held (.agg #[.func (.func 160) #[] #[],.func (.func 162) #[] #[]])) (ps:=[]) (Maps.keyOf_int_mk Tryz.underlying3 rfl) rfl
 obtain⟨w7,hr6,ho6,hg6⟩:=ho5.update (Maps.int_keyed Tryz.underlying3) Tryz.underlying156 (by unfold maxLen;omega) (key:=.int .i64 6) (val:=.agg #[.func (.func 160) #[] #[],.func (.func 162) #[] #[]]) (kl:=.int .i64 6) (d:=.held (.agg #[.func (.func 160) #[] #[],.func (.func 162) #[] #[]])) (ps:=[]) (Maps.keyOf_int_mk Tryz.underlying3 rfl) rfl
 subst hw1
 have x1:(w0.alloc (.map #[] 0)).heap[w.heap.size]?=some (.cells #[.func (.func 160) #[] #[],.func (.func 162) #[] #[]] 155):=(heap_alloc_old w0 _ _ (by omega)).trans h0
 have hz1:w.heap.size+2≤(w0.alloc (.map #[] 0)).heap.size:=by rw[World.size_alloc];omega
 have x2:w2.heap[w.heap.size]?=some (.cells #[.func (.func 160) #[] #[],.func (.func 162) #[] #[]] 155):=(hg1.block w.heap.size (by have:=hz1;omega) (by simp)).trans x1
 have hz2:w.heap.size+2≤w2.heap.size:=Nat.le_trans hz1 hg1.size
 have x3:w3.heap[w.heap.size]?=some (.cells #[.func (.func 160) #[] #[],.func (.func 162) #[] #[]] 155):=(hg2.block w.heap.size (by have:=hz2;omega) (by simp)).trans x2
 have hz3:w.heap.size+2≤w3.heap.size:=Nat.le_trans hz2 hg2.size
 have x4:w4.heap[w.heap.size]?=some (.cells #[.func (.func 160) #[] #[],.func (.func 162) #[] #[]] 155):=(hg3.block w.heap.size (by have:=hz3;omega) (by simp)).trans x3
 have hz4:w.heap.size+2≤w4.heap.size:=Nat.le_trans hz3 hg3.size
 have x5:w5.heap[w.heap.size]?=some (.cells #[.func (.func 160) #[] #[],.func (.func 162) #[] #[]] 155):=(hg4.block w.heap.size (by have:=hz4;omega) (by simp)).trans x4
 have hz5:w.heap.size+2≤w5.heap.size:=Nat.le_trans hz4 hg4.size
 have x6:w6.heap[w.heap.size]?=some (.cells #[.func (.func 160) #[] #[],.func (.func 162) #[] #[]] 155):=(hg5.block w.heap.size (by have:=hz5;omega) (by simp)).trans x5
 have hz6:w.heap.size+2≤w6.heap.size:=Nat.le_trans hz5 hg5.size
 have x7:w7.heap[w.heap.size]?=some (.cells #[.func (.func 160) #[] #[],.func (.func 162) #[] #[]] 155):=(hg6.block w.heap.size (by have:=hz6;omega) (by simp)).trans x6
 have hz7:w.heap.size+2≤w7.heap.size:=Nat.le_trans hz6 hg6.size
 have c50:=cellOf x5 0
 have c51:=cellOf x5 1
 have c60:=cellOf x6 0
 have c61:=cellOf x6 1
 (try dsimp only at c50 c51 c60 c61)
 have hall:(w0.alloc (.map #[] 0)).grownBy w7 (some (w.heap.size+1)):=((((hg1.trans hg2).trans hg3).trans hg4).trans hg5).trans hg6
 have HFIN:=hid (show FormsAt (w.heap.size+1) w7∧Below w.heap.size w w7 from⟨ho6,by
  have h1:Below w.heap.size w w0:=by rw[hw0];exact(Below.refl _ w).alloc (Nat.le_refl _) _
  have h2:Below w.heap.size w (w0.alloc (.map #[] 0)):=h1.alloc h1.size _
  exact h2.grown hall h2.size (fun k hk=>by cases hk;omega)⟩)
 have HW:=hid hw0
 have HS:=hid hs0
 rw[hs0] at hmk
 clear x1 x2 x3 x4 x5 x6 x7 hz1 hz2 hz3 hz4 hz5 hz6 hz7 ho0 ho1 ho2 ho3 ho4 ho5 ho6 hg1 hg2 hg3 hg4 hg5 hg6 hall hw0 h0
 go_enter Tryz.func89,Tryz.ntmps89
 go_upto_region 2 with (fail)
 rw[←HW.out]
 go_wp2
 go_ret
 exact⟨_,rfl,Nat.le_succ _,HFIN.out⟩
theorem field_form (a b:Nat) (w:World):(Instr.field 155 (.agg #[.func (.func a) #[] #[],.func (.func b) #[] #[]]) 0).run Tryz.prog w=.ok (.func (.func a) #[] #[]) w:=by kernel_rfl
end Go.Proofs.YtmgpghoamapfgaaGreatDoor
