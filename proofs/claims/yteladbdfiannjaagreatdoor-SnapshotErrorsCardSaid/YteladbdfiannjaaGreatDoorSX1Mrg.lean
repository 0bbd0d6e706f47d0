/- A part. -/
import Derived.Test.YteladbdfiannjaaGreatDoorSX0Mrg
import Derived.WalkKit
import Derived.Orders
import Derived.OrdersHeld
import Derived.Tactics
import Derived.Deep.RegionHeld
import Derived.WalkLawsBesides
import Derived.WalkSpells
import Derived.Outline
import Derived.BigQuiet
import Derived.Deep.QuietTactic
import Derived.Deep.RegionHeld3
import Derived.Deep.DrawnRows
import Derived.Laws.EntriesVeiled
import Derived.LoopNIn
import Derived.RangeFuncCalls
import Derived.RangeFuncLeaves
import Derived.Shelf.Abstract
namespace Go.Proofs.YteladbdfiannjaaGreatDoor
set_option linter.unusedVariables false
set_option maxRecDepth 100000
set_option maxHeartbeats 64000000
set_option linter.unusedSimpArgs false
section
open Go Go.RowKit
theorem pt1 {α:Type _} {xs:List α} {i:Nat} (h:i<xs.toArray.size):xs.toArray[i]=xs[i]'(by simpa using h):=List.getElem_toArray h
theorem pt2 {α:Type _} (a:α) (l:List α) (i:Nat) (h:i+1<(a :: l).length):(a :: l)[i+1]=l[i]'(by simpa using h):=List.getElem_cons_succ a l i h
theorem pt3 {α:Type _} (a:α) (l:List α) (h:0<(a :: l).length):(a :: l)[0]=a:=List.getElem_cons_zero a l h
theorem pt4 {α:Type _} (l:List α) (i:Nat) (a:α):l.toArray.setIfInBounds i a=(l.set i a).toArray:=List.setIfInBounds_toArray l i a
theorem pt5 {α:Type _} {x:α} {xs:List α} {a:α}:(x :: xs).set 0 a=a :: xs:=List.set_cons_zero
theorem pt6 {α:Type _} {x:α} {xs:List α} {i:Nat} {a:α}:(x :: xs).set (i+1) a=x :: xs.set i a:=List.set_cons_succ
theorem lr {n:Nat}:n≤n:=Nat.le_refl n
theorem cs {α:Type _} {a b:α} (h:a=b:=by kernel_rfl):some a=some b:=congrArg some h
theorem bR {n:Nat} (w:World):Below n w w:=Below.refl n w
theorem zdm {α:Type _} {a:α} {l:List α} {n:Nat}:(a :: l).take (n+1)=a :: l.take n:=List.take_succ_cons
theorem zdn {α:Type _} {l:List α}:l.take 0=[]:=List.take_zero
theorem zdp {α:Type _} {a:α} {l:List α} {n:Nat}:(a :: l).drop (n+1)=l.drop n:=List.drop_succ_cons
theorem ry {P:Program} {ops:Array Oper} {Q:Exit→Act→World→Prop} {md:Region.Mode} {S:World→Prop} (rs:List Nat) {fuel:Nat} {listed:Array Bool} {a:Act} {w:World} (h:AllReadyH P md ops Q S fuel listed a w rs) (hr:Region.ready md ops listed=rs:=by kernel_rfl) (hn:rs≠[]:=by simp):wpAnyH P md ops Q S (fuel+1) listed a w:=wpAnyH_ready hr hn h
theorem pr.{u}:(∀{α:Type u} (l:List α) (i:Nat) (a:α),l.toArray.setIfInBounds i a=(l.set i a).toArray)∧(∀{α:Type u} {x:α} {xs:List α} {a:α},(x :: xs).set 0 a=a :: xs)∧(∀{α:Type u} {x:α} {xs:List α} {i:Nat} {a:α},(x :: xs).set (i+1) a=x :: xs.set i a):=⟨pt4,pt5,pt6⟩
theorem pq.{u}:(∀{α:Type u} {xs:List α} {i:Nat} (h:i<xs.toArray.size),xs.toArray[i]=xs[i]'(by simpa using h))∧(∀{α:Type u} (a:α) (l:List α) (i:Nat) (h:i+1<(a :: l).length),(a :: l)[i+1]=l[i]'(by simpa using h))∧(∀{α:Type u} (a:α) (l:List α) (h:0<(a :: l).length),(a :: l)[0]=a)∧(∀{α:Type u} (l:List α) (i:Nat) (a:α),l.toArray.setIfInBounds i a=(l.set i a).toArray)∧(∀{α:Type u} {x:α} {xs:List α} {a:α},(x :: xs).set 0 a=a :: xs)∧(∀{α:Type u} {x:α} {xs:List α} {i:Nat} {a:α},(x :: xs).set (i+1) a=x :: xs.set i a):=⟨pt1,pt2,pt3,pt4,pt5,pt6⟩
theorem zdq {α:Type _} {l:List α}:l.drop 0=l:=List.drop_zero
theorem tkQ {P:Program} {ops:Array Oper} {Q:Exit→Act→World→Prop} {md:Region.Mode} {S:World→Prop} (i:Nat) {oi:Oper} {v:Value} {fuel:Nat} {listed:Array Bool} {a:Act} {w:World} (hy:∀w,S w→(execOp a.eval oi).run P w=.ok (.value v) w) (hS:S w) (h:wpAnyH P md ops Q S fuel (listed.setIfInBounds i true) (a.put oi.dst v) w) (hi:ops[i]?=some oi:=by rfl) (hs:Region.noSelect ops=true:=by kernel_rfl) (hf:Region.free md ops listed i=true:=by kernel_rfl) (hr:(Region.ready md ops listed).contains i=true:=by kernel_rfl) (hQ:∀c a w,Q (.panic c) (a.put oi.dst v) w→Q (.panic c) a w:=by exact fun _ _ _ h=>h) (hw:Region.wanted oi (yielded ops a.tmps)=true:=by rfl):wpAnyH P md ops Q S (fuel+1) listed a w:=wpAnyH_take (i:=i) hi hs hf hr hQ (Or.inl ⟨hw,hy⟩) hS h
theorem arQ {P:Program} {md:Region.Mode} {ops:Array Oper} {Q:Exit→Act→World→Prop} {S:World→Prop} {fuel:Nat} {listed:Array Bool} {a:Act} {w:World} {i:Nat} {o:Oper} (h:∀K':Act→World→Prop,Shut (∀a w,S w→(S w→wpAnyH P md ops Q S fuel (listed.setIfInBounds i true) a w)→K' a w)→if Region.wanted o (yielded ops a.tmps)=true then Oper.wp P o a w K' Q else K' (a.put o.dst undef) w) (ho:ops[i]?=some o:=by rfl):AllReadyH P md ops Q S fuel listed a w [i]:=AllReadyH.cons ho h AllReadyH.nil
theorem hid {p:Prop} (h:p):Hid p:=h
inductive Val where
 | mk (k i s:Int) (t:ByteArray) (l:List Val) (ns:List ByteArray) (fs:List Val)
structure VC where
 k:Int
 i:Int
 s:Int
 t:ByteArray
 la:Option Addr
 ll:Nat
 lc:Nat
 fa:Option Addr
 fl:Nat
 fc:Nat
abbrev VC.v (c:VC):Value:=.agg #[.int .i64 c.k,.int .i64 c.i,.int .i64 c.s,.string c.t,.slice c.la c.ll c.lc,.slice c.fa c.fl c.fc]
def VC.cs (c:VC):List Value:=[.int .i64 c.k,.int .i64 c.i,.int .i64 c.s,.string c.t,.slice c.la c.ll c.lc,.slice c.fa c.fl c.fc]
def I64 (n:Int):Prop:=-9223372036854775808≤n∧n≤9223372036854775807
structure VC.ok (c:VC):Prop where
 k:I64 c.k
 i:I64 c.i
 s:I64 c.s
 t:c.t.size≤140737488351232
 l:c.ll * 88≤140737488351232
 f:c.fl * 104≤140737488351232
 lm:c.ll≤c.lc
 fm:c.fl≤c.fc
structure At (w:World) (b o:Nat) (c:VC):Prop where
 k:w.cell? ⟨b,o,none⟩=some (.int .i64 c.k)
 i:w.cell? ⟨b,o+1,none⟩=some (.int .i64 c.i)
 s:w.cell? ⟨b,o+2,none⟩=some (.int .i64 c.s)
 t:w.cell? ⟨b,o+3,none⟩=some (.string c.t)
 l:w.cell? ⟨b,o+4,none⟩=some (.slice c.la c.ll c.lc)
 f:w.cell? ⟨b,o+5,none⟩=some (.slice c.fa c.fl c.fc)
mutual
def IsVal (S:Nat→Prop) (w:World):VC→Val→Prop
 | c,.mk k i s t l ns fs=>(c.k=k∧c.i=i∧c.s=s∧c.t=t∧c.ok∧c.ll=l.length∧c.fl=fs.length∧ns.length=fs.length) ∧
    (l=[]∨∃b o,c.la=some ⟨b,o,none⟩∧S b∧IsVals S w b o l)∧(fs=[]∨∃b o,c.fa=some ⟨b,o,none⟩∧S b∧IsFlds S w b o ns fs)
def IsVals (S:Nat→Prop) (w:World) (b:Nat):Nat→List Val→Prop
 | _,[]=>True
 | o,d :: l=>(∃c:VC,At w b o c∧IsVal S w c d)∧IsVals S w b (o+6) l
def IsFlds (S:Nat→Prop) (w:World) (b:Nat):Nat→List ByteArray→List Val→Prop
 | _,_,[]=>True
 | o,ns,d :: l=>((w.cell? ⟨b,o,none⟩=some (.string (ns.headD ByteArray.empty))∧(ns.headD ByteArray.empty).size≤140737488351232)∧∃c:VC,At w b (o+1) c∧IsVal S w c d)∧IsFlds S w b (o+7) ns.tail l
end
theorem At.same {w w':World} {b o:Nat} {c:VC} (h:At w b o c) (hb:w'.heap[b]?=w.heap[b]?):At w' b o c:=by
 have e:∀j,w'.cell? ⟨b,j,none⟩=w.cell? ⟨b,j,none⟩:=fun j=>World.cell?_of_block (w:=w) (a:=⟨b,j,none⟩) hb
 exact⟨(e _).trans h.k,(e _).trans h.i,(e _).trans h.s,(e _).trans h.t,(e _).trans h.l,(e _).trans h.f⟩
mutual
theorem IsVal.same {S S':Nat→Prop} {w w':World} (hs:∀b,S b→S' b∧w'.heap[b]?=w.heap[b]?):∀{c:VC} {d:Val},IsVal S w c d→IsVal S' w' c d
 | c,.mk k i s t l ns fs,h=>by
   obtain⟨h1,h2,h3⟩:=h
   refine⟨h1,?_,?_⟩
   ·rcases h2 with h2 | ⟨b,o,ha,hb,hv⟩
    ·exact .inl h2
    ·exact .inr ⟨b,o,ha,(hs b hb).1,IsVals.same hs (hs b hb).2 hv⟩
   ·rcases h3 with h3 | ⟨b,o,ha,hb,hv⟩
    ·exact .inl h3
    ·exact .inr ⟨b,o,ha,(hs b hb).1,IsFlds.same hs (hs b hb).2 hv⟩
theorem IsVals.same {S S':Nat→Prop} {w w':World} (hs:∀b,S b→S' b∧w'.heap[b]?=w.heap[b]?) {b:Nat} (hb:w'.heap[b]?=w.heap[b]?):∀{o:Nat} {l:List Val},IsVals S w b o l→IsVals S' w' b o l
 | _,[],_=>trivial
 | o,d :: l,⟨⟨c,ha,hv⟩,ht⟩=>⟨⟨c,ha.same hb,IsVal.same hs hv⟩,IsVals.same hs hb ht⟩
theorem IsFlds.same {S S':Nat→Prop} {w w':World} (hs:∀b,S b→S' b∧w'.heap[b]?=w.heap[b]?) {b:Nat} (hb:w'.heap[b]?=w.heap[b]?):∀{o:Nat} {ns:List ByteArray} {l:List Val},IsFlds S w b o ns l→IsFlds S' w' b o ns l
 | _,_,[],_=>trivial
 | o,ns,d :: l,⟨⟨⟨hn,hz⟩,c,ha,hv⟩,ht⟩=>⟨⟨⟨(World.cell?_of_block (w:=w) (a:=⟨b,o,none⟩) hb).trans hn,hz⟩,c,ha.same hb,IsVal.same hs hv⟩,IsFlds.same hs hb ht⟩
end
theorem IsVals.get {S:Nat→Prop} {w:World} {b:Nat}:∀{l:List Val} {o:Nat},IsVals S w b o l→∀(j:Nat) (h:j<l.length),∃c,At w b (o+j * 6) c∧IsVal S w c l[j]
 | d :: l,o,⟨h0,ht⟩,0,_=>by simpa using h0
 | d :: l,o,⟨h0,ht⟩,j+1,h=>by
   obtain⟨c,ha,hv⟩:=IsVals.get ht j (by simpa using h)
   exact⟨c,by rw[show o+(j+1) * 6=o+6+j * 6 by omega];exact ha,by simpa using hv⟩
theorem IsFlds.get {S:Nat→Prop} {w:World} {b:Nat}:∀{l:List Val} {ns:List ByteArray} {o:Nat},IsFlds S w b o ns l→ns.length=l.length→∀(j:Nat) (h:j<l.length) (h':j<ns.length),
 (w.cell? ⟨b,o+j * 7,none⟩=some (.string ns[j])∧ns[j].size≤140737488351232)∧∃c,At w b (o+j * 7+1) c∧IsVal S w c l[j]
 | d :: l,[],o,_,hl,_,_,h'=>by simp at h'
 | d :: l,n :: ns,o,⟨h0,ht⟩,hl,0,_,_=>by simpa using h0
 | d :: l,n :: ns,o,⟨h0,ht⟩,hl,j+1,h,h'=>by
   have:=IsFlds.get ht (by simpa using hl) j (by simpa using h) (by simpa using h')
   rw[show o+(j+1) * 7=o+7+j * 7 by omega]
   simpa using this
theorem IsVals.of {S:Nat→Prop} {w:World} {b:Nat}:∀{l:List Val} {o:Nat},(∀(j:Nat) (h:j<l.length),∃c,At w b (o+j * 6) c∧IsVal S w c l[j])→IsVals S w b o l
 | [],_,_=>trivial
 | d :: l,o,h=>⟨by have h0:=h 0 (by simp);rw[Nat.zero_mul,Nat.add_zero] at h0;exact h0,IsVals.of fun j hj=>by
     have:=h (j+1) (by simpa using hj)
     rw[show o+(j+1) * 6=o+6+j * 6 by omega] at this
     simpa using this⟩
theorem IsFlds.of {S:Nat→Prop} {w:World} {b:Nat}:∀{l:List Val} {ns:List ByteArray} {o:Nat},ns.length=l.length→(∀(j:Nat) (h:j<l.length) (h':j<ns.length),
 (w.cell? ⟨b,o+j * 7,none⟩=some (.string ns[j])∧ns[j].size≤140737488351232)∧∃c,At w b (o+j * 7+1) c∧IsVal S w c l[j])→IsFlds S w b o ns l
 | [],_,_,_,_=>trivial
 | d :: l,[],_,hl,_=>by simp at hl
 | d :: l,n :: ns,o,hl,h=>⟨by have h0:=h 0 (by simp) (by simp);rw[Nat.zero_mul,Nat.add_zero] at h0;exact h0,IsFlds.of (by simpa using hl) fun j hj hj'=>by
     have:=h (j+1) (by simpa using hj) (by simpa using hj')
     rw[show o+(j+1) * 7=o+7+j * 7 by omega] at this
     simpa using this⟩
mutual
def Val.sz:Val→Nat
 | .mk _ _ _ _ l _ fs=>1+Val.szs l+Val.szs fs
def Val.szs:List Val→Nat
 | []=>0
 | d :: l=>Val.sz d+Val.szs l
end
theorem Val.szs_get:∀(l:List Val) (j:Nat) (h:j<l.length),Val.sz l[j]≤Val.szs l
 | d :: l,0,_=>by simp[Val.szs]
 | d :: l,j+1,h=>by
   have:=Val.szs_get l j (by simpa using h)
   simp[Val.szs];omega
theorem aC {w:World} {k:Nat} {x:Obj} (o:Obj) (h:w.heap[k]?=some x):(w.alloc o).heap[k]?=some x :=
 (Below.heap_alloc w o k (Array.getElem?_eq_some_iff.1 h).1).trans h
theorem aY {w w':World} {row:Option Nat} {k:Nat} {x:Obj} (hg:w.grownBy w' row) (h:w.heap[k]?=some x) (hne:some k≠row):w'.heap[k]?=some x :=
 (hg.block k (Array.getElem?_eq_some_iff.1 h).1 hne).trans h
theorem fY {N:Nat} {w w':World} {k:Nat} {x:Obj} (hb:Below N w w') (h:w.heap[k]?=some x) (hk:k<N):w'.heap[k]?=some x :=
 (hb.block k hk).trans h
theorem aB {w w':World} {k:Nat} {x:Obj} (hb:Below w.heap.size w w') (h:w.heap[k]?=some x):w'.heap[k]?=some x :=
 (hb.block k (Array.getElem?_eq_some_iff.1 h).1).trans h
theorem aJ {w:World} {k:Nat} {x:Obj} (a:Addr) (v:Value) (h:w.heap[k]?=some x) (hne:k≠a.block):(w.setCell a v).heap[k]?=some x :=
 (Below.heap_setCell w a v k hne).trans h
theorem aD {w:World} {k o:Nat} {c:Array Value} {t:TypeId} {fr:Nat × Nat} (v:Value) (h:w.heap[k]?=some (.cells c t fr)):(w.setCell ⟨k,o,none⟩ v).heap[k]?=some (.cells (c.setIfInBounds o v) t fr):=by
 simp[World.setCell,Array.getElem?_modify,h]
theorem aA {w:World} {k:Nat} {c:Array Value} {t:TypeId} {fr:Nat × Nat} (h:w.heap[k]?=some (.cells c t fr)) (o:Nat):w.cell? ⟨k,o,none⟩=c[o]?:=by
 simp[World.cell?,h]
theorem aE {w:World} {k:Nat} {c:Array Value} {t:TypeId} (h:w.heap[k]?=some (.cells c t (0,0))) (o:Nat):w.frozen? ⟨k,o,none⟩=false:=by
 simp[World.frozen?,h]
theorem aM (w:World) (o:Obj) (n:Nat) (h:w.heap.size=n):(w.alloc o).heap[n]?=some o:=by subst h;exact heap_alloc_new w o
theorem retB {a b:Bool} (h:a=b):Ending.returned (.bool a)=Ending.returned (.bool b):=by rw[h]
theorem retI {k:IntKind} {a b:Int} (h:a=b):Ending.returned (.int k a)=Ending.returned (.int k b):=by rw[h]
theorem bT {w:World} {k:Nat} {x:Obj} (h:w.heap[k]?=some x):k<w.heap.size:=(Array.getElem?_eq_some_iff.1 h).1
theorem mQ {w w':World} (hb:Below w.heap.size w w') (row:Option Nat):w.grownBy w' row:=⟨hb.os,hb.tape,hb.output,hb.size,fun k hk _=>hb.block k hk⟩
theorem cW {w w':World} {base:Nat} {e:TypeId} {size:Nat} {v:Value} {n:Nat} {xs:List Value} (h:w.ownsRow base e size v n xs) (hb:Below w.heap.size w w'):w'.ownsRow base e size v n xs :=
 h.kept (mQ hb none) (by cases v.ownBlock<;>simp)
def lS (ops:Array Oper) (m:Nat):Bool:=(List.range ops.size).all fun j=>match ops[j]? with
 | none=>true
 | some o=>(o.after.all fun e=>decide (e.on<j))&&(decide (j<m)||(o.guard.isNone&&(List.range j).all fun i=>o.after.any fun e=>Region.binds .any e&&e.on==i))
section
variable {P:Program} {ops:Array Oper} {Q:Exit→Act→World→Prop}
theorem fS {m j:Nat} {o:Oper} (h:lS ops m=true) (ho:ops[j]?=some o) :
 (∀e∈o.after,e.on<j)∧(m≤j→o.guard=none∧∀i<j,∃e∈o.after,Region.binds .any e=true∧e.on=i):=by
 have hj:j<ops.size:=(Array.getElem?_eq_some_iff.1 ho).1
 simp only[lS,List.all_eq_true,List.mem_range] at h
 have h1:=h j hj
 simp only[ho,Bool.and_eq_true,Array.all_eq_true_iff_forall_mem,decide_eq_true_eq,Bool.or_eq_true,List.all_eq_true,List.mem_range] at h1
 refine⟨fun e he=>h1.1 e he,fun hm=>?_⟩
 rcases h1.2 with h2 | ⟨h2,h3⟩
 ·omega
 ·refine⟨by simpa using h2,fun i hi=>?_⟩
  have:=h3 i hi
  simp only[Array.any_eq_true,Bool.and_eq_true,beq_iff_eq] at this
  obtain⟨k,hk,hb,hon⟩:=this
  exact⟨_,Array.getElem_mem hk,hb,hon⟩
theorem iG {ops:Array Oper} {md:Region.Mode} {listed:Array Bool} (hback:∀(j:Nat) (o:Oper),ops[j]?=some o→∀e∈o.after,e.on<j) (hsz:listed.size=ops.size) {j:Nat} (hj:j<ops.size) (hl:listed.getD j true=false) :
 Region.ready md ops listed≠[]:=by
 have key:∀n,∀j,j≤n→j<ops.size→listed.getD j true=false→Region.ready md ops listed≠[]:=by
  intro n
  induction n with
  | zero =>
    intro j hn hj hl
    obtain rfl:j=0:=by omega
    have:0∈Region.ready md ops listed:=mem_ready.2 ⟨hl,_,Array.getElem?_eq_getElem hj,fun e he _=>absurd (hback 0 _ (Array.getElem?_eq_getElem hj) e he) (by omega)⟩
    exact List.ne_nil_of_mem this
  | succ n ih =>
    intro j hn hj hl
    by_cases hall:∀e∈(ops[j]).after,listed.getD e.on false=true
    ·have:j∈Region.ready md ops listed:=mem_ready.2 ⟨hl,_,Array.getElem?_eq_getElem hj,fun e he _=>hall e he⟩
     exact List.ne_nil_of_mem this
    ·simp only[Classical.not_forall] at hall
     obtain⟨e,he,hne⟩:=hall
     have hlt:=hback j _ (Array.getElem?_eq_getElem hj) e he
     refine ih e.on (by omega) (by omega) ?_
     have hs:e.on<listed.size:=by omega
     simp only[Array.getD_eq_getD_getElem?,Array.getElem?_eq_getElem hs,Option.getD_some] at hne ⊢
     simpa using hne
 exact key j j lr hj hl
theorem vU {m:Nat} (hok:lS ops m=true):∀(k j:Nat) (listed:Array Bool) (a:Act) (w:World),m≤j→j+k=ops.size→listed.size=ops.size→(∀i,i<j→listed.getD i false=true)→(∀i,j≤i→i<ops.size→listed.getD i true=false) →
 wpOps P ops Q (List.range' j k) a w→wpAny P .any ops Q k listed a w:=by
 intro k
 induction k with
 | zero =>
   intro j listed a w hm hj hsz hyes hno h
   refine⟨?_,by simpa [wpOps] using h⟩
   refine List.eq_nil_iff_forall_not_mem.2 fun i hi=>?_
   obtain⟨h0,o,ho,_⟩:=mem_ready.1 hi
   have hi':i<ops.size:=(Array.getElem?_eq_some_iff.1 ho).1
   have h1:=hyes i (by omega)
   have hs:i<listed.size:=by omega
   simp only[Array.getD_eq_getD_getElem?,Array.getElem?_eq_getElem hs,Option.getD_some] at h0 h1
   rw[h0] at h1;cases h1
 | succ k ih =>
   intro j listed a w hm hj hsz hyes hno h
   have hjs:j<ops.size:=by omega
   have hready:Region.ready .any ops listed=[j]:=by
    have hmem:∀i,i∈Region.ready .any ops listed ↔ i=j:=by
     intro i
     constructor
     ·intro hi
      obtain⟨h0,o,ho,hall⟩:=mem_ready.1 hi
      have hi':i<ops.size:=(Array.getElem?_eq_some_iff.1 ho).1
      rcases Nat.lt_trichotomy i j with hlt | heq | hgt
      ·have h1:=hyes i hlt
       have hs:i<listed.size:=by omega
       simp only[Array.getD_eq_getD_getElem?,Array.getElem?_eq_getElem hs,Option.getD_some] at h0 h1
       rw[h0] at h1;cases h1
      ·exact heq
      ·obtain⟨e,he,hb,hon⟩:=((fS hok ho).2 (by omega)).2 j hgt
       have h1:=hall e he hb
       have h2:=hno j lr hjs
       rw[hon] at h1
       have hs:j<listed.size:=by omega
       simp only[Array.getD_eq_getD_getElem?,Array.getElem?_eq_getElem hs,Option.getD_some] at h1 h2
       rw[h2] at h1;cases h1
     ·rintro rfl
      refine mem_ready.2 ⟨hno i lr hjs,_,Array.getElem?_eq_getElem hjs,fun e he _=>hyes _ ((fS hok (Array.getElem?_eq_getElem hjs)).1 e he)⟩
    have hnd:(Region.ready .any ops listed).Nodup:=List.filter_sublist.nodup List.nodup_range
    cases hr:Region.ready .any ops listed with
    | nil=>have:=(hmem j).2 rfl;rw[hr] at this;cases this
    | cons x xs =>
      rw[hr] at hmem hnd
      obtain rfl:x=j:=(hmem x).1 (by simp)
      cases xs with
      | nil=>rfl
      | cons y ys =>
        obtain rfl:y=x:=(hmem y).1 (by simp)
        simp at hnd
   refine⟨fun h0=>(by rw[hready] at h0;cases h0),fun i hi=>?_⟩
   rw[hready] at hi
   obtain rfl:i=j:=by simpa using hi
   rw[List.range'_succ,wpOps_cons] at h
   refine wpOp_mono (fun a' w' h'=>ih (i+1) _ a' w' (by omega) (by omega) (by simp[hsz]) ?_ ?_ h') h
   ·intro t ht
    by_cases hti:i=t
    ·subst hti;simp[Array.getD_eq_getD_getElem?,hsz,hjs]
    ·rw[getD_set_ne false hti];exact hyes t (by omega)
   ·intro t ht hts
    rw[getD_set_ne true (by omega)];exact hno t (by omega) hts
theorem lR {l:List Oper} {m i:Nat} (him:i<m) (hg:∀o,l[i]?=some o→∀g,o.guard=some g→g.1<m) {K:Act→World→Prop} {a:Act} {w:World} (h:wpOp P (l.take m).toArray Q i K a w):wpOp P l.toArray Q i K a w:=by
 have he:(l.take m).toArray[i]?=l.toArray[i]?:=by simp[him]
 unfold wpOp at *
 rw[he] at h
 cases ho:l.toArray[i]? with
 | none=>simpa [ho] using h
 | some o =>
   simp only[ho] at h ⊢
   have hw:Region.wanted o (yielded (l.take m).toArray a.tmps)=Region.wanted o (yielded l.toArray a.tmps):=by
    unfold Region.wanted
    cases hgd:o.guard with
    | none=>rfl
    | some g =>
      obtain⟨g,want⟩:=g
      have hgm:=hg o (by simpa using ho) (g,want) hgd
      have:(l.take m).toArray[g]?=l.toArray[g]?:=by simp[hgm]
      simp only[yielded,this]
   rwa[hw] at h
end
def iC (l:List Oper) (m:Nat):Bool:=(l.take m).all fun o=>match o.guard with | none=>true | some g=>decide (g.1<m)
section
variable {P:Program} {l:List Oper} {Q:Exit→Act→World→Prop}
theorem tF {m:Nat} (hok:lS l.toArray m=true) (hgo:iC l m=true) (hm:m≤l.length):∀(fuel:Nat) (L1 L:Array Bool) (a:Act) (w:World),L1.size=m→L.size=l.length→(∀i,i<m→L[i]?=L1[i]?)→(∀i,m≤i→i<l.length→L.getD i true=false) →
 wpAny P .any (l.take m).toArray (fun e a w=>match e with | .normal=>wpOps P l.toArray Q (List.range' m (l.length-m)) a w | e=>Q e a w) fuel L1 a w→wpAny P .any l.toArray Q (fuel+(l.length-m)) L a w:=by
 have hback:∀(j:Nat) (o:Oper),(l.take m).toArray[j]?=some o→∀e∈o.after,e.on<j:=fun j o ho=>by
  have:l.toArray[j]?=some o:=by
   simp only[List.getElem?_toArray,List.getElem?_take] at ho ⊢
   split at ho
   ·exact ho
   ·cases ho
  exact(fS hok this).1
 have hguard:∀i,i<m→∀o,l[i]?=some o→∀g,o.guard=some g→g.1<m:=by
  intro i hi o ho g hg
  have hmem:o∈l.take m:=List.mem_of_getElem? (i:=i) (by simp[hi,ho])
  have:=List.all_eq_true.1 hgo o hmem
  simpa [hg] using this
 have hlen:(l.take m).toArray.size=m:=by simp;omega
 have stuck:∀(fuel:Nat) (L1 L:Array Bool) (a:Act) (w:World),L1.size=m→L.size=l.length→(∀i,i<m→L[i]?=L1[i]?)→(∀i,m≤i→i<l.length→L.getD i true=false) →
  Region.ready .any (l.take m).toArray L1=[]→wpOps P l.toArray Q (List.range' m (l.length-m)) a w→wpAny P .any l.toArray Q (l.length-m) L a w:=by
  intro fuel L1 L a w h1 h2 h3 h4 hr h
  refine vU hok _ m L a w lr (by simp;omega) (by simpa using h2) ?_ ?_ h
  ·intro i hi
   have hi1:i<L1.size:=by omega
   by_cases hli:L1.getD i true=false
   ·exact absurd hr (iG hback (by omega) (by omega) hli)
   ·simp only[Array.getD_eq_getD_getElem?,h3 i hi,Array.getElem?_eq_getElem hi1,Option.getD_some] at hli ⊢
    simpa using hli
  ·intro i hi hi2
   exact h4 i hi (by simpa using hi2)
 have readyEq:∀(L1 L:Array Bool),L1.size=m→L.size=l.length→(∀i,i<m→L[i]?=L1[i]?)→(∀i,m≤i→i<l.length→L.getD i true=false)→Region.ready .any (l.take m).toArray L1≠[] →
  ∀i,i∈Region.ready .any l.toArray L→i<m∧i∈Region.ready .any (l.take m).toArray L1:=by
  intro L1 L h1 h2 h3 h4 hne i hi
  obtain⟨h0,o,ho,hall⟩:=mem_ready.1 hi
  have hil:i<l.length:=by have:=(Array.getElem?_eq_some_iff.1 ho).1;simpa using this
  have hD:∀(t:Nat) d,t<m→L.getD t d=L1.getD t d:=fun t d ht=>by simp only[Array.getD_eq_getD_getElem?,h3 t ht]
  by_cases him:i<m
  ·refine⟨him,mem_ready.2 ⟨by rw[←hD i true him];exact h0,o,?_,fun e he hb=>?_⟩⟩
   ·simp only[List.getElem?_toArray,List.getElem?_take,him,if_true] at ho ⊢;exact ho
   ·have hlt:=(fS hok ho).1 e he
    rw[←hD e.on false (by omega)];exact hall e he hb
  ·exfalso
   apply hne
   refine List.eq_nil_iff_forall_not_mem.2 fun t ht=>?_
   obtain⟨g0,ot,hot,_⟩:=mem_ready.1 ht
   have htm:t<m:=by have:=(Array.getElem?_eq_some_iff.1 hot).1;omega
   obtain⟨e,he,hb,hon⟩:=((fS hok ho).2 (by omega)).2 t (by omega)
   have h5:=hall e he hb
   rw[hon,hD t false htm] at h5
   have hs:t<L1.size:=by omega
   simp only[Array.getD_eq_getD_getElem?,Array.getElem?_eq_getElem hs,Option.getD_some] at h5 g0
   rw[g0] at h5;cases h5
 intro fuel
 induction fuel with
 | zero =>
   intro L1 L a w h1 h2 h3 h4 h
   rw[Nat.zero_add]
   exact stuck 0 L1 L a w h1 h2 h3 h4 h.1 h.2
 | succ fuel ih =>
   intro L1 L a w h1 h2 h3 h4 h
   by_cases hne:Region.ready .any (l.take m).toArray L1=[]
   ·have h5:=stuck 0 L1 L a w h1 h2 h3 h4 hne (h.1 hne)
    -- with more fuel than is wanted
    have more:∀(n k:Nat) (L:Array Bool) (a:Act) (w:World),wpAny P .any l.toArray Q n L a w→wpAny P .any l.toArray Q (n+k) L a w:=by
     intro n
     induction n with
     | zero =>
       intro k L a w h
       cases k with
       | zero=>exact h
       | succ k=>rw[Nat.zero_add];exact⟨fun _=>h.2,fun i hi=>by rw[h.1] at hi;cases hi⟩
     | succ n ihn =>
       intro k L a w h
       rw[show n+1+k=(n+k)+1 by omega]
       exact⟨h.1,fun i hi=>wpOp_mono (fun a' w' h'=>ihn k _ a' w' h') (h.2 i hi)⟩
    rw[show fuel+1+(l.length-m)=(l.length-m)+(fuel+1) by omega]
    exact more _ _ _ _ _ h5
   ·rw[show fuel+1+(l.length-m)=(fuel+(l.length-m))+1 by omega]
    have hreq:=readyEq L1 L h1 h2 h3 h4 hne
    refine⟨fun h0=>?_,fun i hi=>?_⟩
    ·-- something of the first part may come up here too
     exfalso
     obtain⟨t,ht⟩:=List.exists_mem_of_ne_nil _ hne
     obtain⟨g0,ot,hot,hall⟩:=mem_ready.1 ht
     have htm:t<m:=by have:=(Array.getElem?_eq_some_iff.1 hot).1;omega
     have hot':l.toArray[t]?=some ot:=by simp only[List.getElem?_toArray,List.getElem?_take,htm,if_true] at hot ⊢;exact hot
     have hD:∀(s:Nat) d,s<m→L.getD s d=L1.getD s d:=fun s d hs=>by simp only[Array.getD_eq_getD_getElem?,h3 s hs]
     have:t∈Region.ready .any l.toArray L:=mem_ready.2 ⟨by rw[hD t true htm];exact g0,ot,hot',fun e he hb=>by
      have hlt:=hback t ot hot e he
      rw[hD e.on false (by omega)];exact hall e he hb⟩
     rw[h0] at this;cases this
    ·obtain⟨him,hi1⟩:=hreq i hi
     have h6:=lR him (hguard i him) (Q:=fun e a w=>match e with | .normal=>wpOps P l.toArray Q (List.range' m (l.length-m)) a w | e=>Q e a w) (h.2 i hi1)
     have h7:wpOp P l.toArray Q i (wpAny P .any (l.take m).toArray (fun e a w=>match e with | .normal=>wpOps P l.toArray Q (List.range' m (l.length-m)) a w | e=>Q e a w) fuel (L1.setIfInBounds i true)) a w:=by
      unfold wpOp at h6 ⊢
      cases ho:l.toArray[i]? with
      | none=>simpa [ho] using h6
      | some o =>
        simp only[ho] at h6 ⊢
        split
        ·rename_i hw
         simp only[hw,if_true] at h6
         rcases h6 with h6 | ⟨h6,h8⟩
         ·refine .inl ?_
          unfold Oper.wp at h6 ⊢
          generalize (execOp a.eval o).run P w=r at h6 ⊢
          cases r with
          | ok n w' =>
            cases n<;>simp only[Oper.upon] at h6 ⊢ <;> first
             | exact h6
             | (refine Calls.mono h6 fun e w'' he=>?_
                cases e<;>first | exact he | (obtain⟨a0,w0,hq⟩:=he;exact⟨a0,w0,hq⟩))
          | halt x w'=>cases x<;>simp only[Oper.upon] at h6 ⊢ <;> exact h6
         ·exact .inr ⟨h6,h8⟩
        ·rename_i hw
         simp only[hw] at h6
         exact h6
     refine wpOp_mono (fun a' w' h8=>ih (L1.setIfInBounds i true) (L.setIfInBounds i true) a' w' (by simp[h1]) (by simp[h2]) ?_ ?_ h8) h7
     ·intro t ht
      by_cases hti:i=t
      ·subst hti
       have:i<L.size:=by omega
       simp[h1,him,this]
      ·simp[Array.getElem?_setIfInBounds_ne hti,h3 t ht]
     ·intro t ht htl
      rw[getD_set_ne true (by omega)];exact h4 t ht htl
theorem vT {m:Nat} (hok:lS l.toArray m=true) (k:Nat):∀(j:Nat) (a:Act) (w:World),wpOps P (l.drop m).toArray Q (List.range' j k) a w→wpOps P l.toArray Q (List.range' (m+j) k) a w:=by
 induction k with
 | zero=>intro j a w h;simpa [wpOps] using h
 | succ k ih =>
   intro j a w h
   rw[List.range'_succ,wpOps_cons] at h ⊢
   have he:(l.drop m).toArray[j]?=l.toArray[m+j]?:=by simp
   have h':wpOp P l.toArray Q (m+j) (wpOps P (l.drop m).toArray Q (List.range' (j+1) k)) a w:=by
    unfold wpOp at h ⊢
    rw[he] at h
    cases ho:l.toArray[m+j]? with
    | none=>simpa [ho] using h
    | some o =>
      simp only[ho] at h ⊢
      have hg:=((fS hok ho).2 (by omega)).1
      have hw:∀y,Region.wanted o y=true:=fun y=>by simp[Region.wanted,hg]
      simpa only[hw,if_true] using h
   refine wpOp_mono (fun a' w' h8=>?_) h'
   have:=ih (j+1) a' w' h8
   rwa[show m+(j+1)=m+j+1 by omega] at this
theorem aQ {id:Nat} {a:Act} {w:World} (m:Nat) (S:World→Prop) (hP:P.follows .mixedOrders=true) (hok:lS l.toArray m=true) (hgo:iC l m=true) (hm:decide (m≤l.length)=true) (hS:S w.drew)
 (h:S w.drew→wpAnyH P .any (l.take m).toArray (fun e a w=>match e with | .normal=>wpList P (l.drop m).toArray Q (l.drop m) a w | e=>Q e a w) S m (Array.replicate m false) a w.drew):(Code.region id l.toArray true).wp P Q a w:=by
 have hm':m≤l.length:=of_decide_eq_true hm
 have h1:=wpAny_of_held _ _ _ _ (h hS)
 have mono:∀(fuel:Nat) (L:Array Bool) (a:Act) (w:World),wpAny P .any (l.take m).toArray (fun e a w=>match e with | .normal=>wpList P (l.drop m).toArray Q (l.drop m) a w | e=>Q e a w) fuel L a w →
  wpAny P .any (l.take m).toArray (fun e a w=>match e with | .normal=>wpOps P l.toArray Q (List.range' m (l.length-m)) a w | e=>Q e a w) fuel L a w:=by
  have hn:∀a w,wpList P (l.drop m).toArray Q (l.drop m) a w→wpOps P l.toArray Q (List.range' m (l.length-m)) a w:=fun a w h=>by
   have e:=wpOps_eq_wpList (P:=P) (Q:=Q) (ops:=(l.drop m).toArray) (l.drop m) 0 (fun j=>by simp)
   rw[←e] at h
   have:=vT hok _ 0 a w h
   simpa using this
  have step:∀{i:Nat} {K K':Act→World→Prop} {a:Act} {w:World},(∀a w,K a w→K' a w)→wpOp P (l.take m).toArray (fun e a w=>match e with | .normal=>wpList P (l.drop m).toArray Q (l.drop m) a w | e=>Q e a w) i K a w →
   wpOp P (l.take m).toArray (fun e a w=>match e with | .normal=>wpOps P l.toArray Q (List.range' m (l.length-m)) a w | e=>Q e a w) i K' a w:=by
   intro i K K' a w hk h6
   refine wpOp_mono hk ?_
   unfold wpOp at h6 ⊢
   cases ho:(l.take m).toArray[i]? with
   | none=>simpa [ho] using h6
   | some o =>
     simp only[ho] at h6 ⊢
     split
     ·rename_i hw
      simp only[hw,if_true] at h6
      rcases h6 with h6 | ⟨h6,h8⟩
      ·refine .inl ?_
       unfold Oper.wp at h6 ⊢
       generalize (execOp a.eval o).run P w=r at h6 ⊢
       cases r with
       | ok n w' =>
         cases n<;>simp only[Oper.upon] at h6 ⊢ <;> first
          | exact h6
          | (refine Calls.mono h6 fun e w'' he=>?_
             cases e<;>first | exact he | (obtain⟨a0,w0,hq⟩:=he;exact⟨a0,w0,hq⟩))
       | halt x w'=>cases x<;>simp only[Oper.upon] at h6 ⊢ <;> exact h6
      ·exact .inr ⟨h6,h8⟩
     ·rename_i hw
      simp only[hw] at h6
      exact h6
  intro fuel
  induction fuel with
  | zero=>intro L a w h;exact⟨h.1,hn _ _ h.2⟩
  | succ fuel ih=>intro L a w h;exact⟨fun h0=>hn _ _ (h.1 h0),fun i hi=>step (fun a w h=>ih _ a w h) (h.2 i hi)⟩
 refine wp_region_any hP ?_
 have h2:=tF hok hgo hm' m (Array.replicate m false) (Array.replicate l.toArray.size false) a w.drew (by simp) (by simp) (fun i hi=>by rw[Array.getElem?_replicate,Array.getElem?_replicate,if_pos hi,if_pos (by simp;omega)]) (fun i _ hi=>by simp[Array.getD_eq_getD_getElem?,hi]) (mono _ _ _ _ h1)
 have e:m+(l.length-m)=l.toArray.size:=by simp;omega
 rw[e] at h2
 exact h2
end
/-! ### A slice of values that the call builds -/
theorem lH {α:Type} (f:α→List Value) (n:Nat) (hf:∀c,(f c).length=n):∀(cs:List α) (j i:Nat) (h:j<cs.length),i<n→(cs.flatMap f)[j * n+i]?=(f cs[j])[i]?
 | c :: cs,0,i,_,hi=>by
   rw[List.flatMap_cons,Nat.zero_mul,Nat.zero_add,List.getElem?_append_left (by rw[hf];exact hi)]
   rfl
 | c :: cs,j+1,i,h,hi=>by
   rw[List.flatMap_cons,List.getElem?_append_right (by rw[hf,Nat.add_mul];omega),hf,show(j+1) * n+i-n=j * n+i by rw[Nat.add_mul];omega,lH f n hf cs j i (by simpa using h) hi]
   rfl
theorem VC.cs_len (c:VC):c.cs.length=6:=rfl
theorem At.ofRow {w:World} {base:Nat} {e:TypeId} {g:Nat} {n cap:Nat} {cs:List VC} (h:w.ownsRow base e 6 (.slice (some ⟨g,0,none⟩) n cap) n (cs.flatMap VC.cs)) (j:Nat) (hj:j<cs.length):At w g (j * 6) cs[j]:=by
 have hc:=h.cells (g:=g) rfl
 have key:∀i u,i<6→(cs[j].cs)[i]?=some u→w.cell? ⟨g,j * 6+i,none⟩=some u:=by
  intro i u hi hu
  have:=hc (j * 6+i) u (by rw[lH VC.cs 6 VC.cs_len cs j i hj hi];exact hu)
  rw[show(⟨g,0,none⟩:Addr).add (j * 6+i)=⟨g,j * 6+i,none⟩ by unfold Addr.add;split<;>simp_all] at this
  exact this
 exact⟨key 0 _ (by omega) rfl,key 1 _ (by omega) rfl,key 2 _ (by omega) rfl,key 3 _ (by omega) rfl,key 4 _ (by omega) rfl,key 5 _ (by omega) rfl⟩
def BuiltV (T B:Nat) (w:World) (v:Value) (k:Nat) (l:List Val):Prop :=
 ∃cs:List VC,cs.length=k∧w.ownsRow B T 6 v k (cs.flatMap VC.cs)∧∀j (h:j<cs.length) (h':j<l.length),IsVal (fun b=>B≤b∧b<w.heap.size∧some b≠v.ownBlock) w cs[j] l[j]
theorem BuiltV.nil (T B:Nat) (w:World) (l:List Val):BuiltV T B w (.slice none 0 0) 0 l:=⟨[],rfl,World.ownsRow_nil _ _ _ _,fun j h=>by simp at h⟩
theorem BuiltV.push {T B N:Nat} {w1 w2:World} {v:Value} {k:Nat} {l:List Val} {cs:List VC} {c:VC} {o:Obj} {g cap:Nat} (hcs:cs.length=k)
 (hel:∀j (h:j<cs.length) (h':j<l.length),IsVal (fun b=>B≤b∧b<w1.heap.size∧some b≠v.ownBlock) w1 cs[j] l[j])
 (hk:k<l.length) (hc:IsVal (fun b=>N≤b∧b<w1.heap.size) w1 c l[k]) (hN:B≤N) (hv:∀r,v.ownBlock=some r→r<N)
 (hown:w2.ownsRow B T 6 (.slice (some ⟨g,0,none⟩) (k+1) cap) (k+1) (cs.flatMap VC.cs++c.cs)) (hgrow:(w1.alloc o).grownBy w2 v.ownBlock) (hat:v.ownBlock=some g∨g=w1.heap.size+1) :
 BuiltV T B w2 (.slice (some ⟨g,0,none⟩) (k+1) cap) (k+1) l:=by
 have hsz:w1.heap.size+1≤w2.heap.size:=by have:=hgrow.size;simpa using this
 have hst:∀b,b<w1.heap.size→some b≠v.ownBlock→w2.heap[b]?=w1.heap[b]?:=fun b hb hne =>
  (hgrow.block b (by simp;omega) hne).trans (Below.heap_alloc _ _ _ hb)
 have hg:∀b,b<w1.heap.size→some b≠v.ownBlock→some b≠(Value.slice (some ⟨g,0,none⟩) (k+1) cap).ownBlock:=fun b hb hne e=>by
  simp only[Value.ownBlock,Option.some.injEq] at e
  subst e
  rcases hat with h | h
  ·exact hne h.symm
  ·omega
 refine⟨cs++[c],by simp[hcs],by simpa using hown,fun j hj hj'=>?_⟩
 by_cases hjk:j<cs.length
 ·rw[List.getElem_append_left hjk]
  exact(hel j hjk hj').same fun b hb=>⟨⟨hb.1,by omega,hg b hb.2.1 hb.2.2⟩,hst b hb.2.1 hb.2.2⟩
 ·obtain rfl:j=k:=by simp at hj;omega
  rw[List.getElem_append_right (by omega)]
  simp only[hcs,Nat.sub_self,List.getElem_cons_zero]
  have hne:∀b,N≤b→some b≠v.ownBlock:=fun b hb e=>by have:=hv b e.symm;omega
  exact hc.same fun b hb=>⟨⟨by omega,by omega,hg b hb.2 (hne b hb.1)⟩,hst b hb.2 (hne b hb.1)⟩
theorem BuiltV.shape {T B:Nat} {w:World} {v:Value} {k:Nat} {l:List Val} (h:BuiltV T B w v k l):∃a cap,v=.slice a k cap∧k≤cap∧(a=none→k=0)∧∀r,v.ownBlock=some r→B≤r∧r<w.heap.size:=by
 obtain⟨cs,h1,h2,h3⟩:=h
 have hlt:=h2.lt
 rcases h2.2 with ⟨rfl,rfl⟩ | ⟨g,cap,cur,rfl,hb,hg,hn,_⟩
 ·exact⟨none,0,rfl,Nat.le_refl _,fun _=>rfl,hlt⟩
 ·exact⟨_,cap,rfl,hn,fun h=>by simp at h,hlt⟩
theorem BuiltV.own {T B:Nat} {w:World} {v:Value} {k:Nat} {l:List Val} (h:BuiltV T B w v k l):∀r,v.ownBlock=some r→B≤r∧r<w.heap.size:=by
 obtain⟨_,_,h2,_⟩:=h
 exact h2.lt
theorem BuiltV.vals {T B:Nat} {w:World} {a:Option Addr} {cap:Nat} {l:List Val} (h:BuiltV T B w (.slice a l.length cap) l.length l):l=[]∨∃b o,a=some ⟨b,o,none⟩∧(B≤b∧b<w.heap.size)∧IsVals (fun b=>B≤b∧b<w.heap.size) w b o l:=by
 obtain⟨cs,h1,h2,h3⟩:=h
 rcases h2.2 with ⟨h4,h5⟩ | ⟨g,cap',cur,hv,hb,hg,_⟩
 ·exact .inl (List.eq_nil_of_length_eq_zero h5)
 ·simp only[Value.slice.injEq] at hv
  obtain⟨rfl,_,rfl⟩:=hv
  refine .inr ⟨g,0,rfl,⟨hb,bT hg⟩,IsVals.of fun j hj=>⟨cs[j]'(by omega),?_,?_⟩⟩
  ·rw[Nat.zero_add];exact At.ofRow h2 j (by omega)
  ·exact(h3 j (by omega) hj).same fun b hb=>⟨⟨hb.1,hb.2.1⟩,rfl⟩
/-! ### A slice of fields that the call builds -/
def FC.cs (f:ByteArray × VC):List Value:=.string f.1 :: f.2.cs
theorem FC.cs_len (f:ByteArray × VC):(FC.cs f).length=7:=rfl
theorem FAt.ofRow {w:World} {base:Nat} {e:TypeId} {g:Nat} {n cap:Nat} {cs:List (ByteArray × VC)} (h:w.ownsRow base e 7 (.slice (some ⟨g,0,none⟩) n cap) n (cs.flatMap FC.cs)) (j:Nat) (hj:j<cs.length):w.cell? ⟨g,j * 7,none⟩=some (.string cs[j].1)∧At w g (j * 7+1) cs[j].2:=by
 have hc:=h.cells (g:=g) rfl
 have key:∀i u,i<7→(FC.cs cs[j])[i]?=some u→w.cell? ⟨g,j * 7+i,none⟩=some u:=by
  intro i u hi hu
  have:=hc (j * 7+i) u (by rw[lH FC.cs 7 FC.cs_len cs j i hj hi];exact hu)
  rw[show(⟨g,0,none⟩:Addr).add (j * 7+i)=⟨g,j * 7+i,none⟩ by unfold Addr.add;split<;>simp_all] at this
  exact this
 exact⟨key 0 _ (by omega) rfl,key 1 _ (by omega) rfl,key 2 _ (by omega) rfl,key 3 _ (by omega) rfl,key 4 _ (by omega) rfl,key 5 _ (by omega) rfl,key 6 _ (by omega) rfl⟩
def BuiltF (T B:Nat) (w:World) (v:Value) (k:Nat) (ns:List ByteArray) (l:List Val):Prop :=
 ∃cs:List (ByteArray × VC),cs.length=k∧w.ownsRow B T 7 v k (cs.flatMap FC.cs)∧∀j (h:j<cs.length) (h':j<l.length) (hn:j<ns.length),cs[j].1=ns[j]∧IsVal (fun b=>B≤b∧b<w.heap.size∧some b≠v.ownBlock) w cs[j].2 l[j]
theorem BuiltF.nil (T B:Nat) (w:World) (ns:List ByteArray) (l:List Val):BuiltF T B w (.slice none 0 0) 0 ns l:=⟨[],rfl,World.ownsRow_nil _ _ _ _,fun j h=>by simp at h⟩
theorem BuiltF.push {T B N:Nat} {w1 w2:World} {v:Value} {k:Nat} {ns:List ByteArray} {l:List Val} {cs:List (ByteArray × VC)} {n:ByteArray} {c:VC} {o:Obj} {g cap:Nat} (hcs:cs.length=k)
 (hel:∀j (h:j<cs.length) (h':j<l.length) (hn:j<ns.length),cs[j].1=ns[j]∧IsVal (fun b=>B≤b∧b<w1.heap.size∧some b≠v.ownBlock) w1 cs[j].2 l[j])
 (hk:k<l.length) (hkn:k<ns.length) (hn:n=ns[k]) (hc:IsVal (fun b=>N≤b∧b<w1.heap.size) w1 c l[k]) (hN:B≤N) (hv:∀r,v.ownBlock=some r→r<N)
 (hown:w2.ownsRow B T 7 (.slice (some ⟨g,0,none⟩) (k+1) cap) (k+1) (cs.flatMap FC.cs++FC.cs (n,c))) (hgrow:(w1.alloc o).grownBy w2 v.ownBlock) (hat:v.ownBlock=some g∨g=w1.heap.size+1) :
 BuiltF T B w2 (.slice (some ⟨g,0,none⟩) (k+1) cap) (k+1) ns l:=by
 have hsz:w1.heap.size+1≤w2.heap.size:=by have:=hgrow.size;simpa using this
 have hst:∀b,b<w1.heap.size→some b≠v.ownBlock→w2.heap[b]?=w1.heap[b]?:=fun b hb hne =>
  (hgrow.block b (by simp;omega) hne).trans (Below.heap_alloc _ _ _ hb)
 have hg:∀b,b<w1.heap.size→some b≠v.ownBlock→some b≠(Value.slice (some ⟨g,0,none⟩) (k+1) cap).ownBlock:=fun b hb hne e=>by
  simp only[Value.ownBlock,Option.some.injEq] at e
  subst e
  rcases hat with h | h
  ·exact hne h.symm
  ·omega
 refine⟨cs++[(n,c)],by simp[hcs],by simpa using hown,fun j hj hj' hjn=>?_⟩
 by_cases hjk:j<cs.length
 ·rw[List.getElem_append_left hjk]
  exact⟨(hel j hjk hj' hjn).1,(hel j hjk hj' hjn).2.same fun b hb=>⟨⟨hb.1,by omega,hg b hb.2.1 hb.2.2⟩,hst b hb.2.1 hb.2.2⟩⟩
 ·obtain rfl:j=k:=by simp at hj;omega
  rw[List.getElem_append_right (by omega)]
  simp only[hcs,Nat.sub_self,List.getElem_cons_zero]
  have hne:∀b,N≤b→some b≠v.ownBlock:=fun b hb e=>by have:=hv b e.symm;omega
  exact⟨hn,hc.same fun b hb=>⟨⟨by omega,by omega,hg b hb.2 (hne b hb.1)⟩,hst b hb.2 (hne b hb.1)⟩⟩
theorem BuiltF.shape {T B:Nat} {w:World} {v:Value} {k:Nat} {ns:List ByteArray} {l:List Val} (h:BuiltF T B w v k ns l):∃a cap,v=.slice a k cap∧k≤cap∧(a=none→k=0)∧∀r,v.ownBlock=some r→B≤r∧r<w.heap.size:=by
 obtain⟨cs,h1,h2,h3⟩:=h
 have hlt:=h2.lt
 rcases h2.2 with ⟨rfl,rfl⟩ | ⟨g,cap,cur,rfl,hb,hg,hn,_⟩
 ·exact⟨none,0,rfl,Nat.le_refl _,fun _=>rfl,hlt⟩
 ·exact⟨_,cap,rfl,hn,fun h=>by simp at h,hlt⟩
theorem BuiltF.own {T B:Nat} {w:World} {v:Value} {k:Nat} {ns:List ByteArray} {l:List Val} (h:BuiltF T B w v k ns l):∀r,v.ownBlock=some r→B≤r∧r<w.heap.size:=by
 obtain⟨_,_,h2,_⟩:=h
 exact h2.lt
theorem BuiltF.flds {T B:Nat} {w:World} {a:Option Addr} {cap:Nat} {ns:List ByteArray} {l:List Val} (h:BuiltF T B w (.slice a l.length cap) l.length ns l) (hl:ns.length=l.length) (hz:∀n∈ns,n.size≤140737488351232):l=[]∨∃b o,a=some ⟨b,o,none⟩∧(B≤b∧b<w.heap.size)∧IsFlds (fun b=>B≤b∧b<w.heap.size) w b o ns l:=by
 obtain⟨cs,h1,h2,h3⟩:=h
 rcases h2.2 with ⟨h4,h5⟩ | ⟨g,cap',cur,hv,hb,hg,_⟩
 ·exact .inl (List.eq_nil_of_length_eq_zero h5)
 ·simp only[Value.slice.injEq] at hv
  obtain⟨rfl,_,rfl⟩:=hv
  refine .inr ⟨g,0,rfl,⟨hb,bT hg⟩,IsFlds.of hl fun j hj hjn=>?_⟩
  have h4:=FAt.ofRow h2 j (by omega)
  have h5:=h3 j (by omega) hj hjn
  rw[Nat.zero_add,←h5.1]
  exact⟨⟨h4.1,by rw[h5.1];exact hz _ (List.getElem_mem _)⟩,_,h4.2,h5.2.same fun b hb=>⟨⟨hb.1,hb.2.1⟩,rfl⟩⟩
end
section
open Go Go.RowKit
def dC (k i s:Int) (t:ByteArray) (ll fl:Nat):Bool:=k==0&&(i==0&&(s==0&&(t.toList.isEmpty&&(((ll:Int)==0)&&((fl:Int)==0)))))
theorem bM (k i s:Int) (t:ByteArray) (la:Option Addr) (ll lc:Nat) (fa:Option Addr) (fl fc:Nat) (w:World) :
 Calls Tryz.prog 105 #[.agg #[.int .i64 k,.int .i64 i,.int .i64 s,.string t,.slice la ll lc,.slice fa fl fc]] w fun e w'=>e=.returned (.bool (dC k i s t ll fl))∧Below w.heap.size w w':=by
 go_enter Tryz.func105,Tryz.ntmps105
 go_wp2
 all_goals go_ret
 all_goals exact⟨by simp[dC, *],(bR w).alloc lr _⟩
def jE (n:Int):Bool:=decide (n<0)||decide (1099511627776<n)
theorem iN (n:Int) (w:World):Calls Tryz.prog 177 #[.int .i64 n] w fun e w'=>e=.returned (.bool (jE n))∧w=w':=by
 go_enter Tryz.func177,Tryz.ntmps177
 go_wp2
 all_goals go_ret
 all_goals exact⟨by simp[jE, *],rfl⟩
def gF (n:Int):Bool:=decide (1≤n)&&decide (n≤1048576)
theorem iO (n:Int) (w:World):Calls Tryz.prog 178 #[.int .i64 n] w fun e w'=>e=.returned (.bool (gF n))∧w=w':=by
 go_enter Tryz.func178,Tryz.ntmps178
 by_cases h1:1≤n<;>by_cases h2:n≤1048576
 all_goals go_wp2
 all_goals go_ret
 all_goals refine⟨retB ?_,rfl⟩
 all_goals rw[gF,Bool.eq_iff_iff]
 all_goals simp
 all_goals omega
def bU (n lo hi:Int):Int:=if n<lo∨hi<n then 2 else 0
theorem eF (n lo hi:Int) (w:World):Calls Tryz.prog 218 #[.int .i64 n,.int .i64 lo,.int .i64 hi] w fun e w'=>e=.returned (.int .i64 (bU n lo hi))∧w=w':=by
 go_enter Tryz.func218,Tryz.ntmps218
 by_cases h1:n<lo<;>by_cases h2:hi<n
 all_goals go_wp2
 all_goals go_ret
 all_goals exact⟨by simp[bU, *],rfl⟩
def dI (n most e:Int):Int:=if most<n then e else 0
theorem eL (n most e:Int) (w:World):Calls Tryz.prog 223 #[.int .i64 n,.int .i64 most,.int .i64 e] w fun e' w'=>e'=.returned (.int .i64 (dI n most e))∧w=w':=by
 go_enter Tryz.func223,Tryz.ntmps223
 by_cases h1:most<n
 all_goals go_wp2
 all_goals go_ret
 all_goals exact⟨retI (by first | rw[dI,if_pos (by omega)] | rw[dI,if_neg (by omega)]),rfl⟩
end
section
open Go Go.RowKit
def nmC (n:Nat):Bool:=(decide (97≤n)&&decide (n≤122))||((decide (48≤n)&&decide (n≤57))||n==95)
def iL:List UInt8→Bool
 | []=>false
 | c :: r=>decide ((c :: r).length≤32)&&((decide (97≤c.toNat)&&decide (c.toNat≤122))&&(c :: r).all (fun b=>nmC b.toNat))
def aI (s:ByteArray):Bool:=iL s.data.toList
theorem vL (s:ByteArray):s.data.toList.length=s.size:=Array.length_toList
theorem bget (s:ByteArray) (k:Nat) (h:k<s.size):s.data.toList[k]'(by rw[vL];exact h)=s[k]:=by rw[Array.getElem_toList];rfl
theorem bhead {s:ByteArray} {c:UInt8} {r:List UInt8} (hl:s.data.toList=c :: r) (h0:0<s.size):s[0]=c:=by
 rw[←bget s 0 h0];simp only[hl,List.getElem_cons_zero]
theorem kD {s:ByteArray} (h:s.toList=[]):aI s=false:=by
 rw[ByteArray.toList_eq] at h;simp[aI,iL,h]
theorem mI {s:ByteArray} (h:32<s.size):aI s=false:=by
 unfold aI
 have:s.data.toList.length=s.size:=vL s
 cases hl:s.data.toList with
 | nil=>rfl
 | cons c r=>rw[hl] at this;simp[iL];intro h1;simp at this;omega
theorem kC {s:ByteArray} (h0:0<s.size) (h:s[0].toNat<97∨122<s[0].toNat):aI s=false:=by
 unfold aI
 cases hl:s.data.toList with
 | nil=>rfl
 | cons c r =>
   have e:s[0]=c:=bhead hl h0
   rw[e] at h
   simp[iL];intro _ h1 h2;omega
theorem mJ {s:ByteArray} (k:Nat) (hk:k<s.size) (h:nmC s[k].toNat=false):aI s=false:=by
 unfold aI
 have hm:s[k]∈s.data.toList:=by
  rw[←bget s k hk];exact List.getElem_mem _
 cases hl:s.data.toList with
 | nil=>rfl
 | cons c r =>
   have:(c :: r).all (fun b=>nmC b.toNat)=false:=by
    rw[List.all_eq_false]
    exact⟨s[k],by rw[←hl];exact hm,by simp[h]⟩
   simp only[iL,this,Bool.and_false]
theorem lF {s:ByteArray} (h0:0<s.size) (h32:s.size≤32) (h1:97≤s[0].toNat) (h2:s[0].toNat≤122) (hall:∀k (hk:k<s.size),nmC s[k].toNat=true):aI s=true:=by
 unfold aI
 have hlen:s.data.toList.length=s.size:=vL s
 cases hl:s.data.toList with
 | nil=>rw[hl] at hlen;simp at hlen;omega
 | cons c r =>
   have e:s[0]=c:=bhead hl h0
   have ha:(c :: r).all (fun b=>nmC b.toNat)=true:=by
    rw[List.all_eq_true]
    intro x hx
    rw[←hl] at hx
    obtain⟨k,hk,rfl⟩:=List.getElem_of_mem hx
    rw[bget s k (by rw[←hlen];exact hk)]
    exact hall k (by rw[←hlen];exact hk)
   rw[e] at h1 h2
   rw[hl] at hlen
   rw[iL,ha]
   simp only[List.length_cons] at hlen ⊢
   simp;omega
theorem pQ {w:World} {B:Nat} {s:ByteArray} {cap:Nat} {t:TypeId} {fr:Nat × Nat} (h:w.heap[B]?=some (.cells (bytesRow s cap) t fr)) (k:Nat) (hk:k<s.size):w.cell? ⟨B,k,none⟩=some (.int .u8 (s[k].toNat:Nat)):=by
 rw[aA h k]
 unfold bytesRow
 have hk':k<s.data.size:=hk
 rw[Array.getElem?_append_left (by rw[Array.size_map];exact hk'),Array.getElem?_map,Array.getElem?_eq_getElem hk']
 rfl
theorem gQ (s:ByteArray) (w:World) (hs:s.size≤140737488351232) :
 Calls Tryz.prog 229 #[.string s] w fun e w'=>e=.returned (.bool (aI s))∧Below w.heap.size w w':=by
 have hcv:=fun w s=>run_bytes_of_string (P:=Tryz.prog) w 9 137 5 s Tryz.underlying9 Tryz.underlying137 Tryz.underlying5
 by_cases he:s.toList=[]
 ·have HR:=hid (kD he)
  go_enter Tryz.func229,Tryz.ntmps229
  go_wp2
  go_ret
  exact⟨retB HR.out.symm,Below.refl _ w⟩
 ·by_cases hb:32<s.size
  ·have HR:=hid (mI hb)
   have hb':(32:Int)<(s.size:Int):=by omega
   go_enter Tryz.func229,Tryz.ntmps229
   go_wp2
   go_ret
   exact⟨retB HR.out.symm,Below.refl _ w⟩
  ·have h0:0<s.size:=by
    rcases Nat.eq_zero_or_pos s.size with h | h
    ·exfalso;apply he;rw[ByteArray.toList_eq];exact List.eq_nil_of_length_eq_zero (by rw[vL];exact h)
    ·exact h
   have hb':(s.size:Int)≤32:=by omega
   by_cases hf:s[0].toNat<97∨122<s[0].toNat
   ·have HR:=hid (kC h0 hf)
    rcases hf with hf | hf
    ·have hf':(s[0].toNat:Int)<97:=by omega
     go_enter Tryz.func229,Tryz.ntmps229
     go_wp2
     go_ret
     exact⟨retB HR.out.symm,Below.refl _ w⟩
    ·have hf':(122:Int)<(s[0].toNat:Int):=by omega
     have hf'':(97:Int)≤(s[0].toNat:Int):=by omega
     go_enter Tryz.func229,Tryz.ntmps229
     go_wp2
     go_ret
     exact⟨retB HR.out.symm,Below.refl _ w⟩
   ·have hf1:(97:Int)≤(s[0].toNat:Int):=by omega
    have hf2:(s[0].toNat:Int)≤122:=by omega
    have hemp:s.toList.isEmpty=false:=by cases hh:s.toList with | nil=>exact absurd hh he | cons _ _=>rfl
    have hh1:97≤s[0].toNat:=by omega
    have hh2:s[0].toNat≤122:=by omega
    have HG:=hid (fun hall=>lF h0 (by omega) hh1 hh2 hall)
    clear hf he hh1 hh2
    obtain⟨cap,hcap⟩:∃cap,cap=grownCap w s.size 0 5:=⟨_,rfl⟩
    have hcv1:=hcv w s
    rw[←hcap] at hcv1
    clear hcv hcap
    go_enter Tryz.func229,Tryz.ntmps229
    go_wp2
    clear hcv1
    obtain⟨wo,hwo⟩:∃wo,wo=(w.alloc (.cells (bytesRow s cap) 5 ((bytesRow s cap).size,(bytesRow s cap).size+1))).drew:=⟨_,rfl⟩
    have hblk:wo.heap[w.heap.size]?=some (.cells (bytesRow s cap) 5 ((bytesRow s cap).size,(bytesRow s cap).size+1)):=by rw[hwo];exact heap_alloc_new w _
    have hbel:Below w.heap.size w wo:=by rw[hwo];exact((bR w).alloc lr _).drew
    rw[←hwo]
    clear hwo
    go_loop [25] (fun i=>∃k:Nat,k≤s.size∧i=.int .i64 k∧∀j (hj:j<s.size),j<k→nmC s[j].toNat=true) (fun i=>s.size-(intOf i).toNat)
    case atStart=>exact⟨0,Nat.zero_le _,rfl,fun j _ h=>absurd h (Nat.not_lt_zero _)⟩
    case round =>
     obtain⟨k,hk,rfl,hall⟩:=hrel
     have HA:=hid hall;clear hall
     by_cases hlt:k<s.size
     ·have hcell:=pQ hblk k hlt
      have HB:=hid hblk;clear hblk
      obtain⟨c,hc⟩:∃c,c=s[k].toNat:=⟨_,rfl⟩
      rw[←hc] at hcell
      have HC:=hid hc;clear hc
      have hlt':(k:Int)<(s.size:Int):=by omega
      have good:nmC c=true→∀j (hj:j<s.size),j<k+1→nmC s[j].toNat=true:=fun hg j hj hjk=>by
       by_cases h:j=k
       ·subst h;rw[←HC.out];exact hg
       ·exact HA.out j hj (by omega)
      have bad:nmC c=false→aI s=false:=fun hg=>mJ k hlt (by rw[←HC.out];exact hg)
      have HGood:=hid good;clear good
      have HBad:=hid bad;clear bad
      have h7:c<48∨(48≤c∧c≤57)∨(57<c∧c<95)∨c=95∨(95<c∧c<97)∨(97≤c∧c≤122)∨122<c:=by omega
      rcases h7 with h7 | ⟨h7,h8⟩ | ⟨h7,h8⟩ | h7 | ⟨h7,h8⟩ | ⟨h7,h8⟩ | h7
      case inl =>
       have i1:(c:Int)<97:=by omega
       have i2:(c:Int)<48:=by omega
       have i3:((c:Int) != 95)=true:=by simp;omega
       go_wp2
       go_ret
       exact⟨retB (HBad.out (by simp[nmC];omega)).symm,hbel⟩
      case inr.inl =>
       have i1:(c:Int)<97:=by omega
       have i2:(48:Int)≤(c:Int):=by omega
       have i3:(c:Int)≤57:=by omega
       go_wp2
       go_round
       case rel=>exact⟨k+1,by omega,by go_num,HGood.out (by simp[nmC];omega)⟩
       case measure=>simp[intOf];omega
      case inr.inr.inl =>
       have i1:(c:Int)<97:=by omega
       have i2:(48:Int)≤(c:Int):=by omega
       have i4:(57:Int)<(c:Int):=by omega
       have i3:((c:Int) != 95)=true:=by simp;omega
       go_wp2
       go_ret
       exact⟨retB (HBad.out (by simp[nmC];omega)).symm,hbel⟩
      case inr.inr.inr.inl =>
       subst h7
       go_wp2
       go_round
       case rel=>exact⟨k+1,by omega,by go_num,HGood.out (by simp[nmC])⟩
       case measure=>simp[intOf];omega
      case inr.inr.inr.inr.inl =>
       have i1:(c:Int)<97:=by omega
       have i2:(48:Int)≤(c:Int):=by omega
       have i4:(57:Int)<(c:Int):=by omega
       have i3:((c:Int) != 95)=true:=by simp;omega
       go_wp2
       go_ret
       exact⟨retB (HBad.out (by simp[nmC];omega)).symm,hbel⟩
      case inr.inr.inr.inr.inr.inl =>
       have i1:(97:Int)≤(c:Int):=by omega
       have i2:(c:Int)≤122:=by omega
       go_wp2
       go_round
       case rel=>exact⟨k+1,by omega,by go_num,HGood.out (by simp[nmC];omega)⟩
       case measure=>simp[intOf];omega
      case inr.inr.inr.inr.inr.inr =>
       have i1:(97:Int)≤(c:Int):=by omega
       have i4:(122:Int)<(c:Int):=by omega
       have i2:(48:Int)≤(c:Int):=by omega
       have i5:(57:Int)<(c:Int):=by omega
       have i3:((c:Int) != 95)=true:=by simp;omega
       go_wp2
       go_ret
       exact⟨retB (HBad.out (by simp[nmC];omega)).symm,hbel⟩
     ·have hge:¬ ((k:Int)<(s.size:Int)):=by omega
      go_wp2
      go_ret
      exact⟨retB (HG.out (fun j hj=>HA.out j hj (by omega))).symm,hbel⟩
end
section
open Go Go.RowKit
attribute [local go_sem ↓] Go.wp_at_zero Go.wp_at_succ
abbrev vArg (k i s:Int) (t:ByteArray) (la:Option Addr) (ll lc:Nat) (fa:Option Addr) (fl fc:Nat):Value:=.agg #[.int .i64 k,.int .i64 i,.int .i64 s,.string t,.slice la ll lc,.slice fa fl fc]
section
variable (k i s:Int) (t:ByteArray) (la:Option Addr) (ll lc:Nat) (fa:Option Addr) (fl fc:Nat) (w:World)
theorem xF:Calls Tryz.prog 217 #[vArg k i s t la ll lc fa fl fc] w fun e w'=>e=.returned (.int .i64 (bU i 0 1))∧Below w.heap.size w w':=by
 go_enter Tryz.func217,Tryz.ntmps217
 go_wp2_with (go_at_call 218;refine(eF _ _ _ _).mono ?_;rintro e w' ⟨rfl,rfl⟩)
 go_ret
 exact⟨rfl,(bR w).alloc lr _⟩
theorem xE:Calls Tryz.prog 219 #[vArg k i s t la ll lc fa fl fc] w fun e w'=>e=.returned (.int .i64 (bU i (-999999999999999) 999999999999999))∧Below w.heap.size w w':=by
 go_enter Tryz.func219,Tryz.ntmps219
 go_wp2_with (go_at_call 218;refine(eF _ _ _ _).mono ?_;rintro e w' ⟨rfl,rfl⟩)
 go_ret
 exact⟨rfl,(bR w).alloc lr _⟩
theorem xA:Calls Tryz.prog 225 #[vArg k i s t la ll lc fa fl fc] w fun e w'=>e=.returned (.int .i64 (bU i (-719162) 2932896))∧Below w.heap.size w w':=by
 go_enter Tryz.func225,Tryz.ntmps225
 go_wp2_with (go_at_call 218;refine(eF _ _ _ _).mono ?_;rintro e w' ⟨rfl,rfl⟩)
 go_ret
 exact⟨rfl,(bR w).alloc lr _⟩
theorem wZ:Calls Tryz.prog 226 #[vArg k i s t la ll lc fa fl fc] w fun e w'=>e=.returned (.int .i64 (bU i (-62135596800000) 253402300799999))∧Below w.heap.size w w':=by
 go_enter Tryz.func226,Tryz.ntmps226
 go_wp2_with (go_at_call 218;refine(eF _ _ _ _).mono ?_;rintro e w' ⟨rfl,rfl⟩)
 go_ret
 exact⟨rfl,(bR w).alloc lr _⟩
theorem xB:Calls Tryz.prog 224 #[vArg k i s t la ll lc fa fl fc] w fun e w'=>e=.returned (.int .i64 (dI t.size 1024 5))∧Below w.heap.size w w':=by
 go_enter Tryz.func224,Tryz.ntmps224
 go_wp2_with (go_at_call 223;refine(eL _ _ _ _).mono ?_;rintro e w' ⟨rfl,rfl⟩)
 go_ret
 exact⟨rfl,(bR w).alloc lr _⟩
theorem wY:Calls Tryz.prog 227 #[vArg k i s t la ll lc fa fl fc] w fun e w'=>e=.returned (.int .i64 (dI ll 256 9))∧Below w.heap.size w w':=by
 go_enter Tryz.func227,Tryz.ntmps227
 go_wp2_with (go_at_call 223;refine(eL _ _ _ _).mono ?_;rintro e w' ⟨rfl,rfl⟩)
 go_ret
 exact⟨rfl,(bR w).alloc lr _⟩
def cL (t:ByteArray) (ll:Nat):Int:=if aI t=false then 12 else if ll=0 then 4 else dI ll 1 3
theorem tU (ht:t.size≤140737488351232):Calls Tryz.prog 230 #[vArg k i s t la ll lc fa fl fc] w fun e w'=>e=.returned (.int .i64 (cL t ll))∧Below w.heap.size w w':=by
 by_cases hn:aI t=false
 ·have HR:=hid (show cL t ll=12 by simp[cL,hn])
  have hc:=fun w=>(gQ t w ht).mono (R':=fun e w'=>e=.returned (.bool false)∧Below w.heap.size w w') (fun e w' h=>⟨h.1.trans (by rw[hn]),h.2⟩)
  have HC:=hid hc;clear hc hn
  go_enter Tryz.func230,Tryz.ntmps230
  go_wp2_with (go_at_call 229;refine(HC.out _).mono ?_;rintro e w1 ⟨rfl,hb⟩)
  go_ret
  exact⟨retI HR.out.symm,((bR w).alloc lr _).trans (hb.mono (by simp))⟩
 ·have hn':aI t=true:=by simpa using hn
  have hc:=fun w=>(gQ t w ht).mono (R':=fun e w'=>e=.returned (.bool true)∧Below w.heap.size w w') (fun e w' h=>⟨h.1.trans (by rw[hn']),h.2⟩)
  have HC:=hid hc;clear hc
  by_cases h0:ll=0
  ·have HR:=hid (show cL t ll=4 by simp[cL,hn',h0])
   clear hn hn'
   subst h0
   go_enter Tryz.func230,Tryz.ntmps230
   go_wp2_with (go_at_call 229;refine(HC.out _).mono ?_;rintro e w1 ⟨rfl,hb⟩;have hc4:w1.cell? ⟨w.heap.size,4,none⟩=some (.slice la 0 lc):=aA (aB hb (heap_alloc_new w _)) 4)
   go_ret
   exact⟨retI HR.out.symm,((bR w).alloc lr _).trans (hb.mono (by simp))⟩
  ·have HR:=hid (show cL t ll=dI ll 1 3 by simp[cL,hn',h0])
   clear hn hn'
   have h0':((ll:Int)==0)=false:=by simp;omega
   go_enter Tryz.func230,Tryz.ntmps230
   go_wp2_with (first | (go_at_call 229;refine(HC.out _).mono ?_;rintro e w1 ⟨rfl,hb⟩;have hc4:w1.cell? ⟨w.heap.size,4,none⟩=some (.slice la ll lc):=aA (aB hb (heap_alloc_new w _)) 4) | (go_at_call 223;refine(eL _ _ _ _).mono ?_;rintro e w' ⟨rfl,rfl⟩))
   go_ret
   exact⟨retI HR.out.symm,((bR w).alloc lr _).trans (hb.mono (by simp))⟩
def jF (a b:Int):Int:=if a≠0 then a else b
theorem aAo (a b:Int) (g:Nat) (w:World) (h:w.heap[g]?=some (.cells #[.int .i64 a,.int .i64 b] 33 (0,0))):Calls Tryz.prog 221 #[.slice (some ⟨g,0,none⟩) 2 2] w fun e w'=>e=.returned (.int .i64 (jF a b))∧w=w':=by
 have c0:w.cell? ⟨g,0,none⟩=some (.int .i64 a):=aA h 0
 have c1:w.cell? ⟨g,1,none⟩=some (.int .i64 b):=aA h 1
 clear h
 by_cases ha:a=0
 ·by_cases hb:b=0
  ·subst ha;subst hb
   go_enter Tryz.func221,Tryz.ntmps221
   go_wp2
   refine wp_loop_rounds 3 ?_
   rw[rounds_succ]
   go_wp2
   rw[rounds_succ]
   go_wp2
   rw[rounds_succ]
   go_wp2
   go_ret
   exact⟨retI (by simp[jF]),rfl⟩
  ·subst ha
   have hb':(b != 0)=true:=by simpa using hb
   go_enter Tryz.func221,Tryz.ntmps221
   go_wp2
   refine wp_loop_rounds 2 ?_
   rw[rounds_succ]
   go_wp2
   rw[rounds_succ]
   go_wp2
   go_ret
   exact⟨retI (by simp[jF]),rfl⟩
 ·have ha':(a != 0)=true:=by simpa using ha
  go_enter Tryz.func221,Tryz.ntmps221
  go_wp2
  refine wp_loop_rounds 1 ?_
  rw[rounds_succ]
  go_wp2
  go_ret
  exact⟨retI (by simp[jF,ha]),rfl⟩
end
end
section
open Go Go.RowKit
attribute [local go_sem ↓] Go.wp_at_zero Go.wp_at_succ
section
variable (k i s:Int) (t:ByteArray) (la:Option Addr) (ll lc:Nat) (fa:Option Addr) (fl fc:Nat) (w:World)
theorem xD:Calls Tryz.prog 220 #[vArg k i s t la ll lc fa fl fc] w fun e w'=>e=.returned (.int .i64 (jF (bU i (-999999999999999) 999999999999999) (bU s 0 12)))∧Below w.heap.size w w':=by
 go_enter Tryz.func220,Tryz.ntmps220
 go_wp2
 obtain⟨wa,hwa⟩:∃wa,wa=w.alloc (.cells #[.int .i64 k,.int .i64 i,.int .i64 s,.string t,.slice la ll lc,.slice fa fl fc] 66):=⟨_,rfl⟩
 rw[←hwa]
 have hsz:w.heap.size<wa.heap.size:=by rw[hwa];simp
 have hbel:Below w.heap.size w wa:=by rw[hwa];exact(bR w).alloc lr _
 have h0:wa.heap[w.heap.size]?=some (.cells #[.int .i64 k,.int .i64 i,.int .i64 s,.string t,.slice la ll lc,.slice fa fl fc] 66):=by rw[hwa];exact heap_alloc_new w _
 have c1:wa.cell? ⟨w.heap.size,1,none⟩=some (.int .i64 i):=aA h0 1
 have c2:wa.cell? ⟨w.heap.size,2,none⟩=some (.int .i64 s):=aA h0 2
 clear hwa h0
 go_region_held3 (fun w'=>w'.cell? ⟨w.heap.size,1,none⟩=some (.int .i64 i)∧w'.cell? ⟨w.heap.size,2,none⟩=some (.int .i64 s)) (go_keep)
  ((first | (go_at_call 218;refine(eF _ _ _ _).mono ?_;rintro e w' ⟨rfl,rfl⟩) | (go_at_call 221;refine(aAo _ _ _ _ (show((wa.alloc _).drew).heap[wa.heap.size]?=_ from heap_alloc_new wa _)).mono ?_;rintro e w' ⟨rfl,rfl⟩)))
 go_wp2
 go_ret
 exact⟨rfl,(hbel.alloc hbel.size _).drew⟩
def eW:Option ByteArray→List ByteArray→Int
 | _,[]=>0
 | p,n :: ns=>if aI n=false then 12 else match p with
   | none=>eW (some n) ns
   | some q=>if (n.toList==q.toList)=true then 7 else if Op.bytesLess n.toList q.toList=true then 24 else eW (some n) ns
theorem dH (p:Option ByteArray) (n:ByteArray) (ns:List ByteArray):eW p (n :: ns)=if aI n=false then 12 else match p with
 | none=>eW (some n) ns
 | some q=>if (n.toList==q.toList)=true then 7 else if Op.bytesLess n.toList q.toList=true then 24 else eW (some n) ns:=by cases p<;>rfl
def eA (ns:List ByteArray):Int:=if 64<ns.length then 9 else eW none ns
def bI (ns:List ByteArray) (k:Nat):Int:=eW (if k=0 then none else some (ns.getD (k-1) ByteArray.empty)) (ns.drop k)
theorem pH (ns:List ByteArray):bI ns 0=eW none ns:=by simp[bI]
theorem sH (ns:List ByteArray):bI ns ns.length=0:=by
 unfold bI;rw[List.drop_length];rfl
theorem pJ {ns:List ByteArray} {k:Nat} (hk:k<ns.length) (h:aI ns[k]=false):bI ns k=12:=by
 unfold bI;rw[List.drop_eq_getElem_cons hk,dH,if_pos h]
theorem oC {ns:List ByteArray} (hk:0<ns.length) (h:aI ns[0]=true):bI ns 0=bI ns 1:=by
 unfold bI;rw[List.drop_eq_getElem_cons hk,if_pos rfl,dH,if_neg (by simp[h])]
 simp[List.getD,hk]
theorem sI {ns:List ByteArray} {j:Nat} (hk:j+1<ns.length) (h:aI ns[j+1]=true) (he:(ns[j+1].toList==(ns[j]'(by omega)).toList)=true):bI ns (j+1)=7:=by
 unfold bI;rw[List.drop_eq_getElem_cons hk,if_neg (by omega),dH,if_neg (by simp[h])]
 have e:ns.getD (j+1-1) ByteArray.empty=ns[j]'(by omega):=by simp[List.getD,show j<ns.length by omega]
 rw[e];simp only[he,if_true]
theorem pK {ns:List ByteArray} {j:Nat} (hk:j+1<ns.length) (h:aI ns[j+1]=true) (he:(ns[j+1].toList==(ns[j]'(by omega)).toList)=false) (hl:Op.bytesLess ns[j+1].toList (ns[j]'(by omega)).toList=true):bI ns (j+1)=24:=by
 unfold bI;rw[List.drop_eq_getElem_cons hk,if_neg (by omega),dH,if_neg (by simp[h])]
 have e:ns.getD (j+1-1) ByteArray.empty=ns[j]'(by omega):=by simp[List.getD,show j<ns.length by omega]
 rw[e];simp only[he,hl,if_true,Bool.false_eq_true,if_false]
theorem pI {ns:List ByteArray} {j:Nat} (hk:j+1<ns.length) (h:aI ns[j+1]=true) (he:(ns[j+1].toList==(ns[j]'(by omega)).toList)=false) (hl:Op.bytesLess ns[j+1].toList (ns[j]'(by omega)).toList=false):bI ns (j+1)=bI ns (j+1+1):=by
 unfold bI;rw[List.drop_eq_getElem_cons hk,if_neg (by omega),dH,if_neg (by simp[h])]
 have e:ns.getD (j+1-1) ByteArray.empty=ns[j]'(by omega):=by simp[List.getD,show j<ns.length by omega]
 have e2:ns.getD (j+1+1-1) ByteArray.empty=ns[j+1]:=by simp[List.getD,hk]
 rw[e,e2];simp only[he,hl,Bool.false_eq_true,if_false]
 rw[if_neg (by omega)]
theorem wX (ns:List ByteArray) (fs:List Val) (hreach:fl * 104≤140737488351232) (hfl:fl=fs.length) (hns:ns.length=fs.length) (hf:fs=[]∨∃b o,fa=some ⟨b,o,none⟩∧b<w.heap.size∧IsFlds (· < w.heap.size) w b o ns fs) :
 Calls Tryz.prog 228 #[vArg k i s t la ll lc fa fl fc] w fun e w'=>e=.returned (.int .i64 (eA ns))∧Below w.heap.size w w':=by
 have hfn:fl=ns.length:=by omega
 by_cases hbig:64<ns.length
 ·have HR:=hid (show eA ns=9 by simp[eA,hbig])
  have hsz9:dI fl 64 9=9:=by rw[dI,if_pos (by omega)]
  have hc:=fun w=>(eL fl 64 9 w).mono (R':=fun e w'=>e=.returned (.int .i64 9)∧w=w') (fun e w' h=>⟨h.1.trans (by rw[hsz9]),h.2⟩)
  have HC:=hid hc
  clear hc hsz9 hfn hfl hns hf hbig
  go_enter Tryz.func228,Tryz.ntmps228
  go_wp2_with (go_at_call 223;refine(HC.out _).mono ?_;rintro e w' ⟨rfl,rfl⟩)
  go_ret
  exact⟨retI HR.out.symm,(bR w).alloc lr _⟩
 ·have HR:=hid (show eA ns=bI ns 0 by simp[eA,hbig,pH])
  have hsz9:dI fl 64 9=0:=by rw[dI,if_neg (by omega)]
  have hc:=fun w=>(eL fl 64 9 w).mono (R':=fun e w'=>e=.returned (.int .i64 0)∧w=w') (fun e w' h=>⟨h.1.trans (by rw[hsz9]),h.2⟩)
  have HC:=hid hc
  have HFN:=hid hfn
  have HNS:=hid hns
  clear hc hsz9 hfl hbig hfn hns
  go_enter Tryz.func228,Tryz.ntmps228
  go_wp2_with (go_at_call 223;refine(HC.out _).mono ?_;rintro e w' ⟨rfl,rfl⟩)
  clear HC
  go_loopw [16] (fun i' wr=>∃q:Nat,q≤fl∧i'=.int .i64 q∧bI ns 0=bI ns q ∧
   wr.heap[w.heap.size]?=some (.cells #[.int .i64 k,.int .i64 i,.int .i64 s,.string t,.slice la ll lc,.slice fa fl fc] 66 (0,0))∧Below w.heap.size w wr)
   (fun i' _=>fl-(intOf i').toNat)
  case atStart=>exact⟨0,Nat.zero_le _,rfl,rfl,heap_alloc_new w _,(bR w).alloc lr _⟩
  case round =>
   obtain⟨q,hq,rfl,hat,hb0,hbel⟩:=hrel
   have HAT:=hid hat;clear hat
   have HB0:=hid hb0;clear hb0
   have hsz:=hbel.size
   by_cases hlt:q<fl
   ·rcases hf with rfl | ⟨b,o,rfl,hb,hvs⟩
    ·exfalso;have h1:=HFN.out;have h2:=HNS.out;simp only[List.length_nil] at h2;omega
    ·have hqn:q<ns.length:=by have h1:=HFN.out;omega
     have hqf:q<fs.length:=by have h1:=HNS.out;omega
     obtain⟨⟨hnm,hnz⟩,x,hx,hxv⟩:=hvs.get HNS.out q hqf hqn
     obtain⟨hx0,hx1,hx2,hx3,hx4,hx5⟩:=hx.same (w':=wr) (hbel.block b hb)
     have hnm':wr.cell? ⟨b,o+q * 7,none⟩=some (.string ns[q]):=(World.cell?_of_block (w:=w) (a:=⟨b,o+q * 7,none⟩) (hbel.block b hb)).trans hnm
     have hlt':(q:Int)<(fl:Int):=by omega
     clear hx hnm
     obtain⟨nm,hnmd⟩:∃nm,nm=ns[q]:=⟨_,rfl⟩
     have hbl:∀w1,Below (wr.heap.size+1) (wr.alloc (.cells #[.string nm,.int .i64 x.k,.int .i64 x.i,.int .i64 x.s,.string x.t,.slice x.la x.ll x.lc,.slice x.fa x.fl x.fc] 208)) w1 →
      w1.cell? ⟨wr.heap.size,0,none⟩=some (.string nm)∧w1.cell? ⟨w.heap.size,5,none⟩=some (.slice (some ⟨b,o,none⟩) fl fc)∧w1.heap[w.heap.size]?=wr.heap[w.heap.size]?∧Below w.heap.size w w1:=fun w1 h1 =>
      ⟨aA (fY h1 (heap_alloc_new wr _) (by omega)) 0,aA (fY h1 (aC _ HB0.out) (by omega)) 5,(h1.block _ (by omega)).trans (Below.heap_alloc _ _ _ (bT HB0.out)),(hbel.alloc (by omega) _).trans (h1.mono (by omega))⟩
     have HBL:=hid hbl;clear hbl
     rw[←hnmd] at hnm' hnz
     have HNM:=hid hnmd;clear hnmd
     by_cases hn:aI nm=false
     ·have HR2:=hid (pJ hqn (by rw[←HNM.out];exact hn))
      have hc2:=fun w=>(gQ nm w hnz).mono (R':=fun e w'=>e=.returned (.bool false)∧Below w.heap.size w w') (fun e w' h=>⟨h.1.trans (by rw[hn]),h.2⟩)
      have HC2:=hid hc2
      clear hc2 hn hxv
      go_wp2_with (go_at_call 229;refine(HC2.out _).mono ?_;rintro e w1 ⟨rfl,hb1⟩)
      go_ret
      exact⟨retI (HR.out.trans (HAT.out.trans HR2.out)).symm,(HBL.out _ (by simpa using hb1)).2.2.2⟩
     ·have hn':aI nm=true:=by simpa using hn
      have hc2:=fun w=>(gQ nm w hnz).mono (R':=fun e w'=>e=.returned (.bool true)∧Below w.heap.size w w') (fun e w' h=>⟨h.1.trans (by rw[hn']),h.2⟩)
      have HC2:=hid hc2
      clear hc2 hn
      go_wp2_with (go_at_call 229;refine(HC2.out _).mono ?_;rintro e w1 ⟨rfl,hb1⟩)
      obtain⟨d1,d2,d3,d4⟩:=HBL.out w1 (by simpa using hb1)
      have D3:=hid d3;clear d3 hxv hx0 hx1 hx2 hx3 hx4 hx5 hnm'
      cases q with
      | zero =>
        have HR2:=hid (oC hqn (by rw[←HNM.out];exact hn'))
        clear hn'
        go_quiet (fail)
        go_wp2
        go_quiet (fail)
        go_wp2
        go_roundw
        case rel=>exact⟨1,by omega,by go_num,HR2.out,D3.out.trans HB0.out,(by first | exact below_drewN d4 _ | exact below_drewN (below_drewN d4 _) _)⟩
        case measure=>simp[intOf];omega
      | succ j =>
        have hjn:j<ns.length:=by omega
        obtain⟨⟨hpm,hpz⟩,_⟩:=hvs.get HNS.out j (by omega) hjn
        obtain⟨pm,hpmd⟩:∃pm,pm=ns[j]:=⟨_,rfl⟩
        rw[←hpmd] at hpm
        have HPM:=hid hpmd;clear hpmd
        have hp1:w1.cell? ⟨b,o+j * 7,none⟩=some (.string pm):=(World.cell?_of_block (w:=w) (a:=⟨b,o+j * 7,none⟩) (d4.block b hb)).trans hpm
        clear hpm
        have g1:(0:Int)<(j:Int)+1:=by omega
        have g3:(0:Int)≤(j:Int):=by omega
        have g4:(j:Int)<(fl:Int):=by omega
        have g2:IntKind.i64.wrap ((j:Int)+1-1)=(j:Int):=by rw[show(j:Int)+1-1=j by omega];exact IntWalk.i64_in _ (by omega)
        have g5:IntKind.i64.wrap (j:Int)=(j:Int):=IntWalk.i64_in _ (by omega)
        have hcast:((j+1:Nat):Int)=(j:Int)+1:=by omega
        rw[hcast]
        clear hcast
        by_cases he:(nm.toList==pm.toList)=true
        ·have HR2:=hid (sI hqn (by rw[←HNM.out];exact hn') (by rw[←HNM.out,←HPM.out];exact he))
         clear hn'
         go_quiet (fail)
         go_wp2
         go_ret
         exact⟨retI (HR.out.trans (HAT.out.trans HR2.out)).symm,(by first | exact below_drewN d4 _ | exact below_drewN (below_drewN d4 _) _)⟩
        ·have he':(nm.toList==pm.toList)=false:=by simpa using he
         by_cases hl:Op.bytesLess nm.toList pm.toList=true
         ·have HR2:=hid (pK hqn (by rw[←HNM.out];exact hn') (by rw[←HNM.out,←HPM.out];exact he') (by rw[←HNM.out,←HPM.out];exact hl))
          clear hn' he
          go_quiet (fail)
          go_wp2
          go_quiet (fail)
          go_wp2
          go_ret
          exact⟨retI (HR.out.trans (HAT.out.trans HR2.out)).symm,(by first | exact below_drewN d4 _ | exact below_drewN (below_drewN d4 _) _)⟩
         ·have hl':Op.bytesLess nm.toList pm.toList=false:=by simpa using hl
          have HR2:=hid (pI hqn (by rw[←HNM.out];exact hn') (by rw[←HNM.out,←HPM.out];exact he') (by rw[←HNM.out,←HPM.out];exact hl'))
          clear hn' he hl
          go_quiet (fail)
          go_wp2
          go_quiet (fail)
          go_wp2
          go_roundw
          case rel=>exact⟨j+1+1,by omega,by go_num,HAT.out.trans HR2.out,D3.out.trans HB0.out,(by first | exact below_drewN d4 _ | exact below_drewN (below_drewN d4 _) _)⟩
          case measure=>simp[intOf];omega
   ·obtain rfl:q=fl:=by omega
    have HE:=hid (show bI ns q=0 by rw[HFN.out];exact sH ns)
    go_wp2
    go_ret
    exact⟨retI (HR.out.trans (HAT.out.trans HE.out)).symm,hbel⟩
end
end
section
open Go Go.RowKit
def Tabs (w : World) : Prop:=Lib.Utf8Tabs (Tryz.laysValid_ren.g 3) (Tryz.laysValid_ren.g 4) w ∧ Lib.TabIs Tryz.prog w "internal/strconv.uint64pow10" .u64 Lib.pow10Tab
theorem gPow : Tryz.prog.globalNamed "internal/strconv.uint64pow10" = some 5:=by kernel_rfl
theorem Tabs.below {w w':World} (h:Tabs w) (hb:Below w.heap.size w w'):Tabs w':=by
 refine⟨Utf8Tabs_below h.1 hb,?_⟩
 have hc:=h.2.cell gPow 0 (by rw[Lib.pow10Tab_length];omega)
 have hlt:=World.block_lt_of_cell? w _ hc
 exact var?_below hb gPow hlt h.2
def jX (t:ByteArray):Int:=if dI t.size 1024 5=0∧Lib.validD t.data.toList=false then 16 else dI t.size 1024 5
theorem xC (k i s:Int) (t:ByteArray) (la:Option Addr) (ll lc:Nat) (fa:Option Addr) (fl fc:Nat) (w:World) (hT:Tabs w) (ht:t.size≤140737488351232) :
 Calls Tryz.prog 222 #[vArg k i s t la ll lc fa fl fc] w fun e w'=>e=.returned (.int .i64 (jX t))∧Below w.heap.size w w':=by
 by_cases hs:(1024:Int)<(t.size:Int)
 ·have hsz:dI t.size 1024 5=5:=by rw[dI,if_pos hs]
  have HR:=hid (show jX t=5 by unfold jX;rw[hsz];simp)
  have hc:=fun w=>(eL t.size 1024 5 w).mono (R':=fun e w'=>e=.returned (.int .i64 5)∧w=w') (fun e w' h=>⟨h.1.trans (by rw[hsz]),h.2⟩)
  have HC:=hid hc
  clear hc hsz hT
  go_enter Tryz.func222,Tryz.ntmps222
  go_wp2_with (go_at_call 223;refine(HC.out _).mono ?_;rintro e w' ⟨rfl,rfl⟩)
  go_ret
  exact⟨retI HR.out.symm,(bR w).alloc lr _⟩
 ·have hsz:dI t.size 1024 5=0:=by rw[dI,if_neg hs]
  have hc:=fun w=>(eL t.size 1024 5 w).mono (R':=fun e w'=>e=.returned (.int .i64 0)∧w=w') (fun e w' h=>⟨h.1.trans (by rw[hsz]),h.2⟩)
  have HC:=hid hc
  clear hc
  have hT1:Tabs (w.alloc (.cells #[.int .i64 k,.int .i64 i,.int .i64 s,.string t,.slice la ll lc,.slice fa fl fc] 66)):=hT.below ((bR w).alloc lr _)
  by_cases hv:Lib.validD t.data.toList=true
  ·have HR:=hid (show jX t=0 by unfold jX;rw[hsz,hv];simp)
   have hc2:=(Tryz.utf8_ValidString t _ (by omega) hT1.1).mono (R':=fun e w'=>e=.returned (.bool true)∧Below (w.heap.size+1) _ w') (fun e w' h=>⟨h.1.trans (by rw[hv]),by simpa using h.2⟩)
   have HC2:=hid hc2
   clear hc2 hsz hv hT hT1 hs
   go_enter Tryz.func222,Tryz.ntmps222
   go_wp2_with (first | (go_at_call 223;refine(HC.out _).mono ?_;rintro e w' ⟨rfl,rfl⟩) | (go_at_call 176;refine HC2.out.mono ?_;rintro e w1 ⟨rfl,hb⟩))
   go_ret
   exact⟨retI HR.out.symm,((bR w).alloc lr _).trans (hb.mono (by omega))⟩
  ·have hv':Lib.validD t.data.toList=false:=by simpa using hv
   have HR:=hid (show jX t=16 by unfold jX;rw[hsz,hv'];simp)
   have hc2:=(Tryz.utf8_ValidString t _ (by omega) hT1.1).mono (R':=fun e w'=>e=.returned (.bool false)∧Below (w.heap.size+1) _ w') (fun e w' h=>⟨h.1.trans (by rw[hv']),by simpa using h.2⟩)
   have HC2:=hid hc2
   clear hc2 hsz hv hv' hT hT1 hs
   go_enter Tryz.func222,Tryz.ntmps222
   go_wp2_with (first | (go_at_call 223;refine(HC.out _).mono ?_;rintro e w' ⟨rfl,rfl⟩) | (go_at_call 176;refine HC2.out.mono ?_;rintro e w1 ⟨rfl,hb⟩))
   go_ret
   exact⟨retI HR.out.symm,((bR w).alloc lr _).trans (hb.mono (by omega))⟩
end
section
open Go Go.RowKit Go.Shelf
structure St where
 e:Int
 ps:List Int
structure Msg where
 st:St
 m:Int
 es:List Int
 b:Val
structure SC where
 e:Int
 a:Option Addr
 n:Nat
 c:Nat
structure MC where
 st:SC
 m:Int
 a:Option Addr
 n:Nat
 c:Nat
 b:VC
abbrev SC.v (c:SC):Value:=.agg #[.int .i64 c.e,.slice c.a c.n c.c]
abbrev MC.v (c:MC):Value:=.agg #[.int .i64 c.st.e,.slice c.st.a c.st.n c.st.c,.int .i64 c.m,.slice c.a c.n c.c,.int .i64 c.b.k,.int .i64 c.b.i,.int .i64 c.b.s,.string c.b.t,.slice c.b.la c.b.ll c.b.lc,.slice c.b.fa c.b.fl c.b.fc]
structure IsInts (S:Nat→Prop) (w:World) (a:Option Addr) (n c:Nat) (xs:List Int):Prop where
 len:n=xs.length
 cap:n≤c
 big:n * 8≤140737488351232
 rng:∀x∈xs,I64 x
 at':xs=[]∨∃b o,a=some ⟨b,o,none⟩∧S b∧∀(j:Nat) (h:j<xs.length),w.cell? ⟨b,o+j,none⟩=some (.int .i64 xs[j])
theorem IsInts.same {S S':Nat→Prop} {w w':World} {a:Option Addr} {n c:Nat} {xs:List Int} (hs:∀b,S b→S' b∧w'.heap[b]?=w.heap[b]?) (h:IsInts S w a n c xs):IsInts S' w' a n c xs :=
 ⟨h.len,h.cap,h.big,h.rng,h.at'.imp id fun ⟨b,o,ha,hb,hx⟩=>⟨b,o,ha,(hs b hb).1,fun j hj=>(World.cell?_of_block (w:=w) (a:=⟨b,o+j,none⟩) (hs b hb).2).trans (hx j hj)⟩⟩
structure IsSt (S:Nat→Prop) (w:World) (c:SC) (d:St):Prop where
 e:c.e=d.e
 re:I64 d.e
 ps:IsInts S w c.a c.n c.c d.ps
theorem IsSt.same {S S':Nat→Prop} {w w':World} {c:SC} {d:St} (hs:∀b,S b→S' b∧w'.heap[b]?=w.heap[b]?) (h:IsSt S w c d):IsSt S' w' c d:=⟨h.e,h.re,h.ps.same hs⟩
structure IsMsg (S:Nat→Prop) (w:World) (c:MC) (d:Msg):Prop where
 st:IsSt S w c.st d.st
 m:c.m=d.m
 rm:I64 d.m
 es:IsInts S w c.a c.n c.c d.es
 b:IsVal S w c.b d.b
theorem IsMsg.same {S S':Nat→Prop} {w w':World} {c:MC} {d:Msg} (hs:∀b,S b→S' b∧w'.heap[b]?=w.heap[b]?) (h:IsMsg S w c d):IsMsg S' w' c d:=⟨h.st.same hs,h.m,h.rm,h.es.same hs,h.b.same hs⟩
def oO (n:Int):Bool:=decide (n<0)||decide (65535<n)
theorem vN (n:Int) (w:World):Calls Tryz.prog 181 #[.int .i64 n] w fun e w'=>e=.returned (.bool (oO n))∧w=w':=by
 go_enter Tryz.func181,Tryz.ntmps181
 by_cases h1:n<0<;>by_cases h2:65535<n
 all_goals go_wp2
 all_goals go_ret
 all_goals exact⟨by simp[oO, *],rfl⟩
theorem IsInts.slot {S:Nat→Prop} {w:World} {a:Option Addr} {n c:Nat} {xs:List Int} (h:IsInts S w a n c xs) (hn:0<n):∃b o,a=some ⟨b,o,none⟩∧S b∧∀(j:Nat) (h:j<xs.length),w.cell? ⟨b,o+j,none⟩=some (.int .i64 xs[j]):=by
 rcases h.at' with h0 | h1
 ·exact absurd h.len (by rw[h0];simp;omega)
 ·exact h1
theorem nP (S:Nat→Prop) (a:Option Addr) (n c:Nat) (xs:List Int) (w:World) (hx:IsInts S w a n c xs) :
 Calls Tryz.prog 237 #[.slice a n c,.func (.func 181) #[] #[]] w fun e w'=>(∃k:Int,e=.returned (.int .i64 k)∧(0≤k ↔ xs.any oO=true))∧w=w':=by
 have hen:∀args w,(callFunc 181 args).run Tryz.prog w=.ok (.enter 181 args) w:=enters_of Tryz.func181 (by kernel_rfl) rfl
 have hbig:=hx.big
 have HL:=hid hx.len
 have HXX:=hid hx
 clear hx
 go_enter Tryz.func237,Tryz.ntmps237
 go_wp2
 go_loop [8] (fun i=>∃k:Nat,k≤n∧i=.int .i64 k∧∀j (hj:j<xs.length),j<k→oO xs[j]=false) (fun i=>n-(intOf i).toNat)
 case atStart=>exact⟨0,Nat.zero_le _,rfl,fun j _ h=>absurd h (Nat.not_lt_zero j)⟩
 case round =>
  obtain⟨k,hk,rfl,hall⟩:=hrel
  by_cases hlt:k<n
  ·have HA:=hid hall
   clear hall
   obtain⟨b,o,rfl,hb,hc⟩:=HXX.out.slot (by omega)
   have hkl:k<xs.length:=by have:=HL.out;omega
   have hck:=hc k hkl
   clear hc
   have hlt':(k:Int)<(n:Int):=by omega
   have hn63:(n:Int)≤9223372036854775807:=by omega
   obtain⟨z,hz⟩:∃z,z=xs[k]:=⟨_,rfl⟩
   rw[←hz] at hck
   have HZ:=hid hz
   clear hz
   cases hb2:oO z with
   | true =>
     go_wp2_with (go_at_call 181;refine(vN z w).mono ?_;rintro e w' ⟨rfl,rfl⟩)
     go_ret
     exact⟨⟨k,rfl,by constructor;(intro _;rw[List.any_eq_true];exact⟨z,by rw[HZ.out];exact List.getElem_mem _,hb2⟩);(intro _;omega)⟩,rfl⟩
   | false =>
     go_wp2_with (go_at_call 181;refine(vN z w).mono ?_;rintro e w' ⟨rfl,rfl⟩)
     go_round
     case rel=>exact⟨k+1,by omega,by go_num,fun j hj h=>by
      by_cases hjk:j<k
      ·exact HA.out j hj hjk
      ·obtain rfl:j=k:=by omega
       rw[←HZ.out];exact hb2⟩
     case measure=>simp[intOf];omega
  ·obtain rfl:k=n:=by omega
   go_wp2
   go_ret
   refine⟨⟨-1,rfl,⟨fun h=>by omega,fun h=>?_⟩⟩,rfl⟩
   obtain⟨x,hm,hbx⟩:=h
   obtain⟨j,hj,rfl⟩:=List.getElem_of_mem hm
   rw[hall j hj (by have:=HL.out;omega)] at hbx
   cases hbx
theorem pN (S:Nat→Prop) (a:Option Addr) (n c:Nat) (xs:List Int) (w:World) (hx:IsInts S w a n c xs) :
 Calls Tryz.prog 180 #[.slice a n c,.func (.func 181) #[] #[]] w fun e w'=>e=.returned (.bool (xs.any oO))∧w=w':=by
 go_enter Tryz.func180,Tryz.ntmps180
 cases hb:xs.any oO with
 | true =>
   go_wp2_with (go_at_call 237;refine(nP S a n c xs w hx).mono ?_;rintro e w' ⟨⟨k,rfl,hk⟩,rfl⟩;rw[hb] at hk;have hk0:=hk.2 rfl;clear hk)
   go_ret
   exact⟨retB (by simp),rfl⟩
 | false =>
   go_wp2_with (go_at_call 237;refine(nP S a n c xs w hx).mono ?_;rintro e w' ⟨⟨k,rfl,hk⟩,rfl⟩;rw[hb] at hk;have hk0:k<0:=by(by_cases h:0≤k;exact absurd (hk.1 h) (by decide);omega))
   go_ret
   exact⟨retB (by simp),rfl⟩
def iD:List Int→Int
 | []=>0
 | x :: r=>if 1<x then 11 else if x=1 then 0 else match r with
   | []=>4
   | y :: _=>if 128≤y then 2 else 0
def aS (d:St):Int:=if d.e<1∨1048576<d.e then 2 else if d.ps=[] then 4 else if 512<d.ps.length then 9 else if d.ps.any oO=true then 2 else iD d.ps
theorem bK (S:Nat→Prop) (c:SC) (d:St) (w0 w:World) (hx:IsSt S w0 c d) (hw:∀b,S b→b<w.heap.size∧w.heap[b]?=w0.heap[b]?):Calls Tryz.prog 112 #[c.v] w fun e w'=>e=.returned (.int .i64 (aS d))∧Below w.heap.size w w':=by
 obtain⟨ce,a,n,cap⟩:=c
 obtain⟨e,ps⟩:=d
 obtain⟨rfl,re,hps⟩:=hx
 dsimp only at hps ⊢
 have hps:=hps.same hw
 obtain⟨w1,hw1⟩:∃w1,w1=w.alloc (.cells #[.int .i64 ce,.slice a n cap] 62):=⟨_,rfl⟩
 have hb1:Below w.heap.size w w1:=by rw[hw1];exact(bR w).alloc lr _
 have hps1:IsInts (· < w.heap.size) w1 a n cap ps:=hps.same fun b hb=>⟨hb,hb1.block b hb⟩
 have hcc:=hid (pN _ a n cap ps w1 hps1)
 have fin:∀r,aS ⟨ce,ps⟩=r→(Ending.returned (.int .i64 r)=.returned (.int .i64 (aS ⟨ce,ps⟩))∧Below w.heap.size w w1):=fun r h=>⟨by rw[h],hb1⟩
 rw[hw1] at fin hps1 hcc
 have FIN:=hid fin
 have HL:=hid hps.len
 have HP:=hid hps1
 clear fin hps hps1 hw1 hb1
 go_enter Tryz.func112,Tryz.ntmps112
 by_cases h1:ce<1
 ·go_wp2
  go_ret
  exact FIN.out _ (by rw[aS];simp[h1])
 by_cases h2:1048576<ce
 ·go_wp2
  go_ret
  exact FIN.out _ (by rw[aS];simp[h2])
 by_cases h3:n=0
 ·subst h3
  have e3:=hid (show ps=[] by have:=HL.out;exact List.eq_nil_of_length_eq_zero this.symm)
  go_wp2
  go_ret
  exact FIN.out _ (by rw[aS,e3.out,if_neg (by dsimp only;omega)];simp)
 have hn0:(0:Int)<(n:Int):=by omega
 have ne:ps≠[]:=fun h=>h3 (by rw[HL.out,h];rfl)
 have NE:=hid ne
 clear ne
 by_cases h4:512<n
 ·have h4':(512:Int)<(n:Int):=by omega
  go_wp2
  go_ret
  exact FIN.out _ (by rw[aS,if_neg (by dsimp only;omega),if_neg NE.out,if_pos (by dsimp only;rw[←HL.out];exact h4)])
 have h4':(n:Int)≤512:=by omega
 cases h5:ps.any oO with
 | true =>
   rw[h5] at hcc
   go_wp2_with (go_at_call 180;refine hcc.out.mono ?_;rintro e w' ⟨rfl,rfl⟩)
   go_ret
   exact FIN.out _ (by rw[aS,if_neg (by dsimp only;omega),if_neg NE.out,if_neg (by dsimp only;have:=HL.out;omega),if_pos h5])
 | false =>
 rw[h5] at hcc
 have E0:=hid (show aS ⟨ce,ps⟩=iD ps by
  rw[aS,if_neg (by dsimp only;omega),if_neg NE.out,if_neg (by dsimp only;have:=HL.out;omega),if_neg (by rw[h5];decide)])
 obtain⟨b,o,rfl,hb,hc⟩:=HP.out.slot (by omega)
 cases ps with
 | nil=>exact absurd rfl NE.out
 | cons x r =>
 have c0:=hc 0 (by simp)
 rw[Nat.add_zero,List.getElem_cons_zero] at c0
 by_cases h6:1<x
 ·clear hc
  go_wp2_with (go_at_call 180;refine hcc.out.mono ?_;rintro e w' ⟨rfl,rfl⟩)
  go_ret
  exact FIN.out _ (by rw[E0.out];simp[iD,h6])
 by_cases h7:x=1
 ·clear hc
  subst h7
  go_wp2_with (go_at_call 180;refine hcc.out.mono ?_;rintro e w' ⟨rfl,rfl⟩)
  go_ret
  exact FIN.out _ (by rw[E0.out];simp[iD])
 cases r with
 | nil =>
   clear hc
   obtain rfl:n=1:=HL.out
   go_wp2_with (go_at_call 180;refine hcc.out.mono ?_;rintro e w' ⟨rfl,rfl⟩)
   go_ret
   exact FIN.out _ (by rw[E0.out];simp[iD,h6,h7])
 | cons y r =>
 have c1:=hc 1 (by simp)
 rw[List.getElem_cons_succ,List.getElem_cons_zero] at c1
 clear hc
 have hn1:(1:Int)<(n:Int):=by have:=HL.out;simp at this;omega
 by_cases h8:128≤y
 ·have E1:=hid (show iD (x :: y :: r)=2 by simp only[iD];rw[if_neg h6,if_neg h7,if_pos h8])
  go_wp2_with (go_at_call 180;refine hcc.out.mono ?_;rintro e w' ⟨rfl,rfl⟩)
  go_ret
  exact FIN.out _ (by rw[E0.out,E1.out])
 ·have E1:=hid (show iD (x :: y :: r)=0 by simp only[iD];rw[if_neg h6,if_neg h7,if_neg h8])
  go_wp2_with (go_at_call 180;refine hcc.out.mono ?_;rintro e w' ⟨rfl,rfl⟩)
  go_ret
  exact FIN.out _ (by rw[E0.out,E1.out])
end
end Go.Proofs.YteladbdfiannjaaGreatDoor
