/- A part. -/
import Derived.Test.YtoodnaghjpkjfaaGreatDoorSE1Mrg
import Derived.Deep.WholeRow
import Derived.Laws.Cells
namespace Go.Proofs.YtoodnaghjpkjfaaGreatDoor
open Tryz
set_option linter.unusedVariables false
set_option linter.unusedSimpArgs false
open Go Go.RowKit Go.Shelf
section
def MC.cs (c:MC):List Value:=[I6 c.st.e,.slice c.st.a c.st.n c.st.c,I6 c.m,.slice c.a c.n c.c,I6 c.b.k,I6 c.b.i,I6 c.b.s,.string c.b.t,.slice c.b.la c.b.ll c.b.lc,.slice c.b.fa c.b.fl c.b.fc]
structure AtM (w:World) (b o:Nat) (c:MC):Prop where
 e:w.cell? ⟨b,o,none⟩=some (I6 c.st.e)
 p:w.cell? ⟨b,o+1,none⟩=some (.slice c.st.a c.st.n c.st.c)
 m:w.cell? ⟨b,o+2,none⟩=some (I6 c.m)
 es:w.cell? ⟨b,o+3,none⟩=some (.slice c.a c.n c.c)
 k:w.cell? ⟨b,o+4,none⟩=some (I6 c.b.k)
 i:w.cell? ⟨b,o+5,none⟩=some (I6 c.b.i)
 s:w.cell? ⟨b,o+6,none⟩=some (I6 c.b.s)
 t:w.cell? ⟨b,o+7,none⟩=some (.string c.b.t)
 l:w.cell? ⟨b,o+8,none⟩=some (.slice c.b.la c.b.ll c.b.lc)
 f:w.cell? ⟨b,o+9,none⟩=some (.slice c.b.fa c.b.fl c.b.fc)
theorem AtM.same {w w':World} {b o:Nat} {c:MC} (h:AtM w b o c) (hb:w'.heap[b]?=w.heap[b]?):AtM w' b o c:=by
 have e:∀j,w'.cell? ⟨b,j,none⟩=w.cell? ⟨b,j,none⟩:=λj=>jg (w:=w) (a:=⟨b,j,none⟩) hb;exact⟨(e _).trans h.e,(e _).trans h.p,(e _).trans h.m,(e _).trans h.es,(e _).trans h.k,(e _).trans h.i,(e _).trans h.s,(e _).trans h.t,(e _).trans h.l,(e _).trans h.f⟩
structure IsMsgs (S:Nat->Prop) (w:World) (a:Option Addr) (n c:Nat) (l:List Msg):Prop where
 len:n=l.length
 cap:n<=c
 big:n * 152<=140737488351232
 at':l=[]\/∃b o,a=some ⟨b,o,none⟩/\S b/\∀(j:Nat) (h:j<l.length),∃x:MC,AtM w b (o+j * 10) x/\IsMsg S w x l[j]
theorem IsMsgs.same {S S':Nat->Prop} {w w':World} {a:Option Addr} {n c:Nat} {l:List Msg} (hs:∀b,S b->S' b/\w'.heap[b]?=w.heap[b]?) (h:IsMsgs S w a n c l):IsMsgs S' w' a n c l :=
 ⟨h.len,h.cap,h.big,h.at'.imp id λ⟨b,o,ha,hb,hx⟩=>⟨b,o,ha,(hs b hb).1,λj hj=>by
   obtain⟨x,h1,h2⟩:=hx j hj;exact⟨x,h1.same (hs b hb).2,h2.same hs⟩⟩⟩
def isC (w:World) (b:Nat):Prop:=∃o:Obj,w.heap[b]?=some o/\o.isCells=true
theorem oD {w w':World} {b:Nat} (h:isC w b) (hb:w'.heap[b]?=w.heap[b]?):isC w' b:=by
 obtain⟨o,h1,h2⟩:=h;exact⟨o,hb.trans h1,h2⟩
def BuiltM (T B:Nat) (w:World) (v:Value) (k:Nat) (l:List Msg):Prop :=
 ∃cs:List MC,cs.length=k/\w.ownsRow B T 10 v k (cs.flatMap MC.cs)/\∀j (h:j<cs.length) (h':j<l.length),IsMsg (λb=>(B<=b/\b<w.heap.size/\some b≠v.ownBlock)/\isC w b) w cs[j] l[j]
theorem BuiltM.ext {T B:Nat} {w w':World} {v:Value} {k:Nat} {l:List Msg} (h:BuiltM T B w v k l) (hb:BB w w'):BuiltM T B w' v k l:=by
 obtain⟨cs,h1,h2,h3⟩:=h;exact⟨cs,h1,fS h2 hb,λj hj hj'=>(h3 j hj hj').same λb ⟨hb1,hb2⟩=>⟨⟨⟨hb1.1,by have:=hb.size;omega,hb1.2.2⟩,oD hb2 (hb.block b hb1.2.1)⟩,hb.block b hb1.2.1⟩⟩
theorem BuiltM.own {T B:Nat} {w:World} {v:Value} {k:Nat} {l:List Msg} (h:BuiltM T B w v k l):∀r,v.ownBlock=some r->B<=r/\r<w.heap.size:=by
 obtain⟨_,_,h2,_⟩:=h;exact h2.lt
end
section
structure Kit (C D:Type) where
 n:Nat
 by':Nat
 cs:C->List Value
 len:∀c,(cs c).length=n
 pos:0<n
 Is:(Nat->Prop)->World->C->D->Prop
 same:∀{S S':Nat->Prop} {w w':World} {c:C} {d:D},(∀b,S b->S' b/\w'.heap[b]?=w.heap[b]?)->Is S w c d->Is S' w' c d
section
variable {C D:Type} (K:Kit C D)
def AtG (w:World) (b o:Nat) (c:C):Prop:=∀i,i<K.n->w.cell? ⟨b,o+i,none⟩=(K.cs c)[i]?
variable {K}
theorem AtG.same {w w':World} {b o:Nat} {c:C} (h:AtG K w b o c) (hb:w'.heap[b]?=w.heap[b]?):AtG K w' b o c :=
 λi hi=>(jg (w:=w) (a:=⟨b,o+i,none⟩) hb).trans (h i hi)
theorem AtG.ofRow {w:World} {aa:Nat} {e:TypeId} {g:Nat} {n cap:Nat} {cs:List C} (h:w.ownsRow aa e K.n (Sl (So g 0) n cap) n (cs.flatMap K.cs)) (j:Nat) (hj:j<cs.length):AtG K w g (j * K.n) cs[j]:=by
 have hc:=h.cells (g:=g) rfl;intro i hi;have hl:=K.len cs[j];have h1:(K.cs cs[j])[i]?=some ((K.cs cs[j])[i]' ga):=n3 ga;have:=hc (j * K.n+i) _ ((mJ K.cs K.n K.len cs j i hj hi).trans h1);rw[show(⟨g,0,none⟩:Addr).add (j * K.n+i)=⟨g,j * K.n+i,none⟩ by unfold Addr.add;split<;>simp_all] at this;rw[this,h1]
variable (K)
structure IsRow (S:Nat->Prop) (w:World) (a:Option Addr) (n c:Nat) (l:List D):Prop where
 len:n=l.length
 cap:n<=c
 big:n * K.by'<=140737488351232
 at':l=[]\/∃b o,a=some ⟨b,o,none⟩/\S b/\∀(j:Nat) (h:j<l.length),∃x:C,AtG K w b (o+j * K.n) x/\K.Is S w x l[j]
variable {K}
theorem IsRow.same {S S':Nat->Prop} {w w':World} {a:Option Addr} {n c:Nat} {l:List D} (hs:∀b,S b->S' b/\w'.heap[b]?=w.heap[b]?) (h:IsRow K S w a n c l):IsRow K S' w' a n c l :=
 ⟨h.len,h.cap,h.big,h.at'.imp id λ⟨b,o,ha,hb,hx⟩=>⟨b,o,ha,(hs b hb).1,λj hj=>by
   obtain⟨x,h1,h2⟩:=hx j hj;exact⟨x,h1.same (hs b hb).2,K.same hs h2⟩⟩⟩
theorem IsRow.slot {S:Nat->Prop} {w:World} {a:Option Addr} {n c:Nat} {l:List D} (h:IsRow K S w a n c l) (hn:0<n):∃b o,a=some ⟨b,o,none⟩/\S b/\∀(j:Nat) (h:j<l.length),∃x:C,AtG K w b (o+j * K.n) x/\K.Is S w x l[j]:=by
 rcases h.at' with h0|h1
 ·exact absurd h.len (by rw[h0];simp;omega)
 ·exact h1
variable (K)
def Built (T B:Nat) (w:World) (v:Value) (k:Nat) (l:List D):Prop :=
 ∃cs:List C,cs.length=k/\w.ownsRow B T K.n v k (cs.flatMap K.cs)/\∀j (h:j<cs.length) (h':j<l.length),K.Is (λb=>B<=b/\b<w.heap.size/\some b≠v.ownBlock) w cs[j] l[j]
variable {K}
theorem Built.ext {T B:Nat} {w w':World} {v:Value} {k:Nat} {l:List D} (h:Built K T B w v k l) (hb:BB w w'):Built K T B w' v k l:=by
 obtain⟨cs,h1,h2,h3⟩:=h;exact⟨cs,h1,fS h2 hb,λj hj hj'=>K.same (λb hb'=>⟨⟨hb'.1,by have:=hb.size;omega,hb'.2.2⟩,hb.block b hb'.2.1⟩) (h3 j hj hj')⟩
theorem Built.own {T B:Nat} {w:World} {v:Value} {k:Nat} {l:List D} (h:Built K T B w v k l):∀r,v.ownBlock=some r->B<=r/\r<w.heap.size:=by
 obtain⟨_,_,h2,_⟩:=h;exact h2.lt
theorem Built.shape {T B:Nat} {w:World} {v:Value} {k:Nat} {l:List D} (h:Built K T B w v k l):∃a cap,v=Sl a k cap/\k<=cap/\(a=none->k=0)/\∀r,v.ownBlock=some r->B<=r/\r<w.heap.size:=by
 obtain⟨cs,h1,h2,h3⟩:=h;have aa:=h2.lt;rcases h2.2 with ⟨rfl,rfl⟩|⟨g,cap,cur,rfl,hb,hg,hn,_⟩
 ·exact⟨none,0,rfl,gy _,λ_=>rfl,aa⟩
 ·exact⟨_,cap,rfl,hn,λh=>by simp at h,aa⟩
theorem Built.row {T B:Nat} {w:World} {a:Option Addr} {cap:Nat} {l:List D} (h:Built K T B w (Sl a l.length cap) l.length l) (ab:l.length * K.by'<=140737488351232):IsRow K (λb=>B<=b/\b<w.heap.size) w a l.length cap l:=by
 obtain⟨_,aa,hv,ac,_⟩:=h.shape;simp only[lz] at hv;obtain⟨rfl,_,rfl⟩:=hv;obtain⟨cs,h1,h2,h3⟩:=h;refine⟨rfl,ac,ab,?_⟩;rcases h2.2 with ⟨h4,h5⟩|⟨g,aa,cur,hv,hb,hg,_⟩
 ·exact .inl (kr h5)
 ·simp only[lz] at hv;obtain⟨rfl,_,rfl⟩:=hv;refine .inr ⟨g,0,rfl,⟨hb,ltOf hg⟩,λj hj=>⟨cs[j]' ga,?_,?_⟩⟩
  ·rw[ir];exact AtG.ofRow h2 j ga
  ·exact K.same (λb hb=>⟨⟨hb.1,hb.2.1⟩,rfl⟩) (h3 j ga hj)
end
/-! ### Stamps,messages,fates as such things -/
def SC.cs (c:SC):List Value:=[I6 c.e,.slice c.a c.n c.c]
@[reducible] def stK:Kit SC St:=⟨2,32,SC.cs,λ_=>rfl,by decide,IsSt,λhs h=>h.same hs⟩
@[reducible] def msgK:Kit MC Msg:=⟨10,152,MC.cs,λ_=>rfl,by decide,IsMsg,λhs h=>h.same hs⟩
@[reducible] def valK:Kit VC Val:=⟨6,88,VC.cs,λ_=>rfl,by decide,IsVal,λhs h=>h.same hs⟩
structure Fate where
 st:St
 k:Int
 node:BA
 into:List St
 text:BA
structure FtC where
 st:SC
 k:Int
 node:BA
 a:Option Addr
 n:Nat
 c:Nat
 text:BA
abbrev FtC.v (c:FtC):Value:=.agg #[I6 c.st.e,.slice c.st.a c.st.n c.st.c,I6 c.k,.string c.node,.slice c.a c.n c.c,.string c.text]
structure IsFt (S:Nat->Prop) (w:World) (c:FtC) (d:Fate):Prop where
 st:IsSt S w c.st d.st
 k:c.k=d.k
 node:c.node=d.node
 into:IsRow stK S w c.a c.n c.c d.into
 text:c.text=d.text
theorem IsFt.same {S S':Nat->Prop} {w w':World} {c:FtC} {d:Fate} (hs:∀b,S b->S' b/\w'.heap[b]?=w.heap[b]?) (h:IsFt S w c d):IsFt S' w' c d:=⟨h.st.same hs,h.k,h.node,h.into.same hs,h.text⟩
section
variable {C D:Type} {K:Kit C D}
theorem Built.row' {T B:Nat} {w:World} {v:Value} {k:Nat} {l:List D} (h:Built K T B w v k l) (hk:k=l.length) (aa:k * K.by'<=140737488351232):∃a cap,v=Sl a k cap/\IsRow K (λb=>B<=b/\b<w.heap.size) w a k cap l:=by
 subst hk;obtain⟨a,cap,rfl,_⟩:=h.shape;exact⟨a,cap,rfl,h.row aa⟩
end
theorem AtM.g {w:World} {b o:Nat} {c:MC} (h:AtM w b o c):AtG msgK w b o c:=λi hi=>by
 match i,hi with
 | 0,_=>exact h.e
 | 1,_=>exact h.p
 | 2,_=>exact h.m
 | 3,_=>exact h.es
 | 4,_=>exact h.k
 | 5,_=>exact h.i
 | 6,_=>exact h.s
 | 7,_=>exact h.t
 | 8,_=>exact h.l
 | 9,_=>exact h.f
theorem AtG.m {w:World} {b o:Nat} {c:MC} (h:AtG msgK w b o c):AtM w b o c :=
 ⟨h 0 gb,h 1 gb,h 2 gb,h 3 gb,h 4 gb,h 5 gb,h 6 gb,h 7 gb,h 8 gb,h 9 gb⟩
def IdxPost (w:World) (p:Bool) (e:Ending) (w':World):Prop:=(∃k:Int,e=.returned (I6 k)/\(0<=k ↔ p=true))/\BB w w'
end
structure Ef where
 k:Int
 nm:BA
 nu:Int
 tx:BA
 st:St
 rs:St
 sv:BA
 ca:Int
 un:Bool
 bd:Val
 nd:BA
structure EfC where
 k:Int
 nm:BA
 nu:Int
 tx:BA
 st:SC
 rs:SC
 sv:BA
 ca:Int
 un:Bool
 bd:VC
 nd:BA
abbrev Oe (x:EfC) (t:TypeId):Obj:=.cells #[I6 x.k,Sv x.nm,I6 x.nu,Sv x.tx,I6 x.st.e,Sl x.st.a x.st.n x.st.c,I6 x.rs.e,Sl x.rs.a x.rs.n x.rs.c,Sv x.sv,I6 x.ca,.bool x.un,I6 x.bd.k,I6 x.bd.i,I6 x.bd.s,Sv x.bd.t,Sl x.bd.la x.bd.ll x.bd.lc,Sl x.bd.fa x.bd.fl x.bd.fc,Sv x.nd] t
def EfC.cs (c:EfC):List Value:=[I6 c.k,.string c.nm,I6 c.nu,.string c.tx,I6 c.st.e,.slice c.st.a c.st.n c.st.c,I6 c.rs.e,.slice c.rs.a c.rs.n c.rs.c,.string c.sv,I6 c.ca,.bool c.un,
 I6 c.bd.k,I6 c.bd.i,I6 c.bd.s,.string c.bd.t,.slice c.bd.la c.bd.ll c.bd.lc,.slice c.bd.fa c.bd.fl c.bd.fc,.string c.nd]
abbrev EfC.v (c:EfC):Value:=.agg #[I6 c.k,.string c.nm,I6 c.nu,.string c.tx,I6 c.st.e,.slice c.st.a c.st.n c.st.c,I6 c.rs.e,.slice c.rs.a c.rs.n c.rs.c,.string c.sv,I6 c.ca,.bool c.un,
 I6 c.bd.k,I6 c.bd.i,I6 c.bd.s,.string c.bd.t,.slice c.bd.la c.bd.ll c.bd.lc,.slice c.bd.fa c.bd.fl c.bd.fc,.string c.nd]
structure IsEf (S:Nat->Prop) (w:World) (c:EfC) (d:Ef):Prop where
 k:c.k=d.k
 nm:c.nm=d.nm
 nmz:c.nm.size<=140737488351232
 nu:c.nu=d.nu
 tx:c.tx=d.tx
 txz:c.tx.size<=140737488351232
 st:IsSt S w c.st d.st
 rs:IsSt S w c.rs d.rs
 sv:c.sv=d.sv
 ca:c.ca=d.ca
 rca:I64 c.ca
 un:c.un=d.un
 bd:IsVal S w c.bd d.bd
 nd:c.nd=d.nd
 ndz:c.nd.size<=140737488351232
theorem IsEf.same {S S':Nat->Prop} {w w':World} {c:EfC} {d:Ef} (hs:∀b,S b->S' b/\w'.heap[b]?=w.heap[b]?) (h:IsEf S w c d):IsEf S' w' c d :=
 ⟨h.k,h.nm,h.nmz,h.nu,h.tx,h.txz,h.st.same hs,h.rs.same hs,h.sv,h.ca,h.rca,h.un,h.bd.same hs,h.nd,h.ndz⟩
@[reducible] def efK:Kit EfC Ef:=⟨18,248,EfC.cs,λ_=>rfl,by decide,IsEf,λhs h=>h.same hs⟩
theorem aJ2 {w:World} {b o:Nat} {c:EfC} (h:AtG efK w b o c):(loadCellsFrom ⟨b,o,none⟩ 0 18 #[]).run prog w=.ok (EfC.cs c).toArray w:=by
 have:=qj (P:=prog) w ⟨b,o,none⟩ (EfC.cs c) (λj v hv=>by
  have hj:j<18:=(List.getElem?_eq_some_iff.1 hv).1;have aa:(⟨b,o,none⟩:Addr).add j=⟨b,o+j,none⟩:=by unfold Addr.add;split<;>simp_all
  rw[aa,h j hj];exact hv)
 exact this
theorem infoEf:(prog.info? 94).map (·.size)=some 18:=by kernel_rfl
theorem st_ef (w:World) (z:Array Value) (hz:z.size=18) (c:EfC):(storeCells ⟨w.heap.size,0,none⟩ (EfC.cs c) 0).run prog (w.alloc (.cells z 94))=.ok () (w.alloc (.cells (EfC.cs c).toArray 94)):=by
 have:=run_storeCells_new (P:=prog) w 94 z (EfC.cs c).toArray (by rw[infoEf];rfl) (by rw[hz];rfl) (by simp[EfC.cs,Value.oneCell']);exact this
theorem aNe (w:World) (c:EfC):(loadCellsFrom ⟨w.heap.size,0,none⟩ 0 18 #[]).run prog (w.alloc (.cells (EfC.cs c).toArray 94))=.ok (EfC.cs c).toArray (w.alloc (.cells (EfC.cs c).toArray 94)) :=
 run_loadCellsFrom_new w 94 (EfC.cs c).toArray 18 rfl
/-! The load of a few cells unfolds,when the walk's own unfolding of loadCellsFrom is taken out (so that a load of 18 cells stands still). -/
theorem mG (a:Addr) (i:Nat) (acc:Array Value):loadCellsFrom a i 0 acc=pure acc:=rfl
theorem mF (a:Addr) (i:Nat) (acc:Array Value):loadCellsFrom a i 1 acc=(do let v <-load (a.add i);loadCellsFrom a (i+1) 0 (acc.push v)):=rfl
theorem pT (a:Addr) (i:Nat) (acc:Array Value):loadCellsFrom a i 2 acc=(do let v <-load (a.add i);loadCellsFrom a (i+1) 1 (acc.push v)):=rfl
theorem tF (a:Addr) (i:Nat) (acc:Array Value):loadCellsFrom a i 3 acc=(do let v <-load (a.add i);loadCellsFrom a (i+1) 2 (acc.push v)):=rfl
theorem tE (a:Addr) (i:Nat) (acc:Array Value):loadCellsFrom a i 4 acc=(do let v <-load (a.add i);loadCellsFrom a (i+1) 3 (acc.push v)):=rfl
theorem sY (a:Addr) (i:Nat) (acc:Array Value):loadCellsFrom a i 5 acc=(do let v <-load (a.add i);loadCellsFrom a (i+1) 4 (acc.push v)):=rfl
theorem aHm (a:Addr) (i:Nat) (acc:Array Value):loadCellsFrom a i 6 acc=(do let v <-load (a.add i);loadCellsFrom a (i+1) 5 (acc.push v)):=rfl
theorem aHl (a:Addr) (i:Nat) (acc:Array Value):loadCellsFrom a i 7 acc=(do let v <-load (a.add i);loadCellsFrom a (i+1) 6 (acc.push v)):=rfl
theorem mB (a:Addr) (i:Nat):storeCells a [] i=pure ():=rfl
theorem mA (a:Addr) (i:Nat) (v:Value):storeCells a [v] i=(do store (a.add i) v;storeCells a [] (i+1)):=rfl
structure Slot where
 k:Val
 n:Int
 t:Int
 items:List Msg
 vals:List Val
structure SlC where
 k:VC
 n:Int
 t:Int
 ia:Option Addr
 il:Nat
 ic:Nat
 va:Option Addr
 vl:Nat
 vc:Nat
abbrev SlC.v (c:SlC):Value:=.agg #[I6 c.k.k,I6 c.k.i,I6 c.k.s,.string c.k.t,.slice c.k.la c.k.ll c.k.lc,.slice c.k.fa c.k.fl c.k.fc,I6 c.n,I6 c.t,.slice c.ia c.il c.ic,.slice c.va c.vl c.vc]
def SlC.cs (c:SlC):List Value:=[I6 c.k.k,I6 c.k.i,I6 c.k.s,.string c.k.t,.slice c.k.la c.k.ll c.k.lc,.slice c.k.fa c.k.fl c.k.fc,I6 c.n,I6 c.t,.slice c.ia c.il c.ic,.slice c.va c.vl c.vc]
structure IsSl (S:Nat->Prop) (w:World) (c:SlC) (d:Slot):Prop where
 k:IsVal S w c.k d.k
 n:c.n=d.n
 rn:I64 d.n
 t:c.t=d.t
 rt:I64 d.t
 items:IsRow msgK S w c.ia c.il c.ic d.items
 vals:IsRow valK S w c.va c.vl c.vc d.vals
theorem IsSl.same {S S':Nat->Prop} {w w':World} {c:SlC} {d:Slot} (hs:∀b,S b->S' b/\w'.heap[b]?=w.heap[b]?) (h:IsSl S w c d):IsSl S' w' c d:=⟨h.k.same hs,h.n,h.rn,h.t,h.rt,h.items.same hs,h.vals.same hs⟩
@[reducible] def slK:Kit SlC Slot:=⟨10,152,SlC.cs,λ_=>rfl,by decide,IsSl,λhs h=>h.same hs⟩
structure Sta where
 n:Int
 t:Int
 l:List Slot
structure StC where
 n:Int
 t:Int
 a:Option Addr
 l:Nat
 c:Nat
abbrev StC.v (c:StC):Value:=.agg #[I6 c.n,I6 c.t,.slice c.a c.l c.c]
structure IsSta (S:Nat->Prop) (w:World) (c:StC) (d:Sta):Prop where
 n:c.n=d.n
 rn:I64 d.n
 t:c.t=d.t
 rt:I64 d.t
 l:IsRow slK S w c.a c.l c.c d.l
theorem IsSta.same {S S':Nat->Prop} {w w':World} {c:StC} {d:Sta} (hs:∀b,S b->S' b/\w'.heap[b]?=w.heap[b]?) (h:IsSta S w c d):IsSta S' w' c d:=⟨h.n,h.rn,h.t,h.rt,h.l.same hs⟩
theorem AtG.val {w:World} {b o:Nat} {c:VC} (h:AtG valK w b o c):At w b o c:=⟨h 0 gb,h 1 gb,h 2 gb,h 3 gb,h 4 gb,h 5 gb⟩
theorem At.g {w:World} {b o:Nat} {c:VC} (h:At w b o c):AtG valK w b o c:=λi hi=>by
 match i,hi with
 | 0,_=>exact h.k
 | 1,_=>exact h.i
 | 2,_=>exact h.s
 | 3,_=>exact h.t
 | 4,_=>exact h.l
 | 5,_=>exact h.f
theorem AtG.slot {w:World} {b o:Nat} {c:SlC} (h:AtG slK w b o c):w.cell? ⟨b,o,none⟩=some (I6 c.k.k)/\w.cell? ⟨b,o+1,none⟩=some (I6 c.k.i)/\w.cell? ⟨b,o+2,none⟩=some (I6 c.k.s)/\w.cell? ⟨b,o+3,none⟩=some (Sv c.k.t)/\w.cell? ⟨b,o+4,none⟩=some (Sl c.k.la c.k.ll c.k.lc)/\w.cell? ⟨b,o+5,none⟩=some (Sl c.k.fa c.k.fl c.k.fc) /\
 w.cell? ⟨b,o+6,none⟩=some (I6 c.n)/\w.cell? ⟨b,o+7,none⟩=some (I6 c.t)/\w.cell? ⟨b,o+8,none⟩=some (Sl c.ia c.il c.ic)/\w.cell? ⟨b,o+9,none⟩=some (Sl c.va c.vl c.vc) :=
 ⟨h 0 gb,h 1 gb,h 2 gb,h 3 gb,h 4 gb,h 5 gb,h 6 gb,h 7 gb,h 8 gb,h 9 gb⟩
structure Cnt where
 nm:BA
 nu:Int
def Cnt.cs (c:Cnt):List Value:=[.string c.nm,I6 c.nu]
abbrev Cnt.v (c:Cnt):Value:=.agg #[.string c.nm,I6 c.nu]
structure IsCnt (S:Nat->Prop) (w:World) (c d:Cnt):Prop where
 e:c=d
 nmz:c.nm.size<=140737488351232
 rn:I64 c.nu
@[reducible] def cntK:Kit Cnt Cnt:=⟨2,24,Cnt.cs,λ_=>rfl,by decide,IsCnt,λ_ h=>⟨h.e,h.nmz,h.rn⟩⟩
structure Que where
 nm:BA
 nu:Int
 vr:Int
 tx:BA
def Que.cs (c:Que):List Value:=[.string c.nm,I6 c.nu,I6 c.vr,.string c.tx]
abbrev Que.v (c:Que):Value:=.agg #[.string c.nm,I6 c.nu,I6 c.vr,.string c.tx]
structure IsQue (S:Nat->Prop) (w:World) (c d:Que):Prop where
 e:c=d
 nmz:c.nm.size<=140737488351232
 rn:I64 c.nu
 rv:I64 c.vr
 txz:c.tx.size<=140737488351232
@[reducible] def queK:Kit Que Que:=⟨4,48,Que.cs,λ_=>rfl,by decide,IsQue,λ_ h=>⟨h.e,h.nmz,h.rn,h.rv,h.txz⟩⟩
structure Let where
 m:Msg
 nd:BA
 tx:BA
 vr:Int
structure LetC where
 m:MC
 nd:BA
 tx:BA
 vr:Int
abbrev Ol (x:LetC) (t:TypeId):Obj:=.cells #[I6 x.m.st.e,Sl x.m.st.a x.m.st.n x.m.st.c,I6 x.m.m,Sl x.m.a x.m.n x.m.c,I6 x.m.b.k,I6 x.m.b.i,I6 x.m.b.s,Sv x.m.b.t,Sl x.m.b.la x.m.b.ll x.m.b.lc,Sl x.m.b.fa x.m.b.fl x.m.b.fc,Sv x.nd,Sv x.tx,I6 x.vr] t
def LetC.cs (c:LetC):List Value:=[I6 c.m.st.e,.slice c.m.st.a c.m.st.n c.m.st.c,I6 c.m.m,.slice c.m.a c.m.n c.m.c,I6 c.m.b.k,I6 c.m.b.i,I6 c.m.b.s,.string c.m.b.t,.slice c.m.b.la c.m.b.ll c.m.b.lc,.slice c.m.b.fa c.m.b.fl c.m.b.fc,.string c.nd,.string c.tx,I6 c.vr]
abbrev LetC.v (c:LetC):Value:=.agg #[I6 c.m.st.e,.slice c.m.st.a c.m.st.n c.m.st.c,I6 c.m.m,.slice c.m.a c.m.n c.m.c,I6 c.m.b.k,I6 c.m.b.i,I6 c.m.b.s,.string c.m.b.t,.slice c.m.b.la c.m.b.ll c.m.b.lc,.slice c.m.b.fa c.m.b.fl c.m.b.fc,.string c.nd,.string c.tx,I6 c.vr]
structure IsLet (S:Nat->Prop) (w:World) (c:LetC) (d:Let):Prop where
 m:IsMsg S w c.m d.m
 nd:c.nd=d.nd
 ndz:c.nd.size<=140737488351232
 tx:c.tx=d.tx
 txz:c.tx.size<=140737488351232
 vr:c.vr=d.vr
 rv:I64 c.vr
theorem IsLet.same {S S':Nat->Prop} {w w':World} {c:LetC} {d:Let} (hs:∀b,S b->S' b/\w'.heap[b]?=w.heap[b]?) (h:IsLet S w c d):IsLet S' w' c d :=
 ⟨h.m.same hs,h.nd,h.ndz,h.tx,h.txz,h.vr,h.rv⟩
@[reducible] def letK:Kit LetC Let:=⟨13,192,LetC.cs,λ_=>rfl,by decide,IsLet,λhs h=>h.same hs⟩
def StC.cs (c:StC):List Value:=[I6 c.n,I6 c.t,.slice c.a c.l c.c]
@[reducible] def staK:Kit StC Sta:=⟨3,40,StC.cs,λ_=>rfl,by decide,IsSta,λhs h=>h.same hs⟩
theorem AtG.cnt {w:World} {b o:Nat} {c:Cnt} (h:AtG cntK w b o c):w.cell? ⟨b,o,none⟩=some (Sv c.nm)/\w.cell? ⟨b,o+1,none⟩=some (I6 c.nu):=⟨h 0 gb,h 1 gb⟩
theorem AtG.que {w:World} {b o:Nat} {c:Que} (h:AtG queK w b o c):w.cell? ⟨b,o,none⟩=some (Sv c.nm)/\w.cell? ⟨b,o+1,none⟩=some (I6 c.nu)/\w.cell? ⟨b,o+2,none⟩=some (I6 c.vr)/\w.cell? ⟨b,o+3,none⟩=some (Sv c.tx):=⟨h 0 gb,h 1 gb,h 2 gb,h 3 gb⟩
theorem AtG.sta {w:World} {b o:Nat} {c:StC} (h:AtG staK w b o c):w.cell? ⟨b,o,none⟩=some (I6 c.n)/\w.cell? ⟨b,o+1,none⟩=some (I6 c.t)/\w.cell? ⟨b,o+2,none⟩=some (Sl c.a c.l c.c):=⟨h 0 gb,h 1 gb,h 2 gb⟩
structure Let13 (w:World) (b o:Nat) (c:LetC):Prop where
 c0:w.cell? ⟨b,o,none⟩=some (I6 c.m.st.e)
 c1:w.cell? ⟨b,o+1,none⟩=some (.slice c.m.st.a c.m.st.n c.m.st.c)
 c2:w.cell? ⟨b,o+2,none⟩=some (I6 c.m.m)
 c3:w.cell? ⟨b,o+3,none⟩=some (.slice c.m.a c.m.n c.m.c)
 c4:w.cell? ⟨b,o+4,none⟩=some (I6 c.m.b.k)
 c5:w.cell? ⟨b,o+5,none⟩=some (I6 c.m.b.i)
 c6:w.cell? ⟨b,o+6,none⟩=some (I6 c.m.b.s)
 c7:w.cell? ⟨b,o+7,none⟩=some (.string c.m.b.t)
 c8:w.cell? ⟨b,o+8,none⟩=some (.slice c.m.b.la c.m.b.ll c.m.b.lc)
 c9:w.cell? ⟨b,o+9,none⟩=some (.slice c.m.b.fa c.m.b.fl c.m.b.fc)
 c10:w.cell? ⟨b,o+10,none⟩=some (.string c.nd)
 c11:w.cell? ⟨b,o+11,none⟩=some (.string c.tx)
 c12:w.cell? ⟨b,o+12,none⟩=some (I6 c.vr)
theorem AtG.let' {w:World} {b o:Nat} {c:LetC} (h:AtG letK w b o c):Let13 w b o c :=
 ⟨h 0 gb,h 1 gb,h 2 gb,h 3 gb,h 4 gb,h 5 gb,h 6 gb,h 7 gb,h 8 gb,h 9 gb,h 10 gb,h 11 gb,h 12 gb⟩
structure Snp where
 v:Int
 e:Int
 t:Int
 ns:List Sta
 ar:List Cnt
 se:List Cnt
 qs:List Que
 ls:List Let
 ps:List Ef
structure SnC where
 v:Int
 e:Int
 t:Int
 na:Option Addr
 nl:Nat
 nc:Nat
 aa:Option Addr
 al:Nat
 ac:Nat
 sa:Option Addr
 sl:Nat
 sc:Nat
 qa:Option Addr
 ql:Nat
 qc:Nat
 la:Option Addr
 ll:Nat
 lc:Nat
 pa:Option Addr
 pl:Nat
 pc:Nat
abbrev SnC.w (c:SnC):Value:=.agg #[I6 c.v,I6 c.e,I6 c.t,.slice c.na c.nl c.nc,.slice c.aa c.al c.ac,.slice c.sa c.sl c.sc,.slice c.qa c.ql c.qc,.slice c.la c.ll c.lc,.slice c.pa c.pl c.pc]
structure IsSn (S:Nat->Prop) (w:World) (c:SnC) (d:Snp):Prop where
 v:c.v=d.v
 rv:I64 c.v
 e:c.e=d.e
 re:I64 c.e
 t:c.t=d.t
 rt:I64 c.t
 ns:IsRow staK S w c.na c.nl c.nc d.ns
 ar:IsRow cntK S w c.aa c.al c.ac d.ar
 se:IsRow cntK S w c.sa c.sl c.sc d.se
 qs:IsRow queK S w c.qa c.ql c.qc d.qs
 ls:IsRow letK S w c.la c.ll c.lc d.ls
 ps:IsRow efK S w c.pa c.pl c.pc d.ps
theorem IsSn.same {S S':Nat->Prop} {w w':World} {c:SnC} {d:Snp} (hs:∀b,S b->S' b/\w'.heap[b]?=w.heap[b]?) (h:IsSn S w c d):IsSn S' w' c d :=
 ⟨h.v,h.rv,h.e,h.re,h.t,h.rt,h.ns.same hs,h.ar.same hs,h.se.same hs,h.qs.same hs,h.ls.same hs,h.ps.same hs⟩
theorem lcf8 (a:Addr) (i:Nat) (acc:Array Value):loadCellsFrom a i 8 acc=(do let v <-load (a.add i);loadCellsFrom a (i+1) 7 (acc.push v)):=rfl
theorem lcf9 (a:Addr) (i:Nat) (acc:Array Value):loadCellsFrom a i 9 acc=(do let v <-load (a.add i);loadCellsFrom a (i+1) 8 (acc.push v)):=rfl
theorem aNi (a:Addr) (i:Nat) (acc:Array Value):loadCellsFrom a i 10 acc=(do let v <-load (a.add i);loadCellsFrom a (i+1) 9 (acc.push v)):=rfl
theorem aNh (a:Addr) (i:Nat) (acc:Array Value):loadCellsFrom a i 11 acc=(do let v <-load (a.add i);loadCellsFrom a (i+1) 10 (acc.push v)):=rfl
theorem aNg (a:Addr) (i:Nat) (acc:Array Value):loadCellsFrom a i 12 acc=(do let v <-load (a.add i);loadCellsFrom a (i+1) 11 (acc.push v)):=rfl
theorem aNf (a:Addr) (i:Nat) (acc:Array Value):loadCellsFrom a i 13 acc=(do let v <-load (a.add i);loadCellsFrom a (i+1) 12 (acc.push v)):=rfl
theorem stc2 (a:Addr) (i:Nat) (v1 v2:Value):storeCells a [v1,v2] i=(do store (a.add i) v1;storeCells a [v2] (i+1)):=rfl
theorem stc3 (a:Addr) (i:Nat) (v1 v2 v3:Value):storeCells a [v1,v2,v3] i=(do store (a.add i) v1;storeCells a [v2,v3] (i+1)):=rfl
theorem stc4 (a:Addr) (i:Nat) (v1 v2 v3 v4:Value):storeCells a [v1,v2,v3,v4] i=(do store (a.add i) v1;storeCells a [v2,v3,v4] (i+1)):=rfl
theorem stc5 (a:Addr) (i:Nat) (v1 v2 v3 v4 v5:Value):storeCells a [v1,v2,v3,v4,v5] i=(do store (a.add i) v1;storeCells a [v2,v3,v4,v5] (i+1)):=rfl
theorem stc6 (a:Addr) (i:Nat) (v1 v2 v3 v4 v5 v6:Value):storeCells a [v1,v2,v3,v4,v5,v6] i=(do store (a.add i) v1;storeCells a [v2,v3,v4,v5,v6] (i+1)):=rfl
theorem stc7 (a:Addr) (i:Nat) (v1 v2 v3 v4 v5 v6 v7:Value):storeCells a [v1,v2,v3,v4,v5,v6,v7] i=(do store (a.add i) v1;storeCells a [v2,v3,v4,v5,v6,v7] (i+1)):=rfl
theorem stc8 (a:Addr) (i:Nat) (v1 v2 v3 v4 v5 v6 v7 v8:Value):storeCells a [v1,v2,v3,v4,v5,v6,v7,v8] i=(do store (a.add i) v1;storeCells a [v2,v3,v4,v5,v6,v7,v8] (i+1)):=rfl
theorem stc9 (a:Addr) (i:Nat) (v1 v2 v3 v4 v5 v6 v7 v8 v9:Value):storeCells a [v1,v2,v3,v4,v5,v6,v7,v8,v9] i=(do store (a.add i) v1;storeCells a [v2,v3,v4,v5,v6,v7,v8,v9] (i+1)):=rfl
theorem stc10 (a:Addr) (i:Nat) (v1 v2 v3 v4 v5 v6 v7 v8 v9 v10:Value):storeCells a [v1,v2,v3,v4,v5,v6,v7,v8,v9,v10] i=(do store (a.add i) v1;storeCells a [v2,v3,v4,v5,v6,v7,v8,v9,v10] (i+1)):=rfl
theorem stc11 (a:Addr) (i:Nat) (v1 v2 v3 v4 v5 v6 v7 v8 v9 v10 v11:Value):storeCells a [v1,v2,v3,v4,v5,v6,v7,v8,v9,v10,v11] i=(do store (a.add i) v1;storeCells a [v2,v3,v4,v5,v6,v7,v8,v9,v10,v11] (i+1)):=rfl
theorem stc12 (a:Addr) (i:Nat) (v1 v2 v3 v4 v5 v6 v7 v8 v9 v10 v11 v12:Value):storeCells a [v1,v2,v3,v4,v5,v6,v7,v8,v9,v10,v11,v12] i=(do store (a.add i) v1;storeCells a [v2,v3,v4,v5,v6,v7,v8,v9,v10,v11,v12] (i+1)):=rfl
theorem stc13 (a:Addr) (i:Nat) (v1 v2 v3 v4 v5 v6 v7 v8 v9 v10 v11 v12 v13:Value):storeCells a [v1,v2,v3,v4,v5,v6,v7,v8,v9,v10,v11,v12,v13] i=(do store (a.add i) v1;storeCells a [v2,v3,v4,v5,v6,v7,v8,v9,v10,v11,v12,v13] (i+1)):=rfl
abbrev oS (x : SlC) (n : Nat) : Obj := .cells #[.int .i64 x.k.k, .int .i64 x.k.i, .int .i64 x.k.s, .string x.k.t, .slice x.k.la x.k.ll x.k.lc, .slice x.k.fa x.k.fl x.k.fc, .int .i64 x.n, .int .i64 x.t, .slice x.ia x.il x.ic, .slice x.va x.vl x.vc] n
end Go.Proofs.YtoodnaghjpkjfaaGreatDoor
