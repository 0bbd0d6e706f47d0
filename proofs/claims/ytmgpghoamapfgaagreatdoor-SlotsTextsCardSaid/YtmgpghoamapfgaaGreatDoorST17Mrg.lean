/- A part. -/
import Derived.Test.YtmgpghoamapfgaaGreatDoorST1Mrg
import Derived.Deep.WholeRow
import Derived.Laws.Cells
import Derived.OneCell
namespace Go.Proofs.YtmgpghoamapfgaaGreatDoor
set_option linter.unusedVariables false
set_option linter.unusedSimpArgs false
section
open Go Go.RowKit
def MC.cs (c:MC):List Value:=[I6 c.st.e,.slice c.st.a c.st.n c.st.c,I6 c.m,.slice c.a c.n c.c,I6 c.b.k,I6 c.b.i,I6 c.b.s,.string c.b.t,.slice c.b.la c.b.ll c.b.lc,.slice c.b.fa c.b.fl c.b.fc]
structure AtM (w:World) (b o:Nat) (c:MC):Prop where
 e:Ce w b o (I6 c.st.e)
 p:w.cell? ⟨b,o+1,none⟩=some (.slice c.st.a c.st.n c.st.c)
 m:w.cell? ⟨b,o+2,none⟩=some (I6 c.m)
 es:w.cell? ⟨b,o+3,none⟩=some (.slice c.a c.n c.c)
 k:w.cell? ⟨b,o+4,none⟩=some (I6 c.b.k)
 i:w.cell? ⟨b,o+5,none⟩=some (I6 c.b.i)
 s:w.cell? ⟨b,o+6,none⟩=some (I6 c.b.s)
 t:w.cell? ⟨b,o+7,none⟩=some (.string c.b.t)
 l:w.cell? ⟨b,o+8,none⟩=some (.slice c.b.la c.b.ll c.b.lc)
 f:w.cell? ⟨b,o+9,none⟩=some (.slice c.b.fa c.b.fl c.b.fc)
end
section
open Go Go.RowKit
structure Kit (C D:Type) where
 n:Nat
 by':Nat
 cs:C->List Value
 len:∀c,(cs c).length=n
 pos:0<n
 Is:(Nat->Prop)->World->C->D->Prop
 same:∀{S S':Nat->Prop} {w w':World} {c:C} {d:D},(∀b,S b->S' b/\w'.heap[b]?=w.heap[b]?)->Is S w c d->Is S' w' c d
section
variable {C D:Type} (K:Kit C D)
def AtG (w:World) (b o:Nat) (c:C):Prop:=∀i,i<K.n->w.cell? ⟨b,o+i,none⟩=(K.cs c)[i]?
variable {K}
theorem AtG.same {w w':World} {b o:Nat} {c:C} (h:AtG K w b o c) (hb:w'.heap[b]?=w.heap[b]?):AtG K w' b o c :=
 fun i hi=>(World.cell?_of_block (w:=w) (a:=⟨b,o+i,none⟩) hb).trans (h i hi)
theorem AtG.ofRow {w:World} {base:Nat} {e:TypeId} {g:Nat} {n cap:Nat} {cs:List C} (h:w.ownsRow base e K.n (.slice (some ⟨g,0,none⟩) n cap) n (cs.flatMap K.cs)) (j:Nat) (hj:j<cs.length):AtG K w g (j * K.n) cs[j]:=by
 have hc:=h.cells (g:=g) rfl;intro i hi;have hl:=K.len cs[j];have h1:(K.cs cs[j])[i]?=some ((K.cs cs[j])[i]' ga):=List.getElem?_eq_getElem ga;have:=hc (j * K.n+i) _ ((nH K.cs K.n K.len cs j i hj hi).trans h1);rw[show(⟨g,0,none⟩:Addr).add (j * K.n+i)=⟨g,j * K.n+i,none⟩ by unfold Addr.add;split<;>simp_all] at this;rw[this,h1]
variable (K)
structure IsRow (S:Nat->Prop) (w:World) (a:Option Addr) (n c:Nat) (l:List D):Prop where
 len:n=l.length
 cap:n<=c
 big:n * K.by'<=140737488351232
 at':l=[]\/∃b o,a=some ⟨b,o,none⟩/\S b/\∀(j:Nat) (h:j<l.length),∃x:C,AtG K w b (o+j * K.n) x/\K.Is S w x l[j]
variable {K}
theorem IsRow.same {S S':Nat->Prop} {w w':World} {a:Option Addr} {n c:Nat} {l:List D} (hs:∀b,S b->S' b/\w'.heap[b]?=w.heap[b]?) (h:IsRow K S w a n c l):IsRow K S' w' a n c l :=
 ⟨h.len,h.cap,h.big,h.at'.imp id fun ⟨b,o,ha,hb,hx⟩=>⟨b,o,ha,(hs b hb).1,fun j hj=>by
   obtain⟨x,h1,h2⟩:=hx j hj;exact⟨x,h1.same (hs b hb).2,K.same hs h2⟩⟩⟩
theorem IsRow.slot {S:Nat->Prop} {w:World} {a:Option Addr} {n c:Nat} {l:List D} (h:IsRow K S w a n c l) (hn:0<n):∃b o,a=some ⟨b,o,none⟩/\S b/\∀(j:Nat) (h:j<l.length),∃x:C,AtG K w b (o+j * K.n) x/\K.Is S w x l[j]:=by
 rcases h.at' with h0 | h1
 ·exact absurd h.len (by rw[h0];simp;omega)
 ·exact h1
variable (K)
def Built (T B:Nat) (w:World) (v:Value) (k:Nat) (l:List D):Prop :=
 ∃cs:List C,cs.length=k/\w.ownsRow B T K.n v k (cs.flatMap K.cs)/\∀j (h:j<cs.length) (h':j<l.length),K.Is (fun b=>B<=b/\b<w.heap.size/\some b≠v.ownBlock) w cs[j] l[j]
variable {K}
theorem Built.own {T B:Nat} {w:World} {v:Value} {k:Nat} {l:List D} (h:Built K T B w v k l):∀r,v.ownBlock=some r->B<=r/\r<w.heap.size:=by
 obtain⟨_,_,h2,_⟩:=h;exact h2.lt
theorem Built.shape {T B:Nat} {w:World} {v:Value} {k:Nat} {l:List D} (h:Built K T B w v k l):∃a cap,v=.slice a k cap/\k<=cap/\(a=none->k=0)/\∀r,v.ownBlock=some r->B<=r/\r<w.heap.size:=by
 obtain⟨cs,h1,h2,h3⟩:=h;have hlt:=h2.lt;rcases h2.2 with ⟨rfl,rfl⟩ | ⟨g,cap,cur,rfl,hb,hg,hn,_⟩
 ·exact⟨none,0,rfl,Nat.le_refl _,fun _=>rfl,hlt⟩
 ·exact⟨_,cap,rfl,hn,fun h=>by simp at h,hlt⟩
theorem Built.push {T B N:Nat} {w1 w2:World} {v:Value} {k:Nat} {l:List D} {cs:List C} {c:C} {o:Obj} {g cap:Nat} (hcs:cs.length=k)
 (hel:∀j (h:j<cs.length) (h':j<l.length),K.Is (fun b=>B<=b/\b<w1.heap.size/\some b≠v.ownBlock) w1 cs[j] l[j])
 (hk:k<l.length) (hc:K.Is (fun b=>N<=b/\b<w1.heap.size) w1 c l[k]) (hN:B<=N) (hv:∀r,v.ownBlock=some r->r<N)
 (hown:w2.ownsRow B T K.n (.slice (some ⟨g,0,none⟩) (k+1) cap) (k+1) (cs.flatMap K.cs++K.cs c)) (hgrow:(w1.alloc o).grownBy w2 v.ownBlock) (hat:v.ownBlock=some g\/g=w1.heap.size+1) :
 Built K T B w2 (.slice (some ⟨g,0,none⟩) (k+1) cap) (k+1) l:=by
 have hsz:w1.heap.size+1<=w2.heap.size:=by have:=hgrow.size;simpa using this
 have hst:∀b,b<w1.heap.size->some b≠v.ownBlock->w2.heap[b]?=w1.heap[b]?:=fun b hb hne =>
  (hgrow.block b gj hne).trans (Below.heap_alloc _ _ _ hb)
 have hg:∀b,b<w1.heap.size->some b≠v.ownBlock->some b≠(Value.slice (some ⟨g,0,none⟩) (k+1) cap).ownBlock:=fun b hb hne e=>by
  simp only[Value.ownBlock,Option.some.injEq] at e;subst e;rcases hat with h | h
  ·exact hne h.symm
  ·omega
 refine⟨cs++[c],by simp[hcs],by simpa using hown,fun j hj hj'=>?_⟩;by_cases hjk:j<cs.length
 ·rw[List.getElem_append_left hjk];exact K.same (fun b hb=>⟨⟨hb.1,by omega,hg b hb.2.1 hb.2.2⟩,hst b hb.2.1 hb.2.2⟩) (hel j hjk hj')
 ·obtain rfl:j=k:=by simp at hj;omega
  rw[List.getElem_append_right ga];simp only[hcs,Nat.sub_self,List.getElem_cons_zero];have hne:∀b,N<=b->some b≠v.ownBlock:=fun b hb e=>by have:=hv b e.symm;omega
  exact K.same (fun b hb=>⟨⟨by omega,by omega,hg b hb.2 (hne b hb.1)⟩,hst b hb.2 (hne b hb.1)⟩) hc
theorem Built.row {T B:Nat} {w:World} {a:Option Addr} {cap:Nat} {l:List D} (h:Built K T B w (.slice a l.length cap) l.length l) (hbig:l.length * K.by'<=140737488351232):IsRow K (fun b=>B<=b/\b<w.heap.size) w a l.length cap l:=by
 obtain⟨_,cap',hv,hcap,_⟩:=h.shape;simp only[Value.slice.injEq] at hv;obtain⟨rfl,_,rfl⟩:=hv;obtain⟨cs,h1,h2,h3⟩:=h;refine⟨rfl,hcap,hbig,?_⟩;rcases h2.2 with ⟨h4,h5⟩ | ⟨g,cap',cur,hv,hb,hg,_⟩
 ·exact .inl (List.eq_nil_of_length_eq_zero h5)
 ·simp only[Value.slice.injEq] at hv;obtain⟨rfl,_,rfl⟩:=hv;refine .inr ⟨g,0,rfl,⟨hb,ltOf hg⟩,fun j hj=>⟨cs[j]' ga,?_,?_⟩⟩
  ·rw[Nat.zero_add];exact AtG.ofRow h2 j ga
  ·exact K.same (fun b hb=>⟨⟨hb.1,hb.2.1⟩,rfl⟩) (h3 j ga hj)
end
/-! ### Stamps,messages,fates as such things -/
def SC.cs (c:SC):List Value:=[I6 c.e,.slice c.a c.n c.c]
@[reducible] def stK:Kit SC St:=⟨2,32,SC.cs,fun _=>rfl,by decide,IsSt,fun hs h=>h.same hs⟩
@[reducible] def msgK:Kit MC Msg:=⟨10,152,MC.cs,fun _=>rfl,by decide,IsMsg,fun hs h=>h.same hs⟩
@[reducible] def valK:Kit VC Val:=⟨6,88,VC.cs,fun _=>rfl,by decide,IsVal,fun hs h=>h.same hs⟩
section
variable {C D:Type} {K:Kit C D}
theorem Built.row' {T B:Nat} {w:World} {v:Value} {k:Nat} {l:List D} (h:Built K T B w v k l) (hk:k=l.length) (hbig:k * K.by'<=140737488351232):∃a cap,v=.slice a k cap/\IsRow K (fun b=>B<=b/\b<w.heap.size) w a k cap l:=by
 subst hk;obtain⟨a,cap,rfl,_⟩:=h.shape;exact⟨a,cap,rfl,h.row hbig⟩
end
def eqL {D:Type} (f:D->D->Bool):List D->List D->Bool
 | [],[]=>true
 | a :: r,b :: s=>f a b&&eqL f r s
 | [],_ :: _=>false
 | _ :: _,[]=>false
theorem tG {D:Type} {f:D->D->Bool}:∀{a b:List D},a.length≠b.length->eqL f a b=false
 | [],[],h=>absurd rfl h
 | [],_ :: _,_=>rfl
 | _ :: _,[],_=>rfl
 | x :: a,y :: b,h=>by rw[eqL,tG (a:=a) (b:=b) gt];simp
theorem vU {D:Type} {f:D->D->Bool}:∀{a b:List D},a.length=b.length->(∀j (h1:j<a.length) (h2:j<b.length),f a[j] b[j]=true)->eqL f a b=true
 | [],[],_,_=>rfl
 | [],_ :: _,h,_=>by simp at h
 | _ :: _,[],h,_=>by simp at h
 | x :: a,y :: b,h,g=>by
   rw[eqL,vU (a:=a) (b:=b) gt (fun j h1 h2=>g (j+1) (Nat.succ_lt_succ h1) (Nat.succ_lt_succ h2))];have:=g 0 gd gd
   simpa using this
theorem aC3 {D:Type} {f:D->D->Bool}:∀{a b:List D} (j:Nat) (h1:j<a.length) (h2:j<b.length),f a[j] b[j]=false->eqL f a b=false
 | [],[],_,h1,_,_=>by simp at h1
 | [],_ :: _,_,h1,_,_=>by simp at h1
 | _ :: _,[],_,_,h2,_=>by simp at h2
 | x :: a,y :: b,0,_,_,h=>by rw[eqL];simp at h;simp[h]
 | x :: a,y :: b,j+1,h1,h2,h=>by rw[eqL,aC3 (a:=a) (b:=b) j (Nat.lt_of_succ_lt_succ h1) (Nat.lt_of_succ_lt_succ h2) h];simp
theorem vT {D:Type} {f:D->D->Bool} (hf:∀d,f d d=true) (a:List D):eqL f a a=true:=vU rfl fun _ _ _=>hf _
theorem AtG.two {w:World} {b o:Nat} {c:SC} (h:AtG stK w b o c):Ce w b o (I6 c.e)/\w.cell? ⟨b,o+1,none⟩=some (.slice c.a c.n c.c):=⟨h 0 gc,h 1 gc⟩
theorem AtG.m {w:World} {b o:Nat} {c:MC} (h:AtG msgK w b o c):AtM w b o c :=
 ⟨h 0 gc,h 1 gc,h 2 gc,h 3 gc,h 4 gc,h 5 gc,h 6 gc,h 7 gc,h 8 gc,h 9 gc⟩
def IdxPost (w:World) (p:Bool) (e:Ending) (w':World):Prop:=(∃k:Int,e=.returned (I6 k)/\(0<=k ↔ p=true))/\BB w w'
end
section
open Go Go.RowKit
/-! The load of a few cells unfolds,when the walk's own unfolding of loadCellsFrom is taken out (so that a load of 18 cells stands still). -/
theorem aBr (a:Addr) (i:Nat) (acc:Array Value):loadCellsFrom a i 0 acc=pure acc:=rfl
theorem aBq (a:Addr) (i:Nat) (acc:Array Value):loadCellsFrom a i 1 acc=(do let v <-load (a.add i);loadCellsFrom a (i+1) 0 (acc.push v)):=rfl
theorem aBp (a:Addr) (i:Nat) (acc:Array Value):loadCellsFrom a i 2 acc=(do let v <-load (a.add i);loadCellsFrom a (i+1) 1 (acc.push v)):=rfl
theorem aBo (a:Addr) (i:Nat) (acc:Array Value):loadCellsFrom a i 3 acc=(do let v <-load (a.add i);loadCellsFrom a (i+1) 2 (acc.push v)):=rfl
theorem aBn (a:Addr) (i:Nat) (acc:Array Value):loadCellsFrom a i 4 acc=(do let v <-load (a.add i);loadCellsFrom a (i+1) 3 (acc.push v)):=rfl
theorem aBm (a:Addr) (i:Nat) (acc:Array Value):loadCellsFrom a i 5 acc=(do let v <-load (a.add i);loadCellsFrom a (i+1) 4 (acc.push v)):=rfl
theorem lcf6 (a:Addr) (i:Nat) (acc:Array Value):loadCellsFrom a i 6 acc=(do let v <-load (a.add i);loadCellsFrom a (i+1) 5 (acc.push v)):=rfl
theorem lcf7 (a:Addr) (i:Nat) (acc:Array Value):loadCellsFrom a i 7 acc=(do let v <-load (a.add i);loadCellsFrom a (i+1) 6 (acc.push v)):=rfl
theorem aAt (a:Addr) (i:Nat):storeCells a [] i=pure ():=rfl
theorem aAs (a:Addr) (i:Nat) (v:Value):storeCells a [v] i=(do store (a.add i) v;storeCells a [] (i+1)):=rfl
end
section
open Go Go.RowKit
structure Slot where
 k:Val
 n:Int
 t:Int
 items:List Msg
 vals:List Val
structure SlC where
 k:VC
 n:Int
 t:Int
 ia:Option Addr
 il:Nat
 ic:Nat
 va:Option Addr
 vl:Nat
 vc:Nat
abbrev SlC.v (c:SlC):Value:=.agg #[I6 c.k.k,I6 c.k.i,I6 c.k.s,.string c.k.t,.slice c.k.la c.k.ll c.k.lc,.slice c.k.fa c.k.fl c.k.fc,I6 c.n,I6 c.t,.slice c.ia c.il c.ic,.slice c.va c.vl c.vc]
def SlC.cs (c:SlC):List Value:=[I6 c.k.k,I6 c.k.i,I6 c.k.s,.string c.k.t,.slice c.k.la c.k.ll c.k.lc,.slice c.k.fa c.k.fl c.k.fc,I6 c.n,I6 c.t,.slice c.ia c.il c.ic,.slice c.va c.vl c.vc]
structure IsSl (S:Nat->Prop) (w:World) (c:SlC) (d:Slot):Prop where
 k:IsVal S w c.k d.k
 n:c.n=d.n
 rn:I64 d.n
 t:c.t=d.t
 rt:I64 d.t
 items:IsRow msgK S w c.ia c.il c.ic d.items
 vals:IsRow valK S w c.va c.vl c.vc d.vals
theorem IsSl.same {S S':Nat->Prop} {w w':World} {c:SlC} {d:Slot} (hs:∀b,S b->S' b/\w'.heap[b]?=w.heap[b]?) (h:IsSl S w c d):IsSl S' w' c d:=⟨h.k.same hs,h.n,h.rn,h.t,h.rt,h.items.same hs,h.vals.same hs⟩
@[reducible] def slK:Kit SlC Slot:=⟨10,152,SlC.cs,fun _=>rfl,by decide,IsSl,fun hs h=>h.same hs⟩
structure Sta where
 n:Int
 t:Int
 l:List Slot
structure StC where
 n:Int
 t:Int
 a:Option Addr
 l:Nat
 c:Nat
abbrev StC.v (c:StC):Value:=.agg #[I6 c.n,I6 c.t,.slice c.a c.l c.c]
structure IsSta (S:Nat->Prop) (w:World) (c:StC) (d:Sta):Prop where
 n:c.n=d.n
 rn:I64 d.n
 t:c.t=d.t
 rt:I64 d.t
 l:IsRow slK S w c.a c.l c.c d.l
theorem IsSta.same {S S':Nat->Prop} {w w':World} {c:StC} {d:Sta} (hs:∀b,S b->S' b/\w'.heap[b]?=w.heap[b]?) (h:IsSta S w c d):IsSta S' w' c d:=⟨h.n,h.rn,h.t,h.rt,h.l.same hs⟩
theorem AtG.val {w:World} {b o:Nat} {c:VC} (h:AtG valK w b o c):At w b o c:=⟨h 0 gc,h 1 gc,h 2 gc,h 3 gc,h 4 gc,h 5 gc⟩
theorem AtG.slot {w:World} {b o:Nat} {c:SlC} (h:AtG slK w b o c):Ce w b o (I6 c.k.k)/\w.cell? ⟨b,o+1,none⟩=some (I6 c.k.i)/\w.cell? ⟨b,o+2,none⟩=some (I6 c.k.s)/\w.cell? ⟨b,o+3,none⟩=some (.string c.k.t)/\w.cell? ⟨b,o+4,none⟩=some (.slice c.k.la c.k.ll c.k.lc)/\w.cell? ⟨b,o+5,none⟩=some (.slice c.k.fa c.k.fl c.k.fc) /\
 w.cell? ⟨b,o+6,none⟩=some (I6 c.n)/\w.cell? ⟨b,o+7,none⟩=some (I6 c.t)/\w.cell? ⟨b,o+8,none⟩=some (.slice c.ia c.il c.ic)/\w.cell? ⟨b,o+9,none⟩=some (.slice c.va c.vl c.vc) :=
 ⟨h 0 gc,h 1 gc,h 2 gc,h 3 gc,h 4 gc,h 5 gc,h 6 gc,h 7 gc,h 8 gc,h 9 gc⟩
end
section
open Go Go.RowKit
structure KeepB (B:Nat) (w:World) (l:List (Nat × Obj)) (w':World):Prop where
 b:Below B w w'
 n:B<=w'.heap.size
 at':∀p∈l,w'.heap[p.1]?=some p.2
theorem KeepB.at {B:Nat} {w w':World} {l:List (Nat × Obj)} (h:KeepB B w l w') (j:Nat) (hj:j<l.length):w'.heap[(l[j]).1]?=some (l[j]).2:=h.at' _ (List.getElem_mem hj)
theorem KeepB.ext {B:Nat} {w w' w'':World} {l:List (Nat × Obj)} (h:KeepB B w l w') (hb:BB w' w''):KeepB B w l w'' :=
 ⟨h.b.trans (hb.mono h.n),Nat.le_trans h.n hb.size,fun p hp=>aB hb (h.at' p hp)⟩
theorem KeepB.cons {B:Nat} {w w':World} {l:List (Nat × Obj)} (h:KeepB B w l w') {b:Nat} {o:Obj} (hb:w'.heap[b]?=some o):KeepB B w ((b,o) :: l) w' :=
 ⟨h.b,h.n,fun p hp=>(List.mem_cons.1 hp).elim (fun e=>by rw[e];exact hb) (fun hp=>h.at' p hp)⟩
theorem KeepB.sub {B:Nat} {w w':World} {l l':List (Nat × Obj)} (h:KeepB B w l w') (hs:∀p∈l',p∈l):KeepB B w l' w':=⟨h.b,h.n,fun p hp=>h.at' p (hs p hp)⟩
theorem KeepB.grown {B:Nat} {w w' w'':World} {l:List (Nat × Obj)} {row:Option Nat} (h:KeepB B w l w') (hg:w'.grownBy w'' row) (hr:∀r,row=some r->B<=r/\∀p∈l,p.1≠r):KeepB B w l w'' :=
 ⟨h.b.grown hg h.n (fun r e=>(hr r e).1),Nat.le_trans h.n hg.size,fun p hp=>(hg.block _ (ltOf (h.at' p hp)) (fun e=>(hr p.1 e.symm).2 p hp rfl)).trans (h.at' p hp)⟩
theorem KeepB.set {B:Nat} {w w':World} {l:List (Nat × Obj)} {b o:Nat} {cs:Array Value} {t:TypeId} {fr:Nat × Nat} (v:Value) (h:KeepB B w ((b,.cells cs t fr) :: l) w') (hB:B<=b) (hne:∀p∈l,p.1≠b):KeepB B w ((b,.cells (cs.setIfInBounds o v) t fr) :: l) (w'.setCell ⟨b,o,none⟩ v) :=
 ⟨h.b.setCell (p:=⟨b,o,none⟩) hB v,by simpa [World.setCell] using h.n,fun p hp=>by
   rcases List.mem_cons.1 hp with rfl | hp
   ·exact aE v (h.at' _ (List.mem_cons_self ..))
   ·exact(Below.heap_setCell _ _ _ _ (hne p hp)).trans (h.at' p (List.mem_cons_of_mem _ hp))⟩
section
variable {C D:Type} (K:Kit C D)
def Kept (T B:Nat) (w:World) (v:Value) (k:Nat) (l:List D):Prop :=
 ∃cs:List C,cs.length=k/\l.length=k/\w.ownsRow B T K.n v k (cs.flatMap K.cs)/\∀j (h:j<cs.length) (h':j<l.length),K.Is (· < B) w cs[j] l[j]
variable {K}
theorem Kept.nil (T B:Nat) (w:World):Kept K T B w (.slice none 0 0) 0 []:=⟨[],rfl,rfl,World.ownsRow_nil _ _ _ _,fun j h=>by simp at h⟩
theorem Kept.ext {T B:Nat} {w w':World} {v:Value} {k:Nat} {l:List D} (h:Kept K T B w v k l) (hn:B<=w.heap.size) (hb:BB w w'):Kept K T B w' v k l:=by
 obtain⟨cs,h1,h0,h2,h3⟩:=h;exact⟨cs,h1,h0,fM h2 hb,fun j hj hj'=>K.same (fun b q=>⟨q,hb.block b ga⟩) (h3 j hj hj')⟩
theorem Kept.own {T B:Nat} {w:World} {v:Value} {k:Nat} {l:List D} (h:Kept K T B w v k l):∀r,v.ownBlock=some r->B<=r/\r<w.heap.size:=by
 obtain⟨_,_,_,h2,_⟩:=h;exact h2.lt
theorem Kept.shape {T B:Nat} {w:World} {v:Value} {k:Nat} {l:List D} (h:Kept K T B w v k l):∃a cap,v=.slice a k cap/\k<=cap:=by
 obtain⟨cs,h1,h0,h2,h3⟩:=h;rcases h2.2 with ⟨rfl,rfl⟩ | ⟨g,cap,cur,rfl,hb,hg,hn,_⟩
 ·exact⟨none,0,rfl,Nat.le_refl _⟩
 ·exact⟨_,cap,rfl,hn⟩
theorem Kept.set {T B:Nat} {w:World} {v:Value} {k:Nat} {l:List D} (h:Kept K T B w v k l) (a:Addr) (u:Value) (hB:B<=a.block) (hne:v.ownBlock≠some a.block):Kept K T B (w.setCell a u) v k l:=by
 obtain⟨cs,h1,h0,h2,h3⟩:=h;exact⟨cs,h1,h0,ownsRow_setCell_other h2 hne u,fun j hj hj'=>K.same (fun b q=>⟨q,Below.heap_setCell _ _ _ _ ga⟩) (h3 j hj hj')⟩
theorem Kept.push {T B:Nat} {w1 w2:World} {v:Value} {k:Nat} {l:List D} {c:C} {d:D} {o:Obj} {g cap:Nat} {cs:List C} (hcs:cs.length=k) (hl:l.length=k)
 (hel:∀j (h:j<cs.length) (h':j<l.length),K.Is (· < B) w1 cs[j] l[j]) (hn:B<=w1.heap.size) (hc:K.Is (· < B) w1 c d) (hv:∀r,v.ownBlock=some r->B<=r)
 (hown:w2.ownsRow B T K.n (.slice (some ⟨g,0,none⟩) (k+1) cap) (k+1) (cs.flatMap K.cs++K.cs c)) (hgrow:(w1.alloc o).grownBy w2 v.ownBlock) :
 Kept K T B w2 (.slice (some ⟨g,0,none⟩) (k+1) cap) (k+1) (l++[d]):=by
 have hst:∀b,b<B->w2.heap[b]?=w1.heap[b]?:=fun b hb =>
  (hgrow.block b gj (fun e=>by have:=hv b e.symm;omega)).trans (Below.heap_alloc _ _ _ ga)
 refine⟨cs++[c],by simp[hcs],by simp[hl],by simpa using hown,fun j hj hj'=>?_⟩;by_cases hjk:j<cs.length
 ·rw[List.getElem_append_left hjk,List.getElem_append_left ga];exact K.same (fun b q=>⟨q,hst b q⟩) (hel j hjk ga)
 ·have e1:j=cs.length:=by simp at hj;omega
  rw[List.getElem_append_right ga,List.getElem_append_right ga];simp only[e1,hcs,hl,Nat.sub_self,List.getElem_cons_zero];exact K.same (fun b q=>⟨q,hst b q⟩) hc
theorem Kept.row {T B:Nat} {w:World} {a:Option Addr} {k cap:Nat} {l:List D} (h:Kept K T B w (.slice a k cap) k l) (hn:B<=w.heap.size) (hbig:k * K.by'<=140737488351232):IsRow K (· < w.heap.size) w a k cap l:=by
 obtain⟨_,cap',hv,hcap⟩:=h.shape;simp only[Value.slice.injEq] at hv;obtain⟨rfl,_,rfl⟩:=hv;obtain⟨cs,h1,h0,h2,h3⟩:=h;refine⟨h0.symm,hcap,hbig,?_⟩;rcases h2.2 with ⟨h4,h5⟩ | ⟨g,cap',cur,hv,hb,hg,_⟩
 ·exact .inl (List.eq_nil_of_length_eq_zero ga)
 ·simp only[Value.slice.injEq] at hv;obtain⟨rfl,_,rfl⟩:=hv;refine .inr ⟨g,0,rfl,ltOf hg,fun j hj=>⟨cs[j]' ga,?_,?_⟩⟩
  ·rw[Nat.zero_add];exact AtG.ofRow h2 j ga
  ·exact K.same (fun b q=>⟨by omega,rfl⟩) (h3 j ga hj)
end
end
section
open Go Go.RowKit Go.Shelf
abbrev oS (x : SlC) (n : Nat) : Obj := .cells #[.int .i64 x.k.k, .int .i64 x.k.i, .int .i64 x.k.s, .string x.k.t, .slice x.k.la x.k.ll x.k.lc, .slice x.k.fa x.k.fl x.k.fc, .int .i64 x.n, .int .i64 x.t, .slice x.ia x.il x.ic, .slice x.va x.vl x.vc] n
end
end Go.Proofs.YtmgpghoamapfgaaGreatDoor
