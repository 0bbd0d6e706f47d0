/- A part. -/
import Derived.Test.YteladbdfiannjaaGreatDoorSX1Mrg
namespace Go.Proofs.YteladbdfiannjaaGreatDoor
set_option linter.unusedVariables false
set_option linter.unusedSimpArgs false
section
open Go Go.RowKit
def MC.cs (c:MC):List Value:=[.int .i64 c.st.e,.slice c.st.a c.st.n c.st.c,.int .i64 c.m,.slice c.a c.n c.c,.int .i64 c.b.k,.int .i64 c.b.i,.int .i64 c.b.s,.string c.b.t,.slice c.b.la c.b.ll c.b.lc,.slice c.b.fa c.b.fl c.b.fc]
structure AtM (w:World) (b o:Nat) (c:MC):Prop where
 e:w.cell? ⟨b,o,none⟩=some (.int .i64 c.st.e)
 p:w.cell? ⟨b,o+1,none⟩=some (.slice c.st.a c.st.n c.st.c)
 m:w.cell? ⟨b,o+2,none⟩=some (.int .i64 c.m)
 es:w.cell? ⟨b,o+3,none⟩=some (.slice c.a c.n c.c)
 k:w.cell? ⟨b,o+4,none⟩=some (.int .i64 c.b.k)
 i:w.cell? ⟨b,o+5,none⟩=some (.int .i64 c.b.i)
 s:w.cell? ⟨b,o+6,none⟩=some (.int .i64 c.b.s)
 t:w.cell? ⟨b,o+7,none⟩=some (.string c.b.t)
 l:w.cell? ⟨b,o+8,none⟩=some (.slice c.b.la c.b.ll c.b.lc)
 f:w.cell? ⟨b,o+9,none⟩=some (.slice c.b.fa c.b.fl c.b.fc)
end
section
open Go Go.RowKit
structure Kit (C D:Type) where
 n:Nat
 by':Nat
 cs:C→List Value
 len:∀c,(cs c).length=n
 pos:0<n
 Is:(Nat→Prop)→World→C→D→Prop
 same:∀{S S':Nat→Prop} {w w':World} {c:C} {d:D},(∀b,S b→S' b∧w'.heap[b]?=w.heap[b]?)→Is S w c d→Is S' w' c d
section
variable {C D:Type} (K:Kit C D)
def AtG (w:World) (b o:Nat) (c:C):Prop:=∀i,i<K.n→w.cell? ⟨b,o+i,none⟩=(K.cs c)[i]?
variable {K}
theorem AtG.same {w w':World} {b o:Nat} {c:C} (h:AtG K w b o c) (hb:w'.heap[b]?=w.heap[b]?):AtG K w' b o c :=
 fun i hi=>(World.cell?_of_block (w:=w) (a:=⟨b,o+i,none⟩) hb).trans (h i hi)
theorem AtG.ofRow {w:World} {base:Nat} {e:TypeId} {g:Nat} {n cap:Nat} {cs:List C} (h:w.ownsRow base e K.n (.slice (some ⟨g,0,none⟩) n cap) n (cs.flatMap K.cs)) (j:Nat) (hj:j<cs.length):AtG K w g (j * K.n) cs[j]:=by
 have hc:=h.cells (g:=g) rfl
 intro i hi
 have hl:=K.len cs[j]
 have h1:(K.cs cs[j])[i]?=some ((K.cs cs[j])[i]'(by omega)):=List.getElem?_eq_getElem (by omega)
 have:=hc (j * K.n+i) _ ((lH K.cs K.n K.len cs j i hj hi).trans h1)
 rw[show(⟨g,0,none⟩:Addr).add (j * K.n+i)=⟨g,j * K.n+i,none⟩ by unfold Addr.add;split<;>simp_all] at this
 rw[this,h1]
variable (K)
structure IsRow (S:Nat→Prop) (w:World) (a:Option Addr) (n c:Nat) (l:List D):Prop where
 len:n=l.length
 cap:n≤c
 big:n * K.by'≤140737488351232
 at':l=[]∨∃b o,a=some ⟨b,o,none⟩∧S b∧∀(j:Nat) (h:j<l.length),∃x:C,AtG K w b (o+j * K.n) x∧K.Is S w x l[j]
variable {K}
theorem IsRow.same {S S':Nat→Prop} {w w':World} {a:Option Addr} {n c:Nat} {l:List D} (hs:∀b,S b→S' b∧w'.heap[b]?=w.heap[b]?) (h:IsRow K S w a n c l):IsRow K S' w' a n c l :=
 ⟨h.len,h.cap,h.big,h.at'.imp id fun ⟨b,o,ha,hb,hx⟩=>⟨b,o,ha,(hs b hb).1,fun j hj=>by
   obtain⟨x,h1,h2⟩:=hx j hj
   exact⟨x,h1.same (hs b hb).2,K.same hs h2⟩⟩⟩
theorem IsRow.slot {S:Nat→Prop} {w:World} {a:Option Addr} {n c:Nat} {l:List D} (h:IsRow K S w a n c l) (hn:0<n):∃b o,a=some ⟨b,o,none⟩∧S b∧∀(j:Nat) (h:j<l.length),∃x:C,AtG K w b (o+j * K.n) x∧K.Is S w x l[j]:=by
 rcases h.at' with h0 | h1
 ·exact absurd h.len (by rw[h0];simp;omega)
 ·exact h1
variable (K)
def Built (T B:Nat) (w:World) (v:Value) (k:Nat) (l:List D):Prop :=
 ∃cs:List C,cs.length=k∧w.ownsRow B T K.n v k (cs.flatMap K.cs)∧∀j (h:j<cs.length) (h':j<l.length),K.Is (fun b=>B≤b∧b<w.heap.size∧some b≠v.ownBlock) w cs[j] l[j]
variable {K}
theorem Built.nil (T B:Nat) (w:World) (l:List D):Built K T B w (.slice none 0 0) 0 l:=⟨[],rfl,World.ownsRow_nil _ _ _ _,fun j h=>by simp at h⟩
theorem Built.ext {T B:Nat} {w w':World} {v:Value} {k:Nat} {l:List D} (h:Built K T B w v k l) (hb:Below w.heap.size w w'):Built K T B w' v k l:=by
 obtain⟨cs,h1,h2,h3⟩:=h
 exact⟨cs,h1,cW h2 hb,fun j hj hj'=>K.same (fun b hb'=>⟨⟨hb'.1,by have:=hb.size;omega,hb'.2.2⟩,hb.block b hb'.2.1⟩) (h3 j hj hj')⟩
theorem Built.set {T B:Nat} {w:World} {v:Value} {k:Nat} {l:List D} (h:Built K T B w v k l) (a:Addr) (u:Value) (ha:a.block<B):Built K T B (w.setCell a u) v k l:=by
 obtain⟨cs,h1,h2,h3⟩:=h
 exact⟨cs,h1,ownsRow_setCell_below h2 ha u,fun j hj hj'=>K.same (fun b hb'=>⟨⟨hb'.1,by simpa [World.setCell] using hb'.2.1,hb'.2.2⟩,Below.heap_setCell _ _ _ _ (by omega)⟩) (h3 j hj hj')⟩
theorem Built.own {T B:Nat} {w:World} {v:Value} {k:Nat} {l:List D} (h:Built K T B w v k l):∀r,v.ownBlock=some r→B≤r∧r<w.heap.size:=by
 obtain⟨_,_,h2,_⟩:=h
 exact h2.lt
theorem Built.shape {T B:Nat} {w:World} {v:Value} {k:Nat} {l:List D} (h:Built K T B w v k l):∃a cap,v=.slice a k cap∧k≤cap∧(a=none→k=0)∧∀r,v.ownBlock=some r→B≤r∧r<w.heap.size:=by
 obtain⟨cs,h1,h2,h3⟩:=h
 have hlt:=h2.lt
 rcases h2.2 with ⟨rfl,rfl⟩ | ⟨g,cap,cur,rfl,hb,hg,hn,_⟩
 ·exact⟨none,0,rfl,Nat.le_refl _,fun _=>rfl,hlt⟩
 ·exact⟨_,cap,rfl,hn,fun h=>by simp at h,hlt⟩
theorem Built.push {T B N:Nat} {w1 w2:World} {v:Value} {k:Nat} {l:List D} {cs:List C} {c:C} {o:Obj} {g cap:Nat} (hcs:cs.length=k)
 (hel:∀j (h:j<cs.length) (h':j<l.length),K.Is (fun b=>B≤b∧b<w1.heap.size∧some b≠v.ownBlock) w1 cs[j] l[j])
 (hk:k<l.length) (hc:K.Is (fun b=>N≤b∧b<w1.heap.size) w1 c l[k]) (hN:B≤N) (hv:∀r,v.ownBlock=some r→r<N)
 (hown:w2.ownsRow B T K.n (.slice (some ⟨g,0,none⟩) (k+1) cap) (k+1) (cs.flatMap K.cs++K.cs c)) (hgrow:(w1.alloc o).grownBy w2 v.ownBlock) (hat:v.ownBlock=some g∨g=w1.heap.size+1) :
 Built K T B w2 (.slice (some ⟨g,0,none⟩) (k+1) cap) (k+1) l:=by
 have hsz:w1.heap.size+1≤w2.heap.size:=by have:=hgrow.size;simpa using this
 have hst:∀b,b<w1.heap.size→some b≠v.ownBlock→w2.heap[b]?=w1.heap[b]?:=fun b hb hne =>
  (hgrow.block b (by simp;omega) hne).trans (Below.heap_alloc _ _ _ hb)
 have hg:∀b,b<w1.heap.size→some b≠v.ownBlock→some b≠(Value.slice (some ⟨g,0,none⟩) (k+1) cap).ownBlock:=fun b hb hne e=>by
  simp only[Value.ownBlock,Option.some.injEq] at e
  subst e
  rcases hat with h | h
  ·exact hne h.symm
  ·omega
 refine⟨cs++[c],by simp[hcs],by simpa using hown,fun j hj hj'=>?_⟩
 by_cases hjk:j<cs.length
 ·rw[List.getElem_append_left hjk]
  exact K.same (fun b hb=>⟨⟨hb.1,by omega,hg b hb.2.1 hb.2.2⟩,hst b hb.2.1 hb.2.2⟩) (hel j hjk hj')
 ·obtain rfl:j=k:=by simp at hj;omega
  rw[List.getElem_append_right (by omega)]
  simp only[hcs,Nat.sub_self,List.getElem_cons_zero]
  have hne:∀b,N≤b→some b≠v.ownBlock:=fun b hb e=>by have:=hv b e.symm;omega
  exact K.same (fun b hb=>⟨⟨by omega,by omega,hg b hb.2 (hne b hb.1)⟩,hst b hb.2 (hne b hb.1)⟩) hc
theorem Built.row {T B:Nat} {w:World} {a:Option Addr} {cap:Nat} {l:List D} (h:Built K T B w (.slice a l.length cap) l.length l) (hbig:l.length * K.by'≤140737488351232):IsRow K (fun b=>B≤b∧b<w.heap.size) w a l.length cap l:=by
 obtain⟨_,cap',hv,hcap,_⟩:=h.shape
 simp only[Value.slice.injEq] at hv
 obtain⟨rfl,_,rfl⟩:=hv
 obtain⟨cs,h1,h2,h3⟩:=h
 refine⟨rfl,hcap,hbig,?_⟩
 rcases h2.2 with ⟨h4,h5⟩ | ⟨g,cap',cur,hv,hb,hg,_⟩
 ·exact .inl (List.eq_nil_of_length_eq_zero h5)
 ·simp only[Value.slice.injEq] at hv
  obtain⟨rfl,_,rfl⟩:=hv
  refine .inr ⟨g,0,rfl,⟨hb,bT hg⟩,fun j hj=>⟨cs[j]'(by omega),?_,?_⟩⟩
  ·rw[Nat.zero_add];exact AtG.ofRow h2 j (by omega)
  ·exact K.same (fun b hb=>⟨⟨hb.1,hb.2.1⟩,rfl⟩) (h3 j (by omega) hj)
end
@[reducible] def msgK:Kit MC Msg:=⟨10,152,MC.cs,fun _=>rfl,by decide,IsMsg,fun hs h=>h.same hs⟩
@[reducible] def valK:Kit VC Val:=⟨6,88,VC.cs,fun _=>rfl,by decide,IsVal,fun hs h=>h.same hs⟩
section
variable {C D:Type} {K:Kit C D}
theorem Built.row' {T B:Nat} {w:World} {v:Value} {k:Nat} {l:List D} (h:Built K T B w v k l) (hk:k=l.length) (hbig:k * K.by'≤140737488351232):∃a cap,v=.slice a k cap∧IsRow K (fun b=>B≤b∧b<w.heap.size) w a k cap l:=by
 subst hk
 obtain⟨a,cap,rfl,_⟩:=h.shape
 exact⟨a,cap,rfl,h.row hbig⟩
end
theorem AtG.m {w:World} {b o:Nat} {c:MC} (h:AtG msgK w b o c):AtM w b o c :=
 ⟨h 0 (by decide),h 1 (by decide),h 2 (by decide),h 3 (by decide),h 4 (by decide),h 5 (by decide),h 6 (by decide),h 7 (by decide),h 8 (by decide),h 9 (by decide)⟩
def IdxPost (w:World) (p:Bool) (e:Ending) (w':World):Prop:=(∃k:Int,e=.returned (.int .i64 k)∧(0≤k ↔ p=true))∧Below w.heap.size w w'
end
end Go.Proofs.YteladbdfiannjaaGreatDoor
