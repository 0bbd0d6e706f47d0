/-
  Plain: slices of messages, read or built by appending. No program in sight.
-/
import Derived.Test.YteladbdfiannjaaGreatDoorSP1Mrg
namespace Go.Proofs.YteladbdfiannjaaGreatDoor
set_option linter.unusedVariables false
set_option linter.unusedSimpArgs false
section
open Go Go.RowKit
def MC.cs (c:MC):List Value:=[.int .i64 c.st.e,.slice c.st.a c.st.n c.st.c,.int .i64 c.m,.slice c.a c.n c.c,.int .i64 c.b.k,.int .i64 c.b.i,.int .i64 c.b.s,.string c.b.t,.slice c.b.la c.b.ll c.b.lc,.slice c.b.fa c.b.fl c.b.fc]
theorem MC.cs_len (c:MC):c.cs.length=10:=rfl
structure AtM (w:World) (b o:Nat) (c:MC):Prop where
 e:w.cell? ⟨b,o,none⟩=some (.int .i64 c.st.e)
 p:w.cell? ⟨b,o+1,none⟩=some (.slice c.st.a c.st.n c.st.c)
 m:w.cell? ⟨b,o+2,none⟩=some (.int .i64 c.m)
 es:w.cell? ⟨b,o+3,none⟩=some (.slice c.a c.n c.c)
 k:w.cell? ⟨b,o+4,none⟩=some (.int .i64 c.b.k)
 i:w.cell? ⟨b,o+5,none⟩=some (.int .i64 c.b.i)
 s:w.cell? ⟨b,o+6,none⟩=some (.int .i64 c.b.s)
 t:w.cell? ⟨b,o+7,none⟩=some (.string c.b.t)
 l:w.cell? ⟨b,o+8,none⟩=some (.slice c.b.la c.b.ll c.b.lc)
 f:w.cell? ⟨b,o+9,none⟩=some (.slice c.b.fa c.b.fl c.b.fc)
theorem AtM.same {w w':World} {b o:Nat} {c:MC} (h:AtM w b o c) (hb:w'.heap[b]?=w.heap[b]?):AtM w' b o c:=by
 have e:∀j,w'.cell? ⟨b,j,none⟩=w.cell? ⟨b,j,none⟩:=fun j=>World.cell?_of_block (w:=w) (a:=⟨b,j,none⟩) hb
 exact⟨(e _).trans h.e,(e _).trans h.p,(e _).trans h.m,(e _).trans h.es,(e _).trans h.k,(e _).trans h.i,(e _).trans h.s,(e _).trans h.t,(e _).trans h.l,(e _).trans h.f⟩
theorem AtM.ofRow {w:World} {base:Nat} {e:TypeId} {g:Nat} {n cap:Nat} {cs:List MC} (h:w.ownsRow base e 10 (.slice (some ⟨g,0,none⟩) n cap) n (cs.flatMap MC.cs)) (j:Nat) (hj:j<cs.length):AtM w g (j * 10) cs[j]:=by
 have hc:=h.cells (g:=g) rfl
 have key:∀i u,i<10→(cs[j].cs)[i]?=some u→w.cell? ⟨g,j * 10+i,none⟩=some u:=by
  intro i u hi hu
  have:=hc (j * 10+i) u (by rw[flat_get MC.cs 10 MC.cs_len cs j i hj hi];exact hu)
  rw[show(⟨g,0,none⟩:Addr).add (j * 10+i)=⟨g,j * 10+i,none⟩ by unfold Addr.add;split<;>simp_all] at this
  exact this
 exact⟨key 0 _ (by omega) rfl,key 1 _ (by omega) rfl,key 2 _ (by omega) rfl,key 3 _ (by omega) rfl,key 4 _ (by omega) rfl,key 5 _ (by omega) rfl,key 6 _ (by omega) rfl,key 7 _ (by omega) rfl,key 8 _ (by omega) rfl,key 9 _ (by omega) rfl⟩
structure IsMsgs (S:Nat→Prop) (w:World) (a:Option Addr) (n c:Nat) (l:List Msg):Prop where
 len:n=l.length
 cap:n≤c
 big:n * 152≤140737488351232
 at':l=[]∨∃b o,a=some ⟨b,o,none⟩∧S b∧∀(j:Nat) (h:j<l.length),∃x:MC,AtM w b (o+j * 10) x∧IsMsg S w x l[j]
theorem IsMsgs.same {S S':Nat→Prop} {w w':World} {a:Option Addr} {n c:Nat} {l:List Msg} (hs:∀b,S b→S' b∧w'.heap[b]?=w.heap[b]?) (h:IsMsgs S w a n c l):IsMsgs S' w' a n c l :=
 ⟨h.len,h.cap,h.big,h.at'.imp id fun ⟨b,o,ha,hb,hx⟩=>⟨b,o,ha,(hs b hb).1,fun j hj=>by
   obtain⟨x,h1,h2⟩:=hx j hj
   exact⟨x,h1.same (hs b hb).2,h2.same hs⟩⟩⟩
def isC (w:World) (b:Nat):Prop:=∃o:Obj,w.heap[b]?=some o∧o.isCells=true
theorem isC_cell {w:World} {b o:Nat} {v:Value} (h:w.cell? ⟨b,o,none⟩=some v):isC w b:=by
 unfold World.cell? at h
 split at h
 ·rename_i h1;exact⟨_,h1,rfl⟩
 ·cases h
theorem isC_same {w w':World} {b:Nat} (h:isC w b) (hb:w'.heap[b]?=w.heap[b]?):isC w' b:=by
 obtain⟨o,h1,h2⟩:=h
 exact⟨o,hb.trans h1,h2⟩
mutual
theorem IsVal.strong {S:Nat→Prop} {w:World}:∀{c:VC} {d:Val},IsVal S w c d→IsVal (fun b=>S b∧isC w b) w c d
 | c,.mk k i s t l ns fs,h=>by
   obtain⟨h1,h2,h3⟩:=h
   refine⟨h1,?_,?_⟩
   ·rcases h2 with h2 | ⟨b,o,ha,hb,hv⟩
    ·exact .inl h2
    ·cases l with
     | nil=>exact .inl rfl
     | cons d l=>exact .inr ⟨b,o,ha,⟨hb,by obtain⟨⟨x,hx,_⟩,_⟩:=hv;exact isC_cell hx.k⟩,IsVals.strong hv⟩
   ·rcases h3 with h3 | ⟨b,o,ha,hb,hv⟩
    ·exact .inl h3
    ·cases fs with
     | nil=>exact .inl rfl
     | cons d l=>exact .inr ⟨b,o,ha,⟨hb,by obtain⟨⟨⟨hn,_⟩,_⟩,_⟩:=hv;exact isC_cell hn⟩,IsFlds.strong hv⟩
theorem IsVals.strong {S:Nat→Prop} {w:World} {b:Nat}:∀{o:Nat} {l:List Val},IsVals S w b o l→IsVals (fun b=>S b∧isC w b) w b o l
 | _,[],_=>trivial
 | o,d :: l,⟨⟨c,ha,hv⟩,ht⟩=>⟨⟨c,ha,IsVal.strong hv⟩,IsVals.strong ht⟩
theorem IsFlds.strong {S:Nat→Prop} {w:World} {b:Nat}:∀{o:Nat} {ns:List ByteArray} {l:List Val},IsFlds S w b o ns l→IsFlds (fun b=>S b∧isC w b) w b o ns l
 | _,_,[],_=>trivial
 | o,ns,d :: l,⟨⟨hn,c,ha,hv⟩,ht⟩=>⟨⟨hn,c,ha,IsVal.strong hv⟩,IsFlds.strong ht⟩
end
theorem IsInts.strong {S:Nat→Prop} {w:World} {a:Option Addr} {n c:Nat} {xs:List Int} (h:IsInts S w a n c xs):IsInts (fun b=>S b∧isC w b) w a n c xs:=by
 refine⟨h.len,h.cap,h.big,h.rng,?_⟩
 rcases h.at' with h0 | ⟨b,o,ha,hb,hx⟩
 ·exact .inl h0
 ·cases xs with
  | nil=>exact .inl rfl
  | cons x xs=>exact .inr ⟨b,o,ha,⟨hb,isC_cell (hx 0 (by simp))⟩,hx⟩
theorem IsMsg.strong {S:Nat→Prop} {w:World} {c:MC} {d:Msg} (h:IsMsg S w c d):IsMsg (fun b=>S b∧isC w b) w c d:=⟨⟨h.st.e,h.st.re,h.st.ps.strong⟩,h.m,h.rm,h.es.strong,h.b.strong⟩
def BuiltM (T B:Nat) (w:World) (v:Value) (k:Nat) (l:List Msg):Prop :=
 ∃cs:List MC,cs.length=k∧w.ownsRow B T 10 v k (cs.flatMap MC.cs)∧∀j (h:j<cs.length) (h':j<l.length),IsMsg (fun b=>(B≤b∧b<w.heap.size∧some b≠v.ownBlock)∧isC w b) w cs[j] l[j]
theorem BuiltM.nil (T B:Nat) (w:World) (l:List Msg):BuiltM T B w (.slice none 0 0) 0 l:=⟨[],rfl,World.ownsRow_nil _ _ _ _,fun j h=>by simp at h⟩
theorem BuiltM.ext {T B:Nat} {w w':World} {v:Value} {k:Nat} {l:List Msg} (h:BuiltM T B w v k l) (hb:Below w.heap.size w w'):BuiltM T B w' v k l:=by
 obtain⟨cs,h1,h2,h3⟩:=h
 exact⟨cs,h1,ownExt h2 hb,fun j hj hj'=>(h3 j hj hj').same fun b ⟨hb1,hb2⟩=>⟨⟨⟨hb1.1,by have:=hb.size;omega,hb1.2.2⟩,isC_same hb2 (hb.block b hb1.2.1)⟩,hb.block b hb1.2.1⟩⟩
theorem BuiltM.set {T B:Nat} {w:World} {v:Value} {k:Nat} {l:List Msg} (h:BuiltM T B w v k l) (a:Addr) (u:Value) (ha:a.block<B):BuiltM T B (w.setCell a u) v k l:=by
 obtain⟨cs,h1,h2,h3⟩:=h
 exact⟨cs,h1,ownsRow_setCell_below h2 ha u,fun j hj hj'=>(h3 j hj hj').same fun b ⟨hb1,hb2⟩=>⟨⟨⟨hb1.1,by simpa [World.setCell] using hb1.2.1,hb1.2.2⟩,isC_same hb2 (Below.heap_setCell _ _ _ _ (by omega))⟩,Below.heap_setCell _ _ _ _ (by omega)⟩⟩
theorem BuiltM.grown {T B:Nat} {w w':World} {v:Value} {k:Nat} {l:List Msg} {row:Option Nat} (h:BuiltM T B w v k l) (hg:w.grownBy w' row) (hr:∀r,row=some r→∃o:Obj,w.heap[r]?=some o∧o.isCells=false):BuiltM T B w' v k l:=by
 obtain⟨cs,h1,h2,h3⟩:=h
 have hs:=hg.size
 have hne:∀b,isC w b→some b≠row:=fun b ⟨o,ho,hc⟩ e=>by
  obtain⟨o2,ho2,hc2⟩:=hr b e.symm
  rw[ho] at ho2;cases ho2;rw[hc] at hc2;cases hc2
 refine⟨cs,h1,h2.kept hg ?_,fun j hj hj'=>(h3 j hj hj').same fun b ⟨hb1,hb2⟩=>⟨⟨⟨hb1.1,by omega,hb1.2.2⟩,isC_same hb2 (hg.block b hb1.2.1 (hne b hb2))⟩,hg.block b hb1.2.1 (hne b hb2)⟩⟩
 rcases h2.2 with ⟨rfl,_⟩ | ⟨g,cap,cur,rfl,_,hgg,_⟩
 ·exact .inl rfl
 ·exact .inr (hne g ⟨_,hgg,rfl⟩)
theorem BuiltM.push {T B N:Nat} {w1 w2:World} {v:Value} {k:Nat} {l:List Msg} {cs:List MC} {c:MC} {o:Obj} {g cap:Nat} (hcs:cs.length=k)
 (hel:∀j (h:j<cs.length) (h':j<l.length),IsMsg (fun b=>(B≤b∧b<w1.heap.size∧some b≠v.ownBlock)∧isC w1 b) w1 cs[j] l[j])
 (hk:k<l.length) (hc0:IsMsg (fun b=>N≤b∧b<w1.heap.size) w1 c l[k]) (hN:B≤N) (hv:∀r,v.ownBlock=some r→r<N)
 (hown:w2.ownsRow B T 10 (.slice (some ⟨g,0,none⟩) (k+1) cap) (k+1) (cs.flatMap MC.cs++c.cs)) (hgrow:(w1.alloc o).grownBy w2 v.ownBlock) (hat:v.ownBlock=some g∨g=w1.heap.size+1) :
 BuiltM T B w2 (.slice (some ⟨g,0,none⟩) (k+1) cap) (k+1) l:=by
 have hc:=hc0.strong
 have hsz:w1.heap.size+1≤w2.heap.size:=by have:=hgrow.size;simpa using this
 have hst:∀b,b<w1.heap.size→some b≠v.ownBlock→w2.heap[b]?=w1.heap[b]?:=fun b hb hne =>
  (hgrow.block b (by simp;omega) hne).trans (Below.heap_alloc _ _ _ hb)
 have hg:∀b,b<w1.heap.size→some b≠v.ownBlock→some b≠(Value.slice (some ⟨g,0,none⟩) (k+1) cap).ownBlock:=fun b hb hne e=>by
  simp only[Value.ownBlock,Option.some.injEq] at e
  subst e
  rcases hat with h | h
  ·exact hne h.symm
  ·omega
 refine⟨cs++[c],by simp[hcs],by simpa using hown,fun j hj hj'=>?_⟩
 by_cases hjk:j<cs.length
 ·rw[List.getElem_append_left hjk]
  exact(hel j hjk hj').same fun b ⟨hb,hb2⟩=>⟨⟨⟨hb.1,by omega,hg b hb.2.1 hb.2.2⟩,isC_same hb2 (hst b hb.2.1 hb.2.2)⟩,hst b hb.2.1 hb.2.2⟩
 ·obtain rfl:j=k:=by simp at hj;omega
  rw[List.getElem_append_right (by omega)]
  simp only[hcs,Nat.sub_self,List.getElem_cons_zero]
  have hne:∀b,N≤b→some b≠v.ownBlock:=fun b hb e=>by have:=hv b e.symm;omega
  exact hc.same fun b ⟨hb,hb2⟩=>⟨⟨⟨by omega,by omega,hg b hb.2 (hne b hb.1)⟩,isC_same hb2 (hst b hb.2 (hne b hb.1))⟩,hst b hb.2 (hne b hb.1)⟩
theorem BuiltM.shape {T B:Nat} {w:World} {v:Value} {k:Nat} {l:List Msg} (h:BuiltM T B w v k l):∃a cap,v=.slice a k cap∧k≤cap∧(a=none→k=0)∧∀r,v.ownBlock=some r→B≤r∧r<w.heap.size:=by
 obtain⟨cs,h1,h2,h3⟩:=h
 have hlt:=h2.lt
 rcases h2.2 with ⟨rfl,rfl⟩ | ⟨g,cap,cur,rfl,hb,hg,hn,_⟩
 ·exact⟨none,0,rfl,Nat.le_refl _,fun _=>rfl,hlt⟩
 ·exact⟨_,cap,rfl,hn,fun h=>by simp at h,hlt⟩
theorem BuiltM.own {T B:Nat} {w:World} {v:Value} {k:Nat} {l:List Msg} (h:BuiltM T B w v k l):∀r,v.ownBlock=some r→B≤r∧r<w.heap.size:=by
 obtain⟨_,_,h2,_⟩:=h
 exact h2.lt
theorem BuiltM.msgs {T B:Nat} {w:World} {a:Option Addr} {cap:Nat} {l:List Msg} (h:BuiltM T B w (.slice a l.length cap) l.length l) (hbig:l.length * 152≤140737488351232):IsMsgs (fun b=>B≤b∧b<w.heap.size) w a l.length cap l:=by
 obtain⟨_,cap',hv,hcap,_⟩:=h.shape
 simp only[Value.slice.injEq] at hv
 obtain⟨rfl,_,rfl⟩:=hv
 obtain⟨cs,h1,h2,h3⟩:=h
 refine⟨rfl,hcap,hbig,?_⟩
 rcases h2.2 with ⟨h4,h5⟩ | ⟨g,cap',cur,hv,hb,hg,_⟩
 ·exact .inl (List.eq_nil_of_length_eq_zero h5)
 ·simp only[Value.slice.injEq] at hv
  obtain⟨rfl,_,rfl⟩:=hv
  refine .inr ⟨g,0,rfl,⟨hb,ltOf hg⟩,fun j hj=>⟨cs[j]'(by omega),?_,?_⟩⟩
  ·rw[Nat.zero_add];exact AtM.ofRow h2 j (by omega)
  ·exact(h3 j (by omega) hj).same fun b hb=>⟨⟨hb.1.1,hb.1.2.1⟩,rfl⟩
end
section
open Go Go.RowKit
structure Kit (C D:Type) where
 n:Nat
 by':Nat
 cs:C→List Value
 len:∀c,(cs c).length=n
 pos:0<n
 Is:(Nat→Prop)→World→C→D→Prop
 same:∀{S S':Nat→Prop} {w w':World} {c:C} {d:D},(∀b,S b→S' b∧w'.heap[b]?=w.heap[b]?)→Is S w c d→Is S' w' c d
section
variable {C D:Type} (K:Kit C D)
def AtG (w:World) (b o:Nat) (c:C):Prop:=∀i,i<K.n→w.cell? ⟨b,o+i,none⟩=(K.cs c)[i]?
variable {K}
theorem AtG.same {w w':World} {b o:Nat} {c:C} (h:AtG K w b o c) (hb:w'.heap[b]?=w.heap[b]?):AtG K w' b o c :=
 fun i hi=>(World.cell?_of_block (w:=w) (a:=⟨b,o+i,none⟩) hb).trans (h i hi)
theorem AtG.ofRow {w:World} {base:Nat} {e:TypeId} {g:Nat} {n cap:Nat} {cs:List C} (h:w.ownsRow base e K.n (.slice (some ⟨g,0,none⟩) n cap) n (cs.flatMap K.cs)) (j:Nat) (hj:j<cs.length):AtG K w g (j * K.n) cs[j]:=by
 have hc:=h.cells (g:=g) rfl
 intro i hi
 have hl:=K.len cs[j]
 have h1:(K.cs cs[j])[i]?=some ((K.cs cs[j])[i]'(by omega)):=List.getElem?_eq_getElem (by omega)
 have:=hc (j * K.n+i) _ ((flat_get K.cs K.n K.len cs j i hj hi).trans h1)
 rw[show(⟨g,0,none⟩:Addr).add (j * K.n+i)=⟨g,j * K.n+i,none⟩ by unfold Addr.add;split<;>simp_all] at this
 rw[this,h1]
variable (K)
structure IsRow (S:Nat→Prop) (w:World) (a:Option Addr) (n c:Nat) (l:List D):Prop where
 len:n=l.length
 cap:n≤c
 big:n * K.by'≤140737488351232
 at':l=[]∨∃b o,a=some ⟨b,o,none⟩∧S b∧∀(j:Nat) (h:j<l.length),∃x:C,AtG K w b (o+j * K.n) x∧K.Is S w x l[j]
variable {K}
theorem IsRow.same {S S':Nat→Prop} {w w':World} {a:Option Addr} {n c:Nat} {l:List D} (hs:∀b,S b→S' b∧w'.heap[b]?=w.heap[b]?) (h:IsRow K S w a n c l):IsRow K S' w' a n c l :=
 ⟨h.len,h.cap,h.big,h.at'.imp id fun ⟨b,o,ha,hb,hx⟩=>⟨b,o,ha,(hs b hb).1,fun j hj=>by
   obtain⟨x,h1,h2⟩:=hx j hj
   exact⟨x,h1.same (hs b hb).2,K.same hs h2⟩⟩⟩
theorem IsRow.slot {S:Nat→Prop} {w:World} {a:Option Addr} {n c:Nat} {l:List D} (h:IsRow K S w a n c l) (hn:0<n):∃b o,a=some ⟨b,o,none⟩∧S b∧∀(j:Nat) (h:j<l.length),∃x:C,AtG K w b (o+j * K.n) x∧K.Is S w x l[j]:=by
 rcases h.at' with h0 | h1
 ·exact absurd h.len (by rw[h0];simp;omega)
 ·exact h1
variable (K)
def Built (T B:Nat) (w:World) (v:Value) (k:Nat) (l:List D):Prop :=
 ∃cs:List C,cs.length=k∧w.ownsRow B T K.n v k (cs.flatMap K.cs)∧∀j (h:j<cs.length) (h':j<l.length),K.Is (fun b=>B≤b∧b<w.heap.size∧some b≠v.ownBlock) w cs[j] l[j]
variable {K}
theorem Built.nil (T B:Nat) (w:World) (l:List D):Built K T B w (.slice none 0 0) 0 l:=⟨[],rfl,World.ownsRow_nil _ _ _ _,fun j h=>by simp at h⟩
theorem Built.ext {T B:Nat} {w w':World} {v:Value} {k:Nat} {l:List D} (h:Built K T B w v k l) (hb:Below w.heap.size w w'):Built K T B w' v k l:=by
 obtain⟨cs,h1,h2,h3⟩:=h
 exact⟨cs,h1,ownExt h2 hb,fun j hj hj'=>K.same (fun b hb'=>⟨⟨hb'.1,by have:=hb.size;omega,hb'.2.2⟩,hb.block b hb'.2.1⟩) (h3 j hj hj')⟩
theorem Built.set {T B:Nat} {w:World} {v:Value} {k:Nat} {l:List D} (h:Built K T B w v k l) (a:Addr) (u:Value) (ha:a.block<B):Built K T B (w.setCell a u) v k l:=by
 obtain⟨cs,h1,h2,h3⟩:=h
 exact⟨cs,h1,ownsRow_setCell_below h2 ha u,fun j hj hj'=>K.same (fun b hb'=>⟨⟨hb'.1,by simpa [World.setCell] using hb'.2.1,hb'.2.2⟩,Below.heap_setCell _ _ _ _ (by omega)⟩) (h3 j hj hj')⟩
theorem Built.own {T B:Nat} {w:World} {v:Value} {k:Nat} {l:List D} (h:Built K T B w v k l):∀r,v.ownBlock=some r→B≤r∧r<w.heap.size:=by
 obtain⟨_,_,h2,_⟩:=h
 exact h2.lt
theorem Built.shape {T B:Nat} {w:World} {v:Value} {k:Nat} {l:List D} (h:Built K T B w v k l):∃a cap,v=.slice a k cap∧k≤cap∧(a=none→k=0)∧∀r,v.ownBlock=some r→B≤r∧r<w.heap.size:=by
 obtain⟨cs,h1,h2,h3⟩:=h
 have hlt:=h2.lt
 rcases h2.2 with ⟨rfl,rfl⟩ | ⟨g,cap,cur,rfl,hb,hg,hn,_⟩
 ·exact⟨none,0,rfl,Nat.le_refl _,fun _=>rfl,hlt⟩
 ·exact⟨_,cap,rfl,hn,fun h=>by simp at h,hlt⟩
theorem Built.push {T B N:Nat} {w1 w2:World} {v:Value} {k:Nat} {l:List D} {cs:List C} {c:C} {o:Obj} {g cap:Nat} (hcs:cs.length=k)
 (hel:∀j (h:j<cs.length) (h':j<l.length),K.Is (fun b=>B≤b∧b<w1.heap.size∧some b≠v.ownBlock) w1 cs[j] l[j])
 (hk:k<l.length) (hc:K.Is (fun b=>N≤b∧b<w1.heap.size) w1 c l[k]) (hN:B≤N) (hv:∀r,v.ownBlock=some r→r<N)
 (hown:w2.ownsRow B T K.n (.slice (some ⟨g,0,none⟩) (k+1) cap) (k+1) (cs.flatMap K.cs++K.cs c)) (hgrow:(w1.alloc o).grownBy w2 v.ownBlock) (hat:v.ownBlock=some g∨g=w1.heap.size+1) :
 Built K T B w2 (.slice (some ⟨g,0,none⟩) (k+1) cap) (k+1) l:=by
 have hsz:w1.heap.size+1≤w2.heap.size:=by have:=hgrow.size;simpa using this
 have hst:∀b,b<w1.heap.size→some b≠v.ownBlock→w2.heap[b]?=w1.heap[b]?:=fun b hb hne =>
  (hgrow.block b (by simp;omega) hne).trans (Below.heap_alloc _ _ _ hb)
 have hg:∀b,b<w1.heap.size→some b≠v.ownBlock→some b≠(Value.slice (some ⟨g,0,none⟩) (k+1) cap).ownBlock:=fun b hb hne e=>by
  simp only[Value.ownBlock,Option.some.injEq] at e
  subst e
  rcases hat with h | h
  ·exact hne h.symm
  ·omega
 refine⟨cs++[c],by simp[hcs],by simpa using hown,fun j hj hj'=>?_⟩
 by_cases hjk:j<cs.length
 ·rw[List.getElem_append_left hjk]
  exact K.same (fun b hb=>⟨⟨hb.1,by omega,hg b hb.2.1 hb.2.2⟩,hst b hb.2.1 hb.2.2⟩) (hel j hjk hj')
 ·obtain rfl:j=k:=by simp at hj;omega
  rw[List.getElem_append_right (by omega)]
  simp only[hcs,Nat.sub_self,List.getElem_cons_zero]
  have hne:∀b,N≤b→some b≠v.ownBlock:=fun b hb e=>by have:=hv b e.symm;omega
  exact K.same (fun b hb=>⟨⟨by omega,by omega,hg b hb.2 (hne b hb.1)⟩,hst b hb.2 (hne b hb.1)⟩) hc
theorem Built.row {T B:Nat} {w:World} {a:Option Addr} {cap:Nat} {l:List D} (h:Built K T B w (.slice a l.length cap) l.length l) (hbig:l.length * K.by'≤140737488351232):IsRow K (fun b=>B≤b∧b<w.heap.size) w a l.length cap l:=by
 obtain⟨_,cap',hv,hcap,_⟩:=h.shape
 simp only[Value.slice.injEq] at hv
 obtain⟨rfl,_,rfl⟩:=hv
 obtain⟨cs,h1,h2,h3⟩:=h
 refine⟨rfl,hcap,hbig,?_⟩
 rcases h2.2 with ⟨h4,h5⟩ | ⟨g,cap',cur,hv,hb,hg,_⟩
 ·exact .inl (List.eq_nil_of_length_eq_zero h5)
 ·simp only[Value.slice.injEq] at hv
  obtain⟨rfl,_,rfl⟩:=hv
  refine .inr ⟨g,0,rfl,⟨hb,ltOf hg⟩,fun j hj=>⟨cs[j]'(by omega),?_,?_⟩⟩
  ·rw[Nat.zero_add];exact AtG.ofRow h2 j (by omega)
  ·exact K.same (fun b hb=>⟨⟨hb.1,hb.2.1⟩,rfl⟩) (h3 j (by omega) hj)
end
/-! ### Stamps,messages,fates as such things -/
def SC.cs (c:SC):List Value:=[.int .i64 c.e,.slice c.a c.n c.c]
@[reducible] def stK:Kit SC St:=⟨2,32,SC.cs,fun _=>rfl,by decide,IsSt,fun hs h=>h.same hs⟩
@[reducible] def msgK:Kit MC Msg:=⟨10,152,MC.cs,fun _=>rfl,by decide,IsMsg,fun hs h=>h.same hs⟩
@[reducible] def valK:Kit VC Val:=⟨6,88,VC.cs,fun _=>rfl,by decide,IsVal,fun hs h=>h.same hs⟩
structure Fate where
 st:St
 k:Int
 node:ByteArray
 into:List St
 text:ByteArray
structure FtC where
 st:SC
 k:Int
 node:ByteArray
 a:Option Addr
 n:Nat
 c:Nat
 text:ByteArray
abbrev FtC.v (c:FtC):Value:=.agg #[.int .i64 c.st.e,.slice c.st.a c.st.n c.st.c,.int .i64 c.k,.string c.node,.slice c.a c.n c.c,.string c.text]
def FtC.cs (c:FtC):List Value:=[.int .i64 c.st.e,.slice c.st.a c.st.n c.st.c,.int .i64 c.k,.string c.node,.slice c.a c.n c.c,.string c.text]
structure IsFt (S:Nat→Prop) (w:World) (c:FtC) (d:Fate):Prop where
 st:IsSt S w c.st d.st
 k:c.k=d.k
 node:c.node=d.node
 into:IsRow stK S w c.a c.n c.c d.into
 text:c.text=d.text
theorem IsFt.same {S S':Nat→Prop} {w w':World} {c:FtC} {d:Fate} (hs:∀b,S b→S' b∧w'.heap[b]?=w.heap[b]?) (h:IsFt S w c d):IsFt S' w' c d:=⟨h.st.same hs,h.k,h.node,h.into.same hs,h.text⟩
@[reducible] def ftK:Kit FtC Fate:=⟨6,96,FtC.cs,fun _=>rfl,by decide,IsFt,fun hs h=>h.same hs⟩
section
variable {C D:Type} {K:Kit C D}
theorem Built.row' {T B:Nat} {w:World} {v:Value} {k:Nat} {l:List D} (h:Built K T B w v k l) (hk:k=l.length) (hbig:k * K.by'≤140737488351232):∃a cap,v=.slice a k cap∧IsRow K (fun b=>B≤b∧b<w.heap.size) w a k cap l:=by
 subst hk
 obtain⟨a,cap,rfl,_⟩:=h.shape
 exact⟨a,cap,rfl,h.row hbig⟩
end
def eqL {D:Type} (f:D→D→Bool):List D→List D→Bool
 | [],[]=>true
 | a :: r,b :: s=>f a b&&eqL f r s
 | [],_ :: _=>false
 | _ :: _,[]=>false
theorem eqL_len {D:Type} {f:D→D→Bool}:∀{a b:List D},a.length≠b.length→eqL f a b=false
 | [],[],h=>absurd rfl h
 | [],_ :: _,_=>rfl
 | _ :: _,[],_=>rfl
 | x :: a,y :: b,h=>by rw[eqL,eqL_len (a:=a) (b:=b) (by simpa using h)];simp
theorem eqL_of {D:Type} {f:D→D→Bool}:∀{a b:List D},a.length=b.length→(∀j (h1:j<a.length) (h2:j<b.length),f a[j] b[j]=true)→eqL f a b=true
 | [],[],_,_=>rfl
 | [],_ :: _,h,_=>by simp at h
 | _ :: _,[],h,_=>by simp at h
 | x :: a,y :: b,h,g=>by
   rw[eqL,eqL_of (a:=a) (b:=b) (by simpa using h) (fun j h1 h2=>g (j+1) (Nat.succ_lt_succ h1) (Nat.succ_lt_succ h2))]
   have:=g 0 (by simp) (by simp)
   simpa using this
theorem eqL_ne {D:Type} {f:D→D→Bool}:∀{a b:List D} (j:Nat) (h1:j<a.length) (h2:j<b.length),f a[j] b[j]=false→eqL f a b=false
 | [],[],_,h1,_,_=>by simp at h1
 | [],_ :: _,_,h1,_,_=>by simp at h1
 | _ :: _,[],_,_,h2,_=>by simp at h2
 | x :: a,y :: b,0,_,_,h=>by rw[eqL];simp at h;simp[h]
 | x :: a,y :: b,j+1,h1,h2,h=>by rw[eqL,eqL_ne (a:=a) (b:=b) j (Nat.lt_of_succ_lt_succ h1) (Nat.lt_of_succ_lt_succ h2) h];simp
theorem eqL_refl {D:Type} {f:D→D→Bool} (hf:∀d,f d d=true) (a:List D):eqL f a a=true:=eqL_of rfl fun _ _ _=>hf _
theorem AtG.two {w:World} {b o:Nat} {c:SC} (h:AtG stK w b o c):w.cell? ⟨b,o,none⟩=some (.int .i64 c.e)∧w.cell? ⟨b,o+1,none⟩=some (.slice c.a c.n c.c):=⟨h 0 (by decide),h 1 (by decide)⟩
theorem AtG.six {w:World} {b o:Nat} {c:FtC} (h:AtG ftK w b o c):w.cell? ⟨b,o,none⟩=some (.int .i64 c.st.e)∧w.cell? ⟨b,o+1,none⟩=some (.slice c.st.a c.st.n c.st.c)∧w.cell? ⟨b,o+2,none⟩=some (.int .i64 c.k)∧w.cell? ⟨b,o+3,none⟩=some (.string c.node)∧w.cell? ⟨b,o+4,none⟩=some (.slice c.a c.n c.c)∧w.cell? ⟨b,o+5,none⟩=some (.string c.text) :=
 ⟨h 0 (by decide),h 1 (by decide),h 2 (by decide),h 3 (by decide),h 4 (by decide),h 5 (by decide)⟩
theorem AtM.g {w:World} {b o:Nat} {c:MC} (h:AtM w b o c):AtG msgK w b o c:=fun i hi=>by
 match i,hi with
 | 0,_=>exact h.e
 | 1,_=>exact h.p
 | 2,_=>exact h.m
 | 3,_=>exact h.es
 | 4,_=>exact h.k
 | 5,_=>exact h.i
 | 6,_=>exact h.s
 | 7,_=>exact h.t
 | 8,_=>exact h.l
 | 9,_=>exact h.f
theorem AtG.m {w:World} {b o:Nat} {c:MC} (h:AtG msgK w b o c):AtM w b o c :=
 ⟨h 0 (by decide),h 1 (by decide),h 2 (by decide),h 3 (by decide),h 4 (by decide),h 5 (by decide),h 6 (by decide),h 7 (by decide),h 8 (by decide),h 9 (by decide)⟩
theorem IsRow.msgs {S:Nat→Prop} {w:World} {a:Option Addr} {n c:Nat} {l:List Msg} (h:IsRow msgK S w a n c l):IsMsgs S w a n c l :=
 ⟨h.len,h.cap,h.big,h.at'.imp id fun ⟨b,o,ha,hb,hx⟩=>⟨b,o,ha,hb,fun j hj=>by obtain⟨x,h1,h2⟩:=hx j hj;exact⟨x,h1.m,h2⟩⟩⟩
theorem IsMsgs.row {S:Nat→Prop} {w:World} {a:Option Addr} {n c:Nat} {l:List Msg} (h:IsMsgs S w a n c l):IsRow msgK S w a n c l :=
 ⟨h.len,h.cap,h.big,h.at'.imp id fun ⟨b,o,ha,hb,hx⟩=>⟨b,o,ha,hb,fun j hj=>by obtain⟨x,h1,h2⟩:=hx j hj;exact⟨x,h1.g,h2⟩⟩⟩
def IdxPost (w:World) (p:Bool) (e:Ending) (w':World):Prop:=(∃k:Int,e=.returned (.int .i64 k)∧(0≤k ↔ p=true))∧Below w.heap.size w w'
end
end Go.Proofs.YteladbdfiannjaaGreatDoor
