/-
  Plain: appending a row that can be read to a row of the call's own: what is left; appending nothing. No program in sight.
-/
import Derived.Test.YteladbdfiannjaaGreatDoorSP15Mrg
import Derived.Deep.Upon
import Derived.Laws.Append
import Derived.Deep.AppendSrc
import Derived.Lib.AppendZerosOnto
import Derived.Laws.CopyRow
namespace Go.Proofs.YteladbdfiannjaaGreatDoor
set_option linter.unusedVariables false
set_option linter.unusedSimpArgs false
section
open Go Go.RowKit
theorem pick_l {α:Type} {Q:Nat→α→Prop}:∀(n:Nat),(∀i,i<n→∃x,Q i x)→∃l:List α,l.length=n∧∀i (h:i<l.length),Q i l[i]
 | 0,_=>⟨[],rfl,fun i h=>absurd h (Nat.not_lt_zero i)⟩
 | n+1,h=>by
   obtain⟨l,hl,hq⟩:=pick_l n fun i hi=>h i (Nat.lt_succ_of_lt hi)
   obtain⟨x,hx⟩:=h n (Nat.lt_succ_self n)
   refine⟨l++[x],by simp[hl],fun i hi=>?_⟩
   by_cases h1:i<l.length
   ·rw[List.getElem_append_left h1];exact hq i h1
   ·have h2:i=n:=by simp at hi;omega
    subst h2
    rw[List.getElem_append_right (by omega)]
    simpa [hl] using hx
section
variable {C D:Type} {K:Kit C D}
theorem flat_cells {w:World} {b o:Nat} {cs:List C} (h:∀j (hj:j<cs.length),AtG K w b (o+j * K.n) cs[j]):∀t u,(cs.flatMap K.cs)[t]?=some u→w.cell? ((⟨b,o,none⟩:Addr).add t)=some u:=by
 intro t u hu
 have hn:=K.pos
 have hlen:(cs.flatMap K.cs).length=cs.length * K.n:=by
  clear h hu
  induction cs with
  | nil=>simp
  | cons c r ih=>rw[List.flatMap_cons,List.length_append,ih,K.len,List.length_cons,Nat.add_mul];omega
 have ht:t<cs.length * K.n:=by
  rw[←hlen]
  rcases Nat.lt_or_ge t (cs.flatMap K.cs).length with g | g
  ·exact g
  ·rw[List.getElem?_eq_none g] at hu;cases hu
 have hj:t / K.n<cs.length:=(Nat.div_lt_iff_lt_mul hn).2 ht
 have hi:t % K.n<K.n:=Nat.mod_lt _ hn
 have e:t / K.n * K.n+t % K.n=t:=by rw[Nat.mul_comm];exact Nat.div_add_mod t K.n
 have h1:=h _ hj _ hi
 have h2:=flat_get K.cs K.n K.len cs _ _ hj hi
 rw[e] at h2
 rw[←h2,hu,Nat.add_assoc,e] at h1
 rw[show((⟨b,o,none⟩:Addr).add t)=⟨b,o+t,none⟩ by unfold Addr.add;split<;>simp_all]
 exact h1
theorem IsRow.pick {S:Nat→Prop} {w:World} {a:Option Addr} {n c:Nat} {l:List D} (h:IsRow K S w a n c l) (hn:0<n) :
 ∃(b o:Nat) (cs:List C),a=some ⟨b,o,none⟩∧S b∧cs.length=n∧(∀j (h:j<cs.length) (h':j<l.length),K.Is S w cs[j] l[j])∧∀t u,(cs.flatMap K.cs)[t]?=some u→w.cell? ((⟨b,o,none⟩:Addr).add t)=some u:=by
 obtain⟨b,o,ha,hb,hx⟩:=h.slot hn
 have hl:=h.len
 obtain⟨cs,hcl,hq⟩:=pick_l (Q:=fun j x=>AtG K w b (o+j * K.n) x∧∀(h':j<l.length),K.Is S w x l[j]) n fun j hj=>by
  obtain⟨x,h1,h2⟩:=hx j (by omega)
  exact⟨x,h1,fun _=>h2⟩
 exact⟨b,o,cs,ha,hb,hcl,fun j h1 h2=>(hq j h1).2 h2,flat_cells fun j hj=>(hq j hj).1⟩
theorem Kept.pushN {T B:Nat} {w1 w2:World} {v:Value} {k m:Nat} {l l2:List D} {cs cs2:List C} {g cap:Nat} (hcs:cs.length=k) (hl:l.length=k)
 (hel:∀j (h:j<cs.length) (h':j<l.length),K.Is (· < B) w1 cs[j] l[j]) (hcs2:cs2.length=m) (hl2:l2.length=m) (hel2:∀j (h:j<cs2.length) (h':j<l2.length),K.Is (· < B) w1 cs2[j] l2[j])
 (hn:B≤w1.heap.size) (hv:∀r,v.ownBlock=some r→B≤r)
 (hown:w2.ownsRow B T K.n (.slice (some ⟨g,0,none⟩) (k+m) cap) (k+m) (cs.flatMap K.cs++cs2.flatMap K.cs)) (hgrow:w1.grownBy w2 v.ownBlock) :
 Kept K T B w2 (.slice (some ⟨g,0,none⟩) (k+m) cap) (k+m) (l++l2):=by
 have hst:∀b,b<B→w2.heap[b]?=w1.heap[b]?:=fun b hb=>hgrow.block b (by omega) (fun e=>by have:=hv b e.symm;omega)
 refine⟨cs++cs2,by simp[hcs,hcs2],by simp[hl,hl2],by rw[List.flatMap_append];exact hown,fun j hj hj'=>?_⟩
 by_cases hjk:j<cs.length
 ·rw[List.getElem_append_left hjk,List.getElem_append_left (by omega)]
  exact K.same (fun b q=>⟨q,hst b q⟩) (hel j hjk (by omega))
 ·rw[List.getElem_append_right (by omega),List.getElem_append_right (by omega)]
  have e1:j-cs.length=j-l.length:=by omega
  have h1:=hel2 (j-cs.length) (by simp at hj;omega) (by simp at hj';omega)
  have e2:l2[j-cs.length]'(by simp at hj';omega)=l2[j-l.length]'(by simp at hj';omega):=by congr 1
  rw[e2] at h1
  exact K.same (fun b q=>⟨q,hst b q⟩) h1
end
end
section
open Go Go.RowKit
section
variable {α β:Type}
end
/-! ### Rows stored in place -/
def setMA (cur:Array Value):Nat→List Value→Array Value
 | _,[]=>cur
 | o,v :: vs=>setMA (cur.setIfInBounds o v) (o+1) vs
theorem setMA_size:∀(vs:List Value) (cur:Array Value) (o:Nat),(setMA cur o vs).size=cur.size
 | [],_,_=>rfl
 | v :: vs,cur,o=>by rw[setMA,setMA_size vs,Array.size_setIfInBounds]
theorem setMA_in:∀(vs:List Value) (cur:Array Value) (o i:Nat),o+vs.length≤cur.size→i<vs.length→(setMA cur o vs)[o+i]?=vs[i]?
 | v :: vs,cur,o,0,h,_=>by
   have hout:∀(vs:List Value) (cur:Array Value) (o t:Nat),t<o→(setMA cur o vs)[t]?=cur[t]?:=by
    intro vs
    induction vs with
    | nil=>intros;rfl
    | cons v vs ih=>intro cur o t ht;rw[setMA,ih _ _ _ (by omega),Array.getElem?_setIfInBounds,if_neg (by omega)]
   rw[setMA,hout _ _ _ _ (by omega),Array.getElem?_setIfInBounds]
   simp at h ⊢
   omega
 | v :: vs,cur,o,i+1,h,hi=>by
   rw[setMA,show o+(i+1)=o+1+i by omega,setMA_in vs _ (o+1) i (by simp at h ⊢;omega) (by simpa using hi)]
   rfl
theorem setMA_out:∀(vs:List Value) (cur:Array Value) (o t:Nat),(t<o∨o+vs.length≤t)→(setMA cur o vs)[t]?=cur[t]?
 | [],_,_,_,_=>rfl
 | v :: vs,cur,o,t,h=>by
   rw[setMA,setMA_out vs _ _ _ (by simp at h;omega),Array.getElem?_setIfInBounds,if_neg (by simp at h;omega)]
def stW (w:World) (g:Nat):Nat→List Value→World
 | _,[]=>w
 | o,v :: vs=>stW (w.setCell ⟨g,o,none⟩ v) g (o+1) vs
theorem stW_heap:∀(vs:List Value) {w:World} {g o:Nat} {cur:Array Value} {T:TypeId} {fr:Nat × Nat},w.heap[g]?=some (.cells cur T fr)→(stW w g o vs).heap[g]?=some (.cells (setMA cur o vs) T fr)
 | [],_,_,_,_,_,_,h=>h
 | v :: vs,_,_,_,_,_,_,h=>stW_heap vs (heapSet v h)
structure Off (g:Nat) (w w':World):Prop where
 os:w'.os=w.os
 tape:w'.tape=w.tape
 output:w'.output=w.output
 size:w.heap.size≤w'.heap.size
 block:∀k,k<w.heap.size→k≠g→w'.heap[k]?=w.heap[k]?
theorem Off.refl (g:Nat) (w:World):Off g w w:=⟨rfl,rfl,rfl,Nat.le_refl _,fun _ _ _=>rfl⟩
theorem Off.trans {g:Nat} {a b c:World} (h:Off g a b) (k:Off g b c):Off g a c :=
 ⟨k.os.trans h.os,k.tape.trans h.tape,k.output.trans h.output,Nat.le_trans h.size k.size,fun i hi hg=>(k.block i (Nat.lt_of_lt_of_le hi h.size) hg).trans (h.block i hi hg)⟩
theorem Off.of {g:Nat} {w w':World} (h:Below w.heap.size w w'):Off g w w':=⟨h.os,h.tape,h.output,h.size,fun k hk _=>h.block k hk⟩
theorem Off.below {g B:Nat} {w w':World} (h:Off g w w') (hg:B≤g) (hB:B≤w.heap.size):Below B w w':=⟨h.os,h.tape,h.output,h.size,fun k hk=>h.block k (by omega) (by omega)⟩
theorem Off.set (g o:Nat) (v:Value) (w:World):Off g w (w.setCell ⟨g,o,none⟩ v):=by
 have h:Below g w (w.setCell ⟨g,o,none⟩ v):=(Below.refl _ _).setCell (p:=⟨g,o,none⟩) (Nat.le_refl _) v
 exact⟨h.os,h.tape,h.output,h.size,fun k _ hk=>Below.heap_setCell _ _ _ _ hk⟩
theorem Off.st (g:Nat):∀(vs:List Value) (o:Nat) (w:World),Off g w (stW w g o vs)
 | [],_,w=>Off.refl g w
 | v :: vs,o,w=>(Off.set g o v w).trans (Off.st g vs (o+1) _)
section
variable {C D:Type} (K:Kit C D)
def InRow (T:Nat) (w:World) (g cap:Nat) (cs:List C):Prop :=
 ∃cur,w.heap[g]?=some (.cells cur T (0,0))∧cur.size=cap * K.n∧cs.length≤cap∧∀j (h:j<cs.length) i,i<K.n→cur[j * K.n+i]?=(K.cs cs[j])[i]?
variable {K}
theorem InRow.at' {T:Nat} {w:World} {g cap:Nat} {cs:List C} (h:InRow K T w g cap cs) (j:Nat) (hj:j<cs.length):AtG K w g (j * K.n) cs[j]:=by
 obtain⟨cur,hg,_,_,hc⟩:=h
 intro i hi
 rw[cellOf hg,hc j hj i hi]
theorem InRow.free {T:Nat} {w:World} {g cap:Nat} {cs:List C} (h:InRow K T w g cap cs) (o:Nat):w.frozen? ⟨g,o,none⟩=false:=by
 obtain⟨cur,hg,_⟩:=h
 exact freeOf hg o
theorem InRow.ext {T:Nat} {w w':World} {g cap:Nat} {cs:List C} (h:InRow K T w g cap cs) (hb:Below w.heap.size w w'):InRow K T w' g cap cs:=by
 obtain⟨cur,hg,h2⟩:=h
 exact⟨cur,heapExt hb hg,h2⟩
theorem InRow.put {T:Nat} {w:World} {g cap:Nat} {cs:List C} (h:InRow K T w g cap cs) (j:Nat) (hj:j<cs.length) (c:C):InRow K T (stW w g (j * K.n) (K.cs c)) g cap (cs.set j c):=by
 obtain⟨cur,hg,hsz,hcap,hc⟩:=h
 have hn:=K.pos
 have hl:=K.len c
 have hjn:j * K.n+K.n≤cap * K.n:=by rw[←Nat.succ_mul];exact Nat.mul_le_mul_right _ (by omega)
 refine⟨_,stW_heap _ hg,by rw[setMA_size];exact hsz,by simpa using hcap,fun j' hj' i hi=>?_⟩
 have hj2:j'<cs.length:=by simpa using hj'
 by_cases e:j'=j
 ·subst e
  rw[setMA_in _ _ _ _ (by omega) (by omega)]
  simp
 ·have hne:(cs.set j c)[j']=cs[j']:=by rw[List.getElem_set_ne (fun h=>e h.symm)]
  rw[hne,setMA_out,hc j' hj2 i hi]
  rcases Nat.lt_or_ge j' j with g1 | g1
  ·left
   have:(j'+1) * K.n≤j * K.n:=Nat.mul_le_mul_right _ g1
   rw[Nat.succ_mul] at this
   omega
  ·right
   have:(j+1) * K.n≤j' * K.n:=Nat.mul_le_mul_right _ (by omega)
   rw[Nat.succ_mul] at this
   omega
end
end
section
open Go Go.RowKit
section
variable {C D:Type} (K:Kit C D)
structure Cl (w:World) (a:Option Addr) (n:Nat) (cs:List C):Prop where
 len:cs.length=n
 at':n=0∨∃ad,a=some ad∧∀t u,(cs.flatMap K.cs)[t]?=some u→w.cell? (ad.add t)=some u
variable {K}
theorem flat_len (cs:List C):(cs.flatMap K.cs).length=cs.length * K.n:=by
 induction cs with
 | nil=>simp
 | cons c r ih=>rw[List.flatMap_cons,List.length_append,ih,K.len,List.length_cons,Nat.add_mul];omega
theorem Cl.ext {w w':World} {a:Option Addr} {n:Nat} {cs:List C} (h:Cl K w a n cs) (hb:Below w.heap.size w w'):Cl K w' a n cs :=
 ⟨h.len,h.at'.imp id fun ⟨ad,ha,hc⟩=>⟨ad,ha,fun t u hu=>by
   have h1:=hc t u hu
   have hlt:=World.block_lt_of_cell? w _ h1
   rw[World.cell?_of_block (w:=w) (hb.block _ hlt)]
   exact h1⟩⟩
theorem Cl.none (w:World) (a:Option Addr):Cl K w a 0 []:=⟨rfl,.inl rfl⟩
theorem InRow.cl {T:Nat} {w:World} {g cap:Nat} {cs:List C} (h:InRow K T w g cap cs) (p m:Nat) (hm:p+m≤cs.length):Cl K w (some ⟨g,p * K.n,none⟩) m ((cs.drop p).take m):=by
 have hl:((cs.drop p).take m).length=m:=by rw[List.length_take,List.length_drop];omega
 refine⟨hl,.inr ⟨_,rfl,flat_cells (K:=K) fun j hj=>?_⟩⟩
 have h1:=h.at' (p+j) (by omega)
 rw[Nat.add_mul] at h1
 have e:((cs.drop p).take m)[j]=cs[p+j]:=by rw[List.getElem_take,List.getElem_drop]
 rw[e]
 exact h1
theorem Cl.first {P:Program} {w:World} {a:Option Addr} {n c:Nat} {cs:List C} (h:Cl K w a n cs):(Builtin.firstCells K.n n (.slice a n c)).run P w.drew=.ok (cs.flatMap K.cs).toArray w.drew:=by
 have hl:(cs.flatMap K.cs).length=n * K.n:=by rw[flat_len,h.len]
 cases a with
 | none =>
   have hn:n=0:=by
    rcases h.at' with h0 | ⟨ad,ha,_⟩
    ·exact h0
    ·cases ha
   have hcs:cs=[]:=List.eq_nil_of_length_eq_zero (by rw[h.len,hn])
   subst hcs
   exact run_firstCells_none w.drew K.n n n c
 | some ad =>
   refine run_firstCells_some w.drew K.n n ad n c _ hl fun t u hu=>?_
   rcases h.at' with h0 | ⟨ad',ha,hc⟩
   ·have hcs:cs=[]:=List.eq_nil_of_length_eq_zero (by rw[h.len,h0])
    rw[hcs] at hu;simp at hu
   ·cases ha
    simpa using hc t u hu
end
end
section
open Go Go.RowKit
theorem src00 {P:Program} {w:World} {size:Nat} {t e:TypeId} (ht:P.underlying t=some (.slice e)) (ax:Option Addr) (c:Nat):Src P size t (.slice ax 0 c) 0 [] w:=by
 cases ax with
 | none=>exact Src.ofNil w ht c
 | some ad=>exact Src.ofSlice w ht ad 0 c [] (by simp) (fun j u hu=>by simp at hu) (fun u hu=>by cases hu)
section
variable {C D:Type} {K:Kit C D}
theorem Kept.below {T B:Nat} {w w':World} {v:Value} {k:Nat} {l:List D} (h:Kept K T B w v k l) (hg:w.grownBy w' v.ownBlock) (hB:B≤w.heap.size):Below B w w' :=
 ⟨hg.os,hg.tape,hg.output,hg.size,fun b hb=>hg.block b (by omega) (fun e=>by have:=(h.own b e.symm).1;omega)⟩
theorem run_append_kept {P:Program} {w:World} {T B:Nat} {t ty:TypeId} {i:TypeInfo} {z:Value} (ht:P.underlying t=some (.slice T)) (hi:P.info? T=some i) (hz:i.zero=some z) (hsize:i.size=K.n) (hby:i.bytes≤1000) (hzs:z.cells.size=K.n) (h1:∀x,∀u∈K.cs x,u.oneCell'=true)
 {v:Value} {k:Nat} {l:List D} (hk:Kept K T B w v k l) {a:Option Addr} {m:Nat} (c:Nat) {cs2:List C} {l2:List D} (hcl:Cl K w a m cs2) (hl2:l2.length=m) (hel:∀j (h:j<cs2.length) (h':j<l2.length),K.Is (· < B) w cs2[j] l2[j]) (hB:B≤w.heap.size) (hn:k+m≤100000) :
 ∃(a':Option Addr) (cap':Nat) (w':World),(Builtin.append_ #[t,t] ty #[v,.slice a m c]).run P w=.ok (.slice a' (k+m) cap') w'∧Kept K T B w' (.slice a' (k+m) cap') (k+m) (l++l2)∧w.grownBy w' v.ownBlock∧∀r,(Value.slice a' (k+m) cap').ownBlock=some r→v.ownBlock=some r∨r=w.heap.size:=by
 have hpos:=K.pos
 by_cases hm:m=0
 ·subst hm
  obtain⟨a0,cap,rfl,hcap⟩:=hk.shape
  have hl0:l2=[]:=List.eq_nil_of_length_eq_zero hl2
  subst hl0
  refine⟨a0,cap,w,run_append_nothing (P:=P) w t t ty T i ht hi a0 k cap hcap _ (src00 ht a c),?_,⟨rfl,rfl,rfl,Nat.le_refl _,fun _ _ _=>rfl⟩,fun r hr=>.inl hr⟩
  rw[List.append_nil,Nat.add_zero]
  exact hk
 ·obtain⟨ad,rfl,hc⟩:=hcl.at'.resolve_left hm
  have hf:(cs2.flatMap K.cs).length=m * K.n:=by rw[flat_len,hcl.len]
  have ho:∀u∈cs2.flatMap K.cs,u.oneCell'=true:=fun u hu=>by
   obtain⟨x,_,hx⟩:=List.mem_flatMap.1 hu
   exact h1 x u hx
  obtain⟨cs,q1,q2,q3,q4⟩:=id hk
  have hb2:(k+m) * i.bytes≤140737488355328:=by
   have:(k+m) * i.bytes≤100000 * 1000:=Nat.mul_le_mul hn hby
   omega
  obtain⟨g,cap,w',hr,hown,hgr,hat,hlt⟩:=run_append_lies (P:=P) w t ty B T i z K.n i.bytes ht hi hz hsize rfl hzs hpos v k _ q3 ad m c _ hf hc ho (by omega) (by unfold maxLen;omega) hb2 hB _ rfl
  have hv:∀r,v.ownBlock=some r→B≤r:=fun r e=>(hk.own r e).1
  exact⟨some ⟨g,0,none⟩,cap,w',hr,Kept.pushN q1 q2 q4 hcl.len hl2 hel hB hv hown hgr,hgr,fun r e=>by
   obtain rfl:g=r:=by injection e
   exact hat⟩
theorem IsRow.cl {S:Nat→Prop} {w:World} {a:Option Addr} {n c:Nat} {l:List D} (h:IsRow K S w a n c l):∃cs:List C,cs.length=n∧Cl K w a n cs∧∀j (h1:j<cs.length) (h2:j<l.length),K.Is S w cs[j] l[j]:=by
 by_cases hn:n=0
 ·subst hn
  exact⟨[],rfl,⟨rfl,.inl rfl⟩,fun j h1=>absurd h1 (by simp)⟩
 ·obtain⟨b,o,cs,ha,hb,hl,hel,hc⟩:=h.pick (by omega)
  exact⟨cs,hl,⟨hl,.inr ⟨_,ha,hc⟩⟩,hel⟩
theorem Kept.made {T B:Nat} {w:World} (cur:Array Value) (cap:Nat) (hb:B≤w.heap.size) (hm:cap≤maxLen) (hs:cur.size=cap * K.n):Kept K T B (w.alloc (.cells cur T)) (.slice (some ⟨w.heap.size,0,none⟩) 0 cap) 0 [] :=
 ⟨[],rfl,rfl,World.ownsRow_made w cur cap hb hm hs,fun j h=>absurd h (by simp)⟩
end
end
section
open Go Go.RowKit
theorem Off.setRow (g:Nat) (cs:Array Value) (w:World):Off g w (w.setRow g cs) :=
 ⟨rfl,rfl,rfl,by simp[World.setRow],fun k _ hk=>setRow_other w g k cs hk⟩
theorem Off.cl {C D:Type} {K:Kit C D} {g:Nat} {w w':World} (h:Off g w w') {b o n:Nat} {cs:List C} (hb:b≠g) (hc:Cl K w (some ⟨b,o,none⟩) n cs):Cl K w' (some ⟨b,o,none⟩) n cs:=by
 refine⟨hc.len,hc.at'.imp id fun ⟨ad,ha,hx⟩=>⟨ad,ha,fun t u hu=>?_⟩⟩
 have h1:=hx t u hu
 have hlt:=World.block_lt_of_cell? w _ h1
 cases ha
 have e:((⟨b,o,none⟩:Addr).add t)=⟨b,o+t,none⟩:=by unfold Addr.add;split<;>simp_all
 rw[e] at h1 hlt ⊢
 rw[World.cell?_of_block (w:=w) (h.block b hlt hb)]
 exact h1
section
variable {C D:Type} {K:Kit C D}
theorem InRow.row {T:Nat} {w:World} {g cap:Nat} {cs:List C} (h:InRow K T w g cap cs) (S:Nat→Prop) (hg:S g) (n:Nat) (l:List D) (hl:l.length=n) (hn:n≤cs.length) (hb:n * K.by'≤140737488351232) (hx:∀j (h1:j<cs.length) (h2:j<l.length),K.Is S w cs[j] l[j]):IsRow K S w (some ⟨g,0,none⟩) n cap l:=by
 obtain⟨cur,hc,_,hcap,_⟩:=id h
 refine⟨hl.symm,by omega,hb,?_⟩
 refine .inr ⟨g,0,rfl,hg,fun j hj=>⟨cs[j]'(by omega),?_,hx j (by omega) hj⟩⟩
 rw[Nat.zero_add]
 exact h.at' j (by omega)
end
theorem wpList_append_run' {P:Program} {w:World} {ops:Array Oper} {rest:List Oper} {o:Oper} {a:Act} {Q:Exit→Act→World→Prop} (hgd:o.guard=none) (s x:Operand) (t t2:TypeId)
 (ho:o.op=.call { callee:=.builtin .append,args:=#[s,x],argTypes:=#[t,t2] }) (vs vx v':Value) (w':World) (hs:a.eval s=vs) (hx:a.eval x=vx)
 (hrun:(Builtin.append_ #[t,t2] o.type #[vs,vx]).run P w=.ok v' w') (h:wpList P ops Q rest (a.put o.dst v') w'):wpList P ops Q (o :: rest) a w:=by
 refine wpList_plain hgd fun K hK=>?_
 unfold Oper.wp execOp
 simp only[ho,resolve,invoke,builtin,Sem.run_bind,Sem.run_pure,Result.andThen_ok,List.map_toArray,List.map_cons,List.map_nil,hs,hx,hrun]
 exact hK _ _ h
end
end Go.Proofs.YteladbdfiannjaaGreatDoor
