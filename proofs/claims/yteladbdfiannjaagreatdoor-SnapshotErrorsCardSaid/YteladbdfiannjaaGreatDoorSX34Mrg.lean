/- A part. -/
import Derived.Test.YteladbdfiannjaaGreatDoorSX12Mrg
import Derived.Deep.Upon
import Derived.Laws.Append
import Derived.Deep.AppendSrc
import Derived.Lib.AppendZerosOnto
import Derived.Laws.CopyRow
namespace Go.Proofs.YteladbdfiannjaaGreatDoor
set_option linter.unusedVariables false
set_option linter.unusedSimpArgs false
section
open Go Go.RowKit
section
variable {C D:Type} {K:Kit C D}
theorem Kept.pushN {T B:Nat} {w1 w2:World} {v:Value} {k m:Nat} {l l2:List D} {cs cs2:List C} {g cap:Nat} (hcs:cs.length=k) (hl:l.length=k)
 (hel:∀j (h:j<cs.length) (h':j<l.length),K.Is (· < B) w1 cs[j] l[j]) (hcs2:cs2.length=m) (hl2:l2.length=m) (hel2:∀j (h:j<cs2.length) (h':j<l2.length),K.Is (· < B) w1 cs2[j] l2[j])
 (hn:B≤w1.heap.size) (hv:∀r,v.ownBlock=some r→B≤r)
 (hown:w2.ownsRow B T K.n (.slice (some ⟨g,0,none⟩) (k+m) cap) (k+m) (cs.flatMap K.cs++cs2.flatMap K.cs)) (hgrow:w1.grownBy w2 v.ownBlock) :
 Kept K T B w2 (.slice (some ⟨g,0,none⟩) (k+m) cap) (k+m) (l++l2):=by
 have hst:∀b,b<B→w2.heap[b]?=w1.heap[b]?:=fun b hb=>hgrow.block b (by omega) (fun e=>by have:=hv b e.symm;omega)
 refine⟨cs++cs2,by simp[hcs,hcs2],by simp[hl,hl2],by rw[List.flatMap_append];exact hown,fun j hj hj'=>?_⟩
 by_cases hjk:j<cs.length
 ·rw[List.getElem_append_left hjk,List.getElem_append_left (by omega)]
  exact K.same (fun b q=>⟨q,hst b q⟩) (hel j hjk (by omega))
 ·rw[List.getElem_append_right (by omega),List.getElem_append_right (by omega)]
  have e1:j-cs.length=j-l.length:=by omega
  have h1:=hel2 (j-cs.length) (by simp at hj;omega) (by simp at hj';omega)
  have e2:l2[j-cs.length]'(by simp at hj';omega)=l2[j-l.length]'(by simp at hj';omega):=by congr 1
  rw[e2] at h1
  exact K.same (fun b q=>⟨q,hst b q⟩) h1
end
end
section
open Go Go.RowKit
section
variable {α β:Type}
end
section
variable {C D:Type} (K:Kit C D)
variable {K}
end
end
section
open Go Go.RowKit
section
variable {C D:Type} (K:Kit C D)
structure Cl (w:World) (a:Option Addr) (n:Nat) (cs:List C):Prop where
 len:cs.length=n
 at':n=0∨∃ad,a=some ad∧∀t u,(cs.flatMap K.cs)[t]?=some u→w.cell? (ad.add t)=some u
variable {K}
theorem aD3 (cs:List C):(cs.flatMap K.cs).length=cs.length * K.n:=by
 induction cs with
 | nil=>simp
 | cons c r ih=>rw[List.flatMap_cons,List.length_append,ih,K.len,List.length_cons,Nat.add_mul];omega
theorem Cl.ext {w w':World} {a:Option Addr} {n:Nat} {cs:List C} (h:Cl K w a n cs) (hb:Below w.heap.size w w'):Cl K w' a n cs :=
 ⟨h.len,h.at'.imp id fun ⟨ad,ha,hc⟩=>⟨ad,ha,fun t u hu=>by
   have h1:=hc t u hu
   have hlt:=World.block_lt_of_cell? w _ h1
   rw[World.cell?_of_block (w:=w) (hb.block _ hlt)]
   exact h1⟩⟩
end
end
section
open Go Go.RowKit
theorem src00 {P:Program} {w:World} {size:Nat} {t e:TypeId} (ht:P.underlying t=some (.slice e)) (ax:Option Addr) (c:Nat):Src P size t (.slice ax 0 c) 0 [] w:=by
 cases ax with
 | none=>exact Src.ofNil w ht c
 | some ad=>exact Src.ofSlice w ht ad 0 c [] (by simp) (fun j u hu=>by simp at hu) (fun u hu=>by cases hu)
section
variable {C D:Type} {K:Kit C D}
theorem iT {P:Program} {w:World} {T B:Nat} {t ty:TypeId} {i:TypeInfo} {z:Value} (ht:P.underlying t=some (.slice T)) (hi:P.info? T=some i) (hz:i.zero=some z) (hsize:i.size=K.n) (hby:i.bytes≤1000) (hzs:z.cells.size=K.n) (h1:∀x,∀u∈K.cs x,u.oneCell'=true)
 {v:Value} {k:Nat} {l:List D} (hk:Kept K T B w v k l) {a:Option Addr} {m:Nat} (c:Nat) {cs2:List C} {l2:List D} (hcl:Cl K w a m cs2) (hl2:l2.length=m) (hel:∀j (h:j<cs2.length) (h':j<l2.length),K.Is (· < B) w cs2[j] l2[j]) (hB:B≤w.heap.size) (hn:k+m≤100000) :
 ∃(a':Option Addr) (cap':Nat) (w':World),(Builtin.append_ #[t,t] ty #[v,.slice a m c]).run P w=.ok (.slice a' (k+m) cap') w'∧Kept K T B w' (.slice a' (k+m) cap') (k+m) (l++l2)∧w.grownBy w' v.ownBlock∧∀r,(Value.slice a' (k+m) cap').ownBlock=some r→v.ownBlock=some r∨r=w.heap.size:=by
 have hpos:=K.pos
 by_cases hm:m=0
 ·subst hm
  obtain⟨a0,cap,rfl,hcap⟩:=hk.shape
  have hl0:l2=[]:=List.eq_nil_of_length_eq_zero hl2
  subst hl0
  refine⟨a0,cap,w,run_append_nothing (P:=P) w t t ty T i ht hi a0 k cap hcap _ (src00 ht a c),?_,⟨rfl,rfl,rfl,Nat.le_refl _,fun _ _ _=>rfl⟩,fun r hr=>.inl hr⟩
  rw[List.append_nil,Nat.add_zero]
  exact hk
 ·obtain⟨ad,rfl,hc⟩:=hcl.at'.resolve_left hm
  have hf:(cs2.flatMap K.cs).length=m * K.n:=by rw[aD3,hcl.len]
  have ho:∀u∈cs2.flatMap K.cs,u.oneCell'=true:=fun u hu=>by
   obtain⟨x,_,hx⟩:=List.mem_flatMap.1 hu
   exact h1 x u hx
  obtain⟨cs,q1,q2,q3,q4⟩:=id hk
  have hb2:(k+m) * i.bytes≤140737488355328:=by
   have:(k+m) * i.bytes≤100000 * 1000:=Nat.mul_le_mul hn hby
   omega
  obtain⟨g,cap,w',hr,hown,hgr,hat,hlt⟩:=run_append_lies (P:=P) w t ty B T i z K.n i.bytes ht hi hz hsize rfl hzs hpos v k _ q3 ad m c _ hf hc ho (by omega) (by unfold maxLen;omega) hb2 hB _ rfl
  have hv:∀r,v.ownBlock=some r→B≤r:=fun r e=>(hk.own r e).1
  exact⟨some ⟨g,0,none⟩,cap,w',hr,Kept.pushN q1 q2 q4 hcl.len hl2 hel hB hv hown hgr,hgr,fun r e=>by
   obtain rfl:g=r:=by injection e
   exact hat⟩
theorem Kept.made {T B:Nat} {w:World} (cur:Array Value) (cap:Nat) (hb:B≤w.heap.size) (hm:cap≤maxLen) (hs:cur.size=cap * K.n):Kept K T B (w.alloc (.cells cur T)) (.slice (some ⟨w.heap.size,0,none⟩) 0 cap) 0 [] :=
 ⟨[],rfl,rfl,World.ownsRow_made w cur cap hb hm hs,fun j h=>absurd h (by simp)⟩
end
end
section
open Go Go.RowKit
section
variable {C D:Type} {K:Kit C D}
end
theorem wpList_append_run' {P:Program} {w:World} {ops:Array Oper} {rest:List Oper} {o:Oper} {a:Act} {Q:Exit→Act→World→Prop} (hgd:o.guard=none) (s x:Operand) (t t2:TypeId)
 (ho:o.op=.call { callee:=.builtin .append,args:=#[s,x],argTypes:=#[t,t2] }) (vs vx v':Value) (w':World) (hs:a.eval s=vs) (hx:a.eval x=vx)
 (hrun:(Builtin.append_ #[t,t2] o.type #[vs,vx]).run P w=.ok v' w') (h:wpList P ops Q rest (a.put o.dst v') w'):wpList P ops Q (o :: rest) a w:=by
 refine wpList_plain hgd fun K hK=>?_
 unfold Oper.wp execOp
 simp only[ho,resolve,invoke,builtin,Sem.run_bind,Sem.run_pure,Result.andThen_ok,List.map_toArray,List.map_cons,List.map_nil,hs,hx,hrun]
 exact hK _ _ h
end
end Go.Proofs.YteladbdfiannjaaGreatDoor
