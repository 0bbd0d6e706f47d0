/- A part. -/
import Derived.Test.YtmgpghoamapfgaaGreatDoorST27Mrg
import Derived.Test.YtmgpghoamapfgaaGreatDoorST31Mrg
import Derived.Laws.OwnMore
namespace Go.Proofs.YtmgpghoamapfgaaGreatDoor
set_option linter.unusedVariables false
set_option linter.unusedSimpArgs false
section
open Go Go.RowKit Go.Shelf
def wState:ByteArray:=⟨#[115,116,97,116,101]⟩
def wSlot:ByteArray:=⟨#[115,108,111,116]⟩
def wItem:ByteArray:=⟨#[105,116,101,109]⟩
def wValue:ByteArray:=⟨#[118,97,108,117,101]⟩
/-! ### the text -/
def kW (n t:Int):List UInt8:=cP [wState,aF n,aF t]
def kU (x:Slot):List UInt8:=cP [wSlot,aF x.n,aF x.t,(bG x.k).1]
def dM (m:Msg):List UInt8:=cP [wItem,(dJ m).1]
def gD (v:Val):List UInt8:=cP [wValue,(bG v).1]
def eL (x:Slot):List UInt8:=kU x++(x.items.flatMap dM++x.vals.flatMap gD)
def oL (d:Sta):List UInt8:=kW d.n d.t++d.l.flatMap eL
def iS (f e:Int):Int:=if f=0 then e else f
def bS (f:Int) (l:List Msg):Int:=l.foldl (fun f m=>iS f (dJ m).2) f
def cT (f:Int) (l:List Val):Int:=l.foldl (fun f v=>iS f (bG v).2) f
def cU (f:Int) (x:Slot):Int:=cT (bS (iS f (bG x.k).2) x.items) x.vals
def fT (d:Sta):Int:=d.l.foldl cU 0
def mQ (d:Sta):ByteArray × Int:=if aM d≠0 then (⟨#[]⟩,aM d) else if fT d≠0 then (⟨#[]⟩,fT d) else (⟨(oL d).toArray⟩,0)
/-! ### lines -/
def lns:List UInt8->List (List UInt8)
 | []=>[]
 | x :: r=>if x=10 then [10] :: lns r else match lns r with
   | []=>[[x]]
   | h :: t=>(x :: h) :: t
theorem aDp:∀l:List UInt8,l≠[]->10 ∉ l->lns l=[l]
 | [],h,_=>absurd rfl h
 | [x],_,h=>by
   have hx:¬ x=10:=fun e=>h (by rw[e];exact List.mem_cons_self ..);rw[lns,if_neg hx];rfl
 | x :: y :: r,_,h=>by
   have hx:¬ x=10:=fun e=>h (by rw[e];exact List.mem_cons_self ..);rw[lns,if_neg hx,aDp (y :: r) gd (fun e=>h (List.mem_cons_of_mem _ e))]
theorem aBk (r:List UInt8):∀l:List UInt8,10 ∉ l->lns (l++10 :: r)=(l++[10]) :: lns r
 | [],_=>by rw[List.nil_append,lns,if_pos rfl];rfl
 | x :: l,h=>by
   have hx:¬ x=10:=fun e=>h (by rw[e];exact List.mem_cons_self ..);rw[List.cons_append,lns,if_neg hx,aBk r l (fun e=>h (List.mem_cons_of_mem _ e))];rfl
theorem aJv (l:List UInt8) (h0:l≠[]):(Lib.index l [10] = -1/\lns l=[l])\/∃i:Nat,Lib.index l [10]=i/\i<l.length/\lns l=l.take (i+1) :: lns (l.drop (i+1)):=by
 rcases wU 10 l with h | ⟨a,r,h,rfl⟩
 ·exact .inl ⟨sN 10 l h,aDp l h0 h⟩
 ·refine .inr ⟨a.length,gY 10 r a h,by simp,?_⟩;rw[aBk r a h,show a++10 :: r=(a++[10])++r by simp,List.take_left' gd,List.drop_left' gd]
theorem aMj:∀l:List UInt8,(∀x∈lns l,x.length<=l.length)/\(lns l).length<=l.length
 | []=>⟨fun x hx=>absurd hx (by simp[lns]),Nat.le_refl _⟩
 | y :: r=>by
   have ih:=aMj r;rw[lns];split
   ·refine⟨fun x hx=>?_,by simp;exact ih.2⟩;rcases List.mem_cons.1 hx with rfl | hx
    ·simp
    ·have:=ih.1 x hx;simp;omega
   ·split
    ·refine⟨fun x hx=>?_,by simp⟩;obtain rfl:=List.mem_singleton.1 hx;simp
    ·rename_i h t he;rw[he] at ih;refine⟨fun x hx=>?_,by simp at ih ⊢;omega⟩;rcases List.mem_cons.1 hx with rfl | hx
     ·have:=ih.1 h (List.mem_cons_self ..);simp;omega
     ·have:=ih.1 x (List.mem_cons_of_mem _ hx);simp;omega
/-! ### the way back -/
def oO (s:ByteArray):ByteArray × ByteArray:=(⟨(Lib.cut s.data.toList [32]).1.toArray⟩,⟨(Lib.cut s.data.toList [32]).2.1.toArray⟩)
theorem aEu (x r:ByteArray) (h:(32:UInt8) ∉ x.data.toList):oO (x++(⟨#[32]⟩++r))=(x,r):=by
 have e:(x++(⟨#[32]⟩++r)).data.toList=x.data.toList++32 :: r.data.toList:=by simp[ByteArray.data_append]
 have c:Lib.cut (x++(⟨#[32]⟩++r)).data.toList [32]=(x.data.toList,r.data.toList,true):=by
  rw[e];unfold Lib.cut;rw[gY 32 _ _ h,if_pos ga];simp;rw[show x.size+1=(x.data.toList++[32]).length by rw[List.length_append,qZ];rfl,show x.data.toList++32 :: r.data.toList=(x.data.toList++[32])++r.data.toList by simp,List.drop_left]
 unfold oO;rw[c]
theorem aA3 (x:ByteArray) (h:(32:UInt8) ∉ x.data.toList):oO x=(x,⟨#[]⟩):=by
 have c:Lib.cut x.data.toList [32]=(x.data.toList,[],false):=by
  unfold Lib.cut;rw[sN 32 _ h,if_neg ga]
 unfold oO;rw[c]
theorem aA2 (s:ByteArray):(oO s).1.size<=s.size/\(oO s).2.size<=s.size:=by
 have e:s.size=s.data.toList.length:=by rw[ByteArray.size,Array.length_toList]
 rcases wU 32 s.data.toList with h | ⟨a,r,h,h2⟩
 ·rw[aA3 s h];exact⟨Nat.le_refl _,Nat.zero_le _⟩
 ·have hc:oO s=(⟨a.toArray⟩,⟨r.toArray⟩):=by
   unfold oO Lib.cut;rw[h2,gY 32 _ _ h,if_pos ga];simp
  rw[hc,e,h2];simp[ByteArray.size];omega
def cD (s:ByteArray):Int × ByteArray × Bool:=(dO (oO s).1.data.toList,(oO s).2,cG (oO s).1.data.toList)
def eZ (f:Slot->Slot):List Slot->List Slot
 | []=>[]
 | [x]=>[f x]
 | x :: y :: r=>x :: eZ f (y :: r)
theorem fY (f:Slot->Slot) (x:Slot):∀l:List Slot,eZ f (l++[x])=l++[f x]
 | []=>rfl
 | [y]=>rfl
 | y :: z :: r=>by
   have ih:=fY f x (z :: r);simp only[List.cons_append] at ih ⊢;rw[eZ,ih]
def fI (m:Msg) (x:Slot):Slot:=⟨x.k,x.n,x.t,x.items++[m],x.vals⟩
def fQ (v:Val) (x:Slot):Slot:=⟨x.k,x.n,x.t,x.items,x.vals++[v]⟩
def cO (d:Sta) (word rest:ByteArray):Option Sta :=
 if word=wState then
  if (cD rest).2.2=true/\(cD (cD rest).2.1).2.2=true then some ⟨(cD rest).1,(cD (cD rest).2.1).1,d.l⟩ else none
 else if word=wSlot then
  if (cD rest).2.2=true/\(cD (cD rest).2.1).2.2=true/\(eX (cD (cD rest).2.1).2.1).2.2=0 then
   some ⟨d.n,d.t,d.l++[⟨(eX (cD (cD rest).2.1).2.1).1,(cD rest).1,(cD (cD rest).2.1).1,[],[]⟩]⟩ else none
 else if d.l=[] then none
 else if word=wItem then match qT rest with
  | some m=>some ⟨d.n,d.t,eZ (fI m) d.l⟩
  | none=>none
 else if (eX rest).2.2=0/\word=wValue then some ⟨d.n,d.t,eZ (fQ (eX rest).1) d.l⟩ else none
def dR:Sta->List (ByteArray × ByteArray)->Option Sta
 | d,[]=>some d
 | d,(a,b) :: l=>match cO d a b with
   | some d'=>dR d' l
   | none=>none
theorem jW:∀(l r:List (ByteArray × ByteArray)) (d d':Sta),dR d l=some d'->dR d (l++r)=dR d' r
 | [],r,d,d',h=>by
   obtain rfl:=Option.some.inj h;rfl
 | (a,b) :: l,r,d,d',h=>by
   rw[List.cons_append,dR];rw[dR] at h;cases hq:cO d a b with
   | none=>rw[hq] at h;cases h
   | some e =>
     rw[hq] at h;exact jW l r e d' h
theorem sJ:∀(l r:List (ByteArray × ByteArray)) (d:Sta),dR d l=none->dR d (l++r)=none
 | [],r,d,h=>by cases h
 | (a,b) :: l,r,d,h=>by
   rw[List.cons_append,dR];rw[dR] at h;cases hq:cO d a b with
   | none=>rfl
   | some e =>
     rw[hq] at h;exact sJ l r e h
def jS (x:List UInt8):ByteArray × ByteArray:=oO ⟨(Lib.trimSuffix x [10]).toArray⟩
def jY (s:ByteArray):List (ByteArray × ByteArray):=(lns s.data.toList).map jS
def aN9 (s:ByteArray):Option Sta:=match dR ⟨0,0,[]⟩ (jY s) with
 | some d=>if mQ d=(s,0) then some d else none
 | none=>none
theorem trim_le (l:List UInt8):(Lib.trimSuffix l [10]).length<=l.length:=by
 unfold Lib.trimSuffix;split
 ·rw[List.length_take];omega
 ·exact Nat.le_refl _
structure LnOK (word rest:ByteArray):Prop where
 z:rest.size<=120000
 slot:word=wSlot->(cD (cD rest).2.1).2.1.size<=65536
 item:word=wItem->∀a b c e,gF 4 rest=[a,b,c,e]->e.size<=65536
 other:word≠wState->word≠wSlot->word≠wItem->rest.size<=65536
theorem jO (s:ByteArray):(cD s).2.1.size<=s.size:=(aA2 s).2
theorem LnOK.small {word rest:ByteArray} (h:rest.size<=65536):LnOK word rest :=
 ⟨by omega,fun _=>by have a:=jO rest;have b:=jO (cD rest).2.1;omega,fun _ a b c e he=>by have:=kN 4 rest e (by rw[he];simp);omega,fun _ _ _=>h⟩
theorem aH8 {d:Sta} (h:(mQ d).2=0):aM d=0:=by
 unfold mQ at h;by_cases h0:aM d=0
 ·exact h0
 ·rw[if_pos h0] at h;exact h
end
section
open Go Go.RowKit Go.Shelf
theorem zQ:(Tryz.prog.info? 66).map (fun i=>(i.zero,i.size,i.bytes))=some (some (.agg #[I6 0,I6 0,I6 0,.string ByteArray.empty,.slice none 0 0,.slice none 0 0,I6 0,I6 0,.slice none 0 0,.slice none 0 0]),10,152):=by kernel_rfl
abbrev SlC.iv (c:SlC):Value:=.slice c.ia c.il c.ic
abbrev SlC.vv (c:SlC):Value:=.slice c.va c.vl c.vc
theorem pI:∀l:List SlC,(l.flatMap SlC.cs).length=l.length * 10
 | []=>rfl
 | c :: l=>by rw[List.flatMap_cons,List.length_append,pI l,List.length_cons];show 10+l.length * 10=_;omega
structure DS (B:Nat) (sv iv vv:Value) (w:World) (k:Nat):Prop where
 le:B<=k
 lt:k<w.heap.size
 s:some k≠sv.ownBlock
 i:some k≠iv.ownBlock
 v:some k≠vv.ownBlock
theorem qA {w w':World} {B T n m:Nat} {v:Value} {xs:List Value} (h:w.ownsRow B T n v m xs) (hk:∀k o,v.ownBlock=some k->w.heap[k]?=some o->w'.heap[k]?=some o):w'.ownsRow B T n v m xs:=by
 refine⟨h.1,?_⟩;rcases h.2 with h0 | ⟨g,cap,cur,rfl,hb,hh,r⟩
 ·exact .inl h0
 ·exact .inr ⟨g,cap,cur,rfl,hb,hk g _ rfl hh,r⟩
section
variable {C D:Type} (K:Kit C D)
def RowO (T B:Nat) (S:Nat->Prop) (w:World) (v:Value) (l:List D):Prop :=
 ∃cs:List C,cs.length=l.length/\w.ownsRow B T K.n v l.length (cs.flatMap K.cs)/\∀j (h:j<cs.length) (h':j<l.length),K.Is S w cs[j] l[j]
variable {K}
theorem RowO.nil (T B:Nat) (S:Nat->Prop) (w:World):RowO K T B S w (.slice none 0 0) []:=⟨[],rfl,World.ownsRow_nil _ _ _ _,fun j h=>absurd h gd⟩
theorem RowO.own {T B:Nat} {S:Nat->Prop} {w:World} {v:Value} {l:List D} (h:RowO K T B S w v l):∀k,v.ownBlock=some k->B<=k/\k<w.heap.size:=by
 obtain⟨_,_,h2,_⟩:=h;exact h2.lt
theorem RowO.move {T B:Nat} {S S':Nat->Prop} {w w':World} {v:Value} {l:List D} (h:RowO K T B S w v l) (ho:∀k o,v.ownBlock=some k->w.heap[k]?=some o->w'.heap[k]?=some o) (hs:∀b,S b->S' b/\w'.heap[b]?=w.heap[b]?):RowO K T B S' w' v l:=by
 obtain⟨cs,h1,h2,h3⟩:=h;exact⟨cs,h1,qA h2 ho,fun j a b=>K.same hs (h3 j a b)⟩
theorem RowO.row {T B:Nat} {S S':Nat->Prop} {w:World} {a:Option Addr} {n cap:Nat} {l:List D} (h:RowO K T B S w (.slice a n cap) l) (hbig:l.length * K.by'<=140737488351232) (hS:∀k,(Value.slice a n cap).ownBlock=some k->S' k) (hSS:∀b,S b->S' b):IsRow K S' w a n cap l:=by
 obtain⟨cs,h1,h2,h3⟩:=h;rcases h2.2 with ⟨h4,h5⟩ | ⟨g,cap',cur,hv,hb,hg,hn,_⟩
 ·simp only[Value.slice.injEq] at h4;obtain⟨rfl,rfl,rfl⟩:=h4;exact⟨h5.symm,Nat.le_refl _,by simp,.inl (List.eq_nil_of_length_eq_zero h5)⟩
 ·simp only[Value.slice.injEq] at hv;obtain⟨rfl,rfl,rfl⟩:=hv;refine⟨rfl,hn,hbig,.inr ⟨g,0,rfl,hS g rfl,fun j hj=>⟨cs[j]' ga,?_,?_⟩⟩⟩
  ·rw[Nat.zero_add];exact AtG.ofRow h2 j ga
  ·exact K.same (fun b q=>⟨hSS b q,rfl⟩) (h3 j ga hj)
end
structure LastO (B:Nat) (w:World) (sv:Value) (ls:List Slot) (x:Slot) (cs:List SlC) (c:SlC):Prop where
 len:cs.length=ls.length
 row:w.ownsRow B 66 10 sv (cs.length+1) ((cs++[c]).flatMap SlC.cs)
 old:∀j (h:j<cs.length) (h':j<ls.length),IsSl (DS B sv c.iv c.vv w) w cs[j] ls[j]
 k:IsVal (DS B sv c.iv c.vv w) w c.k x.k
 n:c.n=x.n
 rn:I64 x.n
 t:c.t=x.t
 rt:I64 x.t
 items:RowO msgK 86 B (DS B sv c.iv c.vv w) w c.iv x.items
 vals:RowO valK 36 B (DS B sv c.iv c.vv w) w c.vv x.vals
 d1:∀k,c.iv.ownBlock=some k->sv.ownBlock≠some k/\c.vv.ownBlock≠some k
 d2:∀k,c.vv.ownBlock=some k->sv.ownBlock≠some k
theorem LastO.move {B:Nat} {w w':World} {sv:Value} {ls:List Slot} {x:Slot} {cs:List SlC} {c:SlC} (h:LastO B w sv ls x cs c) (hb:∀k,B<=k->k<w.heap.size->w'.heap[k]?=w.heap[k]?) (hz:w.heap.size<=w'.heap.size):LastO B w' sv ls x cs c:=by
 have hD:∀b,DS B sv c.iv c.vv w b->DS B sv c.iv c.vv w' b/\w'.heap[b]?=w.heap[b]?:=fun b q=>⟨⟨q.le,Nat.lt_of_lt_of_le q.lt hz,q.s,q.i,q.v⟩,hb b q.le q.lt⟩
 have hO:∀(v:Value),(∀k,v.ownBlock=some k->B<=k/\k<w.heap.size)->∀k o,v.ownBlock=some k->w.heap[k]?=some o->w'.heap[k]?=some o:=fun v hv k o hk ho=>(hb k (hv k hk).1 (hv k hk).2).trans ho;exact⟨h.len,qA h.row (hO _ h.row.lt),fun j a b=>(h.old j a b).same hD,h.k.same hD,h.n,h.rn,h.t,h.rt,h.items.move (hO _ h.items.own) hD,h.vals.move (hO _ h.vals.own) hD,h.d1,h.d2⟩
def SlotsO (B:Nat) (w:World) (sv:Value) (l:List Slot):Prop:=(l=[]/\w.ownsRow B 66 10 sv 0 [])\/∃ls x cs c,l=ls++[x]/\LastO B w sv ls x cs c
theorem SlotsO.move {B:Nat} {w w':World} {sv:Value} {l:List Slot} (h:SlotsO B w sv l) (hb:∀k,B<=k->k<w.heap.size->w'.heap[k]?=w.heap[k]?) (hz:w.heap.size<=w'.heap.size):SlotsO B w' sv l:=by
 rcases h with ⟨rfl,h⟩ | ⟨ls,x,cs,c,rfl,h⟩
 ·exact .inl ⟨rfl,qA h fun k o hk ho=>(hb k (h.lt k hk).1 (h.lt k hk).2).trans ho⟩
 ·exact .inr ⟨ls,x,cs,c,rfl,h.move hb hz⟩
theorem SlotsO.own {B:Nat} {w:World} {sv:Value} {l:List Slot} (h:SlotsO B w sv l):∀k,sv.ownBlock=some k->B<=k/\k<w.heap.size:=by
 rcases h with ⟨rfl,h⟩ | ⟨ls,x,cs,c,rfl,h⟩
 ·exact h.lt
 ·exact h.row.lt
def Sz (n:Nat) (l:List Slot):Prop:=l.length<=n/\∀x∈l,x.items.length<=n/\x.vals.length<=n
theorem SlotsO.built {B:Nat} {w:World} {sv:Value} {l:List Slot} {n:Nat} (h:SlotsO B w sv l) (hz:Sz n l) (hn:n<=100000):Built slK 66 B w sv l.length l:=by
 rcases h with ⟨rfl,h⟩ | ⟨ls,x,cs,c,rfl,h⟩
 ·exact⟨[],rfl,h,fun j a=>absurd a gd⟩
 ·have hx:=hz.2 x gd;have hS:∀b,DS B sv c.iv c.vv w b->B<=b/\b<w.heap.size/\some b≠sv.ownBlock:=fun b q=>⟨q.le,q.lt,q.s⟩
  have hsame:∀b,DS B sv c.iv c.vv w b->(B<=b/\b<w.heap.size/\some b≠sv.ownBlock)/\w.heap[b]?=w.heap[b]?:=fun b q=>⟨hS b q,rfl⟩
  have hi:∀k,c.iv.ownBlock=some k->B<=k/\k<w.heap.size/\some k≠sv.ownBlock:=fun k hk=>⟨(h.items.own k hk).1,(h.items.own k hk).2,fun e=>(h.d1 k hk).1 e.symm⟩
  have hv:∀k,c.vv.ownBlock=some k->B<=k/\k<w.heap.size/\some k≠sv.ownBlock:=fun k hk=>⟨(h.vals.own k hk).1,(h.vals.own k hk).2,fun e=>h.d2 k hk e.symm⟩
  have hlast:IsSl (fun b=>B<=b/\b<w.heap.size/\some b≠sv.ownBlock) w c x :=
   ⟨h.k.same hsame,h.n,h.rn,h.t,h.rt,h.items.row (by show x.items.length * 152<=_;omega) hi hS,h.vals.row (by show x.vals.length * 88<=_;omega) hv hS⟩
  refine⟨cs++[c],by simp[h.len],by rw[List.length_append,List.length_singleton,<-h.len];exact h.row,fun j h1 h2=>?_⟩;by_cases hj:j<cs.length
  ·rw[List.getElem_append_left hj,List.getElem_append_left (by have:=h.len;omega)];exact(h.old j hj (by have:=h.len;omega)).same hsame
  ·have e1:j=cs.length:=by simp at h1;omega
   rw[List.getElem_append_right ga,List.getElem_append_right (by have:=h.len;omega)];simp only[e1,h.len,Nat.sub_self,List.getElem_cons_zero];exact hlast
theorem SlotsO.push {B N:Nat} {w1 w2:World} {sv:Value} {l:List Slot} {cs:List SlC} {k:VC} {dk:Val} {n t:Int} {o:Obj} {g cap:Nat} (hcs:cs.length=l.length)
 (hel:∀j (h:j<cs.length) (h':j<l.length),IsSl (fun b=>B<=b/\b<w1.heap.size/\some b≠sv.ownBlock) w1 cs[j] l[j])
 (hk:IsVal (fun b=>N<=b/\b<w1.heap.size) w1 k dk) (hn:I64 n) (ht:I64 t) (hN:B<=N) (hv:∀r,sv.ownBlock=some r->r<N)
 (hown:w2.ownsRow B 66 10 (.slice (some ⟨g,0,none⟩) (l.length+1) cap) (l.length+1) (cs.flatMap SlC.cs++SlC.cs ⟨k,n,t,none,0,0,none,0,0⟩)) (hgrow:(w1.alloc o).grownBy w2 sv.ownBlock) (hat:sv.ownBlock=some g\/g=w1.heap.size+1) :
 SlotsO B w2 (.slice (some ⟨g,0,none⟩) (l.length+1) cap) (l++[⟨dk,n,t,[],[]⟩]):=by
 have hsz:w1.heap.size+1<=w2.heap.size:=by have:=hgrow.size;simpa using this
 have hst:∀b,b<w1.heap.size->some b≠sv.ownBlock->w2.heap[b]?=w1.heap[b]?:=fun b hb hne =>
  (hgrow.block b gj hne).trans (Below.heap_alloc _ _ _ hb)
 have hD:∀b,B<=b->b<w1.heap.size->some b≠sv.ownBlock->DS B (.slice (some ⟨g,0,none⟩) (l.length+1) cap) (.slice none 0 0) (.slice none 0 0) w2 b/\w2.heap[b]?=w1.heap[b]?:=fun b h0 h1 h2=>by
  refine⟨⟨h0,by omega,fun e=>?_,(by simp[Value.ownBlock]),(by simp[Value.ownBlock])⟩,hst b h1 h2⟩;simp only[Value.ownBlock,Option.some.injEq] at e;subst e;rcases hat with h | h
  ·exact h2 h.symm
  ·omega
 refine .inr ⟨l,_,cs,⟨k,n,t,none,0,0,none,0,0⟩,rfl,hcs,?_,fun j a b=>(hel j a b).same fun b q=>hD b q.1 q.2.1 q.2.2,hk.same fun b q=>hD b ga q.2 (fun e=>by have:=hv b e.symm;omega),rfl,hn,rfl,ht,RowO.nil _ _ _ _,RowO.nil _ _ _ _,fun k e=>(by simp[Value.ownBlock] at e),fun k e=>(by simp[Value.ownBlock] at e)⟩;rw[List.flatMap_append,List.flatMap_singleton,hcs];exact hown
theorem LastO.pushI {B N:Nat} {w1 w2:World} {gs scap:Nat} {ls:List Slot} {x:Slot} {cs:List SlC} {c:SlC} {xs:List MC} {m:MC} {dm:Msg} {o:Obj} {g cap:Nat}
 (h:LastO B w1 (.slice (some ⟨gs,0,none⟩) (ls.length+1) scap) ls x cs c) (hxs:xs.length=x.items.length) (hel:∀j (h:j<xs.length) (h':j<x.items.length),msgK.Is (DS B (.slice (some ⟨gs,0,none⟩) (ls.length+1) scap) c.iv c.vv w1) w1 xs[j] x.items[j])
 (hm:msgK.Is (fun b=>N<=b/\b<w1.heap.size) w1 m dm) (hBN:B<=N) (hgN:gs<N) (hiN:∀r,c.iv.ownBlock=some r->r<N) (hvN:∀r,c.vv.ownBlock=some r->r<N)
 (hown:w2.ownsRow B 86 msgK.n (.slice (some ⟨g,0,none⟩) (x.items.length+1) cap) (x.items.length+1) (xs.flatMap MC.cs++MC.cs m)) (hgrow:(w1.alloc o).grownBy w2 c.iv.ownBlock) (hat:c.iv.ownBlock=some g\/g=w1.heap.size+1) :
 LastO B (w2.setCell ⟨gs,ls.length * 10+8,none⟩ (.slice (some ⟨g,0,none⟩) (x.items.length+1) cap)) (.slice (some ⟨gs,0,none⟩) (ls.length+1) scap) ls (fI dm x) cs ⟨c.k,c.n,c.t,some ⟨g,0,none⟩,x.items.length+1,cap,c.va,c.vl,c.vc⟩:=by
 obtain⟨sv,hsv⟩:=ez (Value.slice (some ⟨gs,0,none⟩) (ls.length+1) scap)
 obtain⟨nv,hnv⟩:=ez (Value.slice (some ⟨g,0,none⟩) (x.items.length+1) cap)
 have hso:sv.ownBlock=some gs:=by rw[hsv];rfl
 have hno:nv.ownBlock=some g:=by rw[hnv];rfl
 have hlt:=h.row.lt gs gh;have hd1:c.iv.ownBlock≠some gs:=fun e=>by have:=h.d1;have:=h.d2;simp_all [Value.ownBlock]
 have hd2:∀r,c.vv.ownBlock=some r->c.iv.ownBlock≠some r:=fun r e e2=>by have:=h.d1;have:=h.d2;simp_all
 have hd3:c.vv.ownBlock≠some gs:=fun e=>by have:=h.d1;have:=h.d2;simp_all [Value.ownBlock]
 have hoL:∀r,c.vv.ownBlock=some r->B<=r/\r<w1.heap.size:=h.vals.own;have hsz:w1.heap.size+1<=w2.heap.size:=by have:=hgrow.size;simpa using this
 have hst:∀b,b<w1.heap.size->c.iv.ownBlock≠some b->b≠gs->(w2.setCell ⟨gs,ls.length * 10+8,none⟩ nv).heap[b]?=w1.heap[b]?:=fun b hb hne hg =>
  (Below.heap_setCell _ _ _ _ hg).trans ((hgrow.block b gj (fun e=>hne e.symm)).trans (Below.heap_alloc _ _ _ hb))
 have hgne:g≠gs:=fun e=>by
  rcases hat with hat | hat
  ·exact hd1 (by rw[hat,e])
  ·omega
 have hgo:∀r,c.vv.ownBlock=some r->r≠g:=fun r e1 e2=>by
  rcases hat with hat | hat
  ·exact hd2 r e1 (by rw[hat,e2])
  ·have:=(hoL r e1).2;omega
 rw[<-hsv] at h hel ⊢;rw[<-hnv] at hown ⊢;have hDS:∀b,DS B sv c.iv c.vv w1 b->DS B sv nv c.vv (w2.setCell ⟨gs,ls.length * 10+8,none⟩ nv) b/\(w2.setCell ⟨gs,ls.length * 10+8,none⟩ nv).heap[b]?=w1.heap[b]?:=fun b hb=>by
  have e1:b≠gs:=fun e=>hb.s (by rw[hso,e]);have e2:c.iv.ownBlock≠some b:=fun e=>hb.i e.symm;have e3:b≠g:=fun e=>by
   rcases hat with hat | hat
   ·exact e2 (by rw[hat,e])
   ·have:=hb.lt;omega
  refine⟨⟨hb.le,by have:=hb.lt;simp only[World.setCell,Array.size_modify];omega,hb.s,?_,hb.v⟩,hst b hb.lt e2 e1⟩;rw[hno];intro e;exact e3 (Option.some.inj e)
 have hNS:∀b,N<=b/\b<w1.heap.size->DS B sv nv c.vv (w2.setCell ⟨gs,ls.length * 10+8,none⟩ nv) b/\(w2.setCell ⟨gs,ls.length * 10+8,none⟩ nv).heap[b]?=w1.heap[b]?:=fun b hb=>by
  refine hDS b ⟨by omega,hb.2,fun e=>?_,fun e=>?_,fun e=>?_⟩
  ·rw[hso] at e;have:=Option.some.inj e;omega
  ·have:=hiN b e.symm;omega
  ·have:=hvN b e.symm;omega
 subst hnv;refine⟨h.len,?_,fun j h1 h2=>(h.old j h1 h2).same hDS,h.k.same hDS,h.n,h.rn,h.t,h.rt,?_,?_,?_,?_⟩
 ·have hr2:w2.ownsRow B 66 10 sv (cs.length+1) ((cs++[c]).flatMap SlC.cs):=(h.row.alloc o).kept hgrow (.inr (by rw[hso];exact fun e=>hd1 e.symm));rw[hsv,<-h.len] at hr2 ⊢;have q:=(hr2.stored (cs.length * 10+8) (Value.slice (some ⟨g,0,none⟩) (x.items.length+1) cap)).1;have hf:∀l:List SlC,(l.flatMap SlC.cs).length=l.length * 10:=pI;have e:((cs++[c]).flatMap SlC.cs).set (cs.length * 10+8) (Value.slice (some ⟨g,0,none⟩) (x.items.length+1) cap)=(cs++[(⟨c.k,c.n,c.t,some ⟨g,0,none⟩,x.items.length+1,cap,c.va,c.vl,c.vc⟩:SlC)]).flatMap SlC.cs:=by
   rw[List.flatMap_append,List.flatMap_append,List.set_append_right _ _ (by rw[hf];omega),hf,show cs.length * 10+8-cs.length * 10=8 by omega];rfl
  rw[e] at q;exact q
 ·refine⟨xs++[m],by simp[hxs,fI],?_,fun j h1 h2=>?_⟩
  ·have q:=ownsRow_setCell_other (a:=⟨gs,ls.length * 10+8,none⟩) hown (by rw[hno];exact fun e=>hgne (Option.some.inj e)) (Value.slice (some ⟨g,0,none⟩) (x.items.length+1) cap);simp only[fI,List.length_append,List.length_singleton,List.flatMap_append,List.flatMap_singleton];exact q
  ·simp only[fI];by_cases hj:j<xs.length
   ·rw[List.getElem_append_left hj,List.getElem_append_left ga];exact msgK.same hDS (hel j hj ga)
   ·have e1:j=xs.length:=by simp at h1;omega
    rw[List.getElem_append_right ga,List.getElem_append_right ga];simp only[e1,hxs,Nat.sub_self,List.getElem_cons_zero];exact msgK.same hNS hm
 ·exact h.vals.move (fun k ob hk ho=>(hst k (hoL k hk).2 (hd2 k hk) (fun e=>hd3 (by rw[hk,e]))).trans ho) hDS
 ·intro k hk;have hk':(Value.slice (some ⟨g,0,none⟩) (x.items.length+1) cap).ownBlock=some k:=hk;rw[hno] at hk';obtain rfl:=Option.some.inj hk';exact⟨by rw[hso];exact fun e=>hgne (Option.some.inj e).symm,fun e=>hgo g e rfl⟩
 ·exact h.d2
theorem LastO.pushV {B N:Nat} {w1 w2:World} {gs scap:Nat} {ls:List Slot} {x:Slot} {cs:List SlC} {c:SlC} {xs:List VC} {m:VC} {dm:Val} {o:Obj} {g cap:Nat}
 (h:LastO B w1 (.slice (some ⟨gs,0,none⟩) (ls.length+1) scap) ls x cs c) (hxs:xs.length=x.vals.length) (hel:∀j (h:j<xs.length) (h':j<x.vals.length),valK.Is (DS B (.slice (some ⟨gs,0,none⟩) (ls.length+1) scap) c.iv c.vv w1) w1 xs[j] x.vals[j])
 (hm:valK.Is (fun b=>N<=b/\b<w1.heap.size) w1 m dm) (hBN:B<=N) (hgN:gs<N) (hiN:∀r,c.iv.ownBlock=some r->r<N) (hvN:∀r,c.vv.ownBlock=some r->r<N)
 (hown:w2.ownsRow B 36 valK.n (.slice (some ⟨g,0,none⟩) (x.vals.length+1) cap) (x.vals.length+1) (xs.flatMap VC.cs++VC.cs m)) (hgrow:(w1.alloc o).grownBy w2 c.vv.ownBlock) (hat:c.vv.ownBlock=some g\/g=w1.heap.size+1) :
 LastO B (w2.setCell ⟨gs,ls.length * 10+9,none⟩ (.slice (some ⟨g,0,none⟩) (x.vals.length+1) cap)) (.slice (some ⟨gs,0,none⟩) (ls.length+1) scap) ls (fQ dm x) cs ⟨c.k,c.n,c.t,c.ia,c.il,c.ic,some ⟨g,0,none⟩,x.vals.length+1,cap⟩:=by
 obtain⟨sv,hsv⟩:=ez (Value.slice (some ⟨gs,0,none⟩) (ls.length+1) scap)
 obtain⟨nv,hnv⟩:=ez (Value.slice (some ⟨g,0,none⟩) (x.vals.length+1) cap)
 have hso:sv.ownBlock=some gs:=by rw[hsv];rfl
 have hno:nv.ownBlock=some g:=by rw[hnv];rfl
 have hlt:=h.row.lt gs gh;have hd1:c.vv.ownBlock≠some gs:=fun e=>by have:=h.d1;have:=h.d2;simp_all [Value.ownBlock]
 have hd2:∀r,c.iv.ownBlock=some r->c.vv.ownBlock≠some r:=fun r e e2=>by have:=h.d1;have:=h.d2;simp_all
 have hd3:c.iv.ownBlock≠some gs:=fun e=>by have:=h.d1;have:=h.d2;simp_all [Value.ownBlock]
 have hoL:∀r,c.iv.ownBlock=some r->B<=r/\r<w1.heap.size:=h.items.own;have hsz:w1.heap.size+1<=w2.heap.size:=by have:=hgrow.size;simpa using this
 have hst:∀b,b<w1.heap.size->c.vv.ownBlock≠some b->b≠gs->(w2.setCell ⟨gs,ls.length * 10+9,none⟩ nv).heap[b]?=w1.heap[b]?:=fun b hb hne hg =>
  (Below.heap_setCell _ _ _ _ hg).trans ((hgrow.block b gj (fun e=>hne e.symm)).trans (Below.heap_alloc _ _ _ hb))
 have hgne:g≠gs:=fun e=>by
  rcases hat with hat | hat
  ·exact hd1 (by rw[hat,e])
  ·omega
 have hgo:∀r,c.iv.ownBlock=some r->r≠g:=fun r e1 e2=>by
  rcases hat with hat | hat
  ·exact hd2 r e1 (by rw[hat,e2])
  ·have:=(hoL r e1).2;omega
 rw[<-hsv] at h hel ⊢;rw[<-hnv] at hown ⊢;have hDS:∀b,DS B sv c.iv c.vv w1 b->DS B sv c.iv nv (w2.setCell ⟨gs,ls.length * 10+9,none⟩ nv) b/\(w2.setCell ⟨gs,ls.length * 10+9,none⟩ nv).heap[b]?=w1.heap[b]?:=fun b hb=>by
  have e1:b≠gs:=fun e=>hb.s (by rw[hso,e]);have e2:c.vv.ownBlock≠some b:=fun e=>hb.v e.symm;have e3:b≠g:=fun e=>by
   rcases hat with hat | hat
   ·exact e2 (by rw[hat,e])
   ·have:=hb.lt;omega
  refine⟨⟨hb.le,by have:=hb.lt;simp only[World.setCell,Array.size_modify];omega,hb.s,hb.i,?_⟩,hst b hb.lt e2 e1⟩;rw[hno];intro e;exact e3 (Option.some.inj e)
 have hNS:∀b,N<=b/\b<w1.heap.size->DS B sv c.iv nv (w2.setCell ⟨gs,ls.length * 10+9,none⟩ nv) b/\(w2.setCell ⟨gs,ls.length * 10+9,none⟩ nv).heap[b]?=w1.heap[b]?:=fun b hb=>by
  refine hDS b ⟨by omega,hb.2,fun e=>?_,fun e=>?_,fun e=>?_⟩
  ·rw[hso] at e;have:=Option.some.inj e;omega
  ·have:=hiN b e.symm;omega
  ·have:=hvN b e.symm;omega
 subst hnv;refine⟨h.len,?_,fun j h1 h2=>(h.old j h1 h2).same hDS,h.k.same hDS,h.n,h.rn,h.t,h.rt,?_,?_,?_,?_⟩
 ·have hr2:w2.ownsRow B 66 10 sv (cs.length+1) ((cs++[c]).flatMap SlC.cs):=(h.row.alloc o).kept hgrow (.inr (by rw[hso];exact fun e=>hd1 e.symm));rw[hsv,<-h.len] at hr2 ⊢;have q:=(hr2.stored (cs.length * 10+9) (Value.slice (some ⟨g,0,none⟩) (x.vals.length+1) cap)).1;have hf:∀l:List SlC,(l.flatMap SlC.cs).length=l.length * 10:=pI;have e:((cs++[c]).flatMap SlC.cs).set (cs.length * 10+9) (Value.slice (some ⟨g,0,none⟩) (x.vals.length+1) cap)=(cs++[(⟨c.k,c.n,c.t,c.ia,c.il,c.ic,some ⟨g,0,none⟩,x.vals.length+1,cap⟩:SlC)]).flatMap SlC.cs:=by
   rw[List.flatMap_append,List.flatMap_append,List.set_append_right _ _ (by rw[hf];omega),hf,show cs.length * 10+9-cs.length * 10=9 by omega];rfl
  rw[e] at q;exact q
 ·exact h.items.move (fun k ob hk ho=>(hst k (hoL k hk).2 (hd2 k hk) (fun e=>hd3 (by rw[hk,e]))).trans ho) hDS
 ·refine⟨xs++[m],by simp[hxs,fQ],?_,fun j h1 h2=>?_⟩
  ·have q:=ownsRow_setCell_other (a:=⟨gs,ls.length * 10+9,none⟩) hown (by rw[hno];exact fun e=>hgne (Option.some.inj e)) (Value.slice (some ⟨g,0,none⟩) (x.vals.length+1) cap);simp only[fQ,List.length_append,List.length_singleton,List.flatMap_append,List.flatMap_singleton];exact q
  ·simp only[fQ];by_cases hj:j<xs.length
   ·rw[List.getElem_append_left hj,List.getElem_append_left ga];exact valK.same hDS (hel j hj ga)
   ·have e1:j=xs.length:=by simp at h1;omega
    rw[List.getElem_append_right ga,List.getElem_append_right ga];simp only[e1,hxs,Nat.sub_self,List.getElem_cons_zero];exact valK.same hNS hm
 ·intro k hk;refine⟨(h.d1 k hk).1,fun e=>?_⟩;have e':(Value.slice (some ⟨g,0,none⟩) (x.vals.length+1) cap).ownBlock=some k:=e;rw[hno] at e';exact hgo k hk (Option.some.inj e').symm
 ·intro k hk;have hk':(Value.slice (some ⟨g,0,none⟩) (x.vals.length+1) cap).ownBlock=some k:=hk;rw[hno] at hk';obtain rfl:=Option.some.inj hk';rw[hso];exact fun e=>hgne (Option.some.inj e).symm
def StOwn (B b:Nat) (w:World) (d:Sta):Prop:=∃sv:Value,w.heap[b]?=some (.cells #[I6 d.n,I6 d.t,sv] 24)/\I64 d.n/\I64 d.t/\SlotsO B w sv d.l
theorem StOwn.move {B b:Nat} {w w':World} {d:Sta} (h:StOwn B b w d) (hk:w'.heap[b]?=w.heap[b]?) (hb:∀k,B<=k->k<w.heap.size->w'.heap[k]?=w.heap[k]?) (hz:w.heap.size<=w'.heap.size):StOwn B b w' d:=by
 obtain⟨sv,h1,h2,h3,h4⟩:=h;exact⟨sv,hk.trans h1,h2,h3,h4.move hb hz⟩
theorem nD (f:Slot->Slot):∀l:List Slot,(eZ f l).length=l.length
 | []=>rfl
 | [x]=>rfl
 | x :: y :: r=>by rw[eZ,List.length_cons,nD f (y :: r)];rfl
theorem nC (f:Slot->Slot):∀(l:List Slot) (z:Slot),z∈eZ f l->∃x∈l,z=x\/z=f x
 | [],z,h=>absurd h (by simp[eZ])
 | [x],z,h=>⟨x,by simp,.inr (by simpa [eZ] using h)⟩
 | x :: y :: r,z,h=>by
   rw[eZ] at h;rcases List.mem_cons.1 h with rfl | h
   ·exact⟨z,by simp,.inl rfl⟩
   ·obtain⟨u,hu,hz⟩:=nC f (y :: r) z h;exact⟨u,List.mem_cons_of_mem _ hu,hz⟩
theorem Sz.up {n:Nat} {l:List Slot} (h:Sz n l):Sz (n+1) l:=⟨Nat.le_succ_of_le h.1,fun x hx=>⟨Nat.le_succ_of_le (h.2 x hx).1,Nat.le_succ_of_le (h.2 x hx).2⟩⟩
theorem aM1 {n:Nat} {d d':Sta} {a b:ByteArray} (h:Sz n d.l) (hr:cO d a b=some d'):Sz (n+1) d'.l:=by
 unfold cO at hr;split at hr
 ·split at hr
  ·obtain rfl:=Option.some.inj hr;exact h.up
  ·cases hr
 split at hr
 ·split at hr
  ·obtain rfl:=Option.some.inj hr;refine⟨by have:=h.1;simp;omega,fun x hx=>?_⟩;rcases List.mem_append.1 hx with hx | hx
   ·exact h.up.2 x hx
   ·obtain rfl:=List.mem_singleton.1 hx;exact⟨Nat.zero_le _,Nat.zero_le _⟩
  ·cases hr
 split at hr
 ·cases hr
 split at hr
 ·split at hr
  ·obtain rfl:=Option.some.inj hr;refine⟨by rw[nD];have:=h.1;omega,fun x hx=>?_⟩;obtain⟨u,hu,hz⟩:=nC _ _ _ hx;have q:=h.2 u hu;rcases hz with rfl | rfl
   ·exact⟨by omega,by omega⟩
   ·exact⟨by simp[fI];omega,by simp[fI];omega⟩
  ·cases hr
 split at hr
 ·obtain rfl:=Option.some.inj hr;refine⟨by rw[nD];have:=h.1;omega,fun x hx=>?_⟩;obtain⟨u,hu,hz⟩:=nC _ _ _ hx;have q:=h.2 u hu;rcases hz with rfl | rfl
  ·exact⟨by omega,by omega⟩
  ·exact⟨by simp[fQ];omega,by simp[fQ];omega⟩
 ·cases hr
theorem rK:∀(l:List (ByteArray × ByteArray)) (n:Nat) (d d':Sta),Sz n d.l->dR d l=some d'->Sz (n+l.length) d'.l
 | [],n,d,d',h,hr=>by
   obtain rfl:=Option.some.inj hr;exact h
 | (a,b) :: l,n,d,d',h,hr=>by
   rw[dR] at hr;cases hq:cO d a b with
   | none=>rw[hq] at hr;cases hr
   | some e =>
     rw[hq] at hr;have:=rK l (n+1) e d' (aM1 h hq) hr;rw[List.length_cons,show n+(l.length+1)=n+1+l.length by omega];exact this
end
end Go.Proofs.YtmgpghoamapfgaaGreatDoor
