/- A part. -/
import Derived.Test.YtaofolgaiipcjaaGreatDoorSD27Mrg
import Derived.Test.YtaofolgaiipcjaaGreatDoorSD31Mrg
import Derived.Laws.OwnMore
namespace Go.Proofs.YtaofolgaiipcjaaGreatDoor
set_option linter.unusedVariables false
set_option linter.unusedSimpArgs false
section
open Go Go.RowKit Go.Shelf
def wState:ByteArray:=⟨#[115,116,97,116,101]⟩
def wSlot:ByteArray:=⟨#[115,108,111,116]⟩
def wItem:ByteArray:=⟨#[105,116,101,109]⟩
def wValue:ByteArray:=⟨#[118,97,108,117,101]⟩
/-! ### the text -/
def jFj (n t:Int):List UInt8:=qV [wState,jO n,jO t]
def jCc (x:Slot):List UInt8:=qV [wSlot,jO x.n,jO x.t,(litF x.k).1]
def uU (m:Msg):List UInt8:=qV [wItem,(encF m).1]
def jAr (v:Val):List UInt8:=qV [wValue,(litF v).1]
def xM (x:Slot):List UInt8:=jCc x++(x.items.flatMap uU++x.vals.flatMap jAr)
def staT (d:Sta):List UInt8:=jFj d.n d.t++d.l.flatMap xM
def errG (f e:Int):Int:=if f=0 then e else f
def xT (f:Int) (l:List Msg):Int:=l.foldl (fun f m=>errG f (encF m).2) f
def jAq (f:Int) (l:List Val):Int:=l.foldl (fun f v=>errG f (litF v).2) f
def jLd (f:Int) (x:Slot):Int:=jAq (xT (errG f (litF x.k).2) x.items) x.vals
def jBm (d:Sta):Int:=d.l.foldl jLd 0
def encS (d:Sta):ByteArray × Int:=if kN d≠0 then (⟨#[]⟩,kN d) else if jBm d≠0 then (⟨#[]⟩,jBm d) else (⟨(staT d).toArray⟩,0)
/-! ### lines -/
def lns:List UInt8→List (List UInt8)
 | []=>[]
 | x :: r=>if x=10 then [10] :: lns r else match lns r with
   | []=>[[x]]
   | h :: t=>(x :: h) :: t
theorem jI3:∀l:List UInt8,l≠[]→10 ∉ l→lns l=[l]
 | [],h,_=>absurd rfl h
 | [x],_,h=>by
   have hx:¬ x=10:=fun e=>h (by rw[e];exact List.mem_cons_self ..);rw[lns,if_neg hx];rfl
 | x :: y :: r,_,h=>by
   have hx:¬ x=10:=fun e=>h (by rw[e];exact List.mem_cons_self ..);rw[lns,if_neg hx,jI3 (y :: r) (by simp) (fun e=>h (List.mem_cons_of_mem _ e))]
theorem jM1 (r:List UInt8):∀l:List UInt8,10 ∉ l→lns (l++10 :: r)=(l++[10]) :: lns r
 | [],_=>by rw[List.nil_append,lns,if_pos rfl];rfl
 | x :: l,h=>by
   have hx:¬ x=10:=fun e=>h (by rw[e];exact List.mem_cons_self ..);rw[List.cons_append,lns,if_neg hx,jM1 r l (fun e=>h (List.mem_cons_of_mem _ e))];rfl
theorem jM0 (l:List UInt8) (h0:l≠[]):(Lib.index l [10] = -1∧lns l=[l])∨∃i:Nat,Lib.index l [10]=i∧i<l.length∧lns l=l.take (i+1) :: lns (l.drop (i+1)):=by
 rcases jDy 10 l with h | ⟨a,r,h,rfl⟩
 ·exact .inl ⟨jB6 10 l h,jI3 l h0 h⟩
 ·refine .inr ⟨a.length,vT 10 r a h,by simp,?_⟩;rw[jM1 r a h,show a++10 :: r=(a++[10])++r by simp,List.take_left' (by simp),List.drop_left' (by simp)]
theorem jI4:∀l:List UInt8,(∀x∈lns l,x.length≤l.length)∧(lns l).length≤l.length
 | []=>⟨fun x hx=>absurd hx (by simp[lns]),Nat.le_refl _⟩
 | y :: r=>by
   have ih:=jI4 r;rw[lns];split
   ·refine⟨fun x hx=>?_,by simp;exact ih.2⟩;rcases List.mem_cons.1 hx with rfl | hx
    ·simp
    ·have:=ih.1 x hx;simp;omega
   ·split
    ·refine⟨fun x hx=>?_,by simp⟩;obtain rfl:=List.mem_singleton.1 hx;simp
    ·rename_i h t he;rw[he] at ih;refine⟨fun x hx=>?_,by simp at ih ⊢;omega⟩;rcases List.mem_cons.1 hx with rfl | hx
     ·have:=ih.1 h (List.mem_cons_self ..);simp;omega
     ·have:=ih.1 x (List.mem_cons_of_mem _ hx);simp;omega
/-! ### the way back -/
def cutB (s:ByteArray):ByteArray × ByteArray:=(⟨(Lib.cut s.data.toList [32]).1.toArray⟩,⟨(Lib.cut s.data.toList [32]).2.1.toArray⟩)
theorem jMw (x:ByteArray) (h:(32:UInt8) ∉ x.data.toList):cutB x=(x,⟨#[]⟩):=by
 have c:Lib.cut x.data.toList [32]=(x.data.toList,[],false):=by
  unfold Lib.cut;rw[jB6 32 _ h,if_neg (by omega)]
 unfold cutB;rw[c]
theorem jBc (s:ByteArray):(cutB s).1.size≤s.size∧(cutB s).2.size≤s.size:=by
 have e:s.size=s.data.toList.length:=by rw[ByteArray.size,Array.length_toList]
 rcases jDy 32 s.data.toList with h | ⟨a,r,h,h2⟩
 ·rw[jMw s h];exact⟨Nat.le_refl _,Nat.zero_le _⟩
 ·have hc:cutB s=(⟨a.toArray⟩,⟨r.toArray⟩):=by
   unfold cutB Lib.cut;rw[h2,vT 32 _ _ h,if_pos (by omega)];simp
  rw[hc,e,h2];simp[ByteArray.size];omega
def numR (s:ByteArray):Int × ByteArray × Bool:=(qJ (cutB s).1.data.toList,(cutB s).2,nB (cutB s).1.data.toList)
def mU (f:Slot→Slot):List Slot→List Slot
 | []=>[]
 | [x]=>[f x]
 | x :: y :: r=>x :: mU f (y :: r)
theorem uK (f:Slot→Slot) (x:Slot):∀l:List Slot,mU f (l++[x])=l++[f x]
 | []=>rfl
 | [y]=>rfl
 | y :: z :: r=>by
   have ih:=uK f x (z :: r);simp only[List.cons_append] at ih ⊢;rw[mU,ih]
def qK (m:Msg) (x:Slot):Slot:=⟨x.k,x.n,x.t,x.items++[m],x.vals⟩
def uC (v:Val) (x:Slot):Slot:=⟨x.k,x.n,x.t,x.items,x.vals++[v]⟩
def nC (d:Sta) (word rest:ByteArray):Option Sta :=
 if word=wState then
  if (numR rest).2.2=true∧(numR (numR rest).2.1).2.2=true then some ⟨(numR rest).1,(numR (numR rest).2.1).1,d.l⟩ else none
 else if word=wSlot then
  if (numR rest).2.2=true∧(numR (numR rest).2.1).2.2=true∧(parF (numR (numR rest).2.1).2.1).2.2=0 then
   some ⟨d.n,d.t,d.l++[⟨(parF (numR (numR rest).2.1).2.1).1,(numR rest).1,(numR (numR rest).2.1).1,[],[]⟩]⟩ else none
 else if d.l=[] then none
 else if word=wItem then match decM rest with
  | some m=>some ⟨d.n,d.t,mU (qK m) d.l⟩
  | none=>none
 else if (parF rest).2.2=0∧word=wValue then some ⟨d.n,d.t,mU (uC (parF rest).1) d.l⟩ else none
def qP:Sta→List (ByteArray × ByteArray)→Option Sta
 | d,[]=>some d
 | d,(a,b) :: l=>match nC d a b with
   | some d'=>qP d' l
   | none=>none
theorem zF:∀(l r:List (ByteArray × ByteArray)) (d d':Sta),qP d l=some d'→qP d (l++r)=qP d' r
 | [],r,d,d',h=>by
   obtain rfl:=Option.some.inj h;rfl
 | (a,b) :: l,r,d,d',h=>by
   rw[List.cons_append,qP];rw[qP] at h;cases hq:nC d a b with
   | none=>rw[hq] at h;cases h
   | some e =>
     rw[hq] at h;exact zF l r e d' h
theorem jAx:∀(l r:List (ByteArray × ByteArray)) (d:Sta),qP d l=none→qP d (l++r)=none
 | [],r,d,h=>by cases h
 | (a,b) :: l,r,d,h=>by
   rw[List.cons_append,qP];rw[qP] at h;cases hq:nC d a b with
   | none=>rfl
   | some e =>
     rw[hq] at h;exact jAx l r e h
def wordB (x:List UInt8):ByteArray × ByteArray:=cutB ⟨(Lib.trimSuffix x [10]).toArray⟩
def nQ (s:ByteArray):List (ByteArray × ByteArray):=(lns s.data.toList).map wordB
def decS (s:ByteArray):Option Sta:=match qP ⟨0,0,[]⟩ (nQ s) with
 | some d=>if encS d=(s,0) then some d else none
 | none=>none
theorem jL6 (l:List UInt8):(Lib.trimSuffix l [10]).length≤l.length:=by
 unfold Lib.trimSuffix;split
 ·rw[List.length_take];omega
 ·exact Nat.le_refl _
theorem jIy (x:List UInt8):(wordB x).1.size≤x.length∧(wordB x).2.size≤x.length:=by
 have h1:=jL6 x;have h2:=jBc ⟨(Lib.trimSuffix x [10]).toArray⟩;rw[kC] at h2;exact⟨Nat.le_trans h2.1 h1,Nat.le_trans h2.2 h1⟩
theorem jGs (s:ByteArray) (x:ByteArray × ByteArray) (h:x∈nQ s):x.2.size≤s.size:=by
 unfold nQ at h;obtain⟨l,hl,rfl⟩:=List.mem_map.1 h;have h1:=(jI4 s.data.toList).1 l hl;have h2:=jIy l;rw[blen] at h1;omega
theorem jCg (s:ByteArray):(nQ s).length≤s.size:=by
 have h1:=(jI4 s.data.toList).2;unfold nQ;rw[List.length_map];rw[blen] at h1;exact h1
structure LnOK (word rest:ByteArray):Prop where
 z:rest.size≤120000
 slot:word=wSlot→(numR (numR rest).2.1).2.1.size≤65536
 item:word=wItem→∀a b c e,vC 4 rest=[a,b,c,e]→e.size≤65536
 other:word≠wState→word≠wSlot→word≠wItem→rest.size≤65536
theorem qT (s:ByteArray):(numR s).2.1.size≤s.size:=(jBc s).2
theorem LnOK.small {word rest:ByteArray} (h:rest.size≤65536):LnOK word rest :=
 ⟨by omega,fun _=>by have a:=qT rest;have b:=qT (numR rest).2.1;omega,fun _ a b c e he=>by have:=uJ 4 rest e (by rw[he];simp);omega,fun _ _ _=>h⟩
theorem decS_enc {s:ByteArray} {d:Sta} (h:decS s=some d):encS d=(s,0):=by
 unfold decS at h;split at h
 ·split at h
  ·rename_i hc;obtain rfl:=Option.some.inj h;exact hc
  ·cases h
 ·cases h
theorem jKg {d:Sta} (h:(encS d).2=0):kN d=0:=by
 unfold encS at h;by_cases h0:kN d=0
 ·exact h0
 ·rw[if_pos h0] at h;exact h
end
section
open Go Go.RowKit Go.Shelf
theorem jFh:(Tryz.prog.info? 107).map (fun i=>(i.zero,i.size,i.bytes))=some (some (.agg #[.int .i64 0,.int .i64 0,.int .i64 0,.string ByteArray.empty,.slice none 0 0,.slice none 0 0,.int .i64 0,.int .i64 0,.slice none 0 0,.slice none 0 0]),10,152):=by kernel_rfl
abbrev SlC.iv (c:SlC):Value:=.slice c.ia c.il c.ic
abbrev SlC.vv (c:SlC):Value:=.slice c.va c.vl c.vc
theorem zR:∀l:List SlC,(l.flatMap SlC.cs).length=l.length * 10
 | []=>rfl
 | c :: l=>by rw[List.flatMap_cons,List.length_append,zR l,List.length_cons];show 10+l.length * 10=_;omega
structure DS (B:Nat) (sv iv vv:Value) (w:World) (k:Nat):Prop where
 le:B≤k
 lt:k<w.heap.size
 s:some k≠sv.ownBlock
 i:some k≠iv.ownBlock
 v:some k≠vv.ownBlock
theorem jB2 {w w':World} {B T n m:Nat} {v:Value} {xs:List Value} (h:w.ownsRow B T n v m xs) (hk:∀k o,v.ownBlock=some k→w.heap[k]?=some o→w'.heap[k]?=some o):w'.ownsRow B T n v m xs:=by
 refine⟨h.1,?_⟩;rcases h.2 with h0 | ⟨g,cap,cur,rfl,hb,hh,r⟩
 ·exact .inl h0
 ·exact .inr ⟨g,cap,cur,rfl,hb,hk g _ rfl hh,r⟩
section
variable {C D:Type} (K:Kit C D)
def RowO (T B:Nat) (S:Nat→Prop) (w:World) (v:Value) (l:List D):Prop :=
 ∃cs:List C,cs.length=l.length∧w.ownsRow B T K.n v l.length (cs.flatMap K.cs)∧∀j (h:j<cs.length) (h':j<l.length),K.Is S w cs[j] l[j]
variable {K}
theorem RowO.nil (T B:Nat) (S:Nat→Prop) (w:World):RowO K T B S w (.slice none 0 0) []:=⟨[],rfl,World.ownsRow_nil _ _ _ _,fun j h=>absurd h (by simp)⟩
theorem RowO.own {T B:Nat} {S:Nat→Prop} {w:World} {v:Value} {l:List D} (h:RowO K T B S w v l):∀k,v.ownBlock=some k→B≤k∧k<w.heap.size:=by
 obtain⟨_,_,h2,_⟩:=h;exact h2.lt
theorem RowO.move {T B:Nat} {S S':Nat→Prop} {w w':World} {v:Value} {l:List D} (h:RowO K T B S w v l) (ho:∀k o,v.ownBlock=some k→w.heap[k]?=some o→w'.heap[k]?=some o) (hs:∀b,S b→S' b∧w'.heap[b]?=w.heap[b]?):RowO K T B S' w' v l:=by
 obtain⟨cs,h1,h2,h3⟩:=h;exact⟨cs,h1,jB2 h2 ho,fun j a b=>K.same hs (h3 j a b)⟩
theorem RowO.row {T B:Nat} {S S':Nat→Prop} {w:World} {a:Option Addr} {n cap:Nat} {l:List D} (h:RowO K T B S w (.slice a n cap) l) (hbig:l.length * K.by'≤140737488351232) (hS:∀k,(Value.slice a n cap).ownBlock=some k→S' k) (hSS:∀b,S b→S' b):IsRow K S' w a n cap l:=by
 obtain⟨cs,h1,h2,h3⟩:=h;rcases h2.2 with ⟨h4,h5⟩ | ⟨g,cap',cur,hv,hb,hg,hn,_⟩
 ·simp only[Value.slice.injEq] at h4;obtain⟨rfl,rfl,rfl⟩:=h4;exact⟨h5.symm,Nat.le_refl _,by simp,.inl (List.eq_nil_of_length_eq_zero h5)⟩
 ·simp only[Value.slice.injEq] at hv;obtain⟨rfl,rfl,rfl⟩:=hv;refine⟨rfl,hn,hbig,.inr ⟨g,0,rfl,hS g rfl,fun j hj=>⟨cs[j]'(by omega),?_,?_⟩⟩⟩
  ·rw[Nat.zero_add];exact AtG.ofRow h2 j (by omega)
  ·exact K.same (fun b q=>⟨hSS b q,rfl⟩) (h3 j (by omega) hj)
end
structure LastO (B:Nat) (w:World) (sv:Value) (ls:List Slot) (x:Slot) (cs:List SlC) (c:SlC):Prop where
 len:cs.length=ls.length
 row:w.ownsRow B 107 10 sv (cs.length+1) ((cs++[c]).flatMap SlC.cs)
 old:∀j (h:j<cs.length) (h':j<ls.length),IsSl (DS B sv c.iv c.vv w) w cs[j] ls[j]
 k:IsVal (DS B sv c.iv c.vv w) w c.k x.k
 n:c.n=x.n
 rn:I64 x.n
 t:c.t=x.t
 rt:I64 x.t
 items:RowO msgK 120 B (DS B sv c.iv c.vv w) w c.iv x.items
 vals:RowO valK 25 B (DS B sv c.iv c.vv w) w c.vv x.vals
 d1:∀k,c.iv.ownBlock=some k→sv.ownBlock≠some k∧c.vv.ownBlock≠some k
 d2:∀k,c.vv.ownBlock=some k→sv.ownBlock≠some k
theorem LastO.move {B:Nat} {w w':World} {sv:Value} {ls:List Slot} {x:Slot} {cs:List SlC} {c:SlC} (h:LastO B w sv ls x cs c) (hb:∀k,B≤k→k<w.heap.size→w'.heap[k]?=w.heap[k]?) (hz:w.heap.size≤w'.heap.size):LastO B w' sv ls x cs c:=by
 have hD:∀b,DS B sv c.iv c.vv w b→DS B sv c.iv c.vv w' b∧w'.heap[b]?=w.heap[b]?:=fun b q=>⟨⟨q.le,Nat.lt_of_lt_of_le q.lt hz,q.s,q.i,q.v⟩,hb b q.le q.lt⟩
 have hO:∀(v:Value),(∀k,v.ownBlock=some k→B≤k∧k<w.heap.size)→∀k o,v.ownBlock=some k→w.heap[k]?=some o→w'.heap[k]?=some o:=fun v hv k o hk ho=>(hb k (hv k hk).1 (hv k hk).2).trans ho;exact⟨h.len,jB2 h.row (hO _ h.row.lt),fun j a b=>(h.old j a b).same hD,h.k.same hD,h.n,h.rn,h.t,h.rt,h.items.move (hO _ h.items.own) hD,h.vals.move (hO _ h.vals.own) hD,h.d1,h.d2⟩
def SlotsO (B:Nat) (w:World) (sv:Value) (l:List Slot):Prop:=(l=[]∧w.ownsRow B 107 10 sv 0 [])∨∃ls x cs c,l=ls++[x]∧LastO B w sv ls x cs c
theorem SlotsO.move {B:Nat} {w w':World} {sv:Value} {l:List Slot} (h:SlotsO B w sv l) (hb:∀k,B≤k→k<w.heap.size→w'.heap[k]?=w.heap[k]?) (hz:w.heap.size≤w'.heap.size):SlotsO B w' sv l:=by
 rcases h with ⟨rfl,h⟩ | ⟨ls,x,cs,c,rfl,h⟩
 ·exact .inl ⟨rfl,jB2 h fun k o hk ho=>(hb k (h.lt k hk).1 (h.lt k hk).2).trans ho⟩
 ·exact .inr ⟨ls,x,cs,c,rfl,h.move hb hz⟩
theorem SlotsO.own {B:Nat} {w:World} {sv:Value} {l:List Slot} (h:SlotsO B w sv l):∀k,sv.ownBlock=some k→B≤k∧k<w.heap.size:=by
 rcases h with ⟨rfl,h⟩ | ⟨ls,x,cs,c,rfl,h⟩
 ·exact h.lt
 ·exact h.row.lt
def Sz (n:Nat) (l:List Slot):Prop:=l.length≤n∧∀x∈l,x.items.length≤n∧x.vals.length≤n
theorem SlotsO.built {B:Nat} {w:World} {sv:Value} {l:List Slot} {n:Nat} (h:SlotsO B w sv l) (hz:Sz n l) (hn:n≤100000):Built slK 107 B w sv l.length l:=by
 rcases h with ⟨rfl,h⟩ | ⟨ls,x,cs,c,rfl,h⟩
 ·exact⟨[],rfl,h,fun j a=>absurd a (by simp)⟩
 ·have hx:=hz.2 x (by simp);have hS:∀b,DS B sv c.iv c.vv w b→B≤b∧b<w.heap.size∧some b≠sv.ownBlock:=fun b q=>⟨q.le,q.lt,q.s⟩
  have hsame:∀b,DS B sv c.iv c.vv w b→(B≤b∧b<w.heap.size∧some b≠sv.ownBlock)∧w.heap[b]?=w.heap[b]?:=fun b q=>⟨hS b q,rfl⟩
  have hi:∀k,c.iv.ownBlock=some k→B≤k∧k<w.heap.size∧some k≠sv.ownBlock:=fun k hk=>⟨(h.items.own k hk).1,(h.items.own k hk).2,fun e=>(h.d1 k hk).1 e.symm⟩
  have hv:∀k,c.vv.ownBlock=some k→B≤k∧k<w.heap.size∧some k≠sv.ownBlock:=fun k hk=>⟨(h.vals.own k hk).1,(h.vals.own k hk).2,fun e=>h.d2 k hk e.symm⟩
  have hlast:IsSl (fun b=>B≤b∧b<w.heap.size∧some b≠sv.ownBlock) w c x :=
   ⟨h.k.same hsame,h.n,h.rn,h.t,h.rt,h.items.row (by show x.items.length * 152≤_;omega) hi hS,h.vals.row (by show x.vals.length * 88≤_;omega) hv hS⟩
  refine⟨cs++[c],by simp[h.len],by rw[List.length_append,List.length_singleton,←h.len];exact h.row,fun j h1 h2=>?_⟩;by_cases hj:j<cs.length
  ·rw[List.getElem_append_left hj,List.getElem_append_left (by have:=h.len;omega)];exact(h.old j hj (by have:=h.len;omega)).same hsame
  ·have e1:j=cs.length:=by simp at h1;omega
   rw[List.getElem_append_right (by omega),List.getElem_append_right (by have:=h.len;omega)];simp only[e1,h.len,Nat.sub_self,List.getElem_cons_zero];exact hlast
theorem SlotsO.push {B N:Nat} {w1 w2:World} {sv:Value} {l:List Slot} {cs:List SlC} {k:VC} {dk:Val} {n t:Int} {o:Obj} {g cap:Nat} (hcs:cs.length=l.length)
 (hel:∀j (h:j<cs.length) (h':j<l.length),IsSl (fun b=>B≤b∧b<w1.heap.size∧some b≠sv.ownBlock) w1 cs[j] l[j])
 (hk:IsVal (fun b=>N≤b∧b<w1.heap.size) w1 k dk) (hn:I64 n) (ht:I64 t) (hN:B≤N) (hv:∀r,sv.ownBlock=some r→r<N)
 (hown:w2.ownsRow B 107 10 (.slice (some ⟨g,0,none⟩) (l.length+1) cap) (l.length+1) (cs.flatMap SlC.cs++SlC.cs ⟨k,n,t,none,0,0,none,0,0⟩)) (hgrow:(w1.alloc o).grownBy w2 sv.ownBlock) (hat:sv.ownBlock=some g∨g=w1.heap.size+1) :
 SlotsO B w2 (.slice (some ⟨g,0,none⟩) (l.length+1) cap) (l++[⟨dk,n,t,[],[]⟩]):=by
 have hsz:w1.heap.size+1≤w2.heap.size:=by have:=hgrow.size;simpa using this
 have hst:∀b,b<w1.heap.size→some b≠sv.ownBlock→w2.heap[b]?=w1.heap[b]?:=fun b hb hne =>
  (hgrow.block b (by simp;omega) hne).trans (Below.heap_alloc _ _ _ hb)
 have hD:∀b,B≤b→b<w1.heap.size→some b≠sv.ownBlock→DS B (.slice (some ⟨g,0,none⟩) (l.length+1) cap) (.slice none 0 0) (.slice none 0 0) w2 b∧w2.heap[b]?=w1.heap[b]?:=fun b h0 h1 h2=>by
  refine⟨⟨h0,by omega,fun e=>?_,(by simp[Value.ownBlock]),(by simp[Value.ownBlock])⟩,hst b h1 h2⟩;simp only[Value.ownBlock,Option.some.injEq] at e;subst e;rcases hat with h | h
  ·exact h2 h.symm
  ·omega
 refine .inr ⟨l,_,cs,⟨k,n,t,none,0,0,none,0,0⟩,rfl,hcs,?_,fun j a b=>(hel j a b).same fun b q=>hD b q.1 q.2.1 q.2.2,hk.same fun b q=>hD b (by omega) q.2 (fun e=>by have:=hv b e.symm;omega),rfl,hn,rfl,ht,RowO.nil _ _ _ _,RowO.nil _ _ _ _,fun k e=>(by simp[Value.ownBlock] at e),fun k e=>(by simp[Value.ownBlock] at e)⟩;rw[List.flatMap_append,List.flatMap_singleton,hcs];exact hown
theorem LastO.pushI {B N:Nat} {w1 w2:World} {gs scap:Nat} {ls:List Slot} {x:Slot} {cs:List SlC} {c:SlC} {xs:List MC} {m:MC} {dm:Msg} {o:Obj} {g cap:Nat}
 (h:LastO B w1 (.slice (some ⟨gs,0,none⟩) (ls.length+1) scap) ls x cs c) (hxs:xs.length=x.items.length) (hel:∀j (h:j<xs.length) (h':j<x.items.length),msgK.Is (DS B (.slice (some ⟨gs,0,none⟩) (ls.length+1) scap) c.iv c.vv w1) w1 xs[j] x.items[j])
 (hm:msgK.Is (fun b=>N≤b∧b<w1.heap.size) w1 m dm) (hBN:B≤N) (hgN:gs<N) (hiN:∀r,c.iv.ownBlock=some r→r<N) (hvN:∀r,c.vv.ownBlock=some r→r<N)
 (hown:w2.ownsRow B 120 msgK.n (.slice (some ⟨g,0,none⟩) (x.items.length+1) cap) (x.items.length+1) (xs.flatMap MC.cs++MC.cs m)) (hgrow:(w1.alloc o).grownBy w2 c.iv.ownBlock) (hat:c.iv.ownBlock=some g∨g=w1.heap.size+1) :
 LastO B (w2.setCell ⟨gs,ls.length * 10+8,none⟩ (.slice (some ⟨g,0,none⟩) (x.items.length+1) cap)) (.slice (some ⟨gs,0,none⟩) (ls.length+1) scap) ls (qK dm x) cs ⟨c.k,c.n,c.t,some ⟨g,0,none⟩,x.items.length+1,cap,c.va,c.vl,c.vc⟩:=by
 obtain⟨sv,hsv⟩:∃sv,sv=Value.slice (some ⟨gs,0,none⟩) (ls.length+1) scap:=⟨_,rfl⟩
 obtain⟨nv,hnv⟩:∃nv,nv=Value.slice (some ⟨g,0,none⟩) (x.items.length+1) cap:=⟨_,rfl⟩
 have hso:sv.ownBlock=some gs:=by rw[hsv];rfl
 have hno:nv.ownBlock=some g:=by rw[hnv];rfl
 have hlt:=h.row.lt gs (by rfl);have hd1:c.iv.ownBlock≠some gs:=fun e=>by have:=h.d1;have:=h.d2;simp_all [Value.ownBlock]
 have hd2:∀r,c.vv.ownBlock=some r→c.iv.ownBlock≠some r:=fun r e e2=>by have:=h.d1;have:=h.d2;simp_all
 have hd3:c.vv.ownBlock≠some gs:=fun e=>by have:=h.d1;have:=h.d2;simp_all [Value.ownBlock]
 have hoL:∀r,c.vv.ownBlock=some r→B≤r∧r<w1.heap.size:=h.vals.own;have hsz:w1.heap.size+1≤w2.heap.size:=by have:=hgrow.size;simpa using this
 have hst:∀b,b<w1.heap.size→c.iv.ownBlock≠some b→b≠gs→(w2.setCell ⟨gs,ls.length * 10+8,none⟩ nv).heap[b]?=w1.heap[b]?:=fun b hb hne hg =>
  (Below.heap_setCell _ _ _ _ hg).trans ((hgrow.block b (by simp;omega) (fun e=>hne e.symm)).trans (Below.heap_alloc _ _ _ hb))
 have hgne:g≠gs:=fun e=>by
  rcases hat with hat | hat
  ·exact hd1 (by rw[hat,e])
  ·omega
 have hgo:∀r,c.vv.ownBlock=some r→r≠g:=fun r e1 e2=>by
  rcases hat with hat | hat
  ·exact hd2 r e1 (by rw[hat,e2])
  ·have:=(hoL r e1).2;omega
 rw[←hsv] at h hel ⊢;rw[←hnv] at hown ⊢;have hDS:∀b,DS B sv c.iv c.vv w1 b→DS B sv nv c.vv (w2.setCell ⟨gs,ls.length * 10+8,none⟩ nv) b∧(w2.setCell ⟨gs,ls.length * 10+8,none⟩ nv).heap[b]?=w1.heap[b]?:=fun b hb=>by
  have e1:b≠gs:=fun e=>hb.s (by rw[hso,e]);have e2:c.iv.ownBlock≠some b:=fun e=>hb.i e.symm;have e3:b≠g:=fun e=>by
   rcases hat with hat | hat
   ·exact e2 (by rw[hat,e])
   ·have:=hb.lt;omega
  refine⟨⟨hb.le,by have:=hb.lt;simp only[World.setCell,Array.size_modify];omega,hb.s,?_,hb.v⟩,hst b hb.lt e2 e1⟩;rw[hno];intro e;exact e3 (Option.some.inj e)
 have hNS:∀b,N≤b∧b<w1.heap.size→DS B sv nv c.vv (w2.setCell ⟨gs,ls.length * 10+8,none⟩ nv) b∧(w2.setCell ⟨gs,ls.length * 10+8,none⟩ nv).heap[b]?=w1.heap[b]?:=fun b hb=>by
  refine hDS b ⟨by omega,hb.2,fun e=>?_,fun e=>?_,fun e=>?_⟩
  ·rw[hso] at e;have:=Option.some.inj e;omega
  ·have:=hiN b e.symm;omega
  ·have:=hvN b e.symm;omega
 subst hnv;refine⟨h.len,?_,fun j h1 h2=>(h.old j h1 h2).same hDS,h.k.same hDS,h.n,h.rn,h.t,h.rt,?_,?_,?_,?_⟩
 ·have hr2:w2.ownsRow B 107 10 sv (cs.length+1) ((cs++[c]).flatMap SlC.cs):=(h.row.alloc o).kept hgrow (.inr (by rw[hso];exact fun e=>hd1 e.symm));rw[hsv,←h.len] at hr2 ⊢;have q:=(hr2.stored (cs.length * 10+8) (Value.slice (some ⟨g,0,none⟩) (x.items.length+1) cap)).1;have hf:∀l:List SlC,(l.flatMap SlC.cs).length=l.length * 10:=zR;have e:((cs++[c]).flatMap SlC.cs).set (cs.length * 10+8) (Value.slice (some ⟨g,0,none⟩) (x.items.length+1) cap)=(cs++[(⟨c.k,c.n,c.t,some ⟨g,0,none⟩,x.items.length+1,cap,c.va,c.vl,c.vc⟩:SlC)]).flatMap SlC.cs:=by
   rw[List.flatMap_append,List.flatMap_append,List.set_append_right _ _ (by rw[hf];omega),hf,show cs.length * 10+8-cs.length * 10=8 by omega];rfl
  rw[e] at q;exact q
 ·refine⟨xs++[m],by simp[hxs,qK],?_,fun j h1 h2=>?_⟩
  ·have q:=ownsRow_setCell_other (a:=⟨gs,ls.length * 10+8,none⟩) hown (by rw[hno];exact fun e=>hgne (Option.some.inj e)) (Value.slice (some ⟨g,0,none⟩) (x.items.length+1) cap);simp only[qK,List.length_append,List.length_singleton,List.flatMap_append,List.flatMap_singleton];exact q
  ·simp only[qK];by_cases hj:j<xs.length
   ·rw[List.getElem_append_left hj,List.getElem_append_left (by omega)];exact msgK.same hDS (hel j hj (by omega))
   ·have e1:j=xs.length:=by simp at h1;omega
    rw[List.getElem_append_right (by omega),List.getElem_append_right (by omega)];simp only[e1,hxs,Nat.sub_self,List.getElem_cons_zero];exact msgK.same hNS hm
 ·exact h.vals.move (fun k ob hk ho=>(hst k (hoL k hk).2 (hd2 k hk) (fun e=>hd3 (by rw[hk,e]))).trans ho) hDS
 ·intro k hk;have hk':(Value.slice (some ⟨g,0,none⟩) (x.items.length+1) cap).ownBlock=some k:=hk;rw[hno] at hk';obtain rfl:=Option.some.inj hk';exact⟨by rw[hso];exact fun e=>hgne (Option.some.inj e).symm,fun e=>hgo g e rfl⟩
 ·exact h.d2
theorem LastO.pushV {B N:Nat} {w1 w2:World} {gs scap:Nat} {ls:List Slot} {x:Slot} {cs:List SlC} {c:SlC} {xs:List VC} {m:VC} {dm:Val} {o:Obj} {g cap:Nat}
 (h:LastO B w1 (.slice (some ⟨gs,0,none⟩) (ls.length+1) scap) ls x cs c) (hxs:xs.length=x.vals.length) (hel:∀j (h:j<xs.length) (h':j<x.vals.length),valK.Is (DS B (.slice (some ⟨gs,0,none⟩) (ls.length+1) scap) c.iv c.vv w1) w1 xs[j] x.vals[j])
 (hm:valK.Is (fun b=>N≤b∧b<w1.heap.size) w1 m dm) (hBN:B≤N) (hgN:gs<N) (hiN:∀r,c.iv.ownBlock=some r→r<N) (hvN:∀r,c.vv.ownBlock=some r→r<N)
 (hown:w2.ownsRow B 25 valK.n (.slice (some ⟨g,0,none⟩) (x.vals.length+1) cap) (x.vals.length+1) (xs.flatMap VC.cs++VC.cs m)) (hgrow:(w1.alloc o).grownBy w2 c.vv.ownBlock) (hat:c.vv.ownBlock=some g∨g=w1.heap.size+1) :
 LastO B (w2.setCell ⟨gs,ls.length * 10+9,none⟩ (.slice (some ⟨g,0,none⟩) (x.vals.length+1) cap)) (.slice (some ⟨gs,0,none⟩) (ls.length+1) scap) ls (uC dm x) cs ⟨c.k,c.n,c.t,c.ia,c.il,c.ic,some ⟨g,0,none⟩,x.vals.length+1,cap⟩:=by
 obtain⟨sv,hsv⟩:∃sv,sv=Value.slice (some ⟨gs,0,none⟩) (ls.length+1) scap:=⟨_,rfl⟩
 obtain⟨nv,hnv⟩:∃nv,nv=Value.slice (some ⟨g,0,none⟩) (x.vals.length+1) cap:=⟨_,rfl⟩
 have hso:sv.ownBlock=some gs:=by rw[hsv];rfl
 have hno:nv.ownBlock=some g:=by rw[hnv];rfl
 have hlt:=h.row.lt gs (by rfl);have hd1:c.vv.ownBlock≠some gs:=fun e=>by have:=h.d1;have:=h.d2;simp_all [Value.ownBlock]
 have hd2:∀r,c.iv.ownBlock=some r→c.vv.ownBlock≠some r:=fun r e e2=>by have:=h.d1;have:=h.d2;simp_all
 have hd3:c.iv.ownBlock≠some gs:=fun e=>by have:=h.d1;have:=h.d2;simp_all [Value.ownBlock]
 have hoL:∀r,c.iv.ownBlock=some r→B≤r∧r<w1.heap.size:=h.items.own;have hsz:w1.heap.size+1≤w2.heap.size:=by have:=hgrow.size;simpa using this
 have hst:∀b,b<w1.heap.size→c.vv.ownBlock≠some b→b≠gs→(w2.setCell ⟨gs,ls.length * 10+9,none⟩ nv).heap[b]?=w1.heap[b]?:=fun b hb hne hg =>
  (Below.heap_setCell _ _ _ _ hg).trans ((hgrow.block b (by simp;omega) (fun e=>hne e.symm)).trans (Below.heap_alloc _ _ _ hb))
 have hgne:g≠gs:=fun e=>by
  rcases hat with hat | hat
  ·exact hd1 (by rw[hat,e])
  ·omega
 have hgo:∀r,c.iv.ownBlock=some r→r≠g:=fun r e1 e2=>by
  rcases hat with hat | hat
  ·exact hd2 r e1 (by rw[hat,e2])
  ·have:=(hoL r e1).2;omega
 rw[←hsv] at h hel ⊢;rw[←hnv] at hown ⊢;have hDS:∀b,DS B sv c.iv c.vv w1 b→DS B sv c.iv nv (w2.setCell ⟨gs,ls.length * 10+9,none⟩ nv) b∧(w2.setCell ⟨gs,ls.length * 10+9,none⟩ nv).heap[b]?=w1.heap[b]?:=fun b hb=>by
  have e1:b≠gs:=fun e=>hb.s (by rw[hso,e]);have e2:c.vv.ownBlock≠some b:=fun e=>hb.v e.symm;have e3:b≠g:=fun e=>by
   rcases hat with hat | hat
   ·exact e2 (by rw[hat,e])
   ·have:=hb.lt;omega
  refine⟨⟨hb.le,by have:=hb.lt;simp only[World.setCell,Array.size_modify];omega,hb.s,hb.i,?_⟩,hst b hb.lt e2 e1⟩;rw[hno];intro e;exact e3 (Option.some.inj e)
 have hNS:∀b,N≤b∧b<w1.heap.size→DS B sv c.iv nv (w2.setCell ⟨gs,ls.length * 10+9,none⟩ nv) b∧(w2.setCell ⟨gs,ls.length * 10+9,none⟩ nv).heap[b]?=w1.heap[b]?:=fun b hb=>by
  refine hDS b ⟨by omega,hb.2,fun e=>?_,fun e=>?_,fun e=>?_⟩
  ·rw[hso] at e;have:=Option.some.inj e;omega
  ·have:=hiN b e.symm;omega
  ·have:=hvN b e.symm;omega
 subst hnv;refine⟨h.len,?_,fun j h1 h2=>(h.old j h1 h2).same hDS,h.k.same hDS,h.n,h.rn,h.t,h.rt,?_,?_,?_,?_⟩
 ·have hr2:w2.ownsRow B 107 10 sv (cs.length+1) ((cs++[c]).flatMap SlC.cs):=(h.row.alloc o).kept hgrow (.inr (by rw[hso];exact fun e=>hd1 e.symm));rw[hsv,←h.len] at hr2 ⊢;have q:=(hr2.stored (cs.length * 10+9) (Value.slice (some ⟨g,0,none⟩) (x.vals.length+1) cap)).1;have hf:∀l:List SlC,(l.flatMap SlC.cs).length=l.length * 10:=zR;have e:((cs++[c]).flatMap SlC.cs).set (cs.length * 10+9) (Value.slice (some ⟨g,0,none⟩) (x.vals.length+1) cap)=(cs++[(⟨c.k,c.n,c.t,c.ia,c.il,c.ic,some ⟨g,0,none⟩,x.vals.length+1,cap⟩:SlC)]).flatMap SlC.cs:=by
   rw[List.flatMap_append,List.flatMap_append,List.set_append_right _ _ (by rw[hf];omega),hf,show cs.length * 10+9-cs.length * 10=9 by omega];rfl
  rw[e] at q;exact q
 ·exact h.items.move (fun k ob hk ho=>(hst k (hoL k hk).2 (hd2 k hk) (fun e=>hd3 (by rw[hk,e]))).trans ho) hDS
 ·refine⟨xs++[m],by simp[hxs,uC],?_,fun j h1 h2=>?_⟩
  ·have q:=ownsRow_setCell_other (a:=⟨gs,ls.length * 10+9,none⟩) hown (by rw[hno];exact fun e=>hgne (Option.some.inj e)) (Value.slice (some ⟨g,0,none⟩) (x.vals.length+1) cap);simp only[uC,List.length_append,List.length_singleton,List.flatMap_append,List.flatMap_singleton];exact q
  ·simp only[uC];by_cases hj:j<xs.length
   ·rw[List.getElem_append_left hj,List.getElem_append_left (by omega)];exact valK.same hDS (hel j hj (by omega))
   ·have e1:j=xs.length:=by simp at h1;omega
    rw[List.getElem_append_right (by omega),List.getElem_append_right (by omega)];simp only[e1,hxs,Nat.sub_self,List.getElem_cons_zero];exact valK.same hNS hm
 ·intro k hk;refine⟨(h.d1 k hk).1,fun e=>?_⟩;have e':(Value.slice (some ⟨g,0,none⟩) (x.vals.length+1) cap).ownBlock=some k:=e;rw[hno] at e';exact hgo k hk (Option.some.inj e').symm
 ·intro k hk;have hk':(Value.slice (some ⟨g,0,none⟩) (x.vals.length+1) cap).ownBlock=some k:=hk;rw[hno] at hk';obtain rfl:=Option.some.inj hk';rw[hso];exact fun e=>hgne (Option.some.inj e).symm
def StOwn (B b:Nat) (w:World) (d:Sta):Prop:=∃sv:Value,w.heap[b]?=some (.cells #[.int .i64 d.n,.int .i64 d.t,sv] 43)∧I64 d.n∧I64 d.t∧SlotsO B w sv d.l
theorem StOwn.move {B b:Nat} {w w':World} {d:Sta} (h:StOwn B b w d) (hk:w'.heap[b]?=w.heap[b]?) (hb:∀k,B≤k→k<w.heap.size→w'.heap[k]?=w.heap[k]?) (hz:w.heap.size≤w'.heap.size):StOwn B b w' d:=by
 obtain⟨sv,h1,h2,h3,h4⟩:=h;exact⟨sv,hk.trans h1,h2,h3,h4.move hb hz⟩
theorem xS (f:Slot→Slot):∀l:List Slot,(mU f l).length=l.length
 | []=>rfl
 | [x]=>rfl
 | x :: y :: r=>by rw[mU,List.length_cons,xS f (y :: r)];rfl
theorem xR (f:Slot→Slot):∀(l:List Slot) (z:Slot),z∈mU f l→∃x∈l,z=x∨z=f x
 | [],z,h=>absurd h (by simp[mU])
 | [x],z,h=>⟨x,by simp,.inr (by simpa [mU] using h)⟩
 | x :: y :: r,z,h=>by
   rw[mU] at h;rcases List.mem_cons.1 h with rfl | h
   ·exact⟨z,by simp,.inl rfl⟩
   ·obtain⟨u,hu,hz⟩:=xR f (y :: r) z h;exact⟨u,List.mem_cons_of_mem _ hu,hz⟩
theorem Sz.up {n:Nat} {l:List Slot} (h:Sz n l):Sz (n+1) l:=⟨Nat.le_succ_of_le h.1,fun x hx=>⟨Nat.le_succ_of_le (h.2 x hx).1,Nat.le_succ_of_le (h.2 x hx).2⟩⟩
theorem readF_sz {n:Nat} {d d':Sta} {a b:ByteArray} (h:Sz n d.l) (hr:nC d a b=some d'):Sz (n+1) d'.l:=by
 unfold nC at hr;split at hr
 ·split at hr
  ·obtain rfl:=Option.some.inj hr;exact h.up
  ·cases hr
 split at hr
 ·split at hr
  ·obtain rfl:=Option.some.inj hr;refine⟨by have:=h.1;simp;omega,fun x hx=>?_⟩;rcases List.mem_append.1 hx with hx | hx
   ·exact h.up.2 x hx
   ·obtain rfl:=List.mem_singleton.1 hx;exact⟨Nat.zero_le _,Nat.zero_le _⟩
  ·cases hr
 split at hr
 ·cases hr
 split at hr
 ·split at hr
  ·obtain rfl:=Option.some.inj hr;refine⟨by rw[xS];have:=h.1;omega,fun x hx=>?_⟩;obtain⟨u,hu,hz⟩:=xR _ _ _ hx;have q:=h.2 u hu;rcases hz with rfl | rfl
   ·exact⟨by omega,by omega⟩
   ·exact⟨by simp[qK];omega,by simp[qK];omega⟩
  ·cases hr
 split at hr
 ·obtain rfl:=Option.some.inj hr;refine⟨by rw[xS];have:=h.1;omega,fun x hx=>?_⟩;obtain⟨u,hu,hz⟩:=xR _ _ _ hx;have q:=h.2 u hu;rcases hz with rfl | rfl
  ·exact⟨by omega,by omega⟩
  ·exact⟨by simp[uC];omega,by simp[uC];omega⟩
 ·cases hr
theorem yH:∀(l:List (ByteArray × ByteArray)) (n:Nat) (d d':Sta),Sz n d.l→qP d l=some d'→Sz (n+l.length) d'.l
 | [],n,d,d',h,hr=>by
   obtain rfl:=Option.some.inj hr;exact h
 | (a,b) :: l,n,d,d',h,hr=>by
   rw[qP] at hr;cases hq:nC d a b with
   | none=>rw[hq] at hr;cases hr
   | some e =>
     rw[hq] at hr;have:=yH l (n+1) e d' (readF_sz h hq) hr;rw[List.length_cons,show n+(l.length+1)=n+1+l.length by omega];exact this
end
end Go.Proofs.YtaofolgaiipcjaaGreatDoor
