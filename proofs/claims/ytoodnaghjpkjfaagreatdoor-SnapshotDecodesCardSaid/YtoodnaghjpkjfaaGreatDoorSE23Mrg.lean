/- A part. -/
import Derived.Test.YtoodnaghjpkjfaaGreatDoorSE22Mrg
import Derived.Laws.OwnMore
namespace Go.Proofs.YtoodnaghjpkjfaaGreatDoor
open Tryz
set_option linter.unusedVariables false
set_option maxRecDepth 100000
set_option maxHeartbeats 64000000
set_option linter.unusedSimpArgs false
open Go Go.RowKit Go.Shelf
section
theorem aL5:(prog.info? 144).map (λi=>(i.zero,i.size,i.bytes))=some (some (.agg #[I6 0,I6 0,I6 0,Sv ByteArray.empty,Z0,Z0,I6 0,I6 0,Z0,Z0]),10,152):=by kernel_rfl
abbrev SlC.iv (c:SlC):Value:=.slice c.ia c.il c.ic
abbrev SlC.vv (c:SlC):Value:=.slice c.va c.vl c.vc
theorem qT:∀l:List SlC,(l.flatMap SlC.cs).length=l.length * 10
 | []=>rfl
 | c :: l=>by rw[nh,ik,qT l,im];show 10+l.length * 10=_;omega
structure DS (B:Nat) (sv iv vv:Value) (w:World) (k:Nat):Prop where
 le:B<=k
 lt:k<w.heap.size
 s:some k≠sv.ownBlock
 i:some k≠iv.ownBlock
 v:some k≠vv.ownBlock
theorem gJ {w w':World} {B T n m:Nat} {v:Value} {xs:List Value} (h:w.ownsRow B T n v m xs) (hk:∀k o,v.ownBlock=some k->w.heap[k]?=some o->w'.heap[k]?=some o):w'.ownsRow B T n v m xs:=by
 refine⟨h.1,?_⟩;rcases h.2 with h0|⟨g,cap,cur,rfl,hb,hh,r⟩
 ·exact .inl h0
 ·exact .inr ⟨g,cap,cur,rfl,hb,hk g _ rfl hh,r⟩
section
variable {C D:Type} (K:Kit C D)
def RowO (T B:Nat) (S:Nat->Prop) (w:World) (v:Value) (l:List D):Prop :=
 ∃cs:List C,cs.length=l.length/\w.ownsRow B T K.n v l.length (cs.flatMap K.cs)/\∀j (h:j<cs.length) (h':j<l.length),K.Is S w cs[j] l[j]
variable {K}
theorem RowO.nil (T B:Nat) (S:Nat->Prop) (w:World):RowO K T B S w Z0 []:=⟨[],rfl,lf _ _ _ _,λj h=>absurd h ge⟩
theorem RowO.own {T B:Nat} {S:Nat->Prop} {w:World} {v:Value} {l:List D} (h:RowO K T B S w v l):∀k,v.ownBlock=some k->B<=k/\k<w.heap.size:=by
 obtain⟨_,_,h2,_⟩:=h;exact h2.lt
theorem RowO.move {T B:Nat} {S S':Nat->Prop} {w w':World} {v:Value} {l:List D} (h:RowO K T B S w v l) (ho:∀k o,v.ownBlock=some k->w.heap[k]?=some o->w'.heap[k]?=some o) (hs:∀b,S b->S' b/\w'.heap[b]?=w.heap[b]?):RowO K T B S' w' v l:=by
 obtain⟨cs,h1,h2,h3⟩:=h;exact⟨cs,h1,gJ h2 ho,λj a b=>K.same hs (h3 j a b)⟩
theorem RowO.row {T B:Nat} {S S':Nat->Prop} {w:World} {a:Option Addr} {n cap:Nat} {l:List D} (h:RowO K T B S w (Sl a n cap) l) (aa:l.length * K.by'<=140737488351232) (hS:∀k,(Value.slice a n cap).ownBlock=some k->S' k) (ab:∀b,S b->S' b):IsRow K S' w a n cap l:=by
 obtain⟨cs,h1,h2,h3⟩:=h;rcases h2.2 with ⟨h4,h5⟩|⟨g,cap',cur,hv,hb,hg,hn,_⟩
 ·simp only[lz] at h4;obtain⟨rfl,rfl,rfl⟩:=h4;exact⟨h5.symm,gy _,by simp,.inl (kr h5)⟩
 ·simp only[lz] at hv;obtain⟨rfl,rfl,rfl⟩:=hv;refine⟨rfl,hn,aa,.inr ⟨g,0,rfl,hS g rfl,λj hj=>⟨cs[j]' ga,?_,?_⟩⟩⟩
  ·rw[ir];exact AtG.ofRow h2 j ga
  ·exact K.same (λb q=>⟨ab b q,rfl⟩) (h3 j ga hj)
end
structure LastO (B:Nat) (w:World) (sv:Value) (ls:List Slot) (x:Slot) (cs:List SlC) (c:SlC):Prop where
 len:cs.length=ls.length
 row:w.ownsRow B 144 10 sv (cs.length+1) ((cs++[c]).flatMap SlC.cs)
 old:∀j (h:j<cs.length) (h':j<ls.length),IsSl (DS B sv c.iv c.vv w) w cs[j] ls[j]
 k:IsVal (DS B sv c.iv c.vv w) w c.k x.k
 n:c.n=x.n
 rn:I64 x.n
 t:c.t=x.t
 rt:I64 x.t
 items:RowO msgK 69 B (DS B sv c.iv c.vv w) w c.iv x.items
 vals:RowO valK 67 B (DS B sv c.iv c.vv w) w c.vv x.vals
 d1:∀k,c.iv.ownBlock=some k->sv.ownBlock≠some k/\c.vv.ownBlock≠some k
 d2:∀k,c.vv.ownBlock=some k->sv.ownBlock≠some k
theorem LastO.move {B:Nat} {w w':World} {sv:Value} {ls:List Slot} {x:Slot} {cs:List SlC} {c:SlC} (h:LastO B w sv ls x cs c) (hb:∀k,B<=k->k<w.heap.size->w'.heap[k]?=w.heap[k]?) (hz:w.heap.size<=w'.heap.size):LastO B w' sv ls x cs c:=by
 have hD:∀b,DS B sv c.iv c.vv w b->DS B sv c.iv c.vv w' b/\w'.heap[b]?=w.heap[b]?:=λb q=>⟨⟨q.le,ix q.lt hz,q.s,q.i,q.v⟩,hb b q.le q.lt⟩
 have hO:∀(v:Value),(∀k,v.ownBlock=some k->B<=k/\k<w.heap.size)->∀k o,v.ownBlock=some k->w.heap[k]?=some o->w'.heap[k]?=some o:=λv hv k o hk ho=>(hb k (hv k hk).1 (hv k hk).2).trans ho;exact⟨h.len,gJ h.row (hO _ h.row.lt),λj a b=>(h.old j a b).same hD,h.k.same hD,h.n,h.rn,h.t,h.rt,h.items.move (hO _ h.items.own) hD,h.vals.move (hO _ h.vals.own) hD,h.d1,h.d2⟩
def SlotsO (B:Nat) (w:World) (sv:Value) (l:List Slot):Prop:=(l=[]/\w.ownsRow B 144 10 sv 0 [])\/∃ls x cs c,l=ls++[x]/\LastO B w sv ls x cs c
theorem SlotsO.move {B:Nat} {w w':World} {sv:Value} {l:List Slot} (h:SlotsO B w sv l) (hb:∀k,B<=k->k<w.heap.size->w'.heap[k]?=w.heap[k]?) (hz:w.heap.size<=w'.heap.size):SlotsO B w' sv l:=by
 rcases h with ⟨rfl,h⟩|⟨ls,x,cs,c,rfl,h⟩
 ·exact .inl ⟨rfl,gJ h λk o hk ho=>(hb k (h.lt k hk).1 (h.lt k hk).2).trans ho⟩
 ·exact .inr ⟨ls,x,cs,c,rfl,h.move hb hz⟩
theorem SlotsO.own {B:Nat} {w:World} {sv:Value} {l:List Slot} (h:SlotsO B w sv l):∀k,sv.ownBlock=some k->B<=k/\k<w.heap.size:=by
 rcases h with ⟨rfl,h⟩|⟨ls,x,cs,c,rfl,h⟩
 ·exact h.lt
 ·exact h.row.lt
def Sz (n:Nat) (l:List Slot):Prop:=l.length<=n/\∀x∈l,x.items.length<=n/\x.vals.length<=n
theorem SlotsO.built {B:Nat} {w:World} {sv:Value} {l:List Slot} {n:Nat} (h:SlotsO B w sv l) (hz:Sz n l) (hn:n<=100000):Built slK 144 B w sv l.length l:=by
 rcases h with ⟨rfl,h⟩|⟨ls,x,cs,c,rfl,h⟩
 ·exact⟨[],rfl,h,λj a=>absurd a ge⟩
 ·have hx:=hz.2 x ge;have hS:∀b,DS B sv c.iv c.vv w b->B<=b/\b<w.heap.size/\some b≠sv.ownBlock:=λb q=>⟨q.le,q.lt,q.s⟩
  have aa:∀b,DS B sv c.iv c.vv w b->(B<=b/\b<w.heap.size/\some b≠sv.ownBlock)/\w.heap[b]?=w.heap[b]?:=λb q=>⟨hS b q,rfl⟩
  have hi:∀k,c.iv.ownBlock=some k->B<=k/\k<w.heap.size/\some k≠sv.ownBlock:=λk hk=>⟨(h.items.own k hk).1,(h.items.own k hk).2,λe=>(h.d1 k hk).1 e.symm⟩
  have hv:∀k,c.vv.ownBlock=some k->B<=k/\k<w.heap.size/\some k≠sv.ownBlock:=λk hk=>⟨(h.vals.own k hk).1,(h.vals.own k hk).2,λe=>h.d2 k hk e.symm⟩
  have ab:IsSl (λb=>B<=b/\b<w.heap.size/\some b≠sv.ownBlock) w c x :=
   ⟨h.k.same aa,h.n,h.rn,h.t,h.rt,h.items.row (by show x.items.length * 152<=_;omega) hi hS,h.vals.row (by show x.vals.length * 88<=_;omega) hv hS⟩
  refine⟨cs++[c],by simp[h.len],by rw[ik,py,<-h.len];exact h.row,λj h1 h2=>?_⟩;by_cases hj:j<cs.length
  ·rw[ku hj,ku (by have:=h.len;omega)];exact(h.old j hj (by have:=h.len;omega)).same aa
  ·have e1:j=cs.length:=by simp at h1;omega
   rw[li ga,li (by have:=h.len;omega)];simp only[e1,h.len,np,k8];exact ab
theorem SlotsO.push {B N:Nat} {w1 w2:World} {sv:Value} {l:List Slot} {cs:List SlC} {k:VC} {dk:Val} {n t:Int} {o:Obj} {g cap:Nat} (ac:cs.length=l.length)
 (ad:∀j (h:j<cs.length) (h':j<l.length),IsSl (λb=>B<=b/\b<w1.heap.size/\some b≠sv.ownBlock) w1 cs[j] l[j])
 (hk:IsVal (λb=>N<=b/\b<w1.heap.size) w1 k dk) (hn:I64 n) (ht:I64 t) (hN:B<=N) (hv:∀r,sv.ownBlock=some r->r<N)
 (ab:w2.ownsRow B 144 10 (Sl (So g 0) (l.length+1) cap) (l.length+1) (cs.flatMap SlC.cs++SlC.cs ⟨k,n,t,none,0,0,none,0,0⟩)) (aa:(w1.alloc o).grownBy w2 sv.ownBlock) (af:sv.ownBlock=some g\/g=w1.heap.size+1) :
 SlotsO B w2 (Sl (So g 0) (l.length+1) cap) (l++[⟨dk,n,t,[],[]⟩]):=by
 have ag:w1.heap.size+1<=w2.heap.size:=by have:=aa.size;simpa using this
 have ae:∀b,b<w1.heap.size->some b≠sv.ownBlock->w2.heap[b]?=w1.heap[b]?:=λb hb hne =>
  (aa.block b gi hne).trans (iy _ _ _ hb)
 have hD:∀b,B<=b->b<w1.heap.size->some b≠sv.ownBlock->DS B (Sl (So g 0) (l.length+1) cap) Z0 Z0 w2 b/\w2.heap[b]?=w1.heap[b]?:=λb h0 h1 h2=>by
  refine⟨⟨h0,by omega,λe=>?_,(by simp[Value.ownBlock]),(by simp[Value.ownBlock])⟩,ae b h1 h2⟩;simp only[Value.ownBlock,lw] at e;subst e;rcases af with h|h
  ·exact h2 h.symm
  ·omega
 refine .inr ⟨l,_,cs,⟨k,n,t,none,0,0,none,0,0⟩,rfl,ac,?_,λj a b=>(ad j a b).same λb q=>hD b q.1 q.2.1 q.2.2,hk.same λb q=>hD b ga q.2 (λe=>by have:=hv b e.symm;omega),rfl,hn,rfl,ht,RowO.nil _ _ _ _,RowO.nil _ _ _ _,λk e=>(by simp[Value.ownBlock] at e),λk e=>(by simp[Value.ownBlock] at e)⟩;rw[mn,pg,ac];exact ab
theorem LastO.pushI {B N:Nat} {w1 w2:World} {gs scap:Nat} {ls:List Slot} {x:Slot} {cs:List SlC} {c:SlC} {xs:List MC} {m:MC} {dm:Msg} {o:Obj} {g cap:Nat}
 (h:LastO B w1 (.slice (So gs 0) (ls.length+1) scap) ls x cs c) (al:xs.length=x.items.length) (ap:∀j (h:j<xs.length) (h':j<x.items.length),msgK.Is (DS B (.slice (So gs 0) (ls.length+1) scap) c.iv c.vv w1) w1 xs[j] x.items[j])
 (hm:msgK.Is (λb=>N<=b/\b<w1.heap.size) w1 m dm) (az:B<=N) (ay:gs<N) (av:∀r,c.iv.ownBlock=some r->r<N) (ar:∀r,c.vv.ownBlock=some r->r<N)
 (ad:w2.ownsRow B 69 msgK.n (.slice (So g 0) (x.items.length+1) cap) (x.items.length+1) (xs.flatMap MC.cs++MC.cs m)) (aa:(w1.alloc o).grownBy w2 c.iv.ownBlock) (hat:c.iv.ownBlock=some g\/g=w1.heap.size+1) :
 LastO B (w2.setCell ⟨gs,ls.length * 10+8,none⟩ (.slice (So g 0) (x.items.length+1) cap)) (.slice (So gs 0) (ls.length+1) scap) ls (jA dm x) cs ⟨c.k,c.n,c.t,some ⟨g,0,none⟩,x.items.length+1,cap,c.va,c.vl,c.vc⟩:=by
 obtain⟨sv,ah⟩:=xe (Value.slice (So gs 0) (ls.length+1) scap)
 obtain⟨nv,ag⟩:=xe (Value.slice (So g 0) (x.items.length+1) cap)
 have ae:sv.ownBlock=some gs:=by rw[ah];rfl
 have af:nv.ownBlock=some g:=by rw[ag];rfl
 have a0:=h.row.lt gs gh;have ao:c.iv.ownBlock≠some gs:=λe=>by have:=h.d1;have:=h.d2;simp_all [Value.ownBlock]
 have am:∀r,c.vv.ownBlock=some r->c.iv.ownBlock≠some r:=λr e e2=>by have:=h.d1;have:=h.d2;simp_all
 have aq:c.vv.ownBlock≠some gs:=λe=>by have:=h.d1;have:=h.d2;simp_all [Value.ownBlock]
 have ak:∀r,c.vv.ownBlock=some r->B<=r/\r<w1.heap.size:=h.vals.own;have ax:w1.heap.size+1<=w2.heap.size:=by have:=aa.size;simpa using this
 have ai:∀b,b<w1.heap.size->c.iv.ownBlock≠some b->b≠gs->(w2.setCell ⟨gs,ls.length * 10+8,none⟩ nv).heap[b]?=w1.heap[b]?:=λb hb hne hg =>
  (ij _ _ _ _ hg).trans ((aa.block b gi (λe=>hne e.symm)).trans (iy _ _ _ hb))
 have ab:g≠gs:=λe=>by
  rcases hat with hat|hat
  ·exact ao (by rw[hat,e])
  ·omega
 have au:∀r,c.vv.ownBlock=some r->r≠g:=λr e1 e2=>by
  rcases hat with hat|hat
  ·exact am r e1 (by rw[hat,e2])
  ·have:=(ak r e1).2;omega
 rw[<-ah] at h ap ⊢;rw[<-ag] at ad ⊢;have ac:∀b,DS B sv c.iv c.vv w1 b->DS B sv nv c.vv (w2.setCell ⟨gs,ls.length * 10+8,none⟩ nv) b/\(w2.setCell ⟨gs,ls.length * 10+8,none⟩ nv).heap[b]?=w1.heap[b]?:=λb hb=>by
  have e1:b≠gs:=λe=>hb.s (by rw[ae,e]);have e2:c.iv.ownBlock≠some b:=λe=>hb.i e.symm;have e3:b≠g:=λe=>by
   rcases hat with hat|hat
   ·exact e2 (by rw[hat,e])
   ·have:=hb.lt;omega
  refine⟨⟨hb.le,by have:=hb.lt;simp only[World.setCell,ol];omega,hb.s,?_,hb.v⟩,ai b hb.lt e2 e1⟩;rw[af];intro e;exact e3 (jp e)
 have aw:∀b,N<=b/\b<w1.heap.size->DS B sv nv c.vv (w2.setCell ⟨gs,ls.length * 10+8,none⟩ nv) b/\(w2.setCell ⟨gs,ls.length * 10+8,none⟩ nv).heap[b]?=w1.heap[b]?:=λb hb=>by
  refine ac b ⟨by omega,hb.2,λe=>?_,λe=>?_,λe=>?_⟩
  ·rw[ae] at e;have:=jp e;omega
  ·have:=av b e.symm;omega
  ·have:=ar b e.symm;omega
 subst ag;refine⟨h.len,?_,λj h1 h2=>(h.old j h1 h2).same ac,h.k.same ac,h.n,h.rn,h.t,h.rt,?_,?_,?_,?_⟩
 ·have aj:w2.ownsRow B 144 10 sv (cs.length+1) ((cs++[c]).flatMap SlC.cs):=(h.row.alloc o).kept aa (.inr (by rw[ae];exact λe=>ao e.symm));rw[ah,<-h.len] at aj ⊢;have q:=(aj.stored (cs.length * 10+8) (Value.slice (So g 0) (x.items.length+1) cap)).1;have hf:∀l:List SlC,(l.flatMap SlC.cs).length=l.length * 10:=qT;have e:((cs++[c]).flatMap SlC.cs).set (cs.length * 10+8) (Value.slice (So g 0) (x.items.length+1) cap)=(cs++[(⟨c.k,c.n,c.t,some ⟨g,0,none⟩,x.items.length+1,cap,c.va,c.vl,c.vc⟩:SlC)]).flatMap SlC.cs:=by
   rw[mn,mn,List.set_append_right _ _ (by rw[hf];omega),hf,show cs.length * 10+8-cs.length * 10=8 by omega];rfl
  rw[e] at q;exact q
 ·refine⟨xs++[m],by simp[al,jA],?_,λj h1 h2=>?_⟩
  ·have q:=ownsRow_setCell_other (a:=⟨gs,ls.length * 10+8,none⟩) ad (by rw[af];exact λe=>ab (jp e)) (Value.slice (So g 0) (x.items.length+1) cap);simp only[jA,ik,py,mn,pg];exact q
  ·simp only[jA];by_cases hj:j<xs.length
   ·rw[ku hj,ku ga];exact msgK.same ac (ap j hj ga)
   ·have e1:j=xs.length:=by simp at h1;omega
    rw[li ga,li ga];simp only[e1,al,np,k8];exact msgK.same aw hm
 ·exact h.vals.move (λk ob hk ho=>(ai k (ak k hk).2 (am k hk) (λe=>aq (by rw[hk,e]))).trans ho) ac
 ·intro k hk;have an:(Value.slice (So g 0) (x.items.length+1) cap).ownBlock=some k:=hk;rw[af] at an;obtain rfl:=jp an;exact⟨by rw[ae];exact λe=>ab (jp e).symm,λe=>au g e rfl⟩
 ·exact h.d2
theorem LastO.pushV {B N:Nat} {w1 w2:World} {gs scap:Nat} {ls:List Slot} {x:Slot} {cs:List SlC} {c:SlC} {xs:List VC} {m:VC} {dm:Val} {o:Obj} {g cap:Nat}
 (h:LastO B w1 (.slice (So gs 0) (ls.length+1) scap) ls x cs c) (al:xs.length=x.vals.length) (ap:∀j (h:j<xs.length) (h':j<x.vals.length),valK.Is (DS B (.slice (So gs 0) (ls.length+1) scap) c.iv c.vv w1) w1 xs[j] x.vals[j])
 (hm:valK.Is (λb=>N<=b/\b<w1.heap.size) w1 m dm) (az:B<=N) (ay:gs<N) (av:∀r,c.iv.ownBlock=some r->r<N) (ar:∀r,c.vv.ownBlock=some r->r<N)
 (ad:w2.ownsRow B 67 valK.n (.slice (So g 0) (x.vals.length+1) cap) (x.vals.length+1) (xs.flatMap VC.cs++VC.cs m)) (aa:(w1.alloc o).grownBy w2 c.vv.ownBlock) (hat:c.vv.ownBlock=some g\/g=w1.heap.size+1) :
 LastO B (w2.setCell ⟨gs,ls.length * 10+9,none⟩ (.slice (So g 0) (x.vals.length+1) cap)) (.slice (So gs 0) (ls.length+1) scap) ls (iY dm x) cs ⟨c.k,c.n,c.t,c.ia,c.il,c.ic,some ⟨g,0,none⟩,x.vals.length+1,cap⟩:=by
 obtain⟨sv,ah⟩:=xe (Value.slice (So gs 0) (ls.length+1) scap)
 obtain⟨nv,ag⟩:=xe (Value.slice (So g 0) (x.vals.length+1) cap)
 have af:sv.ownBlock=some gs:=by rw[ah];rfl
 have ae:nv.ownBlock=some g:=by rw[ag];rfl
 have a0:=h.row.lt gs gh;have ao:c.vv.ownBlock≠some gs:=λe=>by have:=h.d1;have:=h.d2;simp_all [Value.ownBlock]
 have am:∀r,c.iv.ownBlock=some r->c.vv.ownBlock≠some r:=λr e e2=>by have:=h.d1;have:=h.d2;simp_all
 have aq:c.iv.ownBlock≠some gs:=λe=>by have:=h.d1;have:=h.d2;simp_all [Value.ownBlock]
 have ak:∀r,c.iv.ownBlock=some r->B<=r/\r<w1.heap.size:=h.items.own;have ax:w1.heap.size+1<=w2.heap.size:=by have:=aa.size;simpa using this
 have ai:∀b,b<w1.heap.size->c.vv.ownBlock≠some b->b≠gs->(w2.setCell ⟨gs,ls.length * 10+9,none⟩ nv).heap[b]?=w1.heap[b]?:=λb hb hne hg =>
  (ij _ _ _ _ hg).trans ((aa.block b gi (λe=>hne e.symm)).trans (iy _ _ _ hb))
 have ab:g≠gs:=λe=>by
  rcases hat with hat|hat
  ·exact ao (by rw[hat,e])
  ·omega
 have au:∀r,c.iv.ownBlock=some r->r≠g:=λr e1 e2=>by
  rcases hat with hat|hat
  ·exact am r e1 (by rw[hat,e2])
  ·have:=(ak r e1).2;omega
 rw[<-ah] at h ap ⊢;rw[<-ag] at ad ⊢;have ac:∀b,DS B sv c.iv c.vv w1 b->DS B sv c.iv nv (w2.setCell ⟨gs,ls.length * 10+9,none⟩ nv) b/\(w2.setCell ⟨gs,ls.length * 10+9,none⟩ nv).heap[b]?=w1.heap[b]?:=λb hb=>by
  have e1:b≠gs:=λe=>hb.s (by rw[af,e]);have e2:c.vv.ownBlock≠some b:=λe=>hb.v e.symm;have e3:b≠g:=λe=>by
   rcases hat with hat|hat
   ·exact e2 (by rw[hat,e])
   ·have:=hb.lt;omega
  refine⟨⟨hb.le,by have:=hb.lt;simp only[World.setCell,ol];omega,hb.s,hb.i,?_⟩,ai b hb.lt e2 e1⟩;rw[ae];intro e;exact e3 (jp e)
 have aw:∀b,N<=b/\b<w1.heap.size->DS B sv c.iv nv (w2.setCell ⟨gs,ls.length * 10+9,none⟩ nv) b/\(w2.setCell ⟨gs,ls.length * 10+9,none⟩ nv).heap[b]?=w1.heap[b]?:=λb hb=>by
  refine ac b ⟨by omega,hb.2,λe=>?_,λe=>?_,λe=>?_⟩
  ·rw[af] at e;have:=jp e;omega
  ·have:=av b e.symm;omega
  ·have:=ar b e.symm;omega
 subst ag;refine⟨h.len,?_,λj h1 h2=>(h.old j h1 h2).same ac,h.k.same ac,h.n,h.rn,h.t,h.rt,?_,?_,?_,?_⟩
 ·have aj:w2.ownsRow B 144 10 sv (cs.length+1) ((cs++[c]).flatMap SlC.cs):=(h.row.alloc o).kept aa (.inr (by rw[af];exact λe=>ao e.symm));rw[ah,<-h.len] at aj ⊢;have q:=(aj.stored (cs.length * 10+9) (Value.slice (So g 0) (x.vals.length+1) cap)).1;have hf:∀l:List SlC,(l.flatMap SlC.cs).length=l.length * 10:=qT;have e:((cs++[c]).flatMap SlC.cs).set (cs.length * 10+9) (Value.slice (So g 0) (x.vals.length+1) cap)=(cs++[(⟨c.k,c.n,c.t,c.ia,c.il,c.ic,some ⟨g,0,none⟩,x.vals.length+1,cap⟩:SlC)]).flatMap SlC.cs:=by
   rw[mn,mn,List.set_append_right _ _ (by rw[hf];omega),hf,show cs.length * 10+9-cs.length * 10=9 by omega];rfl
  rw[e] at q;exact q
 ·exact h.items.move (λk ob hk ho=>(ai k (ak k hk).2 (am k hk) (λe=>aq (by rw[hk,e]))).trans ho) ac
 ·refine⟨xs++[m],by simp[al,iY],?_,λj h1 h2=>?_⟩
  ·have q:=ownsRow_setCell_other (a:=⟨gs,ls.length * 10+9,none⟩) ad (by rw[ae];exact λe=>ab (jp e)) (Value.slice (So g 0) (x.vals.length+1) cap);simp only[iY,ik,py,mn,pg];exact q
  ·simp only[iY];by_cases hj:j<xs.length
   ·rw[ku hj,ku ga];exact valK.same ac (ap j hj ga)
   ·have e1:j=xs.length:=by simp at h1;omega
    rw[li ga,li ga];simp only[e1,al,np,k8];exact valK.same aw hm
 ·intro k hk;refine⟨(h.d1 k hk).1,λe=>?_⟩;have e':(Value.slice (So g 0) (x.vals.length+1) cap).ownBlock=some k:=e;rw[ae] at e';exact au k hk (jp e').symm
 ·intro k hk;have an:(Value.slice (So g 0) (x.vals.length+1) cap).ownBlock=some k:=hk;rw[ae] at an;obtain rfl:=jp an;rw[af];exact λe=>ab (jp e).symm
def StOwn (B b:Nat) (w:World) (d:Sta):Prop:=∃sv:Value,w.heap[b]?=some (.cells #[I6 d.n,I6 d.t,sv] 85)/\I64 d.n/\I64 d.t/\SlotsO B w sv d.l
theorem StOwn.move {B b:Nat} {w w':World} {d:Sta} (h:StOwn B b w d) (hk:w'.heap[b]?=w.heap[b]?) (hb:∀k,B<=k->k<w.heap.size->w'.heap[k]?=w.heap[k]?) (hz:w.heap.size<=w'.heap.size):StOwn B b w' d:=by
 obtain⟨sv,h1,h2,h3,h4⟩:=h;exact⟨sv,hk.trans h1,h2,h3,h4.move hb hz⟩
theorem oC (f:Slot->Slot):∀l:List Slot,(fG f l).length=l.length
 | []=>rfl
 | [x]=>rfl
 | x :: y :: r=>by rw[fG,im,oC f (y :: r)];rfl
theorem oB (f:Slot->Slot):∀(l:List Slot) (z:Slot),z∈fG f l->∃x∈l,z=x\/z=f x
 | [],z,h=>absurd h (by simp[fG])
 | [x],z,h=>⟨x,by simp,.inr (by simpa [fG] using h)⟩
 | x :: y :: r,z,h=>by
   rw[fG] at h;rcases List.mem_cons.1 h with rfl|h
   ·exact⟨z,by simp,.inl rfl⟩
   ·obtain⟨u,hu,hz⟩:=oB f (y :: r) z h;exact⟨u,ja _ hu,hz⟩
theorem Sz.up {n:Nat} {l:List Slot} (h:Sz n l):Sz (n+1) l:=⟨Nat.le_succ_of_le h.1,λx hx=>⟨Nat.le_succ_of_le (h.2 x hx).1,Nat.le_succ_of_le (h.2 x hx).2⟩⟩
theorem aMx {n:Nat} {d d':Sta} {a b:BA} (h:Sz n d.l) (hr:eV d a b=some d'):Sz (n+1) d'.l:=by
 unfold eV at hr;split at hr
 ·split at hr
  ·obtain rfl:=jp hr;exact h.up
  ·cases hr
 split at hr
 ·split at hr
  ·obtain rfl:=jp hr;refine⟨by have:=h.1;simp;omega,λx hx=>?_⟩;rcases List.mem_append.1 hx with hx|hx
   ·exact h.up.2 x hx
   ·obtain rfl:=List.mem_singleton.1 hx;exact⟨ii _,ii _⟩
  ·cases hr
 split at hr
 ·cases hr
 split at hr
 ·split at hr
  ·obtain rfl:=jp hr;refine⟨by rw[oC];have:=h.1;omega,λx hx=>?_⟩;obtain⟨u,hu,hz⟩:=oB _ _ _ hx;have q:=h.2 u hu;rcases hz with rfl|rfl
   ·exact⟨by omega,by omega⟩
   ·exact⟨by simp[jA];omega,by simp[jA];omega⟩
  ·cases hr
 split at hr
 ·obtain rfl:=jp hr;refine⟨by rw[oC];have:=h.1;omega,λx hx=>?_⟩;obtain⟨u,hu,hz⟩:=oB _ _ _ hx;have q:=h.2 u hu;rcases hz with rfl|rfl
  ·exact⟨by omega,by omega⟩
  ·exact⟨by simp[iY];omega,by simp[iY];omega⟩
 ·cases hr
theorem pA:∀(l:List (ByteArray × BA)) (n:Nat) (d d':Sta),Sz n d.l->eU d l=some d'->Sz (n+l.length) d'.l
 | [],n,d,d',h,hr=>by
   obtain rfl:=jp hr;exact h
 | (a,b) :: l,n,d,d',h,hr=>by
   rw[eU] at hr;cases hq:eV d a b with
   | none=>rw[hq] at hr;cases hr
   | some e =>
     rw[hq] at hr;have:=pA l (n+1) e d' (aMx h hq) hr;rw[im,show n+(l.length+1)=n+1+l.length by omega];exact this
end
structure BldAt (w:World) (b:Nat) (bs:List UInt8) (l:List (Nat × Obj)) (w':World):Prop where
 bld:IsBld b b (Lib.byteCells bs) w'
 bw:BB w w'
 n:b<w'.heap.size
 m:w.heap.size<=b
 at':∀p∈l,w'.heap[p.1]?=some p.2/\p.1≠b/\∀c fz,p.2≠.cells c 5 fz
theorem BldAt.at {w:World} {b:Nat} {bs:List UInt8} {l:List (Nat × Obj)} {w':World} (h:BldAt w b bs l w') (j:Nat) (hj:j<l.length):w'.heap[(l[j]).1]?=some (l[j]).2:=(h.at' _ (kc hj)).1
theorem BldAt.ext {w:World} {b:Nat} {bs:List UInt8} {l:List (Nat × Obj)} {w' w'':World} (h:BldAt w b bs l w') (hb:BB w' w''):BldAt w b bs l w'' :=
 ⟨h.bld.ext hb,h.bw.trans (hb.mono (by have:=h.m;have:=h.n;omega)),ix h.n hb.size,h.m,λp hp=>⟨aB hb (h.at' p hp).1,(h.at' p hp).2⟩⟩
theorem BldAt.cons {w:World} {b:Nat} {bs:List UInt8} {l:List (Nat × Obj)} {w':World} (h:BldAt w b bs l w') {k:Nat} {o:Obj} (hk:w'.heap[k]?=some o) (hb:k≠b) (ho:∀c fz,o≠.cells c 5 fz):BldAt w b bs ((k,o) :: l) w' :=
 ⟨h.bld,h.bw,h.n,h.m,λp hp=>(List.mem_cons.1 hp).elim (λe=>by rw[e];exact⟨hk,hb,ho⟩) (λhp=>h.at' p hp)⟩
theorem BldAt.line {w:World} {b:Nat} {bs bs':List UInt8} {l:List (Nat × Obj)} {w' aa:World} {v:Value} {e:Ending} (h:BldAt w b bs l w') (hp:pR b b (Lib.byteCells bs') v w' e aa):BldAt w b bs' l aa:=by
 obtain⟨_,h1,h2,h3⟩:=hp;refine⟨.inr h1,h.bw.trans (h2.mono h.m),ix h.n h2.size,h.m,λp hp=>?_⟩;obtain⟨q1,q2,q3⟩:=h.at' p hp;exact⟨h3 p.1 p.2 q1 (λe=>q2 (by injection e)) q3,q2,q3⟩
theorem aC8 {w:World} {b i:Nat} {cs:Array Value} {t:TypeId} {fr:Nat × Nat} {v:Value} (h:w.heap[b]?=some (.cells cs t fr)) (hv:cs[i]?=some v):w.setCell ⟨b,i,none⟩ v=w:=by
 have e:w.heap.modify b (fun | .cells c elem frozen=>.cells (if (none:Option (Nat)).isSome then c else c.setIfInBounds i v) elem frozen|o=>o)=w.heap:=by
  apply qm;intro j;rw[mv];split
  ·next hj =>
   subst hj;rw[h];have e2:cs.setIfInBounds i v=cs:=by
    apply qm;intro k;rw[mq];split
    ·next hk=>subst hk;split<;>simp_all
    ·rfl
   simp[e2]
  ·rfl
 show { w with heap:=_ }=w;exact congrArg (λx=>{ w with heap:=x }) e
theorem BldAt.setF {w:World} {b:Nat} {bs:List UInt8} {l:List (Nat × Obj)} {w':World} {fb:Nat} {T:TypeId} {x:Value} {fr:Nat × Nat} (y:Value) (h:BldAt w b bs ((fb,.cells #[x] T fr) :: l) w') (ae:w.heap.size<=fb) (ad:∀p∈l,p.1≠fb) :
 BldAt w b bs ((fb,.cells #[y] T fr) :: l) (w'.setCell ⟨fb,0,none⟩ y):=by
 obtain⟨ac,aa,hT⟩:=h.at' (fb,.cells #[x] T fr) (iw ..);dsimp only at ac aa hT;have ab:∀v:Value,(∀g,v.ownBlock=some g->∃c fz,w'.heap[g]?=some (.cells c 5 fz))->v.ownBlock=none\/v.ownBlock≠some fb:=λv hv=>by
  by_cases e:v.ownBlock=some fb
  ·obtain⟨c,fz,hc⟩:=hv fb e;rw[ac] at hc;exact absurd (jp hc) (hT c fz)
  ·exact .inr e
 refine⟨?_,h.bw.setCell (p:=⟨fb,0,none⟩) ae y,by simpa [World.setCell] using h.n,h.m,λp hp=>?_⟩
 ·rcases h.bld with ⟨hB,v,hbk,hown,hne'⟩|⟨hB,v,hbk,hown,hne'⟩
  ·exact .inl ⟨hB,v,(ij _ _ _ _ (λe=>aa e.symm)).trans hbk,hown.kept (grownBy_setCell' w' fb y) (ab v (qn hown)),hne'⟩
  ·exact .inr ⟨hB,v,(ij _ _ _ _ (λe=>aa e.symm)).trans hbk,hown.kept (grownBy_setCell' w' fb y) (ab v (qn hown)),hne'⟩
 ·rcases List.mem_cons.1 hp with rfl|hp
  ·exact⟨aG (o:=0) y ac,aa,λc fz e=>by
    simp only[Obj.cells.injEq] at e;exact hT #[x] fr (by rw[e.2.1])⟩
  ·obtain⟨q1,q2⟩:=h.at' p (ja _ hp);exact⟨(ij _ _ _ _ (ad p hp)).trans q1,q2⟩
def KeptG (fb:Nat) (s:BA) (x:Int) (w:World) (e:Ending) (w':World):Prop:=e=.returned (.string s)/\w'=w.setCell ⟨fb,0,none⟩ (I6 x)
theorem qP (fb:Nat) (s:BA) (f x:Int) (w:World) (h:w.heap[fb]?=some (.cells #[I6 f] 31)) :
 CP 82 #[Sv s,I6 x,Pt fb 0] w (KeptG fb s (qW f x) w):=by
 have h0:=aA h 0;have hf:=aF h 0;have HS:=f8 (aC8 (v:=I6 f) (i:=0) h rfl)
 (try dsimp only at h0)
 unfold qW;by_cases h1:f=0
 ·subst h1;clear h HS;go_enter func82,ntmps82
  go_wp2;go_ret;exact⟨rfl,rfl⟩
 ·have aa:(f==0)=false:=by simp;exact h1
  rw[f9 h1];clear h h1;go_enter func82,ntmps82
  go_wp2;go_ret;exact⟨rfl,HS.symm⟩
theorem aEt (l:List Int) (k:Nat) (h:∀x∈l,(Lib.itoa x).length<=k) (c:UInt8):(cE (l.map aE) ⟨#[c]⟩).size<=l.length * (k+1):=by
 unfold cE;rw[bE,List.map_map];have:=xB (l.map Lib.itoa) [c] k (λx hx=>by
  obtain⟨y,hy,rfl⟩:=List.mem_map.1 hx;exact h y hy)
 rw[jy] at this;exact this
theorem rW (n:Int) (k:Nat) (h0:0<=n) (h:n<(10:Int) ^ k) (hk:0<k):(Lib.itoa n).length<=k:=by
 rw[aNm n h0];refine bY n.toNat k ?_ hk;have h2:(n.toNat:Int)<((10 ^ k:Nat):Int):=by
  rw[Int.toNat_of_nonneg h0]
  simpa using h
 exact Int.ofNat_lt.1 h2
theorem stE_len {d:St} (h:aZ d=0):d.ps.length<=512:=by
 unfold aZ at h;split at h
 ·simp at h
 split at h
 ·simp at h
 split at h
 ·simp at h
 rename_i h3;omega
theorem aN5 {d:Msg} (h:fF d=0):d.es.length<=4096:=by
 unfold fF at h;split at h
 ·contradiction
 split at h
 ·simp at h
 split at h
 ·simp at h
 split at h
 ·simp at h
 rename_i h3;omega
theorem tN (d:Msg):(iB d).1.size<=110000:=by
 unfold iB;split
 ·exact ii _
 rename_i h0;split
 ·exact ii _
 have h1:fF d=0:=by simpa using h0
 obtain⟨a1,a2,a3,a4,a5,_⟩:=msgE_ok h1;obtain⟨b1,b2,b3,b4⟩:=aJu a1;have c1:=stE_len a1;have c2:=aN5 h1;have d1:(aE d.st.e).size<=7:=rW d.st.e 7 ga ga gb;have d2:(aE d.m).size<=13:=rW d.m 13 ga ga gb;have d3:=aEt d.st.ps 5 (λx hx=>rW x 5 (b4 x hx).1 (by have:=(b4 x hx).2;omega) gb) 46;have d4:=aEt d.es 7 (λx hx=>rW x 7 (by have:=(a5 x hx).1;omega) (by have:=(a5 x hx).2;omega) gb) 44;have d5:=gA d.b;have e1:∀c:UInt8,(⟨#[c]⟩:BA).size=1:=λc=>rfl;unfold aO3 dL;simp only[ly,e1];omega
theorem nA (x y:BA):(jH [x,y]).length=x.size+y.size+2:=by
 have e:∀v:BA,v.size=v.data.size:=λ_=>rfl;unfold jH;rw[e x,e y];simp[Lib.join,List.intercalate,List.intersperse];omega
theorem wZ (x y z:BA):(jH [x,y,z]).length=x.size+y.size+z.size+3:=by
 have e:∀v:BA,v.size=v.data.size:=λ_=>rfl;unfold jH;rw[e x,e y,e z];simp[Lib.join,List.intercalate,List.intersperse];omega
theorem wY (x y z u:BA):(jH [x,y,z,u]).length=x.size+y.size+z.size+u.size+4:=by
 have e:∀v:BA,v.size=v.data.size:=λ_=>rfl;unfold jH;rw[e x,e y,e z,e u];simp[Lib.join,List.intercalate,List.intersperse];omega
theorem jI (n:Int) (h:I64 n):(aE n).size<=21:=Lib.itoa_length_le n h.1 h.2
theorem lK {α:Type} (f:α->List UInt8) (k:Nat):∀l:List α,(∀x∈l,(f x).length<=k)->(l.flatMap f).length<=l.length * k
 | [],_=>by simp
 | x :: l,h=>by
   have h1:=h x (iw ..);have h2:=lK f k l λy hy=>h y (ja _ hy);rw[nh,ik,im,Nat.add_mul];omega
theorem qQ (m:Msg):(jP m).length<=110006:=by
 unfold jP;rw[nA];have:=tN m;have e:wItem.size=4:=rfl;omega
theorem zY (v:Val):(nS v).length<=65543:=by
 unfold nS;rw[nA];have:=gA v;have e:wValue.size=5:=rfl;omega
theorem vZ (x:Slot) (h1:I64 x.n) (h2:I64 x.t):(sU x).length<=65600:=by
 unfold sU;rw[wY];have:=gA x.k;have a:=jI _ h1;have b:=jI _ h2;have e:wSlot.size=4:=rfl;omega
theorem aOg {w:World} {b:Nat} {x0 x1:BA} {t:TypeId} {fr:Nat × Nat} (h:w.heap[b]?=some (.cells #[Sv x0,Sv x1] t fr)):∀(j:Nat) x,[x0,x1][j]?=some x->w.cell? ⟨b,0+j,none⟩=some (Sv x):=λj x hj=>by
 rw[aA h]
 match j,hj with
 | 0,hj=>simp at hj;subst hj;rfl
 | 1,hj=>simp at hj;subst hj;rfl
theorem cells3 {w:World} {b:Nat} {x0 x1 x2:BA} {t:TypeId} {fr:Nat × Nat} (h:w.heap[b]?=some (.cells #[Sv x0,Sv x1,Sv x2] t fr)):∀(j:Nat) x,[x0,x1,x2][j]?=some x->w.cell? ⟨b,0+j,none⟩=some (Sv x):=λj x hj=>by
 rw[aA h]
 match j,hj with
 | 0,hj=>simp at hj;subst hj;rfl
 | 1,hj=>simp at hj;subst hj;rfl
 | 2,hj=>simp at hj;subst hj;rfl
theorem cells4 {w:World} {b:Nat} {x0 x1 x2 x3:BA} {t:TypeId} {fr:Nat × Nat} (h:w.heap[b]?=some (.cells #[Sv x0,Sv x1,Sv x2,Sv x3] t fr)):∀(j:Nat) x,[x0,x1,x2,x3][j]?=some x->w.cell? ⟨b,0+j,none⟩=some (Sv x):=λj x hj=>by
 rw[aA h]
 match j,hj with
 | 0,hj=>simp at hj;subst hj;rfl
 | 1,hj=>simp at hj;subst hj;rfl
 | 2,hj=>simp at hj;subst hj;rfl
 | 3,hj=>simp at hj;subst hj;rfl
theorem BldAt.sub {w:World} {b:Nat} {bs:List UInt8} {l l':List (Nat × Obj)} {w':World} (h:BldAt w b bs l w') (hs:∀p∈l',p∈l):BldAt w b bs l' w':=⟨h.bld,h.bw,h.n,h.m,λp hp=>h.at' p (hs p hp)⟩
def lD (d:Sta) (k:Nat):List UInt8:=xH d.n d.t++(d.l.take k).flatMap mQ
def xR (d:Sta) (k:Nat):Int:=(d.l.take k).foldl aGj 0
theorem aG3 (d:Sta):lD d 0=xH d.n d.t:=by simp[lD]
theorem aLd (d:Sta):xR d 0=0:=rfl
theorem aG4 (d:Sta) (k:Nat) (h:k<d.l.length):lD d (k+1)=lD d k++mQ d.l[k]:=by
 unfold lD;rw[mh h,mn,pg,ka]
theorem aLe (d:Sta) (k:Nat) (h:k<d.l.length):xR d (k+1)=aGj (xR d k) d.l[k]:=by
 unfold xR;rw[mh h,List.foldl_append];rfl
theorem aA3 (d:Sta) (k:Nat) (h:d.l.length<=k):lD d k=aGf d:=by unfold lD aGf;rw[mr h]
theorem aO1 (d:Sta) (k:Nat) (h:d.l.length<=k):xR d k=nX d:=by unfold xR nX;rw[mr h]
theorem aDy (x:Slot) (h1:I64 x.n) (h2:I64 x.t) (hi:x.items.length<=2000) (hv:x.vals.length<=2000):(mQ x).length<=352000000:=by
 have a:=vZ x h1 h2;have b:=lK jP 110006 x.items (λm _=>qQ m);have c:=lK nS 65543 x.vals (λm _=>zY m);have b2:x.items.length * 110006<=2000 * 110006:=oe _ hi;have c2:x.vals.length * 65543<=2000 * 65543:=oe _ hv;unfold mQ;rw[ik,ik];omega
theorem aA2 {d:Sta} (hz:Sz 2000 d.l) (hi:(I64 d.n/\I64 d.t)/\∀x∈d.l,I64 x.n/\I64 x.t) (k:Nat) (hk:k<=2000):(lD d k).length<=100+2000 * 352000000:=by
 have a:=lK mQ 352000000 (d.l.take k) (λx hx=>by
  have hm:=qr hx;exact aDy x (hi.2 x hm).1 (hi.2 x hm).2 (hz.2 x hm).1 (hz.2 x hm).2)
 have b:(d.l.take k).length<=2000:=by rw[ma];omega
 have c:(d.l.take k).length * 352000000<=2000 * 352000000:=oe _ b;have e:(xH d.n d.t).length<=100:=by
  unfold xH;rw[wZ];have:=jI _ hi.1.1;have:=jI _ hi.1.2;have:wState.size=5:=rfl;omega
 unfold lD;rw[ik];omega
theorem aO4 (c:StC) (d:Sta) (w:World) (hd:IsSta (· < w.heap.size) w c d) (hT:Tabs w) (h0:bZ d≠0) :
 CP 35 #[c.v] w (Rt (.tuple #[.string ⟨#[]⟩,I6 (bZ d)]) w):=by
 obtain⟨sn,st,a,sl,sc⟩:=c;have aa:BB w (w.alloc (.cells #[I6 sn,I6 st,Sl a sl sc] 85)):=(bR w).alloc lr _;have ab:=fM ⟨sn,st,a,sl,sc⟩ d (w.alloc (.cells #[I6 sn,I6 st,Sl a sl sc] 85)) (hd.same λb q=>⟨ix q aa.size,aa.block b q⟩) (hT.below aa);obtain⟨x,hx⟩:=xe (bZ d)
 rw[<-hx] at ab h0 ⊢;have ah:(x==0)=false:=by simp;exact h0
 have ag:(x != 0)=true:=by simp;exact h0
 obtain⟨ae,ac⟩:=h_2 ab aa;have HG:=f8 (ib w (.cells #[I6 sn,I6 st,Sl a sl sc] 85));clear ab aa hd hT h0 hx;dsimp only[StC.v] at ae ⊢;go_enter func35,ntmps35
 go_wp2_with (go_at_call 76;refine ae.mono ?_;rintro e w1 ⟨rfl,ad⟩;have af:=f8 (ac.trans (ad.mono ac.size));clear ad)
 go_ret2
 exact⟨rfl,af.o⟩
theorem encS_ok (c:StC) (d:Sta) (w:World) (hd:IsSta (· < w.heap.size) w c d) (hT:Tabs w) (hZ:ZTab w) (hz:Sz 2000 d.l) (h0:bZ d=0) :
 CP 35 #[c.v] w (Rt (.tuple #[Sv (if nX d≠0 then ⟨#[]⟩ else ⟨(aGf d).toArray⟩),I6 (nX d)]) w):=by
 obtain⟨sn,st,a,sl,sc⟩:=c;have b9:BB w (w.alloc (.cells #[I6 sn,I6 st,Sl a sl sc] 85)):=(bR w).alloc lr _;have c6:=fM ⟨sn,st,a,sl,sc⟩ d (w.alloc (.cells #[I6 sn,I6 st,Sl a sl sc] 85)) (hd.same λb q=>⟨ix q b9.size,b9.block b q⟩) (hT.below b9);rw[h0] at c6;obtain⟨dq,d1⟩:=h_2 c6 b9;have HT:f7 (∀w',BB w w'->Tabs w'/\ZTab w'):=f8 λw' h=>⟨hT.below h,hZ.below h⟩
 have HG:=f8 (ib w (.cells #[I6 sn,I6 st,Sl a sl sc] 85));have cl:=hd.l.big;have HD:=f8 hd.l;have HL:=f8 hd.l.len;have a2:=f8 (ie hd.n (ie (show I64 sn by have:=hd.n;dsimp only at this;rw[this];exact hd.rn) (ie hd.t (show I64 st by have:=hd.t;dsimp only at this;rw[this];exact hd.rt))));have cv:=f8 hz;have ct:=f8 (show(I64 d.n/\I64 d.t)/\∀x∈d.l,I64 x.n/\I64 x.t from⟨⟨hd.rn,hd.rt⟩,λx hx=>by
  rcases hd.l.at' with e|⟨b,o,_,_,q⟩
  ·rw[e] at hx;exact absurd hx ge
  ·obtain⟨j,hj,rfl⟩:=n5 hx;obtain⟨y,_,hy⟩:=q j hj;exact⟨hy.rn,hy.rt⟩⟩)
 dsimp only at cl HD HL a2;have d6:=f8 (show w.heap.size<(w.alloc (.cells #[I6 sn,I6 st,Sl a sl sc] 85)).heap.size by simp);clear c6 b9 hd hT hZ hz h0;obtain⟨V,hV⟩:=xe (if nX d≠0 then ⟨#[]⟩ else ⟨(aGf d).toArray⟩:BA)
 obtain⟨er,hx⟩:=xe (nX d)
 rw[<-hV,<-hx];rw[<-hx] at hV;have ch:=f8 (ie hV hx);clear hV hx;dsimp only[StC.v] at dq ⊢;go_enter func35,ntmps35
 go_upto_region 8 with (go_at_call 76;refine dq.mono ?_;rintro e w1 ⟨rfl,ce⟩;have cr:=aB ce HG.o;have g2:=aA cr 2;(try dsimp only at g2))
 obtain⟨w2,bh⟩:=xe ((w1.alloc (.cells #[I6 0] 31)).alloc (.cells #[.pointer none,Z0] 112))
 rw[<-bh];have du:=ce.size;simp only[jb] at du;have a3:BB w w1:=d1.trans (ce.mono ge);have dl:IsBld (w1.heap.size+1) (w1.heap.size+1) [] w2:=by have h:=lP (w1.alloc (.cells #[I6 0] 31));rw[jb] at h;rw[bh];exact h
 have dm:BldAt w (w1.heap.size+1) [] [(w1.heap.size,(.cells #[I6 0] 31)),(w.heap.size,(.cells #[I6 sn,I6 st,Sl a sl sc] 85))] w2:=by
  refine⟨dl,by rw[bh];exact(a3.alloc ga _).alloc gi _,by rw[bh];simp,by omega,λp hp=>?_⟩;simp only[kd,jt,kj] at hp;rcases hp with rfl|rfl
  ·exact⟨by rw[bh];exact aC _ (ib _ _),by dsimp only;omega,λc fz e=>by cases e⟩
  ·exact⟨by rw[bh];exact aC _ (aC _ cr),by dsimp only;omega,λc fz e=>by cases e⟩
 obtain⟨c3,bk⟩:=h_2 dm a3;have HC:f7 (∀w',(∃bs f,BldAt w (w1.heap.size+1) bs [(w1.heap.size,(.cells #[I6 f] 31)),(w.heap.size,(.cells #[I6 sn,I6 st,Sl a sl sc] 85))] w')->Ce w' w.heap.size 0 (I6 sn)/\Ce w' w.heap.size 1 (I6 st)):=f8 λw' ⟨_,_,h⟩=>by
  have h1:=h.at 1 ge;exact⟨aA h1 0,aA h1 1⟩
 have c2:=f8 (show w.heap.size<w1.heap.size by omega);clear bh dl dm a3 cr g2 ce du;refine iz (S:=(λw'=>∃bs f,BldAt w (w1.heap.size+1) bs [(w1.heap.size,(.cells #[I6 f] 31)),(w.heap.size,(.cells #[I6 sn,I6 st,Sl a sl sc] 85))] w')) gd (⟨_,_,c3.ext (gx _ _).drew⟩) (λhS=>?_);refine tC 0 HC ?_;refine tC 1 HC ?_;refine tC 2 HC ?_;refine tC 4 HC ?_;refine tC 5 HC ?_;refine yr 3 λK hK=>?_;generalize hwa:World.drew _=wa at hS ⊢;have ha:BldAt w (w1.heap.size+1) [] [(w1.heap.size,(.cells #[I6 0] 31)),(w.heap.size,(.cells #[I6 sn,I6 st,Sl a sl sc] 85))] wa:=by rw[<-hwa];exact c3.ext (gx _ w2).drew
 clear hwa;go_simp;go_at_call 64;refine(bM sn a2.2.1 wa (HT.o _ ha.bw).1).mono ?_;rintro e wc ⟨rfl,b4⟩;have hc:=ha.ext b4;refine kOQ hK (⟨_,_,hc⟩) λhS=>?_;clear hK K
 refine yr 6 λK hK=>?_;go_simp;go_at_call 64;refine(bM st a2.2.2.2 wc (HT.o _ hc.bw).1).mono ?_;rintro e we ⟨rfl,bl⟩;have he:=hc.ext bl;refine kOQ hK (⟨_,_,he⟩) λhS=>?_;clear hK K
 refine yr 7 λK hK=>?_;go_simp;refine kOQ hK (⟨_,_,he.ext ((gx _ _).alloc lr _)⟩) λhS=>?_;clear hK K
 refine yr 8 λK hK=>?_;generalize hwwg:World.alloc _ _=wg at hS ⊢;have cf:BldAt w (w1.heap.size+1) [] [(w1.heap.size,(.cells #[I6 0] 31)),(w.heap.size,(.cells #[I6 sn,I6 st,Sl a sl sc] 85))] wg:=by rw[<-hwwg];exact he.ext ((gx _ _).alloc lr _)
 have cw:wg.heap[we.heap.size]?=some (.cells #[.string ⟨#[115,116,97,116,101]⟩,Sv (aE sn),Sv (aE st)] 9):=by rw[<-hwwg];exact ib _ _
 clear hwwg;have b2:=pF _ _ [] [⟨#[115,116,97,116,101]⟩,(aE sn),(aE st)] we.heap.size 0 3 wg cf.bld (cells3 cw) (ltOf cw) (show 3<=3 from gy _) (show 3<=100 by decide) (by rw[wZ];have:=jI _ a2.2.1;have:=jI _ a2.2.2.2;have:(⟨#[115,116,97,116,101]⟩:BA).size=5:=rfl;simp only[i7];omega) (by have:=cf.n;omega);go_simp;go_at_call 81;refine b2.mono ?_;rintro e w4 he;have ci:=cf.line he;obtain⟨rfl,_⟩:=he;refine kOQ hK (⟨_,_,ci⟩) λhS=>?_;clear hK K
 refine iq gd ?_ _
 (try dsimp only)
 have H4:=f8 ci;have h5:w4.heap[w.heap.size]?=some (.cells #[I6 sn,I6 st,Sl a sl sc] 85):=ci.at 1 ge;have k2:=aA h5 2
 (try dsimp only at k2)
 clear hS ci b2 cw cf he bl hc b4 ha h5 HC c3;go_wp2
 go_loopw [34] (λi wr=>∃k:Nat,k<=sl/\i=I6 k/\BldAt w (w1.heap.size+1) (lD d k) [(w1.heap.size,(.cells #[I6 (xR d k)] 31)),(w.heap.size,(.cells #[I6 sn,I6 st,Sl a sl sc] 85))] wr) (λi _=>sl-(intOf i).toNat)
 case atStart=>exact⟨0,ii _,rfl,by
  have h:=H4.o;rw[ji] at h;rw[aG3,aLd,<-a2.1,<-a2.2.2.1];exact h⟩
 case round =>
  obtain⟨k,hk,rfl,ah⟩:=hrel;obtain⟨wp,rfl⟩:=xe (wr:World)
  by_cases d5:k<sl
  ·have cd:k<d.l.length:=by have:=HL.o;omega
   obtain⟨b,o,rfl,hb,hx⟩:=HD.slot (show 0<sl by omega);obtain⟨⟨xk,xn,xt,af,aa,ad,ag,ab,ae⟩,dk,bm⟩:=hx k cd;obtain⟨x0,x1,x2,x3,x4,x5,x6,x7,x8,x9⟩:=(dk.same (ah.bw.block b hb)).slot;have b6:(k:Int)<(sl:Int):=ga
   have dr:(0:Int)<=(k:Int):=ga
   obtain⟨y,hy⟩:=xe (d.l[k])
   rw[<-hy] at bm;have QN:=f8 (show xn=y.n from bm.n);have QT:=f8 (show xt=y.t from bm.t);obtain⟨f0,bd⟩:=xe (xR d k)
   obtain⟨t0,ck⟩:=xe (lD d k)
   rw[<-bd,<-ck] at ah;have dv:=cv.2 y (by rw[hy];exact kc cd);have bv:t0.length<=100+2000 * 352000000:=by rw[ck];exact aA2 cv.o (ct.o) k (by have:=cv.1;have:=HL.o;omega)
   obtain⟨HY,d0,d2,cR,br,a4,ak⟩:=h_7 hy bd ck dv bv ah bm;clear hy bd ck dv bv ah bm dk hx hb;go_upto_region 12 with (fail)
   clear x0 x1 x2 x3 x4 x5 x6 x7 x8 x9;obtain⟨w5,cy⟩:=xe (wp.alloc (.cells #[I6 xk.k,I6 xk.i,I6 xk.s,Sv xk.t,Sl xk.la xk.ll xk.lc,Sl xk.fa xk.fl xk.fc,I6 xn,I6 xt,Sl af aa ad,Sl ag ab ae] 144))
   rw[<-cy];have cm:f7 (BldAt w (w1.heap.size+1) t0 [(w1.heap.size,(.cells #[I6 f0] 31)),(wp.heap.size,(.cells #[I6 xk.k,I6 xk.i,I6 xk.s,Sv xk.t,Sl xk.la xk.ll xk.lc,Sl xk.fa xk.fl xk.fc,I6 xn,I6 xt,Sl af aa ad,Sl ag ab ae] 144)),(w.heap.size,(.cells #[I6 sn,I6 st,Sl (So b o) sl sc] 85))] w5):=f8 (by
    rw[cy];refine(((a4.ext ((gx _ wp).alloc lr _)).cons (ib _ _) ?_ (λc fz e=>by cases e))).sub ?_
    ·have:=a4.n;omega
    ·intro p hp;simp only[kd,jt,kj] at hp ⊢;rcases hp with rfl|rfl|rfl
     ·exact .inr (.inl rfl)
     ·exact .inl rfl
     ·exact .inr (.inr rfl))
   have al:f7 (∀w',(∃bs f,BldAt w (w1.heap.size+1) bs [(w1.heap.size,(.cells #[I6 f] 31)),(wp.heap.size,(.cells #[I6 xk.k,I6 xk.i,I6 xk.s,Sv xk.t,Sl xk.la xk.ll xk.lc,Sl xk.fa xk.fl xk.fc,I6 xn,I6 xt,Sl af aa ad,Sl ag ab ae] 144)),(w.heap.size,(.cells #[I6 sn,I6 st,Sl (So b o) sl sc] 85))] w')->Ce w' wp.heap.size 0 (I6 xk.k)/\Ce w' wp.heap.size 1 (I6 xk.i)/\Ce w' wp.heap.size 2 (I6 xk.s)/\Ce w' wp.heap.size 3 (Sv xk.t)/\Ce w' wp.heap.size 4 (Sl xk.la xk.ll xk.lc)/\Ce w' wp.heap.size 5 (Sl xk.fa xk.fl xk.fc)/\Ce w' wp.heap.size 6 (I6 xn)/\Ce w' wp.heap.size 7 (I6 xt)/\Ce w' wp.heap.size 8 (Sl af aa ad)/\Ce w' wp.heap.size 9 (Sl ag ab ae)):=f8 λw' ⟨_,_,h⟩=>by
    have h1:=h.at 1 ge;exact⟨aA h1 0,aA h1 1,aA h1 2,aA h1 3,aA h1 4,aA h1 5,aA h1 6,aA h1 7,aA h1 8,aA h1 9⟩
   have cz:=f8 (show w1.heap.size+1<wp.heap.size from a4.n);have da:f7 (∀w',BB w w'->IsSl (· < w'.heap.size) w' ⟨xk,xn,xt,af,aa,ad,ag,ab,ae⟩ y):=f8 λw' h=>ak.same λb q=>⟨ix q h.size,h.block b q⟩
   clear cy;refine iz (S:=(λw'=>∃bs f,BldAt w (w1.heap.size+1) bs [(w1.heap.size,(.cells #[I6 f] 31)),(wp.heap.size,(.cells #[I6 xk.k,I6 xk.i,I6 xk.s,Sv xk.t,Sl xk.la xk.ll xk.lc,Sl xk.fa xk.fl xk.fc,I6 xn,I6 xt,Sl af aa ad,Sl ag ab ae] 144)),(w.heap.size,(.cells #[I6 sn,I6 st,Sl (So b o) sl sc] 85))] w')) gd (⟨_,_,cm.ext (gx _ _).drew⟩) (λhS=>?_);refine tC 0 al ?_;refine tC 1 al ?_;refine tC 2 al ?_;refine tC 4 al ?_;refine tC 5 al ?_;refine tC 7 al ?_;refine tC 8 al ?_;refine tC 9 al ?_;refine yr 3 λK hK=>?_;generalize hwa:World.drew _=wa at hS ⊢;have ha:BldAt w (w1.heap.size+1) t0 [(w1.heap.size,(.cells #[I6 f0] 31)),(wp.heap.size,(.cells #[I6 xk.k,I6 xk.i,I6 xk.s,Sv xk.t,Sl xk.la xk.ll xk.lc,Sl xk.fa xk.fl xk.fc,I6 xn,I6 xt,Sl af aa ad,Sl ag ab ae] 144)),(w.heap.size,(.cells #[I6 sn,I6 st,Sl (So b o) sl sc] 85))] wa:=by rw[<-hwa];exact cm.ext (gx _ w5).drew
   clear hwa;go_simp;go_at_call 64;refine(bM xn (by rw[QN.o];exact ak.rn) wa (HT.o _ ha.bw).1).mono ?_;rintro e wc ⟨rfl,b4⟩;have hc:=ha.ext b4;refine kOQ hK (⟨_,_,hc⟩) λhS=>?_;clear hK K
   refine yr 6 λK hK=>?_;go_simp;go_at_call 64;refine(bM xt (by rw[QT.o];exact ak.rt) wc (HT.o _ hc.bw).1).mono ?_;rintro e we ⟨rfl,bl⟩;have bj:=hc.ext bl;refine kOQ hK (⟨_,_,bj⟩) λhS=>?_;clear hK K
   refine yr 10 λK hK=>?_;go_simp;go_at_call 83;refine(kF xk y.k we (da.o _ bj.bw).k (HT.o _ bj.bw).1 (HT.o _ bj.bw).2).mono ?_;rintro e wf ⟨rfl,dj⟩;have hf:=bj.ext dj;have gf:wf.heap[w1.heap.size]?=some (.cells #[I6 f0] 31):=hf.at 0 ge;refine kOQ hK (⟨_,_,hf⟩) λhS=>?_;clear hK K
   refine tC 11 al ?_;refine tC 12 al ?_;refine yr 13 λK hK=>?_;go_simp;go_at_call 82;refine(qP w1.heap.size (eE y.k).1 f0 (eE y.k).2 wf gf).mono ?_;rintro e wh ⟨rfl,dn⟩;have hh:BldAt w (w1.heap.size+1) t0 [(w1.heap.size,(.cells #[I6 (qW f0 (eE y.k).2)] 31)),(wp.heap.size,(.cells #[I6 xk.k,I6 xk.i,I6 xk.s,Sv xk.t,Sl xk.la xk.ll xk.lc,Sl xk.fa xk.fl xk.fc,I6 xn,I6 xt,Sl af aa ad,Sl ag ab ae] 144)),(w.heap.size,(.cells #[I6 sn,I6 st,Sl (So b o) sl sc] 85))] wh:=by
    rw[dn];refine hf.setF _ (by have:=hf.m;have:=bk.size;omega) (λp hp=>?_);have q1:=bk.size;have q2:=cz.o;have q3:=c2.o;simp only[kd,jt,kj] at hp;rcases hp with rfl|rfl
    ·dsimp only;omega
    ·dsimp only;omega
   clear dn;refine kOQ hK (⟨_,_,hh⟩) λhS=>?_;clear hK K
   refine yr 14 λK hK=>?_;go_simp;refine kOQ hK (⟨_,_,hh.ext ((gx _ _).alloc lr _)⟩) λhS=>?_;clear hK K
   refine yr 15 λK hK=>?_;generalize hwwi:World.alloc _ _=wi at hS ⊢;have cg:BldAt w (w1.heap.size+1) t0 [(w1.heap.size,(.cells #[I6 (qW f0 (eE y.k).2)] 31)),(wp.heap.size,(.cells #[I6 xk.k,I6 xk.i,I6 xk.s,Sv xk.t,Sl xk.la xk.ll xk.lc,Sl xk.fa xk.fl xk.fc,I6 xn,I6 xt,Sl af aa ad,Sl ag ab ae] 144)),(w.heap.size,(.cells #[I6 sn,I6 st,Sl (So b o) sl sc] 85))] wi:=by rw[<-hwwi];exact hh.ext ((gx _ _).alloc lr _)
   have c8:wi.heap[wh.heap.size]?=some (.cells #[.string ⟨#[115,108,111,116]⟩,Sv (aE xn),Sv (aE xt),Sv (eE y.k).1] 9):=by rw[<-hwwi];exact ib _ _
   clear hwwi;have b1:=pF _ _ t0 [⟨#[115,108,111,116]⟩,(aE xn),(aE xt),(eE y.k).1] wh.heap.size 0 4 wi cg.bld (cells4 c8) (ltOf c8) (show 4<=4 from gy _) (show 4<=100 by decide) (by rw[wY];have:=jI xn (by rw[QN.o];exact ak.rn);have:=jI xt (by rw[QT.o];exact ak.rt);have:=gA y.k;have:=br.o;have:(⟨#[115,108,111,116]⟩:BA).size=4:=rfl;omega) (by have:=cg.n;omega);go_simp;go_at_call 81;refine b1.mono ?_;rintro e ds he;have bc:=cg.line he;obtain⟨rfl,_⟩:=he;refine kOQ hK (⟨_,_,bc⟩) λhS=>?_;clear hK K
   refine iq gd ?_ _
   (try dsimp only)
   have ay:BldAt w (w1.heap.size+1) (t0++sU y) [(w1.heap.size,(.cells #[I6 (qW f0 (eE y.k).2)] 31)),(wp.heap.size,(.cells #[I6 xk.k,I6 xk.i,I6 xk.s,Sv xk.t,Sl xk.la xk.ll xk.lc,Sl xk.fa xk.fl xk.fc,I6 xn,I6 xt,Sl af aa ad,Sl ag ab ae] 144)),(w.heap.size,(.cells #[I6 sn,I6 st,Sl (So b o) sl sc] 85))] ds:=by
    have e:sU y=jH [⟨#[115,108,111,116]⟩,aE xn,aE xt,(eE y.k).1]:=by rw[QN.o,QT.o];rfl
    rw[e];exact bc
   obtain⟨b8,ax⟩:=xe (t0++sU y)
   obtain⟨bu,bf⟩:=xe (qW f0 (eE y.k).2)
   rw[<-ax,<-bf] at ay;have a1:=f8 (show b8.length<=100+2000 * 352000000+65600 by
    have q:=ak.o;have q1:=vZ y q.rn q.rt;have q2:=br.o;rw[ax,ik];omega)
   have bo:=f8 (ie ax bf);have dz:=f8 ay;have df:ds.heap[wp.heap.size]?=some (.cells #[I6 xk.k,I6 xk.i,I6 xk.s,Sv xk.t,Sl xk.la xk.ll xk.lc,Sl xk.fa xk.fl xk.fc,I6 xn,I6 xt,Sl af aa ad,Sl ag ab ae] 144):=ay.at 1 ge;have kk:=aA df 8
   (try dsimp only at kk)
   clear hS bc ay ax bf b1 c8 cg hh gf hf dj bj bl hc b4 ha df al cm;have cn:aa * 152<=140737488351232:=ak.items.big;go_wp2
   go_loopw [57] (λi wr=>∃j:Nat,j<=aa/\i=I6 j/\BldAt w (w1.heap.size+1) (b8++(y.items.take j).flatMap jP) [(w1.heap.size,(.cells #[I6 (nC bu (y.items.take j))] 31)),(wp.heap.size,(.cells #[I6 xk.k,I6 xk.i,I6 xk.s,Sv xk.t,Sl xk.la xk.ll xk.lc,Sl xk.fa xk.fl xk.fc,I6 xn,I6 xt,Sl af aa ad,Sl ag ab ae] 144)),(w.heap.size,(.cells #[I6 sn,I6 st,Sl (So b o) sl sc] 85))] wr) (λi _=>aa-(intOf i).toNat)
   case atStart=>exact⟨0,ii _,rfl,by
    have h:=dz.o;rw[List.take_zero,List.flatMap_nil,nk];exact h⟩
   case round =>
    obtain⟨j,hj,rfl,ah⟩:=hrel;obtain⟨wq,rfl⟩:=xe (wr:World)
    have au:=f8 ah;clear ah;by_cases a9:j<aa
    ·have cc:j<y.items.length:=by have:=ak.items.len;(try dsimp only at this);omega
     obtain⟨zb,zo,rfl,co,hz⟩:=(da.o wq au.bw).items.slot (show 0<aa by omega);obtain⟨z,aq,a6⟩:=hz j cc;have db:=aq.m;obtain⟨z0,z1,z2,z3,z4,z5,z6,z7,z8,z9⟩:=db;have b6:(j:Int)<(aa:Int):=ga
     have dr:(0:Int)<=(j:Int):=ga
     obtain⟨u,hu⟩:=xe (y.items[j])
     rw[<-hu] at a6;have HU:=f8 hu;clear hu hz aq co;go_upto_region 16 with (fail)
     clear z0 z1 z2 z3 z4 z5 z6 z7 z8 z9;obtain⟨aj,ac⟩:=xe (wq.alloc (oM z 69))
     rw[<-ac];have am:BldAt w (w1.heap.size+1) (b8++(y.items.take j).flatMap jP) [(w1.heap.size,(.cells #[I6 (nC bu (y.items.take j))] 31)),(wp.heap.size,(.cells #[I6 xk.k,I6 xk.i,I6 xk.s,Sv xk.t,Sl xk.la xk.ll xk.lc,Sl xk.fa xk.fl xk.fc,I6 xn,I6 xt,Sl (So zb zo) aa ad,Sl ag ab ae] 144)),(w.heap.size,(.cells #[I6 sn,I6 st,Sl (So b o) sl sc] 85))] aj:=by rw[ac];exact au.ext ((gx _ wq).alloc lr _)
     have be:aj.heap[wq.heap.size]?=some (oM z 69):=by rw[ac];exact ib _ _
     obtain⟨y0,y1,y2,y3,y4,y5,y6,y7,y8⟩:=c_9 be;have y9:=aA be 9
     (try dsimp only at y0 y1 y2 y3 y4 y5 y6 y7 y8 y9)
     have a7:BB wq aj:=by rw[ac];exact(gx _ wq).alloc lr _
     have an:=a6.same (S':=(· < aj.heap.size)) (w':=aj) λb q=>⟨ix q a7.size,a7.block b q⟩
     have ai:=f8 (mZ z u aj an (HT.o _ am.bw).1 (HT.o _ am.bw).2);dsimp only[MC.v] at ai;obtain⟨tu,av⟩:=xe ((iB u).1)
     obtain⟨eu,bg⟩:=xe ((iB u).2)
     rw[<-av,<-bg] at ai;obtain⟨fj,a5⟩:=xe (nC bu (y.items.take j))
     obtain⟨tj,a0⟩:=xe (b8++(y.items.take j).flatMap jP)
     rw[<-a5,<-a0] at am;have ca:tj.length<=100+2000 * 352000000+65600+2000 * 110006:=by
      have q1:=a1.o;have q2:=lK jP 110006 (y.items.take j) (λm _=>qQ m);have q3:(y.items.take j).length<=2000:=by rw[ma];have:=cR.o;omega
      have q4:(y.items.take j).length * 110006<=2000 * 110006:=oe _ q3;rw[a0,ik];omega
     have bt:tu.size<=110000:=by rw[av];exact tN u
     have c9:=f8 am;have bq:=f8 (ie a5 a0);have b7:=f8 (ie av bg);have cu:=f8 (ie ca bt);clear ac be am a7 a6 an a5 a0 av bg ca bt;go_wp2_with (first
      | (go_at_call 81;refine c5.mono ?_;rintro e c4 he;have dc:=f8 (bi.line he);obtain⟨rfl,_⟩:=he)
      | (go_at_call 82;refine a8.mono ?_;rintro e ap ⟨rfl,ao⟩;have aw:BldAt w (w1.heap.size+1) tj [(w1.heap.size,(.cells #[I6 (qW fj eu)] 31)),(wp.heap.size,(.cells #[I6 xk.k,I6 xk.i,I6 xk.s,.string xk.t,.slice xk.la xk.ll xk.lc,.slice xk.fa xk.fl xk.fc,I6 xn,I6 xt,.slice (So zb zo) aa ad,.slice ag ab ae] 144)),(w.heap.size,(.cells #[I6 sn,I6 st,.slice (So b o) sl sc] 85))] ap:=(by rw[ao];exact dd.o);have bn:=pF _ _ tj [⟨#[105,116,101,109]⟩,tu] ap.heap.size 0 2 (ap.alloc (.cells #[.string ⟨#[105,116,101,109]⟩,.string tu] 9)) (aw.ext ((gx _ ap).alloc lr _)).bld (aOg (ib _ _)) (ltOf (ib _ _)) (show 2<=2 from gy _) (show 2<=100 by decide) (by rw[nA];have q1:=cu.o;have q2:(⟨#[105,116,101,109]⟩:BA).size<=5:=gb;omega) (by have:=aw.n;simp;omega);have c5:=f8 bn;have bi:=f8 (aw.ext ((gx _ ap).alloc lr (.cells #[.string ⟨#[105,116,101,109]⟩,.string tu] 9)));clear bn aw ao)
      | (go_at_call 37;refine ai.mono ?_;rintro e b0 ⟨rfl,ba⟩;have bb:=c9.ext ba;have bp:b0.heap[w1.heap.size]?=some (.cells #[I6 fj] 31):=bb.at 0 ge;have a8:=f8 (qP w1.heap.size tu fj eu b0 bp);have dd:=f8 (bb.setF (I6 (qW fj eu)) (by have:=bk.size;omega) (λp hp=>(by have q1:=bk.size;have q2:=cz.o;have q3:=c2.o;simp only[kd,jt,kj] at hp;rcases hp with rfl|rfl<;>(dsimp only;omega))));clear bb bp))
     go_roundw
     case rel=>exact⟨j+1,by omega,by go_num,by
      have h:=dc.o;rw[mh cc,<-HU.o,mn,pg,<-ka,<-bq.2];unfold nC;rw[List.foldl_append];show BldAt w (w1.heap.size+1) (tj++jP u) [(w1.heap.size,(.cells #[I6 (qW (nC bu (y.items.take j)) (iB u).2)] 31)),(wp.heap.size,(.cells #[I6 xk.k,I6 xk.i,I6 xk.s,Sv xk.t,Sl xk.la xk.ll xk.lc,Sl xk.fa xk.fl xk.fc,I6 xn,I6 xt,Sl (So zb zo) aa ad,Sl ag ab ae] 144)),(w.heap.size,(.cells #[I6 sn,I6 st,Sl (So b o) sl sc] 85))] c4;rw[<-bq.1,<-b7.2];unfold jP
      rw[<-b7.1];exact h⟩
     case measure=>simp[intOf];omega
    ·obtain rfl:aa=j:=ga
     have dy:=f8 au.o;obtain⟨b3,ar⟩:=xe (b8++(y.items.take aa).flatMap jP)
     obtain⟨b5,az⟩:=xe (nC bu (y.items.take aa))
     have cj:=au.o;rw[<-ar,<-az] at cj;have dg:y.items.take aa=y.items:=mr (by have:=ak.items.len;(try dsimp only at this);omega);rw[dg] at ar az;have bx:=f8 (show b3.length<=100+2000 * 352000000+65600+2000 * 110006 by
      have q1:=a1.o;have q2:=lK jP 110006 y.items (λm _=>qQ m);have q4:y.items.length * 110006<=2000 * 110006:=oe _ cR.1;rw[ar,ik];omega)
     have cb:=f8 (ie ar az);have d3:=f8 cj;have di:wq.heap[wp.heap.size]?=some (.cells #[I6 xk.k,I6 xk.i,I6 xk.s,Sv xk.t,Sl xk.la xk.ll xk.lc,Sl xk.fa xk.fl xk.fc,I6 xn,I6 xt,Sl af aa ad,Sl ag ab ae] 144):=cj.at 1 ge;have de:=aA di 9
     (try dsimp only at de)
     clear kk cj di ar az dg a9 au dy;have cp:ab * 88<=140737488351232:=ak.vals.big;go_wp2
     go_loopw [74] (λi wr=>∃j:Nat,j<=ab/\i=I6 j/\BldAt w (w1.heap.size+1) (b3++(y.vals.take j).flatMap nS) [(w1.heap.size,(.cells #[I6 (qF b5 (y.vals.take j))] 31)),(wp.heap.size,(.cells #[I6 xk.k,I6 xk.i,I6 xk.s,Sv xk.t,Sl xk.la xk.ll xk.lc,Sl xk.fa xk.fl xk.fc,I6 xn,I6 xt,Sl af aa ad,Sl ag ab ae] 144)),(w.heap.size,(.cells #[I6 sn,I6 st,Sl (So b o) sl sc] 85))] wr) (λi _=>ab-(intOf i).toNat)
     case atStart=>exact⟨0,ii _,rfl,by
      have h:=d3.o;rw[List.take_zero,List.flatMap_nil,nk];exact h⟩
     case round =>
      obtain⟨j,hj,rfl,ah⟩:=hrel;obtain⟨wq,rfl⟩:=xe (wr:World)
      have au:=f8 ah;clear ah;by_cases a9:j<ab
      ·have cc:j<y.vals.length:=by have:=ak.vals.len;(try dsimp only at this);omega
       obtain⟨zb,zo,rfl,co,hz⟩:=(da.o wq au.bw).vals.slot (show 0<ab by omega);obtain⟨z,aq,a6⟩:=hz j cc;have db:=aq.val;obtain⟨z0,z1,z2,z3,z4,z5⟩:=db;have b6:(j:Int)<(ab:Int):=ga
       have dr:(0:Int)<=(j:Int):=ga
       obtain⟨u,hu⟩:=xe (y.vals[j])
       rw[<-hu] at a6;have HU:=f8 hu;clear hu hz aq co;go_upto_region 21 with (fail)
       clear z0 z1 z2 z3 z4 z5;obtain⟨aj,ac⟩:=xe (wq.alloc (oV z 67))
       rw[<-ac];have am:BldAt w (w1.heap.size+1) (b3++(y.vals.take j).flatMap nS) [(w1.heap.size,(.cells #[I6 (qF b5 (y.vals.take j))] 31)),(wp.heap.size,(.cells #[I6 xk.k,I6 xk.i,I6 xk.s,Sv xk.t,Sl xk.la xk.ll xk.lc,Sl xk.fa xk.fl xk.fc,I6 xn,I6 xt,Sl af aa ad,Sl (So zb zo) ab ae] 144)),(w.heap.size,(.cells #[I6 sn,I6 st,Sl (So b o) sl sc] 85))] aj:=by rw[ac];exact au.ext ((gx _ wq).alloc lr _)
       have be:aj.heap[wq.heap.size]?=some (oV z 67):=by rw[ac];exact ib _ _
       obtain⟨y0,y1,y2,y3,y4⟩:=c_5 be;have y5:=aA be 5
       (try dsimp only at y0 y1 y2 y3 y4 y5)
       have a7:BB wq aj:=by rw[ac];exact(gx _ wq).alloc lr _
       have an:=a6.same (S':=(· < aj.heap.size)) (w':=aj) λb q=>⟨ix q a7.size,a7.block b q⟩
       have ai:=f8 (kF z u aj an (HT.o _ am.bw).1 (HT.o _ am.bw).2);dsimp only[VC.v] at ai;obtain⟨tu,av⟩:=xe ((eE u).1)
       obtain⟨eu,bg⟩:=xe ((eE u).2)
       rw[<-av,<-bg] at ai;obtain⟨fj,a5⟩:=xe (qF b5 (y.vals.take j))
       obtain⟨tj,a0⟩:=xe (b3++(y.vals.take j).flatMap nS)
       rw[<-a5,<-a0] at am;have ca:tj.length<=100+2000 * 352000000+65600+2000 * 110006+2000 * 65543:=by
        have q1:=bx.o;have q2:=lK nS 65543 (y.vals.take j) (λm _=>zY m);have q3:(y.vals.take j).length<=2000:=by rw[ma];have:=cR.o;omega
        have q4:(y.vals.take j).length * 65543<=2000 * 65543:=oe _ q3;rw[a0,ik];omega
       have bt:tu.size<=110000:=by rw[av];have:=gA u;omega
       have c9:=f8 am;have bq:=f8 (ie a5 a0);have b7:=f8 (ie av bg);have cu:=f8 (ie ca bt);clear ac be am a7 a6 an a5 a0 av bg ca bt;go_wp2_with (first
        | (go_at_call 81;refine c5.mono ?_;rintro e c4 he;have dc:=f8 (bi.line he);obtain⟨rfl,_⟩:=he)
        | (go_at_call 82;refine a8.mono ?_;rintro e ap ⟨rfl,ao⟩;have aw:BldAt w (w1.heap.size+1) tj [(w1.heap.size,(.cells #[I6 (qW fj eu)] 31)),(wp.heap.size,(.cells #[I6 xk.k,I6 xk.i,I6 xk.s,.string xk.t,.slice xk.la xk.ll xk.lc,.slice xk.fa xk.fl xk.fc,I6 xn,I6 xt,.slice af aa ad,.slice (So zb zo) ab ae] 144)),(w.heap.size,(.cells #[I6 sn,I6 st,.slice (So b o) sl sc] 85))] ap:=(by rw[ao];exact dd.o);have bn:=pF _ _ tj [⟨#[118,97,108,117,101]⟩,tu] ap.heap.size 0 2 (ap.alloc (.cells #[.string ⟨#[118,97,108,117,101]⟩,.string tu] 9)) (aw.ext ((gx _ ap).alloc lr _)).bld (aOg (ib _ _)) (ltOf (ib _ _)) (show 2<=2 from gy _) (show 2<=100 by decide) (by rw[nA];have q1:=cu.o;have q2:(⟨#[118,97,108,117,101]⟩:BA).size<=5:=gb;omega) (by have:=aw.n;simp;omega);have c5:=f8 bn;have bi:=f8 (aw.ext ((gx _ ap).alloc lr (.cells #[.string ⟨#[118,97,108,117,101]⟩,.string tu] 9)));clear bn aw ao)
        | (go_at_call 83;refine ai.mono ?_;rintro e b0 ⟨rfl,ba⟩;have bb:=c9.ext ba;have bp:b0.heap[w1.heap.size]?=some (.cells #[I6 fj] 31):=bb.at 0 ge;have a8:=f8 (qP w1.heap.size tu fj eu b0 bp);have dd:=f8 (bb.setF (I6 (qW fj eu)) (by have:=bk.size;omega) (λp hp=>(by have q1:=bk.size;have q2:=cz.o;have q3:=c2.o;simp only[kd,jt,kj] at hp;rcases hp with rfl|rfl<;>(dsimp only;omega))));clear bb bp))
       go_roundw
       case rel=>exact⟨j+1,by omega,by go_num,by
        have h:=dc.o;rw[mh cc,<-HU.o,mn,pg,<-ka,<-bq.2];unfold qF;rw[List.foldl_append];show BldAt w (w1.heap.size+1) (tj++nS u) [(w1.heap.size,(.cells #[I6 (qW (qF b5 (y.vals.take j)) (eE u).2)] 31)),(wp.heap.size,(.cells #[I6 xk.k,I6 xk.i,I6 xk.s,Sv xk.t,Sl xk.la xk.ll xk.lc,Sl xk.fa xk.fl xk.fc,I6 xn,I6 xt,Sl af aa ad,Sl (So zb zo) ab ae] 144)),(w.heap.size,(.cells #[I6 sn,I6 st,Sl (So b o) sl sc] 85))] c4;rw[<-bq.1,<-b7.2];unfold nS
        rw[<-b7.1];exact h⟩
       case measure=>simp[intOf];omega
      ·obtain rfl:ab=j:=ga

       have c7:=au.o;have dh:y.vals.take ab=y.vals:=mr (by have:=ak.vals.len;(try dsimp only at this);omega);rw[dh] at c7;have cx:=f8 c7;clear c7 dh de a9 au;go_wp2
       go_roundw
       case rel=>exact⟨k+1,by omega,by go_num,by
        have h:=cx.o;have e1:lD d (k+1)=b3++y.vals.flatMap nS:=by
         rw[aG4 d k cd,<-HY.o,<-d2.o,cb.1,bo.1];unfold mQ;simp only[ka]
        have e2:xR d (k+1)=qF b5 y.vals:=by
         rw[aLe d k cd,<-HY.o,<-d0.o,cb.2,bo.2];rfl
        rw[e1,e2];refine h.sub ?_;intro p hp;simp only[kd,jt,kj] at hp ⊢;rcases hp with rfl|rfl
        ·exact .inl rfl
        ·exact .inr (.inr rfl)⟩
       case measure=>simp[intOf];omega
  ·obtain rfl:k=sl:=ga
   have a4:=f8 ah;have gf:wp.heap[w1.heap.size]?=some (.cells #[I6 (xR d k)] 31):=ah.at 0 ge;have kf:=aA gf 0
   (try dsimp only at kf)
   obtain⟨f0,bd⟩:=xe (xR d k)
   have dp:f0=nX d:=by rw[bd];exact aO1 d k (by have:=HL.o;omega)
   have dt:lD d k=aGf d:=aA3 d k (by have:=HL.o;omega);rw[<-bd] at kf;have dw:=f8 (Tryz.Builder_String_any_k (w1.heap.size+1) (w1.heap.size+1) (lD d k) wp ah.bld (by have:=ah.n;omega));have cq:=f8 (ie dp dt);clear ah gf dp dt bd;by_cases bz:f0=0
   ·subst bz;go_wp2_with (go_at_call 54;refine dw.mono ?_;rintro e d8 ⟨rfl,_,cL,_⟩)
    go_ret2
    exact⟨by rw[ch.1,ch.2,<-cq.1,<-cq.2];rfl,a4.bw.trans (cL.mono a4.m)⟩
   ·have d9:(f0==0)=false:=by simp;exact bz
    have d7:(f0 != 0)=true:=by simp;exact bz
    have dx:=f8 bz;clear bz;go_upto_region 25 with (fail)
    refine iz (S:=(λw'=>Ce w' w1.heap.size 0 (I6 f0))) gd (kf) (λhS=>?_);refine tA 0 ?_;refine tA 1 ?_;refine tA 2 ?_;refine iq gd ?_ _
    (try dsimp only)
    go_wp2
    go_ret2
    exact⟨by rw[ch.1,ch.2,<-cq.1,gw dx.o];rfl,a4.bw.drew⟩
theorem tM (c:StC) (d:Sta) (w:World) (hd:IsSta (· < w.heap.size) w c d) (hT:Tabs w) (hZ:ZTab w) (hz:Sz 2000 d.l) :
 CP 35 #[c.v] w (Rt (.tuple #[Sv (jQ d).1,I6 (jQ d).2]) w):=by
 unfold jQ;by_cases h0:bZ d=0
 ·rw[f9 (by simpa using h0)];have h:=encS_ok c d w hd hT hZ hz h0;by_cases h1:nX d=0
  ·rw[f9 (by simpa using h1)];rw[f9 (by simpa using h1),h1] at h;exact h
  ·rw[gw h1];rw[gw h1] at h;exact h
 ·rw[gw h0];exact aO4 c d w hd hT h0
end Go.Proofs.YtoodnaghjpkjfaaGreatDoor
