/- A part. -/
import Derived.Test.YteladbdfiannjaaGreatDoorSX23Mrg
import Derived.Laws.OwnMore
namespace Go.Proofs.YteladbdfiannjaaGreatDoor
set_option linter.unusedVariables false
set_option maxRecDepth 100000
set_option maxHeartbeats 64000000
set_option linter.unusedSimpArgs false
section
open Go Go.RowKit Go.Shelf
structure BldAt (w:World) (b:Nat) (bs:List UInt8) (l:List (Nat × Obj)) (w':World):Prop where
 bld:IsBld b b (Lib.byteCells bs) w'
 bw:Below w.heap.size w w'
 n:b<w'.heap.size
 m:w.heap.size≤b
 at':∀p∈l,w'.heap[p.1]?=some p.2∧p.1≠b∧∀c fz,p.2≠.cells c 5 fz
theorem BldAt.at {w:World} {b:Nat} {bs:List UInt8} {l:List (Nat × Obj)} {w':World} (h:BldAt w b bs l w') (j:Nat) (hj:j<l.length):w'.heap[(l[j]).1]?=some (l[j]).2:=(h.at' _ (List.getElem_mem hj)).1
theorem BldAt.ext {w:World} {b:Nat} {bs:List UInt8} {l:List (Nat × Obj)} {w' w'':World} (h:BldAt w b bs l w') (hb:Below w'.heap.size w' w''):BldAt w b bs l w'' :=
 ⟨h.bld.ext hb,h.bw.trans (hb.mono (by have:=h.m;have:=h.n;omega)),Nat.lt_of_lt_of_le h.n hb.size,h.m,fun p hp=>⟨aB hb (h.at' p hp).1,(h.at' p hp).2⟩⟩
theorem BldAt.cons {w:World} {b:Nat} {bs:List UInt8} {l:List (Nat × Obj)} {w':World} (h:BldAt w b bs l w') {k:Nat} {o:Obj} (hk:w'.heap[k]?=some o) (hb:k≠b) (ho:∀c fz,o≠.cells c 5 fz):BldAt w b bs ((k,o) :: l) w' :=
 ⟨h.bld,h.bw,h.n,h.m,fun p hp=>(List.mem_cons.1 hp).elim (fun e=>by rw[e];exact⟨hk,hb,ho⟩) (fun hp=>h.at' p hp)⟩
theorem BldAt.line {w:World} {b:Nat} {bs bs':List UInt8} {l:List (Nat × Obj)} {w' w'':World} {v:Value} {e:Ending} (h:BldAt w b bs l w') (hp:jT b b (Lib.byteCells bs') v w' e w''):BldAt w b bs' l w'':=by
 obtain⟨_,h1,h2,h3⟩:=hp
 refine⟨.inr h1,h.bw.trans (h2.mono h.m),Nat.lt_of_lt_of_le h.n h2.size,h.m,fun p hp=>?_⟩
 obtain⟨q1,q2,q3⟩:=h.at' p hp
 exact⟨h3 p.1 p.2 q1 (fun e=>q2 (by injection e)) q3,q2,q3⟩
theorem rK {w:World} {b i:Nat} {cs:Array Value} {t:TypeId} {fr:Nat × Nat} {v:Value} (h:w.heap[b]?=some (.cells cs t fr)) (hv:cs[i]?=some v):w.setCell ⟨b,i,none⟩ v=w:=by
 have e:w.heap.modify b (fun | .cells c elem frozen=>.cells (if (none:Option (Nat)).isSome then c else c.setIfInBounds i v) elem frozen | o=>o)=w.heap:=by
  apply Array.ext_getElem?
  intro j
  rw[Array.getElem?_modify]
  split
  ·next hj =>
   subst hj
   rw[h]
   have e2:cs.setIfInBounds i v=cs:=by
    apply Array.ext_getElem?
    intro k
    rw[Array.getElem?_setIfInBounds]
    split
    ·next hk=>subst hk;split<;>simp_all
    ·rfl
   simp[e2]
  ·rfl
 show { w with heap:=_ }=w
 exact congrArg (fun x=>{ w with heap:=x }) e
end
section
open Go Go.RowKit Go.Shelf
theorem BldAt.setF {w:World} {b:Nat} {bs:List UInt8} {l:List (Nat × Obj)} {w':World} {fb:Nat} {T:TypeId} {x:Value} {fr:Nat × Nat} (y:Value) (h:BldAt w b bs ((fb,.cells #[x] T fr) :: l) w') (hfb:w.heap.size≤fb) (hne:∀p∈l,p.1≠fb) :
 BldAt w b bs ((fb,.cells #[y] T fr) :: l) (w'.setCell ⟨fb,0,none⟩ y):=by
 obtain⟨hat,hfb2,hT⟩:=h.at' (fb,.cells #[x] T fr) (List.mem_cons_self ..)
 dsimp only at hat hfb2 hT
 have hkept:∀v:Value,(∀g,v.ownBlock=some g→∃c fz,w'.heap[g]?=some (.cells c 5 fz))→v.ownBlock=none∨v.ownBlock≠some fb:=fun v hv=>by
  by_cases e:v.ownBlock=some fb
  ·obtain⟨c,fz,hc⟩:=hv fb e
   rw[hat] at hc
   exact absurd (Option.some.inj hc) (hT c fz)
  ·exact .inr e
 refine⟨?_,h.bw.setCell (p:=⟨fb,0,none⟩) hfb y,by simpa [World.setCell] using h.n,h.m,fun p hp=>?_⟩
 ·rcases h.bld with ⟨hB,v,hbk,hown,hne'⟩ | ⟨hB,v,hbk,hown,hne'⟩
  ·exact .inl ⟨hB,v,(Below.heap_setCell _ _ _ _ (fun e=>hfb2 e.symm)).trans hbk,hown.kept (grownBy_setCell' w' fb y) (hkept v (Lib.ownsRowF_kind hown)),hne'⟩
  ·exact .inr ⟨hB,v,(Below.heap_setCell _ _ _ _ (fun e=>hfb2 e.symm)).trans hbk,hown.kept (grownBy_setCell' w' fb y) (hkept v (Lib.ownsRowF_kind hown)),hne'⟩
 ·rcases List.mem_cons.1 hp with rfl | hp
  ·exact⟨aD (o:=0) y hat,hfb2,fun c fz e=>by
    simp only[Obj.cells.injEq] at e
    exact hT #[x] fr (by rw[e.2.1])⟩
  ·obtain⟨q1,q2⟩:=h.at' p (List.mem_cons_of_mem _ hp)
   exact⟨(Below.heap_setCell _ _ _ _ (hne p hp)).trans q1,q2⟩
def KeptG (fb:Nat) (s:ByteArray) (x:Int) (w:World) (e:Ending) (w':World):Prop:=e=.returned (.string s)∧w'=w.setCell ⟨fb,0,none⟩ (.int .i64 x)
theorem kM (fb:Nat) (s:ByteArray) (f x:Int) (w:World) (h:w.heap[fb]?=some (.cells #[.int .i64 f] 33)) :
 Calls Tryz.prog 141 #[.string s,.int .i64 x,.pointer (some ⟨fb,0,none⟩)] w (KeptG fb s (kQ f x) w):=by
 have h0:=aA h 0
 have hf:=aE h 0
 have HS:=hid (rK (v:=.int .i64 f) (i:=0) h rfl)
 (try dsimp only at h0)
 unfold kQ
 by_cases h1:f=0
 ·subst h1
  clear h HS
  go_enter Tryz.func141,Tryz.ntmps141
  go_wp2
  go_ret
  exact⟨rfl,rfl⟩
 ·have hx0:(f==0)=false:=by simp;exact h1
  rw[if_neg h1]
  clear h h1
  go_enter Tryz.func141,Tryz.ntmps141
  go_wp2
  go_ret
  exact⟨rfl,HS.out.symm⟩
theorem uI (l:List Int) (k:Nat) (h:∀x∈l,(Lib.itoa x).length≤k) (c:UInt8):(bG (l.map aF) ⟨#[c]⟩).size≤l.length * (k+1):=by
 unfold bG
 rw[cD,List.map_map]
 have:=nN (l.map Lib.itoa) [c] k (fun x hx=>by
  obtain⟨y,hy,rfl⟩:=List.mem_map.1 hx
  exact h y hy)
 rw[List.length_map] at this
 exact this
theorem lE (n:Int) (k:Nat) (h0:0≤n) (h:n<(10:Int) ^ k) (hk:0<k):(Lib.itoa n).length≤k:=by
 rw[aCv n h0]
 refine bQ n.toNat k ?_ hk
 have h2:(n.toNat:Int)<((10 ^ k:Nat):Int):=by
  rw[Int.toNat_of_nonneg h0]
  simpa using h
 exact Int.ofNat_lt.1 h2
theorem stE_len {d:St} (h:aS d=0):d.ps.length≤512:=by
 unfold aS at h
 split at h
 ·simp at h
 split at h
 ·simp at h
 split at h
 ·simp at h
 rename_i h3
 omega
theorem aCi {d:Msg} (h:dB d=0):d.es.length≤4096:=by
 unfold dB at h
 split at h
 ·contradiction
 split at h
 ·simp at h
 split at h
 ·simp at h
 split at h
 ·simp at h
 rename_i h3
 omega
theorem mB (d:Msg):(eE d).1.size≤110000:=by
 unfold eE
 split
 ·exact Nat.zero_le _
 rename_i h0
 split
 ·exact Nat.zero_le _
 have h1:dB d=0:=by simpa using h0
 obtain⟨a1,a2,a3,a4,a5,_⟩:=msgE_ok h1
 obtain⟨b1,b2,b3,b4⟩:=zL a1
 have c1:=stE_len a1
 have c2:=aCi h1
 have d1:(aF d.st.e).size≤7:=lE d.st.e 7 (by omega) (by omega) (by decide)
 have d2:(aF d.m).size≤13:=lE d.m 13 (by omega) (by omega) (by decide)
 have d3:=uI d.st.ps 5 (fun x hx=>lE x 5 (b4 x hx).1 (by have:=(b4 x hx).2;omega) (by decide)) 46
 have d4:=uI d.es 7 (fun x hx=>lE x 7 (by have:=(a5 x hx).1;omega) (by have:=(a5 x hx).2;omega) (by decide)) 44
 have d5:=dT d.b
 have e1:∀c:UInt8,(⟨#[c]⟩:ByteArray).size=1:=fun c=>rfl
 unfold aD8 cI
 simp only[ByteArray.size_append,e1]
 omega
theorem iI (x y:ByteArray):(fF [x,y]).length=x.size+y.size+2:=by
 have e:∀v:ByteArray,v.size=v.data.size:=fun _=>rfl
 unfold fF
 rw[e x,e y]
 simp[Lib.join,List.intercalate,List.intersperse]
 omega
theorem nJ (x y z:ByteArray):(fF [x,y,z]).length=x.size+y.size+z.size+3:=by
 have e:∀v:ByteArray,v.size=v.data.size:=fun _=>rfl
 unfold fF
 rw[e x,e y,e z]
 simp[Lib.join,List.intercalate,List.intersperse]
 omega
theorem nI (x y z u:ByteArray):(fF [x,y,z,u]).length=x.size+y.size+z.size+u.size+4:=by
 have e:∀v:ByteArray,v.size=v.data.size:=fun _=>rfl
 unfold fF
 rw[e x,e y,e z,e u]
 simp[Lib.join,List.intercalate,List.intersperse]
 omega
theorem fG (n:Int) (h:I64 n):(aF n).size≤21:=Lib.itoa_length_le n h.1 h.2
theorem dD {α:Type} (f:α→List UInt8) (k:Nat):∀l:List α,(∀x∈l,(f x).length≤k)→(l.flatMap f).length≤l.length * k
 | [],_=>by simp
 | x :: l,h=>by
   have h1:=h x (List.mem_cons_self ..)
   have h2:=dD f k l fun y hy=>h y (List.mem_cons_of_mem _ hy)
   rw[List.flatMap_cons,List.length_append,List.length_cons,Nat.add_mul]
   omega
theorem kN (m:Msg):(fJ m).length≤110006:=by
 unfold fJ
 rw[iI]
 have:=mB m
 have e:wItem.size=4:=rfl
 omega
theorem pS (v:Val):(iV v).length≤65543:=by
 unfold iV
 rw[iI]
 have:=dT v
 have e:wValue.size=5:=rfl
 omega
theorem mY (x:Slot) (h1:I64 x.n) (h2:I64 x.t):(lU x).length≤65600:=by
 unfold lU
 rw[nI]
 have:=dT x.k
 have a:=fG _ h1
 have b:=fG _ h2
 have e:wSlot.size=4:=rfl
 omega
end
section
open Go Go.RowKit Go.Shelf
theorem aDl {w:World} {b:Nat} {x0 x1:ByteArray} {t:TypeId} {fr:Nat × Nat} (h:w.heap[b]?=some (.cells #[.string x0,.string x1] t fr)):∀(j:Nat) x,[x0,x1][j]?=some x→w.cell? ⟨b,0+j,none⟩=some (.string x):=fun j x hj=>by
 rw[aA h]
 match j,hj with
 | 0,hj=>simp at hj;subst hj;rfl
 | 1,hj=>simp at hj;subst hj;rfl
theorem cells3 {w:World} {b:Nat} {x0 x1 x2:ByteArray} {t:TypeId} {fr:Nat × Nat} (h:w.heap[b]?=some (.cells #[.string x0,.string x1,.string x2] t fr)):∀(j:Nat) x,[x0,x1,x2][j]?=some x→w.cell? ⟨b,0+j,none⟩=some (.string x):=fun j x hj=>by
 rw[aA h]
 match j,hj with
 | 0,hj=>simp at hj;subst hj;rfl
 | 1,hj=>simp at hj;subst hj;rfl
 | 2,hj=>simp at hj;subst hj;rfl
theorem cells4 {w:World} {b:Nat} {x0 x1 x2 x3:ByteArray} {t:TypeId} {fr:Nat × Nat} (h:w.heap[b]?=some (.cells #[.string x0,.string x1,.string x2,.string x3] t fr)):∀(j:Nat) x,[x0,x1,x2,x3][j]?=some x→w.cell? ⟨b,0+j,none⟩=some (.string x):=fun j x hj=>by
 rw[aA h]
 match j,hj with
 | 0,hj=>simp at hj;subst hj;rfl
 | 1,hj=>simp at hj;subst hj;rfl
 | 2,hj=>simp at hj;subst hj;rfl
 | 3,hj=>simp at hj;subst hj;rfl
end
section
open Go Go.RowKit Go.Shelf
section
variable {C D:Type} (K:Kit C D)
variable {K}
end
def Sz (n:Nat) (l:List Slot):Prop:=l.length≤n∧∀x∈l,x.items.length≤n∧x.vals.length≤n
end
section
open Go Go.RowKit Go.Shelf
theorem BldAt.sub {w:World} {b:Nat} {bs:List UInt8} {l l':List (Nat × Obj)} {w':World} (h:BldAt w b bs l w') (hs:∀p∈l',p∈l):BldAt w b bs l' w':=⟨h.bld,h.bw,h.n,h.m,fun p hp=>h.at' p (hs p hp)⟩
def gM (d:Sta) (k:Nat):List UInt8:=nU d.n d.t++(d.l.take k).flatMap iE
def oD (d:Sta) (k:Nat):Int:=(d.l.take k).foldl wO 0
theorem vY (d:Sta):gM d 0=nU d.n d.t:=by simp[gM]
theorem aAq (d:Sta):oD d 0=0:=rfl
theorem vZ (d:Sta) (k:Nat) (h:k<d.l.length):gM d (k+1)=gM d k++iE d.l[k]:=by
 unfold gM
 rw[List.take_succ_eq_append_getElem h,List.flatMap_append,List.flatMap_singleton,List.append_assoc]
theorem aAr (d:Sta) (k:Nat) (h:k<d.l.length):oD d (k+1)=wO (oD d k) d.l[k]:=by
 unfold oD
 rw[List.take_succ_eq_append_getElem h,List.foldl_append];rfl
theorem pX (d:Sta) (k:Nat) (h:d.l.length≤k):gM d k=wL d:=by unfold gM wL;rw[List.take_of_length_le h]
theorem aD6 (d:Sta) (k:Nat) (h:d.l.length≤k):oD d k=iZ d:=by unfold oD iZ;rw[List.take_of_length_le h]
theorem tP (x:Slot) (h1:I64 x.n) (h2:I64 x.t) (hi:x.items.length≤2000) (hv:x.vals.length≤2000):(iE x).length≤352000000:=by
 have a:=mY x h1 h2
 have b:=dD fJ 110006 x.items (fun m _=>kN m)
 have c:=dD iV 65543 x.vals (fun m _=>pS m)
 have b2:x.items.length * 110006≤2000 * 110006:=Nat.mul_le_mul_right _ hi
 have c2:x.vals.length * 65543≤2000 * 65543:=Nat.mul_le_mul_right _ hv
 unfold iE
 rw[List.length_append,List.length_append]
 omega
theorem pW {d:Sta} (hz:Sz 2000 d.l) (hi:(I64 d.n∧I64 d.t)∧∀x∈d.l,I64 x.n∧I64 x.t) (k:Nat) (hk:k≤2000):(gM d k).length≤100+2000 * 352000000:=by
 have a:=dD iE 352000000 (d.l.take k) (fun x hx=>by
  have hm:=List.mem_of_mem_take hx
  exact tP x (hi.2 x hm).1 (hi.2 x hm).2 (hz.2 x hm).1 (hz.2 x hm).2)
 have b:(d.l.take k).length≤2000:=by rw[List.length_take];omega
 have c:(d.l.take k).length * 352000000≤2000 * 352000000:=Nat.mul_le_mul_right _ b
 have e:(nU d.n d.t).length≤100:=by
  unfold nU
  rw[nJ]
  have:=fG _ hi.1.1
  have:=fG _ hi.1.2
  have:wState.size=5:=rfl
  omega
 unfold gM
 rw[List.length_append]
 omega
theorem aD9 (c:StC) (d:Sta) (w:World) (hd:IsSta (· < w.heap.size) w c d) (hT:Tabs w) (h0:bB d≠0) :
 Calls Tryz.prog 73 #[c.v] w fun e w'=>e=.returned (.tuple #[.string ⟨#[]⟩,.int .i64 (bB d)])∧Below w.heap.size w w':=by
 obtain⟨sn,st,a,sl,sc⟩:=c
 have hb0:Below w.heap.size w (w.alloc (.cells #[.int .i64 sn,.int .i64 st,.slice a sl sc] 55)):=(bR w).alloc lr _
 have hck:=dK ⟨sn,st,a,sl,sc⟩ d (w.alloc (.cells #[.int .i64 sn,.int .i64 st,.slice a sl sc] 55)) (hd.same fun b q=>⟨Nat.lt_of_lt_of_le q hb0.size,hb0.block b q⟩) (hT.below hb0)
 obtain⟨x,hx⟩:∃x,x=bB d:=⟨_,rfl⟩
 rw[←hx] at hck h0 ⊢
 have hx0:(x==0)=false:=by simp;exact h0
 have hx1:(x != 0)=true:=by simp;exact h0
 have HCK:=hid hck
 have HB0:=hid hb0
 have HG:=hid (heap_alloc_new w (.cells #[.int .i64 sn,.int .i64 st,.slice a sl sc] 55))
 clear hck hb0 hd hT h0 hx
 dsimp only[StC.v] at HCK ⊢
 go_enter Tryz.func73,Tryz.ntmps73
 go_wp2_with (go_at_call 27;refine HCK.out.mono ?_;rintro e w1 ⟨rfl,hb1⟩;have HB1:=hid (HB0.out.trans (hb1.mono HB0.out.size));clear hb1)
 go_ret2
 exact⟨rfl,HB1.out⟩
theorem encS_ok (c:StC) (d:Sta) (w:World) (hd:IsSta (· < w.heap.size) w c d) (hT:Tabs w) (hZ:ZTab w) (hz:Sz 2000 d.l) (h0:bB d=0) :
 Calls Tryz.prog 73 #[c.v] w fun e w'=>e=.returned (.tuple #[.string (if iZ d≠0 then ⟨#[]⟩ else ⟨(wL d).toArray⟩),.int .i64 (iZ d)])∧Below w.heap.size w w':=by
 obtain⟨sn,st,a,sl,sc⟩:=c
 have hb0:Below w.heap.size w (w.alloc (.cells #[.int .i64 sn,.int .i64 st,.slice a sl sc] 55)):=(bR w).alloc lr _
 have hck:=dK ⟨sn,st,a,sl,sc⟩ d (w.alloc (.cells #[.int .i64 sn,.int .i64 st,.slice a sl sc] 55)) (hd.same fun b q=>⟨Nat.lt_of_lt_of_le q hb0.size,hb0.block b q⟩) (hT.below hb0)
 rw[h0] at hck
 have HCK:=hid hck
 have HB0:=hid hb0
 have HT:Hid (∀w',Below w.heap.size w w'→Tabs w'∧ZTab w'):=hid fun w' h=>⟨hT.below h,hZ.below h⟩
 have HG:=hid (heap_alloc_new w (.cells #[.int .i64 sn,.int .i64 st,.slice a sl sc] 55))
 have hbig:=hd.l.big
 have HD:=hid hd.l
 have HL:=hid hd.l.len
 have HNT:=hid (And.intro hd.n (And.intro (show I64 sn by have:=hd.n;dsimp only at this;rw[this];exact hd.rn) (And.intro hd.t (show I64 st by have:=hd.t;dsimp only at this;rw[this];exact hd.rt))))
 have HSZ:=hid hz
 have HI64:=hid (show(I64 d.n∧I64 d.t)∧∀x∈d.l,I64 x.n∧I64 x.t from⟨⟨hd.rn,hd.rt⟩,fun x hx=>by
  rcases hd.l.at' with e | ⟨b,o,_,_,q⟩
  ·rw[e] at hx;exact absurd hx (by simp)
  ·obtain⟨j,hj,rfl⟩:=List.getElem_of_mem hx
   obtain⟨y,_,hy⟩:=q j hj
   exact⟨hy.rn,hy.rt⟩⟩)
 dsimp only at hbig HD HL HNT
 have HWL:=hid (show w.heap.size<(w.alloc (.cells #[.int .i64 sn,.int .i64 st,.slice a sl sc] 55)).heap.size by simp)
 clear hck hb0 hd hT hZ hz h0
 obtain⟨V,hV⟩:∃V:ByteArray,V=if iZ d≠0 then ⟨#[]⟩ else ⟨(wL d).toArray⟩:=⟨_,rfl⟩
 obtain⟨er,hx⟩:∃er,er=iZ d:=⟨_,rfl⟩
 rw[←hV,←hx]
 rw[←hx] at hV
 have HVX:=hid (And.intro hV hx)
 clear hV hx
 dsimp only[StC.v] at HCK ⊢
 go_enter Tryz.func73,Tryz.ntmps73
 go_upto_region 8 with (go_at_call 27;refine HCK.out.mono ?_;rintro e w1 ⟨rfl,hb1⟩;have hg1:=aB hb1 HG.out;have g2:=aA hg1 2;(try dsimp only at g2))
 obtain⟨w2,hw2⟩:∃w2,w2=(w1.alloc (.cells #[.int .i64 0] 33)).alloc (.cells #[.pointer none,.slice none 0 0] 139):=⟨_,rfl⟩
 rw[←hw2]
 have hz1:=hb1.size
 simp only[World.size_alloc] at hz1
 have hb01:Below w.heap.size w w1:=HB0.out.trans (hb1.mono (by simp))
 have hbl:IsBld (w1.heap.size+1) (w1.heap.size+1) [] w2:=by have h:=mS (w1.alloc (.cells #[.int .i64 0] 33));rw[World.size_alloc] at h;rw[hw2];exact h
 have hs0:BldAt w (w1.heap.size+1) [] [(w1.heap.size,(.cells #[.int .i64 0] 33)),(w.heap.size,(.cells #[.int .i64 sn,.int .i64 st,.slice a sl sc] 55))] w2:=by
  refine⟨hbl,by rw[hw2];exact(hb01.alloc (by omega) _).alloc (by simp;omega) _,by rw[hw2];simp,by omega,fun p hp=>?_⟩
  simp only[List.mem_cons,List.not_mem_nil,or_false] at hp
  rcases hp with rfl | rfl
  ·exact⟨by rw[hw2];exact aC _ (heap_alloc_new _ _),by dsimp only;omega,fun c fz e=>by cases e⟩
  ·exact⟨by rw[hw2];exact aC _ (aC _ hg1),by dsimp only;omega,fun c fz e=>by cases e⟩
 have HS0:=hid hs0
 have HB1:=hid hb01
 have HC:Hid (∀w',(∃bs f,BldAt w (w1.heap.size+1) bs [(w1.heap.size,(.cells #[.int .i64 f] 33)),(w.heap.size,(.cells #[.int .i64 sn,.int .i64 st,.slice a sl sc] 55))] w')→w'.cell? ⟨w.heap.size,0,none⟩=some (.int .i64 sn)∧w'.cell? ⟨w.heap.size,1,none⟩=some (.int .i64 st)):=hid fun w' ⟨_,_,h⟩=>by
  have h1:=h.at 1 (by simp)
  exact⟨aA h1 0,aA h1 1⟩
 have HWM:=hid (show w.heap.size<w1.heap.size by omega)
 clear hw2 hbl hs0 hb01 hg1 g2 hb1 hz1
 refine wp_region_held_drew (S:=(fun w'=>∃bs f,BldAt w (w1.heap.size+1) bs [(w1.heap.size,(.cells #[.int .i64 f] 33)),(w.heap.size,(.cells #[.int .i64 sn,.int .i64 st,.slice a sl sc] 55))] w')) (by kernel_rfl) (⟨_,_,HS0.out.ext (Below.refl _ _).drew⟩) (fun hS=>?_)
 refine tkQ 0 (v:=?_) ?_ hS ?_;rotate_left;· intro w' hw';have hcells:=HC.out w' hw';go_simp;(try rfl)
 simp only[Act.put,pq]
 refine tkQ 1 (v:=?_) ?_ hS ?_;rotate_left;· intro w' hw';have hcells:=HC.out w' hw';go_simp;(try rfl)
 simp only[Act.put,pq]
 refine tkQ 2 (v:=?_) ?_ hS ?_;rotate_left;· intro w' hw';have hcells:=HC.out w' hw';go_simp;(try rfl)
 simp only[Act.put,pq]
 refine tkQ 4 (v:=?_) ?_ hS ?_;rotate_left;· intro w' hw';have hcells:=HC.out w' hw';go_simp;(try rfl)
 simp only[Act.put,pq]
 refine tkQ 5 (v:=?_) ?_ hS ?_;rotate_left;· intro w' hw';have hcells:=HC.out w' hw';go_simp;(try rfl)
 simp only[Act.put,pq]
 refine ry [3] ?_
 refine arQ fun K hK=>?_
 generalize hwa:World.drew _=wa at hS ⊢
 have ha:BldAt w (w1.heap.size+1) [] [(w1.heap.size,(.cells #[.int .i64 0] 33)),(w.heap.size,(.cells #[.int .i64 sn,.int .i64 st,.slice a sl sc] 55))] wa:=by rw[←hwa];exact HS0.out.ext (Below.refl _ w2).drew
 clear hwa
 go_simp;go_at_call 80;refine(bD sn HNT.out.2.1 wa (HT.out _ ha.bw).1).mono ?_
 rintro e wc ⟨rfl,hbc⟩
 have hc:=ha.ext hbc
 refine hK.out _ _ (⟨_,_,hc⟩) (fun hS=>?_)
 clear hK K
 (try simp only[Act.put,pq])
 refine ry [6] ?_
 refine arQ fun K hK=>?_
 go_simp;go_at_call 80;refine(bD st HNT.out.2.2.2 wc (HT.out _ hc.bw).1).mono ?_
 rintro e we ⟨rfl,hbe⟩
 have he:=hc.ext hbe
 refine hK.out _ _ (⟨_,_,he⟩) (fun hS=>?_)
 clear hK K
 (try simp only[Act.put,pq])
 refine ry [7] ?_
 refine arQ fun K hK=>?_
 go_simp
 refine hK.out _ _ (⟨_,_,he.ext ((Below.refl _ _).alloc lr _)⟩) (fun hS=>?_)
 clear hK K
 (try simp only[Act.put,pq])
 refine ry [8] ?_
 refine arQ fun K hK=>?_
 generalize hwwg:World.alloc _ _=wg at hS ⊢
 have hwg:BldAt w (w1.heap.size+1) [] [(w1.heap.size,(.cells #[.int .i64 0] 33)),(w.heap.size,(.cells #[.int .i64 sn,.int .i64 st,.slice a sl sc] 55))] wg:=by rw[←hwwg];exact he.ext ((Below.refl _ _).alloc lr _)
 have gwg:wg.heap[we.heap.size]?=some (.cells #[.string ⟨#[115,116,97,116,101]⟩,.string (aF sn),.string (aF st)] 9):=by rw[←hwwg];exact heap_alloc_new _ _
 clear hwwg
 have hlwg:=jQ _ _ [] [⟨#[115,116,97,116,101]⟩,(aF sn),(aF st)] we.heap.size 0 3 wg hwg.bld (cells3 gwg) (bT gwg) (show 3≤3 from Nat.le_refl _) (show 3≤100 by decide) (by rw[nJ];have:=fG _ HNT.out.2.1;have:=fG _ HNT.out.2.2.2;have:(⟨#[115,116,97,116,101]⟩:ByteArray).size=5:=rfl;simp only[List.length_nil];omega) (by have:=hwg.n;omega)
 go_simp;go_at_call 139;refine hlwg.mono ?_
 rintro e w4 he
 have hw4:=hwg.line he
 obtain⟨rfl,_⟩:=he
 refine hK.out _ _ (⟨_,_,hw4⟩) (fun hS=>?_)
 clear hK K
 (try simp only[Act.put,pq])
 refine wpAnyH_done (by kernel_rfl) ?_ _
 (try dsimp only)
 have H4:=hid hw4
 have h5:w4.heap[w.heap.size]?=some (.cells #[.int .i64 sn,.int .i64 st,.slice a sl sc] 55):=hw4.at 1 (by simp)
 have k2:=aA h5 2
 (try dsimp only at k2)
 clear hS hw4 hlwg gwg hwg he hbe hc hbc ha h5 HC HS0
 go_wp2
 go_loopw [34] (fun i wr=>∃k:Nat,k≤sl∧i=.int .i64 k∧BldAt w (w1.heap.size+1) (gM d k) [(w1.heap.size,(.cells #[.int .i64 (oD d k)] 33)),(w.heap.size,(.cells #[.int .i64 sn,.int .i64 st,.slice a sl sc] 55))] wr) (fun i _=>sl-(intOf i).toNat)
 case atStart=>exact⟨0,Nat.zero_le _,rfl,by
  have h:=H4.out
  rw[List.nil_append] at h
  rw[vY,aAq,←HNT.out.1,←HNT.out.2.2.1];exact h⟩
 case round =>
  obtain⟨k,hk,rfl,hbr⟩:=hrel
  obtain⟨wp,rfl⟩:∃w1:World,w1=wr:=⟨_,rfl⟩
  by_cases hlt:k<sl
  ·have hkl:k<d.l.length:=by have:=HL.out;omega
   obtain⟨b,o,rfl,hb,hx⟩:=HD.out.slot (show 0<sl by omega)
   obtain⟨⟨xk,xn,xt,xia,xil,xic,xva,xvl,xvc⟩,hxa,hxi⟩:=hx k hkl
   obtain⟨x0,x1,x2,x3,x4,x5,x6,x7,x8,x9⟩:=(hxa.same (hbr.bw.block b hb)).slot
   have hlt':(k:Int)<(sl:Int):=by omega
   have hk0:(0:Int)≤(k:Int):=by omega
   obtain⟨y,hy⟩:∃y,y=d.l[k]:=⟨_,rfl⟩
   rw[←hy] at hxi
   have QN:=hid (show xn=y.n from hxi.n)
   have QT:=hid (show xt=y.t from hxi.t)
   obtain⟨f0,hf0⟩:∃f0,f0=oD d k:=⟨_,rfl⟩
   obtain⟨t0,ht0⟩:∃t0,t0=gM d k:=⟨_,rfl⟩
   rw[←hf0,←ht0] at hbr
   have hyz:=HSZ.out.2 y (by rw[hy];exact List.getElem_mem hkl)
   have ht0l:t0.length≤100+2000 * 352000000:=by rw[ht0];exact pW HSZ.out (HI64.out) k (by have:=HSZ.out.1;have:=HL.out;omega)
   have HY:=hid hy;have HF0:=hid hf0;have HT0:=hid ht0;have HYZ:=hid hyz;have HT0L:=hid ht0l
   have HBR:=hid hbr
   have HXI:=hid hxi
   clear hy hf0 ht0 hyz ht0l hbr hxi hxa hx hb
   go_upto_region 12 with (fail)
   clear x0 x1 x2 x3 x4 x5 x6 x7 x8 x9
   obtain⟨w5,hw5⟩:∃w5,w5=wp.alloc (.cells #[.int .i64 xk.k,.int .i64 xk.i,.int .i64 xk.s,.string xk.t,.slice xk.la xk.ll xk.lc,.slice xk.fa xk.fl xk.fc,.int .i64 xn,.int .i64 xt,.slice xia xil xic,.slice xva xvl xvc] 133):=⟨_,rfl⟩
   rw[←hw5]
   have HS5:Hid (BldAt w (w1.heap.size+1) t0 [(w1.heap.size,(.cells #[.int .i64 f0] 33)),(wp.heap.size,(.cells #[.int .i64 xk.k,.int .i64 xk.i,.int .i64 xk.s,.string xk.t,.slice xk.la xk.ll xk.lc,.slice xk.fa xk.fl xk.fc,.int .i64 xn,.int .i64 xt,.slice xia xil xic,.slice xva xvl xvc] 133)),(w.heap.size,(.cells #[.int .i64 sn,.int .i64 st,.slice (some ⟨b,o,none⟩) sl sc] 55))] w5):=hid (by
    rw[hw5]
    refine(((HBR.out.ext ((Below.refl _ wp).alloc lr _)).cons (heap_alloc_new _ _) ?_ (fun c fz e=>by cases e))).sub ?_
    ·have:=HBR.out.n
     omega
    ·intro p hp
     simp only[List.mem_cons,List.not_mem_nil,or_false] at hp ⊢
     rcases hp with rfl | rfl | rfl
     ·exact .inr (.inl rfl)
     ·exact .inl rfl
     ·exact .inr (.inr rfl))
   have HC2:Hid (∀w',(∃bs f,BldAt w (w1.heap.size+1) bs [(w1.heap.size,(.cells #[.int .i64 f] 33)),(wp.heap.size,(.cells #[.int .i64 xk.k,.int .i64 xk.i,.int .i64 xk.s,.string xk.t,.slice xk.la xk.ll xk.lc,.slice xk.fa xk.fl xk.fc,.int .i64 xn,.int .i64 xt,.slice xia xil xic,.slice xva xvl xvc] 133)),(w.heap.size,(.cells #[.int .i64 sn,.int .i64 st,.slice (some ⟨b,o,none⟩) sl sc] 55))] w')→w'.cell? ⟨wp.heap.size,0,none⟩=some (.int .i64 xk.k)∧w'.cell? ⟨wp.heap.size,1,none⟩=some (.int .i64 xk.i)∧w'.cell? ⟨wp.heap.size,2,none⟩=some (.int .i64 xk.s)∧w'.cell? ⟨wp.heap.size,3,none⟩=some (.string xk.t)∧w'.cell? ⟨wp.heap.size,4,none⟩=some (.slice xk.la xk.ll xk.lc)∧w'.cell? ⟨wp.heap.size,5,none⟩=some (.slice xk.fa xk.fl xk.fc)∧w'.cell? ⟨wp.heap.size,6,none⟩=some (.int .i64 xn)∧w'.cell? ⟨wp.heap.size,7,none⟩=some (.int .i64 xt)∧w'.cell? ⟨wp.heap.size,8,none⟩=some (.slice xia xil xic)∧w'.cell? ⟨wp.heap.size,9,none⟩=some (.slice xva xvl xvc)):=hid fun w' ⟨_,_,h⟩=>by
    have h1:=h.at 1 (by simp)
    exact⟨aA h1 0,aA h1 1,aA h1 2,aA h1 3,aA h1 4,aA h1 5,aA h1 6,aA h1 7,aA h1 8,aA h1 9⟩
   have HPB:=hid (show w1.heap.size+1<wp.heap.size from HBR.out.n)
   have HXW:Hid (∀w',Below w.heap.size w w'→IsSl (· < w'.heap.size) w' ⟨xk,xn,xt,xia,xil,xic,xva,xvl,xvc⟩ y):=hid fun w' h=>HXI.out.same fun b q=>⟨Nat.lt_of_lt_of_le q h.size,h.block b q⟩
   clear hw5
   refine wp_region_held_drew (S:=(fun w'=>∃bs f,BldAt w (w1.heap.size+1) bs [(w1.heap.size,(.cells #[.int .i64 f] 33)),(wp.heap.size,(.cells #[.int .i64 xk.k,.int .i64 xk.i,.int .i64 xk.s,.string xk.t,.slice xk.la xk.ll xk.lc,.slice xk.fa xk.fl xk.fc,.int .i64 xn,.int .i64 xt,.slice xia xil xic,.slice xva xvl xvc] 133)),(w.heap.size,(.cells #[.int .i64 sn,.int .i64 st,.slice (some ⟨b,o,none⟩) sl sc] 55))] w')) (by kernel_rfl) (⟨_,_,HS5.out.ext (Below.refl _ _).drew⟩) (fun hS=>?_)
   refine tkQ 0 (v:=?_) ?_ hS ?_;rotate_left;· intro w' hw';have hcells:=HC2.out w' hw';go_simp;(try rfl)
   simp only[Act.put,pq]
   refine tkQ 1 (v:=?_) ?_ hS ?_;rotate_left;· intro w' hw';have hcells:=HC2.out w' hw';go_simp;(try rfl)
   simp only[Act.put,pq]
   refine tkQ 2 (v:=?_) ?_ hS ?_;rotate_left;· intro w' hw';have hcells:=HC2.out w' hw';go_simp;(try rfl)
   simp only[Act.put,pq]
   refine tkQ 4 (v:=?_) ?_ hS ?_;rotate_left;· intro w' hw';have hcells:=HC2.out w' hw';go_simp;(try rfl)
   simp only[Act.put,pq]
   refine tkQ 5 (v:=?_) ?_ hS ?_;rotate_left;· intro w' hw';have hcells:=HC2.out w' hw';go_simp;(try rfl)
   simp only[Act.put,pq]
   refine tkQ 7 (v:=?_) ?_ hS ?_;rotate_left;· intro w' hw';have hcells:=HC2.out w' hw';go_simp;(try rfl)
   simp only[Act.put,pq]
   refine tkQ 8 (v:=?_) ?_ hS ?_;rotate_left;· intro w' hw';have hcells:=HC2.out w' hw';go_simp;(try rfl)
   simp only[Act.put,pq]
   refine tkQ 9 (v:=?_) ?_ hS ?_;rotate_left;· intro w' hw';have hcells:=HC2.out w' hw';go_simp;(try rfl)
   simp only[Act.put,pq]
   refine ry [3] ?_
   refine arQ fun K hK=>?_
   generalize hwa:World.drew _=wa at hS ⊢
   have ha:BldAt w (w1.heap.size+1) t0 [(w1.heap.size,(.cells #[.int .i64 f0] 33)),(wp.heap.size,(.cells #[.int .i64 xk.k,.int .i64 xk.i,.int .i64 xk.s,.string xk.t,.slice xk.la xk.ll xk.lc,.slice xk.fa xk.fl xk.fc,.int .i64 xn,.int .i64 xt,.slice xia xil xic,.slice xva xvl xvc] 133)),(w.heap.size,(.cells #[.int .i64 sn,.int .i64 st,.slice (some ⟨b,o,none⟩) sl sc] 55))] wa:=by rw[←hwa];exact HS5.out.ext (Below.refl _ w5).drew
   clear hwa
   go_simp;go_at_call 80;refine(bD xn (by rw[QN.out];exact HXI.out.rn) wa (HT.out _ ha.bw).1).mono ?_
   rintro e wc ⟨rfl,hbc⟩
   have hc:=ha.ext hbc
   refine hK.out _ _ (⟨_,_,hc⟩) (fun hS=>?_)
   clear hK K
   (try simp only[Act.put,pq])
   refine ry [6] ?_
   refine arQ fun K hK=>?_
   go_simp;go_at_call 80;refine(bD xt (by rw[QT.out];exact HXI.out.rt) wc (HT.out _ hc.bw).1).mono ?_
   rintro e we ⟨rfl,hbe⟩
   have hee:=hc.ext hbe
   refine hK.out _ _ (⟨_,_,hee⟩) (fun hS=>?_)
   clear hK K
   (try simp only[Act.put,pq])
   refine ry [10] ?_
   refine arQ fun K hK=>?_
   go_simp;go_at_call 142;refine(fV xk y.k we (HXW.out _ hee.bw).k (HT.out _ hee.bw).1 (HT.out _ hee.bw).2).mono ?_
   rintro e wf ⟨rfl,hbf⟩
   have hf:=hee.ext hbf
   have gf:wf.heap[w1.heap.size]?=some (.cells #[.int .i64 f0] 33):=hf.at 0 (by simp)
   refine hK.out _ _ (⟨_,_,hf⟩) (fun hS=>?_)
   clear hK K
   (try simp only[Act.put,pq])
   refine tkQ 11 (v:=?_) ?_ hS ?_;rotate_left;· intro w' hw';have hcells:=HC2.out w' hw';go_simp;(try rfl)
   simp only[Act.put,pq]
   refine tkQ 12 (v:=?_) ?_ hS ?_;rotate_left;· intro w' hw';have hcells:=HC2.out w' hw';go_simp;(try rfl)
   simp only[Act.put,pq]
   refine ry [13] ?_
   refine arQ fun K hK=>?_
   go_simp;go_at_call 141;refine(kM w1.heap.size (cM y.k).1 f0 (cM y.k).2 wf gf).mono ?_
   rintro e wh ⟨rfl,hwh⟩
   have hh:BldAt w (w1.heap.size+1) t0 [(w1.heap.size,(.cells #[.int .i64 (kQ f0 (cM y.k).2)] 33)),(wp.heap.size,(.cells #[.int .i64 xk.k,.int .i64 xk.i,.int .i64 xk.s,.string xk.t,.slice xk.la xk.ll xk.lc,.slice xk.fa xk.fl xk.fc,.int .i64 xn,.int .i64 xt,.slice xia xil xic,.slice xva xvl xvc] 133)),(w.heap.size,(.cells #[.int .i64 sn,.int .i64 st,.slice (some ⟨b,o,none⟩) sl sc] 55))] wh:=by
    rw[hwh]
    refine hf.setF _ (by have:=hf.m;have:=HB1.out.size;omega) (fun p hp=>?_)
    have q1:=HB1.out.size;have q2:=HPB.out;have q3:=HWM.out
    simp only[List.mem_cons,List.not_mem_nil,or_false] at hp
    rcases hp with rfl | rfl
    ·dsimp only;omega
    ·dsimp only;omega
   clear hwh
   refine hK.out _ _ (⟨_,_,hh⟩) (fun hS=>?_)
   clear hK K
   (try simp only[Act.put,pq])
   refine ry [14] ?_
   refine arQ fun K hK=>?_
   go_simp
   refine hK.out _ _ (⟨_,_,hh.ext ((Below.refl _ _).alloc lr _)⟩) (fun hS=>?_)
   clear hK K
   (try simp only[Act.put,pq])
   refine ry [15] ?_
   refine arQ fun K hK=>?_
   generalize hwwi:World.alloc _ _=wi at hS ⊢
   have hwi:BldAt w (w1.heap.size+1) t0 [(w1.heap.size,(.cells #[.int .i64 (kQ f0 (cM y.k).2)] 33)),(wp.heap.size,(.cells #[.int .i64 xk.k,.int .i64 xk.i,.int .i64 xk.s,.string xk.t,.slice xk.la xk.ll xk.lc,.slice xk.fa xk.fl xk.fc,.int .i64 xn,.int .i64 xt,.slice xia xil xic,.slice xva xvl xvc] 133)),(w.heap.size,(.cells #[.int .i64 sn,.int .i64 st,.slice (some ⟨b,o,none⟩) sl sc] 55))] wi:=by rw[←hwwi];exact hh.ext ((Below.refl _ _).alloc lr _)
   have gwi:wi.heap[wh.heap.size]?=some (.cells #[.string ⟨#[115,108,111,116]⟩,.string (aF xn),.string (aF xt),.string (cM y.k).1] 9):=by rw[←hwwi];exact heap_alloc_new _ _
   clear hwwi
   have hlwi:=jQ _ _ t0 [⟨#[115,108,111,116]⟩,(aF xn),(aF xt),(cM y.k).1] wh.heap.size 0 4 wi hwi.bld (cells4 gwi) (bT gwi) (show 4≤4 from Nat.le_refl _) (show 4≤100 by decide) (by rw[nI];have:=fG xn (by rw[QN.out];exact HXI.out.rn);have:=fG xt (by rw[QT.out];exact HXI.out.rt);have:=dT y.k;have:=HT0L.out;have:(⟨#[115,108,111,116]⟩:ByteArray).size=4:=rfl;omega) (by have:=hwi.n;omega)
   go_simp;go_at_call 139;refine hlwi.mono ?_
   rintro e w10 he
   have hw10:=hwi.line he
   obtain⟨rfl,_⟩:=he
   refine hK.out _ _ (⟨_,_,hw10⟩) (fun hS=>?_)
   clear hK K
   (try simp only[Act.put,pq])
   refine wpAnyH_done (by kernel_rfl) ?_ _
   (try dsimp only)
   have h10':BldAt w (w1.heap.size+1) (t0++lU y) [(w1.heap.size,(.cells #[.int .i64 (kQ f0 (cM y.k).2)] 33)),(wp.heap.size,(.cells #[.int .i64 xk.k,.int .i64 xk.i,.int .i64 xk.s,.string xk.t,.slice xk.la xk.ll xk.lc,.slice xk.fa xk.fl xk.fc,.int .i64 xn,.int .i64 xt,.slice xia xil xic,.slice xva xvl xvc] 133)),(w.heap.size,(.cells #[.int .i64 sn,.int .i64 st,.slice (some ⟨b,o,none⟩) sl sc] 55))] w10:=by
    have e:lU y=fF [⟨#[115,108,111,116]⟩,aF xn,aF xt,(cM y.k).1]:=by rw[QN.out,QT.out];rfl
    rw[e];exact hw10
   obtain⟨t10,ht10⟩:∃t10,t10=t0++lU y:=⟨_,rfl⟩
   obtain⟨f10,hf10⟩:∃f10,f10=kQ f0 (cM y.k).2:=⟨_,rfl⟩
   rw[←ht10,←hf10] at h10'
   have HTL10:=hid (show t10.length≤100+2000 * 352000000+65600 by
    have q:=HXI.out
    have q1:=mY y q.rn q.rt
    have q2:=HT0L.out
    rw[ht10,List.length_append];omega)
   have HT10:=hid (And.intro ht10 hf10)
   have H10:=hid h10'
   have h11:w10.heap[wp.heap.size]?=some (.cells #[.int .i64 xk.k,.int .i64 xk.i,.int .i64 xk.s,.string xk.t,.slice xk.la xk.ll xk.lc,.slice xk.fa xk.fl xk.fc,.int .i64 xn,.int .i64 xt,.slice xia xil xic,.slice xva xvl xvc] 133):=h10'.at 1 (by simp)
   have kk:=aA h11 8
   (try dsimp only at kk)
   clear hS hw10 h10' ht10 hf10 hlwi gwi hwi hh gf hf hbf hee hbe hc hbc ha h11 HC2 HS5
   have hbig10:xil * 152≤140737488351232:=HXI.out.items.big
   go_wp2
   go_loopw [57] (fun i wr=>∃j:Nat,j≤xil∧i=.int .i64 j∧BldAt w (w1.heap.size+1) (t10++(y.items.take j).flatMap fJ) [(w1.heap.size,(.cells #[.int .i64 (iJ f10 (y.items.take j))] 33)),(wp.heap.size,(.cells #[.int .i64 xk.k,.int .i64 xk.i,.int .i64 xk.s,.string xk.t,.slice xk.la xk.ll xk.lc,.slice xk.fa xk.fl xk.fc,.int .i64 xn,.int .i64 xt,.slice xia xil xic,.slice xva xvl xvc] 133)),(w.heap.size,(.cells #[.int .i64 sn,.int .i64 st,.slice (some ⟨b,o,none⟩) sl sc] 55))] wr) (fun i _=>xil-(intOf i).toNat)
   case atStart=>exact⟨0,Nat.zero_le _,rfl,by
    have h:=H10.out
    rw[List.take_zero,List.flatMap_nil,List.append_nil];exact h⟩
   case round =>
    obtain⟨j,hj,rfl,hbr⟩:=hrel
    obtain⟨wq,rfl⟩:∃w1:World,w1=wr:=⟨_,rfl⟩
    have HBQ:=hid hbr
    clear hbr
    by_cases hlt2:j<xil
    ·have hjl:j<y.items.length:=by have:=HXI.out.items.len;(try dsimp only at this);omega
     obtain⟨zb,zo,rfl,hzb,hz⟩:=(HXW.out wq HBQ.out.bw).items.slot (show 0<xil by omega)
     obtain⟨z,hza2,hzi⟩:=hz j hjl
     have hzc:=hza2.m
     obtain⟨z0,z1,z2,z3,z4,z5,z6,z7,z8,z9⟩:=hzc
     have hlt':(j:Int)<(xil:Int):=by omega
     have hk0:(0:Int)≤(j:Int):=by omega
     obtain⟨u,hu⟩:∃u,u=y.items[j]:=⟨_,rfl⟩
     rw[←hu] at hzi
     have HU:=hid hu
     clear hu hz hza2 hzb
     go_upto_region 16 with (fail)
     clear z0 z1 z2 z3 z4 z5 z6 z7 z8 z9
     obtain⟨w12,hw12⟩:∃w12,w12=wq.alloc (.cells #[.int .i64 z.st.e,.slice z.st.a z.st.n z.st.c,.int .i64 z.m,.slice z.a z.n z.c,.int .i64 z.b.k,.int .i64 z.b.i,.int .i64 z.b.s,.string z.b.t,.slice z.b.la z.b.ll z.b.lc,.slice z.b.fa z.b.fl z.b.fc] 68):=⟨_,rfl⟩
     rw[←hw12]
     have h12:BldAt w (w1.heap.size+1) (t10++(y.items.take j).flatMap fJ) [(w1.heap.size,(.cells #[.int .i64 (iJ f10 (y.items.take j))] 33)),(wp.heap.size,(.cells #[.int .i64 xk.k,.int .i64 xk.i,.int .i64 xk.s,.string xk.t,.slice xk.la xk.ll xk.lc,.slice xk.fa xk.fl xk.fc,.int .i64 xn,.int .i64 xt,.slice (some ⟨zb,zo,none⟩) xil xic,.slice xva xvl xvc] 133)),(w.heap.size,(.cells #[.int .i64 sn,.int .i64 st,.slice (some ⟨b,o,none⟩) sl sc] 55))] w12:=by rw[hw12];exact HBQ.out.ext ((Below.refl _ wq).alloc lr _)
     have g12:w12.heap[wq.heap.size]?=some (.cells #[.int .i64 z.st.e,.slice z.st.a z.st.n z.st.c,.int .i64 z.m,.slice z.a z.n z.c,.int .i64 z.b.k,.int .i64 z.b.i,.int .i64 z.b.s,.string z.b.t,.slice z.b.la z.b.ll z.b.lc,.slice z.b.fa z.b.fl z.b.fc] 68):=by rw[hw12];exact heap_alloc_new _ _
     have y0:=aA g12 0;have y1:=aA g12 1;have y2:=aA g12 2;have y3:=aA g12 3;have y4:=aA g12 4;have y5:=aA g12 5;have y6:=aA g12 6;have y7:=aA g12 7;have y8:=aA g12 8;have y9:=aA g12 9
     (try dsimp only at y0 y1 y2 y3 y4 y5 y6 y7 y8 y9)
     have hbq:Below wq.heap.size wq w12:=by rw[hw12];exact(Below.refl _ wq).alloc lr _
     have hzi2:=hzi.same (S':=(· < w12.heap.size)) (w':=w12) fun b q=>⟨Nat.lt_of_lt_of_le q hbq.size,hbq.block b q⟩
     have HL12:=hid (kK z u w12 hzi2 (HT.out _ h12.bw).1 (HT.out _ h12.bw).2)
     dsimp only[MC.v] at HL12
     obtain⟨tu,htu⟩:∃tu,tu=(eE u).1:=⟨_,rfl⟩
     obtain⟨eu,heu⟩:∃eu,eu=(eE u).2:=⟨_,rfl⟩
     rw[←htu,←heu] at HL12
     obtain⟨fj,hfj⟩:∃fj,fj=iJ f10 (y.items.take j):=⟨_,rfl⟩
     obtain⟨tj,htj⟩:∃tj,tj=t10++(y.items.take j).flatMap fJ:=⟨_,rfl⟩
     rw[←hfj,←htj] at h12
     have htl:tj.length≤100+2000 * 352000000+65600+2000 * 110006:=by
      have q1:=HTL10.out
      have q2:=dD fJ 110006 (y.items.take j) (fun m _=>kN m)
      have q3:(y.items.take j).length≤2000:=by rw[List.length_take];have:=HYZ.out;omega
      have q4:(y.items.take j).length * 110006≤2000 * 110006:=Nat.mul_le_mul_right _ q3
      rw[htj,List.length_append];omega
     have htz:tu.size≤110000:=by rw[htu];exact mB u
     have H12:=hid h12
     have HTJ:=hid (And.intro hfj htj)
     have HTU:=hid (And.intro htu heu)
     have HTZ:=hid (And.intro htl htz)
     clear hw12 g12 h12 hbq hzi hzi2 hfj htj htu heu htl htz
     go_wp2_with (first
      | (go_at_call 139;refine HLR.out.mono ?_;rintro e w15 he;have H15:=hid (HA14.out.line he);obtain⟨rfl,_⟩:=he)
      | (go_at_call 141;refine HK13.out.mono ?_;rintro e w14 ⟨rfl,hw14⟩;have h14:BldAt w (w1.heap.size+1) tj [(w1.heap.size,(.cells #[.int .i64 (kQ fj eu)] 33)),(wp.heap.size,(.cells #[.int .i64 xk.k,.int .i64 xk.i,.int .i64 xk.s,.string xk.t,.slice xk.la xk.ll xk.lc,.slice xk.fa xk.fl xk.fc,.int .i64 xn,.int .i64 xt,.slice (some ⟨zb,zo,none⟩) xil xic,.slice xva xvl xvc] 133)),(w.heap.size,(.cells #[.int .i64 sn,.int .i64 st,.slice (some ⟨b,o,none⟩) sl sc] 55))] w14:=(by rw[hw14];exact HSF.out);have hlr:=jQ _ _ tj [⟨#[105,116,101,109]⟩,tu] w14.heap.size 0 2 (w14.alloc (.cells #[.string ⟨#[105,116,101,109]⟩,.string tu] 9)) (h14.ext ((Below.refl _ w14).alloc lr _)).bld (aDl (heap_alloc_new _ _)) (bT (heap_alloc_new _ _)) (show 2≤2 from Nat.le_refl _) (show 2≤100 by decide) (by rw[iI];have q1:=HTZ.out;have q2:(⟨#[105,116,101,109]⟩:ByteArray).size≤5:=(by decide);omega) (by have:=h14.n;simp;omega);have HLR:=hid hlr;have HA14:=hid (h14.ext ((Below.refl _ w14).alloc lr (.cells #[.string ⟨#[105,116,101,109]⟩,.string tu] 9)));clear hlr h14 hw14)
      | (go_at_call 75;refine HL12.out.mono ?_;rintro e w13 ⟨rfl,hb13⟩;have h13:=H12.out.ext hb13;have g13:w13.heap[w1.heap.size]?=some (.cells #[.int .i64 fj] 33):=h13.at 0 (by simp);have HK13:=hid (kM w1.heap.size tu fj eu w13 g13);have HSF:=hid (h13.setF (.int .i64 (kQ fj eu)) (by have:=HB1.out.size;omega) (fun p hp=>(by have q1:=HB1.out.size;have q2:=HPB.out;have q3:=HWM.out;simp only[List.mem_cons,List.not_mem_nil,or_false] at hp;rcases hp with rfl | rfl<;>(dsimp only;omega))));clear h13 g13))
     go_roundw
     case rel=>exact⟨j+1,by omega,by go_num,by
      have h:=H15.out
      rw[List.take_succ_eq_append_getElem hjl,←HU.out,List.flatMap_append,List.flatMap_singleton,←List.append_assoc,←HTJ.out.2]
      unfold iJ
      rw[List.foldl_append]
      show BldAt w (w1.heap.size+1) (tj++fJ u) [(w1.heap.size,(.cells #[.int .i64 (kQ (iJ f10 (y.items.take j)) (eE u).2)] 33)),(wp.heap.size,(.cells #[.int .i64 xk.k,.int .i64 xk.i,.int .i64 xk.s,.string xk.t,.slice xk.la xk.ll xk.lc,.slice xk.fa xk.fl xk.fc,.int .i64 xn,.int .i64 xt,.slice (some ⟨zb,zo,none⟩) xil xic,.slice xva xvl xvc] 133)),(w.heap.size,(.cells #[.int .i64 sn,.int .i64 st,.slice (some ⟨b,o,none⟩) sl sc] 55))] w15
      rw[←HTJ.out.1,←HTU.out.2]
      unfold fJ
      rw[←HTU.out.1]
      exact h⟩
     case measure=>simp[intOf];omega
    ·obtain rfl:xil=j:=by omega
     have HBT:=hid HBQ.out
     obtain⟨t20,ht20⟩:∃t20,t20=t10++(y.items.take xil).flatMap fJ:=⟨_,rfl⟩
     obtain⟨f20,hf20⟩:∃f20,f20=iJ f10 (y.items.take xil):=⟨_,rfl⟩
     have h20:=HBQ.out
     rw[←ht20,←hf20] at h20
     have hti:y.items.take xil=y.items:=List.take_of_length_le (by have:=HXI.out.items.len;(try dsimp only at this);omega)
     rw[hti] at ht20 hf20
     have HTL20:=hid (show t20.length≤100+2000 * 352000000+65600+2000 * 110006 by
      have q1:=HTL10.out
      have q2:=dD fJ 110006 y.items (fun m _=>kN m)
      have q4:y.items.length * 110006≤2000 * 110006:=Nat.mul_le_mul_right _ HYZ.out.1
      rw[ht20,List.length_append];omega)
     have HT20:=hid (And.intro ht20 hf20)
     have H20:=hid h20
     have h21:wq.heap[wp.heap.size]?=some (.cells #[.int .i64 xk.k,.int .i64 xk.i,.int .i64 xk.s,.string xk.t,.slice xk.la xk.ll xk.lc,.slice xk.fa xk.fl xk.fc,.int .i64 xn,.int .i64 xt,.slice xia xil xic,.slice xva xvl xvc] 133):=h20.at 1 (by simp)
     have kk2:=aA h21 9
     (try dsimp only at kk2)
     clear kk h20 h21 ht20 hf20 hti hlt2 HBQ HBT
     have hbig20:xvl * 88≤140737488351232:=HXI.out.vals.big
     go_wp2
     go_loopw [74] (fun i wr=>∃j:Nat,j≤xvl∧i=.int .i64 j∧BldAt w (w1.heap.size+1) (t20++(y.vals.take j).flatMap iV) [(w1.heap.size,(.cells #[.int .i64 (kF f20 (y.vals.take j))] 33)),(wp.heap.size,(.cells #[.int .i64 xk.k,.int .i64 xk.i,.int .i64 xk.s,.string xk.t,.slice xk.la xk.ll xk.lc,.slice xk.fa xk.fl xk.fc,.int .i64 xn,.int .i64 xt,.slice xia xil xic,.slice xva xvl xvc] 133)),(w.heap.size,(.cells #[.int .i64 sn,.int .i64 st,.slice (some ⟨b,o,none⟩) sl sc] 55))] wr) (fun i _=>xvl-(intOf i).toNat)
     case atStart=>exact⟨0,Nat.zero_le _,rfl,by
      have h:=H20.out
      rw[List.take_zero,List.flatMap_nil,List.append_nil];exact h⟩
     case round =>
      obtain⟨j,hj,rfl,hbr⟩:=hrel
      obtain⟨wq,rfl⟩:∃w1:World,w1=wr:=⟨_,rfl⟩
      have HBQ:=hid hbr
      clear hbr
      by_cases hlt2:j<xvl
      ·have hjl:j<y.vals.length:=by have:=HXI.out.vals.len;(try dsimp only at this);omega
       obtain⟨zb,zo,rfl,hzb,hz⟩:=(HXW.out wq HBQ.out.bw).vals.slot (show 0<xvl by omega)
       obtain⟨z,hza2,hzi⟩:=hz j hjl
       have hzc:=hza2.val
       obtain⟨z0,z1,z2,z3,z4,z5⟩:=hzc
       have hlt':(j:Int)<(xvl:Int):=by omega
       have hk0:(0:Int)≤(j:Int):=by omega
       obtain⟨u,hu⟩:∃u,u=y.vals[j]:=⟨_,rfl⟩
       rw[←hu] at hzi
       have HU:=hid hu
       clear hu hz hza2 hzb
       go_upto_region 21 with (fail)
       clear z0 z1 z2 z3 z4 z5
       obtain⟨w12,hw12⟩:∃w12,w12=wq.alloc (.cells #[.int .i64 z.k,.int .i64 z.i,.int .i64 z.s,.string z.t,.slice z.la z.ll z.lc,.slice z.fa z.fl z.fc] 66):=⟨_,rfl⟩
       rw[←hw12]
       have h12:BldAt w (w1.heap.size+1) (t20++(y.vals.take j).flatMap iV) [(w1.heap.size,(.cells #[.int .i64 (kF f20 (y.vals.take j))] 33)),(wp.heap.size,(.cells #[.int .i64 xk.k,.int .i64 xk.i,.int .i64 xk.s,.string xk.t,.slice xk.la xk.ll xk.lc,.slice xk.fa xk.fl xk.fc,.int .i64 xn,.int .i64 xt,.slice xia xil xic,.slice (some ⟨zb,zo,none⟩) xvl xvc] 133)),(w.heap.size,(.cells #[.int .i64 sn,.int .i64 st,.slice (some ⟨b,o,none⟩) sl sc] 55))] w12:=by rw[hw12];exact HBQ.out.ext ((Below.refl _ wq).alloc lr _)
       have g12:w12.heap[wq.heap.size]?=some (.cells #[.int .i64 z.k,.int .i64 z.i,.int .i64 z.s,.string z.t,.slice z.la z.ll z.lc,.slice z.fa z.fl z.fc] 66):=by rw[hw12];exact heap_alloc_new _ _
       have y0:=aA g12 0;have y1:=aA g12 1;have y2:=aA g12 2;have y3:=aA g12 3;have y4:=aA g12 4;have y5:=aA g12 5
       (try dsimp only at y0 y1 y2 y3 y4 y5)
       have hbq:Below wq.heap.size wq w12:=by rw[hw12];exact(Below.refl _ wq).alloc lr _
       have hzi2:=hzi.same (S':=(· < w12.heap.size)) (w':=w12) fun b q=>⟨Nat.lt_of_lt_of_le q hbq.size,hbq.block b q⟩
       have HL12:=hid (fV z u w12 hzi2 (HT.out _ h12.bw).1 (HT.out _ h12.bw).2)
       dsimp only[VC.v] at HL12
       obtain⟨tu,htu⟩:∃tu,tu=(cM u).1:=⟨_,rfl⟩
       obtain⟨eu,heu⟩:∃eu,eu=(cM u).2:=⟨_,rfl⟩
       rw[←htu,←heu] at HL12
       obtain⟨fj,hfj⟩:∃fj,fj=kF f20 (y.vals.take j):=⟨_,rfl⟩
       obtain⟨tj,htj⟩:∃tj,tj=t20++(y.vals.take j).flatMap iV:=⟨_,rfl⟩
       rw[←hfj,←htj] at h12
       have htl:tj.length≤100+2000 * 352000000+65600+2000 * 110006+2000 * 65543:=by
        have q1:=HTL20.out
        have q2:=dD iV 65543 (y.vals.take j) (fun m _=>pS m)
        have q3:(y.vals.take j).length≤2000:=by rw[List.length_take];have:=HYZ.out;omega
        have q4:(y.vals.take j).length * 65543≤2000 * 65543:=Nat.mul_le_mul_right _ q3
        rw[htj,List.length_append];omega
       have htz:tu.size≤110000:=by rw[htu];have:=dT u;omega
       have H12:=hid h12
       have HTJ:=hid (And.intro hfj htj)
       have HTU:=hid (And.intro htu heu)
       have HTZ:=hid (And.intro htl htz)
       clear hw12 g12 h12 hbq hzi hzi2 hfj htj htu heu htl htz
       go_wp2_with (first
        | (go_at_call 139;refine HLR.out.mono ?_;rintro e w15 he;have H15:=hid (HA14.out.line he);obtain⟨rfl,_⟩:=he)
        | (go_at_call 141;refine HK13.out.mono ?_;rintro e w14 ⟨rfl,hw14⟩;have h14:BldAt w (w1.heap.size+1) tj [(w1.heap.size,(.cells #[.int .i64 (kQ fj eu)] 33)),(wp.heap.size,(.cells #[.int .i64 xk.k,.int .i64 xk.i,.int .i64 xk.s,.string xk.t,.slice xk.la xk.ll xk.lc,.slice xk.fa xk.fl xk.fc,.int .i64 xn,.int .i64 xt,.slice xia xil xic,.slice (some ⟨zb,zo,none⟩) xvl xvc] 133)),(w.heap.size,(.cells #[.int .i64 sn,.int .i64 st,.slice (some ⟨b,o,none⟩) sl sc] 55))] w14:=(by rw[hw14];exact HSF.out);have hlr:=jQ _ _ tj [⟨#[118,97,108,117,101]⟩,tu] w14.heap.size 0 2 (w14.alloc (.cells #[.string ⟨#[118,97,108,117,101]⟩,.string tu] 9)) (h14.ext ((Below.refl _ w14).alloc lr _)).bld (aDl (heap_alloc_new _ _)) (bT (heap_alloc_new _ _)) (show 2≤2 from Nat.le_refl _) (show 2≤100 by decide) (by rw[iI];have q1:=HTZ.out;have q2:(⟨#[118,97,108,117,101]⟩:ByteArray).size≤5:=(by decide);omega) (by have:=h14.n;simp;omega);have HLR:=hid hlr;have HA14:=hid (h14.ext ((Below.refl _ w14).alloc lr (.cells #[.string ⟨#[118,97,108,117,101]⟩,.string tu] 9)));clear hlr h14 hw14)
        | (go_at_call 142;refine HL12.out.mono ?_;rintro e w13 ⟨rfl,hb13⟩;have h13:=H12.out.ext hb13;have g13:w13.heap[w1.heap.size]?=some (.cells #[.int .i64 fj] 33):=h13.at 0 (by simp);have HK13:=hid (kM w1.heap.size tu fj eu w13 g13);have HSF:=hid (h13.setF (.int .i64 (kQ fj eu)) (by have:=HB1.out.size;omega) (fun p hp=>(by have q1:=HB1.out.size;have q2:=HPB.out;have q3:=HWM.out;simp only[List.mem_cons,List.not_mem_nil,or_false] at hp;rcases hp with rfl | rfl<;>(dsimp only;omega))));clear h13 g13))
       go_roundw
       case rel=>exact⟨j+1,by omega,by go_num,by
        have h:=H15.out
        rw[List.take_succ_eq_append_getElem hjl,←HU.out,List.flatMap_append,List.flatMap_singleton,←List.append_assoc,←HTJ.out.2]
        unfold kF
        rw[List.foldl_append]
        show BldAt w (w1.heap.size+1) (tj++iV u) [(w1.heap.size,(.cells #[.int .i64 (kQ (kF f20 (y.vals.take j)) (cM u).2)] 33)),(wp.heap.size,(.cells #[.int .i64 xk.k,.int .i64 xk.i,.int .i64 xk.s,.string xk.t,.slice xk.la xk.ll xk.lc,.slice xk.fa xk.fl xk.fc,.int .i64 xn,.int .i64 xt,.slice xia xil xic,.slice (some ⟨zb,zo,none⟩) xvl xvc] 133)),(w.heap.size,(.cells #[.int .i64 sn,.int .i64 st,.slice (some ⟨b,o,none⟩) sl sc] 55))] w15
        rw[←HTJ.out.1,←HTU.out.2]
        unfold iV
        rw[←HTU.out.1]
        exact h⟩
       case measure=>simp[intOf];omega
      ·obtain rfl:xvl=j:=by omega

       have h30:=HBQ.out
       have htv:y.vals.take xvl=y.vals:=List.take_of_length_le (by have:=HXI.out.vals.len;(try dsimp only at this);omega)
       rw[htv] at h30
       have HB30:=hid h30
       clear h30 htv kk2 hlt2 HBQ
       go_wp2
       go_roundw
       case rel=>exact⟨k+1,by omega,by go_num,by
        have h:=HB30.out
        have e1:gM d (k+1)=t20++y.vals.flatMap iV:=by
         rw[vZ d k hkl,←HY.out,←HT0.out,HT20.out.1,HT10.out.1]
         unfold iE
         simp only[List.append_assoc]
        have e2:oD d (k+1)=kF f20 y.vals:=by
         rw[aAr d k hkl,←HY.out,←HF0.out,HT20.out.2,HT10.out.2];rfl
        rw[e1,e2]
        refine h.sub ?_
        intro p hp
        simp only[List.mem_cons,List.not_mem_nil,or_false] at hp ⊢
        rcases hp with rfl | rfl
        ·exact .inl rfl
        ·exact .inr (.inr rfl)⟩
       case measure=>simp[intOf];omega
  ·obtain rfl:k=sl:=by omega
   have HBR:=hid hbr
   have gf:wp.heap[w1.heap.size]?=some (.cells #[.int .i64 (oD d k)] 33):=hbr.at 0 (by simp)
   have kf:=aA gf 0
   (try dsimp only at kf)
   obtain⟨f0,hf0⟩:∃f0,f0=oD d k:=⟨_,rfl⟩
   have hfe:f0=iZ d:=by rw[hf0];exact aD6 d k (by have:=HL.out;omega)
   have hte:gM d k=wL d:=pX d k (by have:=HL.out;omega)
   rw[←hf0] at kf
   have HST:=hid (Tryz.Builder_String_any_k (w1.heap.size+1) (w1.heap.size+1) (gM d k) wp hbr.bld (by have:=hbr.n;omega))
   have HFE:=hid (And.intro hfe hte)
   clear hbr gf hfe hte hf0
   by_cases hz0:f0=0
   ·subst hz0
    go_wp2_with (go_at_call 84;refine HST.out.mono ?_;rintro e w20 ⟨rfl,_,hb20,_⟩)
    go_ret2
    exact⟨by rw[HVX.out.1,HVX.out.2,←HFE.out.1,←HFE.out.2];rfl,HBR.out.bw.trans (hb20.mono HBR.out.m)⟩
   ·have hx0:(f0==0)=false:=by simp;exact hz0
    have hx1:(f0 != 0)=true:=by simp;exact hz0
    have HZ0:=hid hz0
    clear hz0
    go_upto_region 25 with (fail)
    refine wp_region_held_drew (S:=(fun w'=>w'.cell? ⟨w1.heap.size,0,none⟩=some (.int .i64 f0))) (by kernel_rfl) (kf) (fun hS=>?_)
    refine tkQ 0 (v:=?_) ?_ hS ?_;rotate_left;· intro w' hw';(try dsimp only at hw');go_simp;(try rfl)
    simp only[Act.put,pq]
    refine tkQ 1 (v:=?_) ?_ hS ?_;rotate_left;· intro w' hw';(try dsimp only at hw');go_simp;(try rfl)
    simp only[Act.put,pq]
    refine tkQ 2 (v:=?_) ?_ hS ?_;rotate_left;· intro w' hw';(try dsimp only at hw');go_simp;(try rfl)
    simp only[Act.put,pq]
    refine wpAnyH_done (by kernel_rfl) ?_ _
    (try dsimp only)
    go_wp2
    go_ret2
    exact⟨by rw[HVX.out.1,HVX.out.2,←HFE.out.1,if_pos HZ0.out];rfl,HBR.out.bw.drew⟩
theorem qM (c:StC) (d:Sta) (w:World) (hd:IsSta (· < w.heap.size) w c d) (hT:Tabs w) (hZ:ZTab w) (hz:Sz 2000 d.l) :
 Calls Tryz.prog 73 #[c.v] w fun e w'=>e=.returned (.tuple #[.string (fQ d).1,.int .i64 (fQ d).2])∧Below w.heap.size w w':=by
 unfold fQ
 by_cases h0:bB d=0
 ·rw[if_neg (by simpa using h0)]
  have h:=encS_ok c d w hd hT hZ hz h0
  by_cases h1:iZ d=0
  ·rw[if_neg (by simpa using h1)]
   rw[if_neg (by simpa using h1),h1] at h
   exact h
  ·rw[if_pos h1]
   rw[if_pos h1] at h
   exact h
 ·rw[if_pos h0]
  exact aD9 c d w hd hT h0
end
end Go.Proofs.YteladbdfiannjaaGreatDoor
