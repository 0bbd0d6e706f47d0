/- A part. -/
import Derived.Test.YteladbdfiannjaaGreatDoorSX3Mrg
import Derived.Sort.CutIn
namespace Go.Proofs.YteladbdfiannjaaGreatDoor
set_option linter.unusedVariables false
set_option maxRecDepth 100000
set_option maxHeartbeats 64000000
set_option linter.unusedSimpArgs false
section
open Go Go.RowKit Go.Shelf
def orL:List Int→Int
 | []=>0
 | x :: r=>if x≠0 then x else orL r
theorem tX (xs:List Int) (k:Nat) (h:k<xs.length):orL (xs.drop k)=if xs[k]≠0 then xs[k] else orL (xs.drop (k+1)):=by
 rw[List.drop_eq_getElem_cons h,orL]
theorem or_call (a:Option Addr) (n c:Nat) (xs:List Int) (w:World) (hlen:n=xs.length) (hbig:n * 8≤140737488351232) (hsl:0<n→∃b o,a=some ⟨b,o,none⟩∧∀(j:Nat) (h:j<xs.length),w.cell? ⟨b,o+j,none⟩=some (.int .i64 xs[j])):Calls Tryz.prog 168 #[.slice a n c] w fun e w'=>e=.returned (.int .i64 (orL xs))∧w=w':=by
 have HL:=hid hlen
 have HXX:=hid hsl
 clear hlen hsl
 go_enter Tryz.func168,Tryz.ntmps168
 go_wp2
 go_loop [8] (fun i=>∃k:Nat,k≤n∧i=.int .i64 k∧orL xs=orL (xs.drop k)) (fun i=>n-(intOf i).toNat)
 case atStart=>exact⟨0,Nat.zero_le _,rfl,rfl⟩
 case round =>
  obtain⟨k,hk,rfl,hall⟩:=hrel
  have HA:=hid hall
  clear hall
  by_cases hlt:k<n
  ·obtain⟨b,o,rfl,hc⟩:=HXX.out (show 0<n by omega)
   have hkl:k<xs.length:=by have:=HL.out;omega
   have hck:=hc k hkl
   clear hc
   have hlt':(k:Int)<(n:Int):=by omega
   have hn63:(n:Int)≤9223372036854775807:=by omega
   have hd:=tX xs k hkl
   obtain⟨z,hz⟩:∃z,z=xs[k]:=⟨_,rfl⟩
   rw[←hz] at hck hd
   have HD:=hid hd
   clear hz hd
   by_cases h0:z=0
   ·subst h0
    go_wp2
    go_round
    case rel=>exact⟨k+1,by omega,by go_num,by rw[HA.out,HD.out,if_neg (by simp)]⟩
    case measure=>simp[intOf];omega
   ·have H0:=hid h0
    go_wp2
    go_ret
    exact⟨by rw[HA.out,HD.out,if_pos H0.out];rfl,rfl⟩
  ·obtain rfl:k=n:=by omega
   go_wp2
   go_ret
   exact⟨by rw[HA.out,HL.out,List.drop_length];rfl,rfl⟩
theorem xK (xs:List Int) (w:World) (t:TypeId) (hbig:xs.length * 8≤140737488351232):Calls Tryz.prog 168 #[.slice (some ⟨w.heap.size,0,none⟩) xs.length xs.length] (w.alloc (.cells (xs.map (Value.int .i64)).toArray t)) fun e w'=>e=.returned (.int .i64 (orL xs))∧w.alloc (.cells (xs.map (Value.int .i64)).toArray t)=w' :=
 or_call _ _ _ xs _ rfl hbig fun _=>⟨_,_,rfl,fun j hj=>by rw[aA (heap_alloc_new w _)];simp[hj]⟩
def gK:List Int→List Int→Int
 | [],[]=>0
 | [],_ :: _ => -1
 | _ :: _,[]=>1
 | x :: r,y :: s=>if Lib.compareInt x y≠0 then Lib.compareInt x y else gK r s
theorem aB1 (xs ys:List Int) (k:Nat) (h:k<xs.length) (h2:k<ys.length):gK (xs.drop k) (ys.drop k)=if Lib.compareInt xs[k] ys[k]≠0 then Lib.compareInt xs[k] ys[k] else gK (xs.drop (k+1)) (ys.drop (k+1)):=by
 rw[List.drop_eq_getElem_cons h,List.drop_eq_getElem_cons h2,gK]
theorem aB0 (xs ys:List Int) (k:Nat) (h:k<xs.length) (h2:ys.length=k):gK (xs.drop k) (ys.drop k)=1:=by
 subst h2;rw[List.drop_eq_getElem_cons h,List.drop_length,gK]
theorem yE (xs ys:List Int) (k:Nat) (h:xs.length=k) (h2:k<ys.length):gK (xs.drop k) (ys.drop k) = -1:=by
 subst h;rw[List.drop_eq_getElem_cons h2,List.drop_length,gK]
theorem aDi (xs ys:List Int) (k:Nat) (h:xs.length=k) (h2:ys.length=k):gK (xs.drop k) (ys.drop k)=0:=by
 subst h;rw[←h2,List.drop_length,h2,List.drop_length,gK]
end
section
open Go Go.RowKit Go.Shelf
mutual
def dJ:Val→Val→Int
 | .mk k i s t l ns fs,.mk k' i' s' t' l' ns' fs'=>orL [Lib.compareInt k k',Lib.compareInt i i',Lib.compareInt s s',Lib.compareBytes t.data.toList t'.data.toList,fL l l',fM ns fs ns' fs']
def fL:List Val→List Val→Int
 | [],[]=>0
 | [],_ :: _ => -1
 | _ :: _,[]=>1
 | d :: l,d' :: l'=>if dJ d d'≠0 then dJ d d' else fL l l'
def fM (ns:List ByteArray):List Val→List ByteArray→List Val→Int
 | [],_,[]=>0
 | [],_,_ :: _ => -1
 | _ :: _,_,[]=>1
 | d :: l,ns',d' :: l'=>if orL [Lib.compareBytes (ns.headD ByteArray.empty).data.toList (ns'.headD ByteArray.empty).data.toList,dJ d d']≠0 then orL [Lib.compareBytes (ns.headD ByteArray.empty).data.toList (ns'.headD ByteArray.empty).data.toList,dJ d d'] else fM ns.tail l ns'.tail l'
end
theorem yB (l l':List Val) (k:Nat) (h:k<l.length) (h2:k<l'.length):fL (l.drop k) (l'.drop k)=if dJ l[k] l'[k]≠0 then dJ l[k] l'[k] else fL (l.drop (k+1)) (l'.drop (k+1)):=by
 rw[List.drop_eq_getElem_cons h,List.drop_eq_getElem_cons h2,fL]
theorem yA (l l':List Val) (k:Nat) (h:k<l.length) (h2:l'.length=k):fL (l.drop k) (l'.drop k)=1:=by
 subst h2;rw[List.drop_eq_getElem_cons h,List.drop_length,fL]
theorem uX (l l':List Val) (k:Nat) (h:l.length=k) (h2:k<l'.length):fL (l.drop k) (l'.drop k) = -1:=by
 subst h;rw[List.drop_eq_getElem_cons h2,List.drop_length,fL]
theorem aAz (l l':List Val) (k:Nat) (h:l.length=k) (h2:l'.length=k):fL (l.drop k) (l'.drop k)=0:=by
 subst h;rw[←h2,List.drop_length,h2,List.drop_length,fL]
theorem nV (ns:List ByteArray) (k:Nat) (h:k<ns.length):(ns.drop k).headD ByteArray.empty=ns[k]:=by rw[List.drop_eq_getElem_cons h];rfl
theorem yG (ns ns':List ByteArray) (l l':List Val) (k:Nat) (h:k<l.length) (h2:k<l'.length) (hn:k<ns.length) (hn':k<ns'.length):fM (ns.drop k) (l.drop k) (ns'.drop k) (l'.drop k) =
 if orL [Lib.compareBytes ns[k].data.toList ns'[k].data.toList,dJ l[k] l'[k]]≠0 then orL [Lib.compareBytes ns[k].data.toList ns'[k].data.toList,dJ l[k] l'[k]] else fM (ns.drop (k+1)) (l.drop (k+1)) (ns'.drop (k+1)) (l'.drop (k+1)):=by
 rw[List.drop_eq_getElem_cons h,List.drop_eq_getElem_cons h2,fM,nV ns k hn,nV ns' k hn',List.tail_drop,List.tail_drop]
theorem yF (ns ns':List ByteArray) (l l':List Val) (k:Nat) (h:k<l.length) (h2:l'.length=k):fM (ns.drop k) (l.drop k) (ns'.drop k) (l'.drop k)=1:=by
 subst h2;rw[List.drop_eq_getElem_cons h,List.drop_length,fM]
theorem uZ (ns ns':List ByteArray) (l l':List Val) (k:Nat) (h:l.length=k) (h2:k<l'.length):fM (ns.drop k) (l.drop k) (ns'.drop k) (l'.drop k) = -1:=by
 subst h;rw[List.drop_eq_getElem_cons h2,List.drop_length,fM]
theorem aB2 (ns ns':List ByteArray) (l l':List Val) (k:Nat) (h:l.length=k) (h2:l'.length=k):fM (ns.drop k) (l.drop k) (ns'.drop k) (l'.drop k)=0:=by
 subst h;rw[show l.drop l.length=[] from List.drop_length,←h2,show l'.drop l'.length=[] from List.drop_length,fM]
theorem aD2 (nm nm2:ByteArray) (d d2:Val)
 (ih:∀(d2:Val) (c c2:VC) (w:World),IsVal (· < w.heap.size) w c d→IsVal (· < w.heap.size) w c2 d2→Calls Tryz.prog 106 #[c.v,c2.v] w fun e w'=>e=.returned (.int .i64 (dJ d d2))∧Below w.heap.size w w')
 (c c2:VC) (w:World) (hd:IsVal (· < w.heap.size) w c d) (hd2:IsVal (· < w.heap.size) w c2 d2) :
 Calls Tryz.prog 173 #[.agg #[.string nm,.int .i64 c.k,.int .i64 c.i,.int .i64 c.s,.string c.t,.slice c.la c.ll c.lc,.slice c.fa c.fl c.fc],.agg #[.string nm2,.int .i64 c2.k,.int .i64 c2.i,.int .i64 c2.s,.string c2.t,.slice c2.la c2.ll c2.lc,.slice c2.fa c2.fl c2.fc]] w fun e w'=>e=.returned (.int .i64 (orL [Lib.compareBytes nm.data.toList nm2.data.toList,dJ d d2]))∧Below w.heap.size w w':=by
 have HWB:Hid (Below w.heap.size w ((w.alloc (.cells #[.string nm,.int .i64 c.k,.int .i64 c.i,.int .i64 c.s,.string c.t,.slice c.la c.ll c.lc,.slice c.fa c.fl c.fc] 208)).alloc (.cells #[.string nm2,.int .i64 c2.k,.int .i64 c2.i,.int .i64 c2.s,.string c2.t,.slice c2.la c2.ll c2.lc,.slice c2.fa c2.fl c2.fc] 208))):=hid (((bR w).alloc lr _).alloc (by simp) _)
 obtain⟨u,hu⟩:∃u,u=dJ d d2:=⟨_,rfl⟩
 have HV:Hid (∀w',Below ((w.alloc (.cells #[.string nm,.int .i64 c.k,.int .i64 c.i,.int .i64 c.s,.string c.t,.slice c.la c.ll c.lc,.slice c.fa c.fl c.fc] 208)).alloc (.cells #[.string nm2,.int .i64 c2.k,.int .i64 c2.i,.int .i64 c2.s,.string c2.t,.slice c2.la c2.ll c2.lc,.slice c2.fa c2.fl c2.fc] 208)).heap.size ((w.alloc (.cells #[.string nm,.int .i64 c.k,.int .i64 c.i,.int .i64 c.s,.string c.t,.slice c.la c.ll c.lc,.slice c.fa c.fl c.fc] 208)).alloc (.cells #[.string nm2,.int .i64 c2.k,.int .i64 c2.i,.int .i64 c2.s,.string c2.t,.slice c2.la c2.ll c2.lc,.slice c2.fa c2.fl c2.fc] 208)) w'→Calls Tryz.prog 106 #[.agg #[.int .i64 c.k,.int .i64 c.i,.int .i64 c.s,.string c.t,.slice c.la c.ll c.lc,.slice c.fa c.fl c.fc],.agg #[.int .i64 c2.k,.int .i64 c2.i,.int .i64 c2.s,.string c2.t,.slice c2.la c2.ll c2.lc,.slice c2.fa c2.fl c2.fc]] w' fun e w2=>e=.returned (.int .i64 u)∧Below w'.heap.size w' w2):=hid fun w' h=>by
  rw[hu]
  have hb:=HWB.out.trans (h.mono HWB.out.size)
  have hs:=hb.size
  exact ih d2 c c2 w' (hd.same fun b q=>⟨by omega,hb.block b q⟩) (hd2.same fun b q=>⟨by omega,hb.block b q⟩)
 have HC:Hid (∀w',Below ((w.alloc (.cells #[.string nm,.int .i64 c.k,.int .i64 c.i,.int .i64 c.s,.string c.t,.slice c.la c.ll c.lc,.slice c.fa c.fl c.fc] 208)).alloc (.cells #[.string nm2,.int .i64 c2.k,.int .i64 c2.i,.int .i64 c2.s,.string c2.t,.slice c2.la c2.ll c2.lc,.slice c2.fa c2.fl c2.fc] 208)).heap.size ((w.alloc (.cells #[.string nm,.int .i64 c.k,.int .i64 c.i,.int .i64 c.s,.string c.t,.slice c.la c.ll c.lc,.slice c.fa c.fl c.fc] 208)).alloc (.cells #[.string nm2,.int .i64 c2.k,.int .i64 c2.i,.int .i64 c2.s,.string c2.t,.slice c2.la c2.ll c2.lc,.slice c2.fa c2.fl c2.fc] 208)) w'→w'.cell? ⟨w.heap.size,0,none⟩=some (.string nm)∧w'.cell? ⟨w.heap.size,1,none⟩=some (.int .i64 c.k)∧w'.cell? ⟨w.heap.size,2,none⟩=some (.int .i64 c.i)∧w'.cell? ⟨w.heap.size,3,none⟩=some (.int .i64 c.s)∧w'.cell? ⟨w.heap.size,4,none⟩=some (.string c.t)∧w'.cell? ⟨w.heap.size,5,none⟩=some (.slice c.la c.ll c.lc)∧w'.cell? ⟨w.heap.size,6,none⟩=some (.slice c.fa c.fl c.fc)∧w'.cell? ⟨w.heap.size+1,0,none⟩=some (.string nm2)∧w'.cell? ⟨w.heap.size+1,1,none⟩=some (.int .i64 c2.k)∧w'.cell? ⟨w.heap.size+1,2,none⟩=some (.int .i64 c2.i)∧w'.cell? ⟨w.heap.size+1,3,none⟩=some (.int .i64 c2.s)∧w'.cell? ⟨w.heap.size+1,4,none⟩=some (.string c2.t)∧w'.cell? ⟨w.heap.size+1,5,none⟩=some (.slice c2.la c2.ll c2.lc)∧w'.cell? ⟨w.heap.size+1,6,none⟩=some (.slice c2.fa c2.fl c2.fc)):=hid fun w' h=>by
  have h1:w'.heap[w.heap.size]?=some (.cells #[.string nm,.int .i64 c.k,.int .i64 c.i,.int .i64 c.s,.string c.t,.slice c.la c.ll c.lc,.slice c.fa c.fl c.fc] 208 (0,0)):=aB h (aC _ (heap_alloc_new w _))
  have h2:w'.heap[w.heap.size+1]?=some (.cells #[.string nm2,.int .i64 c2.k,.int .i64 c2.i,.int .i64 c2.s,.string c2.t,.slice c2.la c2.ll c2.lc,.slice c2.fa c2.fl c2.fc] 208 (0,0)):=aB h (aM _ _ _ (by simp))
  exact⟨aA h1 0,aA h1 1,aA h1 2,aA h1 3,aA h1 4,aA h1 5,aA h1 6,aA h2 0,aA h2 1,aA h2 2,aA h2 3,aA h2 4,aA h2 5,aA h2 6⟩
 have R:=hid (show orL [Lib.compareBytes nm.data.toList nm2.data.toList,dJ d d2]=orL [Lib.compareBytes nm.data.toList nm2.data.toList,u] by rw[hu])
 clear hu hd hd2 ih
 go_enter Tryz.func173,Tryz.ntmps173
 go_upto_region 1 with (fail)
 refine aQ 12 (fun w'=>Below ((w.alloc (.cells #[.string nm,.int .i64 c.k,.int .i64 c.i,.int .i64 c.s,.string c.t,.slice c.la c.ll c.lc,.slice c.fa c.fl c.fc] 208)).alloc (.cells #[.string nm2,.int .i64 c2.k,.int .i64 c2.i,.int .i64 c2.s,.string c2.t,.slice c2.la c2.ll c2.lc,.slice c2.fa c2.fl c2.fc] 208)).heap.size ((w.alloc (.cells #[.string nm,.int .i64 c.k,.int .i64 c.i,.int .i64 c.s,.string c.t,.slice c.la c.ll c.lc,.slice c.fa c.fl c.fc] 208)).alloc (.cells #[.string nm2,.int .i64 c2.k,.int .i64 c2.i,.int .i64 c2.s,.string c2.t,.slice c2.la c2.ll c2.lc,.slice c2.fa c2.fl c2.fc] 208)) w') (by kernel_rfl) (by kernel_rfl) (by kernel_rfl) (by decide) ((Below.refl _ _).drew) (fun hS=>?_)
 simp only[zdm,zdn,zdp,zdq]
 refine tkQ 0 (v:=?_) ?_ hS ?_;rotate_left;· intro w' hw';have hcells:=HC.out w' hw';go_simp;(try rfl)
 simp only[Act.put,pr]
 refine tkQ 1 (v:=?_) ?_ hS ?_;rotate_left;· intro w' hw';have hcells:=HC.out w' hw';go_simp;(try rfl)
 simp only[Act.put,pr]
 refine tkQ 2 (v:=?_) ?_ hS ?_;rotate_left;· intro w' hw';have hcells:=HC.out w' hw';go_simp;(try rfl)
 simp only[Act.put,pr]
 refine tkQ 3 (v:=?_) ?_ hS ?_;rotate_left;· intro w' hw';have hcells:=HC.out w' hw';go_simp;(try rfl)
 simp only[Act.put,pr]
 refine tkQ 5 (v:=?_) ?_ hS ?_;rotate_left;· intro w' hw';have hcells:=HC.out w' hw';go_simp;(try rfl)
 simp only[Act.put,pr]
 refine tkQ 6 (v:=?_) ?_ hS ?_;rotate_left;· intro w' hw';have hcells:=HC.out w' hw';go_simp;(try rfl)
 simp only[Act.put,pr]
 refine tkQ 7 (v:=?_) ?_ hS ?_;rotate_left;· intro w' hw';have hcells:=HC.out w' hw';go_simp;(try rfl)
 simp only[Act.put,pr]
 refine tkQ 8 (v:=?_) ?_ hS ?_;rotate_left;· intro w' hw';have hcells:=HC.out w' hw';go_simp;(try rfl)
 simp only[Act.put,pr]
 refine ry [4] ?_
 refine arQ fun K hK=>?_
 go_simp;go_at_call 170;refine(Tryz.strings_Compare _ _ _).mono ?_
 rintro e w1 ⟨rfl,rfl⟩
 refine hK.out _ _ (hS) (fun hS=>?_)
 clear hK K
 (try simp only[Act.put,pr])
 refine ry [9] ?_
 refine arQ fun K hK=>?_
 go_simp;go_at_call 106;refine(HV.out _ hS).mono ?_
 rintro e w2 ⟨rfl,hb1⟩
 refine hK.out _ _ (hS.trans (hb1.mono hS.size)) (fun hS=>?_)
 clear hK K
 (try simp only[Act.put,pr])
 refine ry [10] ?_
 refine arQ fun K hK=>?_
 go_simp
 refine hK.out _ _ (hS.trans (((Below.refl _ _).alloc lr _).mono hS.size)) (fun hS=>?_)
 clear hK K
 (try simp only[Act.put,pr])
 refine ry [11] ?_
 refine arQ fun K hK=>?_
 go_simp;go_at_call 168;refine(xK [Lib.compareBytes nm.data.toList nm2.data.toList,u] w2 _ (by simp)).mono ?_
 rintro e w3 ⟨rfl,rfl⟩
 refine hK.out _ _ (hS) (fun hS=>?_)
 clear hK K
 (try simp only[Act.put,pr])
 refine wpAnyH_done (by kernel_rfl) ?_ _
 (try dsimp only)
 go_wp2
 go_ret
 exact⟨by rw[R.out];rfl,HWB.out.trans (hS.mono HWB.out.size)⟩
theorem yC (a a':Option Addr) (n c n' c':Nat) (l l':List Val) (w:World) (hlen:n=l.length) (hlen':n'=l'.length) (hbig:n * 88≤140737488351232) (hbig':n' * 88≤140737488351232) (hv:l=[]∨∃b o,a=some ⟨b,o,none⟩∧b<w.heap.size∧IsVals (· < w.heap.size) w b o l) (hv':l'=[]∨∃b o,a'=some ⟨b,o,none⟩∧b<w.heap.size∧IsVals (· < w.heap.size) w b o l')
 (ih:∀d∈l,∀(d2:Val) (c c2:VC) (w:World),IsVal (· < w.heap.size) w c d→IsVal (· < w.heap.size) w c2 d2→Calls Tryz.prog 106 #[c.v,c2.v] w fun e w'=>e=.returned (.int .i64 (dJ d d2))∧Below w.heap.size w w') :
 Calls Tryz.prog 171 #[.slice a n c,.slice a' n' c',.func (.func 106) #[] #[]] w fun e w'=>e=.returned (.int .i64 (fL l l'))∧Below w.heap.size w w':=by
 have hen:∀args w,(callFunc 106 args).run Tryz.prog w=.ok (.enter 106 args) w:=enters_of Tryz.func106 (by kernel_rfl) rfl
 have HL:=hid hlen
 have HL':=hid hlen'
 clear hlen hlen'
 go_enter Tryz.func171,Tryz.ntmps171
 go_wp2
 go_loopw [13] (fun i wr=>∃k:Nat,k≤n∧k≤n'∧i=.int .i64 k∧fL l l'=fL (l.drop k) (l'.drop k)∧Below w.heap.size w wr) (fun i _=>n-(intOf i).toNat)
 case atStart=>exact⟨0,Nat.zero_le _,Nat.zero_le _,rfl,rfl,Below.refl _ _⟩
 case round =>
  obtain⟨k,hk,hk',rfl,hall,hbel⟩:=hrel
  have HA:=hid hall
  clear hall
  have hsz:=hbel.size
  have hn63:(n:Int)≤9223372036854775807:=by omega
  have hn63':(n':Int)≤9223372036854775807:=by omega
  by_cases hlt:k<n
  ·have hkl:k<l.length:=by have:=HL.out;omega
   rcases hv with h0 | ⟨b,o,rfl,hb,hvs⟩
   ·exfalso;rw[h0] at hkl;simp at hkl
   obtain⟨x,hx,hxv⟩:=hvs.get k hkl
   obtain⟨hx0,hx1,hx2,hx3,hx4,hx5⟩:=hx.same (w':=wr) (hbel.block b hb)
   clear hx
   have hlt':(k:Int)<(n:Int):=by omega
   by_cases hlt2:k<n'
   ·have hkl':k<l'.length:=by have:=HL'.out;omega
    rcases hv' with h0 | ⟨b',o',rfl,hb',hvs'⟩
    ·exfalso;rw[h0] at hkl';simp at hkl'
    have hlt2':(k:Int)<(n':Int):=by omega
    obtain⟨wA,hwA⟩:∃wA,wA=wr.alloc (.cells #[.int .i64 x.k,.int .i64 x.i,.int .i64 x.s,.string x.t,.slice x.la x.ll x.lc,.slice x.fa x.fl x.fc] 66):=⟨_,rfl⟩
    have hbA:Below wr.heap.size wr wA:=by rw[hwA];exact(Below.refl _ wr).alloc lr _
    obtain⟨y,hy,hyv⟩:=hvs'.get k hkl'
    obtain⟨hy0,hy1,hy2,hy3,hy4,hy5⟩:=hy.same (w':=wA) ((hbA.block b' (by omega)).trans (hbel.block b' hb'))
    clear hy
    obtain⟨wB,hwB⟩:∃wB,wB=wA.alloc (.cells #[.int .i64 y.k,.int .i64 y.i,.int .i64 y.s,.string y.t,.slice y.la y.ll y.lc,.slice y.fa y.fl y.fc] 66):=⟨_,rfl⟩
    have hbB:Below wr.heap.size wr wB:=by rw[hwB];exact hbA.alloc hbA.size _
    have hszB:=hbB.size
    have hb3:wB.heap[wr.heap.size]?=some (.cells #[.int .i64 x.k,.int .i64 x.i,.int .i64 x.s,.string x.t,.slice x.la x.ll x.lc,.slice x.fa x.fl x.fc] 66 (0,0)):=by rw[hwB,hwA];exact aC _ (heap_alloc_new wr _)
    have hd:=yB l l' k hkl hkl'
    obtain⟨r,hr⟩:∃r,r=dJ l[k] l'[k]:=⟨_,rfl⟩
    rw[←hr] at hd
    have HD:=hid hd
    have hcc:=ih l[k] (List.getElem_mem hkl) l'[k] x y wB (hxv.same fun q hq=>⟨by omega,(hbB.block q (by omega)).trans (hbel.block q hq)⟩) (hyv.same fun q hq=>⟨by omega,(hbB.block q (by omega)).trans (hbel.block q hq)⟩)
    rw[←hr] at hcc
    rw[hwB,hwA] at hcc
    rw[hwA] at hy0 hy1 hy2 hy3 hy4 hy5
    rw[hwB,hwA] at hbB
    have HC:=hid hcc
    have HBB:=hid (hbel.trans (hbB.mono hbel.size))
    clear hr hd hcc hvs hvs' hxv hyv hwA hwB hbA hbB hb3 hszB
    by_cases h0:r=0
    ·subst h0
     go_wp2_with (go_at_call 106;refine HC.out.mono ?_;rintro e w4 ⟨rfl,hb4⟩)
     go_roundw
     case rel=>exact⟨k+1,by omega,by omega,by go_num,by rw[HA.out,HD.out,if_neg (by simp)],HBB.out.trans (hb4.mono HBB.out.size)⟩
     case measure=>simp[intOf];omega
    ·have H0:=hid h0
     go_wp2_with (go_at_call 106;refine HC.out.mono ?_;rintro e w4 ⟨rfl,hb4⟩)
     go_ret
     exact⟨by rw[HA.out,HD.out,if_pos H0.out];rfl,HBB.out.trans (hb4.mono HBB.out.size)⟩
   ·obtain rfl:k=n':=by omega
    have r:=hid (HA.out.trans (yA l l' k hkl HL'.out.symm))
    clear hvs hxv
    go_wp2
    go_ret
    exact⟨by rw[r.out];rfl,hbel.alloc (by omega) _⟩
  ·obtain rfl:k=n:=by omega
   by_cases hlt2:k<n'
   ·have hlt2':(k:Int)<(n':Int):=by omega
    have r:=hid (HA.out.trans (uX l l' k HL.out.symm (by have:=HL'.out;omega)))
    go_wp2
    go_ret
    exact⟨by rw[r.out];rfl,hbel⟩
   ·obtain rfl:k=n':=by omega
    have r:=hid (HA.out.trans (aAz l l' k HL.out.symm HL'.out.symm))
    go_wp2
    go_ret
    exact⟨by rw[r.out];rfl,hbel⟩
theorem yH (a a':Option Addr) (n c n' c':Nat) (ns ns':List ByteArray) (l l':List Val) (w:World) (hlen:n=l.length) (hlen':n'=l'.length) (hns:ns.length=l.length) (hns':ns'.length=l'.length) (hbig:n * 104≤140737488351232) (hbig':n' * 104≤140737488351232) (hv:l=[]∨∃b o,a=some ⟨b,o,none⟩∧b<w.heap.size∧IsFlds (· < w.heap.size) w b o ns l) (hv':l'=[]∨∃b o,a'=some ⟨b,o,none⟩∧b<w.heap.size∧IsFlds (· < w.heap.size) w b o ns' l')
 (ih:∀d∈l,∀(d2:Val) (c c2:VC) (w:World),IsVal (· < w.heap.size) w c d→IsVal (· < w.heap.size) w c2 d2→Calls Tryz.prog 106 #[c.v,c2.v] w fun e w'=>e=.returned (.int .i64 (dJ d d2))∧Below w.heap.size w w') :
 Calls Tryz.prog 172 #[.slice a n c,.slice a' n' c',.func (.func 173) #[] #[]] w fun e w'=>e=.returned (.int .i64 (fM ns l ns' l'))∧Below w.heap.size w w':=by
 have hen:∀args w,(callFunc 173 args).run Tryz.prog w=.ok (.enter 173 args) w:=enters_of Tryz.func173 (by kernel_rfl) rfl
 have HL:=hid hlen
 have HL':=hid hlen'
 clear hlen hlen'
 have HN:=hid hns
 have HN':=hid hns'
 clear hns hns'
 go_enter Tryz.func172,Tryz.ntmps172
 go_wp2
 go_loopw [13] (fun i wr=>∃k:Nat,k≤n∧k≤n'∧i=.int .i64 k∧fM ns l ns' l'=fM (ns.drop k) (l.drop k) (ns'.drop k) (l'.drop k)∧Below w.heap.size w wr) (fun i _=>n-(intOf i).toNat)
 case atStart=>exact⟨0,Nat.zero_le _,Nat.zero_le _,rfl,rfl,Below.refl _ _⟩
 case round =>
  obtain⟨k,hk,hk',rfl,hall,hbel⟩:=hrel
  have HA:=hid hall
  clear hall
  have hsz:=hbel.size
  have hn63:(n:Int)≤9223372036854775807:=by omega
  have hn63':(n':Int)≤9223372036854775807:=by omega
  by_cases hlt:k<n
  ·have hkl:k<l.length:=by have:=HL.out;omega
   rcases hv with h0 | ⟨b,o,rfl,hb,hvs⟩
   ·exfalso;rw[h0] at hkl;simp at hkl
   have hkn:k<ns.length:=by have:=HN.out;omega
   obtain⟨⟨hn1,_⟩,x,hx,hxv⟩:=hvs.get HN.out k hkl hkn
   obtain⟨nx,hnx⟩:∃nx,nx=ns[k]:=⟨_,rfl⟩
   rw[←hnx] at hn1
   have hn1':wr.cell? ⟨b,o+k * 7,none⟩=some (.string nx):=(World.cell?_of_block (w:=w) (a:=⟨b,o+k * 7,none⟩) (hbel.block b hb)).trans hn1
   clear hn1
   obtain⟨hx0,hx1,hx2,hx3,hx4,hx5⟩:=hx.same (w':=wr) (hbel.block b hb)
   clear hx
   have hlt':(k:Int)<(n:Int):=by omega
   by_cases hlt2:k<n'
   ·have hkl':k<l'.length:=by have:=HL'.out;omega
    rcases hv' with h0 | ⟨b',o',rfl,hb',hvs'⟩
    ·exfalso;rw[h0] at hkl';simp at hkl'
    have hlt2':(k:Int)<(n':Int):=by omega
    obtain⟨wA,hwA⟩:∃wA,wA=wr.alloc (.cells #[.string nx,.int .i64 x.k,.int .i64 x.i,.int .i64 x.s,.string x.t,.slice x.la x.ll x.lc,.slice x.fa x.fl x.fc] 208):=⟨_,rfl⟩
    have hbA:Below wr.heap.size wr wA:=by rw[hwA];exact(Below.refl _ wr).alloc lr _
    have hkn':k<ns'.length:=by have:=HN'.out;omega
    obtain⟨⟨hn2,_⟩,y,hy,hyv⟩:=hvs'.get HN'.out k hkl' hkn'
    obtain⟨ny,hny⟩:∃ny,ny=ns'[k]:=⟨_,rfl⟩
    rw[←hny] at hn2
    have hn2':wA.cell? ⟨b',o'+k * 7,none⟩=some (.string ny):=(World.cell?_of_block (w:=w) (a:=⟨b',o'+k * 7,none⟩) ((hbA.block b' (by omega)).trans (hbel.block b' hb'))).trans hn2
    clear hn2
    obtain⟨hy0,hy1,hy2,hy3,hy4,hy5⟩:=hy.same (w':=wA) ((hbA.block b' (by omega)).trans (hbel.block b' hb'))
    clear hy
    obtain⟨wB,hwB⟩:∃wB,wB=wA.alloc (.cells #[.string ny,.int .i64 y.k,.int .i64 y.i,.int .i64 y.s,.string y.t,.slice y.la y.ll y.lc,.slice y.fa y.fl y.fc] 208):=⟨_,rfl⟩
    have hbB:Below wr.heap.size wr wB:=by rw[hwB];exact hbA.alloc hbA.size _
    have hszB:=hbB.size
    have hb3:wB.heap[wr.heap.size]?=some (.cells #[.string nx,.int .i64 x.k,.int .i64 x.i,.int .i64 x.s,.string x.t,.slice x.la x.ll x.lc,.slice x.fa x.fl x.fc] 208 (0,0)):=by rw[hwB,hwA];exact aC _ (heap_alloc_new wr _)
    have hd:=yG ns ns' l l' k hkl hkl' hkn hkn'
    rw[←hnx,←hny] at hd
    obtain⟨r,hr⟩:∃r,r=orL [Lib.compareBytes nx.data.toList ny.data.toList,dJ l[k] l'[k]]:=⟨_,rfl⟩
    rw[←hr] at hd
    have HD:=hid hd
    have hcc:=aD2 nx ny l[k] l'[k] (ih l[k] (List.getElem_mem hkl)) x y wB (hxv.same fun q hq=>⟨by omega,(hbB.block q (by omega)).trans (hbel.block q hq)⟩) (hyv.same fun q hq=>⟨by omega,(hbB.block q (by omega)).trans (hbel.block q hq)⟩)
    rw[←hr] at hcc
    rw[hwB,hwA] at hcc
    rw[hwA] at hy0 hy1 hy2 hy3 hy4 hy5 hn2'
    rw[hwB,hwA] at hbB
    have HC:=hid hcc
    have HBB:=hid (hbel.trans (hbB.mono hbel.size))
    clear hr hd hcc hvs hvs' hxv hyv hwA hwB hbA hbB hb3 hszB hnx hny
    by_cases h0:r=0
    ·subst h0
     go_wp2_with (go_at_call 173;refine HC.out.mono ?_;rintro e w4 ⟨rfl,hb4⟩)
     go_roundw
     case rel=>exact⟨k+1,by omega,by omega,by go_num,by rw[HA.out,HD.out,if_neg (by simp)],HBB.out.trans (hb4.mono HBB.out.size)⟩
     case measure=>simp[intOf];omega
    ·have H0:=hid h0
     go_wp2_with (go_at_call 173;refine HC.out.mono ?_;rintro e w4 ⟨rfl,hb4⟩)
     go_ret
     exact⟨by rw[HA.out,HD.out,if_pos H0.out];rfl,HBB.out.trans (hb4.mono HBB.out.size)⟩
   ·obtain rfl:k=n':=by omega
    have r:=hid (HA.out.trans (yF ns ns' l l' k hkl HL'.out.symm))
    clear hvs hxv
    go_wp2
    go_ret
    exact⟨by rw[r.out];rfl,hbel.alloc (by omega) _⟩
  ·obtain rfl:k=n:=by omega
   by_cases hlt2:k<n'
   ·have hlt2':(k:Int)<(n':Int):=by omega
    have r:=hid (HA.out.trans (uZ ns ns' l l' k HL.out.symm (by have:=HL'.out;omega)))
    go_wp2
    go_ret
    exact⟨by rw[r.out];rfl,hbel⟩
   ·obtain rfl:k=n':=by omega
    have r:=hid (HA.out.trans (aB2 ns ns' l l' k HL.out.symm HL'.out.symm))
    go_wp2
    go_ret
    exact⟨by rw[r.out];rfl,hbel⟩
theorem aDg (d d2:Val) (ihl:∀d'∈(match d with | .mk _ _ _ _ l _ _=>l),∀(d2:Val) (c c2:VC) (w:World),IsVal (· < w.heap.size) w c d'→IsVal (· < w.heap.size) w c2 d2→Calls Tryz.prog 106 #[c.v,c2.v] w fun e w'=>e=.returned (.int .i64 (dJ d' d2))∧Below w.heap.size w w')
 (ihf:∀d'∈(match d with | .mk _ _ _ _ _ _ fs=>fs),∀(d2:Val) (c c2:VC) (w:World),IsVal (· < w.heap.size) w c d'→IsVal (· < w.heap.size) w c2 d2→Calls Tryz.prog 106 #[c.v,c2.v] w fun e w'=>e=.returned (.int .i64 (dJ d' d2))∧Below w.heap.size w w')
 (c c2:VC) (w:World) (hd:IsVal (· < w.heap.size) w c d) (hd2:IsVal (· < w.heap.size) w c2 d2) :
 Calls Tryz.prog 106 #[c.v,c2.v] w fun e w'=>e=.returned (.int .i64 (dJ d d2))∧Below w.heap.size w w':=by
 obtain⟨k,i,s,t,l,ns,fs⟩:=d
 obtain⟨k',i',s',t',l',ns',fs'⟩:=d2
 dsimp only at ihl ihf
 have HWB:Hid (Below w.heap.size w ((w.alloc (.cells #[.int .i64 c.k,.int .i64 c.i,.int .i64 c.s,.string c.t,.slice c.la c.ll c.lc,.slice c.fa c.fl c.fc] 66)).alloc (.cells #[.int .i64 c2.k,.int .i64 c2.i,.int .i64 c2.s,.string c2.t,.slice c2.la c2.ll c2.lc,.slice c2.fa c2.fl c2.fc] 66))):=hid (((bR w).alloc lr _).alloc (by simp) _)
 obtain⟨u,hu⟩:∃u,u=fL l l':=⟨_,rfl⟩
 obtain⟨u',hu'⟩:∃u',u'=fM ns fs ns' fs':=⟨_,rfl⟩
 have R:Hid (dJ (.mk k i s t l ns fs) (.mk k' i' s' t' l' ns' fs')=orL [Lib.compareInt c.k c2.k,Lib.compareInt c.i c2.i,Lib.compareInt c.s c2.s,Lib.compareBytes c.t.data.toList c2.t.data.toList,u,u']):=by
  obtain⟨⟨h1,h2,h3,h4,_⟩,_⟩:=hd
  obtain⟨⟨g1,g2,g3,g4,_⟩,_⟩:=hd2
  exact hid (by rw[dJ,h1,h2,h3,h4,g1,g2,g3,g4,hu,hu'])
 have HV:Hid (∀w',Below ((w.alloc (.cells #[.int .i64 c.k,.int .i64 c.i,.int .i64 c.s,.string c.t,.slice c.la c.ll c.lc,.slice c.fa c.fl c.fc] 66)).alloc (.cells #[.int .i64 c2.k,.int .i64 c2.i,.int .i64 c2.s,.string c2.t,.slice c2.la c2.ll c2.lc,.slice c2.fa c2.fl c2.fc] 66)).heap.size ((w.alloc (.cells #[.int .i64 c.k,.int .i64 c.i,.int .i64 c.s,.string c.t,.slice c.la c.ll c.lc,.slice c.fa c.fl c.fc] 66)).alloc (.cells #[.int .i64 c2.k,.int .i64 c2.i,.int .i64 c2.s,.string c2.t,.slice c2.la c2.ll c2.lc,.slice c2.fa c2.fl c2.fc] 66)) w'→Calls Tryz.prog 171 #[.slice c.la c.ll c.lc,.slice c2.la c2.ll c2.lc,.func (.func 106) #[] #[]] w' fun e w2=>e=.returned (.int .i64 u)∧Below w'.heap.size w' w2):=hid fun w' h=>by
  rw[hu]
  have hb:=HWB.out.trans (h.mono HWB.out.size)
  have hs:=hb.size
  obtain⟨⟨_,_,_,_,ok,hll,_⟩,hv,_⟩:=(hd.same fun b q=>⟨by omega,hb.block b q⟩:IsVal (· < w'.heap.size) w' c _)
  obtain⟨⟨_,_,_,_,ok2,hll2,_⟩,hv2,_⟩:=(hd2.same fun b q=>⟨by omega,hb.block b q⟩:IsVal (· < w'.heap.size) w' c2 _)
  exact yC _ _ _ _ _ _ l l' w' hll hll2 ok.l ok2.l hv hv2 ihl
 have HF:Hid (∀w',Below ((w.alloc (.cells #[.int .i64 c.k,.int .i64 c.i,.int .i64 c.s,.string c.t,.slice c.la c.ll c.lc,.slice c.fa c.fl c.fc] 66)).alloc (.cells #[.int .i64 c2.k,.int .i64 c2.i,.int .i64 c2.s,.string c2.t,.slice c2.la c2.ll c2.lc,.slice c2.fa c2.fl c2.fc] 66)).heap.size ((w.alloc (.cells #[.int .i64 c.k,.int .i64 c.i,.int .i64 c.s,.string c.t,.slice c.la c.ll c.lc,.slice c.fa c.fl c.fc] 66)).alloc (.cells #[.int .i64 c2.k,.int .i64 c2.i,.int .i64 c2.s,.string c2.t,.slice c2.la c2.ll c2.lc,.slice c2.fa c2.fl c2.fc] 66)) w'→Calls Tryz.prog 172 #[.slice c.fa c.fl c.fc,.slice c2.fa c2.fl c2.fc,.func (.func 173) #[] #[]] w' fun e w2=>e=.returned (.int .i64 u')∧Below w'.heap.size w' w2):=hid fun w' h=>by
  rw[hu']
  have hb:=HWB.out.trans (h.mono HWB.out.size)
  have hs:=hb.size
  obtain⟨⟨_,_,_,_,ok,_,hfl,hns⟩,_,hf⟩:=(hd.same fun b q=>⟨by omega,hb.block b q⟩:IsVal (· < w'.heap.size) w' c _)
  obtain⟨⟨_,_,_,_,ok2,_,hfl2,hns2⟩,_,hf2⟩:=(hd2.same fun b q=>⟨by omega,hb.block b q⟩:IsVal (· < w'.heap.size) w' c2 _)
  exact yH _ _ _ _ _ _ ns ns' fs fs' w' hfl hfl2 hns hns2 ok.f ok2.f hf hf2 ihf
 have HC:Hid (∀w',Below ((w.alloc (.cells #[.int .i64 c.k,.int .i64 c.i,.int .i64 c.s,.string c.t,.slice c.la c.ll c.lc,.slice c.fa c.fl c.fc] 66)).alloc (.cells #[.int .i64 c2.k,.int .i64 c2.i,.int .i64 c2.s,.string c2.t,.slice c2.la c2.ll c2.lc,.slice c2.fa c2.fl c2.fc] 66)).heap.size ((w.alloc (.cells #[.int .i64 c.k,.int .i64 c.i,.int .i64 c.s,.string c.t,.slice c.la c.ll c.lc,.slice c.fa c.fl c.fc] 66)).alloc (.cells #[.int .i64 c2.k,.int .i64 c2.i,.int .i64 c2.s,.string c2.t,.slice c2.la c2.ll c2.lc,.slice c2.fa c2.fl c2.fc] 66)) w'→w'.cell? ⟨w.heap.size,0,none⟩=some (.int .i64 c.k)∧w'.cell? ⟨w.heap.size,1,none⟩=some (.int .i64 c.i)∧w'.cell? ⟨w.heap.size,2,none⟩=some (.int .i64 c.s)∧w'.cell? ⟨w.heap.size,3,none⟩=some (.string c.t)∧w'.cell? ⟨w.heap.size,4,none⟩=some (.slice c.la c.ll c.lc)∧w'.cell? ⟨w.heap.size,5,none⟩=some (.slice c.fa c.fl c.fc)∧w'.cell? ⟨w.heap.size+1,0,none⟩=some (.int .i64 c2.k)∧w'.cell? ⟨w.heap.size+1,1,none⟩=some (.int .i64 c2.i)∧w'.cell? ⟨w.heap.size+1,2,none⟩=some (.int .i64 c2.s)∧w'.cell? ⟨w.heap.size+1,3,none⟩=some (.string c2.t)∧w'.cell? ⟨w.heap.size+1,4,none⟩=some (.slice c2.la c2.ll c2.lc)∧w'.cell? ⟨w.heap.size+1,5,none⟩=some (.slice c2.fa c2.fl c2.fc)):=hid fun w' h=>by
  have h1:w'.heap[w.heap.size]?=some (.cells #[.int .i64 c.k,.int .i64 c.i,.int .i64 c.s,.string c.t,.slice c.la c.ll c.lc,.slice c.fa c.fl c.fc] 66 (0,0)):=aB h (aC _ (heap_alloc_new w _))
  have h2:w'.heap[w.heap.size+1]?=some (.cells #[.int .i64 c2.k,.int .i64 c2.i,.int .i64 c2.s,.string c2.t,.slice c2.la c2.ll c2.lc,.slice c2.fa c2.fl c2.fc] 66 (0,0)):=aB h (aM _ _ _ (by simp))
  exact⟨aA h1 0,aA h1 1,aA h1 2,aA h1 3,aA h1 4,aA h1 5,aA h2 0,aA h2 1,aA h2 2,aA h2 3,aA h2 4,aA h2 5⟩
 clear hu hu' hd hd2 ihl ihf
 go_enter Tryz.func106,Tryz.ntmps106
 go_upto_region 1 with (fail)
 refine aQ 32 (fun w'=>Below ((w.alloc (.cells #[.int .i64 c.k,.int .i64 c.i,.int .i64 c.s,.string c.t,.slice c.la c.ll c.lc,.slice c.fa c.fl c.fc] 66)).alloc (.cells #[.int .i64 c2.k,.int .i64 c2.i,.int .i64 c2.s,.string c2.t,.slice c2.la c2.ll c2.lc,.slice c2.fa c2.fl c2.fc] 66)).heap.size ((w.alloc (.cells #[.int .i64 c.k,.int .i64 c.i,.int .i64 c.s,.string c.t,.slice c.la c.ll c.lc,.slice c.fa c.fl c.fc] 66)).alloc (.cells #[.int .i64 c2.k,.int .i64 c2.i,.int .i64 c2.s,.string c2.t,.slice c2.la c2.ll c2.lc,.slice c2.fa c2.fl c2.fc] 66)) w') (by kernel_rfl) (by kernel_rfl) (by kernel_rfl) (by decide) ((Below.refl _ _).drew) (fun hS=>?_)
 simp only[zdm,zdn,zdp,zdq]
 refine tkQ 0 (v:=?_) ?_ hS ?_;rotate_left;· intro w' hw';have hcells:=HC.out w' hw';go_simp;(try rfl)
 simp only[Act.put,pr]
 refine tkQ 1 (v:=?_) ?_ hS ?_;rotate_left;· intro w' hw';have hcells:=HC.out w' hw';go_simp;(try rfl)
 simp only[Act.put,pr]
 refine tkQ 2 (v:=?_) ?_ hS ?_;rotate_left;· intro w' hw';have hcells:=HC.out w' hw';go_simp;(try rfl)
 simp only[Act.put,pr]
 refine tkQ 3 (v:=?_) ?_ hS ?_;rotate_left;· intro w' hw';have hcells:=HC.out w' hw';go_simp;(try rfl)
 simp only[Act.put,pr]
 refine tkQ 5 (v:=?_) ?_ hS ?_;rotate_left;· intro w' hw';have hcells:=HC.out w' hw';go_simp;(try rfl)
 simp only[Act.put,pr]
 refine tkQ 6 (v:=?_) ?_ hS ?_;rotate_left;· intro w' hw';have hcells:=HC.out w' hw';go_simp;(try rfl)
 simp only[Act.put,pr]
 refine tkQ 7 (v:=?_) ?_ hS ?_;rotate_left;· intro w' hw';have hcells:=HC.out w' hw';go_simp;(try rfl)
 simp only[Act.put,pr]
 refine tkQ 8 (v:=?_) ?_ hS ?_;rotate_left;· intro w' hw';have hcells:=HC.out w' hw';go_simp;(try rfl)
 simp only[Act.put,pr]
 refine tkQ 10 (v:=?_) ?_ hS ?_;rotate_left;· intro w' hw';have hcells:=HC.out w' hw';go_simp;(try rfl)
 simp only[Act.put,pr]
 refine tkQ 11 (v:=?_) ?_ hS ?_;rotate_left;· intro w' hw';have hcells:=HC.out w' hw';go_simp;(try rfl)
 simp only[Act.put,pr]
 refine tkQ 12 (v:=?_) ?_ hS ?_;rotate_left;· intro w' hw';have hcells:=HC.out w' hw';go_simp;(try rfl)
 simp only[Act.put,pr]
 refine tkQ 13 (v:=?_) ?_ hS ?_;rotate_left;· intro w' hw';have hcells:=HC.out w' hw';go_simp;(try rfl)
 simp only[Act.put,pr]
 refine tkQ 15 (v:=?_) ?_ hS ?_;rotate_left;· intro w' hw';have hcells:=HC.out w' hw';go_simp;(try rfl)
 simp only[Act.put,pr]
 refine tkQ 16 (v:=?_) ?_ hS ?_;rotate_left;· intro w' hw';have hcells:=HC.out w' hw';go_simp;(try rfl)
 simp only[Act.put,pr]
 refine tkQ 17 (v:=?_) ?_ hS ?_;rotate_left;· intro w' hw';have hcells:=HC.out w' hw';go_simp;(try rfl)
 simp only[Act.put,pr]
 refine tkQ 18 (v:=?_) ?_ hS ?_;rotate_left;· intro w' hw';have hcells:=HC.out w' hw';go_simp;(try rfl)
 simp only[Act.put,pr]
 refine tkQ 20 (v:=?_) ?_ hS ?_;rotate_left;· intro w' hw';have hcells:=HC.out w' hw';go_simp;(try rfl)
 simp only[Act.put,pr]
 refine tkQ 21 (v:=?_) ?_ hS ?_;rotate_left;· intro w' hw';have hcells:=HC.out w' hw';go_simp;(try rfl)
 simp only[Act.put,pr]
 refine tkQ 22 (v:=?_) ?_ hS ?_;rotate_left;· intro w' hw';have hcells:=HC.out w' hw';go_simp;(try rfl)
 simp only[Act.put,pr]
 refine tkQ 23 (v:=?_) ?_ hS ?_;rotate_left;· intro w' hw';have hcells:=HC.out w' hw';go_simp;(try rfl)
 simp only[Act.put,pr]
 refine tkQ 25 (v:=?_) ?_ hS ?_;rotate_left;· intro w' hw';have hcells:=HC.out w' hw';go_simp;(try rfl)
 simp only[Act.put,pr]
 refine tkQ 26 (v:=?_) ?_ hS ?_;rotate_left;· intro w' hw';have hcells:=HC.out w' hw';go_simp;(try rfl)
 simp only[Act.put,pr]
 refine tkQ 27 (v:=?_) ?_ hS ?_;rotate_left;· intro w' hw';have hcells:=HC.out w' hw';go_simp;(try rfl)
 simp only[Act.put,pr]
 refine tkQ 28 (v:=?_) ?_ hS ?_;rotate_left;· intro w' hw';have hcells:=HC.out w' hw';go_simp;(try rfl)
 simp only[Act.put,pr]
 refine ry [4] ?_
 refine arQ fun K hK=>?_
 go_simp;go_at_call 169;refine(Tryz.cmp_Compare_int _ _ _).mono ?_
 rintro e w1 ⟨rfl,rfl⟩
 refine hK.out _ _ (hS) (fun hS=>?_)
 clear hK K
 (try simp only[Act.put,pr])
 refine ry [9] ?_
 refine arQ fun K hK=>?_
 go_simp;go_at_call 169;refine(Tryz.cmp_Compare_int _ _ _).mono ?_
 rintro e w1 ⟨rfl,rfl⟩
 refine hK.out _ _ (hS) (fun hS=>?_)
 clear hK K
 (try simp only[Act.put,pr])
 refine ry [14] ?_
 refine arQ fun K hK=>?_
 go_simp;go_at_call 169;refine(Tryz.cmp_Compare_int _ _ _).mono ?_
 rintro e w1 ⟨rfl,rfl⟩
 refine hK.out _ _ (hS) (fun hS=>?_)
 clear hK K
 (try simp only[Act.put,pr])
 refine ry [19] ?_
 refine arQ fun K hK=>?_
 go_simp;go_at_call 170;refine(Tryz.strings_Compare _ _ _).mono ?_
 rintro e w1 ⟨rfl,rfl⟩
 refine hK.out _ _ (hS) (fun hS=>?_)
 clear hK K
 (try simp only[Act.put,pr])
 refine ry [24] ?_
 refine arQ fun K hK=>?_
 go_simp;go_at_call 171;refine(HV.out _ hS).mono ?_
 rintro e w1 ⟨rfl,hb1⟩
 refine hK.out _ _ (hS.trans (hb1.mono hS.size)) (fun hS=>?_)
 clear hK K
 (try simp only[Act.put,pr])
 refine ry [29] ?_
 refine arQ fun K hK=>?_
 go_simp;go_at_call 172;refine(HF.out _ hS).mono ?_
 rintro e w2 ⟨rfl,hb1⟩
 refine hK.out _ _ (hS.trans (hb1.mono hS.size)) (fun hS=>?_)
 clear hK K
 (try simp only[Act.put,pr])
 refine ry [30] ?_
 refine arQ fun K hK=>?_
 go_simp
 refine hK.out _ _ (hS.trans (((Below.refl _ _).alloc lr _).mono hS.size)) (fun hS=>?_)
 clear hK K
 (try simp only[Act.put,pr])
 refine ry [31] ?_
 refine arQ fun K hK=>?_
 go_simp;go_at_call 168;refine(xK [Lib.compareInt c.k c2.k,Lib.compareInt c.i c2.i,Lib.compareInt c.s c2.s,Lib.compareBytes c.t.data.toList c2.t.data.toList,u,u'] w2 _ (by simp)).mono ?_
 rintro e w3 ⟨rfl,rfl⟩
 refine hK.out _ _ (hS) (fun hS=>?_)
 clear hK K
 (try simp only[Act.put,pr])
 refine wpAnyH_done (by kernel_rfl) ?_ _
 (try dsimp only)
 go_wp2
 go_ret
 exact⟨by rw[R.out];rfl,HWB.out.trans (hS.mono HWB.out.size)⟩
theorem aDh:∀(z:Nat) (d:Val),Val.sz d≤z→∀(d2:Val) (c c2:VC) (w:World),IsVal (· < w.heap.size) w c d→IsVal (· < w.heap.size) w c2 d2→Calls Tryz.prog 106 #[c.v,c2.v] w fun e w'=>e=.returned (.int .i64 (dJ d d2))∧Below w.heap.size w w':=by
 intro z
 induction z with
 | zero=>intro d hz;obtain⟨k,i,s,t,l,ns,fs⟩:=d;simp[Val.sz] at hz
 | succ z ih =>
   intro d hz d2 c c2 w hd hd2
   obtain⟨k,i,s,t,l,ns,fs⟩:=d
   simp only[Val.sz] at hz
   have sub:∀(r:List Val),Val.szs r≤z→∀d'∈r,Val.sz d'≤z:=fun r hr d' hm=>by
    obtain⟨j,hj,rfl⟩:=List.getElem_of_mem hm
    exact Nat.le_trans (Val.szs_get r j hj) hr
   exact aDg (.mk k i s t l ns fs) d2 (fun d' hm=>ih d' (sub l (by omega) d' hm)) (fun d' hm=>ih d' (sub fs (by omega) d' hm)) c c2 w hd hd2
theorem iP (c c2:VC) (d d2:Val) (w:World) (hd:IsVal (· < w.heap.size) w c d) (hd2:IsVal (· < w.heap.size) w c2 d2):Calls Tryz.prog 106 #[c.v,c2.v] w fun e w'=>e=.returned (.int .i64 (dJ d d2))∧Below w.heap.size w w' :=
 aDh _ d lr d2 c c2 w hd hd2
end
end Go.Proofs.YteladbdfiannjaaGreatDoor
