/- A part. -/
import Derived.Test.YtmgpghoamapfgaaGreatDoorST3Mrg
import Derived.Sort.CutIn
namespace Go.Proofs.YtmgpghoamapfgaaGreatDoor
set_option linter.unusedVariables false
set_option maxRecDepth 100000
set_option maxHeartbeats 16000000
set_option linter.unusedSimpArgs false
section
open Go Go.RowKit Go.Shelf
def orL:List Int->Int
 | []=>0
 | x :: r=>if x≠0 then x else orL r
theorem aM7 (xs:List Int) (k:Nat) (h:k<xs.length):orL (xs.drop k)=if xs[k]≠0 then xs[k] else orL (xs.drop (k+1)):=by
 rw[List.drop_eq_getElem_cons h,orL]
theorem or_call (a:Option Addr) (n c:Nat) (xs:List Int) (w:World) (hlen:n=xs.length) (hbig:n * 8<=140737488351232) (hsl:0<n->∃b o,a=some ⟨b,o,none⟩/\∀(j:Nat) (h:j<xs.length),w.cell? ⟨b,o+j,none⟩=some (I6 xs[j])):CP 121 #[.slice a n c] w fun e w'=>e=.returned (I6 (orL xs))/\w=w':=by
 have HL:=hid hlen;have HXX:=hid hsl;clear hlen hsl;go_enter Tryz.func121,Tryz.ntmps121
 go_wp2
 go_loop [8] (fun i=>∃k:Nat,k<=n/\i=I6 k/\orL xs=orL (xs.drop k)) (fun i=>n-(intOf i).toNat)
 case atStart=>exact⟨0,Nat.zero_le _,rfl,rfl⟩
 case round =>
  obtain⟨k,hk,rfl,hall⟩:=hrel;have HA:=hid hall;clear hall;by_cases hlt:k<n
  ·obtain⟨b,o,rfl,hc⟩:=HXX.out (show 0<n by omega);have hkl:k<xs.length:=by have:=HL.out;omega
   have hck:=hc k hkl;clear hc;have hlt':(k:Int)<(n:Int):=by omega
   have hn63:(n:Int)<=9223372036854775807:=by omega
   have hd:=aM7 xs k hkl;obtain⟨z,hz⟩:=ez (xs[k])
   rw[<-hz] at hck hd;have HD:=hid hd;clear hz hd;by_cases h0:z=0
   ·subst h0;go_wp2
    go_round
    case rel=>exact⟨k+1,by omega,by go_num,by rw[HA.out,HD.out,if_neg gd]⟩
    case measure=>simp[intOf];omega
   ·have H0:=hid h0;go_wp2;go_ret;exact⟨by rw[HA.out,HD.out,if_pos H0.out];rfl,rfl⟩
  ·obtain rfl:k=n:=by omega
   go_wp2;go_ret;exact⟨by rw[HA.out,HL.out,List.drop_length];rfl,rfl⟩
theorem aGo (xs:List Int) (w:World) (t:TypeId) (hbig:xs.length * 8<=140737488351232):CP 121 #[.slice (some ⟨w.heap.size,0,none⟩) xs.length xs.length] (w.alloc (.cells (xs.map (Value.int .i64)).toArray t)) fun e w'=>e=.returned (I6 (orL xs))/\w.alloc (.cells (xs.map (Value.int .i64)).toArray t)=w' :=
 or_call _ _ _ xs _ rfl hbig fun _=>⟨_,_,rfl,fun j hj=>by rw[aA (heap_alloc_new w _)];simp[hj]⟩
def kH:List Int->List Int->Int
 | [],[]=>0
 | [],_ :: _ => -1
 | _ :: _,[]=>1
 | x :: r,y :: s=>if Lib.compareInt x y≠0 then Lib.compareInt x y else kH r s
theorem aKx (xs ys:List Int) (k:Nat) (h:k<xs.length) (h2:k<ys.length):kH (xs.drop k) (ys.drop k)=if Lib.compareInt xs[k] ys[k]≠0 then Lib.compareInt xs[k] ys[k] else kH (xs.drop (k+1)) (ys.drop (k+1)):=by
 rw[List.drop_eq_getElem_cons h,List.drop_eq_getElem_cons h2,kH]
theorem aKw (xs ys:List Int) (k:Nat) (h:k<xs.length) (h2:ys.length=k):kH (xs.drop k) (ys.drop k)=1:=by
 subst h2;rw[List.drop_eq_getElem_cons h,List.drop_length,kH]
theorem aHh (xs ys:List Int) (k:Nat) (h:xs.length=k) (h2:k<ys.length):kH (xs.drop k) (ys.drop k) = -1:=by
 subst h;rw[List.drop_eq_getElem_cons h2,List.drop_length,kH]
theorem aNh (xs ys:List Int) (k:Nat) (h:xs.length=k) (h2:ys.length=k):kH (xs.drop k) (ys.drop k)=0:=by
 subst h;rw[<-h2,List.drop_length,h2,List.drop_length,kH]
end
section
open Go Go.RowKit Go.Shelf
mutual
def cN:Val->Val->Int
 | .mk k i s t l ns fs,.mk k' i' s' t' l' ns' fs'=>orL [Lib.compareInt k k',Lib.compareInt i i',Lib.compareInt s s',Lib.compareBytes t.data.toList t'.data.toList,eO l l',eE ns fs ns' fs']
def eO:List Val->List Val->Int
 | [],[]=>0
 | [],_ :: _ => -1
 | _ :: _,[]=>1
 | d :: l,d' :: l'=>if cN d d'≠0 then cN d d' else eO l l'
def eE (ns:List ByteArray):List Val->List ByteArray->List Val->Int
 | [],_,[]=>0
 | [],_,_ :: _ => -1
 | _ :: _,_,[]=>1
 | d :: l,ns',d' :: l'=>if orL [Lib.compareBytes (ns.headD ByteArray.empty).data.toList (ns'.headD ByteArray.empty).data.toList,cN d d']≠0 then orL [Lib.compareBytes (ns.headD ByteArray.empty).data.toList (ns'.headD ByteArray.empty).data.toList,cN d d'] else eE ns.tail l ns'.tail l'
end
theorem aHd (l l':List Val) (k:Nat) (h:k<l.length) (h2:k<l'.length):eO (l.drop k) (l'.drop k)=if cN l[k] l'[k]≠0 then cN l[k] l'[k] else eO (l.drop (k+1)) (l'.drop (k+1)):=by
 rw[List.drop_eq_getElem_cons h,List.drop_eq_getElem_cons h2,eO]
theorem aHc (l l':List Val) (k:Nat) (h:k<l.length) (h2:l'.length=k):eO (l.drop k) (l'.drop k)=1:=by
 subst h2;rw[List.drop_eq_getElem_cons h,List.drop_length,eO]
theorem aEv (l l':List Val) (k:Nat) (h:l.length=k) (h2:k<l'.length):eO (l.drop k) (l'.drop k) = -1:=by
 subst h;rw[List.drop_eq_getElem_cons h2,List.drop_length,eO]
theorem aKu (l l':List Val) (k:Nat) (h:l.length=k) (h2:l'.length=k):eO (l.drop k) (l'.drop k)=0:=by
 subst h;rw[<-h2,List.drop_length,h2,List.drop_length,eO]
theorem vK (ns:List ByteArray) (k:Nat) (h:k<ns.length):(ns.drop k).headD ByteArray.empty=ns[k]:=by rw[List.drop_eq_getElem_cons h];rfl
theorem aHj (ns ns':List ByteArray) (l l':List Val) (k:Nat) (h:k<l.length) (h2:k<l'.length) (hn:k<ns.length) (hn':k<ns'.length):eE (ns.drop k) (l.drop k) (ns'.drop k) (l'.drop k) =
 if orL [Lib.compareBytes ns[k].data.toList ns'[k].data.toList,cN l[k] l'[k]]≠0 then orL [Lib.compareBytes ns[k].data.toList ns'[k].data.toList,cN l[k] l'[k]] else eE (ns.drop (k+1)) (l.drop (k+1)) (ns'.drop (k+1)) (l'.drop (k+1)):=by
 rw[List.drop_eq_getElem_cons h,List.drop_eq_getElem_cons h2,eE,vK ns k hn,vK ns' k hn',List.tail_drop,List.tail_drop]
theorem aHi (ns ns':List ByteArray) (l l':List Val) (k:Nat) (h:k<l.length) (h2:l'.length=k):eE (ns.drop k) (l.drop k) (ns'.drop k) (l'.drop k)=1:=by
 subst h2;rw[List.drop_eq_getElem_cons h,List.drop_length,eE]
theorem aEy (ns ns':List ByteArray) (l l':List Val) (k:Nat) (h:l.length=k) (h2:k<l'.length):eE (ns.drop k) (l.drop k) (ns'.drop k) (l'.drop k) = -1:=by
 subst h;rw[List.drop_eq_getElem_cons h2,List.drop_length,eE]
theorem aKy (ns ns':List ByteArray) (l l':List Val) (k:Nat) (h:l.length=k) (h2:l'.length=k):eE (ns.drop k) (l.drop k) (ns'.drop k) (l'.drop k)=0:=by
 subst h;rw[show l.drop l.length=[] from List.drop_length,<-h2,show l'.drop l'.length=[] from List.drop_length,eE]
theorem aN0 (nm nm2:ByteArray) (d d2:Val)
 (ih:∀(d2:Val) (c c2:VC) (w:World),IsVal (· < w.heap.size) w c d->IsVal (· < w.heap.size) w c2 d2->CP 68 #[c.v,c2.v] w (Rt (I6 (cN d d2)) w))
 (c c2:VC) (w:World) (hd:IsVal (· < w.heap.size) w c d) (hd2:IsVal (· < w.heap.size) w c2 d2) :
 CP 126 #[.agg #[.string nm,I6 c.k,I6 c.i,I6 c.s,.string c.t,.slice c.la c.ll c.lc,.slice c.fa c.fl c.fc],.agg #[.string nm2,I6 c2.k,I6 c2.i,I6 c2.s,.string c2.t,.slice c2.la c2.ll c2.lc,.slice c2.fa c2.fl c2.fc]] w (Rt (I6 (orL [Lib.compareBytes nm.data.toList nm2.data.toList,cN d d2])) w):=by
 have HWB:Hid (BB w ((w.alloc (.cells #[.string nm,I6 c.k,I6 c.i,I6 c.s,.string c.t,.slice c.la c.ll c.lc,.slice c.fa c.fl c.fc] 202)).alloc (.cells #[.string nm2,I6 c2.k,I6 c2.i,I6 c2.s,.string c2.t,.slice c2.la c2.ll c2.lc,.slice c2.fa c2.fl c2.fc] 202))):=hid (((bR w).alloc lr _).alloc gd _);obtain⟨u,hu⟩:=ez (cN d d2)
 have HV:Hid (∀w',BB ((w.alloc (.cells #[.string nm,I6 c.k,I6 c.i,I6 c.s,.string c.t,.slice c.la c.ll c.lc,.slice c.fa c.fl c.fc] 202)).alloc (.cells #[.string nm2,I6 c2.k,I6 c2.i,I6 c2.s,.string c2.t,.slice c2.la c2.ll c2.lc,.slice c2.fa c2.fl c2.fc] 202)) w'->CP 68 #[.agg #[I6 c.k,I6 c.i,I6 c.s,.string c.t,.slice c.la c.ll c.lc,.slice c.fa c.fl c.fc],.agg #[I6 c2.k,I6 c2.i,I6 c2.s,.string c2.t,.slice c2.la c2.ll c2.lc,.slice c2.fa c2.fl c2.fc]] w' (Rt (I6 u) w')):=hid fun w' h=>by
  rw[hu];have hb:=HWB.out.trans (h.mono HWB.out.size);have hs:=hb.size;exact ih d2 c c2 w' (hd.same fun b q=>⟨by omega,hb.block b q⟩) (hd2.same fun b q=>⟨by omega,hb.block b q⟩)
 have HC:Hid (∀w',BB ((w.alloc (.cells #[.string nm,I6 c.k,I6 c.i,I6 c.s,.string c.t,.slice c.la c.ll c.lc,.slice c.fa c.fl c.fc] 202)).alloc (.cells #[.string nm2,I6 c2.k,I6 c2.i,I6 c2.s,.string c2.t,.slice c2.la c2.ll c2.lc,.slice c2.fa c2.fl c2.fc] 202)) w'->Ce w' w.heap.size 0 (.string nm)/\Ce w' w.heap.size 1 (I6 c.k)/\Ce w' w.heap.size 2 (I6 c.i)/\Ce w' w.heap.size 3 (I6 c.s)/\Ce w' w.heap.size 4 (.string c.t)/\Ce w' w.heap.size 5 (.slice c.la c.ll c.lc)/\Ce w' w.heap.size 6 (.slice c.fa c.fl c.fc)/\w'.cell? ⟨w.heap.size+1,0,none⟩=some (.string nm2)/\w'.cell? ⟨w.heap.size+1,1,none⟩=some (I6 c2.k)/\w'.cell? ⟨w.heap.size+1,2,none⟩=some (I6 c2.i)/\w'.cell? ⟨w.heap.size+1,3,none⟩=some (I6 c2.s)/\w'.cell? ⟨w.heap.size+1,4,none⟩=some (.string c2.t)/\w'.cell? ⟨w.heap.size+1,5,none⟩=some (.slice c2.la c2.ll c2.lc)/\w'.cell? ⟨w.heap.size+1,6,none⟩=some (.slice c2.fa c2.fl c2.fc)):=hid fun w' h=>by
  have h1:w'.heap[w.heap.size]?=some (.cells #[.string nm,I6 c.k,I6 c.i,I6 c.s,.string c.t,.slice c.la c.ll c.lc,.slice c.fa c.fl c.fc] 202 (0,0)):=aB h (aD _ (heap_alloc_new w _));have h2:w'.heap[w.heap.size+1]?=some (.cells #[.string nm2,I6 c2.k,I6 c2.i,I6 c2.s,.string c2.t,.slice c2.la c2.ll c2.lc,.slice c2.fa c2.fl c2.fc] 202 (0,0)):=aB h (aS _ _ _ gd);exact⟨aA h1 0,aA h1 1,aA h1 2,aA h1 3,aA h1 4,aA h1 5,aA h1 6,aA h2 0,aA h2 1,aA h2 2,aA h2 3,aA h2 4,aA h2 5,aA h2 6⟩
 have R:=hid (show orL [Lib.compareBytes nm.data.toList nm2.data.toList,cN d d2]=orL [Lib.compareBytes nm.data.toList nm2.data.toList,u] by rw[hu]);clear hu hd hd2 ih;go_enter Tryz.func126,Tryz.ntmps126
 go_upto_region 1 with (fail)
 refine aG 12 (fun w'=>BB ((w.alloc (.cells #[.string nm,I6 c.k,I6 c.i,I6 c.s,.string c.t,.slice c.la c.ll c.lc,.slice c.fa c.fl c.fc] 202)).alloc (.cells #[.string nm2,I6 c2.k,I6 c2.i,I6 c2.s,.string c2.t,.slice c2.la c2.ll c2.lc,.slice c2.fa c2.fl c2.fc] 202)) w') ge ge ge gc ((Below.refl _ _).drew) (fun hS=>?_);simp only[zdm,zdn,zdp,zdq];refine tc 0 HC ?_;refine tc 1 HC ?_;refine tc 2 HC ?_;refine tc 3 HC ?_;refine tc 5 HC ?_;refine tc 6 HC ?_;refine tc 7 HC ?_;refine tc 8 HC ?_;refine yr 4 fun K hK=>?_;go_simp;go_at_call 123;refine(Tryz.strings_Compare _ _ _).mono ?_;rintro e w1 ⟨rfl,rfl⟩;refine hK.out _ _ (hS) (fun hS=>?_);clear hK K
 (try simp only[Act.put,pr])
 refine yr 9 fun K hK=>?_;go_simp;go_at_call 68;refine(HV.out _ hS).mono ?_;rintro e w2 ⟨rfl,hb1⟩;refine hK.out _ _ (hS.trans (hb1.mono hS.size)) (fun hS=>?_);clear hK K
 (try simp only[Act.put,pr])
 refine yr 10 fun K hK=>?_;go_simp;refine hK.out _ _ (hS.trans (((Below.refl _ _).alloc lr _).mono hS.size)) (fun hS=>?_);clear hK K
 (try simp only[Act.put,pr])
 refine yr 11 fun K hK=>?_;go_simp;go_at_call 121;refine(aGo [Lib.compareBytes nm.data.toList nm2.data.toList,u] w2 _ gd).mono ?_;rintro e w3 ⟨rfl,rfl⟩;refine hK.out _ _ (hS) (fun hS=>?_);clear hK K
 (try simp only[Act.put,pr])
 refine wpAnyH_done ge ?_ _
 (try dsimp only)
 go_wp2;go_ret;exact⟨by rw[R.out];rfl,HWB.out.trans (hS.mono HWB.out.size)⟩
theorem aHe (a a':Option Addr) (n c n' c':Nat) (l l':List Val) (w:World) (hlen:n=l.length) (hlen':n'=l'.length) (hbig:n * 88<=140737488351232) (hbig':n' * 88<=140737488351232) (hv:l=[]\/∃b o,a=some ⟨b,o,none⟩/\b<w.heap.size/\IsVals (· < w.heap.size) w b o l) (hv':l'=[]\/∃b o,a'=some ⟨b,o,none⟩/\b<w.heap.size/\IsVals (· < w.heap.size) w b o l')
 (ih:∀d∈l,∀(d2:Val) (c c2:VC) (w:World),IsVal (· < w.heap.size) w c d->IsVal (· < w.heap.size) w c2 d2->CP 68 #[c.v,c2.v] w (Rt (I6 (cN d d2)) w)) :
 CP 124 #[.slice a n c,.slice a' n' c',.func (.func 68) #[] #[]] w (Rt (I6 (eO l l')) w):=by
 have hen:∀args w,(callFunc 68 args).run Tryz.prog w=.ok (.enter 68 args) w:=enters_of Tryz.func68 ge rfl;have HL:=hid hlen;have HL':=hid hlen';clear hlen hlen';go_enter Tryz.func124,Tryz.ntmps124
 go_wp2
 go_loopw [13] (fun i wr=>∃k:Nat,k<=n/\k<=n'/\i=I6 k/\eO l l'=eO (l.drop k) (l'.drop k)/\BB w wr) (fun i _=>n-(intOf i).toNat)
 case atStart=>exact⟨0,Nat.zero_le _,Nat.zero_le _,rfl,rfl,Below.refl _ _⟩
 case round =>
  obtain⟨k,hk,hk',rfl,hall,hbel⟩:=hrel;have HA:=hid hall;clear hall;have hsz:=hbel.size;have hn63:(n:Int)<=9223372036854775807:=by omega
  have hn63':(n':Int)<=9223372036854775807:=by omega
  by_cases hlt:k<n
  ·have hkl:k<l.length:=by have:=HL.out;omega
   rcases hv with h0 | ⟨b,o,rfl,hb,hvs⟩
   ·exfalso;rw[h0] at hkl;simp at hkl
   obtain⟨x,hx,hxv⟩:=hvs.get k hkl;obtain⟨hx0,hx1,hx2,hx3,hx4,hx5⟩:=hx.same (w':=wr) (hbel.block b hb);clear hx;have hlt':(k:Int)<(n:Int):=by omega
   by_cases hlt2:k<n'
   ·have hkl':k<l'.length:=by have:=HL'.out;omega
    rcases hv' with h0 | ⟨b',o',rfl,hb',hvs'⟩
    ·exfalso;rw[h0] at hkl';simp at hkl'
    have hlt2':(k:Int)<(n':Int):=by omega
    obtain⟨wA,hwA⟩:=ez (wr.alloc (.cells #[I6 x.k,I6 x.i,I6 x.s,.string x.t,.slice x.la x.ll x.lc,.slice x.fa x.fl x.fc] 36))
    have hbA:BB wr wA:=by rw[hwA];exact(Below.refl _ wr).alloc lr _
    obtain⟨y,hy,hyv⟩:=hvs'.get k hkl';obtain⟨hy0,hy1,hy2,hy3,hy4,hy5⟩:=hy.same (w':=wA) ((hbA.block b' ga).trans (hbel.block b' hb'));clear hy;obtain⟨wB,hwB⟩:=ez (wA.alloc (.cells #[I6 y.k,I6 y.i,I6 y.s,.string y.t,.slice y.la y.ll y.lc,.slice y.fa y.fl y.fc] 36))
    have hbB:BB wr wB:=by rw[hwB];exact hbA.alloc hbA.size _
    have hszB:=hbB.size;have hb3:wB.heap[wr.heap.size]?=some (.cells #[I6 x.k,I6 x.i,I6 x.s,.string x.t,.slice x.la x.ll x.lc,.slice x.fa x.fl x.fc] 36 (0,0)):=by rw[hwB,hwA];exact aD _ (heap_alloc_new wr _)
    have hd:=aHd l l' k hkl hkl';obtain⟨r,hr⟩:=ez (cN l[k] l'[k])
    rw[<-hr] at hd;have HD:=hid hd;have hcc:=ih l[k] (List.getElem_mem hkl) l'[k] x y wB (hxv.same fun q hq=>⟨by omega,(hbB.block q ga).trans (hbel.block q hq)⟩) (hyv.same fun q hq=>⟨by omega,(hbB.block q ga).trans (hbel.block q hq)⟩);rw[<-hr] at hcc;rw[hwB,hwA] at hcc;rw[hwA] at hy0 hy1 hy2 hy3 hy4 hy5;rw[hwB,hwA] at hbB;have HC:=hid hcc;have HBB:=hid (hbel.trans (hbB.mono hbel.size));clear hr hd hcc hvs hvs' hxv hyv hwA hwB hbA hbB hb3 hszB;by_cases h0:r=0
    ·subst h0;go_wp2_with (go_at_call 68;refine HC.out.mono ?_;rintro e w4 ⟨rfl,hb4⟩)
     go_roundw
     case rel=>exact⟨k+1,by omega,by omega,by go_num,by rw[HA.out,HD.out,if_neg gd],HBB.out.trans (hb4.mono HBB.out.size)⟩
     case measure=>simp[intOf];omega
    ·have H0:=hid h0;go_wp2_with (go_at_call 68;refine HC.out.mono ?_;rintro e w4 ⟨rfl,hb4⟩)
     go_ret;exact⟨by rw[HA.out,HD.out,if_pos H0.out];rfl,HBB.out.trans (hb4.mono HBB.out.size)⟩
   ·obtain rfl:k=n':=by omega
    have r:=hid (HA.out.trans (aHc l l' k hkl HL'.out.symm));clear hvs hxv;go_wp2;go_ret;exact⟨by rw[r.out];rfl,hbel.alloc ga _⟩
  ·obtain rfl:k=n:=by omega
   by_cases hlt2:k<n'
   ·have hlt2':(k:Int)<(n':Int):=by omega
    have r:=hid (HA.out.trans (aEv l l' k HL.out.symm (by have:=HL'.out;omega)));go_wp2;go_ret;exact⟨by rw[r.out];rfl,hbel⟩
   ·obtain rfl:k=n':=by omega
    have r:=hid (HA.out.trans (aKu l l' k HL.out.symm HL'.out.symm));go_wp2;go_ret;exact⟨by rw[r.out];rfl,hbel⟩
theorem aHk (a a':Option Addr) (n c n' c':Nat) (ns ns':List ByteArray) (l l':List Val) (w:World) (hlen:n=l.length) (hlen':n'=l'.length) (hns:ns.length=l.length) (hns':ns'.length=l'.length) (hbig:n * 104<=140737488351232) (hbig':n' * 104<=140737488351232) (hv:l=[]\/∃b o,a=some ⟨b,o,none⟩/\b<w.heap.size/\IsFlds (· < w.heap.size) w b o ns l) (hv':l'=[]\/∃b o,a'=some ⟨b,o,none⟩/\b<w.heap.size/\IsFlds (· < w.heap.size) w b o ns' l')
 (ih:∀d∈l,∀(d2:Val) (c c2:VC) (w:World),IsVal (· < w.heap.size) w c d->IsVal (· < w.heap.size) w c2 d2->CP 68 #[c.v,c2.v] w (Rt (I6 (cN d d2)) w)) :
 CP 125 #[.slice a n c,.slice a' n' c',.func (.func 126) #[] #[]] w (Rt (I6 (eE ns l ns' l')) w):=by
 have hen:∀args w,(callFunc 126 args).run Tryz.prog w=.ok (.enter 126 args) w:=enters_of Tryz.func126 ge rfl;have HL:=hid hlen;have HL':=hid hlen';clear hlen hlen';have HN:=hid hns;have HN':=hid hns';clear hns hns';go_enter Tryz.func125,Tryz.ntmps125
 go_wp2
 go_loopw [13] (fun i wr=>∃k:Nat,k<=n/\k<=n'/\i=I6 k/\eE ns l ns' l'=eE (ns.drop k) (l.drop k) (ns'.drop k) (l'.drop k)/\BB w wr) (fun i _=>n-(intOf i).toNat)
 case atStart=>exact⟨0,Nat.zero_le _,Nat.zero_le _,rfl,rfl,Below.refl _ _⟩
 case round =>
  obtain⟨k,hk,hk',rfl,hall,hbel⟩:=hrel;have HA:=hid hall;clear hall;have hsz:=hbel.size;have hn63:(n:Int)<=9223372036854775807:=by omega
  have hn63':(n':Int)<=9223372036854775807:=by omega
  by_cases hlt:k<n
  ·have hkl:k<l.length:=by have:=HL.out;omega
   rcases hv with h0 | ⟨b,o,rfl,hb,hvs⟩
   ·exfalso;rw[h0] at hkl;simp at hkl
   have hkn:k<ns.length:=by have:=HN.out;omega
   obtain⟨⟨hn1,_⟩,x,hx,hxv⟩:=hvs.get HN.out k hkl hkn;obtain⟨nx,hnx⟩:=ez (ns[k])
   rw[<-hnx] at hn1;have hn1':wr.cell? ⟨b,o+k * 7,none⟩=some (.string nx):=(World.cell?_of_block (w:=w) (a:=⟨b,o+k * 7,none⟩) (hbel.block b hb)).trans hn1;clear hn1;obtain⟨hx0,hx1,hx2,hx3,hx4,hx5⟩:=hx.same (w':=wr) (hbel.block b hb);clear hx;have hlt':(k:Int)<(n:Int):=by omega
   by_cases hlt2:k<n'
   ·have hkl':k<l'.length:=by have:=HL'.out;omega
    rcases hv' with h0 | ⟨b',o',rfl,hb',hvs'⟩
    ·exfalso;rw[h0] at hkl';simp at hkl'
    have hlt2':(k:Int)<(n':Int):=by omega
    obtain⟨wA,hwA⟩:=ez (wr.alloc (.cells #[.string nx,I6 x.k,I6 x.i,I6 x.s,.string x.t,.slice x.la x.ll x.lc,.slice x.fa x.fl x.fc] 202))
    have hbA:BB wr wA:=by rw[hwA];exact(Below.refl _ wr).alloc lr _
    have hkn':k<ns'.length:=by have:=HN'.out;omega
    obtain⟨⟨hn2,_⟩,y,hy,hyv⟩:=hvs'.get HN'.out k hkl' hkn';obtain⟨ny,hny⟩:=ez (ns'[k])
    rw[<-hny] at hn2;have hn2':wA.cell? ⟨b',o'+k * 7,none⟩=some (.string ny):=(World.cell?_of_block (w:=w) (a:=⟨b',o'+k * 7,none⟩) ((hbA.block b' ga).trans (hbel.block b' hb'))).trans hn2;clear hn2;obtain⟨hy0,hy1,hy2,hy3,hy4,hy5⟩:=hy.same (w':=wA) ((hbA.block b' ga).trans (hbel.block b' hb'));clear hy;obtain⟨wB,hwB⟩:=ez (wA.alloc (.cells #[.string ny,I6 y.k,I6 y.i,I6 y.s,.string y.t,.slice y.la y.ll y.lc,.slice y.fa y.fl y.fc] 202))
    have hbB:BB wr wB:=by rw[hwB];exact hbA.alloc hbA.size _
    have hszB:=hbB.size;have hb3:wB.heap[wr.heap.size]?=some (.cells #[.string nx,I6 x.k,I6 x.i,I6 x.s,.string x.t,.slice x.la x.ll x.lc,.slice x.fa x.fl x.fc] 202 (0,0)):=by rw[hwB,hwA];exact aD _ (heap_alloc_new wr _)
    have hd:=aHj ns ns' l l' k hkl hkl' hkn hkn';rw[<-hnx,<-hny] at hd;obtain⟨r,hr⟩:=ez (orL [Lib.compareBytes nx.data.toList ny.data.toList,cN l[k] l'[k]])
    rw[<-hr] at hd;have HD:=hid hd;have hcc:=aN0 nx ny l[k] l'[k] (ih l[k] (List.getElem_mem hkl)) x y wB (hxv.same fun q hq=>⟨by omega,(hbB.block q ga).trans (hbel.block q hq)⟩) (hyv.same fun q hq=>⟨by omega,(hbB.block q ga).trans (hbel.block q hq)⟩);rw[<-hr] at hcc;rw[hwB,hwA] at hcc;rw[hwA] at hy0 hy1 hy2 hy3 hy4 hy5 hn2';rw[hwB,hwA] at hbB;have HC:=hid hcc;have HBB:=hid (hbel.trans (hbB.mono hbel.size));clear hr hd hcc hvs hvs' hxv hyv hwA hwB hbA hbB hb3 hszB hnx hny;by_cases h0:r=0
    ·subst h0;go_wp2_with (go_at_call 126;refine HC.out.mono ?_;rintro e w4 ⟨rfl,hb4⟩)
     go_roundw
     case rel=>exact⟨k+1,by omega,by omega,by go_num,by rw[HA.out,HD.out,if_neg gd],HBB.out.trans (hb4.mono HBB.out.size)⟩
     case measure=>simp[intOf];omega
    ·have H0:=hid h0;go_wp2_with (go_at_call 126;refine HC.out.mono ?_;rintro e w4 ⟨rfl,hb4⟩)
     go_ret;exact⟨by rw[HA.out,HD.out,if_pos H0.out];rfl,HBB.out.trans (hb4.mono HBB.out.size)⟩
   ·obtain rfl:k=n':=by omega
    have r:=hid (HA.out.trans (aHi ns ns' l l' k hkl HL'.out.symm));clear hvs hxv;go_wp2;go_ret;exact⟨by rw[r.out];rfl,hbel.alloc ga _⟩
  ·obtain rfl:k=n:=by omega
   by_cases hlt2:k<n'
   ·have hlt2':(k:Int)<(n':Int):=by omega
    have r:=hid (HA.out.trans (aEy ns ns' l l' k HL.out.symm (by have:=HL'.out;omega)));go_wp2;go_ret;exact⟨by rw[r.out];rfl,hbel⟩
   ·obtain rfl:k=n':=by omega
    have r:=hid (HA.out.trans (aKy ns ns' l l' k HL.out.symm HL'.out.symm));go_wp2;go_ret;exact⟨by rw[r.out];rfl,hbel⟩
theorem aNe (d d2:Val) (ihl:∀d'∈(match d with | .mk _ _ _ _ l _ _=>l),∀(d2:Val) (c c2:VC) (w:World),IsVal (· < w.heap.size) w c d'->IsVal (· < w.heap.size) w c2 d2->CP 68 #[c.v,c2.v] w (Rt (I6 (cN d' d2)) w))
 (ihf:∀d'∈(match d with | .mk _ _ _ _ _ _ fs=>fs),∀(d2:Val) (c c2:VC) (w:World),IsVal (· < w.heap.size) w c d'->IsVal (· < w.heap.size) w c2 d2->CP 68 #[c.v,c2.v] w (Rt (I6 (cN d' d2)) w))
 (c c2:VC) (w:World) (hd:IsVal (· < w.heap.size) w c d) (hd2:IsVal (· < w.heap.size) w c2 d2) :
 CP 68 #[c.v,c2.v] w (Rt (I6 (cN d d2)) w):=by
 obtain⟨k,i,s,t,l,ns,fs⟩:=d;obtain⟨k',i',s',t',l',ns',fs'⟩:=d2;dsimp only at ihl ihf;have HWB:Hid (BB w ((w.alloc (.cells #[I6 c.k,I6 c.i,I6 c.s,.string c.t,.slice c.la c.ll c.lc,.slice c.fa c.fl c.fc] 36)).alloc (.cells #[I6 c2.k,I6 c2.i,I6 c2.s,.string c2.t,.slice c2.la c2.ll c2.lc,.slice c2.fa c2.fl c2.fc] 36))):=hid (((bR w).alloc lr _).alloc gd _);obtain⟨u,hu⟩:=ez (eO l l')
 obtain⟨u',hu'⟩:∃u',u'=eE ns fs ns' fs':=⟨_,rfl⟩
 have R:Hid (cN (.mk k i s t l ns fs) (.mk k' i' s' t' l' ns' fs')=orL [Lib.compareInt c.k c2.k,Lib.compareInt c.i c2.i,Lib.compareInt c.s c2.s,Lib.compareBytes c.t.data.toList c2.t.data.toList,u,u']):=by
  obtain⟨⟨h1,h2,h3,h4,_⟩,_⟩:=hd;obtain⟨⟨g1,g2,g3,g4,_⟩,_⟩:=hd2;exact hid (by rw[cN,h1,h2,h3,h4,g1,g2,g3,g4,hu,hu'])
 have HV:Hid (∀w',BB ((w.alloc (.cells #[I6 c.k,I6 c.i,I6 c.s,.string c.t,.slice c.la c.ll c.lc,.slice c.fa c.fl c.fc] 36)).alloc (.cells #[I6 c2.k,I6 c2.i,I6 c2.s,.string c2.t,.slice c2.la c2.ll c2.lc,.slice c2.fa c2.fl c2.fc] 36)) w'->CP 124 #[.slice c.la c.ll c.lc,.slice c2.la c2.ll c2.lc,.func (.func 68) #[] #[]] w' (Rt (I6 u) w')):=hid fun w' h=>by
  rw[hu];have hb:=HWB.out.trans (h.mono HWB.out.size);have hs:=hb.size;obtain⟨⟨_,_,_,_,ok,hll,_⟩,hv,_⟩:=(hd.same fun b q=>⟨by omega,hb.block b q⟩:IsVal (· < w'.heap.size) w' c _)
  obtain⟨⟨_,_,_,_,ok2,hll2,_⟩,hv2,_⟩:=(hd2.same fun b q=>⟨by omega,hb.block b q⟩:IsVal (· < w'.heap.size) w' c2 _)
  exact aHe _ _ _ _ _ _ l l' w' hll hll2 ok.l ok2.l hv hv2 ihl
 have HF:Hid (∀w',BB ((w.alloc (.cells #[I6 c.k,I6 c.i,I6 c.s,.string c.t,.slice c.la c.ll c.lc,.slice c.fa c.fl c.fc] 36)).alloc (.cells #[I6 c2.k,I6 c2.i,I6 c2.s,.string c2.t,.slice c2.la c2.ll c2.lc,.slice c2.fa c2.fl c2.fc] 36)) w'->CP 125 #[.slice c.fa c.fl c.fc,.slice c2.fa c2.fl c2.fc,.func (.func 126) #[] #[]] w' (Rt (I6 u') w')):=hid fun w' h=>by
  rw[hu'];have hb:=HWB.out.trans (h.mono HWB.out.size);have hs:=hb.size;obtain⟨⟨_,_,_,_,ok,_,hfl,hns⟩,_,hf⟩:=(hd.same fun b q=>⟨by omega,hb.block b q⟩:IsVal (· < w'.heap.size) w' c _)
  obtain⟨⟨_,_,_,_,ok2,_,hfl2,hns2⟩,_,hf2⟩:=(hd2.same fun b q=>⟨by omega,hb.block b q⟩:IsVal (· < w'.heap.size) w' c2 _)
  exact aHk _ _ _ _ _ _ ns ns' fs fs' w' hfl hfl2 hns hns2 ok.f ok2.f hf hf2 ihf
 have HC:Hid (∀w',BB ((w.alloc (.cells #[I6 c.k,I6 c.i,I6 c.s,.string c.t,.slice c.la c.ll c.lc,.slice c.fa c.fl c.fc] 36)).alloc (.cells #[I6 c2.k,I6 c2.i,I6 c2.s,.string c2.t,.slice c2.la c2.ll c2.lc,.slice c2.fa c2.fl c2.fc] 36)) w'->Ce w' w.heap.size 0 (I6 c.k)/\Ce w' w.heap.size 1 (I6 c.i)/\Ce w' w.heap.size 2 (I6 c.s)/\Ce w' w.heap.size 3 (.string c.t)/\Ce w' w.heap.size 4 (.slice c.la c.ll c.lc)/\Ce w' w.heap.size 5 (.slice c.fa c.fl c.fc)/\w'.cell? ⟨w.heap.size+1,0,none⟩=some (I6 c2.k)/\w'.cell? ⟨w.heap.size+1,1,none⟩=some (I6 c2.i)/\w'.cell? ⟨w.heap.size+1,2,none⟩=some (I6 c2.s)/\w'.cell? ⟨w.heap.size+1,3,none⟩=some (.string c2.t)/\w'.cell? ⟨w.heap.size+1,4,none⟩=some (.slice c2.la c2.ll c2.lc)/\w'.cell? ⟨w.heap.size+1,5,none⟩=some (.slice c2.fa c2.fl c2.fc)):=hid fun w' h=>by
  have h1:w'.heap[w.heap.size]?=some (.cells #[I6 c.k,I6 c.i,I6 c.s,.string c.t,.slice c.la c.ll c.lc,.slice c.fa c.fl c.fc] 36 (0,0)):=aB h (aD _ (heap_alloc_new w _));have h2:w'.heap[w.heap.size+1]?=some (.cells #[I6 c2.k,I6 c2.i,I6 c2.s,.string c2.t,.slice c2.la c2.ll c2.lc,.slice c2.fa c2.fl c2.fc] 36 (0,0)):=aB h (aS _ _ _ gd);exact⟨aA h1 0,aA h1 1,aA h1 2,aA h1 3,aA h1 4,aA h1 5,aA h2 0,aA h2 1,aA h2 2,aA h2 3,aA h2 4,aA h2 5⟩
 clear hu hu' hd hd2 ihl ihf;go_enter Tryz.func68,Tryz.ntmps68
 go_upto_region 1 with (fail)
 refine aG 32 (fun w'=>BB ((w.alloc (.cells #[I6 c.k,I6 c.i,I6 c.s,.string c.t,.slice c.la c.ll c.lc,.slice c.fa c.fl c.fc] 36)).alloc (.cells #[I6 c2.k,I6 c2.i,I6 c2.s,.string c2.t,.slice c2.la c2.ll c2.lc,.slice c2.fa c2.fl c2.fc] 36)) w') ge ge ge gc ((Below.refl _ _).drew) (fun hS=>?_);simp only[zdm,zdn,zdp,zdq];refine tc 0 HC ?_;refine tc 1 HC ?_;refine tc 2 HC ?_;refine tc 3 HC ?_;refine tc 5 HC ?_;refine tc 6 HC ?_;refine tc 7 HC ?_;refine tc 8 HC ?_;refine tc 10 HC ?_;refine tc 11 HC ?_;refine tc 12 HC ?_;refine tc 13 HC ?_;refine tc 15 HC ?_;refine tc 16 HC ?_;refine tc 17 HC ?_;refine tc 18 HC ?_;refine tc 20 HC ?_;refine tc 21 HC ?_;refine tc 22 HC ?_;refine tc 23 HC ?_;refine tc 25 HC ?_;refine tc 26 HC ?_;refine tc 27 HC ?_;refine tc 28 HC ?_;refine yr 4 fun K hK=>?_;go_simp;go_at_call 122;refine(Tryz.cmp_Compare_int _ _ _).mono ?_;rintro e w1 ⟨rfl,rfl⟩;refine hK.out _ _ (hS) (fun hS=>?_);clear hK K
 (try simp only[Act.put,pr])
 refine yr 9 fun K hK=>?_;go_simp;go_at_call 122;refine(Tryz.cmp_Compare_int _ _ _).mono ?_;rintro e w1 ⟨rfl,rfl⟩;refine hK.out _ _ (hS) (fun hS=>?_);clear hK K
 (try simp only[Act.put,pr])
 refine yr 14 fun K hK=>?_;go_simp;go_at_call 122;refine(Tryz.cmp_Compare_int _ _ _).mono ?_;rintro e w1 ⟨rfl,rfl⟩;refine hK.out _ _ (hS) (fun hS=>?_);clear hK K
 (try simp only[Act.put,pr])
 refine yr 19 fun K hK=>?_;go_simp;go_at_call 123;refine(Tryz.strings_Compare _ _ _).mono ?_;rintro e w1 ⟨rfl,rfl⟩;refine hK.out _ _ (hS) (fun hS=>?_);clear hK K
 (try simp only[Act.put,pr])
 refine yr 24 fun K hK=>?_;go_simp;go_at_call 124;refine(HV.out _ hS).mono ?_;rintro e w1 ⟨rfl,hb1⟩;refine hK.out _ _ (hS.trans (hb1.mono hS.size)) (fun hS=>?_);clear hK K
 (try simp only[Act.put,pr])
 refine yr 29 fun K hK=>?_;go_simp;go_at_call 125;refine(HF.out _ hS).mono ?_;rintro e w2 ⟨rfl,hb1⟩;refine hK.out _ _ (hS.trans (hb1.mono hS.size)) (fun hS=>?_);clear hK K
 (try simp only[Act.put,pr])
 refine yr 30 fun K hK=>?_;go_simp;refine hK.out _ _ (hS.trans (((Below.refl _ _).alloc lr _).mono hS.size)) (fun hS=>?_);clear hK K
 (try simp only[Act.put,pr])
 refine yr 31 fun K hK=>?_;go_simp;go_at_call 121;refine(aGo [Lib.compareInt c.k c2.k,Lib.compareInt c.i c2.i,Lib.compareInt c.s c2.s,Lib.compareBytes c.t.data.toList c2.t.data.toList,u,u'] w2 _ gd).mono ?_;rintro e w3 ⟨rfl,rfl⟩;refine hK.out _ _ (hS) (fun hS=>?_);clear hK K
 (try simp only[Act.put,pr])
 refine wpAnyH_done ge ?_ _
 (try dsimp only)
 go_wp2;go_ret;exact⟨by rw[R.out];rfl,HWB.out.trans (hS.mono HWB.out.size)⟩
theorem aNf:∀(z:Nat) (d:Val),Val.sz d<=z->∀(d2:Val) (c c2:VC) (w:World),IsVal (· < w.heap.size) w c d->IsVal (· < w.heap.size) w c2 d2->CP 68 #[c.v,c2.v] w (Rt (I6 (cN d d2)) w):=by
 intro z
 induction z with
 | zero=>intro d hz;obtain⟨k,i,s,t,l,ns,fs⟩:=d;simp[Val.sz] at hz
 | succ z ih =>
   intro d hz d2 c c2 w hd hd2;obtain⟨k,i,s,t,l,ns,fs⟩:=d;simp only[Val.sz] at hz;have sub:∀(r:List Val),Val.szs r<=z->∀d'∈r,Val.sz d'<=z:=fun r hr d' hm=>by
    obtain⟨j,hj,rfl⟩:=List.getElem_of_mem hm;exact Nat.le_trans (Val.szs_get r j hj) hr
   exact aNe (.mk k i s t l ns fs) d2 (fun d' hm=>ih d' (sub l ga d' hm)) (fun d' hm=>ih d' (sub fs ga d' hm)) c c2 w hd hd2
theorem gK (c c2:VC) (d d2:Val) (w:World) (hd:IsVal (· < w.heap.size) w c d) (hd2:IsVal (· < w.heap.size) w c2 d2):CP 68 #[c.v,c2.v] w (Rt (I6 (cN d d2)) w) :=
 aNf _ d lr d2 c c2 w hd hd2
end
section
open Go Go.RowKit Go.Shelf
theorem aKz (x y:Int) (w:World):CP 226 #[I6 x,I6 y] w fun e w'=>e=.returned (I6 (Lib.compareInt x y))/\w=w':=by
 go_enter Tryz.func226,Tryz.ntmps226
 go_wp2_with (go_at_call 122;refine(Tryz.cmp_Compare_int _ _ _).mono ?_;rintro e w' ⟨rfl,rfl⟩)
 go_ret;exact⟨rfl,rfl⟩
theorem aC8 (S S':Nat->Prop) (a a':Option Addr) (n c n' c':Nat) (xs ys:List Int) (w:World) (hx:IsInts S w a n c xs) (hy:IsInts S' w a' n' c' ys) :
 CP 225 #[.slice a n c,.slice a' n' c',.func (.func 226) #[] #[]] w fun e w'=>e=.returned (I6 (kH xs ys))/\w=w':=by
 have hen:∀args w,(callFunc 226 args).run Tryz.prog w=.ok (.enter 226 args) w:=enters_of Tryz.func226 ge rfl;have hbig:=hx.big;have hbig':=hy.big;have HL:=hid hx.len;have HL':=hid hy.len;have HX:=hid hx;have HY:=hid hy;clear hx hy;go_enter Tryz.func225,Tryz.ntmps225
 go_wp2
 go_loop [13] (fun i=>∃k:Nat,k<=n/\k<=n'/\i=I6 k/\kH xs ys=kH (xs.drop k) (ys.drop k)) (fun i=>n-(intOf i).toNat)
 case atStart=>exact⟨0,Nat.zero_le _,Nat.zero_le _,rfl,rfl⟩
 case round =>
  obtain⟨k,hk,hk',rfl,hall⟩:=hrel;have HA:=hid hall;clear hall;have hn63:(n:Int)<=9223372036854775807:=by omega
  have hn63':(n':Int)<=9223372036854775807:=by omega
  by_cases hlt:k<n
  ·have hkl:k<xs.length:=by have:=HL.out;omega
   obtain⟨b,o,rfl,hb,hc⟩:=HX.out.slot (show 0<n by omega);have hck:=hc k hkl;clear hc;have hlt':(k:Int)<(n:Int):=by omega
   by_cases hlt2:k<n'
   ·have hkl':k<ys.length:=by have:=HL'.out;omega
    obtain⟨b',o',rfl,hb',hc'⟩:=HY.out.slot (show 0<n' by omega);have hck':=hc' k hkl';clear hc';have hlt2':(k:Int)<(n':Int):=by omega
    have hd:=aKx xs ys k hkl hkl';obtain⟨z,hz⟩:=ez (xs[k])
    obtain⟨y,hy⟩:=ez (ys[k])
    rw[<-hz,<-hy] at hd;rw[<-hz] at hck;rw[<-hy] at hck';clear hz hy;obtain⟨r,hr⟩:=ez (Lib.compareInt z y)
    rw[<-hr] at hd;have HD:=hid hd;have hcc:=(aKz z y w)
    rw[<-hr] at hcc;have HC:=hid hcc;clear hr hd hcc;by_cases h0:r=0
    ·subst h0;go_wp2_with (go_at_call 226;refine HC.out.mono ?_;rintro e w' ⟨rfl,rfl⟩)
     go_round
     case rel=>exact⟨k+1,by omega,by omega,by go_num,by rw[HA.out,HD.out,if_neg gd]⟩
     case measure=>simp[intOf];omega
    ·have H0:=hid h0;go_wp2_with (go_at_call 226;refine HC.out.mono ?_;rintro e w' ⟨rfl,rfl⟩)
     go_ret;exact⟨by rw[HA.out,HD.out,if_pos H0.out];rfl,rfl⟩
   ·obtain rfl:k=n':=by omega
    have r:=hid (HA.out.trans (aKw xs ys k hkl HL'.out.symm));go_wp2;go_ret;exact⟨by rw[r.out];rfl,rfl⟩
  ·obtain rfl:k=n:=by omega
   by_cases hlt2:k<n'
   ·have hlt2':(k:Int)<(n':Int):=by omega
    have r:=hid (HA.out.trans (aHh xs ys k HL.out.symm (by have:=HL'.out;omega)));go_wp2;go_ret;exact⟨by rw[r.out];rfl,rfl⟩
   ·obtain rfl:k=n':=by omega
    have r:=hid (HA.out.trans (aNh xs ys k HL.out.symm HL'.out.symm));go_wp2;go_ret;exact⟨by rw[r.out];rfl,rfl⟩
end
end Go.Proofs.YtmgpghoamapfgaaGreatDoor
