/- A part. -/
import Derived.Test.YteladbdfiannjaaGreatDoorSX17Mrg
import Derived.Test.YteladbdfiannjaaGreatDoorSX8Mrg
namespace Go.Proofs.YteladbdfiannjaaGreatDoor
set_option linter.unusedVariables false
set_option maxRecDepth 100000
set_option maxHeartbeats 64000000
set_option linter.unusedSimpArgs false
section
open Go Go.RowKit Go.Shelf
end
section
open Go Go.RowKit Go.Shelf
def uY (d d2:St):Int:=orL [Lib.compareInt d.e d2.e,gK d.ps d2.ps]
theorem yD (d d2:St):(uY d d2==0)=hU d d2:=by
 rw[Bool.eq_iff_iff]
 simp only[beq_iff_eq,uY,orL,hU,decide_eq_true_eq]
 constructor
 ·intro h
  by_cases h1:Lib.compareInt d.e d2.e=0
  ·rw[if_neg (by simpa using h1)] at h
   by_cases h2:gK d.ps d2.ps=0
   ·exact⟨jG h1,cmpI_zero.1 h2⟩
   ·rw[if_pos h2] at h;exact absurd h h2
  ·rw[if_pos h1] at h;exact absurd h h1
 ·rintro⟨h1,h2⟩
  rw[h1,h2,gV,cmpI_zero.2 rfl]
  rfl
theorem mX (c c2:SC) (d d2:St) (w:World) (hd:IsSt (· < w.heap.size) w c d) (hd2:IsSt (· < w.heap.size) w c2 d2):Calls Tryz.prog 116 #[c.v,c2.v] w fun e w'=>e=.returned (.int .i64 (uY d d2))∧Below w.heap.size w w':=by
 have HWB:Hid (Below w.heap.size w ((w.alloc (.cells #[.int .i64 c.e,.slice c.a c.n c.c] 62)).alloc (.cells #[.int .i64 c2.e,.slice c2.a c2.n c2.c] 62))):=hid (((bR w).alloc lr _).alloc (by simp) _)
 have HCI:Hid (∀w',Below ((w.alloc (.cells #[.int .i64 c.e,.slice c.a c.n c.c] 62)).alloc (.cells #[.int .i64 c2.e,.slice c2.a c2.n c2.c] 62)).heap.size ((w.alloc (.cells #[.int .i64 c.e,.slice c.a c.n c.c] 62)).alloc (.cells #[.int .i64 c2.e,.slice c2.a c2.n c2.c] 62)) w'→Calls Tryz.prog 182 #[.slice c.a c.n c.c,.slice c2.a c2.n c2.c,.func (.func 183) #[] #[]] w' fun e w2=>e=.returned (.int .i64 (gK d.ps d2.ps))∧Below w'.heap.size w' w2):=hid fun w' h=>by
  have hb:=HWB.out.trans (h.mono HWB.out.size)
  exact(sP _ _ _ _ _ _ _ _ _ _ w' (hd.ps.same (S':=fun b=>b<w'.heap.size) fun b q=>⟨Nat.lt_of_lt_of_le q hb.size,hb.block b q⟩) (hd2.ps.same (S':=fun b=>b<w'.heap.size) fun b q=>⟨Nat.lt_of_lt_of_le q hb.size,hb.block b q⟩)).mono fun e w2 ⟨he,hw⟩=>⟨he,by rw[hw];exact Below.refl _ _⟩
 have HC:Hid (∀w',Below ((w.alloc (.cells #[.int .i64 c.e,.slice c.a c.n c.c] 62)).alloc (.cells #[.int .i64 c2.e,.slice c2.a c2.n c2.c] 62)).heap.size ((w.alloc (.cells #[.int .i64 c.e,.slice c.a c.n c.c] 62)).alloc (.cells #[.int .i64 c2.e,.slice c2.a c2.n c2.c] 62)) w'→w'.cell? ⟨w.heap.size,0,none⟩=some (.int .i64 c.e)∧w'.cell? ⟨w.heap.size,1,none⟩=some (.slice c.a c.n c.c)∧w'.cell? ⟨w.heap.size+1,0,none⟩=some (.int .i64 c2.e)∧w'.cell? ⟨w.heap.size+1,1,none⟩=some (.slice c2.a c2.n c2.c)):=hid fun w' h=>by
  have h0:=aB h (aC (.cells #[.int .i64 c2.e,.slice c2.a c2.n c2.c] 62) (heap_alloc_new w (.cells #[.int .i64 c.e,.slice c.a c.n c.c] 62)))
  have h1:=aB h (aM (w.alloc (.cells #[.int .i64 c.e,.slice c.a c.n c.c] 62)) (.cells #[.int .i64 c2.e,.slice c2.a c2.n c2.c] 62) (w.heap.size+1) (by simp))
  exact⟨aA h0 0,aA h0 1,aA h1 0,aA h1 1⟩
 have R:Hid (uY d d2=orL [Lib.compareInt c.e c2.e,gK d.ps d2.ps]):=hid (by rw[hd.e,hd2.e];rfl)
 clear hd hd2
 go_enter Tryz.func116,Tryz.ntmps116
 go_upto_region 1 with (fail)
 refine aQ 12 (fun w'=>Below ((w.alloc (.cells #[.int .i64 c.e,.slice c.a c.n c.c] 62)).alloc (.cells #[.int .i64 c2.e,.slice c2.a c2.n c2.c] 62)).heap.size ((w.alloc (.cells #[.int .i64 c.e,.slice c.a c.n c.c] 62)).alloc (.cells #[.int .i64 c2.e,.slice c2.a c2.n c2.c] 62)) w') (by kernel_rfl) (by kernel_rfl) (by kernel_rfl) (by decide) ((Below.refl _ _).drew) (fun hS=>?_)
 simp only[zdm,zdn,zdp,zdq]
 refine tkQ 0 (v:=?_) ?_ hS ?_;rotate_left;· intro w' hw';have hcells:=HC.out w' hw';go_simp;(try rfl)
 simp only[Act.put,pq]
 refine tkQ 1 (v:=?_) ?_ hS ?_;rotate_left;· intro w' hw';have hcells:=HC.out w' hw';go_simp;(try rfl)
 simp only[Act.put,pq]
 refine tkQ 2 (v:=?_) ?_ hS ?_;rotate_left;· intro w' hw';have hcells:=HC.out w' hw';go_simp;(try rfl)
 simp only[Act.put,pq]
 refine tkQ 3 (v:=?_) ?_ hS ?_;rotate_left;· intro w' hw';have hcells:=HC.out w' hw';go_simp;(try rfl)
 simp only[Act.put,pq]
 refine tkQ 5 (v:=?_) ?_ hS ?_;rotate_left;· intro w' hw';have hcells:=HC.out w' hw';go_simp;(try rfl)
 simp only[Act.put,pq]
 refine tkQ 6 (v:=?_) ?_ hS ?_;rotate_left;· intro w' hw';have hcells:=HC.out w' hw';go_simp;(try rfl)
 simp only[Act.put,pq]
 refine tkQ 7 (v:=?_) ?_ hS ?_;rotate_left;· intro w' hw';have hcells:=HC.out w' hw';go_simp;(try rfl)
 simp only[Act.put,pq]
 refine tkQ 8 (v:=?_) ?_ hS ?_;rotate_left;· intro w' hw';have hcells:=HC.out w' hw';go_simp;(try rfl)
 simp only[Act.put,pq]
 refine ry [4] ?_
 refine arQ fun K hK=>?_
 go_simp;go_at_call 169;refine(Tryz.cmp_Compare_int _ _ _).mono ?_
 rintro e w1 ⟨rfl,rfl⟩
 refine hK.out _ _ (hS) (fun hS=>?_)
 clear hK K
 (try simp only[Act.put,pq])
 refine ry [9] ?_
 refine arQ fun K hK=>?_
 go_simp;go_at_call 182;refine(HCI.out _ hS).mono ?_
 rintro e w2 ⟨rfl,hb1⟩
 refine hK.out _ _ (hS.trans (hb1.mono hS.size)) (fun hS=>?_)
 clear hK K
 (try simp only[Act.put,pq])
 refine ry [10] ?_
 refine arQ fun K hK=>?_
 go_simp
 refine hK.out _ _ (hS.trans (((Below.refl _ _).alloc lr _).mono hS.size)) (fun hS=>?_)
 clear hK K
 (try simp only[Act.put,pq])
 refine ry [11] ?_
 refine arQ fun K hK=>?_
 go_simp;go_at_call 168;refine(xK [Lib.compareInt c.e c2.e,gK d.ps d2.ps] w2 _ (by simp)).mono ?_
 rintro e w3 ⟨rfl,rfl⟩
 refine hK.out _ _ (hS) (fun hS=>?_)
 clear hK K
 (try simp only[Act.put,pq])
 refine wpAnyH_done (by kernel_rfl) ?_ _
 (try dsimp only)
 go_wp2
 go_ret
 exact⟨by rw[R.out];rfl,HWB.out.trans (hS.mono HWB.out.size)⟩
theorem fN (c c2:SC) (d d2:St) (w:World) (hd:IsSt (· < w.heap.size) w c d) (hd2:IsSt (· < w.heap.size) w c2 d2):Calls Tryz.prog 45 #[c.v,c2.v] w fun e w'=>e=.returned (.bool (hU d d2))∧Below w.heap.size w w':=by
 have hb:Below w.heap.size w ((w.alloc (.cells #[.int .i64 c.e,.slice c.a c.n c.c] 62)).alloc (.cells #[.int .i64 c2.e,.slice c2.a c2.n c2.c] 62)):=(((bR w).alloc lr _).alloc (by simp) _)
 obtain⟨u,hu⟩:∃u,u=uY d d2:=⟨_,rfl⟩
 have hc:=mX c c2 d d2 ((w.alloc (.cells #[.int .i64 c.e,.slice c.a c.n c.c] 62)).alloc (.cells #[.int .i64 c2.e,.slice c2.a c2.n c2.c] 62)) (hd.same fun b q=>⟨Nat.lt_of_lt_of_le q hb.size,hb.block b q⟩) (hd2.same fun b q=>⟨Nat.lt_of_lt_of_le q hb.size,hb.block b q⟩)
 rw[←hu] at hc
 have HCC:=hid hc
 have HB:=hid hb
 have R:=hid (show hU d d2=(u==0) by rw[hu,yD])
 have h0:=(aC (.cells #[.int .i64 c2.e,.slice c2.a c2.n c2.c] 62) (heap_alloc_new w (.cells #[.int .i64 c.e,.slice c.a c.n c.c] 62)))
 have e0:=aA h0 0
 have e1:=aA h0 1
 clear hc hb hd hd2 hu h0
 go_enter Tryz.func45,Tryz.ntmps45
 go_wp2_with (go_at_call 116;refine HCC.out.mono ?_;rintro e w2 ⟨rfl,hb2⟩)
 go_ret
 exact⟨retB R.out.symm,HB.out.trans (hb2.mono HB.out.size)⟩
end
section
open Go Go.RowKit Go.Shelf
def uB (n t:Int):Int:=if n < -999999999999999∨999999999999999<n∨t<0∨17592186044416<t then 2 else 0
theorem lC (n t:Int) (w:World):Calls Tryz.prog 103 #[.int .i64 n,.int .i64 t] w fun e w'=>e=.returned (.int .i64 (uB n t))∧w=w':=by
 go_enter Tryz.func103,Tryz.ntmps103
 by_cases h1:n < -999999999999999<;>by_cases h2:999999999999999<n<;>by_cases h3:t<0<;>by_cases h4:17592186044416<t
 all_goals go_wp2
 all_goals go_ret
 all_goals exact⟨by simp[uB, *],rfl⟩
def nW (l:List Msg) (s:St):Bool:=l.any fun m=>hU m.st s
theorem wP (x:MC) (d:Msg) (cm:SC) (s:St) (mb:Nat) (w:World) (hd:IsMsg (· < w.heap.size) w x d) (hs:IsSt (· < w.heap.size) w cm s) (h0:w.cell? ⟨mb,0,none⟩=some (.int .i64 cm.e)) (h1:w.cell? ⟨mb,1,none⟩=some (.slice cm.a cm.n cm.c)) :
 Calls Tryz.prog 175 #[x.v,.pointer (some ⟨mb,0,none⟩)] w fun e w'=>e=.returned (.bool (hU d.st s))∧Below w.heap.size w w':=by
 have hb:Below w.heap.size w (w.alloc (mObj x)):=(bR w).alloc lr _
 have hc:=fN x.st cm d.st s (w.alloc (mObj x)) (hd.st.same fun b q=>⟨Nat.lt_of_lt_of_le q hb.size,hb.block b q⟩) (hs.same fun b q=>⟨Nat.lt_of_lt_of_le q hb.size,hb.block b q⟩)
 have hmb:=World.block_lt_of_cell? w _ h0
 have k0:(w.alloc (mObj x)).cell? ⟨mb,0,none⟩=some (.int .i64 cm.e):=(World.cell?_of_block (w:=w) (a:=⟨mb,0,none⟩) (hb.block mb hmb)).trans h0
 have k1:(w.alloc (mObj x)).cell? ⟨mb,1,none⟩=some (.slice cm.a cm.n cm.c):=(World.cell?_of_block (w:=w) (a:=⟨mb,1,none⟩) (hb.block mb hmb)).trans h1
 have HC:=hid hc
 have HB:=hid hb
 clear hc hb hd hs h0 h1 hmb
 dsimp only[mObj,MC.v,SC.v] at HC HB k0 k1 ⊢
 go_enter Tryz.func175,Tryz.ntmps175
 go_wp2_with (go_at_call 45;refine HC.out.mono ?_;rintro e w2 ⟨rfl,hb2⟩)
 go_ret
 exact⟨rfl,HB.out.trans (hb2.mono HB.out.size)⟩
theorem aAk (a:Option Addr) (n c:Nat) (l:List Msg) (cm:SC) (s:St) (mb:Nat) (w:World) (hd:IsRow msgK (· < w.heap.size) w a n c l) (hs:IsSt (· < w.heap.size) w cm s) (h0:w.cell? ⟨mb,0,none⟩=some (.int .i64 cm.e)) (h1:w.cell? ⟨mb,1,none⟩=some (.slice cm.a cm.n cm.c)) :
 Calls Tryz.prog 235 #[.slice a n c,.func (.func 175) #[] #[.pointer (some ⟨mb,0,none⟩)]] w (IdxPost w (nW l s)):=by
 have hen:∀args w,(callFunc 175 args).run Tryz.prog w=.ok (.enter 175 args) w:=enters_of Tryz.func175 (by kernel_rfl) rfl
 have hbig:=hd.big
 have HL:=hid hd.len
 have HD:=hid hd
 have HS:=hid hs
 have HM:=hid (And.intro h0 h1)
 clear hd hs h0 h1
 go_enter Tryz.func235,Tryz.ntmps235
 go_wp2
 go_loopw [8] (fun i wr=>∃k:Nat,k≤n∧i=.int .i64 k∧(∀j (hj:j<l.length),j<k→hU l[j].st s=false)∧Below w.heap.size w wr) (fun i _=>n-(intOf i).toNat)
 case atStart=>exact⟨0,Nat.zero_le _,rfl,fun j _ h=>absurd h (Nat.not_lt_zero j),Below.refl _ _⟩
 case round =>
  obtain⟨k,hk,rfl,hall,hbr⟩:=hrel
  obtain⟨wp,rfl⟩:∃w1:World,w1=wr:=⟨_,rfl⟩
  have HA:=hid hall
  have HBR:=hid hbr
  clear hall
  by_cases hlt:k<n
  ·have hkl:k<l.length:=by have:=HL.out;omega
   obtain⟨b,o,rfl,hb,hx⟩:=HD.out.slot (show 0<n by omega)
   obtain⟨x,hxa,hxi⟩:=hx k hkl
   obtain⟨x0,x1,x2,x3,x4,x5,x6,x7,x8,x9⟩:=(hxa.same (hbr.block b hb)).m
   have hlt':(k:Int)<(n:Int):=by omega
   have hk0:(0:Int)≤(k:Int):=by omega
   have hn63:(n:Int)≤9223372036854775807:=by omega
   obtain⟨u,hu⟩:∃u,u=hU l[k].st s:=⟨_,rfl⟩
   have hmb:=World.block_lt_of_cell? w _ HM.out.1
   have HC:Hid (Calls Tryz.prog 175 #[x.v,.pointer (some ⟨mb,0,none⟩)] wp fun e w'=>e=.returned (.bool u)∧Below wp.heap.size wp w'):=hid (by
    rw[hu]
    have hs:=hbr.size
    exact wP x l[k] cm s mb wp (hxi.same fun b q=>⟨by omega,hbr.block b q⟩) (HS.out.same fun b q=>⟨by omega,hbr.block b q⟩) ((World.cell?_of_block (w:=w) (a:=⟨mb,0,none⟩) (hbr.block mb hmb)).trans HM.out.1) ((World.cell?_of_block (w:=w) (a:=⟨mb,1,none⟩) (hbr.block mb hmb)).trans HM.out.2))
   have HU:=hid hu
   dsimp only[MC.v] at HC
   clear hu hx hxa hxi hbr hb hmb
   cases u with
   | true =>
     go_wp2_with (go_at_call 175;refine HC.out.mono ?_;rintro e w3 ⟨rfl,hb3⟩)
     go_ret
     exact⟨⟨k,rfl,⟨fun _=>by rw[nW,List.any_eq_true];exact⟨_,List.getElem_mem hkl,HU.out.symm⟩,fun _=>by omega⟩⟩,HBR.out.trans (hb3.mono HBR.out.size)⟩
   | false =>
     go_wp2_with (go_at_call 175;refine HC.out.mono ?_;rintro e w3 ⟨rfl,hb3⟩)
     go_roundw
     case rel=>exact⟨k+1,by omega,by go_num,fun j hj h=>by
      by_cases hjk:j<k
      ·exact HA.out j hj hjk
      ·obtain rfl:j=k:=by omega
       exact HU.out.symm,HBR.out.trans (hb3.mono HBR.out.size)⟩
     case measure=>simp[intOf];omega
  ·obtain rfl:k=n:=by omega
   go_wp2
   go_ret
   refine⟨⟨-1,rfl,⟨fun h=>by omega,fun h=>?_⟩⟩,hbr⟩
   exfalso
   rw[nW,List.any_eq_true] at h
   obtain⟨m,hm,he⟩:=h
   obtain⟨j,hj,rfl⟩:=List.getElem_of_mem hm
   rw[HA.out j hj (by have:=HL.out;omega)] at he
   cases he
theorem aAm (a:Option Addr) (n c:Nat) (l:List Msg) (cm:SC) (s:St) (mb:Nat) (w:World) (hd:IsRow msgK (· < w.heap.size) w a n c l) (hs:IsSt (· < w.heap.size) w cm s) (h0:w.cell? ⟨mb,0,none⟩=some (.int .i64 cm.e)) (h1:w.cell? ⟨mb,1,none⟩=some (.slice cm.a cm.n cm.c)) :
 Calls Tryz.prog 174 #[.slice a n c,.func (.func 175) #[] #[.pointer (some ⟨mb,0,none⟩)]] w fun e w'=>e=.returned (.bool (nW l s))∧Below w.heap.size w w':=by
 obtain⟨p,hp⟩:∃p,p=nW l s:=⟨_,rfl⟩
 have hc:=aAk a n c l cm s mb w hd hs h0 h1
 rw[←hp] at hc ⊢
 have HC:=hid hc
 clear hc hd hs h0 h1 hp
 go_enter Tryz.func174,Tryz.ntmps174
 cases p with
 | true =>
   go_wp2_with (go_at_call 235;refine HC.out.mono ?_;rintro e w2 ⟨⟨k,rfl,hk⟩,hb2⟩;have hk0:0≤k:=hk.2 rfl;clear hk)
   go_ret
   exact⟨rfl,hb2⟩
 | false =>
   go_wp2_with (go_at_call 235;refine HC.out.mono ?_;rintro e w2 ⟨⟨k,rfl,hk⟩,hb2⟩;have hk0:k<0:=Int.not_le.1 (fun h=>absurd (hk.1 h) (by decide));have hk1:decide (0≤k)=false:=decide_eq_false (by omega);clear hk)
   go_ret
   exact⟨rfl,hb2⟩
end
end Go.Proofs.YteladbdfiannjaaGreatDoor
