/-
  Contract of slices.CompareFunc over numbers. Condition: the slices can be read.
-/
import Derived.Test.YtaofolgaiipcjaaGreatDoorJP10Mrg
namespace Go.Proofs.YtaofolgaiipcjaaGreatDoor
set_option linter.unusedVariables false
set_option maxRecDepth 100000
set_option maxHeartbeats 16000000
set_option linter.unusedSimpArgs false
section
open Go Go.RowKit Go.Shelf
theorem cmp1_call (x y:Int) (w:World):Calls Tryz.prog 222 #[.int .i64 x,.int .i64 y] w fun e w'=>e=.returned (.int .i64 (Lib.compareInt x y))∧w=w':=by
 go_enter Tryz.func222,Tryz.ntmps222
 go_wp2_with (go_at_call 175;refine(Tryz.cmp_Compare_int _ _ _).mono ?_;rintro e w' ⟨rfl,rfl⟩)
 go_ret
 exact⟨rfl,rfl⟩
theorem cmpInts_call (S S':Nat→Prop) (a a':Option Addr) (n c n' c':Nat) (xs ys:List Int) (w:World) (hx:IsInts S w a n c xs) (hy:IsInts S' w a' n' c' ys) :
 Calls Tryz.prog 221 #[.slice a n c,.slice a' n' c',.func (.func 222) #[] #[]] w fun e w'=>e=.returned (.int .i64 (cmpI xs ys))∧w=w':=by
 have hen:∀args w,(callFunc 222 args).run Tryz.prog w=.ok (.enter 222 args) w:=enters_of Tryz.func222 (by kernel_rfl) rfl
 have hbig:=hx.big
 have hbig':=hy.big
 have HL:=hid hx.len
 have HL':=hid hy.len
 have HX:=hid hx
 have HY:=hid hy
 clear hx hy
 go_enter Tryz.func221,Tryz.ntmps221
 go_wp2
 go_loop [13] (fun i=>∃k:Nat,k≤n∧k≤n'∧i=.int .i64 k∧cmpI xs ys=cmpI (xs.drop k) (ys.drop k)) (fun i=>n-(intOf i).toNat)
 case atStart=>exact⟨0,Nat.zero_le _,Nat.zero_le _,rfl,rfl⟩
 case round =>
  obtain⟨k,hk,hk',rfl,hall⟩:=hrel
  have HA:=hid hall
  clear hall
  have hn63:(n:Int)≤9223372036854775807:=by omega
  have hn63':(n':Int)≤9223372036854775807:=by omega
  by_cases hlt:k<n
  ·have hkl:k<xs.length:=by have:=HL.out;omega
   obtain⟨b,o,rfl,hb,hc⟩:=HX.out.slot (show 0<n by omega)
   have hck:=hc k hkl
   clear hc
   have hlt':(k:Int)<(n:Int):=by omega
   by_cases hlt2:k<n'
   ·have hkl':k<ys.length:=by have:=HL'.out;omega
    obtain⟨b',o',rfl,hb',hc'⟩:=HY.out.slot (show 0<n' by omega)
    have hck':=hc' k hkl'
    clear hc'
    have hlt2':(k:Int)<(n':Int):=by omega
    have hd:=cmpI_drop xs ys k hkl hkl'
    obtain⟨z,hz⟩:∃z,z=xs[k]:=⟨_,rfl⟩
    obtain⟨y,hy⟩:∃y,y=ys[k]:=⟨_,rfl⟩
    rw[←hz,←hy] at hd
    rw[←hz] at hck
    rw[←hy] at hck'
    clear hz hy
    obtain⟨r,hr⟩:∃r,r=Lib.compareInt z y:=⟨_,rfl⟩
    rw[←hr] at hd
    have HD:=hid hd
    have hcc:=(cmp1_call z y w)
    rw[←hr] at hcc
    have HC:=hid hcc
    clear hr hd hcc
    by_cases h0:r=0
    ·subst h0
     go_wp2_with (go_at_call 222;refine HC.out.mono ?_;rintro e w' ⟨rfl,rfl⟩)
     go_round
     case rel=>exact⟨k+1,by omega,by omega,by go_num,by rw[HA.out,HD.out,if_neg (by simp)]⟩
     case measure=>simp[intOf];omega
    ·have H0:=hid h0
     go_wp2_with (go_at_call 222;refine HC.out.mono ?_;rintro e w' ⟨rfl,rfl⟩)
     go_ret
     exact⟨by rw[HA.out,HD.out,if_pos H0.out];rfl,rfl⟩
   ·obtain rfl:k=n':=by omega
    have r:=hid (HA.out.trans (cmpI_long xs ys k hkl HL'.out.symm))
    go_wp2
    go_ret
    exact⟨by rw[r.out];rfl,rfl⟩
  ·obtain rfl:k=n:=by omega
   by_cases hlt2:k<n'
   ·have hlt2':(k:Int)<(n':Int):=by omega
    have r:=hid (HA.out.trans (cmpI_short xs ys k HL.out.symm (by have:=HL'.out;omega)))
    go_wp2
    go_ret
    exact⟨by rw[r.out];rfl,rfl⟩
   ·obtain rfl:k=n':=by omega
    have r:=hid (HA.out.trans (cmpI_end xs ys k HL.out.symm HL'.out.symm))
    go_wp2
    go_ret
    exact⟨by rw[r.out];rfl,rfl⟩
end
section
open Go Go.RowKit Go.Shelf
end
section
open Go Go.RowKit Go.Shelf
def cmpSt (d d2:St):Int:=orL [Lib.compareInt d.e d2.e,cmpI d.ps d2.ps]
theorem cmpSt_zero (d d2:St):(cmpSt d d2==0)=stEqB d d2:=by
 rw[Bool.eq_iff_iff]
 simp only[beq_iff_eq,cmpSt,orL,stEqB,decide_eq_true_eq]
 constructor
 ·intro h
  by_cases h1:Lib.compareInt d.e d2.e=0
  ·rw[if_neg (by simpa using h1)] at h
   by_cases h2:cmpI d.ps d2.ps=0
   ·exact⟨cmpInt_zero h1,cmpI_zero.1 h2⟩
   ·rw[if_pos h2] at h;exact absurd h h2
  ·rw[if_pos h1] at h;exact absurd h h1
 ·rintro⟨h1,h2⟩
  rw[h1,h2,cmpInt_refl,cmpI_zero.2 rfl]
  rfl
theorem stCompare_call (c c2:SC) (d d2:St) (w:World) (hd:IsSt (· < w.heap.size) w c d) (hd2:IsSt (· < w.heap.size) w c2 d2):Calls Tryz.prog 155 #[c.v,c2.v] w fun e w'=>e=.returned (.int .i64 (cmpSt d d2))∧Below w.heap.size w w':=by
 have HWB:Hid (Below w.heap.size w ((w.alloc (.cells #[.int .i64 c.e,.slice c.a c.n c.c] 28)).alloc (.cells #[.int .i64 c2.e,.slice c2.a c2.n c2.c] 28))):=hid (((Below.refl _ w).alloc (Nat.le_refl _) _).alloc (by simp) _)
 have HCI:Hid (∀w',Below ((w.alloc (.cells #[.int .i64 c.e,.slice c.a c.n c.c] 28)).alloc (.cells #[.int .i64 c2.e,.slice c2.a c2.n c2.c] 28)).heap.size ((w.alloc (.cells #[.int .i64 c.e,.slice c.a c.n c.c] 28)).alloc (.cells #[.int .i64 c2.e,.slice c2.a c2.n c2.c] 28)) w'→Calls Tryz.prog 221 #[.slice c.a c.n c.c,.slice c2.a c2.n c2.c,.func (.func 222) #[] #[]] w' fun e w2=>e=.returned (.int .i64 (cmpI d.ps d2.ps))∧Below w'.heap.size w' w2):=hid fun w' h=>by
  have hb:=HWB.out.trans (h.mono HWB.out.size)
  exact(cmpInts_call _ _ _ _ _ _ _ _ _ _ w' (hd.ps.same (S':=fun b=>b<w'.heap.size) fun b q=>⟨Nat.lt_of_lt_of_le q hb.size,hb.block b q⟩) (hd2.ps.same (S':=fun b=>b<w'.heap.size) fun b q=>⟨Nat.lt_of_lt_of_le q hb.size,hb.block b q⟩)).mono fun e w2 ⟨he,hw⟩=>⟨he,by rw[hw];exact Below.refl _ _⟩
 have HC:Hid (∀w',Below ((w.alloc (.cells #[.int .i64 c.e,.slice c.a c.n c.c] 28)).alloc (.cells #[.int .i64 c2.e,.slice c2.a c2.n c2.c] 28)).heap.size ((w.alloc (.cells #[.int .i64 c.e,.slice c.a c.n c.c] 28)).alloc (.cells #[.int .i64 c2.e,.slice c2.a c2.n c2.c] 28)) w'→w'.cell? ⟨w.heap.size,0,none⟩=some (.int .i64 c.e)∧w'.cell? ⟨w.heap.size,1,none⟩=some (.slice c.a c.n c.c)∧w'.cell? ⟨w.heap.size+1,0,none⟩=some (.int .i64 c2.e)∧w'.cell? ⟨w.heap.size+1,1,none⟩=some (.slice c2.a c2.n c2.c)):=hid fun w' h=>by
  have h0:=heapExt h (heapAlloc (.cells #[.int .i64 c2.e,.slice c2.a c2.n c2.c] 28) (heap_alloc_new w (.cells #[.int .i64 c.e,.slice c.a c.n c.c] 28)))
  have h1:=heapExt h (heapNewAt (w.alloc (.cells #[.int .i64 c.e,.slice c.a c.n c.c] 28)) (.cells #[.int .i64 c2.e,.slice c2.a c2.n c2.c] 28) (w.heap.size+1) (by simp))
  exact⟨cellOf h0 0,cellOf h0 1,cellOf h1 0,cellOf h1 1⟩
 have R:Hid (cmpSt d d2=orL [Lib.compareInt c.e c2.e,cmpI d.ps d2.ps]):=hid (by rw[hd.e,hd2.e];rfl)
 clear hd hd2
 go_enter Tryz.func155,Tryz.ntmps155
 go_upto_region 1 with (fail)
 refine wp_region_split 12 (fun w'=>Below ((w.alloc (.cells #[.int .i64 c.e,.slice c.a c.n c.c] 28)).alloc (.cells #[.int .i64 c2.e,.slice c2.a c2.n c2.c] 28)).heap.size ((w.alloc (.cells #[.int .i64 c.e,.slice c.a c.n c.c] 28)).alloc (.cells #[.int .i64 c2.e,.slice c2.a c2.n c2.c] 28)) w') (by kernel_rfl) (by kernel_rfl) (by kernel_rfl) (by decide) ((Below.refl _ _).drew) (fun hS=>?_)
 simp only[List.take_succ_cons,List.take_zero,List.drop_succ_cons,List.drop_zero]
 refine tkQ 0 (v:=?_) ?_ hS ?_;rotate_left;· intro w' hw';have hcells:=HC.out w' hw';go_simp;(try with_reducible rfl)
 simp only[Act.put,pt1,pt2,pt3,pt4,pt5,pt6]
 refine tkQ 1 (v:=?_) ?_ hS ?_;rotate_left;· intro w' hw';have hcells:=HC.out w' hw';go_simp;(try with_reducible rfl)
 simp only[Act.put,pt1,pt2,pt3,pt4,pt5,pt6]
 refine tkQ 2 (v:=?_) ?_ hS ?_;rotate_left;· intro w' hw';have hcells:=HC.out w' hw';go_simp;(try with_reducible rfl)
 simp only[Act.put,pt1,pt2,pt3,pt4,pt5,pt6]
 refine tkQ 3 (v:=?_) ?_ hS ?_;rotate_left;· intro w' hw';have hcells:=HC.out w' hw';go_simp;(try with_reducible rfl)
 simp only[Act.put,pt1,pt2,pt3,pt4,pt5,pt6]
 refine tkQ 5 (v:=?_) ?_ hS ?_;rotate_left;· intro w' hw';have hcells:=HC.out w' hw';go_simp;(try with_reducible rfl)
 simp only[Act.put,pt1,pt2,pt3,pt4,pt5,pt6]
 refine tkQ 6 (v:=?_) ?_ hS ?_;rotate_left;· intro w' hw';have hcells:=HC.out w' hw';go_simp;(try with_reducible rfl)
 simp only[Act.put,pt1,pt2,pt3,pt4,pt5,pt6]
 refine tkQ 7 (v:=?_) ?_ hS ?_;rotate_left;· intro w' hw';have hcells:=HC.out w' hw';go_simp;(try with_reducible rfl)
 simp only[Act.put,pt1,pt2,pt3,pt4,pt5,pt6]
 refine tkQ 8 (v:=?_) ?_ hS ?_;rotate_left;· intro w' hw';have hcells:=HC.out w' hw';go_simp;(try with_reducible rfl)
 simp only[Act.put,pt1,pt2,pt3,pt4,pt5,pt6]
 refine wpAnyH_ready (rs:=[4]) (by kernel_rfl) (by simp) ?_
 refine AllReadyH.cons (o:=_) rfl (fun K hK=>?_) AllReadyH.nil
 go_simp;go_at_call 175;refine(Tryz.cmp_Compare_int _ _ _).mono ?_
 rintro e w1 ⟨rfl,rfl⟩
 refine hK.out _ _ (hS) (fun hS=>?_)
 clear hK K
 (try simp only[Act.put,pt1,pt2,pt3,pt4,pt5,pt6])
 refine wpAnyH_ready (rs:=[9]) (by kernel_rfl) (by simp) ?_
 refine AllReadyH.cons (o:=_) rfl (fun K hK=>?_) AllReadyH.nil
 go_simp;go_at_call 221;refine(HCI.out _ hS).mono ?_
 rintro e w2 ⟨rfl,hb1⟩
 refine hK.out _ _ (hS.trans (hb1.mono hS.size)) (fun hS=>?_)
 clear hK K
 (try simp only[Act.put,pt1,pt2,pt3,pt4,pt5,pt6])
 refine wpAnyH_ready (rs:=[10]) (by kernel_rfl) (by simp) ?_
 refine AllReadyH.cons (o:=_) rfl (fun K hK=>?_) AllReadyH.nil
 go_simp
 refine hK.out _ _ (hS.trans (((Below.refl _ _).alloc (Nat.le_refl _) _).mono hS.size)) (fun hS=>?_)
 clear hK K
 (try simp only[Act.put,pt1,pt2,pt3,pt4,pt5,pt6])
 refine wpAnyH_ready (rs:=[11]) (by kernel_rfl) (by simp) ?_
 refine AllReadyH.cons (o:=_) rfl (fun K hK=>?_) AllReadyH.nil
 go_simp;go_at_call 174;refine(or_new [Lib.compareInt c.e c2.e,cmpI d.ps d2.ps] w2 _ (by simp)).mono ?_
 rintro e w3 ⟨rfl,rfl⟩
 refine hK.out _ _ (hS) (fun hS=>?_)
 clear hK K
 (try simp only[Act.put,pt1,pt2,pt3,pt4,pt5,pt6])
 refine wpAnyH_done (by kernel_rfl) ?_ _
 (try dsimp only)
 go_wp2
 go_ret
 exact⟨by rw[R.out];rfl,HWB.out.trans (hS.mono HWB.out.size)⟩
theorem stEqual_call (c c2:SC) (d d2:St) (w:World) (hd:IsSt (· < w.heap.size) w c d) (hd2:IsSt (· < w.heap.size) w c2 d2):Calls Tryz.prog 51 #[c.v,c2.v] w fun e w'=>e=.returned (.bool (stEqB d d2))∧Below w.heap.size w w':=by
 have hb:Below w.heap.size w ((w.alloc (.cells #[.int .i64 c.e,.slice c.a c.n c.c] 28)).alloc (.cells #[.int .i64 c2.e,.slice c2.a c2.n c2.c] 28)):=(((Below.refl _ w).alloc (Nat.le_refl _) _).alloc (by simp) _)
 obtain⟨u,hu⟩:∃u,u=cmpSt d d2:=⟨_,rfl⟩
 have hc:=stCompare_call c c2 d d2 ((w.alloc (.cells #[.int .i64 c.e,.slice c.a c.n c.c] 28)).alloc (.cells #[.int .i64 c2.e,.slice c2.a c2.n c2.c] 28)) (hd.same fun b q=>⟨Nat.lt_of_lt_of_le q hb.size,hb.block b q⟩) (hd2.same fun b q=>⟨Nat.lt_of_lt_of_le q hb.size,hb.block b q⟩)
 rw[←hu] at hc
 have HCC:=hid hc
 have HB:=hid hb
 have R:=hid (show stEqB d d2=(u==0) by rw[hu,cmpSt_zero])
 have h0:=(heapAlloc (.cells #[.int .i64 c2.e,.slice c2.a c2.n c2.c] 28) (heap_alloc_new w (.cells #[.int .i64 c.e,.slice c.a c.n c.c] 28)))
 have e0:=cellOf h0 0
 have e1:=cellOf h0 1
 clear hc hb hd hd2 hu h0
 go_enter Tryz.func51,Tryz.ntmps51
 go_wp2_with (go_at_call 155;refine HCC.out.mono ?_;rintro e w2 ⟨rfl,hb2⟩)
 go_ret
 exact⟨retB R.out.symm,HB.out.trans (hb2.mono HB.out.size)⟩
end
end Go.Proofs.YtaofolgaiipcjaaGreatDoor
