/-
  decimal.Text of a number within its limits: the digits that TextLaw's decL says. Conditions: at most 15 digits, a scale from 0 to 12; Tabs.
-/
import Derived.Test.YtmgpghoamapfgaaGreatDoorJN12Mrg
namespace Go.Proofs.YtmgpghoamapfgaaGreatDoor
set_option linter.unusedVariables false
set_option maxRecDepth 100000
set_option maxHeartbeats 16000000
set_option linter.unusedSimpArgs false
open Go Go.RowKit Go.Shelf
theorem abs_call (n:Int) (m:Nat) (hm:m=n.natAbs) (hb:m≤999999999999999) (w:World):Calls Tryz.prog 270 #[.int .i64 n] w fun e w'=>e=.returned (.int .i64 (m:Int))∧w=w':=by
 have w1:IntKind.i64.wrap (-n) = -n:=IntWalk.i64_in _ (by omega)
 have emax:max n (-n)=(m:Int):=by omega
 clear hm hb
 go_enter Tryz.func270,Tryz.ntmps270
 go_wp2
 go_ret
 exact⟨rfl,rfl⟩
theorem dec_glue (m s:Nat) (hs:1≤s) (t:ByteArray) (ht:t=⟨(Lib.decDigits m).toArray⟩) (c:Nat) (hc:c=s+1-t.size) (z:ByteArray) (hz:z=⟨(Lib.repeatL (⟨#[48]⟩:ByteArray).data.toList c).toArray⟩) (u:ByteArray) (hu:u=z++t) (p:Nat) (hp:p=u.size-s) :
 u.extract 0 p++⟨#[46]⟩++u.extract p u.size=⟨(decAbs m s).toArray⟩:=by
 have hts:t.size=(Lib.decDigits m).length:=by rw[ht,bSize]
 have hr:Lib.repeatL (⟨#[48]⟩:ByteArray).data.toList c=List.replicate c 48:=repeat1 48 c
 have hul:u=⟨(List.replicate c 48++Lib.decDigits m).toArray⟩:=by rw[hu,hz,ht,bAppend,hr]
 have hus:u.size=c+(Lib.decDigits m).length:=by rw[hul,bSize];simp
 have hs0:¬ s=0:=by omega
 rw[decAbs,if_neg hs0,←hts,←hc,hts,←hus,←hp,hul,ByteArray.extract_mk,ByteArray.extract_mk,show(⟨#[46]⟩:ByteArray)=⟨[46].toArray⟩ from rfl,bAppend,bAppend]
 congr 2
 rw[List.append_assoc]
 congr 1
 rw[bSize,List.take_of_length_le (by simp)]
 rfl
theorem decCheck_call (n:Int) (s:Nat) (h1:n.natAbs≤999999999999999) (h2:s≤12) (w:World):Calls Tryz.prog 269 #[.agg #[.int .i64 n,.int .i64 (s:Int)]] w fun e w'=>e=.returned (.int .i64 0)∧Below w.heap.size w w':=by
 obtain⟨m,hm⟩:∃m,m=n.natAbs:=⟨_,rfl⟩
 have HA:=hid (fun w=>abs_call n m hm (by omega) w)
 have k1:¬ (999999999999999:Int)<(m:Int):=by omega
 have k2:¬ n < -999999999999999:=by omega
 have k3:¬ (s:Int)<0:=by omega
 have k4:¬ (12:Int)<(s:Int):=by omega
 clear hm h1 h2
 go_enter Tryz.func269,Tryz.ntmps269
 go_wp2_with (go_at_call 270;refine(HA.out _).mono ?_;rintro e w' ⟨rfl,rfl⟩)
 go_ret
 exact⟨rfl,(Below.refl _ w).alloc (Nat.le_refl _) _⟩
theorem textDZ_call (n:Int) (m s:Nat) (hm:m=n.natAbs) (hmb:m≤999999999999999) (hs:s=0) (hneg:0≤n) (w:World) (hT:Tabs w) :
 Calls Tryz.prog 217 #[.agg #[.int .i64 n,.int .i64 (s:Int)]] w fun e w'=>e=.returned (.tuple #[.string ⟨(decL n s).toArray⟩,.int .i64 0])∧Below w.heap.size w w':=by
 have HCK:=hid (decCheck_call n s (by omega) (by omega) (w.alloc (.cells #[.int .i64 n,.int .i64 (s:Int)] 221)))
 have HAB:=hid (fun w=>abs_call n m hm (by omega) w)
 have hlen:=decDigits_le m 15 (by omega) (by decide)
 obtain⟨t,ht⟩:∃t:ByteArray,t=itoaB (m:Int):=⟨_,rfl⟩
 have htD:t=⟨(Lib.decDigits m).toArray⟩:=by rw[ht];unfold itoaB;rw[Lib.itoa_nonneg]
 have hts:t.size=(Lib.decDigits m).length:=by rw[htD,bSize]
 have hI:=fun w hT=>(itoa_call (m:Int) ⟨by omega,by omega⟩ w hT)
 rw[←ht] at hI
 have HI:=hid hI
 have HTD:=hid htD
 have HTS:=hid hts
 have htz:t.size≤15:=by omega
 have hb0:Below w.heap.size w (w.alloc (.cells #[.int .i64 n,.int .i64 (s:Int)] 221)):=(Below.refl _ w).alloc (Nat.le_refl _) _
 have HB0:=hid hb0
 have HX0:=hid (heap_alloc_new w (.cells #[.int .i64 n,.int .i64 (s:Int)] 221))
 have HC:=hid (fun (w':World) (h:w'.heap[w.heap.size]?=some (.cells #[.int .i64 n,.int .i64 (s:Int)] 221))=>(show w'.cell? ⟨w.heap.size,0,none⟩=some (.int .i64 n)∧w'.cell? ⟨w.heap.size,1,none⟩=some (.int .i64 (s:Int)) from⟨cellOf h 0,cellOf h 1⟩))
 have hn0:¬ n<0:=by omega
 have hs0:¬ (0:Int)<(s:Int):=by omega
 have HM:=hid hm
 have HMB:=hid hmb
 have HS:=hid hs
 have HNG:=hid hneg
 clear hm hmb hs hneg hI ht htD hts hlen hb0
 go_enter Tryz.func217,Tryz.ntmps217
 go_wp2_with (first
  | (fail)
  | (go_at_call 35;refine(HI.out w1 (hT.below (HB0.out.trans (HB1.out.mono (by simp))))).mono ?_;rintro e w2 ⟨rfl,hb2⟩;have HX2:=hid (heapExt hb2 HX1.out);have HB2:=hid hb2;have hc2:=HC.out w2 HX2.out;clear hb2)
  | (go_at_call 270;refine(HAB.out _).mono ?_;rintro e w' ⟨rfl,rfl⟩)
  | (go_at_call 269;refine HCK.out.mono ?_;rintro e w1 ⟨rfl,hb1⟩;have HX1:=hid (heapExt hb1 HX0.out);have HB1:=hid hb1;have hc1:=HC.out w1 HX1.out;clear hb1))
 refine bodyPost_ret (v:=.tuple #[.string t,.int .i64 0]) (by simp[results,Tryz.results217,go_sem]) rfl ?_
 refine⟨?_,(HB0.out.trans (HB1.out.mono (by simp))).trans (HB2.out.mono (HB0.out.trans (HB1.out.mono (by simp))).size)⟩
 have hs':=HS.out
 subst hs'
 rw[HTD.out]
 unfold decL decAbs
 rw[←HM.out,if_neg (by omega)]
 rfl
theorem textDZN_call (n:Int) (m s:Nat) (hm:m=n.natAbs) (hmb:m≤999999999999999) (hs:s=0) (hneg:n<0) (w:World) (hT:Tabs w) :
 Calls Tryz.prog 217 #[.agg #[.int .i64 n,.int .i64 (s:Int)]] w fun e w'=>e=.returned (.tuple #[.string ⟨(decL n s).toArray⟩,.int .i64 0])∧Below w.heap.size w w':=by
 have HCK:=hid (decCheck_call n s (by omega) (by omega) (w.alloc (.cells #[.int .i64 n,.int .i64 (s:Int)] 221)))
 have HAB:=hid (fun w=>abs_call n m hm (by omega) w)
 have hlen:=decDigits_le m 15 (by omega) (by decide)
 obtain⟨t,ht⟩:∃t:ByteArray,t=itoaB (m:Int):=⟨_,rfl⟩
 have htD:t=⟨(Lib.decDigits m).toArray⟩:=by rw[ht];unfold itoaB;rw[Lib.itoa_nonneg]
 have hts:t.size=(Lib.decDigits m).length:=by rw[htD,bSize]
 have hI:=fun w hT=>(itoa_call (m:Int) ⟨by omega,by omega⟩ w hT)
 rw[←ht] at hI
 have HI:=hid hI
 have HTD:=hid htD
 have HTS:=hid hts
 have htz:t.size≤15:=by omega
 have hb0:Below w.heap.size w (w.alloc (.cells #[.int .i64 n,.int .i64 (s:Int)] 221)):=(Below.refl _ w).alloc (Nat.le_refl _) _
 have HB0:=hid hb0
 have HX0:=hid (heap_alloc_new w (.cells #[.int .i64 n,.int .i64 (s:Int)] 221))
 have HC:=hid (fun (w':World) (h:w'.heap[w.heap.size]?=some (.cells #[.int .i64 n,.int .i64 (s:Int)] 221))=>(show w'.cell? ⟨w.heap.size,0,none⟩=some (.int .i64 n)∧w'.cell? ⟨w.heap.size,1,none⟩=some (.int .i64 (s:Int)) from⟨cellOf h 0,cellOf h 1⟩))
 have hn0:n<0:=by omega
 have hs0:¬ (0:Int)<(s:Int):=by omega
 have HM:=hid hm
 have HMB:=hid hmb
 have HS:=hid hs
 have HNG:=hid hneg
 clear hm hmb hs hneg hI ht htD hts hlen hb0
 go_enter Tryz.func217,Tryz.ntmps217
 go_wp2_with (first
  | (fail)
  | (go_at_call 35;refine(HI.out w1 (hT.below (HB0.out.trans (HB1.out.mono (by simp))))).mono ?_;rintro e w2 ⟨rfl,hb2⟩;have HX2:=hid (heapExt hb2 HX1.out);have HB2:=hid hb2;have hc2:=HC.out w2 HX2.out;clear hb2)
  | (go_at_call 270;refine(HAB.out _).mono ?_;rintro e w' ⟨rfl,rfl⟩)
  | (go_at_call 269;refine HCK.out.mono ?_;rintro e w1 ⟨rfl,hb1⟩;have HX1:=hid (heapExt hb1 HX0.out);have HB1:=hid hb1;have hc1:=HC.out w1 HX1.out;clear hb1))
 refine bodyPost_ret (v:=.tuple #[.string (⟨#[45]⟩++t),.int .i64 0]) (by simp[results,Tryz.results217,go_sem]) rfl ?_
 refine⟨?_,(HB0.out.trans (HB1.out.mono (by simp))).trans (HB2.out.mono (HB0.out.trans (HB1.out.mono (by simp))).size)⟩
 have hs':=HS.out
 subst hs'
 rw[HTD.out]
 unfold decL decAbs
 rw[←HM.out,if_pos hn0]
 rw[show(⟨#[45]⟩:ByteArray)=⟨[45].toArray⟩ from rfl,bAppend];rfl
theorem textDP_call (n:Int) (m s:Nat) (hm:m=n.natAbs) (hmb:m≤999999999999999) (hs:1≤s∧s≤12) (hneg:0≤n) (w:World) (hT:Tabs w) :
 Calls Tryz.prog 217 #[.agg #[.int .i64 n,.int .i64 (s:Int)]] w fun e w'=>e=.returned (.tuple #[.string ⟨(decL n s).toArray⟩,.int .i64 0])∧Below w.heap.size w w':=by
 have HCK:=hid (decCheck_call n s (by omega) (by omega) (w.alloc (.cells #[.int .i64 n,.int .i64 (s:Int)] 221)))
 have HAB:=hid (fun w=>abs_call n m hm (by omega) w)
 have hlen:=decDigits_le m 15 (by omega) (by decide)
 obtain⟨t,ht⟩:∃t:ByteArray,t=itoaB (m:Int):=⟨_,rfl⟩
 have htD:t=⟨(Lib.decDigits m).toArray⟩:=by rw[ht];unfold itoaB;rw[Lib.itoa_nonneg]
 have hts:t.size=(Lib.decDigits m).length:=by rw[htD,bSize]
 have hI:=fun w hT=>(itoa_call (m:Int) ⟨by omega,by omega⟩ w hT)
 rw[←ht] at hI
 have HI:=hid hI
 have HTD:=hid htD
 have HTS:=hid hts
 have htz:t.size≤15:=by omega
 have hb0:Below w.heap.size w (w.alloc (.cells #[.int .i64 n,.int .i64 (s:Int)] 221)):=(Below.refl _ w).alloc (Nat.le_refl _) _
 have HB0:=hid hb0
 have HX0:=hid (heap_alloc_new w (.cells #[.int .i64 n,.int .i64 (s:Int)] 221))
 have HC:=hid (fun (w':World) (h:w'.heap[w.heap.size]?=some (.cells #[.int .i64 n,.int .i64 (s:Int)] 221))=>(show w'.cell? ⟨w.heap.size,0,none⟩=some (.int .i64 n)∧w'.cell? ⟨w.heap.size,1,none⟩=some (.int .i64 (s:Int)) from⟨cellOf h 0,cellOf h 1⟩))
 have hn0:¬ n<0:=by omega
 have hs0:(0:Int)<(s:Int):=by omega
 have HM:=hid hm
 have HMB:=hid hmb
 have HS:=hid hs
 have HNG:=hid hneg
 clear hm hmb hs hneg hI ht htD hts hlen hb0
 obtain⟨c,hc⟩:∃c:Nat,c=s+1-t.size:=⟨_,rfl⟩
 have wsx:IntKind.i64.wrap ((s:Int)+1)=(s:Int)+1:=IntWalk.i64_in _ (by have:=HS.out;omega)
 have wsy:IntKind.i64.wrap ((s:Int)+1-(t.size:Int))=(s:Int)+1-(t.size:Int):=IntWalk.i64_in _ (by have:=HS.out;omega)
 have emax:max 0 ((s:Int)+1-(t.size:Int))=(c:Int):=by omega
 have hcz:c≤13:=by have:=HS.out;omega
 obtain⟨z,hz⟩:∃z:ByteArray,z=⟨(Lib.repeatL (⟨#[48]⟩:ByteArray).data.toList c).toArray⟩:=⟨_,rfl⟩
 have hR:=fun w=>Tryz.strings_Repeat ⟨#[48]⟩ c w (by omega) (by have:(⟨#[48]⟩:ByteArray).size=1:=rfl;rw[this];omega)
 rw[←hz] at hR
 have HR:=hid hR
 have hzs:z.size=c:=by rw[hz,bSize,Lib.repeatL_length];simp
 have hg:z.size+t.size≤9223372036854775807:=by omega
 have HZ:=hid hz
 obtain⟨u,hu⟩:∃u:ByteArray,u=z++t:=⟨_,rfl⟩
 have huz:u.size=z.size+t.size:=by rw[hu];simp
 have hus:s+1≤u.size∧u.size≤28:=by omega
 have HU:=hid hu
 have HCC:=hid hc
 obtain⟨p,hp⟩:∃p:Nat,p=u.size-s:=⟨_,rfl⟩
 have wp:IntKind.i64.wrap ((u.size:Int)-(s:Int))=(p:Int):=by rw[IntWalk.i64_in _ (by omega)];omega
 have p0:(0:Int)≤(p:Int):=by omega
 have p1:(p:Int)≤(u.size:Int):=by omega
 have p2:p≤u.size:=by omega
 obtain⟨x1,hx1⟩:∃x,u.extract 0 p=x:=⟨_,rfl⟩
 obtain⟨x2,hx2⟩:∃x,u.extract p u.size=x:=⟨_,rfl⟩
 have z1:x1.size≤28:=by rw[←hx1,ByteArray.size_extract];omega
 have z2:x2.size≤28:=by rw[←hx2,ByteArray.size_extract];omega
 have g1:x1.size+1≤9223372036854775807:=by omega
 have g2:x1.size+1+x2.size≤9223372036854775807:=by omega
 have g3:1+(x1.size+1+x2.size)≤9223372036854775807:=by omega
 have e1:(9223372036854775807<x1.size+1)=False:=eq_false (by omega)
 have e2:(9223372036854775807<x1.size+1+x2.size)=False:=eq_false (by omega)
 have HG:=hid (show x1++⟨#[46]⟩++x2=⟨(decAbs m s).toArray⟩ by rw[←hx1,←hx2];exact dec_glue m s (by have:=HS.out;omega) t HTD.out c hc z hz u hu p hp)
 clear hR hz hc hu hp z1 z2 huz
 go_enter Tryz.func217,Tryz.ntmps217
 go_upto_region 7 with (first
  | (go_at_call 245;refine(HR.out _).mono ?_;rintro e w3 ⟨rfl,hb3⟩;have HX3:=hid (heapExt hb3 HX2.out);have HB3:=hid hb3;have hc4:=HC.out w3 HX3.out;clear hb3)
  | (go_at_call 35;refine(HI.out w1 (hT.below (HB0.out.trans (HB1.out.mono (by simp))))).mono ?_;rintro e w2 ⟨rfl,hb2⟩;have HX2:=hid (heapExt hb2 HX1.out);have HB2:=hid hb2;have hc2:=HC.out w2 HX2.out;clear hb2)
  | (go_at_call 270;refine(HAB.out _).mono ?_;rintro e w' ⟨rfl,rfl⟩)
  | (go_at_call 269;refine HCK.out.mono ?_;rintro e w1 ⟨rfl,hb1⟩;have HX1:=hid (heapExt hb1 HX0.out);have HB1:=hid hb1;have hc1:=HC.out w1 HX1.out;clear hb1))
 rw[←HU.out]
 refine wp_region_split 16 (fun w'=>w'.heap[w.heap.size]?=some (.cells #[.int .i64 n,.int .i64 (s:Int)] 221)) (by kernel_rfl) (by kernel_rfl) (by kernel_rfl) (by decide) (HX3.out) (fun hS=>?_)
 simp only[List.take_succ_cons,List.take_zero,List.drop_succ_cons,List.drop_zero]
 refine tkQ 0 (v:=?_) ?_ hS ?_;rotate_left;· intro w' hw';have hcells:=HC.out w' hw';go_simp;(try with_reducible rfl)
 simp only[Act.put,pt1,pt2,pt3,pt4,pt5,pt6]
 refine tkQ 1 (v:=?_) ?_ hS ?_;rotate_left;· intro w' hw';have hcells:=HC.out w' hw';go_simp;(try with_reducible rfl)
 simp only[Act.put,pt1,pt2,pt3,pt4,pt5,pt6]
 refine tkQ 2 (v:=?_) ?_ hS ?_;rotate_left;· intro w' hw';have hcells:=HC.out w' hw';go_simp;(try with_reducible rfl)
 simp only[Act.put,pt1,pt2,pt3,pt4,pt5,pt6]
 refine tkQ 3 (v:=?_) ?_ hS ?_;rotate_left;· intro w' hw';have hcells:=HC.out w' hw';go_simp;(try with_reducible rfl)
 simp only[Act.put,pt1,pt2,pt3,pt4,pt5,pt6]
 refine tkQ 4 (v:=?_) ?_ hS ?_;rotate_left;· intro w' hw';have hcells:=HC.out w' hw';go_simp;(try with_reducible rfl)
 simp only[Act.put,pt1,pt2,pt3,pt4,pt5,pt6]
 refine tkQ 5 (v:=?_) ?_ hS ?_;rotate_left;· intro w' hw';have hcells:=HC.out w' hw';go_simp;(try with_reducible rfl)
 simp only[Act.put,pt1,pt2,pt3,pt4,pt5,pt6]
 refine tkQ 6 (v:=?_) ?_ hS ?_;rotate_left;· intro w' hw';have hcells:=HC.out w' hw';go_simp;(try with_reducible rfl)
 simp only[Act.put,pt1,pt2,pt3,pt4,pt5,pt6]
 refine tkQ 7 (v:=?_) ?_ hS ?_;rotate_left;· intro w' hw';have hcells:=HC.out w' hw';go_simp;(try with_reducible rfl)
 simp only[Act.put,pt1,pt2,pt3,pt4,pt5,pt6]
 refine tkQ 8 (v:=?_) ?_ hS ?_;rotate_left;· intro w' hw';have hcells:=HC.out w' hw';go_simp;(try with_reducible rfl)
 simp only[Act.put,pt1,pt2,pt3,pt4,pt5,pt6]
 refine tkQ 9 (v:=?_) ?_ hS ?_;rotate_left;· intro w' hw';have hcells:=HC.out w' hw';go_simp;(try with_reducible rfl)
 simp only[Act.put,pt1,pt2,pt3,pt4,pt5,pt6]
 refine tkQ 10 (v:=?_) ?_ hS ?_;rotate_left;· intro w' hw';have hcells:=HC.out w' hw';go_simp;(try with_reducible rfl)
 simp only[Act.put,pt1,pt2,pt3,pt4,pt5,pt6]
 refine tkQ 11 (v:=?_) ?_ hS ?_;rotate_left;· intro w' hw';have hcells:=HC.out w' hw';go_simp;(try with_reducible rfl)
 simp only[Act.put,pt1,pt2,pt3,pt4,pt5,pt6]
 refine tkQ 12 (v:=?_) ?_ hS ?_;rotate_left;· intro w' hw';have hcells:=HC.out w' hw';go_simp;(try with_reducible rfl)
 simp only[Act.put,pt1,pt2,pt3,pt4,pt5,pt6]
 refine tkQ 13 (v:=?_) ?_ hS ?_;rotate_left;· intro w' hw';have hcells:=HC.out w' hw';go_simp;(try with_reducible rfl)
 simp only[Act.put,pt1,pt2,pt3,pt4,pt5,pt6]
 refine tkQ 14 (v:=?_) ?_ hS ?_;rotate_left;· intro w' hw';have hcells:=HC.out w' hw';go_simp;(try with_reducible rfl)
 simp only[Act.put,pt1,pt2,pt3,pt4,pt5,pt6]
 refine tkQ 15 (v:=?_) ?_ hS ?_;rotate_left;· intro w' hw';have hcells:=HC.out w' hw';go_simp;(try with_reducible rfl)
 simp only[Act.put,pt1,pt2,pt3,pt4,pt5,pt6]
 refine wpAnyH_done (by kernel_rfl) ?_ _
 (try dsimp only)
 have HXS:=hid hS
 have hc9:=HC.out _ hS
 clear hS
 go_wp2
 refine bodyPost_ret (v:=.tuple #[.string (x1++⟨#[46]⟩++x2),.int .i64 0]) (by simp[results,Tryz.results217,go_sem]) rfl ?_
 have b1:=HB0.out.trans (HB1.out.mono (by simp))
 have b2:=b1.trans (HB2.out.mono b1.size)
 have b3:=b2.trans (HB3.out.mono b2.size)
 refine⟨?_,b3.drew⟩
 rw[HG.out]
 unfold decL
 rw[←HM.out,if_neg (by omega)]
 skip
theorem textDPN_call (n:Int) (m s:Nat) (hm:m=n.natAbs) (hmb:m≤999999999999999) (hs:1≤s∧s≤12) (hneg:n<0) (w:World) (hT:Tabs w) :
 Calls Tryz.prog 217 #[.agg #[.int .i64 n,.int .i64 (s:Int)]] w fun e w'=>e=.returned (.tuple #[.string ⟨(decL n s).toArray⟩,.int .i64 0])∧Below w.heap.size w w':=by
 have HCK:=hid (decCheck_call n s (by omega) (by omega) (w.alloc (.cells #[.int .i64 n,.int .i64 (s:Int)] 221)))
 have HAB:=hid (fun w=>abs_call n m hm (by omega) w)
 have hlen:=decDigits_le m 15 (by omega) (by decide)
 obtain⟨t,ht⟩:∃t:ByteArray,t=itoaB (m:Int):=⟨_,rfl⟩
 have htD:t=⟨(Lib.decDigits m).toArray⟩:=by rw[ht];unfold itoaB;rw[Lib.itoa_nonneg]
 have hts:t.size=(Lib.decDigits m).length:=by rw[htD,bSize]
 have hI:=fun w hT=>(itoa_call (m:Int) ⟨by omega,by omega⟩ w hT)
 rw[←ht] at hI
 have HI:=hid hI
 have HTD:=hid htD
 have HTS:=hid hts
 have htz:t.size≤15:=by omega
 have hb0:Below w.heap.size w (w.alloc (.cells #[.int .i64 n,.int .i64 (s:Int)] 221)):=(Below.refl _ w).alloc (Nat.le_refl _) _
 have HB0:=hid hb0
 have HX0:=hid (heap_alloc_new w (.cells #[.int .i64 n,.int .i64 (s:Int)] 221))
 have HC:=hid (fun (w':World) (h:w'.heap[w.heap.size]?=some (.cells #[.int .i64 n,.int .i64 (s:Int)] 221))=>(show w'.cell? ⟨w.heap.size,0,none⟩=some (.int .i64 n)∧w'.cell? ⟨w.heap.size,1,none⟩=some (.int .i64 (s:Int)) from⟨cellOf h 0,cellOf h 1⟩))
 have hn0:n<0:=by omega
 have hs0:(0:Int)<(s:Int):=by omega
 have HM:=hid hm
 have HMB:=hid hmb
 have HS:=hid hs
 have HNG:=hid hneg
 clear hm hmb hs hneg hI ht htD hts hlen hb0
 obtain⟨c,hc⟩:∃c:Nat,c=s+1-t.size:=⟨_,rfl⟩
 have wsx:IntKind.i64.wrap ((s:Int)+1)=(s:Int)+1:=IntWalk.i64_in _ (by have:=HS.out;omega)
 have wsy:IntKind.i64.wrap ((s:Int)+1-(t.size:Int))=(s:Int)+1-(t.size:Int):=IntWalk.i64_in _ (by have:=HS.out;omega)
 have emax:max 0 ((s:Int)+1-(t.size:Int))=(c:Int):=by omega
 have hcz:c≤13:=by have:=HS.out;omega
 obtain⟨z,hz⟩:∃z:ByteArray,z=⟨(Lib.repeatL (⟨#[48]⟩:ByteArray).data.toList c).toArray⟩:=⟨_,rfl⟩
 have hR:=fun w=>Tryz.strings_Repeat ⟨#[48]⟩ c w (by omega) (by have:(⟨#[48]⟩:ByteArray).size=1:=rfl;rw[this];omega)
 rw[←hz] at hR
 have HR:=hid hR
 have hzs:z.size=c:=by rw[hz,bSize,Lib.repeatL_length];simp
 have hg:z.size+t.size≤9223372036854775807:=by omega
 have HZ:=hid hz
 obtain⟨u,hu⟩:∃u:ByteArray,u=z++t:=⟨_,rfl⟩
 have huz:u.size=z.size+t.size:=by rw[hu];simp
 have hus:s+1≤u.size∧u.size≤28:=by omega
 have HU:=hid hu
 have HCC:=hid hc
 obtain⟨p,hp⟩:∃p:Nat,p=u.size-s:=⟨_,rfl⟩
 have wp:IntKind.i64.wrap ((u.size:Int)-(s:Int))=(p:Int):=by rw[IntWalk.i64_in _ (by omega)];omega
 have p0:(0:Int)≤(p:Int):=by omega
 have p1:(p:Int)≤(u.size:Int):=by omega
 have p2:p≤u.size:=by omega
 obtain⟨x1,hx1⟩:∃x,u.extract 0 p=x:=⟨_,rfl⟩
 obtain⟨x2,hx2⟩:∃x,u.extract p u.size=x:=⟨_,rfl⟩
 have z1:x1.size≤28:=by rw[←hx1,ByteArray.size_extract];omega
 have z2:x2.size≤28:=by rw[←hx2,ByteArray.size_extract];omega
 have g1:x1.size+1≤9223372036854775807:=by omega
 have g2:x1.size+1+x2.size≤9223372036854775807:=by omega
 have g3:1+(x1.size+1+x2.size)≤9223372036854775807:=by omega
 have e1:(9223372036854775807<x1.size+1)=False:=eq_false (by omega)
 have e2:(9223372036854775807<x1.size+1+x2.size)=False:=eq_false (by omega)
 have HG:=hid (show x1++⟨#[46]⟩++x2=⟨(decAbs m s).toArray⟩ by rw[←hx1,←hx2];exact dec_glue m s (by have:=HS.out;omega) t HTD.out c hc z hz u hu p hp)
 clear hR hz hc hu hp z1 z2 huz
 go_enter Tryz.func217,Tryz.ntmps217
 go_upto_region 7 with (first
  | (go_at_call 245;refine(HR.out _).mono ?_;rintro e w3 ⟨rfl,hb3⟩;have HX3:=hid (heapExt hb3 HX2.out);have HB3:=hid hb3;have hc4:=HC.out w3 HX3.out;clear hb3)
  | (go_at_call 35;refine(HI.out w1 (hT.below (HB0.out.trans (HB1.out.mono (by simp))))).mono ?_;rintro e w2 ⟨rfl,hb2⟩;have HX2:=hid (heapExt hb2 HX1.out);have HB2:=hid hb2;have hc2:=HC.out w2 HX2.out;clear hb2)
  | (go_at_call 270;refine(HAB.out _).mono ?_;rintro e w' ⟨rfl,rfl⟩)
  | (go_at_call 269;refine HCK.out.mono ?_;rintro e w1 ⟨rfl,hb1⟩;have HX1:=hid (heapExt hb1 HX0.out);have HB1:=hid hb1;have hc1:=HC.out w1 HX1.out;clear hb1))
 rw[←HU.out]
 refine wp_region_split 16 (fun w'=>w'.heap[w.heap.size]?=some (.cells #[.int .i64 n,.int .i64 (s:Int)] 221)) (by kernel_rfl) (by kernel_rfl) (by kernel_rfl) (by decide) (HX3.out) (fun hS=>?_)
 simp only[List.take_succ_cons,List.take_zero,List.drop_succ_cons,List.drop_zero]
 refine tkQ 0 (v:=?_) ?_ hS ?_;rotate_left;· intro w' hw';have hcells:=HC.out w' hw';go_simp;(try with_reducible rfl)
 simp only[Act.put,pt1,pt2,pt3,pt4,pt5,pt6]
 refine tkQ 1 (v:=?_) ?_ hS ?_;rotate_left;· intro w' hw';have hcells:=HC.out w' hw';go_simp;(try with_reducible rfl)
 simp only[Act.put,pt1,pt2,pt3,pt4,pt5,pt6]
 refine tkQ 2 (v:=?_) ?_ hS ?_;rotate_left;· intro w' hw';have hcells:=HC.out w' hw';go_simp;(try with_reducible rfl)
 simp only[Act.put,pt1,pt2,pt3,pt4,pt5,pt6]
 refine tkQ 3 (v:=?_) ?_ hS ?_;rotate_left;· intro w' hw';have hcells:=HC.out w' hw';go_simp;(try with_reducible rfl)
 simp only[Act.put,pt1,pt2,pt3,pt4,pt5,pt6]
 refine tkQ 4 (v:=?_) ?_ hS ?_;rotate_left;· intro w' hw';have hcells:=HC.out w' hw';go_simp;(try with_reducible rfl)
 simp only[Act.put,pt1,pt2,pt3,pt4,pt5,pt6]
 refine tkQ 5 (v:=?_) ?_ hS ?_;rotate_left;· intro w' hw';have hcells:=HC.out w' hw';go_simp;(try with_reducible rfl)
 simp only[Act.put,pt1,pt2,pt3,pt4,pt5,pt6]
 refine tkQ 6 (v:=?_) ?_ hS ?_;rotate_left;· intro w' hw';have hcells:=HC.out w' hw';go_simp;(try with_reducible rfl)
 simp only[Act.put,pt1,pt2,pt3,pt4,pt5,pt6]
 refine tkQ 7 (v:=?_) ?_ hS ?_;rotate_left;· intro w' hw';have hcells:=HC.out w' hw';go_simp;(try with_reducible rfl)
 simp only[Act.put,pt1,pt2,pt3,pt4,pt5,pt6]
 refine tkQ 8 (v:=?_) ?_ hS ?_;rotate_left;· intro w' hw';have hcells:=HC.out w' hw';go_simp;(try with_reducible rfl)
 simp only[Act.put,pt1,pt2,pt3,pt4,pt5,pt6]
 refine tkQ 9 (v:=?_) ?_ hS ?_;rotate_left;· intro w' hw';have hcells:=HC.out w' hw';go_simp;(try with_reducible rfl)
 simp only[Act.put,pt1,pt2,pt3,pt4,pt5,pt6]
 refine tkQ 10 (v:=?_) ?_ hS ?_;rotate_left;· intro w' hw';have hcells:=HC.out w' hw';go_simp;(try with_reducible rfl)
 simp only[Act.put,pt1,pt2,pt3,pt4,pt5,pt6]
 refine tkQ 11 (v:=?_) ?_ hS ?_;rotate_left;· intro w' hw';have hcells:=HC.out w' hw';go_simp;(try with_reducible rfl)
 simp only[Act.put,pt1,pt2,pt3,pt4,pt5,pt6]
 refine tkQ 12 (v:=?_) ?_ hS ?_;rotate_left;· intro w' hw';have hcells:=HC.out w' hw';go_simp;(try with_reducible rfl)
 simp only[Act.put,pt1,pt2,pt3,pt4,pt5,pt6]
 refine tkQ 13 (v:=?_) ?_ hS ?_;rotate_left;· intro w' hw';have hcells:=HC.out w' hw';go_simp;(try with_reducible rfl)
 simp only[Act.put,pt1,pt2,pt3,pt4,pt5,pt6]
 refine tkQ 14 (v:=?_) ?_ hS ?_;rotate_left;· intro w' hw';have hcells:=HC.out w' hw';go_simp;(try with_reducible rfl)
 simp only[Act.put,pt1,pt2,pt3,pt4,pt5,pt6]
 refine tkQ 15 (v:=?_) ?_ hS ?_;rotate_left;· intro w' hw';have hcells:=HC.out w' hw';go_simp;(try with_reducible rfl)
 simp only[Act.put,pt1,pt2,pt3,pt4,pt5,pt6]
 refine wpAnyH_done (by kernel_rfl) ?_ _
 (try dsimp only)
 have HXS:=hid hS
 have hc9:=HC.out _ hS
 clear hS
 go_wp2
 refine bodyPost_ret (v:=.tuple #[.string (⟨#[45]⟩++(x1++⟨#[46]⟩++x2)),.int .i64 0]) (by simp[results,Tryz.results217,go_sem]) rfl ?_
 have b1:=HB0.out.trans (HB1.out.mono (by simp))
 have b2:=b1.trans (HB2.out.mono b1.size)
 have b3:=b2.trans (HB3.out.mono b2.size)
 refine⟨?_,b3.drew⟩
 rw[HG.out]
 unfold decL
 rw[←HM.out,if_pos hn0]
 rw[show(⟨#[45]⟩:ByteArray)=⟨[45].toArray⟩ from rfl,bAppend];rfl
theorem textD_call (n:Int) (s:Nat) (h1:n.natAbs≤999999999999999) (h2:s≤12) (w:World) (hT:Tabs w) :
 Calls Tryz.prog 217 #[.agg #[.int .i64 n,.int .i64 (s:Int)]] w fun e w'=>e=.returned (.tuple #[.string ⟨(decL n s).toArray⟩,.int .i64 0])∧Below w.heap.size w w':=by
 by_cases hs:s=0<;>by_cases hn:n<0
 ·exact textDZN_call n _ s rfl h1 hs hn w hT
 ·exact textDZ_call n _ s rfl h1 hs (by omega) w hT
 ·exact textDPN_call n _ s rfl h1 (by omega) hn w hT
 ·exact textDP_call n _ s rfl h1 (by omega) (by omega) w hT
end Go.Proofs.YtmgpghoamapfgaaGreatDoor
