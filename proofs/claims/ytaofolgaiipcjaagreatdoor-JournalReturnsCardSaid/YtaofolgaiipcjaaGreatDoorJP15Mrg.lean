/-
  decimal.Text of a number within its limits: the digits that TextLaw's decL says. Conditions: at most 15 digits, a scale from 0 to 12; Tabs.
-/
import Derived.Test.YtaofolgaiipcjaaGreatDoorJP12Mrg
namespace Go.Proofs.YtaofolgaiipcjaaGreatDoor
set_option linter.unusedVariables false
set_option maxRecDepth 100000
set_option maxHeartbeats 16000000
set_option linter.unusedSimpArgs false
section
open Go Go.RowKit Go.Shelf
theorem abs_call (n:Int) (m:Nat) (hm:m=n.natAbs) (hb:m≤999999999999999) (w:World):Calls Tryz.prog 329 #[.int .i64 n] w fun e w'=>e=.returned (.int .i64 (m:Int))∧w=w':=by
 have w1:IntKind.i64.wrap (-n) = -n:=IntWalk.i64_in _ (by omega)
 have emax:max n (-n)=(m:Int):=by omega
 clear hm hb
 go_enter Tryz.func329,Tryz.ntmps329
 go_wp2
 go_ret
 exact⟨rfl,rfl⟩
theorem dec_glue (m s:Nat) (hs:1≤s) (t:ByteArray) (ht:t=⟨(Lib.decDigits m).toArray⟩) (c:Nat) (hc:c=s+1-t.size) (z:ByteArray) (hz:z=⟨(Lib.repeatL (⟨#[48]⟩:ByteArray).data.toList c).toArray⟩) (u:ByteArray) (hu:u=z++t) (p:Nat) (hp:p=u.size-s) :
 u.extract 0 p++⟨#[46]⟩++u.extract p u.size=⟨(decAbs m s).toArray⟩:=by
 have hts:t.size=(Lib.decDigits m).length:=by rw[ht,bSize]
 have hr:Lib.repeatL (⟨#[48]⟩:ByteArray).data.toList c=List.replicate c 48:=repeat1 48 c
 have hul:u=⟨(List.replicate c 48++Lib.decDigits m).toArray⟩:=by rw[hu,hz,ht,bAppend,hr]
 have hus:u.size=c+(Lib.decDigits m).length:=by rw[hul,bSize];simp
 have hs0:¬ s=0:=by omega
 rw[decAbs,if_neg hs0,←hts,←hc,hts,←hus,←hp,hul,ByteArray.extract_mk,ByteArray.extract_mk,show(⟨#[46]⟩:ByteArray)=⟨[46].toArray⟩ from rfl,bAppend,bAppend]
 congr 2
 rw[List.append_assoc]
 congr 1
 rw[bSize,List.take_of_length_le (by simp)]
 rfl
theorem decCheck_call (n:Int) (s:Nat) (h1:n.natAbs≤999999999999999) (h2:s≤12) (w:World):Calls Tryz.prog 328 #[.agg #[.int .i64 n,.int .i64 (s:Int)]] w fun e w'=>e=.returned (.int .i64 0)∧Below w.heap.size w w':=by
 obtain⟨m,hm⟩:∃m,m=n.natAbs:=⟨_,rfl⟩
 have HA:=hid (fun w=>abs_call n m hm (by omega) w)
 have k1:¬ (999999999999999:Int)<(m:Int):=by omega
 have k2:¬ n < -999999999999999:=by omega
 have k3:¬ (s:Int)<0:=by omega
 have k4:¬ (12:Int)<(s:Int):=by omega
 clear hm h1 h2
 go_enter Tryz.func328,Tryz.ntmps328
 go_wp2_with (go_at_call 329;refine(HA.out _).mono ?_;rintro e w' ⟨rfl,rfl⟩)
 go_ret
 exact⟨rfl,(Below.refl _ w).alloc (Nat.le_refl _) _⟩
theorem textDZ_call (n:Int) (m s:Nat) (hm:m=n.natAbs) (hmb:m≤999999999999999) (hs:s=0) (hneg:0≤n) (w:World) (hT:Tabs w) :
 Calls Tryz.prog 282 #[.agg #[.int .i64 n,.int .i64 (s:Int)]] w fun e w'=>e=.returned (.tuple #[.string ⟨(decL n s).toArray⟩,.int .i64 0])∧Below w.heap.size w w':=by
 have HCK:=hid (decCheck_call n s (by omega) (by omega) (w.alloc (.cells #[.int .i64 n,.int .i64 (s:Int)] 272)))
 have HAB:=hid (fun w=>abs_call n m hm (by omega) w)
 have hlen:=decDigits_le m 15 (by omega) (by decide)
 obtain⟨t,ht⟩:∃t:ByteArray,t=itoaB (m:Int):=⟨_,rfl⟩
 have htD:t=⟨(Lib.decDigits m).toArray⟩:=by rw[ht];unfold itoaB;rw[Lib.itoa_nonneg]
 have hts:t.size=(Lib.decDigits m).length:=by rw[htD,bSize]
 have hI:=fun w hT=>(itoa_call (m:Int) ⟨by omega,by omega⟩ w hT)
 rw[←ht] at hI
 have HI:=hid hI
 have HTD:=hid htD
 have HTS:=hid hts
 have htz:t.size≤15:=by omega
 have hb0:Below w.heap.size w (w.alloc (.cells #[.int .i64 n,.int .i64 (s:Int)] 272)):=(Below.refl _ w).alloc (Nat.le_refl _) _
 have HB0:=hid hb0
 have HX0:=hid (heap_alloc_new w (.cells #[.int .i64 n,.int .i64 (s:Int)] 272))
 have HC:=hid (fun (w':World) (h:w'.heap[w.heap.size]?=some (.cells #[.int .i64 n,.int .i64 (s:Int)] 272))=>(show w'.cell? ⟨w.heap.size,0,none⟩=some (.int .i64 n)∧w'.cell? ⟨w.heap.size,1,none⟩=some (.int .i64 (s:Int)) from⟨cellOf h 0,cellOf h 1⟩))
 have hn0:¬ n<0:=by omega
 have hs0:¬ (0:Int)<(s:Int):=by omega
 have HM:=hid hm
 have HMB:=hid hmb
 have HS:=hid hs
 have HNG:=hid hneg
 clear hm hmb hs hneg hI ht htD hts hlen hb0
 go_enter Tryz.func282,Tryz.ntmps282
 go_wp2_with (first
  | (fail)
  | (go_at_call 64;refine(HI.out w1 (hT.below (HB0.out.trans (HB1.out.mono (by simp))))).mono ?_;rintro e w2 ⟨rfl,hb2⟩;have HX2:=hid (heapExt hb2 HX1.out);have HB2:=hid hb2;have hc2:=HC.out w2 HX2.out;clear hb2)
  | (go_at_call 329;refine(HAB.out _).mono ?_;rintro e w' ⟨rfl,rfl⟩)
  | (go_at_call 328;refine HCK.out.mono ?_;rintro e w1 ⟨rfl,hb1⟩;have HX1:=hid (heapExt hb1 HX0.out);have HB1:=hid hb1;have hc1:=HC.out w1 HX1.out;clear hb1))
 refine bodyPost_ret (v:=.tuple #[.string t,.int .i64 0]) (by simp[results,Tryz.results282,go_sem]) rfl ?_
 refine⟨?_,(HB0.out.trans (HB1.out.mono (by simp))).trans (HB2.out.mono (HB0.out.trans (HB1.out.mono (by simp))).size)⟩
 have hs':=HS.out
 subst hs'
 rw[HTD.out]
 unfold decL decAbs
 rw[←HM.out,if_neg (by omega)]
 rfl
theorem textDZN_call (n:Int) (m s:Nat) (hm:m=n.natAbs) (hmb:m≤999999999999999) (hs:s=0) (hneg:n<0) (w:World) (hT:Tabs w) :
 Calls Tryz.prog 282 #[.agg #[.int .i64 n,.int .i64 (s:Int)]] w fun e w'=>e=.returned (.tuple #[.string ⟨(decL n s).toArray⟩,.int .i64 0])∧Below w.heap.size w w':=by
 have HCK:=hid (decCheck_call n s (by omega) (by omega) (w.alloc (.cells #[.int .i64 n,.int .i64 (s:Int)] 272)))
 have HAB:=hid (fun w=>abs_call n m hm (by omega) w)
 have hlen:=decDigits_le m 15 (by omega) (by decide)
 obtain⟨t,ht⟩:∃t:ByteArray,t=itoaB (m:Int):=⟨_,rfl⟩
 have htD:t=⟨(Lib.decDigits m).toArray⟩:=by rw[ht];unfold itoaB;rw[Lib.itoa_nonneg]
 have hts:t.size=(Lib.decDigits m).length:=by rw[htD,bSize]
 have hI:=fun w hT=>(itoa_call (m:Int) ⟨by omega,by omega⟩ w hT)
 rw[←ht] at hI
 have HI:=hid hI
 have HTD:=hid htD
 have HTS:=hid hts
 have htz:t.size≤15:=by omega
 have hb0:Below w.heap.size w (w.alloc (.cells #[.int .i64 n,.int .i64 (s:Int)] 272)):=(Below.refl _ w).alloc (Nat.le_refl _) _
 have HB0:=hid hb0
 have HX0:=hid (heap_alloc_new w (.cells #[.int .i64 n,.int .i64 (s:Int)] 272))
 have HC:=hid (fun (w':World) (h:w'.heap[w.heap.size]?=some (.cells #[.int .i64 n,.int .i64 (s:Int)] 272))=>(show w'.cell? ⟨w.heap.size,0,none⟩=some (.int .i64 n)∧w'.cell? ⟨w.heap.size,1,none⟩=some (.int .i64 (s:Int)) from⟨cellOf h 0,cellOf h 1⟩))
 have hn0:n<0:=by omega
 have hs0:¬ (0:Int)<(s:Int):=by omega
 have HM:=hid hm
 have HMB:=hid hmb
 have HS:=hid hs
 have HNG:=hid hneg
 clear hm hmb hs hneg hI ht htD hts hlen hb0
 go_enter Tryz.func282,Tryz.ntmps282
 go_wp2_with (first
  | (fail)
  | (go_at_call 64;refine(HI.out w1 (hT.below (HB0.out.trans (HB1.out.mono (by simp))))).mono ?_;rintro e w2 ⟨rfl,hb2⟩;have HX2:=hid (heapExt hb2 HX1.out);have HB2:=hid hb2;have hc2:=HC.out w2 HX2.out;clear hb2)
  | (go_at_call 329;refine(HAB.out _).mono ?_;rintro e w' ⟨rfl,rfl⟩)
  | (go_at_call 328;refine HCK.out.mono ?_;rintro e w1 ⟨rfl,hb1⟩;have HX1:=hid (heapExt hb1 HX0.out);have HB1:=hid hb1;have hc1:=HC.out w1 HX1.out;clear hb1))
 refine bodyPost_ret (v:=.tuple #[.string (⟨#[45]⟩++t),.int .i64 0]) (by simp[results,Tryz.results282,go_sem]) rfl ?_
 refine⟨?_,(HB0.out.trans (HB1.out.mono (by simp))).trans (HB2.out.mono (HB0.out.trans (HB1.out.mono (by simp))).size)⟩
 have hs':=HS.out
 subst hs'
 rw[HTD.out]
 unfold decL decAbs
 rw[←HM.out,if_pos hn0]
 rw[show(⟨#[45]⟩:ByteArray)=⟨[45].toArray⟩ from rfl,bAppend];rfl
theorem textDP_call (n:Int) (m s:Nat) (hm:m=n.natAbs) (hmb:m≤999999999999999) (hs:1≤s∧s≤12) (hneg:0≤n) (w:World) (hT:Tabs w) :
 Calls Tryz.prog 282 #[.agg #[.int .i64 n,.int .i64 (s:Int)]] w fun e w'=>e=.returned (.tuple #[.string ⟨(decL n s).toArray⟩,.int .i64 0])∧Below w.heap.size w w':=by
 have HCK:=hid (decCheck_call n s (by omega) (by omega) (w.alloc (.cells #[.int .i64 n,.int .i64 (s:Int)] 272)))
 have HAB:=hid (fun w=>abs_call n m hm (by omega) w)
 have hlen:=decDigits_le m 15 (by omega) (by decide)
 obtain⟨t,ht⟩:∃t:ByteArray,t=itoaB (m:Int):=⟨_,rfl⟩
 have htD:t=⟨(Lib.decDigits m).toArray⟩:=by rw[ht];unfold itoaB;rw[Lib.itoa_nonneg]
 have hts:t.size=(Lib.decDigits m).length:=by rw[htD,bSize]
 have hI:=fun w hT=>(itoa_call (m:Int) ⟨by omega,by omega⟩ w hT)
 rw[←ht] at hI
 have HI:=hid hI
 have HTD:=hid htD
 have HTS:=hid hts
 have htz:t.size≤15:=by omega
 have hb0:Below w.heap.size w (w.alloc (.cells #[.int .i64 n,.int .i64 (s:Int)] 272)):=(Below.refl _ w).alloc (Nat.le_refl _) _
 have HB0:=hid hb0
 have HX0:=hid (heap_alloc_new w (.cells #[.int .i64 n,.int .i64 (s:Int)] 272))
 have HC:=hid (fun (w':World) (h:w'.heap[w.heap.size]?=some (.cells #[.int .i64 n,.int .i64 (s:Int)] 272))=>(show w'.cell? ⟨w.heap.size,0,none⟩=some (.int .i64 n)∧w'.cell? ⟨w.heap.size,1,none⟩=some (.int .i64 (s:Int)) from⟨cellOf h 0,cellOf h 1⟩))
 have hn0:¬ n<0:=by omega
 have hs0:(0:Int)<(s:Int):=by omega
 have HM:=hid hm
 have HMB:=hid hmb
 have HS:=hid hs
 have HNG:=hid hneg
 clear hm hmb hs hneg hI ht htD hts hlen hb0
 obtain⟨c,hc⟩:∃c:Nat,c=s+1-t.size:=⟨_,rfl⟩
 have wsx:IntKind.i64.wrap ((s:Int)+1)=(s:Int)+1:=IntWalk.i64_in _ (by have:=HS.out;omega)
 have wsy:IntKind.i64.wrap ((s:Int)+1-(t.size:Int))=(s:Int)+1-(t.size:Int):=IntWalk.i64_in _ (by have:=HS.out;omega)
 have emax:max 0 ((s:Int)+1-(t.size:Int))=(c:Int):=by omega
 have hcz:c≤13:=by have:=HS.out;omega
 obtain⟨z,hz⟩:∃z:ByteArray,z=⟨(Lib.repeatL (⟨#[48]⟩:ByteArray).data.toList c).toArray⟩:=⟨_,rfl⟩
 have hR:=fun w=>Tryz.strings_Repeat ⟨#[48]⟩ c w (by omega) (by have:(⟨#[48]⟩:ByteArray).size=1:=rfl;rw[this];omega)
 rw[←hz] at hR
 have HR:=hid hR
 have hzs:z.size=c:=by rw[hz,bSize,Lib.repeatL_length];simp
 have hg:z.size+t.size≤9223372036854775807:=by omega
 have HZ:=hid hz
 obtain⟨u,hu⟩:∃u:ByteArray,u=z++t:=⟨_,rfl⟩
 have huz:u.size=z.size+t.size:=by rw[hu];simp
 have hus:s+1≤u.size∧u.size≤28:=by omega
 have HU:=hid hu
 have HCC:=hid hc
 obtain⟨p,hp⟩:∃p:Nat,p=u.size-s:=⟨_,rfl⟩
 have wp:IntKind.i64.wrap ((u.size:Int)-(s:Int))=(p:Int):=by rw[IntWalk.i64_in _ (by omega)];omega
 have p0:(0:Int)≤(p:Int):=by omega
 have p1:(p:Int)≤(u.size:Int):=by omega
 have p2:p≤u.size:=by omega
 obtain⟨x1,hx1⟩:∃x,u.extract 0 p=x:=⟨_,rfl⟩
 obtain⟨x2,hx2⟩:∃x,u.extract p u.size=x:=⟨_,rfl⟩
 have z1:x1.size≤28:=by rw[←hx1,ByteArray.size_extract];omega
 have z2:x2.size≤28:=by rw[←hx2,ByteArray.size_extract];omega
 have g1:x1.size+1≤9223372036854775807:=by omega
 have g2:x1.size+1+x2.size≤9223372036854775807:=by omega
 have g3:1+(x1.size+1+x2.size)≤9223372036854775807:=by omega
 have e1:(9223372036854775807<x1.size+1)=False:=eq_false (by omega)
 have e2:(9223372036854775807<x1.size+1+x2.size)=False:=eq_false (by omega)
 have HG:=hid (show x1++⟨#[46]⟩++x2=⟨(decAbs m s).toArray⟩ by rw[←hx1,←hx2];exact dec_glue m s (by have:=HS.out;omega) t HTD.out c hc z hz u hu p hp)
 clear hR hz hc hu hp z1 z2 huz
 go_enter Tryz.func282,Tryz.ntmps282
 go_upto_region 7 with (first
  | (go_at_call 131;refine(HR.out _).mono ?_;rintro e w3 ⟨rfl,hb3⟩;have HX3:=hid (heapExt hb3 HX2.out);have HB3:=hid hb3;have hc4:=HC.out w3 HX3.out;clear hb3)
  | (go_at_call 64;refine(HI.out w1 (hT.below (HB0.out.trans (HB1.out.mono (by simp))))).mono ?_;rintro e w2 ⟨rfl,hb2⟩;have HX2:=hid (heapExt hb2 HX1.out);have HB2:=hid hb2;have hc2:=HC.out w2 HX2.out;clear hb2)
  | (go_at_call 329;refine(HAB.out _).mono ?_;rintro e w' ⟨rfl,rfl⟩)
  | (go_at_call 328;refine HCK.out.mono ?_;rintro e w1 ⟨rfl,hb1⟩;have HX1:=hid (heapExt hb1 HX0.out);have HB1:=hid hb1;have hc1:=HC.out w1 HX1.out;clear hb1))
 rw[←HU.out]
 refine wp_region_split 16 (fun w'=>w'.heap[w.heap.size]?=some (.cells #[.int .i64 n,.int .i64 (s:Int)] 272)) (by kernel_rfl) (by kernel_rfl) (by kernel_rfl) (by decide) (HX3.out) (fun hS=>?_)
 simp only[List.take_succ_cons,List.take_zero,List.drop_succ_cons,List.drop_zero]
 refine tkQ 0 (v:=?_) ?_ hS ?_;rotate_left;· intro w' hw';have hcells:=HC.out w' hw';go_simp;(try with_reducible rfl)
 simp only[Act.put,pt1,pt2,pt3,pt4,pt5,pt6]
 refine tkQ 1 (v:=?_) ?_ hS ?_;rotate_left;· intro w' hw';have hcells:=HC.out w' hw';go_simp;(try with_reducible rfl)
 simp only[Act.put,pt1,pt2,pt3,pt4,pt5,pt6]
 refine tkQ 2 (v:=?_) ?_ hS ?_;rotate_left;· intro w' hw';have hcells:=HC.out w' hw';go_simp;(try with_reducible rfl)
 simp only[Act.put,pt1,pt2,pt3,pt4,pt5,pt6]
 refine tkQ 3 (v:=?_) ?_ hS ?_;rotate_left;· intro w' hw';have hcells:=HC.out w' hw';go_simp;(try with_reducible rfl)
 simp only[Act.put,pt1,pt2,pt3,pt4,pt5,pt6]
 refine tkQ 4 (v:=?_) ?_ hS ?_;rotate_left;· intro w' hw';have hcells:=HC.out w' hw';go_simp;(try with_reducible rfl)
 simp only[Act.put,pt1,pt2,pt3,pt4,pt5,pt6]
 refine tkQ 5 (v:=?_) ?_ hS ?_;rotate_left;· intro w' hw';have hcells:=HC.out w' hw';go_simp;(try with_reducible rfl)
 simp only[Act.put,pt1,pt2,pt3,pt4,pt5,pt6]
 refine tkQ 6 (v:=?_) ?_ hS ?_;rotate_left;· intro w' hw';have hcells:=HC.out w' hw';go_simp;(try with_reducible rfl)
 simp only[Act.put,pt1,pt2,pt3,pt4,pt5,pt6]
 refine tkQ 7 (v:=?_) ?_ hS ?_;rotate_left;· intro w' hw';have hcells:=HC.out w' hw';go_simp;(try with_reducible rfl)
 simp only[Act.put,pt1,pt2,pt3,pt4,pt5,pt6]
 refine tkQ 8 (v:=?_) ?_ hS ?_;rotate_left;· intro w' hw';have hcells:=HC.out w' hw';go_simp;(try with_reducible rfl)
 simp only[Act.put,pt1,pt2,pt3,pt4,pt5,pt6]
 refine tkQ 9 (v:=?_) ?_ hS ?_;rotate_left;· intro w' hw';have hcells:=HC.out w' hw';go_simp;(try with_reducible rfl)
 simp only[Act.put,pt1,pt2,pt3,pt4,pt5,pt6]
 refine tkQ 10 (v:=?_) ?_ hS ?_;rotate_left;· intro w' hw';have hcells:=HC.out w' hw';go_simp;(try with_reducible rfl)
 simp only[Act.put,pt1,pt2,pt3,pt4,pt5,pt6]
 refine tkQ 11 (v:=?_) ?_ hS ?_;rotate_left;· intro w' hw';have hcells:=HC.out w' hw';go_simp;(try with_reducible rfl)
 simp only[Act.put,pt1,pt2,pt3,pt4,pt5,pt6]
 refine tkQ 12 (v:=?_) ?_ hS ?_;rotate_left;· intro w' hw';have hcells:=HC.out w' hw';go_simp;(try with_reducible rfl)
 simp only[Act.put,pt1,pt2,pt3,pt4,pt5,pt6]
 refine tkQ 13 (v:=?_) ?_ hS ?_;rotate_left;· intro w' hw';have hcells:=HC.out w' hw';go_simp;(try with_reducible rfl)
 simp only[Act.put,pt1,pt2,pt3,pt4,pt5,pt6]
 refine tkQ 14 (v:=?_) ?_ hS ?_;rotate_left;· intro w' hw';have hcells:=HC.out w' hw';go_simp;(try with_reducible rfl)
 simp only[Act.put,pt1,pt2,pt3,pt4,pt5,pt6]
 refine tkQ 15 (v:=?_) ?_ hS ?_;rotate_left;· intro w' hw';have hcells:=HC.out w' hw';go_simp;(try with_reducible rfl)
 simp only[Act.put,pt1,pt2,pt3,pt4,pt5,pt6]
 refine wpAnyH_done (by kernel_rfl) ?_ _
 (try dsimp only)
 have HXS:=hid hS
 have hc9:=HC.out _ hS
 clear hS
 go_wp2
 refine bodyPost_ret (v:=.tuple #[.string (x1++⟨#[46]⟩++x2),.int .i64 0]) (by simp[results,Tryz.results282,go_sem]) rfl ?_
 have b1:=HB0.out.trans (HB1.out.mono (by simp))
 have b2:=b1.trans (HB2.out.mono b1.size)
 have b3:=b2.trans (HB3.out.mono b2.size)
 refine⟨?_,b3.drew⟩
 rw[HG.out]
 unfold decL
 rw[←HM.out,if_neg (by omega)]
 skip
theorem textDPN_call (n:Int) (m s:Nat) (hm:m=n.natAbs) (hmb:m≤999999999999999) (hs:1≤s∧s≤12) (hneg:n<0) (w:World) (hT:Tabs w) :
 Calls Tryz.prog 282 #[.agg #[.int .i64 n,.int .i64 (s:Int)]] w fun e w'=>e=.returned (.tuple #[.string ⟨(decL n s).toArray⟩,.int .i64 0])∧Below w.heap.size w w':=by
 have HCK:=hid (decCheck_call n s (by omega) (by omega) (w.alloc (.cells #[.int .i64 n,.int .i64 (s:Int)] 272)))
 have HAB:=hid (fun w=>abs_call n m hm (by omega) w)
 have hlen:=decDigits_le m 15 (by omega) (by decide)
 obtain⟨t,ht⟩:∃t:ByteArray,t=itoaB (m:Int):=⟨_,rfl⟩
 have htD:t=⟨(Lib.decDigits m).toArray⟩:=by rw[ht];unfold itoaB;rw[Lib.itoa_nonneg]
 have hts:t.size=(Lib.decDigits m).length:=by rw[htD,bSize]
 have hI:=fun w hT=>(itoa_call (m:Int) ⟨by omega,by omega⟩ w hT)
 rw[←ht] at hI
 have HI:=hid hI
 have HTD:=hid htD
 have HTS:=hid hts
 have htz:t.size≤15:=by omega
 have hb0:Below w.heap.size w (w.alloc (.cells #[.int .i64 n,.int .i64 (s:Int)] 272)):=(Below.refl _ w).alloc (Nat.le_refl _) _
 have HB0:=hid hb0
 have HX0:=hid (heap_alloc_new w (.cells #[.int .i64 n,.int .i64 (s:Int)] 272))
 have HC:=hid (fun (w':World) (h:w'.heap[w.heap.size]?=some (.cells #[.int .i64 n,.int .i64 (s:Int)] 272))=>(show w'.cell? ⟨w.heap.size,0,none⟩=some (.int .i64 n)∧w'.cell? ⟨w.heap.size,1,none⟩=some (.int .i64 (s:Int)) from⟨cellOf h 0,cellOf h 1⟩))
 have hn0:n<0:=by omega
 have hs0:(0:Int)<(s:Int):=by omega
 have HM:=hid hm
 have HMB:=hid hmb
 have HS:=hid hs
 have HNG:=hid hneg
 clear hm hmb hs hneg hI ht htD hts hlen hb0
 obtain⟨c,hc⟩:∃c:Nat,c=s+1-t.size:=⟨_,rfl⟩
 have wsx:IntKind.i64.wrap ((s:Int)+1)=(s:Int)+1:=IntWalk.i64_in _ (by have:=HS.out;omega)
 have wsy:IntKind.i64.wrap ((s:Int)+1-(t.size:Int))=(s:Int)+1-(t.size:Int):=IntWalk.i64_in _ (by have:=HS.out;omega)
 have emax:max 0 ((s:Int)+1-(t.size:Int))=(c:Int):=by omega
 have hcz:c≤13:=by have:=HS.out;omega
 obtain⟨z,hz⟩:∃z:ByteArray,z=⟨(Lib.repeatL (⟨#[48]⟩:ByteArray).data.toList c).toArray⟩:=⟨_,rfl⟩
 have hR:=fun w=>Tryz.strings_Repeat ⟨#[48]⟩ c w (by omega) (by have:(⟨#[48]⟩:ByteArray).size=1:=rfl;rw[this];omega)
 rw[←hz] at hR
 have HR:=hid hR
 have hzs:z.size=c:=by rw[hz,bSize,Lib.repeatL_length];simp
 have hg:z.size+t.size≤9223372036854775807:=by omega
 have HZ:=hid hz
 obtain⟨u,hu⟩:∃u:ByteArray,u=z++t:=⟨_,rfl⟩
 have huz:u.size=z.size+t.size:=by rw[hu];simp
 have hus:s+1≤u.size∧u.size≤28:=by omega
 have HU:=hid hu
 have HCC:=hid hc
 obtain⟨p,hp⟩:∃p:Nat,p=u.size-s:=⟨_,rfl⟩
 have wp:IntKind.i64.wrap ((u.size:Int)-(s:Int))=(p:Int):=by rw[IntWalk.i64_in _ (by omega)];omega
 have p0:(0:Int)≤(p:Int):=by omega
 have p1:(p:Int)≤(u.size:Int):=by omega
 have p2:p≤u.size:=by omega
 obtain⟨x1,hx1⟩:∃x,u.extract 0 p=x:=⟨_,rfl⟩
 obtain⟨x2,hx2⟩:∃x,u.extract p u.size=x:=⟨_,rfl⟩
 have z1:x1.size≤28:=by rw[←hx1,ByteArray.size_extract];omega
 have z2:x2.size≤28:=by rw[←hx2,ByteArray.size_extract];omega
 have g1:x1.size+1≤9223372036854775807:=by omega
 have g2:x1.size+1+x2.size≤9223372036854775807:=by omega
 have g3:1+(x1.size+1+x2.size)≤9223372036854775807:=by omega
 have e1:(9223372036854775807<x1.size+1)=False:=eq_false (by omega)
 have e2:(9223372036854775807<x1.size+1+x2.size)=False:=eq_false (by omega)
 have HG:=hid (show x1++⟨#[46]⟩++x2=⟨(decAbs m s).toArray⟩ by rw[←hx1,←hx2];exact dec_glue m s (by have:=HS.out;omega) t HTD.out c hc z hz u hu p hp)
 clear hR hz hc hu hp z1 z2 huz
 go_enter Tryz.func282,Tryz.ntmps282
 go_upto_region 7 with (first
  | (go_at_call 131;refine(HR.out _).mono ?_;rintro e w3 ⟨rfl,hb3⟩;have HX3:=hid (heapExt hb3 HX2.out);have HB3:=hid hb3;have hc4:=HC.out w3 HX3.out;clear hb3)
  | (go_at_call 64;refine(HI.out w1 (hT.below (HB0.out.trans (HB1.out.mono (by simp))))).mono ?_;rintro e w2 ⟨rfl,hb2⟩;have HX2:=hid (heapExt hb2 HX1.out);have HB2:=hid hb2;have hc2:=HC.out w2 HX2.out;clear hb2)
  | (go_at_call 329;refine(HAB.out _).mono ?_;rintro e w' ⟨rfl,rfl⟩)
  | (go_at_call 328;refine HCK.out.mono ?_;rintro e w1 ⟨rfl,hb1⟩;have HX1:=hid (heapExt hb1 HX0.out);have HB1:=hid hb1;have hc1:=HC.out w1 HX1.out;clear hb1))
 rw[←HU.out]
 refine wp_region_split 16 (fun w'=>w'.heap[w.heap.size]?=some (.cells #[.int .i64 n,.int .i64 (s:Int)] 272)) (by kernel_rfl) (by kernel_rfl) (by kernel_rfl) (by decide) (HX3.out) (fun hS=>?_)
 simp only[List.take_succ_cons,List.take_zero,List.drop_succ_cons,List.drop_zero]
 refine tkQ 0 (v:=?_) ?_ hS ?_;rotate_left;· intro w' hw';have hcells:=HC.out w' hw';go_simp;(try with_reducible rfl)
 simp only[Act.put,pt1,pt2,pt3,pt4,pt5,pt6]
 refine tkQ 1 (v:=?_) ?_ hS ?_;rotate_left;· intro w' hw';have hcells:=HC.out w' hw';go_simp;(try with_reducible rfl)
 simp only[Act.put,pt1,pt2,pt3,pt4,pt5,pt6]
 refine tkQ 2 (v:=?_) ?_ hS ?_;rotate_left;· intro w' hw';have hcells:=HC.out w' hw';go_simp;(try with_reducible rfl)
 simp only[Act.put,pt1,pt2,pt3,pt4,pt5,pt6]
 refine tkQ 3 (v:=?_) ?_ hS ?_;rotate_left;· intro w' hw';have hcells:=HC.out w' hw';go_simp;(try with_reducible rfl)
 simp only[Act.put,pt1,pt2,pt3,pt4,pt5,pt6]
 refine tkQ 4 (v:=?_) ?_ hS ?_;rotate_left;· intro w' hw';have hcells:=HC.out w' hw';go_simp;(try with_reducible rfl)
 simp only[Act.put,pt1,pt2,pt3,pt4,pt5,pt6]
 refine tkQ 5 (v:=?_) ?_ hS ?_;rotate_left;· intro w' hw';have hcells:=HC.out w' hw';go_simp;(try with_reducible rfl)
 simp only[Act.put,pt1,pt2,pt3,pt4,pt5,pt6]
 refine tkQ 6 (v:=?_) ?_ hS ?_;rotate_left;· intro w' hw';have hcells:=HC.out w' hw';go_simp;(try with_reducible rfl)
 simp only[Act.put,pt1,pt2,pt3,pt4,pt5,pt6]
 refine tkQ 7 (v:=?_) ?_ hS ?_;rotate_left;· intro w' hw';have hcells:=HC.out w' hw';go_simp;(try with_reducible rfl)
 simp only[Act.put,pt1,pt2,pt3,pt4,pt5,pt6]
 refine tkQ 8 (v:=?_) ?_ hS ?_;rotate_left;· intro w' hw';have hcells:=HC.out w' hw';go_simp;(try with_reducible rfl)
 simp only[Act.put,pt1,pt2,pt3,pt4,pt5,pt6]
 refine tkQ 9 (v:=?_) ?_ hS ?_;rotate_left;· intro w' hw';have hcells:=HC.out w' hw';go_simp;(try with_reducible rfl)
 simp only[Act.put,pt1,pt2,pt3,pt4,pt5,pt6]
 refine tkQ 10 (v:=?_) ?_ hS ?_;rotate_left;· intro w' hw';have hcells:=HC.out w' hw';go_simp;(try with_reducible rfl)
 simp only[Act.put,pt1,pt2,pt3,pt4,pt5,pt6]
 refine tkQ 11 (v:=?_) ?_ hS ?_;rotate_left;· intro w' hw';have hcells:=HC.out w' hw';go_simp;(try with_reducible rfl)
 simp only[Act.put,pt1,pt2,pt3,pt4,pt5,pt6]
 refine tkQ 12 (v:=?_) ?_ hS ?_;rotate_left;· intro w' hw';have hcells:=HC.out w' hw';go_simp;(try with_reducible rfl)
 simp only[Act.put,pt1,pt2,pt3,pt4,pt5,pt6]
 refine tkQ 13 (v:=?_) ?_ hS ?_;rotate_left;· intro w' hw';have hcells:=HC.out w' hw';go_simp;(try with_reducible rfl)
 simp only[Act.put,pt1,pt2,pt3,pt4,pt5,pt6]
 refine tkQ 14 (v:=?_) ?_ hS ?_;rotate_left;· intro w' hw';have hcells:=HC.out w' hw';go_simp;(try with_reducible rfl)
 simp only[Act.put,pt1,pt2,pt3,pt4,pt5,pt6]
 refine tkQ 15 (v:=?_) ?_ hS ?_;rotate_left;· intro w' hw';have hcells:=HC.out w' hw';go_simp;(try with_reducible rfl)
 simp only[Act.put,pt1,pt2,pt3,pt4,pt5,pt6]
 refine wpAnyH_done (by kernel_rfl) ?_ _
 (try dsimp only)
 have HXS:=hid hS
 have hc9:=HC.out _ hS
 clear hS
 go_wp2
 refine bodyPost_ret (v:=.tuple #[.string (⟨#[45]⟩++(x1++⟨#[46]⟩++x2)),.int .i64 0]) (by simp[results,Tryz.results282,go_sem]) rfl ?_
 have b1:=HB0.out.trans (HB1.out.mono (by simp))
 have b2:=b1.trans (HB2.out.mono b1.size)
 have b3:=b2.trans (HB3.out.mono b2.size)
 refine⟨?_,b3.drew⟩
 rw[HG.out]
 unfold decL
 rw[←HM.out,if_pos hn0]
 rw[show(⟨#[45]⟩:ByteArray)=⟨[45].toArray⟩ from rfl,bAppend];rfl
theorem textD_call (n:Int) (s:Nat) (h1:n.natAbs≤999999999999999) (h2:s≤12) (w:World) (hT:Tabs w) :
 Calls Tryz.prog 282 #[.agg #[.int .i64 n,.int .i64 (s:Int)]] w fun e w'=>e=.returned (.tuple #[.string ⟨(decL n s).toArray⟩,.int .i64 0])∧Below w.heap.size w w':=by
 by_cases hs:s=0<;>by_cases hn:n<0
 ·exact textDZN_call n _ s rfl h1 hs hn w hT
 ·exact textDZ_call n _ s rfl h1 hs (by omega) w hT
 ·exact textDPN_call n _ s rfl h1 (by omega) hn w hT
 ·exact textDP_call n _ s rfl h1 (by omega) (by omega) w hT
end
section
open Go Go.RowKit Go.Shelf
attribute [local go_sem ↓] Go.wp_at_zero Go.wp_at_succ
theorem textList_call (i0 s0:Int) (t0:ByteArray) (la:Option Addr) (ll lc:Nat) (fa:Option Addr) (fl fc:Nat) (l:List Val) (ns:List ByteArray) (fs:List Val) (w:World) (hd:IsVal (· < w.heap.size) w ⟨8,i0,s0,t0,la,ll,lc,fa,fl,fc⟩ (.mk 8 i0 s0 t0 l ns fs))
 (xs:List ByteArray) (hxl:xs.length=ll)
 (L:Nat) (hxL:∀x∈xs,x.data.toList.length≤L) (hLN:ll * (L+3)≤140737488355328)
 (htx:∀j (h:j<l.length) (hj:j<xs.length) (x:VC) (w':World),Below w.heap.size w w'→IsVal (· < w'.heap.size) w' x l[j]→Calls Tryz.prog 153 #[.agg #[.int .i64 x.k,.int .i64 x.i,.int .i64 x.s,.string x.t,.slice x.la x.ll x.lc,.slice x.fa x.fl x.fc]] w' fun e w2=>e=.returned (.string xs[j])∧Below w'.heap.size w' w2) :
 Calls Tryz.prog 153 #[.agg #[.int .i64 8,.int .i64 i0,.int .i64 s0,.string t0,.slice la ll lc,.slice fa fl fc]] w fun e w'=>e=.returned (.string (⟨#[91]⟩++joinB xs ⟨#[44,32]⟩++⟨#[93]⟩))∧Below w.heap.size w w':=by
 obtain⟨⟨_,_,_,_,hok,hll,hfl,hns⟩,hv,hf⟩:=hd
 dsimp only at hll hfl hv hf
 have hreachl:ll * 88≤140737488351232:=hok.l
 have HF:=hid hll;clear hfl hll hf hns
 clear hok
 obtain⟨ti,hi,hz0,hz1,hz2⟩:=info_parts infoStr
 obtain⟨w0,hw0⟩:∃w0,w0=w.alloc (.cells #[.int .i64 8,.int .i64 i0,.int .i64 s0,.string t0,.slice la ll lc,.slice fa fl fc] 25):=⟨_,rfl⟩
 have hb0:Below w.heap.size w w0:=by rw[hw0];exact(Below.refl _ w).alloc (Nat.le_refl _) _
 have HB0:=hid hb0;clear hb0
 have HW0:=hid hw0;clear hw0
 have HXL:=hid hxL;clear hxL
 have HXN:=hid hxl;clear hxl
 have HTXS:=hid htx;clear htx
 have HLN:=hid hLN;clear hLN
 go_enter Tryz.func153,Tryz.ntmps153
 go_wp2
 rw[←HW0.out]
 go_loopw [3,78] (fun vv i wr=>∃(k:Nat) (v:Value),v=vv∧k≤ll∧i=.int .i64 k∧wr.ownsRow w0.heap.size 9 1 v k ((xs.take k).map Value.string)∧Below w0.heap.size w0 wr) (fun _ i _=>ll-(intOf i).toNat)
 case atStart=>exact⟨0,_,rfl,Nat.zero_le _,rfl,World.ownsRow_nil _ _ _ _,Below.refl _ _⟩
 case round =>
  obtain⟨k,v,rfl,hk,rfl,hown,hbr⟩:=hrel
  have HBR:=hid hbr
  have hbelw:Below w.heap.size w wr:=HB0.out.trans (hbr.mono HB0.out.size)
  have HBW:=hid hbelw
  by_cases hlt:k<ll
  ·rcases hv with rfl | ⟨b,o,rfl,hb,hvs⟩
   ·exfalso;have:=HF.out;simp at this;omega
   ·have hkl:k<l.length:=by have:=HF.out;omega
    have hkx:k<xs.length:=by have:=HXN.out;omega
    obtain⟨x,hx,hxv⟩:=hvs.get k hkl
    obtain⟨tz,htz⟩:∃tz,tz=xs[k]:=⟨_,rfl⟩
    have HXK:=hid htz
    have hx':=hx.same (w':=wr) (hbelw.block b hb)
    obtain⟨hx0,hx1,hx2,hx3,hx4,hx5⟩:=hx'
    have hlt':(k:Int)<(ll:Int):=by omega
    have hsz:=hbelw.size
    have hbwa:Below wr.heap.size wr (wr.alloc (Obj.cells #[Value.int IntKind.i64 x.k,Value.int IntKind.i64 x.i,Value.int IntKind.i64 x.s,Value.string x.t,Value.slice x.la x.ll x.lc,Value.slice x.fa x.fl x.fc] 25 (0,0))):=(Below.refl _ wr).alloc (Nat.le_refl _) _
    have HBA:=hid hbwa
    have HTX:=hid (htz▸HTXS.out k hkl hkx x (wr.alloc (Obj.cells #[Value.int IntKind.i64 x.k,Value.int IntKind.i64 x.i,Value.int IntKind.i64 x.s,Value.string x.t,Value.slice x.la x.ll x.lc,Value.slice x.fa x.fl x.fc] 25 (0,0))) (hbelw.trans (hbwa.mono hsz)) (hxv.same fun b hb=>⟨by have:=hbwa.size;omega,(hbwa.block b (by omega)).trans (hbelw.block b hb)⟩))
    have hcap1:k+1≤maxLen:=by unfold maxLen;omega
    have hcap2:(k+1) * 16≤140737488355328:=by omega
    have HOWN:=hid hown;clear hown
    clear hx hxv htz hbr hbelw hbwa
    go_wp2_with (first
     | (go_at_call 153;refine HTX.out.mono ?_;rintro e w1 ⟨rfl,hb1⟩)
     | (at_builtin;refine wpList_append_own_at _ (by rfl) _ _ 111 (by rfl) w0.heap.size 9 ti _ 1 16 Tryz.underlying111 hi hz0 hz1 hz2 rfl (by omega) _ _ _ (by rfl) ((ownExt HOWN.out (HBA.out.trans (hb1.mono HBA.out.size))).alloc _) ⟨w1.heap.size,0,none⟩ 1 1 [.string tz] (by rfl) (by rfl) (cell_one_new _ _ _) (by simp[Value.oneCell']) hcap1 hcap2 (by have:=HBR.out.size;have:=HBA.out.size;have:=hb1.size;simp at *;omega) ?_;intro v' w5 hown' hgrow hnil hloc;have HO2:=hid hown';have HG:=hid hgrow;clear hown' hgrow hnil hloc))
    go_roundw
    case rel =>
     have hst:Below w0.heap.size w0 (wr.alloc (Obj.cells #[Value.int IntKind.i64 x.k,Value.int IntKind.i64 x.i,Value.int IntKind.i64 x.s,Value.string x.t,Value.slice x.la x.ll x.lc,Value.slice x.fa x.fl x.fc] 25 (0,0))):=HBR.out.trans (HBA.out.mono HBR.out.size)
     have hst2:Below w0.heap.size w0 w1:=hst.trans (hb1.mono hst.size)
     refine⟨k+1,_,rfl,by omega,by go_num,?_,(hst2.alloc hst2.size _).grown HG.out (by have:=hst2.size;simp;omega) (fun r e=>own_ge2 HOWN.out r e)⟩
     have h:=HO2.out
     rw[List.take_succ_eq_append_getElem hkx,←HXK.out,List.map_append]
     exact h
    case measure=>simp[intOf];omega
  ·obtain rfl:k=ll:=by omega
   clear hlt
   rw[List.take_of_length_le (by have:=HXN.out;omega)] at hown
   rcases Nat.eq_zero_or_pos k with h0 | h0
   ·subst h0
    have hx0:xs=[]:=List.eq_nil_of_length_eq_zero HXN.out
    subst hx0
    obtain⟨a,c,rfl⟩:∃a c,v=.slice a 0 c:=by
     rcases hown.2 with ⟨rfl,_⟩ | ⟨g,cap,cur,rfl,_⟩
     ·exact⟨_,_,rfl⟩
     ·exact⟨_,_,rfl⟩
    have hjoin:Hid (Calls Tryz.prog 219 #[.slice a 0 c] wr fun e w'=>e=.returned (.string (joinB [] ⟨#[44,32]⟩))∧Below wr.heap.size wr w'):=hid (join_of _ _ _ (fun w' h=>(Tryz.strings_Join_none a c ⟨#[44,32]⟩ w').mono fun e w2 ⟨he,hw⟩=>⟨he,by rw[hw];exact Below.refl _ _⟩))
    clear hown hbr
    have s1:1+(joinB [] ⟨#[44,32]⟩).size≤9223372036854775807:=by decide
    have s2:1+(joinB [] ⟨#[44,32]⟩).size+1≤9223372036854775807:=by decide
    go_wp2_with (go_at_call 219;refine hjoin.out.mono ?_;rintro e w3 ⟨rfl,hb3⟩)
    go_ret
    exact⟨rfl,HBW.out.trans (hb3.mono HBW.out.size)⟩
   obtain⟨g,cap',rfl,hj⟩:=strRow_join hown HXN.out.symm h0 L HXL.out ⟨#[44,32]⟩ HLN.out
   have HJ:=hid hj
   have hjoin:Hid (Calls Tryz.prog 219 #[.slice (some ⟨g,0,none⟩) k cap'] wr fun e w'=>e=.returned (.string (joinB xs ⟨#[44,32]⟩))∧Below wr.heap.size wr w'):=hid (join_of _ _ _ HJ.out)
   have hjz:=joinB_size xs ⟨#[44,32]⟩ L HXL.out
   rw[HXN.out] at hjz
   have hL3:=HLN.out
   have hjz2:(joinB xs ⟨#[44,32]⟩).size≤140737488355328:=by simp at hjz;rw[Nat.mul_add] at hL3 hjz;omega
   have s1:1+(joinB xs ⟨#[44,32]⟩).size≤9223372036854775807:=by omega
   have s2:1+(joinB xs ⟨#[44,32]⟩).size+1≤9223372036854775807:=by omega
   clear hj hown hbr hjz hL3 hjz2
   go_wp2_with (go_at_call 219;refine hjoin.out.mono ?_;rintro e w3 ⟨rfl,hb3⟩)
   go_ret
   exact⟨rfl,HBW.out.trans (hb3.mono HBW.out.size)⟩
theorem textRec0_call (i0 s0:Int) (t0:ByteArray) (la:Option Addr) (ll lc:Nat) (fa:Option Addr) (fc:Nat) (w:World) :
 Calls Tryz.prog 153 #[.agg #[.int .i64 9,.int .i64 i0,.int .i64 s0,.string t0,.slice la ll lc,.slice fa 0 fc]] w fun e w'=>e=.returned (.string (recT []))∧Below w.heap.size w w':=by
 obtain⟨w0,hw0⟩:∃w0,w0=w.alloc (.cells #[.int .i64 9,.int .i64 i0,.int .i64 s0,.string t0,.slice la ll lc,.slice fa 0 fc] 25):=⟨_,rfl⟩
 have hb0:Below w.heap.size w w0:=by rw[hw0];exact(Below.refl _ w).alloc (Nat.le_refl _) _
 have HB0:=hid hb0;clear hb0
 have HW0:=hid hw0;clear hw0
 go_enter Tryz.func153,Tryz.ntmps153
 go_wp2
 rw[←HW0.out]
 go_loopw [3,97] (fun vv i wr=>vv=.slice none 0 0∧i=.int .i64 0∧Below w0.heap.size w0 wr) (fun _ i _=>0)
 case atStart=>exact⟨rfl,rfl,Below.refl _ _⟩
 case round =>
  obtain⟨rfl,rfl,hbr⟩:=hrel
  have HBW:=hid (HB0.out.trans (hbr.mono HB0.out.size))
  have hjoin:Hid (Calls Tryz.prog 219 #[.slice none 0 0] wr fun e w'=>e=.returned (.string (joinB [] ⟨#[44,32]⟩))∧Below wr.heap.size wr w'):=hid (join_of _ _ _ (fun w' h=>(Tryz.strings_Join_none none 0 ⟨#[44,32]⟩ w').mono fun e w2 ⟨he,hw⟩=>⟨he,by rw[hw];exact Below.refl _ _⟩))
  clear hbr
  have s1:1+(joinB [] ⟨#[44,32]⟩).size≤9223372036854775807:=by decide
  have s2:1+(joinB [] ⟨#[44,32]⟩).size+1≤9223372036854775807:=by decide
  go_wp2_with (go_at_call 219;refine hjoin.out.mono ?_;rintro e w3 ⟨rfl,hb3⟩)
  go_ret
  exact⟨rfl,HBW.out.trans (hb3.mono HBW.out.size)⟩
end
end Go.Proofs.YtaofolgaiipcjaaGreatDoor
