/-
  literal.number and literal.text of values that hold no others: the bytes that TextLaw's leafT says. Conditions: the value can be read as data and is valid (itemOK); Tabs, ZTab.
-/
import Derived.Test.YtmgpghoamapfgaaGreatDoorJN14Mrg
import Derived.Test.YtmgpghoamapfgaaGreatDoorJN15Mrg
import Derived.Test.YtmgpghoamapfgaaGreatDoorJN16Mrg
namespace Go.Proofs.YtmgpghoamapfgaaGreatDoor
set_option linter.unusedVariables false
set_option maxRecDepth 100000
set_option maxHeartbeats 16000000
set_option linter.unusedSimpArgs false
section
open Go Go.RowKit Go.Shelf
theorem number_call (n:Int) (s:Nat) (h1:n.natAbs≤999999999999999) (h2:s≤12) (w:World) (hT:Tabs w):Calls Tryz.prog 133 #[.int .i64 n,.int .i64 (s:Int)] w fun e w'=>e=.returned (.string ⟨(decL n s).toArray⟩)∧Below w.heap.size w w':=by
 have HD:=hid (fun w hT=>textD_call n s h1 h2 w hT)
 clear h1 h2
 obtain⟨t,ht⟩:∃t:ByteArray,t=⟨(decL n s).toArray⟩:=⟨_,rfl⟩
 rw[←ht] at HD ⊢
 clear ht
 go_enter Tryz.func133,Tryz.ntmps133
 go_wp2_with (go_at_call 217;refine(HD.out _ hT).mono ?_;rintro e w1 ⟨rfl,hb1⟩)
 go_ret
 exact⟨rfl,hb1⟩
section
variable (s:Int) (t:ByteArray) (la:Option Addr) (ll lc:Nat) (fa:Option Addr) (fl fc:Nat) (w:World)
set_option maxRecDepth 100000
set_option maxHeartbeats 4000000
theorem text1_call (b:Int) :
 Calls Tryz.prog 74 #[.agg #[.int .i64 1,.int .i64 b,.int .i64 s,.string t,.slice la ll lc,.slice fa fl fc]] w fun e w'=>e=.returned (.string ⟨(Lib.formatBool (b==1)).toArray⟩)∧Below w.heap.size w w':=by
 go_enter Tryz.func74,Tryz.ntmps74
 go_wp2_with (go_at_call 132;refine(Tryz.strconv_FormatBool _ _).mono ?_;rintro e w' ⟨rfl,rfl⟩)
 go_ret
 exact⟨rfl,(Below.refl _ w).alloc (Nat.le_refl _) _⟩
theorem text2_call (i:Int) (hi:I64 i) (hT:Tabs w) :
 Calls Tryz.prog 74 #[.agg #[.int .i64 2,.int .i64 i,.int .i64 s,.string t,.slice la ll lc,.slice fa fl fc]] w fun e w'=>e=.returned (.string (itoaB i))∧Below w.heap.size w w':=by
 have hb0:Below w.heap.size w (w.alloc (.cells #[.int .i64 2,.int .i64 i,.int .i64 s,.string t,.slice la ll lc,.slice fa fl fc] 36)):=(Below.refl _ w).alloc (Nat.le_refl _) _
 have HI:=hid (itoa_call i hi _ (hT.below hb0))
 have HB0:=hid hb0
 clear hb0
 go_enter Tryz.func74,Tryz.ntmps74
 go_wp2_with (go_at_call 35;refine HI.out.mono ?_;rintro e w1 ⟨rfl,hb1⟩)
 go_ret
 exact⟨rfl,HB0.out.trans (hb1.mono HB0.out.size)⟩
theorem text3_call (i:Int) (z:Nat) (h1:i.natAbs≤999999999999999) (h2:z≤12) (hz:s=(z:Int)) (hT:Tabs w) :
 Calls Tryz.prog 74 #[.agg #[.int .i64 3,.int .i64 i,.int .i64 s,.string t,.slice la ll lc,.slice fa fl fc]] w fun e w'=>e=.returned (.string ⟨(if s=0 then decL i s.toNat++[100] else decL i s.toNat).toArray⟩)∧Below w.heap.size w w':=by
 subst hz
 have hb0:Below w.heap.size w (w.alloc (.cells #[.int .i64 3,.int .i64 i,.int .i64 (z:Int),.string t,.slice la ll lc,.slice fa fl fc] 36)):=(Below.refl _ w).alloc (Nat.le_refl _) _
 have hN:=number_call i z h1 h2 _ (hT.below hb0)
 have hlen:=decL_len i z h2 (by omega)
 obtain⟨x,hx⟩:∃x:ByteArray,x=⟨(decL i z).toArray⟩:=⟨_,rfl⟩
 have hxz:x.size≤41:=by rw[hx,bSize];exact hlen
 have hz1:x.size+1≤9223372036854775807:=by omega
 rw[←hx] at hN
 have HN:=hid hN
 have HB0:=hid hb0
 have HE:=hid hb0
 have HA:=hid (heap_alloc_new w (.cells #[.int .i64 3,.int .i64 i,.int .i64 (z:Int),.string t,.slice la ll lc,.slice fa fl fc] 36))
 have HX:=hid hx
 by_cases h0:z=0
 ·have hz0:((z:Int)==0)=true:=by simp;omega
  have hF:(if (z:Int)=0 then decL i (z:Int).toNat++[100] else decL i (z:Int).toNat)=decL i z++[100]:=by rw[if_pos (by omega)];rfl
  rw[hF]
  have HF:Hid (x++⟨#[100]⟩=(⟨(decL i z++[100]).toArray⟩:ByteArray)):=hid (by rw[hx,show(⟨#[100]⟩:ByteArray)=⟨[100].toArray⟩ from rfl,bAppend])
  clear hb0 hN hx hxz h1 h2 hlen hF h0
  go_enter Tryz.func74,Tryz.ntmps74
  go_wp2_with (go_at_call 133;refine HN.out.mono ?_;rintro e w1 ⟨rfl,hb1⟩;have hq:=heapExt hb1 HA.out;have q2:=cellOf hq 2;(try dsimp only at q2))
  go_ret
  exact⟨by rw[←HF.out];rfl,HB0.out.trans (hb1.mono HB0.out.size)⟩
 ·have hz0:((z:Int)==0)=false:=by simp;omega
  have hF:(if (z:Int)=0 then decL i (z:Int).toNat++[100] else decL i (z:Int).toNat)=decL i z:=by rw[if_neg (by omega)];rfl
  rw[hF]
  clear hb0 hN hx hxz h1 h2 hlen hF h0
  go_enter Tryz.func74,Tryz.ntmps74
  go_wp2_with (go_at_call 133;refine HN.out.mono ?_;rintro e w1 ⟨rfl,hb1⟩;have hq:=heapExt hb1 HA.out;have q2:=cellOf hq 2;(try dsimp only at q2))
  go_ret
  exact⟨by rw[←HX.out];rfl,HB0.out.trans (hb1.mono HB0.out.size)⟩
theorem text4_call (i:Int) (hs:t.size≤1000000) (hT:Tabs w) (hZ:ZTab w) :
 Calls Tryz.prog 74 #[.agg #[.int .i64 4,.int .i64 i,.int .i64 s,.string t,.slice la ll lc,.slice fa fl fc]] w fun e w'=>e=.returned (.string ⟨(quoteL t.data.toList).toArray⟩)∧Below w.heap.size w w':=by
 have hb0:Below w.heap.size w (w.alloc (.cells #[.int .i64 4,.int .i64 i,.int .i64 s,.string t,.slice la ll lc,.slice fa fl fc] 36)):=(Below.refl _ w).alloc (Nat.le_refl _) _
 have HI:=hid (quoteA_call t _ hs (hT.below hb0) (hZ.below hb0))
 have HB0:=hid hb0
 clear hb0
 go_enter Tryz.func74,Tryz.ntmps74
 go_wp2_with (go_at_call 134;refine HI.out.mono ?_;rintro e w1 ⟨rfl,hb1⟩)
 go_ret
 exact⟨rfl,HB0.out.trans (hb1.mono HB0.out.size)⟩
theorem text5_call (i:Int) (hs:t.size≤1000000) :
 Calls Tryz.prog 74 #[.agg #[.int .i64 5,.int .i64 i,.int .i64 s,.string t,.slice la ll lc,.slice fa fl fc]] w fun e w'=>e=.returned (.string ⟨(codeL t.data.toList).toArray⟩)∧Below w.heap.size w w':=by
 have hb0:Below w.heap.size w (w.alloc (.cells #[.int .i64 5,.int .i64 i,.int .i64 s,.string t,.slice la ll lc,.slice fa fl fc] 36)):=(Below.refl _ w).alloc (Nat.le_refl _) _
 have HI:=hid (quoteX_call t (w.alloc (.cells #[.int .i64 5,.int .i64 i,.int .i64 s,.string t,.slice la ll lc,.slice fa fl fc] 36)) hs)
 have HB0:=hid hb0
 clear hb0
 go_enter Tryz.func74,Tryz.ntmps74
 go_wp2_with (go_at_call 135;refine HI.out.mono ?_;rintro e w1 ⟨rfl,hb1⟩)
 go_ret
 exact⟨rfl,HB0.out.trans (hb1.mono HB0.out.size)⟩
theorem text6_call (i:Int) (n:Nat) (hd:i+719162=n) (hn:n≤3652058) (hT:Tabs w) (hZ:ZTab w) :
 Calls Tryz.prog 74 #[.agg #[.int .i64 6,.int .i64 i,.int .i64 s,.string t,.slice la ll lc,.slice fa fl fc]] w fun e w'=>e=.returned (.string ⟨(100 :: 97 :: 116 :: 101 :: 32 :: quoteL (dateB n)).toArray⟩)∧Below w.heap.size w w':=by
 have hb0:Below w.heap.size w (w.alloc (.cells #[.int .i64 6,.int .i64 i,.int .i64 s,.string t,.slice la ll lc,.slice fa fl fc] 36)):=(Below.refl _ w).alloc (Nat.le_refl _) _
 have hlen:=dateB_len n hn
 have hI:=calText_call i n hd hn _ (hT.below hb0)
 obtain⟨x,hx⟩:∃x:ByteArray,x=⟨(dateB n).toArray⟩:=⟨_,rfl⟩
 have hxz:x.size=10:=by rw[hx,bSize,hlen]
 rw[←hx] at hI
 have hxd:x.data.toList=dateB n:=by rw[hx]
 have HQ:=hid (fun w' (h:Below w.heap.size w w')=>quoteA_call x w' (by omega) (hT.below h) (hZ.below h))
 rw[hxd] at HQ
 obtain⟨y,hy⟩:∃y:ByteArray,y=⟨(quoteL (dateB n)).toArray⟩:=⟨_,rfl⟩
 have hyz:y.size≤100:=by rw[hy,bSize];have:=quoteL_len (dateB n);omega
 have hz1:5+y.size≤9223372036854775807:=by omega
 rw[←hy] at HQ
 have HF:Hid ((⟨#[100,97,116,101,32]⟩:ByteArray)++y=⟨(100 :: 97 :: 116 :: 101 :: 32 :: quoteL (dateB n)).toArray⟩):=hid (by rw[hy,show(⟨#[100,97,116,101,32]⟩:ByteArray)=⟨[100,97,116,101,32].toArray⟩ from rfl,bAppend];rfl)
 have HI:=hid hI
 have HB0:=hid hb0
 clear hb0 hI hlen hx hxz hxd hy hyz hd hn hT hZ
 go_enter Tryz.func74,Tryz.ntmps74
 go_wp2_with (first
  | (go_at_call 134;refine(HQ.out w1 (HB0.out.trans (hb1.mono HB0.out.size))).mono ?_;rintro e w2 ⟨rfl,hb2⟩)
  | (go_at_call 136;refine HI.out.mono ?_;rintro e w1 ⟨rfl,hb1⟩))
 go_ret
 have h2:=HB0.out.trans (hb1.mono HB0.out.size)
 exact⟨by rw[←HF.out];rfl,h2.trans (hb2.mono h2.size)⟩
theorem text7_call (i:Int) (n:Nat) (hd:i+62135596800000=n) (hn:n≤315537897599999) (hT:Tabs w) (hZ:ZTab w) :
 Calls Tryz.prog 74 #[.agg #[.int .i64 7,.int .i64 i,.int .i64 s,.string t,.slice la ll lc,.slice fa fl fc]] w fun e w'=>e=.returned (.string ⟨(116 :: 105 :: 109 :: 101 :: 32 :: quoteL (timeB n)).toArray⟩)∧Below w.heap.size w w':=by
 have hb0:Below w.heap.size w (w.alloc (.cells #[.int .i64 7,.int .i64 i,.int .i64 s,.string t,.slice la ll lc,.slice fa fl fc] 36)):=(Below.refl _ w).alloc (Nat.le_refl _) _
 have hlen:=timeB_len n hn
 have hI:=timeText_call i n hd hn _ (hT.below hb0)
 obtain⟨x,hx⟩:∃x:ByteArray,x=⟨(timeB n).toArray⟩:=⟨_,rfl⟩
 have hxz:x.size≤25:=by rw[hx,bSize];exact hlen
 rw[←hx] at hI
 have hxd:x.data.toList=timeB n:=by rw[hx]
 have HQ:=hid (fun w' (h:Below w.heap.size w w')=>quoteA_call x w' (by omega) (hT.below h) (hZ.below h))
 rw[hxd] at HQ
 obtain⟨y,hy⟩:∃y:ByteArray,y=⟨(quoteL (timeB n)).toArray⟩:=⟨_,rfl⟩
 have hyz:y.size≤200:=by rw[hy,bSize];have:=quoteL_len (timeB n);omega
 have hz1:5+y.size≤9223372036854775807:=by omega
 rw[←hy] at HQ
 have HF:Hid ((⟨#[116,105,109,101,32]⟩:ByteArray)++y=⟨(116 :: 105 :: 109 :: 101 :: 32 :: quoteL (timeB n)).toArray⟩):=hid (by rw[hy,show(⟨#[116,105,109,101,32]⟩:ByteArray)=⟨[116,105,109,101,32].toArray⟩ from rfl,bAppend];rfl)
 have HI:=hid hI
 have HB0:=hid hb0
 clear hb0 hI hlen hx hxz hxd hy hyz hd hn hT hZ
 go_enter Tryz.func74,Tryz.ntmps74
 go_wp2_with (first
  | (go_at_call 134;refine(HQ.out w1 (HB0.out.trans (hb1.mono HB0.out.size))).mono ?_;rintro e w2 ⟨rfl,hb2⟩)
  | (go_at_call 137;refine HI.out.mono ?_;rintro e w1 ⟨rfl,hb1⟩))
 go_ret
 have h2:=HB0.out.trans (hb1.mono HB0.out.size)
 exact⟨by rw[←HF.out];rfl,h2.trans (hb2.mono h2.size)⟩
end
end
section
open Go Go.RowKit Go.Shelf
attribute [local go_sem ↓] Go.wp_at_zero Go.wp_at_succ
theorem textVar_call (i0 s0:Int) (t0:ByteArray) (la:Option Addr) (ll lc:Nat) (fa:Option Addr) (fl fc:Nat) (d:Val) (ns:List ByteArray) (fs:List Val) (w:World) (hd:IsVal (· < w.heap.size) w ⟨10,i0,s0,t0,la,ll,lc,fa,fl,fc⟩ (.mk 10 i0 s0 t0 [d] ns fs))
 (y:ByteArray) (hy:y.size≤100000000) (ht:t0.size≤1000)
 (htx:∀(x:VC) (w':World),Below w.heap.size w w'→IsVal (· < w'.heap.size) w' x d→Calls Tryz.prog 74 #[.agg #[.int .i64 x.k,.int .i64 x.i,.int .i64 x.s,.string x.t,.slice x.la x.ll x.lc,.slice x.fa x.fl x.fc]] w' fun e w2=>e=.returned (.string y)∧Below w'.heap.size w' w2) :
 Calls Tryz.prog 74 #[.agg #[.int .i64 10,.int .i64 i0,.int .i64 s0,.string t0,.slice la ll lc,.slice fa fl fc]] w fun e w'=>e=.returned (.string (t0++⟨#[40]⟩++y++⟨#[41]⟩))∧Below w.heap.size w w':=by
 obtain⟨⟨_,_,_,_,hok,hll,_,_⟩,hv,_⟩:=hd
 dsimp only at hll hv
 have hll1:ll=1:=hll
 subst hll1
 clear hok hll
 rcases hv with h0 | ⟨b,o,rfl,hb,hvs⟩
 ·cases h0
 obtain⟨x,hx,hxv⟩:=hvs.get 0 (by simp)
 rw[Nat.zero_mul,Nat.add_zero] at hx
 simp only[List.getElem_cons_zero] at hxv
 obtain⟨w0,hw0⟩:∃w0,w0=w.alloc (.cells #[.int .i64 10,.int .i64 i0,.int .i64 s0,.string t0,.slice (some ⟨b,o,none⟩) 1 lc,.slice fa fl fc] 36):=⟨_,rfl⟩
 have hb0:Below w.heap.size w w0:=by rw[hw0];exact(Below.refl _ w).alloc (Nat.le_refl _) _
 have hn0:w0.heap[w.heap.size]?=some (.cells #[.int .i64 10,.int .i64 i0,.int .i64 s0,.string t0,.slice (some ⟨b,o,none⟩) 1 lc,.slice fa fl fc] 36):=by rw[hw0];exact heap_alloc_new w _
 have HB0:=hid hb0
 have HC:=hid (fun (w':World) (h:Below w0.heap.size w0 w') =>
  have q:=heapExt h hn0
  have h2:=hb0.trans (h.mono hb0.size)
  have a:=hx.same (w':=w') (h2.block b hb)
  (show(w'.cell? ⟨w.heap.size,3,none⟩=some (.string t0)∧w'.cell? ⟨w.heap.size,4,none⟩=some (.slice (some ⟨b,o,none⟩) 1 lc))∧w'.cell? ⟨b,o,none⟩=some (.int .i64 x.k)∧w'.cell? ⟨b,o+1,none⟩=some (.int .i64 x.i)∧w'.cell? ⟨b,o+2,none⟩=some (.int .i64 x.s)∧w'.cell? ⟨b,o+3,none⟩=some (.string x.t)∧w'.cell? ⟨b,o+4,none⟩=some (.slice x.la x.ll x.lc)∧w'.cell? ⟨b,o+5,none⟩=some (.slice x.fa x.fl x.fc) from⟨⟨cellOf q 3,cellOf q 4⟩,a.k,a.i,a.s,a.t,a.l,a.f⟩))
 have HTX:=hid (fun (w':World) (h:Below w0.heap.size w0 w')=>htx x w' (hb0.trans (h.mono hb0.size)) (hxv.same fun b' hb'=>⟨Nat.lt_of_lt_of_le hb' (hb0.trans (h.mono hb0.size)).size,(hb0.trans (h.mono hb0.size)).block b' hb'⟩))
 have HW0:=hid hw0
 have s1:(9223372036854775807<t0.size+1)=False:=eq_false (by omega)
 have s2:(9223372036854775807<t0.size+1+y.size)=False:=eq_false (by omega)
 have s3:(9223372036854775807<t0.size+1+y.size+1)=False:=eq_false (by omega)
 clear hx hxv htx hb0 hn0 hw0 hvs hy ht
 go_enter Tryz.func74,Tryz.ntmps74
 go_upto_region 38 with (fail)
 rw[←HW0.out]
 refine wp_region_split 10 (fun w'=>Below w0.heap.size w0 w') (by kernel_rfl) (by kernel_rfl) (by kernel_rfl) (by decide) ((Below.refl _ w0).drew) (fun hS=>?_)
 simp only[List.take_succ_cons,List.take_zero,List.drop_succ_cons,List.drop_zero]
 refine tkQ 0 (v:=?_) ?_ hS ?_;rotate_left;· intro w' hw';have hcells:=HC.out w' hw';go_simp;(try with_reducible rfl)
 simp only[Act.put,pt1,pt2,pt3,pt4,pt5,pt6]
 refine tkQ 1 (v:=?_) ?_ hS ?_;rotate_left;· intro w' hw';have hcells:=HC.out w' hw';go_simp;(try with_reducible rfl)
 simp only[Act.put,pt1,pt2,pt3,pt4,pt5,pt6]
 refine tkQ 2 (v:=?_) ?_ hS ?_;rotate_left;· intro w' hw';have hcells:=HC.out w' hw';go_simp;(try with_reducible rfl)
 simp only[Act.put,pt1,pt2,pt3,pt4,pt5,pt6]
 refine tkQ 3 (v:=?_) ?_ hS ?_;rotate_left;· intro w' hw';have hcells:=HC.out w' hw';go_simp;(try with_reducible rfl)
 simp only[Act.put,pt1,pt2,pt3,pt4,pt5,pt6]
 refine tkQ 4 (v:=?_) ?_ hS ?_;rotate_left;· intro w' hw';have hcells:=HC.out w' hw';go_simp;(try with_reducible rfl)
 simp only[Act.put,pt1,pt2,pt3,pt4,pt5,pt6]
 refine tkQ 5 (v:=?_) ?_ hS ?_;rotate_left;· intro w' hw';have hcells:=HC.out w' hw';go_simp;(try with_reducible rfl)
 simp only[Act.put,pt1,pt2,pt3,pt4,pt5,pt6]
 refine tkQ 6 (v:=?_) ?_ hS ?_;rotate_left;· intro w' hw';have hcells:=HC.out w' hw';go_simp;(try with_reducible rfl)
 simp only[Act.put,pt1,pt2,pt3,pt4,pt5,pt6]
 refine wpAnyH_ready (rs:=[7]) (by kernel_rfl) (by simp) ?_
 refine arQ fun K hK=>?_
 go_simp;go_at_call 74;refine(HTX.out _ hS).mono ?_
 rintro e w1 ⟨rfl,hb1⟩
 refine hK.out _ _ (hS.trans (hb1.mono hS.size)) (fun hS=>?_)
 clear hK K
 (try simp only[Act.put,pt1,pt2,pt3,pt4,pt5,pt6])
 refine tkQ 8 (v:=?_) ?_ hS ?_;rotate_left;· intro w' hw';have hcells:=HC.out w' hw';go_simp;(try with_reducible rfl)
 simp only[Act.put,pt1,pt2,pt3,pt4,pt5,pt6]
 refine tkQ 9 (v:=?_) ?_ hS ?_;rotate_left;· intro w' hw';have hcells:=HC.out w' hw';go_simp;(try with_reducible rfl)
 simp only[Act.put,pt1,pt2,pt3,pt4,pt5,pt6]
 refine wpAnyH_done (by kernel_rfl) ?_ _
 (try dsimp only)
 have HSS:=hid hS
 clear hS
 go_wp2
 go_ret
 exact⟨rfl,HB0.out.trans (HSS.out.mono HB0.out.size)⟩
end
section
open Go Go.RowKit Go.Shelf
theorem fldT_length:∀(ns:List ByteArray) (xs:List (List UInt8)),ns.length=xs.length→(fldT ns xs).length=xs.length
 | [],[],_=>rfl
 | [],_ :: _,h=>by simp at h
 | _ :: _,[],h=>by simp at h
 | n :: ns,x :: xs,h=>by rw[fldT,List.length_cons,List.length_cons,fldT_length ns xs (by simpa using h)]
theorem fldT_get:∀(ns:List ByteArray) (xs:List (List UInt8)) (j:Nat) (h:j<(fldT ns xs).length) (h1:j<ns.length) (h2:j<xs.length),(fldT ns xs)[j]=ns[j].data.toList++58 :: 32 :: xs[j]
 | n :: ns,x :: xs,0,_,_,_=>rfl
 | n :: ns,x :: xs,j+1,h,h1,h2=>by
   simp only[fldT,List.getElem_cons_succ]
   exact fldT_get ns xs j (by simpa [fldT] using h) (by simpa using h1) (by simpa using h2)
theorem sz_pos (d:Val):1≤Val.sz d:=by obtain⟨k,i,s,t,l,ns,fs⟩:=d;rw[Val.sz];omega
theorem mapData (l:List (List UInt8)):(l.map (fun x=>(⟨x.toArray⟩:ByteArray))).map (·.data.toList)=l:=by
 rw[List.map_map]
 exact(List.map_congr_left (fun x _=>rfl)).trans (List.map_id _)
theorem joinB_of (l:List (List UInt8)) (sep:ByteArray):joinB (l.map (fun x=>(⟨x.toArray⟩:ByteArray))) sep=⟨(Lib.join l sep.data.toList).toArray⟩:=by
 unfold joinB;rw[mapData]
theorem txts_len_eq (l:List Val):(txts l).length=l.length:=by rw[txts_map,List.length_map]
theorem Good.kidLen {n:Nat} {d d':Val} (h:Good n d) (hn:n≤4096) (hd:d'∈kids d):(txt d').length≤33554432:=(h.kid hd).len hn
theorem text_any:∀(z:Nat) (d:Val),Val.sz d≤z→∀(c:VC) (w:World),Good 4096 d→IsVal (· < w.heap.size) w c d→Tabs w→ZTab w →
 Calls Tryz.prog 74 #[c.v] w fun e w'=>e=.returned (.string ⟨(txt d).toArray⟩)∧Below w.heap.size w w'
 | 0,d,h,_,_,_,_,_,_=>absurd (sz_pos d) (by omega)
 | z+1,.mk k i s t l ns fs,hz,⟨ck,ci,cs,ct,la,ll,lc,fa,fl,fc⟩,w,hg,hd,hT,hZ=>by
   have hd0:=hd
   obtain⟨⟨h1,h2,h3,h4,hok,hll,hfl,hns⟩,hv,hf⟩:=hd0
   dsimp only at h1 h2 h3 h4 hll hfl
   subst h1;subst h2;subst h3;subst h4
   obtain⟨k1,k2,hr⟩:=hg.self
   have k1':1≤ck:=k1
   have k2':ck≤10:=k2
   have hsz:Val.szs l≤z∧Val.szs fs≤z:=by rw[Val.sz] at hz;omega
   have hk:ck=1∨ck=2∨ck=3∨ck=4∨ck=5∨ck=6∨ck=7∨ck=8∨ck=9∨ck=10:=by omega
   simp only[ruleE] at hr
   rcases hk with rfl | rfl | rfl | rfl | rfl | rfl | rfl | rfl | rfl | rfl
   ·have h:=text1_call cs ct la ll lc fa fl fc w ci
    have e:txt (.mk 1 ci cs ct l ns fs)=Lib.formatBool (ci==1):=by
     simp[txt,leafT,Lib.formatBool]
     by_cases h1:ci=1<;>simp[h1]<;>kernel_rfl
    rw[e];exact h
   ·exact text2_call cs ct la ll lc fa fl fc w ci hok.i hT
   ·simp at hr
    obtain⟨a,b⟩:=first2_zero hr
    have ha:=between_zero a
    have hb:=between_zero b
    have h:=text3_call cs ct la ll lc fa fl fc w ci cs.toNat (by omega) (by omega) (by omega) hT
    have e:txt (.mk 3 ci cs ct l ns fs)=(if cs=0 then decL ci cs.toNat++[100] else decL ci cs.toNat):=by simp[txt,leafT]
    rw[e];exact h
   ·simp at hr
    have hz4:=textE_zero hr
    have h:=text4_call cs ct la ll lc fa fl fc w ci (by omega) hT hZ
    have e:txt (.mk 4 ci cs ct l ns fs)=quoteL ct.data.toList:=by simp[txt,leafT]
    rw[e];exact h
   ·simp at hr
    have hz5:=sizeE_zero (by decide) hr
    have h:=text5_call cs ct la ll lc fa fl fc w ci (by omega)
    have e:txt (.mk 5 ci cs ct l ns fs)=codeL ct.data.toList:=by simp[txt,leafT]
    rw[e];exact h
   ·simp at hr
    have hb:=between_zero hr
    have h:=text6_call cs ct la ll lc fa fl fc w ci (ci+719162).toNat (by omega) (by omega) hT hZ
    have e:txt (.mk 6 ci cs ct l ns fs)=100 :: 97 :: 116 :: 101 :: 32 :: quoteL (dateB (ci+719162).toNat):=by simp[txt,leafT]
    rw[e];exact h
   ·simp at hr
    have hb:=between_zero hr
    have h:=text7_call cs ct la ll lc fa fl fc w ci (ci+62135596800000).toNat (by omega) (by omega) hT hZ
    have e:txt (.mk 7 ci cs ct l ns fs)=116 :: 105 :: 109 :: 101 :: 32 :: quoteL (timeB (ci+62135596800000).toNat):=by simp[txt,leafT]
    rw[e];exact h
   ·-- a list
    simp at hr
    have hl:=sizeE_zero (by decide) hr
    have h:=textList_call ci cs ct la ll lc fa fl fc l ns fs w hd ((txts l).map (fun x=>(⟨x.toArray⟩:ByteArray))) (by rw[List.length_map,txts_len_eq];exact hll.symm) 33554432
     (fun x hx=>by
       obtain⟨y,hy,rfl⟩:=List.mem_map.1 hx
       rw[txts_map] at hy
       obtain⟨d',hd',rfl⟩:=List.mem_map.1 hy
       exact hg.kidLen (Nat.le_refl _) (by simp[kids];exact hd'))
     (by rw[hll];omega)
     (fun j hj hj2 x w' hb hx=>by
       have e:((txts l).map (fun x=>(⟨x.toArray⟩:ByteArray)))[j]=⟨(txt l[j]).toArray⟩:=by
        rw[List.getElem_map];congr 2;simp only[txts_map,List.getElem_map]
       rw[e]
       exact text_any z l[j] (by have:=Val.szs_get l j hj;omega) x w' (hg.kid (by simp[kids])) hx (hT.below hb) (hZ.below hb))
    have e:txt (.mk 8 ci cs ct l ns fs)=91 :: (Lib.join (txts l) [44,32]++[93]):=by simp[txt]
    rw[e]
    rw[joinB_of] at h
    rw[show(⟨(91 :: (Lib.join (txts l) [44,32]++[93])).toArray⟩:ByteArray)=⟨#[91]⟩++⟨(Lib.join (txts l) [44,32]).toArray⟩++⟨#[93]⟩ by rw[show(⟨#[91]⟩:ByteArray)=⟨[91].toArray⟩ from rfl,show(⟨#[93]⟩:ByteArray)=⟨[93].toArray⟩ from rfl,bAppend,bAppend];rfl]
    exact h
   ·-- a record
    have hrec:recordE ns=0:=by simpa using hr
    have e:txt (.mk 9 ci cs ct l ns fs)=123 :: (Lib.join (fldT ns (txts fs)) [44,32]++[125]):=by simp[txt]
    rw[e]
    have e2:(⟨(123 :: (Lib.join (fldT ns (txts fs)) [44,32]++[125])).toArray⟩:ByteArray)=recT ((fldT ns (txts fs)).map (fun x=>(⟨x.toArray⟩:ByteArray))):=by
     unfold recT
     rw[joinB_of,show(⟨#[123]⟩:ByteArray)=⟨[123].toArray⟩ from rfl,show(⟨#[125]⟩:ByteArray)=⟨[125].toArray⟩ from rfl,bAppend,bAppend];rfl
    rw[e2]
    have hns':ns.length=(txts fs).length:=by rw[txts_len_eq];exact hns
    rcases Nat.eq_zero_or_pos fl with h0 | h0
    ·have hf0:fs=[]:=List.eq_nil_of_length_eq_zero (by omega)
     have hn0:ns=[]:=List.eq_nil_of_length_eq_zero (by omega)
     subst hf0;subst hn0;subst h0
     exact textRec0_call ci cs ct la ll lc fa fc w
    have hnl:fl≤64:=by
     unfold recordE at hrec
     split at hrec
     ·cases hrec
     ·rename_i hle
      omega
    have hnm:∀n∈ns,n.data.toList.length≤32:=by
     unfold recordE at hrec
     split at hrec
     ·cases hrec
     ·exact fieldsE_names _ _ hrec
    have hkx:∀d'∈fs,d'∈kids (.mk 9 ci cs ct l ns fs):=fun d' h=>by simp[kids];exact h
    refine textRec_call ci cs ct la ll lc fa fl fc l ns fs w hd _ (fun j=>if h:j<fs.length then ⟨(txt fs[j]).toArray⟩ else ⟨#[]⟩) h0 (by rw[List.length_map,fldT_length _ _ hns',txts_len_eq];exact hfl.symm)
     (fun j hj hn=>by
       have hjf:j<fs.length:=by rw[List.length_map,fldT_length _ _ hns',txts_len_eq] at hj;exact hj
       rw[List.getElem_map,fldT_get ns (txts fs) j (by simpa using hj) hn (by rw[txts_len_eq];exact hjf),dif_pos hjf]
       have e3:(txts fs)[j]'(by rw[txts_len_eq];exact hjf)=txt fs[j]:=by simp only[txts_map,List.getElem_map]
       rw[e3]
       apply ByteArray.ext
       simp[ByteArray.data_append])
     33554500
     (fun x hx=>by
       obtain⟨y,hy,rfl⟩:=List.mem_map.1 hx
       obtain⟨j,hj,rfl⟩:=List.getElem_of_mem hy
       have hjf:j<fs.length:=by rw[fldT_length _ _ hns',txts_len_eq] at hj;exact hj
       have hjn:j<ns.length:=by omega
       rw[fldT_get ns (txts fs) j hj hjn (by rw[txts_len_eq];exact hjf)]
       have e3:(txts fs)[j]'(by rw[txts_len_eq];exact hjf)=txt fs[j]:=by simp only[txts_map,List.getElem_map]
       rw[e3]
       have a1:=hnm ns[j] (List.getElem_mem _)
       have a2:=hg.kidLen (Nat.le_refl _) (hkx fs[j] (List.getElem_mem _))
       simp;simp at a1;omega)
     (by omega)
     (fun j hj x w' hb hx=>by
       rw[dif_pos hj]
       exact text_any z fs[j] (by have:=Val.szs_get fs j hj;omega) x w' (hg.kid (hkx _ (List.getElem_mem _))) hx (hT.below hb) (hZ.below hb))
   ·-- a variant
    have hvar:variantE ct l.length=0:=by simpa using hr
    have hl1:l.length=1∧ct.data.toList.length≤32:=by
     unfold variantE at hvar
     split at hvar
     ·cases hvar
     ·rename_i hx
      have hx':=isName_len (by simpa using hx)
      split at hvar
      ·cases hvar
      ·have:=sizeE_zero (by decide) hvar
       constructor
       ·omega
       ·exact hx'
    obtain⟨d',rfl⟩:∃d',l=[d']:=by
     match l,hl1.1 with
     | [d'],_=>exact⟨d',rfl⟩
    have e:txt (.mk 10 ci cs ct [d'] ns fs)=ct.data.toList++40 :: (txt d'++[41]):=by simp[txt,txts]
    rw[e]
    have hkd:d'∈kids (.mk 10 ci cs ct [d'] ns fs):=by simp[kids]
    have h:=textVar_call ci cs ct la ll lc fa fl fc d' ns fs w hd ⟨(txt d').toArray⟩ (by have:=hg.kidLen (Nat.le_refl _) hkd;rw[bSize];omega) (by have:=hl1.2;rw[blen] at this;omega)
     (fun x w' hb hx=>text_any z d' (by have h1:=hsz.1;simp only[Val.szs] at h1;omega) x w' (hg.kid hkd) hx (hT.below hb) (hZ.below hb))
    have e2:(⟨(ct.data.toList++40 :: (txt d'++[41])).toArray⟩:ByteArray)=ct++⟨#[40]⟩++⟨(txt d').toArray⟩++⟨#[41]⟩:=by
     apply ByteArray.ext
     simp[ByteArray.data_append]
    rw[e2];exact h
theorem text_call (d:Val) (c:VC) (w:World) (hg:Good 4096 d) (hd:IsVal (· < w.heap.size) w c d) (hT:Tabs w) (hZ:ZTab w) :
 Calls Tryz.prog 74 #[c.v] w fun e w'=>e=.returned (.string ⟨(txt d).toArray⟩)∧Below w.heap.size w w':=text_any _ d (Nat.le_refl _) c w hg hd hT hZ
end
end Go.Proofs.YtmgpghoamapfgaaGreatDoor
