/-
  journal.Encode: the bytes of an entry, as JLaw's encJ says. Conditions: the entry can be read as data, its texts are not longer than 1000000 bytes; Tabs, ZTab.
-/
import Derived.Test.YtmgpghoamapfgaaGreatDoorJN39Mrg
import Derived.Test.YtmgpghoamapfgaaGreatDoorJN40Mrg
import Derived.Test.YtmgpghoamapfgaaGreatDoorJN43Mrg
import Derived.Test.YtmgpghoamapfgaaGreatDoorJN44Mrg
namespace Go.Proofs.YtmgpghoamapfgaaGreatDoor
set_option linter.unusedVariables false
set_option maxRecDepth 100000
set_option maxHeartbeats 16000000
set_option linter.unusedSimpArgs false
open Go Go.RowKit Go.Shelf
theorem wrJ_1 (d:En) (w:JW) (h:d.k=1):wrJ d w=((w.text d.nm).nums [d.nu,d.ve]).text d.tx:=by unfold wrJ;rw[if_pos h]
theorem wrJ_2 (d:En) (w:JW) (h:d.k=2):wrJ d w=w:=by unfold wrJ;rw[if_neg (by omega),if_pos h]
theorem wrJ_3 (d:En) (w:JW) (h:d.k=3):wrJ d w=(((((w.fail (litF d.bd).2).text d.nm).nums [d.nu]).text d.nd).nums [d.ca,flgN d.un d.dn]).text (litF d.bd).1:=by unfold wrJ;rw[if_neg (by omega),if_neg (by omega),if_pos h]
theorem wrJ_4 (d:En) (w:JW) (h:d.k=4):wrJ d w=w.nums [d.ve]:=by unfold wrJ;rw[if_neg (by omega),if_neg (by omega),if_neg (by omega),if_pos h]
theorem wrJ_5 (d:En) (w:JW) (h:d.k=5):wrJ d w=(w.fail (stampTE d.st).2).text (stampTE d.st).1:=by unfold wrJ;rw[if_neg (by omega),if_neg (by omega),if_neg (by omega),if_neg (by omega)]
theorem wrJ_6 (d:En) (w:JW) (h:d.k=6):wrJ d w=(w.fail (stampTE d.st).2).text (stampTE d.st).1:=by unfold wrJ;rw[if_neg (by omega),if_neg (by omega),if_neg (by omega),if_neg (by omega)]
theorem JExt.nums (l:List Int):∀w:JW,JExt w (w.nums l):=by
 induction l with
 | nil=>exact fun w=>JExt.refl w
 | cons x l ih=>exact fun w=>(JExt.num w x).trans (ih (w.num x))
theorem wrJ_ext (d:En) (w:JW):JExt w (wrJ d w):=by
 unfold wrJ
 split
 ·exact((JExt.text _ _).trans (JExt.nums _ _)).trans (JExt.text _ _)
 split
 ·exact JExt.refl _
 split
 ·exact(((((JExt.fail _ _).trans (JExt.text _ _)).trans (JExt.nums _ _)).trans (JExt.text _ _)).trans (JExt.nums _ _)).trans (JExt.text _ _)
 split
 ·exact JExt.nums _ _
 ·exact(JExt.fail _ _).trans (JExt.text _ _)
theorem wrJ_ne (d:En) (w:JW) (h:w.b≠[]):(wrJ d w).b≠[]:=by
 obtain⟨⟨r,hr⟩,_⟩:=wrJ_ext d w
 rw[hr]
 intro e
 exact h (List.append_eq_nil_iff.1 e).1
section
attribute [-go_sem] loadCellsFrom storeCells
attribute [local go_sem] lcf0 lcf1 lcf2 lcf3 lcf4 lcf5 stc0 stc1 field_form
theorem jEnc_call (c:EnC) (d:En) (w:World) (hd:IsEn (· < w.heap.size) w c d) (hz:d.nm.size≤1000000∧d.nd.size≤1000000∧d.tx.size≤1000000) (hT:Tabs w) (hZT:ZTab w) :
 Calls Tryz.prog 44 #[c.v] w fun e w'=>e=.returned (.tuple #[.string (encJ d).1,.int .i64 (encJ d).2])∧Below w.heap.size w w':=by
 obtain⟨N,hN⟩:∃N,N=w.heap.size:=⟨_,rfl⟩
 obtain⟨B,hB⟩:∃B,B=w.heap.size:=⟨_,rfl⟩
 obtain⟨w0,hw0⟩:∃w0,w0=w.alloc (.cells c.ar 41):=⟨_,rfl⟩
 have h0:w0.heap[N]?=some (.cells c.ar 41):=by rw[hw0,hN];exact heap_alloc_new w _
 have hb0:Below w.heap.size w w0:=by rw[hw0];exact(Below.refl _ w).alloc (Nat.le_refl _) _
 have hsz0:w0.heap.size=N+1:=by rw[hw0,World.size_alloc,←hN]
 have hd0:IsEn (· < w0.heap.size) w0 c d:=hd.same fun j hj=>⟨Nat.lt_of_lt_of_le hj hb0.size,hb0.block j hj⟩
 have hck:=chkEn_call c d w0 hd0 (hT.below hb0)
 obtain⟨E,hE⟩:∃E,E=chkEn d:=⟨_,rfl⟩
 rw[←hE] at hck
 have hkk:c.k=d.k:=hd.k
 have hkt:c.ti=d.ti:=hd.ti
 have hik:I64 c.k:=hd.rk
 have hit:I64 c.ti:=hd.rti
 obtain⟨J2,hJ2⟩:∃J2,J2=JW.nums ⟨[],0⟩ [c.k,c.ti]:=⟨_,rfl⟩
 obtain⟨J3,hJ3⟩:∃J3,J3=wrJ d J2:=⟨_,rfl⟩
 have henc:encJ d=if E≠0 then (⟨#[]⟩,E) else if J3.e≠0 then (⟨#[]⟩,J3.e) else (⟨J3.b.toArray⟩,0):=by
  unfold encJ encW
  rw[hE,hJ3,hJ2,hkk,hkt]
 have hne:E=0→J3.b≠[]:=fun h=>by
  rw[hJ3]
  refine wrJ_ne d J2 ?_
  rw[hE] at h
  have h1:=(chk_rest h hd.bd.named).1
  rw[hJ2]
  obtain⟨⟨r,hr⟩,_⟩:=JExt.num (JW.num ⟨[],0⟩ c.k) c.ti
  show(JW.num (JW.num ⟨[],0⟩ c.k) c.ti).b≠[]
  rw[hr]
  have h2:(putF c.k).2=0:=by
   have:=putF_size (n:=c.k.toNat) (by show c.k.toNat≤4611686018427387903;omega)
   rwa[Int.toNat_of_nonneg (by omega)] at this
  intro e
  have e2:=(List.append_eq_nil_iff.1 e).1
  have e3:(JW.num ⟨[],0⟩ c.k).b=viL c.k.toNat:=by
   show[]++(putF c.k).1.data.toList=_
   rw[(putF_ok h2).2.2];rfl
  rw[e3] at e2
  have:=viL_pos c.k.toNat
  rw[e2] at this
  simp at this
 have hkr:E=0→1≤d.k∧d.k≤6:=fun h=>by rw[hE] at h;exact(chk_rest h hd.bd.named).1
 have hj2l:J2.b.length≤1000:=by
  rw[hJ2]
  have:=nums_len [c.k,c.ti] ⟨[],0⟩
  simp only[List.length_cons,List.length_nil] at this
  omega
 rw[←hN]
 obtain⟨k,ti,nu,ve,ca,nm,nd,tx,un,dn,⟨bk,bi,bs,bt,bla,bll,blc,bfa,bfl,bfc⟩,⟨se,sa,sn,scc⟩⟩:=c
 dsimp only[EnC.v,EnC.ar,EnC.cs,VC.v,SC.v] at *
 have HC0:=hid (fun (w':World) (h:Below w0.heap.size w0 w')=>have q:=heapExt h h0
  (show w'.cell? ⟨N,0,none⟩=some (.int .i64 k)∧w'.cell? ⟨N,1,none⟩=some (.int .i64 ti)∧(loadCellsFrom ⟨N,0,none⟩ 0 18 #[]).run Tryz.prog w'=.ok #[.int .i64 k,.int .i64 ti,.int .i64 nu,.int .i64 ve,.int .i64 ca,.string nm,.string nd,.string tx,.bool un,.bool dn,.int .i64 bk,.int .i64 bi,.int .i64 bs,.string bt,.slice bla bll blc,.slice bfa bfl bfc,.int .i64 se,.slice sa sn scc] w' from⟨cellOf q 0,cellOf q 1,ldEn (c:=⟨k,ti,nu,ve,ca,nm,nd,tx,un,dn,⟨bk,bi,bs,bt,bla,bll,blc,bfa,bfl,bfc⟩,⟨se,sa,sn,scc⟩⟩) (fr:=(0,0)) q⟩))
 have l0:=(HC0.out w0 (Below.refl _ _)).2.2
 have HW:=hid hw0
 have HN:=hid hN
 have HCK:=hid hck
 have HB0:=hid hb0
 have HEN0:=hid henc
 have HNE0:=hid hne
 have HKR0:=hid hkr
 have HZ:=hid hz
 have HJ2:=hid hj2l
 have HWJ:=hid hJ3
 have HJ2E:=hid hJ2
 have HK:=hid hkk
 have HI:=hid hik
 have HIT:=hid hit
 have HD0:=hid hd
 have H0:=hid h0
 have HTW:=hid (show Tabs w∧ZTab w from⟨hT,hZT⟩)
 have HNB:=hid (show N=B∧B=w.heap.size∧w0.heap.size=N+1 from⟨by omega,hB,hsz0⟩)
 have HBD:=hid (show ∀x:World,True from fun _=>trivial)
 clear hw0 hN hB h0 hb0 hsz0 hd0 hck hE hkk hkt hJ2 hJ3 henc hne hkr hj2l hz hd hT hZT hik hit
 by_cases hE0:E=0
 rotate_left
 ·have q1:(E != 0)=true:=by simp[hE0]
  have HE:=hid hE0
  clear hE0
  go_enter Tryz.func44,Tryz.ntmps44
  go_upto_region 1 with (fail)
  rw[←HW.out,←HN.out]
  go_wp2_with (go_at_call 87;refine HCK.out.mono ?_;rintro x w1 ⟨rfl,hb1⟩;have HB1:=hid hb1;clear hb1)
  refine bodyPost_ret (v:=.tuple #[.string ⟨#[]⟩,.int .i64 E]) (by simp[results,Tryz.results44,go_sem]) rfl ?_
  exact⟨by rw[HEN0.out,if_pos HE.out],by rw[HN.out];exact HB0.out.trans (HB1.out.mono HB0.out.size)⟩
 have q1:(E != 0)=false:=by simp[hE0]
 have HEN:=hid (show encJ d=if J3.e≠0 then (⟨#[]⟩,J3.e) else (⟨J3.b.toArray⟩,0) by rw[HEN0.out,if_neg (fun h=>h hE0)])
 have HNE:=hid (HNE0.out hE0)
 have HKR:=hid (show 1≤k∧k≤6 by have:=HKR0.out hE0;have h2:=HK.out;omega)
 have HK6:=hid (show k=1∨k=2∨k=3∨k=4∨k=5∨k=6 by have:=HKR.out;omega)
 clear hE0
 go_enter Tryz.func44,Tryz.ntmps44
 go_upto_region 1 with (fail)
 rw[←HW.out,←HN.out]
 go_upto_region 5 with (go_at_call 87;refine HCK.out.mono ?_;rintro x w1 ⟨rfl,hb1⟩;have HB1:=hid hb1;clear hb1)
 obtain⟨b,hb⟩:∃b,b=w1.heap.size:=⟨_,rfl⟩
 obtain⟨w2,hw2⟩:∃w2,w2=w1.alloc (.cells #[.pointer none,.slice none 0 0,.int .i64 0] JT):=⟨_,rfl⟩
 have hbN:b≠N∧B≤b:=by have h1:=HNB.out;have:=HB1.out.size;omega
 have hb2:w2.heap[b]?=some (.cells #[.pointer none,.slice none 0 0,.int .i64 0] JT):=by rw[hw2,hb];exact heap_alloc_new w1 _
 have hbb2:Below w0.heap.size w0 w2:=by rw[hw2];exact HB1.out.alloc HB1.out.size _
 have ha2:WAt B b w2 ⟨[],0⟩ w2:=⟨⟨hbN.2,_,_,hb2,.inl rfl,World.ownsRowF_nil _ _ _ _,by simp[Value.ownBlock]⟩,Below.refl _ _,Lib.OthersKept.refl _ _ _,by have h1:=HNB.out;have:=hbb2.size;omega⟩
 have hwB:Below B w w2:=by rw[HNB.out.2.1];exact HB0.out.trans (hbb2.mono HB0.out.size)
 have HC:=hid (fun (J:JW) (w':World) (h:WAt B b w2 J w')=>have q:=h.o N _ ((hbb2.block N (by have:=HNB.out;omega)).trans H0.out) (fun e=>hbN.1 (by injection e with e;exact e.symm)) (fun c fz e=>by injection e with _ e2 _;exact absurd e2 (by decide))
  (show w'.cell? ⟨N,0,none⟩=some (.int .i64 k)∧w'.cell? ⟨N,1,none⟩=some (.int .i64 ti)∧(loadCellsFrom ⟨N,0,none⟩ 0 18 #[]).run Tryz.prog w'=.ok #[.int .i64 k,.int .i64 ti,.int .i64 nu,.int .i64 ve,.int .i64 ca,.string nm,.string nd,.string tx,.bool un,.bool dn,.int .i64 bk,.int .i64 bi,.int .i64 bs,.string bt,.slice bla bll blc,.slice bfa bfl bfc,.int .i64 se,.slice sa sn scc] w' from⟨cellOf q 0,cellOf q 1,ldEn (c:=⟨k,ti,nu,ve,ca,nm,nd,tx,un,dn,⟨bk,bi,bs,bt,bla,bll,blc,bfa,bfl,bfc⟩,⟨se,sa,sn,scc⟩⟩) (fr:=(0,0)) q⟩))
 have HD:=hid (fun (J:JW) (w':World) (h:WAt B b w2 J w')=>(show IsEn (· < B) w' ⟨k,ti,nu,ve,ca,nm,nd,tx,un,dn,⟨bk,bi,bs,bt,bla,bll,blc,bfa,bfl,bfc⟩,⟨se,sa,sn,scc⟩⟩ d from HD0.out.same fun i hi=>⟨by rw[HNB.out.2.1];exact hi,(hwB.trans h.l).block i (by rw[HNB.out.2.1];exact hi)⟩))
 have HTT:=hid (fun (J:JW) (w':World) (h:WAt B b w2 J w')=>(show Tabs w'∧ZTab w' from⟨HTW.out.1.below (HNB.out.2.1▸hwB.trans h.l),HTW.out.2.below (HNB.out.2.1▸hwB.trans h.l)⟩))
 have HFB:=hid (fun (w':World) (h:Below B w2 w')=>(show Below N w w' by rw[HNB.out.1];exact hwB.trans h))
 have HA2:=hid ha2
 have HW2:=hid hw2
 obtain⟨e0,e1,l2⟩:=HC.out _ w2 ha2
 rw[←hb,←hw2]
 clear hb hw2 hbN hb2 hbb2 ha2 hwB l0
 go_upto_region 6 with (go_at_call 88;go_loud (refine(HA2.out.nums [k,ti] (by intro x hx;simp only[List.mem_cons,List.not_mem_nil,or_false] at hx;rcases hx with rfl | rfl;exact HI.out;exact HIT.out) (by simp only[List.length_cons,List.length_nil];omega)).mono ?_);rintro x w4 ⟨rfl,h4⟩;rw[←HJ2E.out] at h4;have H4:=hid h4;clear h4)
 have HC4:=hid (fun (w':World) (h:Below w4.heap.size w4 w')=>HC.out _ w' (H4.out.ext h))
 clear e0 e1 l2
 refine wp_region_split3 6 (fun w'=>Below w4.heap.size w4 w') (by kernel_rfl) (by kernel_rfl) (by kernel_rfl) (by decide) ((Below.refl _ _).drew) (fun hS=>?_)
 simp only[List.take_succ_cons,List.take_zero,List.drop_succ_cons,List.drop_zero]
 refine tkQ 1 (v:=?_) ?_ hS ?_;rotate_left;· intro w' hw';have hcells:=HC4.out w' hw';go_simp;(try with_reducible rfl)
 simp only[Act.put,pt1,pt2,pt3,pt4,pt5,pt6]
 refine tkQ 2 (v:=?_) ?_ hS ?_;rotate_left;· intro w' hw';have hcells:=HC4.out w' hw';go_simp;(try with_reducible rfl)
 simp only[Act.put,pt1,pt2,pt3,pt4,pt5,pt6]
 refine tkQ 5 (v:=?_) ?_ hS ?_;rotate_left;· intro w' hw';have hcells:=HC4.out w' hw';go_simp;(try with_reducible rfl)
 simp only[Act.put,pt1,pt2,pt3,pt4,pt5,pt6]
 refine wpAnyH_ready (rs:=[0]) (by kernel_rfl) (by simp) ?_
 refine arQ fun K hK=>?_
 go_simp;go_at_call 89;refine(forms_call _).mono ?_
 rintro x w6 ⟨bm,rfl,_,hfm,hb6⟩
 have HFM:=hid hfm
 have HB6:=hid (hS.trans (hb6.mono hS.size))
 refine hK.out _ _ (hS.trans (hb6.mono hS.size)) (fun hS=>?_)
 clear hK K
 (try simp only[Act.put,pt1,pt2,pt3,pt4,pt5,pt6])
 refine wpAnyH_ready (rs:=[3]) (by kernel_rfl) (by simp) ?_
 refine arQ fun K hK=>?_
 have hlk:=HFM.out.plain k HI.out HKR.out.1 HKR.out.2
 unfold formV at hlk
 go_simp
 refine hK.out _ _ (hS) (fun hS=>?_)
 clear hK K
 (try simp only[Act.put,pt1,pt2,pt3,pt4,pt5,pt6])
 refine tkQ 4 (v:=?_) ?_ hS ?_;rotate_left;· intro w' hw';have hcells:=HC4.out w' hw';go_simp;(try with_reducible rfl)
 simp only[Act.put,pt1,pt2,pt3,pt4,pt5,pt6]
 refine wpAnyH_done (by kernel_rfl) ?_ _
 (try dsimp only)
 clear hS
 have H6:=hid (H4.out.ext HB6.out)
 have HD6:=hid (HD.out _ w6 H6.out)
 have HT6:=hid (HTT.out _ w6 H6.out)
 rcases HK6.out with hk1 | hk2 | hk3 | hk4 | hk5 | hk6
 ·have hf:wNo 1=164:=rfl
  have hwr:=wrA_call B b J2 ⟨k,ti,nu,ve,ca,nm,nd,tx,un,dn,⟨bk,bi,bs,bt,bla,bll,blc,bfa,bfl,bfc⟩,⟨se,sa,sn,scc⟩⟩ d w6 H6.out.j HD6.out HZ.out HJ2.out (H6.out.s)
  have hsp:wrJ d J2=_:=wrJ_1 d J2 (HK.out.symm.trans hk1)
  dsimp only[EnC.v] at hwr
  rw[←hsp,←HWJ.out] at hwr
  have HWR:=hid hwr
  have HF:=hid hf
  clear hwr hsp hf
  subst hk1
  simp only[HF.out]
  by_cases h9:J3.e=0
  ·have q9:(J3.e != 0)=false:=by simp[h9]
   have H9:=hid h9
   clear h9
   go_wp2_with (first
    | (go_at_call 38;refine(strJ_call JT B b J3 w7 H7.out.j HNE.out H7.out.s).mono ?_;rintro x w8 ⟨rfl,hb8,_⟩;have HB8:=hid hb8;clear hb8)
    | (go_at_call 164;refine HWR.out.mono ?_;rintro x w7 h7;have H7:=hid (H6.out.post h7).2;obtain⟨rfl,_⟩:=h7;obtain⟨z2,y2⟩:=H7.out.j.eCell))
   refine bodyPost_ret (v:=.tuple #[.string ⟨J3.b.toArray⟩,.int .i64 0]) (by simp[results,Tryz.results44,go_sem]) rfl ?_
   exact⟨by rw[HEN.out,if_neg (fun h=>h H9.out)],HFB.out w8 (H7.out.l.trans HB8.out)⟩
  ·have q9:(J3.e != 0)=true:=by simp[h9]
   have H9:=hid h9
   clear h9
   go_upto_region 8 with (go_at_call 164;refine HWR.out.mono ?_;rintro x w7 h7;have H7:=hid (H6.out.post h7).2;obtain⟨rfl,_⟩:=h7;obtain⟨z2,y2⟩:=H7.out.j.eCell)
   go_region
   all_goals (
    go_wp2
    refine bodyPost_ret (v:=.tuple #[.string ⟨#[]⟩,.int .i64 J3.e]) (by simp[results,Tryz.results44,go_sem]) rfl ?_
    exact⟨by rw[HEN.out,if_pos H9.out],HFB.out _ H7.out.l.drew⟩)
 ·have hf:wNo 2=166:=rfl
  have hwr:=wrT_call B b J2 ⟨k,ti,nu,ve,ca,nm,nd,tx,un,dn,⟨bk,bi,bs,bt,bla,bll,blc,bfa,bfl,bfc⟩,⟨se,sa,sn,scc⟩⟩ d w6 H6.out.j HD6.out HZ.out HJ2.out (H6.out.s)
  have hsp:wrJ d J2=_:=wrJ_2 d J2 (HK.out.symm.trans hk2)
  dsimp only[EnC.v] at hwr
  rw[←hsp,←HWJ.out] at hwr
  have HWR:=hid hwr
  have HF:=hid hf
  clear hwr hsp hf
  subst hk2
  simp only[HF.out]
  by_cases h9:J3.e=0
  ·have q9:(J3.e != 0)=false:=by simp[h9]
   have H9:=hid h9
   clear h9
   go_wp2_with (first
    | (go_at_call 38;refine(strJ_call JT B b J3 w7 H7.out.j HNE.out H7.out.s).mono ?_;rintro x w8 ⟨rfl,hb8,_⟩;have HB8:=hid hb8;clear hb8)
    | (go_at_call 166;refine HWR.out.mono ?_;rintro x w7 h7;have H7:=hid (H6.out.post h7).2;obtain⟨rfl,_⟩:=h7;obtain⟨z2,y2⟩:=H7.out.j.eCell))
   refine bodyPost_ret (v:=.tuple #[.string ⟨J3.b.toArray⟩,.int .i64 0]) (by simp[results,Tryz.results44,go_sem]) rfl ?_
   exact⟨by rw[HEN.out,if_neg (fun h=>h H9.out)],HFB.out w8 (H7.out.l.trans HB8.out)⟩
  ·have q9:(J3.e != 0)=true:=by simp[h9]
   have H9:=hid h9
   clear h9
   go_upto_region 8 with (go_at_call 166;refine HWR.out.mono ?_;rintro x w7 h7;have H7:=hid (H6.out.post h7).2;obtain⟨rfl,_⟩:=h7;obtain⟨z2,y2⟩:=H7.out.j.eCell)
   go_region
   all_goals (
    go_wp2
    refine bodyPost_ret (v:=.tuple #[.string ⟨#[]⟩,.int .i64 J3.e]) (by simp[results,Tryz.results44,go_sem]) rfl ?_
    exact⟨by rw[HEN.out,if_pos H9.out],HFB.out _ H7.out.l.drew⟩)
 ·have hf:wNo 3=168:=rfl
  have hwr:=wrR_call B b J2 ⟨k,ti,nu,ve,ca,nm,nd,tx,un,dn,⟨bk,bi,bs,bt,bla,bll,blc,bfa,bfl,bfc⟩,⟨se,sa,sn,scc⟩⟩ d w6 H6.out.j HD6.out HZ.out HJ2.out (H6.out.s) HT6.out.1 HT6.out.2
  have hsp:wrJ d J2=_:=wrJ_3 d J2 (HK.out.symm.trans hk3)
  dsimp only[EnC.v] at hwr
  rw[←hsp,←HWJ.out] at hwr
  have HWR:=hid hwr
  have HF:=hid hf
  clear hwr hsp hf
  subst hk3
  simp only[HF.out]
  by_cases h9:J3.e=0
  ·have q9:(J3.e != 0)=false:=by simp[h9]
   have H9:=hid h9
   clear h9
   go_wp2_with (first
    | (go_at_call 38;refine(strJ_call JT B b J3 w7 H7.out.j HNE.out H7.out.s).mono ?_;rintro x w8 ⟨rfl,hb8,_⟩;have HB8:=hid hb8;clear hb8)
    | (go_at_call 168;refine HWR.out.mono ?_;rintro x w7 h7;have H7:=hid (H6.out.post h7).2;obtain⟨rfl,_⟩:=h7;obtain⟨z2,y2⟩:=H7.out.j.eCell))
   refine bodyPost_ret (v:=.tuple #[.string ⟨J3.b.toArray⟩,.int .i64 0]) (by simp[results,Tryz.results44,go_sem]) rfl ?_
   exact⟨by rw[HEN.out,if_neg (fun h=>h H9.out)],HFB.out w8 (H7.out.l.trans HB8.out)⟩
  ·have q9:(J3.e != 0)=true:=by simp[h9]
   have H9:=hid h9
   clear h9
   go_upto_region 8 with (go_at_call 168;refine HWR.out.mono ?_;rintro x w7 h7;have H7:=hid (H6.out.post h7).2;obtain⟨rfl,_⟩:=h7;obtain⟨z2,y2⟩:=H7.out.j.eCell)
   go_region
   all_goals (
    go_wp2
    refine bodyPost_ret (v:=.tuple #[.string ⟨#[]⟩,.int .i64 J3.e]) (by simp[results,Tryz.results44,go_sem]) rfl ?_
    exact⟨by rw[HEN.out,if_pos H9.out],HFB.out _ H7.out.l.drew⟩)
 ·have hf:wNo 4=171:=rfl
  have hwr:=wrU_call B b J2 ⟨k,ti,nu,ve,ca,nm,nd,tx,un,dn,⟨bk,bi,bs,bt,bla,bll,blc,bfa,bfl,bfc⟩,⟨se,sa,sn,scc⟩⟩ d w6 H6.out.j HD6.out HZ.out HJ2.out (H6.out.s)
  have hsp:wrJ d J2=_:=wrJ_4 d J2 (HK.out.symm.trans hk4)
  dsimp only[EnC.v] at hwr
  rw[←hsp,←HWJ.out] at hwr
  have HWR:=hid hwr
  have HF:=hid hf
  clear hwr hsp hf
  subst hk4
  simp only[HF.out]
  by_cases h9:J3.e=0
  ·have q9:(J3.e != 0)=false:=by simp[h9]
   have H9:=hid h9
   clear h9
   go_wp2_with (first
    | (go_at_call 38;refine(strJ_call JT B b J3 w7 H7.out.j HNE.out H7.out.s).mono ?_;rintro x w8 ⟨rfl,hb8,_⟩;have HB8:=hid hb8;clear hb8)
    | (go_at_call 171;refine HWR.out.mono ?_;rintro x w7 h7;have H7:=hid (H6.out.post h7).2;obtain⟨rfl,_⟩:=h7;obtain⟨z2,y2⟩:=H7.out.j.eCell))
   refine bodyPost_ret (v:=.tuple #[.string ⟨J3.b.toArray⟩,.int .i64 0]) (by simp[results,Tryz.results44,go_sem]) rfl ?_
   exact⟨by rw[HEN.out,if_neg (fun h=>h H9.out)],HFB.out w8 (H7.out.l.trans HB8.out)⟩
  ·have q9:(J3.e != 0)=true:=by simp[h9]
   have H9:=hid h9
   clear h9
   go_upto_region 8 with (go_at_call 171;refine HWR.out.mono ?_;rintro x w7 h7;have H7:=hid (H6.out.post h7).2;obtain⟨rfl,_⟩:=h7;obtain⟨z2,y2⟩:=H7.out.j.eCell)
   go_region
   all_goals (
    go_wp2
    refine bodyPost_ret (v:=.tuple #[.string ⟨#[]⟩,.int .i64 J3.e]) (by simp[results,Tryz.results44,go_sem]) rfl ?_
    exact⟨by rw[HEN.out,if_pos H9.out],HFB.out _ H7.out.l.drew⟩)
 ·have hf:wNo 5=160:=rfl
  have hwr:=wrL_call B b J2 ⟨k,ti,nu,ve,ca,nm,nd,tx,un,dn,⟨bk,bi,bs,bt,bla,bll,blc,bfa,bfl,bfc⟩,⟨se,sa,sn,scc⟩⟩ d w6 H6.out.j HD6.out HZ.out HJ2.out (H6.out.s) HT6.out.1
  have hsp:wrJ d J2=_:=wrJ_5 d J2 (HK.out.symm.trans hk5)
  dsimp only[EnC.v] at hwr
  rw[←hsp,←HWJ.out] at hwr
  have HWR:=hid hwr
  have HF:=hid hf
  clear hwr hsp hf
  subst hk5
  simp only[HF.out]
  by_cases h9:J3.e=0
  ·have q9:(J3.e != 0)=false:=by simp[h9]
   have H9:=hid h9
   clear h9
   go_wp2_with (first
    | (go_at_call 38;refine(strJ_call JT B b J3 w7 H7.out.j HNE.out H7.out.s).mono ?_;rintro x w8 ⟨rfl,hb8,_⟩;have HB8:=hid hb8;clear hb8)
    | (go_at_call 160;refine HWR.out.mono ?_;rintro x w7 h7;have H7:=hid (H6.out.post h7).2;obtain⟨rfl,_⟩:=h7;obtain⟨z2,y2⟩:=H7.out.j.eCell))
   refine bodyPost_ret (v:=.tuple #[.string ⟨J3.b.toArray⟩,.int .i64 0]) (by simp[results,Tryz.results44,go_sem]) rfl ?_
   exact⟨by rw[HEN.out,if_neg (fun h=>h H9.out)],HFB.out w8 (H7.out.l.trans HB8.out)⟩
  ·have q9:(J3.e != 0)=true:=by simp[h9]
   have H9:=hid h9
   clear h9
   go_upto_region 8 with (go_at_call 160;refine HWR.out.mono ?_;rintro x w7 h7;have H7:=hid (H6.out.post h7).2;obtain⟨rfl,_⟩:=h7;obtain⟨z2,y2⟩:=H7.out.j.eCell)
   go_region
   all_goals (
    go_wp2
    refine bodyPost_ret (v:=.tuple #[.string ⟨#[]⟩,.int .i64 J3.e]) (by simp[results,Tryz.results44,go_sem]) rfl ?_
    exact⟨by rw[HEN.out,if_pos H9.out],HFB.out _ H7.out.l.drew⟩)
 ·have hf:wNo 6=160:=rfl
  have hwr:=wrL_call B b J2 ⟨k,ti,nu,ve,ca,nm,nd,tx,un,dn,⟨bk,bi,bs,bt,bla,bll,blc,bfa,bfl,bfc⟩,⟨se,sa,sn,scc⟩⟩ d w6 H6.out.j HD6.out HZ.out HJ2.out (H6.out.s) HT6.out.1
  have hsp:wrJ d J2=_:=wrJ_6 d J2 (HK.out.symm.trans hk6)
  dsimp only[EnC.v] at hwr
  rw[←hsp,←HWJ.out] at hwr
  have HWR:=hid hwr
  have HF:=hid hf
  clear hwr hsp hf
  subst hk6
  simp only[HF.out]
  by_cases h9:J3.e=0
  ·have q9:(J3.e != 0)=false:=by simp[h9]
   have H9:=hid h9
   clear h9
   go_wp2_with (first
    | (go_at_call 38;refine(strJ_call JT B b J3 w7 H7.out.j HNE.out H7.out.s).mono ?_;rintro x w8 ⟨rfl,hb8,_⟩;have HB8:=hid hb8;clear hb8)
    | (go_at_call 160;refine HWR.out.mono ?_;rintro x w7 h7;have H7:=hid (H6.out.post h7).2;obtain⟨rfl,_⟩:=h7;obtain⟨z2,y2⟩:=H7.out.j.eCell))
   refine bodyPost_ret (v:=.tuple #[.string ⟨J3.b.toArray⟩,.int .i64 0]) (by simp[results,Tryz.results44,go_sem]) rfl ?_
   exact⟨by rw[HEN.out,if_neg (fun h=>h H9.out)],HFB.out w8 (H7.out.l.trans HB8.out)⟩
  ·have q9:(J3.e != 0)=true:=by simp[h9]
   have H9:=hid h9
   clear h9
   go_upto_region 8 with (go_at_call 160;refine HWR.out.mono ?_;rintro x w7 h7;have H7:=hid (H6.out.post h7).2;obtain⟨rfl,_⟩:=h7;obtain⟨z2,y2⟩:=H7.out.j.eCell)
   go_region
   all_goals (
    go_wp2
    refine bodyPost_ret (v:=.tuple #[.string ⟨#[]⟩,.int .i64 J3.e]) (by simp[results,Tryz.results44,go_sem]) rfl ?_
    exact⟨by rw[HEN.out,if_pos H9.out],HFB.out _ H7.out.l.drew⟩)
end
end Go.Proofs.YtmgpghoamapfgaaGreatDoor
