/-
  manifoldlaw46.known returns true; small answers something, and true only for short texts. Conditions: the entry can be read as data; Tabs, ZTab.
-/
import Derived.Test.YtmgpghoamapfgaaGreatDoorJN45Mrg
import Derived.Test.YtmgpghoamapfgaaGreatDoorJN46Mrg
namespace Go.Proofs.YtmgpghoamapfgaaGreatDoor
set_option linter.unusedVariables false
set_option maxRecDepth 100000
set_option maxHeartbeats 16000000
set_option linter.unusedSimpArgs false
open Go Go.RowKit Go.Shelf
theorem viL_300:viL 300=[172,2]:=by
 rw[viL_big (by decide)]
 rw[viL_small (by decide)]
 decide
def kn4:En:={ enZ with k:=4,ti:=300,ve:=3 }
def kn1:En:={ enZ with k:=1,nm:=⟨#[105,110]⟩,nu:=1,ve:=1,tx:=⟨#[97,98]⟩ }
theorem putF_nat (n:Nat) (h:n≤1000):putF n=(⟨(viL n).toArray⟩,0):=by
 unfold putF
 rw[if_neg (by show ¬ ((n:Int)<0∨((4611686018427387903:Nat):Int)<(n:Int));omega)]
 rfl
theorem kn4_enc:encJ kn4=(⟨#[4,172,2,3]⟩,0):=by
 have hc:chkEn kn4=0:=by decide
 have p4:putF 4=(⟨#[4]⟩,0):=by rw[show(4:Int)=((4:Nat):Int) from rfl,putF_nat 4 (by decide),viL_small (by decide)];rfl
 have p3:putF 3=(⟨#[3]⟩,0):=by rw[show(3:Int)=((3:Nat):Int) from rfl,putF_nat 3 (by decide),viL_small (by decide)];rfl
 have p300:putF 300=(⟨#[172,2]⟩,0):=by rw[show(300:Int)=((300:Nat):Int) from rfl,putF_nat 300 (by decide),viL_300]
 have hw:encW kn4=⟨[4,172,2,3],0⟩:=by
  show(JW.num (JW.num (JW.num ⟨[],0⟩ 4) 300) 3)=_
  rw[num_ok (by rw[p3]),num_ok (by rw[p300]),num_ok (by rw[p4]),p3,p300,p4]
  rfl
 unfold encJ
 rw[if_neg (fun h=>h hc),hw]
 rfl
theorem kn1_enc:encJ kn1=(⟨#[1,0,2,105,110,1,1,2,97,98]⟩,0):=by
 have hc:chkEn kn1=0:=by decide
 have p0:putF 0=(⟨#[0]⟩,0):=by rw[show(0:Int)=((0:Nat):Int) from rfl,putF_nat 0 (by decide),viL_small (by decide)];rfl
 have p1:putF 1=(⟨#[1]⟩,0):=by rw[show(1:Int)=((1:Nat):Int) from rfl,putF_nat 1 (by decide),viL_small (by decide)];rfl
 have p2:putF 2=(⟨#[2]⟩,0):=by rw[show(2:Int)=((2:Nat):Int) from rfl,putF_nat 2 (by decide),viL_small (by decide)];rfl
 have t1:∀w:JW,w.text ⟨#[105,110]⟩=⟨w.b++[2,105,110],w.e⟩:=fun w=>by
  rw[text_ok (by decide)]
  rw[show(((⟨#[105,110]⟩:ByteArray).size:Nat):Int)=2 from rfl,p2]
  rfl
 have t2:∀w:JW,w.text ⟨#[97,98]⟩=⟨w.b++[2,97,98],w.e⟩:=fun w=>by
  rw[text_ok (by decide)]
  rw[show(((⟨#[97,98]⟩:ByteArray).size:Nat):Int)=2 from rfl,p2]
  rfl
 have hw:encW kn1=⟨[1,0,2,105,110,1,1,2,97,98],0⟩:=by
  show JW.text (JW.num (JW.num (JW.text (JW.num (JW.num ⟨[],0⟩ 1) 0) ⟨#[105,110]⟩) 1) 1) ⟨#[97,98]⟩=_
  rw[t2,num_ok (by rw[p1]),num_ok (by rw[p1]),t1,num_ok (by rw[p0]),num_ok (by rw[p1]),p1,p0]
  rfl
 unfold encJ
 rw[if_neg (fun h=>h hc),hw]
 rfl
theorem stZ_isK (S:Nat→Prop) (w:World):IsSt S w ⟨0,none,0,0⟩ ⟨0,[]⟩:=⟨rfl,(by simp[I64]),⟨rfl,Nat.le_refl _,by simp,(fun x hx=>by cases hx),.inl rfl⟩⟩
theorem kn4_is (S:Nat→Prop) (w:World):IsEn S w { enZC with k:=4,ti:=300,ve:=3 } kn4 :=
 have z:I64 0:=by simp[I64]
 ⟨rfl,by simp[I64],rfl,by simp[I64],rfl,z,rfl,by simp[I64],rfl,z,rfl,Nat.zero_le _,rfl,Nat.zero_le _,rfl,Nat.zero_le _,rfl,rfl,leaf_val 0 0 z z,stZ_isK _ _⟩
theorem kn1_is (S:Nat→Prop) (w:World):IsEn S w { enZC with k:=1,nm:=⟨#[105,110]⟩,nu:=1,ve:=1,tx:=⟨#[97,98]⟩ } kn1 :=
 have z:I64 0:=by simp[I64]
 ⟨rfl,by simp[I64],rfl,by simp[I64],rfl,by simp[I64],rfl,by simp[I64],rfl,z,rfl,by decide,rfl,Nat.zero_le _,rfl,by decide,rfl,rfl,leaf_val 0 0 z z,stZ_isK _ _⟩
section
attribute [-go_sem] loadCellsFrom storeCells
attribute [local go_sem] lcf0 lcf1 lcf2 lcf3 lcf4 lcf5 stc0 stc1
theorem known46_call (w:World) (hT:Tabs w) (hZT:ZTab w):Calls Tryz.prog 11 #[] w fun e w'=>e=.returned (.bool true)∧Below w.heap.size w w':=by
 have h4:=jEnc_call { enZC with k:=4,ti:=300,ve:=3 } kn4 w (kn4_is _ _) ⟨by decide,by decide,by decide⟩ hT hZT
 have h1:=fun (w':World) (h:Below w.heap.size w w')=>jEnc_call { enZC with k:=1,nm:=⟨#[105,110]⟩,nu:=1,ve:=1,tx:=⟨#[97,98]⟩ } kn1 w' (kn1_is _ _) ⟨by decide,by decide,by decide⟩ (hT.below h) (hZT.below h)
 rw[kn4_enc] at h4
 rw[kn1_enc] at h1
 dsimp only[EnC.v,VC.v] at h4 h1
 have H4:=hid h4
 have H1:=hid h1
 clear h4 h1 hT hZT
 go_enter Tryz.func11,Tryz.ntmps11
 go_wp2_with (first
  | (go_at_call 44;refine(H1.out w1 HB1.out).mono ?_;rintro x w2 ⟨rfl,hb2⟩;have HB2:=hid hb2;clear hb2)
  | (go_at_call 44;refine H4.out.mono ?_;rintro x w1 ⟨rfl,hb1⟩;have HB1:=hid hb1;clear hb1))
 go_ret
 exact⟨rfl,HB1.out.trans (HB2.out.mono HB1.out.size)⟩
def SmallJPost (d:En) (w:World) (e:Ending) (w':World):Prop:=∃bb,e=.returned (.bool bb)∧(bb=true→d.nm.size≤300∧d.nd.size≤300∧d.tx.size≤300)∧Below w.heap.size w w'
theorem smallJ_call (c:EnC) (d:En) (w:World) (hd:IsEn (· < w.heap.size) w c d):Calls Tryz.prog 12 #[c.v] w (SmallJPost d w):=by
 obtain⟨w0,hw0⟩:∃w0,w0=w.alloc (.cells c.ar 41):=⟨_,rfl⟩
 have h0:w0.heap[w.heap.size]?=some (.cells c.ar 41):=by rw[hw0];exact heap_alloc_new w _
 have hb0:Below w.heap.size w w0:=by rw[hw0];exact(Below.refl _ w).alloc (Nat.le_refl _) _
 have hsv:=smallV_call c.bd d.bd w0 (hd.bd.same fun j hj=>⟨Nat.lt_of_lt_of_le hj hb0.size,hb0.block j hj⟩)
 have HNM:=hid (show c.nm=d.nm∧c.nd=d.nd∧c.tx=d.tx from⟨hd.nm,hd.nd,hd.tx⟩)
 obtain⟨k,ti,nu,ve,ca,nm,nd,tx,un,dn,⟨bk,bi,bs,bt,bla,bll,blc,bfa,bfl,bfc⟩,⟨se,sa,sn,scc⟩⟩:=c
 dsimp only[EnC.v,EnC.ar,VC.v] at *
 have x5:=cellOf h0 5
 have x6:=cellOf h0 6
 have x7:=cellOf h0 7
 have x17:=cellOf h0 17
 have l10:=ldAtJ (k:=10) h0 rfl rfl rfl rfl rfl rfl
 (try dsimp only at x5 x6 x7 x17)
 have HSV:=hid hsv
 have HB0:=hid hb0
 have HW:=hid hw0
 clear hsv hb0 hw0 h0 hd
 by_cases h0:nm.size≤300
 rotate_left
 ·have q0:¬ (nm.size:Int)≤300:=by omega
  go_enter Tryz.func12,Tryz.ntmps12
  go_upto_region 1 with (fail)
  rw[←HW.out]
  go_wp2_with (go_at_call 45;refine HSV.out.mono ?_;rintro e w1 ⟨⟨bb,rfl⟩,hb1⟩;have HB1:=hid (HB0.out.trans (hb1.mono HB0.out.size));clear hb1)
  refine bodyPost_ret (v:=.bool false) (by simp[results,Tryz.results12,go_sem]) rfl ?_
  exact(show SmallJPost d w _ _ from⟨false,rfl,fun h=>Bool.noConfusion h,HB0.out⟩)
 have q0:(nm.size:Int)≤300:=by omega
 have H0:=hid h0
 clear h0
 by_cases h1:nd.size≤300
 rotate_left
 ·have q1:¬ (nd.size:Int)≤300:=by omega
  go_enter Tryz.func12,Tryz.ntmps12
  go_upto_region 1 with (fail)
  rw[←HW.out]
  go_wp2_with (go_at_call 45;refine HSV.out.mono ?_;rintro e w1 ⟨⟨bb,rfl⟩,hb1⟩;have HB1:=hid (HB0.out.trans (hb1.mono HB0.out.size));clear hb1)
  refine bodyPost_ret (v:=.bool false) (by simp[results,Tryz.results12,go_sem]) rfl ?_
  exact(show SmallJPost d w _ _ from⟨false,rfl,fun h=>Bool.noConfusion h,HB0.out⟩)
 have q1:(nd.size:Int)≤300:=by omega
 have H1:=hid h1
 clear h1
 by_cases h2:tx.size≤300
 rotate_left
 ·have q2:¬ (tx.size:Int)≤300:=by omega
  go_enter Tryz.func12,Tryz.ntmps12
  go_upto_region 1 with (fail)
  rw[←HW.out]
  go_wp2_with (go_at_call 45;refine HSV.out.mono ?_;rintro e w1 ⟨⟨bb,rfl⟩,hb1⟩;have HB1:=hid (HB0.out.trans (hb1.mono HB0.out.size));clear hb1)
  refine bodyPost_ret (v:=.bool false) (by simp[results,Tryz.results12,go_sem]) rfl ?_
  exact(show SmallJPost d w _ _ from⟨false,rfl,fun h=>Bool.noConfusion h,HB0.out⟩)
 have q2:(tx.size:Int)≤300:=by omega
 have H2:=hid h2
 clear h2
 by_cases h3:sn≤600
 rotate_left
 ·have q3:¬ (sn:Int)≤600:=by omega
  go_enter Tryz.func12,Tryz.ntmps12
  go_upto_region 1 with (fail)
  rw[←HW.out]
  go_wp2_with (go_at_call 45;refine HSV.out.mono ?_;rintro e w1 ⟨⟨bb,rfl⟩,hb1⟩;have HB1:=hid (HB0.out.trans (hb1.mono HB0.out.size));clear hb1)
  refine bodyPost_ret (v:=.bool false) (by simp[results,Tryz.results12,go_sem]) rfl ?_
  exact(show SmallJPost d w _ _ from⟨false,rfl,fun h=>Bool.noConfusion h,HB0.out⟩)
 have q3:(sn:Int)≤600:=by omega
 go_enter Tryz.func12,Tryz.ntmps12
 go_upto_region 1 with (fail)
 rw[←HW.out]
 go_wp2_with (go_at_call 45;refine HSV.out.mono ?_;rintro e w1 ⟨⟨bb,rfl⟩,hb1⟩;have HB1:=hid (HB0.out.trans (hb1.mono HB0.out.size));clear hb1)
 refine bodyPost_ret (v:=.bool bb) (by simp[results,Tryz.results12,go_sem]) rfl ?_
 exact⟨bb,rfl,fun _=>⟨by rw[←HNM.out.1];exact H0.out,by rw[←HNM.out.2.1];exact H1.out,by rw[←HNM.out.2.2];exact H2.out⟩,HB1.out⟩
end
end Go.Proofs.YtmgpghoamapfgaaGreatDoor
