/-
  manifoldlaw46.known returns true; small answers something, and true only for short texts. Conditions: the entry can be read as data; Tabs, ZTab.
-/
import Derived.Test.YtaofolgaiipcjaaGreatDoorJP35Mrg
import Derived.Test.YtaofolgaiipcjaaGreatDoorJP36Mrg
import Derived.Test.YtaofolgaiipcjaaGreatDoorJP40Mrg
namespace Go.Proofs.YtaofolgaiipcjaaGreatDoor
set_option linter.unusedVariables false
set_option maxRecDepth 100000
set_option maxHeartbeats 16000000
set_option linter.unusedSimpArgs false
section
open Go Go.RowKit Go.Shelf
theorem viL_300:viL 300=[172,2]:=by
 rw[viL_big (by decide)]
 rw[viL_small (by decide)]
 decide
def kn4:En:={ enZ with k:=4,ti:=300,ve:=3 }
def kn1:En:={ enZ with k:=1,nm:=⟨#[105,110]⟩,nu:=1,ve:=1,tx:=⟨#[97,98]⟩ }
theorem putF_nat (n:Nat) (h:n≤1000):putF n=(⟨(viL n).toArray⟩,0):=by
 unfold putF
 rw[if_neg (by show ¬ ((n:Int)<0∨((4611686018427387903:Nat):Int)<(n:Int));omega)]
 rfl
theorem kn4_enc:encJ kn4=(⟨#[4,172,2,3]⟩,0):=by
 have hc:chkEn kn4=0:=by decide
 have p4:putF 4=(⟨#[4]⟩,0):=by rw[show(4:Int)=((4:Nat):Int) from rfl,putF_nat 4 (by decide),viL_small (by decide)];rfl
 have p3:putF 3=(⟨#[3]⟩,0):=by rw[show(3:Int)=((3:Nat):Int) from rfl,putF_nat 3 (by decide),viL_small (by decide)];rfl
 have p300:putF 300=(⟨#[172,2]⟩,0):=by rw[show(300:Int)=((300:Nat):Int) from rfl,putF_nat 300 (by decide),viL_300]
 have hw:encW kn4=⟨[4,172,2,3],0⟩:=by
  show(JW.num (JW.num (JW.num ⟨[],0⟩ 4) 300) 3)=_
  rw[num_ok (by rw[p3]),num_ok (by rw[p300]),num_ok (by rw[p4]),p3,p300,p4]
  rfl
 unfold encJ
 rw[if_neg (fun h=>h hc),hw]
 rfl
theorem kn1_enc:encJ kn1=(⟨#[1,0,2,105,110,1,1,2,97,98]⟩,0):=by
 have hc:chkEn kn1=0:=by decide
 have p0:putF 0=(⟨#[0]⟩,0):=by rw[show(0:Int)=((0:Nat):Int) from rfl,putF_nat 0 (by decide),viL_small (by decide)];rfl
 have p1:putF 1=(⟨#[1]⟩,0):=by rw[show(1:Int)=((1:Nat):Int) from rfl,putF_nat 1 (by decide),viL_small (by decide)];rfl
 have p2:putF 2=(⟨#[2]⟩,0):=by rw[show(2:Int)=((2:Nat):Int) from rfl,putF_nat 2 (by decide),viL_small (by decide)];rfl
 have t1:∀w:JW,w.text ⟨#[105,110]⟩=⟨w.b++[2,105,110],w.e⟩:=fun w=>by
  rw[text_ok (by decide)]
  rw[show(((⟨#[105,110]⟩:ByteArray).size:Nat):Int)=2 from rfl,p2]
  rfl
 have t2:∀w:JW,w.text ⟨#[97,98]⟩=⟨w.b++[2,97,98],w.e⟩:=fun w=>by
  rw[text_ok (by decide)]
  rw[show(((⟨#[97,98]⟩:ByteArray).size:Nat):Int)=2 from rfl,p2]
  rfl
 have hw:encW kn1=⟨[1,0,2,105,110,1,1,2,97,98],0⟩:=by
  show JW.text (JW.num (JW.num (JW.text (JW.num (JW.num ⟨[],0⟩ 1) 0) ⟨#[105,110]⟩) 1) 1) ⟨#[97,98]⟩=_
  rw[t2,num_ok (by rw[p1]),num_ok (by rw[p1]),t1,num_ok (by rw[p0]),num_ok (by rw[p1]),p1,p0]
  rfl
 unfold encJ
 rw[if_neg (fun h=>h hc),hw]
 rfl
theorem stZ_isK (S:Nat→Prop) (w:World):IsSt S w ⟨0,none,0,0⟩ ⟨0,[]⟩:=⟨rfl,(by simp[I64]),⟨rfl,Nat.le_refl _,by simp,(fun x hx=>by cases hx),.inl rfl⟩⟩
theorem kn4_is (S:Nat→Prop) (w:World):IsEn S w { enZC with k:=4,ti:=300,ve:=3 } kn4 :=
 have z:I64 0:=by simp[I64]
 ⟨rfl,by simp[I64],rfl,by simp[I64],rfl,z,rfl,by simp[I64],rfl,z,rfl,Nat.zero_le _,rfl,Nat.zero_le _,rfl,Nat.zero_le _,rfl,rfl,leaf_val 0 0 z z,stZ_isK _ _⟩
theorem kn1_is (S:Nat→Prop) (w:World):IsEn S w { enZC with k:=1,nm:=⟨#[105,110]⟩,nu:=1,ve:=1,tx:=⟨#[97,98]⟩ } kn1 :=
 have z:I64 0:=by simp[I64]
 ⟨rfl,by simp[I64],rfl,by simp[I64],rfl,by simp[I64],rfl,by simp[I64],rfl,z,rfl,by decide,rfl,Nat.zero_le _,rfl,by decide,rfl,rfl,leaf_val 0 0 z z,stZ_isK _ _⟩
section
attribute [-go_sem] loadCellsFrom storeCells
attribute [local go_sem] lcf0 lcf1 lcf2 lcf3 lcf4 lcf5 stc0 stc1
theorem known46_call (w:World) (hT:Tabs w) (hZT:ZTab w):Calls Tryz.prog 14 #[] w fun e w'=>e=.returned (.bool true)∧Below w.heap.size w w':=by
 have h4:=jEnc_call { enZC with k:=4,ti:=300,ve:=3 } kn4 w (kn4_is _ _) ⟨by decide,by decide,by decide⟩ hT hZT
 have h1:=fun (w':World) (h:Below w.heap.size w w')=>jEnc_call { enZC with k:=1,nm:=⟨#[105,110]⟩,nu:=1,ve:=1,tx:=⟨#[97,98]⟩ } kn1 w' (kn1_is _ _) ⟨by decide,by decide,by decide⟩ (hT.below h) (hZT.below h)
 rw[kn4_enc] at h4
 rw[kn1_enc] at h1
 dsimp only[EnC.v,VC.v] at h4 h1
 have H4:=hid h4
 have H1:=hid h1
 clear h4 h1 hT hZT
 go_enter Tryz.func14,Tryz.ntmps14
 go_wp2_with (first
  | (go_at_call 16;refine(H1.out w1 HB1.out).mono ?_;rintro x w2 ⟨rfl,hb2⟩;have HB2:=hid hb2;clear hb2)
  | (go_at_call 16;refine H4.out.mono ?_;rintro x w1 ⟨rfl,hb1⟩;have HB1:=hid hb1;clear hb1))
 go_ret
 exact⟨rfl,HB1.out.trans (HB2.out.mono HB1.out.size)⟩
def SmallJPost (d:En) (w:World) (e:Ending) (w':World):Prop:=∃bb,e=.returned (.bool bb)∧(bb=true→d.nm.size≤300∧d.nd.size≤300∧d.tx.size≤300)∧Below w.heap.size w w'
theorem smallJ_call (c:EnC) (d:En) (w:World) (hd:IsEn (· < w.heap.size) w c d):Calls Tryz.prog 15 #[c.v] w (SmallJPost d w):=by
 obtain⟨w0,hw0⟩:∃w0,w0=w.alloc (.cells c.ar 30):=⟨_,rfl⟩
 have h0:w0.heap[w.heap.size]?=some (.cells c.ar 30):=by rw[hw0];exact heap_alloc_new w _
 have hb0:Below w.heap.size w w0:=by rw[hw0];exact(Below.refl _ w).alloc (Nat.le_refl _) _
 have hsv:=smallV_call c.bd d.bd w0 (hd.bd.same fun j hj=>⟨Nat.lt_of_lt_of_le hj hb0.size,hb0.block j hj⟩)
 have HNM:=hid (show c.nm=d.nm∧c.nd=d.nd∧c.tx=d.tx from⟨hd.nm,hd.nd,hd.tx⟩)
 obtain⟨k,ti,nu,ve,ca,nm,nd,tx,un,dn,⟨bk,bi,bs,bt,bla,bll,blc,bfa,bfl,bfc⟩,⟨se,sa,sn,scc⟩⟩:=c
 dsimp only[EnC.v,EnC.ar,VC.v] at *
 have x5:=cellOf h0 5
 have x6:=cellOf h0 6
 have x7:=cellOf h0 7
 have x17:=cellOf h0 17
 have l10:=ldAtJ (k:=10) h0 rfl rfl rfl rfl rfl rfl
 (try dsimp only at x5 x6 x7 x17)
 have HSV:=hid hsv
 have HB0:=hid hb0
 have HW:=hid hw0
 clear hsv hb0 hw0 h0 hd
 by_cases h0:nm.size≤300
 rotate_left
 ·have q0:¬ (nm.size:Int)≤300:=by omega
  go_enter Tryz.func15,Tryz.ntmps15
  go_upto_region 1 with (fail)
  rw[←HW.out]
  go_wp2_with (go_at_call 41;refine HSV.out.mono ?_;rintro e w1 ⟨⟨bb,rfl⟩,hb1⟩;have HB1:=hid (HB0.out.trans (hb1.mono HB0.out.size));clear hb1)
  refine bodyPost_ret (v:=.bool false) (by simp[results,Tryz.results15,go_sem]) rfl ?_
  exact(show SmallJPost d w _ _ from⟨false,rfl,fun h=>Bool.noConfusion h,HB0.out⟩)
 have q0:(nm.size:Int)≤300:=by omega
 have H0:=hid h0
 clear h0
 by_cases h1:nd.size≤300
 rotate_left
 ·have q1:¬ (nd.size:Int)≤300:=by omega
  go_enter Tryz.func15,Tryz.ntmps15
  go_upto_region 1 with (fail)
  rw[←HW.out]
  go_wp2_with (go_at_call 41;refine HSV.out.mono ?_;rintro e w1 ⟨⟨bb,rfl⟩,hb1⟩;have HB1:=hid (HB0.out.trans (hb1.mono HB0.out.size));clear hb1)
  refine bodyPost_ret (v:=.bool false) (by simp[results,Tryz.results15,go_sem]) rfl ?_
  exact(show SmallJPost d w _ _ from⟨false,rfl,fun h=>Bool.noConfusion h,HB0.out⟩)
 have q1:(nd.size:Int)≤300:=by omega
 have H1:=hid h1
 clear h1
 by_cases h2:tx.size≤300
 rotate_left
 ·have q2:¬ (tx.size:Int)≤300:=by omega
  go_enter Tryz.func15,Tryz.ntmps15
  go_upto_region 1 with (fail)
  rw[←HW.out]
  go_wp2_with (go_at_call 41;refine HSV.out.mono ?_;rintro e w1 ⟨⟨bb,rfl⟩,hb1⟩;have HB1:=hid (HB0.out.trans (hb1.mono HB0.out.size));clear hb1)
  refine bodyPost_ret (v:=.bool false) (by simp[results,Tryz.results15,go_sem]) rfl ?_
  exact(show SmallJPost d w _ _ from⟨false,rfl,fun h=>Bool.noConfusion h,HB0.out⟩)
 have q2:(tx.size:Int)≤300:=by omega
 have H2:=hid h2
 clear h2
 by_cases h3:sn≤600
 rotate_left
 ·have q3:¬ (sn:Int)≤600:=by omega
  go_enter Tryz.func15,Tryz.ntmps15
  go_upto_region 1 with (fail)
  rw[←HW.out]
  go_wp2_with (go_at_call 41;refine HSV.out.mono ?_;rintro e w1 ⟨⟨bb,rfl⟩,hb1⟩;have HB1:=hid (HB0.out.trans (hb1.mono HB0.out.size));clear hb1)
  refine bodyPost_ret (v:=.bool false) (by simp[results,Tryz.results15,go_sem]) rfl ?_
  exact(show SmallJPost d w _ _ from⟨false,rfl,fun h=>Bool.noConfusion h,HB0.out⟩)
 have q3:(sn:Int)≤600:=by omega
 go_enter Tryz.func15,Tryz.ntmps15
 go_upto_region 1 with (fail)
 rw[←HW.out]
 go_wp2_with (go_at_call 41;refine HSV.out.mono ?_;rintro e w1 ⟨⟨bb,rfl⟩,hb1⟩;have HB1:=hid (HB0.out.trans (hb1.mono HB0.out.size));clear hb1)
 refine bodyPost_ret (v:=.bool bb) (by simp[results,Tryz.results15,go_sem]) rfl ?_
 exact⟨bb,rfl,fun _=>⟨by rw[←HNM.out.1];exact H0.out,by rw[←HNM.out.2.1];exact H1.out,by rw[←HNM.out.2.2];exact H2.out⟩,HB1.out⟩
end
end
section
open Go Go.RowKit Go.Shelf
theorem jtext_size (s:ByteArray) (r:JR):(r.text s).1.size≤s.size:=by
 unfold JR.text
 split
 ·exact Nat.zero_le _
 ·split
  ·exact Nat.zero_le _
  ·dsimp only
   rw[ByteArray.size_extract]
   omega
theorem i64_num (s:ByteArray) (r:JR):I64 (r.num s).1:=by
 have h1:=(jnum_nat (s:=s) (r:=r)).1
 have h2:(r.num s).1≤4611686018427387903:=(jnum_nat (s:=s) (r:=r)).2
 unfold I64
 omega
theorem rdJ_L (s:ByteArray) (r:JR) (k ti:Int) (hk:5≤k):rdJ s { enZ with k:=k,ti:=ti } r=({ enZ with k:=k,ti:=ti,st:=(rdLs s r).1 },(rdLs s r).2):=by
 unfold rdJ rdLs
 dsimp only
 rw[if_neg (by omega),if_neg (by omega),if_neg (by omega),if_neg (by omega)]
 split
 ·cases parseS (r.text s).1.data.toList<;>rfl
 ·rfl
theorem rdK_call (B rb eb:Nat) (s:ByteArray) (r:JR) (k ti:Int) (hk:I64 k) (hti:I64 ti) (h1:1≤k) (h6:k≤6) (w0 w:World) (hs:s.size≤1000000) (h:RAt B rb eb s w0 { enZC with k:=k,ti:=ti } r w) (hB:B=w0.heap.size) (hT:Tabs w0) (hNV:NumVars w0) (hbod:k=3→(bodT s r).size≤65536) :
 Calls Tryz.prog (rNo k) #[.pointer (some ⟨rb,0,none⟩),.pointer (some ⟨eb,0,none⟩)] w fun x w'=>x=.returned (.tuple #[])∧∃c:EnC,RAt B rb eb s w0 c (rdJ s { enZ with k:=k,ti:=ti } r).2 w'∧IsEn (fun i=>w.heap.size≤i∧i<w'.heap.size) w' c (rdJ s { enZ with k:=k,ti:=ti } r).1:=by
 have hs':s.size≤140737488351232:=by omega
 have z:I64 0:=by simp[I64]
 have zb:∀(S:Nat→Prop) (w':World),IsVal S w' ⟨0,0,0,⟨#[]⟩,none,0,0,none,0,0⟩ nulV:=fun S w'=>leaf_val 0 0 z z
 have ts:∀q:JR,(q.text s).1.size≤140737488351232:=fun q=>Nat.le_trans (jtext_size s q) hs'
 have n:=fun q=>i64_num s q
 have hk6:k=1∨k=2∨k=3∨k=4∨k=5∨k=6:=by omega
 rcases hk6 with rfl | rfl | rfl | rfl | rfl | rfl
 ·refine(rdA_call B rb eb s r 1 ti hk hti w0 w hs' h).mono fun x w' ⟨hx,hr⟩=>⟨hx,_,hr,?_⟩
  exact⟨rfl,hk,rfl,hti,rfl,n _,rfl,n _,rfl,z,rfl,ts _,rfl,Nat.zero_le _,rfl,ts _,rfl,rfl,zb _ _,stZ_is _ _⟩
 ·refine(rdT_call B rb eb s r 2 ti hk hti w0 w hs' h).mono fun x w' ⟨hx,hr⟩=>⟨hx,_,hr,?_⟩
  exact⟨rfl,hk,rfl,hti,rfl,z,rfl,z,rfl,z,rfl,Nat.zero_le _,rfl,Nat.zero_le _,rfl,Nat.zero_le _,rfl,rfl,zb _ _,stZ_is _ _⟩
 ·refine(rdR_call B rb eb s r 3 ti hk hti w0 w hs' h hB hT hNV (hbod rfl)).mono fun x w' ⟨hx,v,hr,hv⟩=>⟨hx,_,hr,?_⟩
  exact⟨rfl,hk,rfl,hti,rfl,n _,rfl,z,rfl,n _,rfl,ts _,rfl,ts _,rfl,Nat.zero_le _,rfl,rfl,hv,stZ_is _ _⟩
 ·refine(rdU_call B rb eb s r 4 ti hk hti w0 w hs' h).mono fun x w' ⟨hx,hr⟩=>⟨hx,_,hr,?_⟩
  exact⟨rfl,hk,rfl,hti,rfl,z,rfl,n _,rfl,z,rfl,Nat.zero_le _,rfl,Nat.zero_le _,rfl,Nat.zero_le _,rfl,rfl,zb _ _,stZ_is _ _⟩
 all_goals
  refine(rdL_call B rb eb s r _ ti hk hti w0 w hs' h hB hT hNV (Nat.le_trans (jtext_size s r) hs)).mono fun x w' hh=>?_
  obtain⟨hx,c,hr,hc⟩:=hh
  rw[rdJ_L s r _ ti (by decide)]
  exact⟨hx,_,hr,rfl,hk,rfl,hti,rfl,z,rfl,z,rfl,z,rfl,Nat.zero_le _,rfl,Nat.zero_le _,rfl,Nat.zero_le _,rfl,rfl,zb _ _,hc⟩
end
end Go.Proofs.YtaofolgaiipcjaaGreatDoor
