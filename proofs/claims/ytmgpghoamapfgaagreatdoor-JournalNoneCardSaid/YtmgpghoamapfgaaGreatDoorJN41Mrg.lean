/-
  machine.CheckEntry: the error of an entry, as JLaw's chkEn says. Conditions: the entry can be read as data; Tabs.
-/
import Derived.Test.YtmgpghoamapfgaaGreatDoorJN38Mrg
namespace Go.Proofs.YtmgpghoamapfgaaGreatDoor
set_option linter.unusedVariables false
set_option maxRecDepth 100000
set_option maxHeartbeats 16000000
set_option linter.unusedSimpArgs false
open Go Go.RowKit
section
attribute [-go_sem] loadCellsFrom storeCells
attribute [local go_sem] lcf0 lcf1 lcf2 lcf3 lcf4 lcf5 stc0 stc1
theorem chkEn1_call (ti nu ve ca:Int) (nm nd tx:ByteArray) (un dn:Bool) (bk bi bs:Int) (bt:ByteArray) (bla:Option Addr) (bll blc:Nat) (bfa:Option Addr) (bfl bfc:Nat) (se:Int) (sa:Option Addr) (sn scc:Nat) (d:En) (w:World) (hd:IsEn (· < w.heap.size) w ⟨1,ti,nu,ve,ca,nm,nd,tx,un,dn,⟨bk,bi,bs,bt,bla,bll,blc,bfa,bfl,bfc⟩,⟨se,sa,sn,scc⟩⟩ d) (hT:Tabs w) :
 Calls Tryz.prog 87 #[.agg #[.int .i64 1,.int .i64 ti,.int .i64 nu,.int .i64 ve,.int .i64 ca,.string nm,.string nd,.string tx,.bool un,.bool dn,.int .i64 bk,.int .i64 bi,.int .i64 bs,.string bt,.slice bla bll blc,.slice bfa bfl bfc,.int .i64 se,.slice sa sn scc]] w fun e w'=>e=.returned (.int .i64 (chkEn d))∧Below w.heap.size w w':=by
 obtain⟨N,hN⟩:∃N,N=w.heap.size:=⟨_,rfl⟩
 obtain⟨w0,hw0⟩:∃w0,w0=w.alloc (.cells #[.int .i64 1,.int .i64 ti,.int .i64 nu,.int .i64 ve,.int .i64 ca,.string nm,.string nd,.string tx,.bool un,.bool dn,.int .i64 bk,.int .i64 bi,.int .i64 bs,.string bt,.slice bla bll blc,.slice bfa bfl bfc,.int .i64 se,.slice sa sn scc] 41):=⟨_,rfl⟩
 obtain⟨w1,hw1⟩:∃w1,w1=w0.alloc (.cells #[.int .i64 1,.int .i64 ti,.int .i64 0,.int .i64 0,.int .i64 ca,.string ⟨#[]⟩,.string nd,.string ⟨#[]⟩,.bool un,.bool dn,.int .i64 bk,.int .i64 bi,.int .i64 bs,.string bt,.slice bla bll blc,.slice bfa bfl bfc,.int .i64 se,.slice sa sn scc] 41):=⟨_,rfl⟩
 have hs0:w0.heap.size=N+1:=by rw[hw0,World.size_alloc,←hN]
 have h00:w0.heap[N]?=some (.cells #[.int .i64 1,.int .i64 ti,.int .i64 nu,.int .i64 ve,.int .i64 ca,.string nm,.string nd,.string tx,.bool un,.bool dn,.int .i64 bk,.int .i64 bi,.int .i64 bs,.string bt,.slice bla bll blc,.slice bfa bfl bfc,.int .i64 se,.slice sa sn scc] 41):=by rw[hw0,hN];exact heap_alloc_new w _
 have h1e:w1.heap[N]?=some (.cells #[.int .i64 1,.int .i64 ti,.int .i64 nu,.int .i64 ve,.int .i64 ca,.string nm,.string nd,.string tx,.bool un,.bool dn,.int .i64 bk,.int .i64 bi,.int .i64 bs,.string bt,.slice bla bll blc,.slice bfa bfl bfc,.int .i64 se,.slice sa sn scc] 41):=by rw[hw1];exact heap_alloc_old w0 _ _ (by omega) |>.trans h00
 have h1r:w1.heap[N+1]?=some (.cells #[.int .i64 1,.int .i64 ti,.int .i64 0,.int .i64 0,.int .i64 ca,.string ⟨#[]⟩,.string nd,.string ⟨#[]⟩,.bool un,.bool dn,.int .i64 bk,.int .i64 bi,.int .i64 bs,.string bt,.slice bla bll blc,.slice bfa bfl bfc,.int .i64 se,.slice sa sn scc] 41):=by rw[hw1,←hs0];exact heap_alloc_new w0 _
 have hb1:Below N w w1:=by rw[hw1,hw0,hN];exact((Below.refl _ w).alloc (Nat.le_refl _) _).alloc (by simp) _
 have hsz1:w1.heap.size=N+2:=by rw[hw1,World.size_alloc,hs0]
 have hsame:∀j,j<w.heap.size→j<w1.heap.size∧w1.heap[j]?=w.heap[j]?:=fun j hj=>⟨by omega,hb1.block j (by omega)⟩
 have hd1:=hd.same hsame
 have hr:IsEn (· < w1.heap.size) w1 ⟨1,ti,0,0,ca,⟨#[]⟩,nd,⟨#[]⟩,un,dn,⟨bk,bi,bs,bt,bla,bll,blc,bfa,bfl,bfc⟩,⟨se,sa,sn,scc⟩⟩ (restE d):=by
  have hk:d.k=1:=hd.k.symm
  rw[restE,if_pos hk]
  exact⟨hd1.k,hd1.rk,hd1.ti,hd1.rti,rfl,(show I64 0 by simp[I64]),rfl,(show I64 0 by simp[I64]),hd1.ca,hd1.rca,rfl,Nat.zero_le _,hd1.nd,hd1.ndz,rfl,Nat.zero_le _,hd1.un,hd1.dn,hd1.bd,hd1.st⟩
 obtain⟨u,hu⟩:∃u,u=usedB (restE d):=⟨_,rfl⟩
 have hus:=used_call _ _ w1 hr
 rw[←hu] at hus
 obtain⟨V,hV⟩:∃V,V=verB d:=⟨_,rfl⟩
 have hVe:V=decide (1≤ve∧ve≤999):=by rw[hV];unfold verB;rw[←hd.ve]
 obtain⟨nb,hnb⟩:∃nb,nb=isNullB bk bi bs bt bll bfl:=⟨_,rfl⟩
 have hnv:isNullV d.bd=nb:=by rw[hnb];exact isNullV_of (c:=⟨bk,bi,bs,bt,bla,bll,blc,bfa,bfl,bfc⟩) hd.bd
 have hkv:kindV d.bd=bk:=by
  have:=hd.bd
  revert this
  cases d.bd with | mk k i s t l ns fs=>intro h;exact h.1.1.symm
 have k1:(d.k=1)=True:=by rw[←hd.k];simp
 have k3:(d.k=3)=False:=by rw[←hd.k];simp
 have k4:(d.k=4)=False:=by rw[←hd.k];simp
 have k5:(d.k=5)=False:=by rw[←hd.k];simp
 have k6:(d.k=6)=False:=by rw[←hd.k];simp
 have k0:(d.k<1∨6<d.k)=False:=by rw[←hd.k];simp
 have hch:chkEn d=if ti<0∨17592186044416<ti then 34 else if u=true then 3 else if nu<1∨V=false then 2 else if 65536<tx.size then 5 else 0:=by
  simp only[chkEn,k0,k1,k3,k4,k5,k6,←hu,←hV,hnv,hkv,←hd.ti,←hd.nu,←hd.ca,←hd.tx,false_and,true_and,or_true,true_or,or_false,false_or,if_false,if_true]
 have hck:=fun (w':World) (h:Below w1.heap.size w1 w')=>check_call ⟨bk,bi,bs,bt,bla,bll,blc,bfa,bfl,bfc⟩ d.bd w' (hd1.bd.same fun j hj=>⟨Nat.lt_of_lt_of_le hj h.size,h.block j hj⟩) ((hT.below (hN▸hb1)).below (h.mono (by omega)))
 have hsc:=fun (w':World) (h:Below w1.heap.size w1 w')=>stampCheck_call (· < w1.heap.size) ⟨se,sa,sn,scc⟩ d.st w1 w' hd1.st (fun j hj=>⟨Nat.lt_of_lt_of_le hj h.size,h.block j hj⟩)
 have HCH:=hid hch
 have HUS:=hid hus
 have HCK:=hid hck
 have HSC:=hid hsc
 have HVE:=hid hVe
 have HNU:=hid (fun w'=>isNull_call bk bi bs bt bla bll blc bfa bfl bfc w')
 rw[←hnb] at HNU
 have HW0:=hid hw0
 have HW1:=hid hw1
 have HN:=hid hN
 have HB1:=hid hb1
 have HS1:=hid hsz1
 have HC:=hid (fun (w':World) (h:Below w1.heap.size w1 w')=>have q:=heapExt h h1e
  (show w'.cell? ⟨N,0,none⟩=some (.int .i64 1)∧w'.cell? ⟨N,1,none⟩=some (.int .i64 ti)∧w'.cell? ⟨N,2,none⟩=some (.int .i64 nu)∧w'.cell? ⟨N,3,none⟩=some (.int .i64 ve)∧w'.cell? ⟨N,4,none⟩=some (.int .i64 ca)∧w'.cell? ⟨N,7,none⟩=some (.string tx)∧w'.cell? ⟨N,10,none⟩=some (.int .i64 bk)∧(loadCellsFrom ⟨N,10,none⟩ 0 6 #[]).run Tryz.prog w'=.ok #[.int .i64 bk,.int .i64 bi,.int .i64 bs,.string bt,.slice bla bll blc,.slice bfa bfl bfc] w'∧w'.cell? ⟨N,16,none⟩=some (.int .i64 se)∧w'.cell? ⟨N,17,none⟩=some (.slice sa sn scc) from
  ⟨cellOf q 0,cellOf q 1,cellOf q 2,cellOf q 3,cellOf q 4,cellOf q 7,cellOf q 10,ldAtJ q rfl rfl rfl rfl rfl rfl,cellOf q 16,cellOf q 17⟩))
 have hl0:=ldEn (c:=⟨1,ti,nu,ve,ca,nm,nd,tx,un,dn,⟨bk,bi,bs,bt,bla,bll,blc,bfa,bfl,bfc⟩,⟨se,sa,sn,scc⟩⟩) (fr:=(0,0)) h00
 have hst:=stEnN w0 #[.int .i64 0,.int .i64 0,.int .i64 0,.int .i64 0,.int .i64 0,.string ⟨#[]⟩,.string ⟨#[]⟩,.string ⟨#[]⟩,.bool false,.bool false,.int .i64 0,.int .i64 0,.int .i64 0,.string ⟨#[]⟩,.slice none 0 0,.slice none 0 0,.int .i64 0,.slice none 0 0] rfl ⟨1,ti,nu,ve,ca,nm,nd,tx,un,dn,⟨bk,bi,bs,bt,bla,bll,blc,bfa,bfl,bfc⟩,⟨se,sa,sn,scc⟩⟩
 have hlr:=ldEn (c:=⟨1,ti,0,0,ca,⟨#[]⟩,nd,⟨#[]⟩,un,dn,⟨bk,bi,bs,bt,bla,bll,blc,bfa,bfl,bfc⟩,⟨se,sa,sn,scc⟩⟩) (fr:=(0,0)) h1r
 dsimp only[EnC.ar,EnC.cs] at hl0 hst hlr
 rw[hs0] at hst
 have HL0:=hid hl0
 have HS0:=hid hs0
 have HD0:=hid (show w0.cell? ⟨N,0,none⟩=some (.int .i64 1) from cellOf h00 0)
 have HST:=hid hst
 have HLR:=hid hlr
 rw[←hN]
 clear hu hus hV hVe hnb hnv hkv k0 k1 k3 k4 k5 k6 hch hck hsc hd hd1 hr hw0 hw1 hN hb1 hsz1 hsame hs0 h00 h1e h1r hl0 hst hlr hT
 go_enter Tryz.func87,Tryz.ntmps87
 go_upto_region 1 with (fail)
 rw[←HW0.out,←HN.out]
 have hs0:=HS0.out
 have hl0:=HL0.out
 have hst:=HST.out
 have d0:=HD0.out
 go_upto_region 14 with (fail)
 rw[←HW1.out]
 clear hs0 hl0 hst d0
 have lr:=HLR.out
 obtain⟨c0,c1,c2,c3,c4,c7,c10,l10,c16,c17⟩:=HC.out w1 (Below.refl _ _)
 go_cut [4] (fun v wz=>v=.bool V∧wz=w1)
 case first =>
  by_cases v1:1≤ve
  ·by_cases v2:ve≤999
   ·go_wp2
    go_meet
    exact⟨by rw[HVE.out,decide_eq_true (show 1≤ve∧ve≤999 from⟨v1,v2⟩)],rfl⟩
   ·go_wp2
    go_meet
    exact⟨by rw[HVE.out,decide_eq_false (show ¬ (1≤ve∧ve≤999) by omega)],rfl⟩
  ·go_wp2
   go_meet
   exact⟨by rw[HVE.out,decide_eq_false (show ¬ (1≤ve∧ve≤999) by omega)],rfl⟩
 case rest =>
 obtain⟨rfl,hwc⟩:=hcut
 obtain⟨w1',hw1'⟩:∃x,x=wc:=⟨_,rfl⟩
 rw[←hw1'] at hwc ⊢
 clear hw1'
 subst hwc
 by_cases t1:ti<0
 ·have HT1:=hid t1
  go_wp2
  refine bodyPost_ret (v:=.int .i64 34) (by simp[results,Tryz.results87,go_sem]) rfl ?_
  refine⟨?_,HB1.out⟩
  rw[HCH.out]
  try have eHT1:=HT1.out
  try have eHTI:=HTI.out
  try have eHZ:=HZ.out
  try have eHN1:=HN1.out
  try have eHQ:=HQ.out
  congr 2
  (repeat' split)<;>first | rfl | omega | (simp_all;done) | (simp_all;omega)
 by_cases t2:17592186044416<ti
 ·have HT1:=hid t2
  go_wp2
  refine bodyPost_ret (v:=.int .i64 34) (by simp[results,Tryz.results87,go_sem]) rfl ?_
  refine⟨?_,HB1.out⟩
  rw[HCH.out]
  try have eHT1:=HT1.out
  try have eHTI:=HTI.out
  try have eHZ:=HZ.out
  try have eHN1:=HN1.out
  try have eHQ:=HQ.out
  congr 2
  (repeat' split)<;>first | rfl | omega | (simp_all;done) | (simp_all;omega)
 have HTI:=hid (show ¬ (ti<0∨17592186044416<ti) by omega)
 cases u
 rotate_left
 ·skip
  go_wp2_with (first
   | (go_at_call 157;refine HUS.out.mono ?_;rintro x w2 ⟨rfl,hb2⟩;obtain⟨a0,a1,a2,a3,a4,a7,a10,la,a16,a17⟩:=HC.out w2 hb2;have HB2:=hid hb2;clear hb2))
  refine bodyPost_ret (v:=.int .i64 3) (by simp[results,Tryz.results87,go_sem]) rfl ?_
  refine⟨?_,HB1.out.trans (HB2.out.mono (by have:=HS1.out;omega))⟩
  rw[HCH.out]
  try have eHT1:=HT1.out
  try have eHTI:=HTI.out
  try have eHZ:=HZ.out
  try have eHN1:=HN1.out
  try have eHQ:=HQ.out
  congr 2
  (repeat' split)<;>first | rfl | omega | (simp_all;done) | (simp_all;omega)
 by_cases n1:nu<1
 ·have HN1:=hid n1
  go_wp2_with (first
   | (go_at_call 157;refine HUS.out.mono ?_;rintro x w2 ⟨rfl,hb2⟩;obtain⟨a0,a1,a2,a3,a4,a7,a10,la,a16,a17⟩:=HC.out w2 hb2;have HB2:=hid hb2;clear hb2))
  refine bodyPost_ret (v:=.int .i64 2) (by simp[results,Tryz.results87,go_sem]) rfl ?_
  refine⟨?_,HB1.out.trans (HB2.out.mono (by have:=HS1.out;omega))⟩
  rw[HCH.out]
  try have eHT1:=HT1.out
  try have eHTI:=HTI.out
  try have eHZ:=HZ.out
  try have eHN1:=HN1.out
  try have eHQ:=HQ.out
  congr 2
  (repeat' split)<;>first | rfl | omega | (simp_all;done) | (simp_all;omega)
 have HN1:=hid n1
 cases V
 ·skip
  go_wp2_with (first
   | (go_at_call 157;refine HUS.out.mono ?_;rintro x w2 ⟨rfl,hb2⟩;obtain⟨a0,a1,a2,a3,a4,a7,a10,la,a16,a17⟩:=HC.out w2 hb2;have HB2:=hid hb2;clear hb2))
  refine bodyPost_ret (v:=.int .i64 2) (by simp[results,Tryz.results87,go_sem]) rfl ?_
  refine⟨?_,HB1.out.trans (HB2.out.mono (by have:=HS1.out;omega))⟩
  rw[HCH.out]
  try have eHT1:=HT1.out
  try have eHTI:=HTI.out
  try have eHZ:=HZ.out
  try have eHN1:=HN1.out
  try have eHQ:=HQ.out
  congr 2
  (repeat' split)<;>first | rfl | omega | (simp_all;done) | (simp_all;omega)
 by_cases z1:65536<tx.size
 ·have z2:(65536:Int)<(tx.size:Int):=by omega
  have HZ:=hid z1
  go_wp2_with (first
   | (go_at_call 157;refine HUS.out.mono ?_;rintro x w2 ⟨rfl,hb2⟩;obtain⟨a0,a1,a2,a3,a4,a7,a10,la,a16,a17⟩:=HC.out w2 hb2;have HB2:=hid hb2;clear hb2))
  refine bodyPost_ret (v:=.int .i64 5) (by simp[results,Tryz.results87,go_sem]) rfl ?_
  refine⟨?_,HB1.out.trans (HB2.out.mono (by have:=HS1.out;omega))⟩
  rw[HCH.out]
  try have eHT1:=HT1.out
  try have eHTI:=HTI.out
  try have eHZ:=HZ.out
  try have eHN1:=HN1.out
  try have eHQ:=HQ.out
  congr 2
  (repeat' split)<;>first | rfl | omega | (simp_all;done) | (simp_all;omega)
 have z2:¬ (65536:Int)<(tx.size:Int):=by omega
 have HZ:=hid z1
 go_wp2_with (first
  | (go_at_call 157;refine HUS.out.mono ?_;rintro x w2 ⟨rfl,hb2⟩;obtain⟨a0,a1,a2,a3,a4,a7,a10,la,a16,a17⟩:=HC.out w2 hb2;have HB2:=hid hb2;clear hb2))
 refine bodyPost_ret (v:=.int .i64 0) (by simp[results,Tryz.results87,go_sem]) rfl ?_
 refine⟨?_,HB1.out.trans (HB2.out.mono (by have:=HS1.out;omega))⟩
 rw[HCH.out]
 try have eHT1:=HT1.out
 try have eHTI:=HTI.out
 try have eHZ:=HZ.out
 try have eHN1:=HN1.out
 try have eHQ:=HQ.out
 congr 2
 (repeat' split)<;>first | rfl | omega | (simp_all;done) | (simp_all;omega)
theorem chkEn2_call (ti nu ve ca:Int) (nm nd tx:ByteArray) (un dn:Bool) (bk bi bs:Int) (bt:ByteArray) (bla:Option Addr) (bll blc:Nat) (bfa:Option Addr) (bfl bfc:Nat) (se:Int) (sa:Option Addr) (sn scc:Nat) (d:En) (w:World) (hd:IsEn (· < w.heap.size) w ⟨2,ti,nu,ve,ca,nm,nd,tx,un,dn,⟨bk,bi,bs,bt,bla,bll,blc,bfa,bfl,bfc⟩,⟨se,sa,sn,scc⟩⟩ d) (hT:Tabs w) :
 Calls Tryz.prog 87 #[.agg #[.int .i64 2,.int .i64 ti,.int .i64 nu,.int .i64 ve,.int .i64 ca,.string nm,.string nd,.string tx,.bool un,.bool dn,.int .i64 bk,.int .i64 bi,.int .i64 bs,.string bt,.slice bla bll blc,.slice bfa bfl bfc,.int .i64 se,.slice sa sn scc]] w fun e w'=>e=.returned (.int .i64 (chkEn d))∧Below w.heap.size w w':=by
 obtain⟨N,hN⟩:∃N,N=w.heap.size:=⟨_,rfl⟩
 obtain⟨w0,hw0⟩:∃w0,w0=w.alloc (.cells #[.int .i64 2,.int .i64 ti,.int .i64 nu,.int .i64 ve,.int .i64 ca,.string nm,.string nd,.string tx,.bool un,.bool dn,.int .i64 bk,.int .i64 bi,.int .i64 bs,.string bt,.slice bla bll blc,.slice bfa bfl bfc,.int .i64 se,.slice sa sn scc] 41):=⟨_,rfl⟩
 obtain⟨w1,hw1⟩:∃w1,w1=w0.alloc (.cells #[.int .i64 2,.int .i64 ti,.int .i64 nu,.int .i64 ve,.int .i64 ca,.string nm,.string nd,.string tx,.bool un,.bool dn,.int .i64 bk,.int .i64 bi,.int .i64 bs,.string bt,.slice bla bll blc,.slice bfa bfl bfc,.int .i64 se,.slice sa sn scc] 41):=⟨_,rfl⟩
 have hs0:w0.heap.size=N+1:=by rw[hw0,World.size_alloc,←hN]
 have h00:w0.heap[N]?=some (.cells #[.int .i64 2,.int .i64 ti,.int .i64 nu,.int .i64 ve,.int .i64 ca,.string nm,.string nd,.string tx,.bool un,.bool dn,.int .i64 bk,.int .i64 bi,.int .i64 bs,.string bt,.slice bla bll blc,.slice bfa bfl bfc,.int .i64 se,.slice sa sn scc] 41):=by rw[hw0,hN];exact heap_alloc_new w _
 have h1e:w1.heap[N]?=some (.cells #[.int .i64 2,.int .i64 ti,.int .i64 nu,.int .i64 ve,.int .i64 ca,.string nm,.string nd,.string tx,.bool un,.bool dn,.int .i64 bk,.int .i64 bi,.int .i64 bs,.string bt,.slice bla bll blc,.slice bfa bfl bfc,.int .i64 se,.slice sa sn scc] 41):=by rw[hw1];exact heap_alloc_old w0 _ _ (by omega) |>.trans h00
 have h1r:w1.heap[N+1]?=some (.cells #[.int .i64 2,.int .i64 ti,.int .i64 nu,.int .i64 ve,.int .i64 ca,.string nm,.string nd,.string tx,.bool un,.bool dn,.int .i64 bk,.int .i64 bi,.int .i64 bs,.string bt,.slice bla bll blc,.slice bfa bfl bfc,.int .i64 se,.slice sa sn scc] 41):=by rw[hw1,←hs0];exact heap_alloc_new w0 _
 have hb1:Below N w w1:=by rw[hw1,hw0,hN];exact((Below.refl _ w).alloc (Nat.le_refl _) _).alloc (by simp) _
 have hsz1:w1.heap.size=N+2:=by rw[hw1,World.size_alloc,hs0]
 have hsame:∀j,j<w.heap.size→j<w1.heap.size∧w1.heap[j]?=w.heap[j]?:=fun j hj=>⟨by omega,hb1.block j (by omega)⟩
 have hd1:=hd.same hsame
 have hr:IsEn (· < w1.heap.size) w1 ⟨2,ti,nu,ve,ca,nm,nd,tx,un,dn,⟨bk,bi,bs,bt,bla,bll,blc,bfa,bfl,bfc⟩,⟨se,sa,sn,scc⟩⟩ (restE d):=by
  have hk:d.k=2:=hd.k.symm
  rw[restE,if_neg (show ¬ (d.k=1) by rw[hk];decide),if_neg (show ¬ (d.k=3) by rw[hk];decide),if_neg (show ¬ (d.k=4) by rw[hk];decide),if_neg (show ¬ (d.k=5∨d.k=6) by rw[hk];decide)]
  exact⟨hd1.k,hd1.rk,hd1.ti,hd1.rti,hd1.nu,hd1.rnu,hd1.ve,hd1.rve,hd1.ca,hd1.rca,hd1.nm,hd1.nmz,hd1.nd,hd1.ndz,hd1.tx,hd1.txz,hd1.un,hd1.dn,hd1.bd,hd1.st⟩
 obtain⟨u,hu⟩:∃u,u=usedB (restE d):=⟨_,rfl⟩
 have hus:=used_call _ _ w1 hr
 rw[←hu] at hus
 obtain⟨V,hV⟩:∃V,V=verB d:=⟨_,rfl⟩
 have hVe:V=decide (1≤ve∧ve≤999):=by rw[hV];unfold verB;rw[←hd.ve]
 obtain⟨nb,hnb⟩:∃nb,nb=isNullB bk bi bs bt bll bfl:=⟨_,rfl⟩
 have hnv:isNullV d.bd=nb:=by rw[hnb];exact isNullV_of (c:=⟨bk,bi,bs,bt,bla,bll,blc,bfa,bfl,bfc⟩) hd.bd
 have hkv:kindV d.bd=bk:=by
  have:=hd.bd
  revert this
  cases d.bd with | mk k i s t l ns fs=>intro h;exact h.1.1.symm
 have k1:(d.k=1)=False:=by rw[←hd.k];simp
 have k3:(d.k=3)=False:=by rw[←hd.k];simp
 have k4:(d.k=4)=False:=by rw[←hd.k];simp
 have k5:(d.k=5)=False:=by rw[←hd.k];simp
 have k6:(d.k=6)=False:=by rw[←hd.k];simp
 have k0:(d.k<1∨6<d.k)=False:=by rw[←hd.k];simp
 have hch:chkEn d=if ti<0∨17592186044416<ti then 34 else if u=true then 3 else if 65536<tx.size then 5 else 0:=by
  simp only[chkEn,k0,k1,k3,k4,k5,k6,←hu,←hV,hnv,hkv,←hd.ti,←hd.nu,←hd.ca,←hd.tx,false_and,true_and,or_true,true_or,or_false,false_or,if_false,if_true]
 have hck:=fun (w':World) (h:Below w1.heap.size w1 w')=>check_call ⟨bk,bi,bs,bt,bla,bll,blc,bfa,bfl,bfc⟩ d.bd w' (hd1.bd.same fun j hj=>⟨Nat.lt_of_lt_of_le hj h.size,h.block j hj⟩) ((hT.below (hN▸hb1)).below (h.mono (by omega)))
 have hsc:=fun (w':World) (h:Below w1.heap.size w1 w')=>stampCheck_call (· < w1.heap.size) ⟨se,sa,sn,scc⟩ d.st w1 w' hd1.st (fun j hj=>⟨Nat.lt_of_lt_of_le hj h.size,h.block j hj⟩)
 have HCH:=hid hch
 have HUS:=hid hus
 have HCK:=hid hck
 have HSC:=hid hsc
 have HVE:=hid hVe
 have HNU:=hid (fun w'=>isNull_call bk bi bs bt bla bll blc bfa bfl bfc w')
 rw[←hnb] at HNU
 have HW0:=hid hw0
 have HW1:=hid hw1
 have HN:=hid hN
 have HB1:=hid hb1
 have HS1:=hid hsz1
 have HC:=hid (fun (w':World) (h:Below w1.heap.size w1 w')=>have q:=heapExt h h1e
  (show w'.cell? ⟨N,0,none⟩=some (.int .i64 2)∧w'.cell? ⟨N,1,none⟩=some (.int .i64 ti)∧w'.cell? ⟨N,2,none⟩=some (.int .i64 nu)∧w'.cell? ⟨N,3,none⟩=some (.int .i64 ve)∧w'.cell? ⟨N,4,none⟩=some (.int .i64 ca)∧w'.cell? ⟨N,7,none⟩=some (.string tx)∧w'.cell? ⟨N,10,none⟩=some (.int .i64 bk)∧(loadCellsFrom ⟨N,10,none⟩ 0 6 #[]).run Tryz.prog w'=.ok #[.int .i64 bk,.int .i64 bi,.int .i64 bs,.string bt,.slice bla bll blc,.slice bfa bfl bfc] w'∧w'.cell? ⟨N,16,none⟩=some (.int .i64 se)∧w'.cell? ⟨N,17,none⟩=some (.slice sa sn scc) from
  ⟨cellOf q 0,cellOf q 1,cellOf q 2,cellOf q 3,cellOf q 4,cellOf q 7,cellOf q 10,ldAtJ q rfl rfl rfl rfl rfl rfl,cellOf q 16,cellOf q 17⟩))
 have hl0:=ldEn (c:=⟨2,ti,nu,ve,ca,nm,nd,tx,un,dn,⟨bk,bi,bs,bt,bla,bll,blc,bfa,bfl,bfc⟩,⟨se,sa,sn,scc⟩⟩) (fr:=(0,0)) h00
 have hst:=stEnN w0 #[.int .i64 0,.int .i64 0,.int .i64 0,.int .i64 0,.int .i64 0,.string ⟨#[]⟩,.string ⟨#[]⟩,.string ⟨#[]⟩,.bool false,.bool false,.int .i64 0,.int .i64 0,.int .i64 0,.string ⟨#[]⟩,.slice none 0 0,.slice none 0 0,.int .i64 0,.slice none 0 0] rfl ⟨2,ti,nu,ve,ca,nm,nd,tx,un,dn,⟨bk,bi,bs,bt,bla,bll,blc,bfa,bfl,bfc⟩,⟨se,sa,sn,scc⟩⟩
 have hlr:=ldEn (c:=⟨2,ti,nu,ve,ca,nm,nd,tx,un,dn,⟨bk,bi,bs,bt,bla,bll,blc,bfa,bfl,bfc⟩,⟨se,sa,sn,scc⟩⟩) (fr:=(0,0)) h1r
 dsimp only[EnC.ar,EnC.cs] at hl0 hst hlr
 rw[hs0] at hst
 have HL0:=hid hl0
 have HS0:=hid hs0
 have HD0:=hid (show w0.cell? ⟨N,0,none⟩=some (.int .i64 2) from cellOf h00 0)
 have HST:=hid hst
 have HLR:=hid hlr
 rw[←hN]
 clear hu hus hV hVe hnb hnv hkv k0 k1 k3 k4 k5 k6 hch hck hsc hd hd1 hr hw0 hw1 hN hb1 hsz1 hsame hs0 h00 h1e h1r hl0 hst hlr hT
 go_enter Tryz.func87,Tryz.ntmps87
 go_upto_region 1 with (fail)
 rw[←HW0.out,←HN.out]
 have hs0:=HS0.out
 have hl0:=HL0.out
 have hst:=HST.out
 have d0:=HD0.out
 go_upto_region 14 with (fail)
 rw[←HW1.out]
 clear hs0 hl0 hst d0
 have lr:=HLR.out
 obtain⟨c0,c1,c2,c3,c4,c7,c10,l10,c16,c17⟩:=HC.out w1 (Below.refl _ _)
 go_cut [4] (fun v wz=>v=.bool V∧wz=w1)
 case first =>
  by_cases v1:1≤ve
  ·by_cases v2:ve≤999
   ·go_wp2
    go_meet
    exact⟨by rw[HVE.out,decide_eq_true (show 1≤ve∧ve≤999 from⟨v1,v2⟩)],rfl⟩
   ·go_wp2
    go_meet
    exact⟨by rw[HVE.out,decide_eq_false (show ¬ (1≤ve∧ve≤999) by omega)],rfl⟩
  ·go_wp2
   go_meet
   exact⟨by rw[HVE.out,decide_eq_false (show ¬ (1≤ve∧ve≤999) by omega)],rfl⟩
 case rest =>
 obtain⟨rfl,hwc⟩:=hcut
 obtain⟨w1',hw1'⟩:∃x,x=wc:=⟨_,rfl⟩
 rw[←hw1'] at hwc ⊢
 clear hw1'
 subst hwc
 by_cases t1:ti<0
 ·have HT1:=hid t1
  go_wp2
  refine bodyPost_ret (v:=.int .i64 34) (by simp[results,Tryz.results87,go_sem]) rfl ?_
  refine⟨?_,HB1.out⟩
  rw[HCH.out]
  try have eHT1:=HT1.out
  try have eHTI:=HTI.out
  try have eHZ:=HZ.out
  try have eHN1:=HN1.out
  try have eHQ:=HQ.out
  congr 2
  (repeat' split)<;>first | rfl | omega | (simp_all;done) | (simp_all;omega)
 by_cases t2:17592186044416<ti
 ·have HT1:=hid t2
  go_wp2
  refine bodyPost_ret (v:=.int .i64 34) (by simp[results,Tryz.results87,go_sem]) rfl ?_
  refine⟨?_,HB1.out⟩
  rw[HCH.out]
  try have eHT1:=HT1.out
  try have eHTI:=HTI.out
  try have eHZ:=HZ.out
  try have eHN1:=HN1.out
  try have eHQ:=HQ.out
  congr 2
  (repeat' split)<;>first | rfl | omega | (simp_all;done) | (simp_all;omega)
 have HTI:=hid (show ¬ (ti<0∨17592186044416<ti) by omega)
 cases u
 rotate_left
 ·skip
  go_wp2_with (first
   | (go_at_call 157;refine HUS.out.mono ?_;rintro x w2 ⟨rfl,hb2⟩;obtain⟨a0,a1,a2,a3,a4,a7,a10,la,a16,a17⟩:=HC.out w2 hb2;have HB2:=hid hb2;clear hb2))
  refine bodyPost_ret (v:=.int .i64 3) (by simp[results,Tryz.results87,go_sem]) rfl ?_
  refine⟨?_,HB1.out.trans (HB2.out.mono (by have:=HS1.out;omega))⟩
  rw[HCH.out]
  try have eHT1:=HT1.out
  try have eHTI:=HTI.out
  try have eHZ:=HZ.out
  try have eHN1:=HN1.out
  try have eHQ:=HQ.out
  congr 2
  (repeat' split)<;>first | rfl | omega | (simp_all;done) | (simp_all;omega)
 by_cases z1:65536<tx.size
 ·have z2:(65536:Int)<(tx.size:Int):=by omega
  have HZ:=hid z1
  go_wp2_with (first
   | (go_at_call 157;refine HUS.out.mono ?_;rintro x w2 ⟨rfl,hb2⟩;obtain⟨a0,a1,a2,a3,a4,a7,a10,la,a16,a17⟩:=HC.out w2 hb2;have HB2:=hid hb2;clear hb2))
  refine bodyPost_ret (v:=.int .i64 5) (by simp[results,Tryz.results87,go_sem]) rfl ?_
  refine⟨?_,HB1.out.trans (HB2.out.mono (by have:=HS1.out;omega))⟩
  rw[HCH.out]
  try have eHT1:=HT1.out
  try have eHTI:=HTI.out
  try have eHZ:=HZ.out
  try have eHN1:=HN1.out
  try have eHQ:=HQ.out
  congr 2
  (repeat' split)<;>first | rfl | omega | (simp_all;done) | (simp_all;omega)
 have z2:¬ (65536:Int)<(tx.size:Int):=by omega
 have HZ:=hid z1
 go_wp2_with (first
  | (go_at_call 157;refine HUS.out.mono ?_;rintro x w2 ⟨rfl,hb2⟩;obtain⟨a0,a1,a2,a3,a4,a7,a10,la,a16,a17⟩:=HC.out w2 hb2;have HB2:=hid hb2;clear hb2))
 refine bodyPost_ret (v:=.int .i64 0) (by simp[results,Tryz.results87,go_sem]) rfl ?_
 refine⟨?_,HB1.out.trans (HB2.out.mono (by have:=HS1.out;omega))⟩
 rw[HCH.out]
 try have eHT1:=HT1.out
 try have eHTI:=HTI.out
 try have eHZ:=HZ.out
 try have eHN1:=HN1.out
 try have eHQ:=HQ.out
 congr 2
 (repeat' split)<;>first | rfl | omega | (simp_all;done) | (simp_all;omega)
end
end Go.Proofs.YtmgpghoamapfgaaGreatDoor
