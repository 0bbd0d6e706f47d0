/-
  machine.EqualEntry: whether two entries are equal, as JBack's enEqB says. Condition: both can be read as data.
-/
import Derived.Test.YtaofolgaiipcjaaGreatDoorJP18Mrg
import Derived.Test.YtaofolgaiipcjaaGreatDoorJP29Mrg
import Derived.Test.YtaofolgaiipcjaaGreatDoorJP44Mrg
namespace Go.Proofs.YtaofolgaiipcjaaGreatDoor
set_option linter.unusedVariables false
set_option maxRecDepth 100000
set_option maxHeartbeats 16000000
set_option linter.unusedSimpArgs false
open Go Go.RowKit
section
attribute [-go_sem] loadCellsFrom storeCells
attribute [local go_sem] lcf0 lcf1 lcf2 lcf3 lcf4 lcf5 stc0 stc1
theorem eqEn_call (ca0 cb0:EnC) (da db:En) (w:World) (ha:IsEn (· < w.heap.size) w ca0 da) (hb:IsEn (· < w.heap.size) w cb0 db) :
 Calls Tryz.prog 19 #[ca0.v,cb0.v] w fun e w'=>e=.returned (.bool (enEqB da db))∧Below w.heap.size w w':=by
 obtain⟨k,ti,nu,ve,ca,nm,nd,tx,un,dn,⟨bk,bi,bs,bt,bla,bll,blc,bfa,bfl,bfc⟩,⟨se,sa,sn,scc⟩⟩:=ca0
 obtain⟨k2,ti2,nu2,ve2,ca2,nm2,nd2,tx2,un2,dn2,⟨bk2,bi2,bs2,bt2,bla2,bll2,blc2,bfa2,bfl2,bfc2⟩,⟨se2,sa2,sn2,scc2⟩⟩:=cb0
 dsimp only[EnC.v]
 obtain⟨N,hN⟩:∃N,N=w.heap.size:=⟨_,rfl⟩
 obtain⟨w0,hw0⟩:∃w0,w0=w.alloc (.cells #[.int .i64 k,.int .i64 ti,.int .i64 nu,.int .i64 ve,.int .i64 ca,.string nm,.string nd,.string tx,.bool un,.bool dn,.int .i64 bk,.int .i64 bi,.int .i64 bs,.string bt,.slice bla bll blc,.slice bfa bfl bfc,.int .i64 se,.slice sa sn scc] 30):=⟨_,rfl⟩
 obtain⟨w1,hw1⟩:∃w1,w1=w0.alloc (.cells #[.int .i64 k2,.int .i64 ti2,.int .i64 nu2,.int .i64 ve2,.int .i64 ca2,.string nm2,.string nd2,.string tx2,.bool un2,.bool dn2,.int .i64 bk2,.int .i64 bi2,.int .i64 bs2,.string bt2,.slice bla2 bll2 blc2,.slice bfa2 bfl2 bfc2,.int .i64 se2,.slice sa2 sn2 scc2] 30):=⟨_,rfl⟩
 have hs0:w0.heap.size=N+1:=by rw[hw0,World.size_alloc,←hN]
 have h0:w0.heap[N]?=some (.cells #[.int .i64 k,.int .i64 ti,.int .i64 nu,.int .i64 ve,.int .i64 ca,.string nm,.string nd,.string tx,.bool un,.bool dn,.int .i64 bk,.int .i64 bi,.int .i64 bs,.string bt,.slice bla bll blc,.slice bfa bfl bfc,.int .i64 se,.slice sa sn scc] 30):=by rw[hw0,hN];exact heap_alloc_new w _
 have hA:w1.heap[N]?=some (.cells #[.int .i64 k,.int .i64 ti,.int .i64 nu,.int .i64 ve,.int .i64 ca,.string nm,.string nd,.string tx,.bool un,.bool dn,.int .i64 bk,.int .i64 bi,.int .i64 bs,.string bt,.slice bla bll blc,.slice bfa bfl bfc,.int .i64 se,.slice sa sn scc] 30):=by rw[hw1];exact(heap_alloc_old w0 _ _ (by omega)).trans h0
 have hB:w1.heap[N+1]?=some (.cells #[.int .i64 k2,.int .i64 ti2,.int .i64 nu2,.int .i64 ve2,.int .i64 ca2,.string nm2,.string nd2,.string tx2,.bool un2,.bool dn2,.int .i64 bk2,.int .i64 bi2,.int .i64 bs2,.string bt2,.slice bla2 bll2 blc2,.slice bfa2 bfl2 bfc2,.int .i64 se2,.slice sa2 sn2 scc2] 30):=by rw[hw1,←hs0];exact heap_alloc_new w0 _
 have hb1:Below N w w1:=by rw[hw1,hw0,hN];exact((Below.refl _ w).alloc (Nat.le_refl _) _).alloc (by simp) _
 have hsz1:w1.heap.size=N+2:=by rw[hw1,World.size_alloc,hs0]
 have hsame:∀j,j<w.heap.size→j<w1.heap.size∧w1.heap[j]?=w.heap[j]?:=fun j hj=>⟨by omega,hb1.block j (by omega)⟩
 have ha1:=ha.same hsame
 have hb2:=hb.same hsame
 obtain⟨u,hu⟩:∃u,u=(cmpV da.bd db.bd==0):=⟨_,rfl⟩
 obtain⟨v,hv⟩:∃v,v=stEqB da.st db.st:=⟨_,rfl⟩
 have heq:=valEqual_call ⟨bk,bi,bs,bt,bla,bll,blc,bfa,bfl,bfc⟩ ⟨bk2,bi2,bs2,bt2,bla2,bll2,blc2,bfa2,bfl2,bfc2⟩ da.bd db.bd w1 ha1.bd hb2.bd
 have hsq:=fun (w':World) (h:Below w1.heap.size w1 w')=>stEqual_call ⟨se,sa,sn,scc⟩ ⟨se2,sa2,sn2,scc2⟩ da.st db.st w' (ha1.st.same fun j hj=>⟨Nat.lt_of_lt_of_le hj h.size,h.block j hj⟩) (hb2.st.same fun j hj=>⟨Nat.lt_of_lt_of_le hj h.size,h.block j hj⟩)
 rw[←hu] at heq
 rw[←hv] at hsq
 have hu0:enEqB da db=(k==k2&&(ti==ti2&&(nu==nu2&&(ve==ve2&&(ca==ca2&&(decide (nm=nm2)&&(decide (nd=nd2)&&(decide (tx=tx2)&&(un==un2&&(dn==dn2&&(u&&v))))))))))):=by
  unfold enEqB
  rw[←hu,←hv,←ha.k,←ha.ti,←ha.nu,←ha.ve,←ha.ca,←ha.nm,←ha.nd,←ha.tx,←ha.un,←ha.dn,←hb.k,←hb.ti,←hb.nu,←hb.ve,←hb.ca,←hb.nm,←hb.nd,←hb.tx,←hb.un,←hb.dn]
 have HU0:=hid hu0
 have HEQ:=hid heq
 have HSQ:=hid hsq
 have HW0:=hid hw0
 have HW1:=hid hw1
 have HS0:=hid (show w0.heap.size=N+1 from hs0)
 have HB1:=hid hb1
 have HN1:=hid (show N<w1.heap.size by omega)
 have HN:=hid hN
 have HC:=hid (fun (w':World) (h:Below w1.heap.size w1 w')=>have q:=heapExt h hA
  (show w'.cell? ⟨N,0,none⟩=some (.int .i64 k)∧w'.cell? ⟨N,1,none⟩=some (.int .i64 ti)∧w'.cell? ⟨N,2,none⟩=some (.int .i64 nu)∧w'.cell? ⟨N,3,none⟩=some (.int .i64 ve)∧w'.cell? ⟨N,4,none⟩=some (.int .i64 ca)∧w'.cell? ⟨N,5,none⟩=some (.string nm)∧w'.cell? ⟨N,6,none⟩=some (.string nd)∧w'.cell? ⟨N,7,none⟩=some (.string tx)∧w'.cell? ⟨N,8,none⟩=some (.bool un)∧w'.cell? ⟨N,9,none⟩=some (.bool dn)∧(loadCellsFrom ⟨N,10,none⟩ 0 6 #[]).run Tryz.prog w'=.ok #[.int .i64 bk,.int .i64 bi,.int .i64 bs,.string bt,.slice bla bll blc,.slice bfa bfl bfc] w'∧w'.cell? ⟨N,16,none⟩=some (.int .i64 se)∧w'.cell? ⟨N,17,none⟩=some (.slice sa sn scc) from⟨cellOf q 0,cellOf q 1,cellOf q 2,cellOf q 3,cellOf q 4,cellOf q 5,cellOf q 6,cellOf q 7,cellOf q 8,cellOf q 9,ldAtJ q rfl rfl rfl rfl rfl rfl,cellOf q 16,cellOf q 17⟩))
 have HD:=hid (fun (w':World) (h:Below w1.heap.size w1 w')=>have q:=heapExt h hB
  (show w'.cell? ⟨N+1,0,none⟩=some (.int .i64 k2)∧w'.cell? ⟨N+1,1,none⟩=some (.int .i64 ti2)∧w'.cell? ⟨N+1,2,none⟩=some (.int .i64 nu2)∧w'.cell? ⟨N+1,3,none⟩=some (.int .i64 ve2)∧w'.cell? ⟨N+1,4,none⟩=some (.int .i64 ca2)∧w'.cell? ⟨N+1,5,none⟩=some (.string nm2)∧w'.cell? ⟨N+1,6,none⟩=some (.string nd2)∧w'.cell? ⟨N+1,7,none⟩=some (.string tx2)∧w'.cell? ⟨N+1,8,none⟩=some (.bool un2)∧w'.cell? ⟨N+1,9,none⟩=some (.bool dn2)∧(loadCellsFrom ⟨N+1,10,none⟩ 0 6 #[]).run Tryz.prog w'=.ok #[.int .i64 bk2,.int .i64 bi2,.int .i64 bs2,.string bt2,.slice bla2 bll2 blc2,.slice bfa2 bfl2 bfc2] w'∧w'.cell? ⟨N+1,16,none⟩=some (.int .i64 se2)∧w'.cell? ⟨N+1,17,none⟩=some (.slice sa2 sn2 scc2) from⟨cellOf q 0,cellOf q 1,cellOf q 2,cellOf q 3,cellOf q 4,cellOf q 5,cellOf q 6,cellOf q 7,cellOf q 8,cellOf q 9,ldAtJ q rfl rfl rfl rfl rfl rfl,cellOf q 16,cellOf q 17⟩))
 obtain⟨x0,x1,x2,x3,x4,x5,x6,x7,x8,x9,x10,x16,x17⟩:=HC.out w1 (Below.refl _ _)
 obtain⟨y0,y1,y2,y3,y4,y5,y6,y7,y8,y9,y10,y16,y17⟩:=HD.out w1 (Below.refl _ _)
 rw[←hN]
 clear hu hv heq hsq hu0 ha hb ha1 hb2 hw0 hw1 hs0 h0 hA hB hb1 hsz1 hsame hN
 cases q0:(k==k2)
 ·have HU:=hid (show enEqB da db=false by rw[HU0.out];simp only[q0,Bool.false_and,Bool.and_false])
  go_enter Tryz.func19,Tryz.ntmps19
  go_upto_region 1 with (fail)
  rw[←HW0.out,←HN.out,←HW1.out]
  go_wp2_with (first
   | (go_at_call 51;refine(HSQ.out w2 HB2.out).mono ?_;rintro e w3 ⟨rfl,hb3⟩;have HB3:=hid (HB2.out.trans (hb3.mono HB2.out.size));clear hb3)
   | (go_at_call 50;refine HEQ.out.mono ?_;rintro e w2 ⟨rfl,hb2⟩;obtain⟨x0,x1,x2,x3,x4,x5,x6,x7,x8,x9,x10,x16,x17⟩:=HC.out w2 hb2;obtain⟨y0,y1,y2,y3,y4,y5,y6,y7,y8,y9,y10,y16,y17⟩:=HD.out w2 hb2;have HB2:=hid hb2;clear hb2))
  refine bodyPost_ret (v:=.bool false) (by simp[results,Tryz.results19,go_sem]) rfl ?_
  exact⟨by rw[HU.out],HB1.out⟩
 rw[q0,Bool.true_and] at HU0
 cases q1:(ti==ti2)
 ·have HU:=hid (show enEqB da db=false by rw[HU0.out];simp only[q1,Bool.false_and,Bool.and_false])
  go_enter Tryz.func19,Tryz.ntmps19
  go_upto_region 1 with (fail)
  rw[←HW0.out,←HN.out,←HW1.out]
  go_wp2_with (first
   | (go_at_call 51;refine(HSQ.out w2 HB2.out).mono ?_;rintro e w3 ⟨rfl,hb3⟩;have HB3:=hid (HB2.out.trans (hb3.mono HB2.out.size));clear hb3)
   | (go_at_call 50;refine HEQ.out.mono ?_;rintro e w2 ⟨rfl,hb2⟩;obtain⟨x0,x1,x2,x3,x4,x5,x6,x7,x8,x9,x10,x16,x17⟩:=HC.out w2 hb2;obtain⟨y0,y1,y2,y3,y4,y5,y6,y7,y8,y9,y10,y16,y17⟩:=HD.out w2 hb2;have HB2:=hid hb2;clear hb2))
  refine bodyPost_ret (v:=.bool false) (by simp[results,Tryz.results19,go_sem]) rfl ?_
  exact⟨by rw[HU.out],HB1.out⟩
 rw[q1,Bool.true_and] at HU0
 cases q2:(nu==nu2)
 ·have HU:=hid (show enEqB da db=false by rw[HU0.out];simp only[q2,Bool.false_and,Bool.and_false])
  go_enter Tryz.func19,Tryz.ntmps19
  go_upto_region 1 with (fail)
  rw[←HW0.out,←HN.out,←HW1.out]
  go_wp2_with (first
   | (go_at_call 51;refine(HSQ.out w2 HB2.out).mono ?_;rintro e w3 ⟨rfl,hb3⟩;have HB3:=hid (HB2.out.trans (hb3.mono HB2.out.size));clear hb3)
   | (go_at_call 50;refine HEQ.out.mono ?_;rintro e w2 ⟨rfl,hb2⟩;obtain⟨x0,x1,x2,x3,x4,x5,x6,x7,x8,x9,x10,x16,x17⟩:=HC.out w2 hb2;obtain⟨y0,y1,y2,y3,y4,y5,y6,y7,y8,y9,y10,y16,y17⟩:=HD.out w2 hb2;have HB2:=hid hb2;clear hb2))
  refine bodyPost_ret (v:=.bool false) (by simp[results,Tryz.results19,go_sem]) rfl ?_
  exact⟨by rw[HU.out],HB1.out⟩
 rw[q2,Bool.true_and] at HU0
 cases q3:(ve==ve2)
 ·have HU:=hid (show enEqB da db=false by rw[HU0.out];simp only[q3,Bool.false_and,Bool.and_false])
  go_enter Tryz.func19,Tryz.ntmps19
  go_upto_region 1 with (fail)
  rw[←HW0.out,←HN.out,←HW1.out]
  go_wp2_with (first
   | (go_at_call 51;refine(HSQ.out w2 HB2.out).mono ?_;rintro e w3 ⟨rfl,hb3⟩;have HB3:=hid (HB2.out.trans (hb3.mono HB2.out.size));clear hb3)
   | (go_at_call 50;refine HEQ.out.mono ?_;rintro e w2 ⟨rfl,hb2⟩;obtain⟨x0,x1,x2,x3,x4,x5,x6,x7,x8,x9,x10,x16,x17⟩:=HC.out w2 hb2;obtain⟨y0,y1,y2,y3,y4,y5,y6,y7,y8,y9,y10,y16,y17⟩:=HD.out w2 hb2;have HB2:=hid hb2;clear hb2))
  refine bodyPost_ret (v:=.bool false) (by simp[results,Tryz.results19,go_sem]) rfl ?_
  exact⟨by rw[HU.out],HB1.out⟩
 rw[q3,Bool.true_and] at HU0
 cases q4:(ca==ca2)
 ·have HU:=hid (show enEqB da db=false by rw[HU0.out];simp only[q4,Bool.false_and,Bool.and_false])
  go_enter Tryz.func19,Tryz.ntmps19
  go_upto_region 1 with (fail)
  rw[←HW0.out,←HN.out,←HW1.out]
  go_wp2_with (first
   | (go_at_call 51;refine(HSQ.out w2 HB2.out).mono ?_;rintro e w3 ⟨rfl,hb3⟩;have HB3:=hid (HB2.out.trans (hb3.mono HB2.out.size));clear hb3)
   | (go_at_call 50;refine HEQ.out.mono ?_;rintro e w2 ⟨rfl,hb2⟩;obtain⟨x0,x1,x2,x3,x4,x5,x6,x7,x8,x9,x10,x16,x17⟩:=HC.out w2 hb2;obtain⟨y0,y1,y2,y3,y4,y5,y6,y7,y8,y9,y10,y16,y17⟩:=HD.out w2 hb2;have HB2:=hid hb2;clear hb2))
  refine bodyPost_ret (v:=.bool false) (by simp[results,Tryz.results19,go_sem]) rfl ?_
  exact⟨by rw[HU.out],HB1.out⟩
 rw[q4,Bool.true_and] at HU0
 by_cases h5:nm=nm2
 rotate_left
 ·have q5:(nm.toList==nm2.toList)=false:=by rw[bList];simp[h5]
  have r5:decide (nm=nm2)=false:=by simp[h5]
  clear h5
  have HU:=hid (show enEqB da db=false by rw[HU0.out];simp only[r5,Bool.false_and,Bool.and_false])
  go_enter Tryz.func19,Tryz.ntmps19
  go_upto_region 1 with (fail)
  rw[←HW0.out,←HN.out,←HW1.out]
  go_wp2_with (first
   | (go_at_call 51;refine(HSQ.out w2 HB2.out).mono ?_;rintro e w3 ⟨rfl,hb3⟩;have HB3:=hid (HB2.out.trans (hb3.mono HB2.out.size));clear hb3)
   | (go_at_call 50;refine HEQ.out.mono ?_;rintro e w2 ⟨rfl,hb2⟩;obtain⟨x0,x1,x2,x3,x4,x5,x6,x7,x8,x9,x10,x16,x17⟩:=HC.out w2 hb2;obtain⟨y0,y1,y2,y3,y4,y5,y6,y7,y8,y9,y10,y16,y17⟩:=HD.out w2 hb2;have HB2:=hid hb2;clear hb2))
  refine bodyPost_ret (v:=.bool false) (by simp[results,Tryz.results19,go_sem]) rfl ?_
  exact⟨by rw[HU.out],HB1.out⟩
 have q5:(nm.toList==nm2.toList)=true:=by rw[bList];simp[h5]
 have r5:decide (nm=nm2)=true:=by simp[h5]
 clear h5
 rw[r5,Bool.true_and] at HU0
 by_cases h6:nd=nd2
 rotate_left
 ·have q6:(nd.toList==nd2.toList)=false:=by rw[bList];simp[h6]
  have r6:decide (nd=nd2)=false:=by simp[h6]
  clear h6
  have HU:=hid (show enEqB da db=false by rw[HU0.out];simp only[r6,Bool.false_and,Bool.and_false])
  go_enter Tryz.func19,Tryz.ntmps19
  go_upto_region 1 with (fail)
  rw[←HW0.out,←HN.out,←HW1.out]
  go_wp2_with (first
   | (go_at_call 51;refine(HSQ.out w2 HB2.out).mono ?_;rintro e w3 ⟨rfl,hb3⟩;have HB3:=hid (HB2.out.trans (hb3.mono HB2.out.size));clear hb3)
   | (go_at_call 50;refine HEQ.out.mono ?_;rintro e w2 ⟨rfl,hb2⟩;obtain⟨x0,x1,x2,x3,x4,x5,x6,x7,x8,x9,x10,x16,x17⟩:=HC.out w2 hb2;obtain⟨y0,y1,y2,y3,y4,y5,y6,y7,y8,y9,y10,y16,y17⟩:=HD.out w2 hb2;have HB2:=hid hb2;clear hb2))
  refine bodyPost_ret (v:=.bool false) (by simp[results,Tryz.results19,go_sem]) rfl ?_
  exact⟨by rw[HU.out],HB1.out⟩
 have q6:(nd.toList==nd2.toList)=true:=by rw[bList];simp[h6]
 have r6:decide (nd=nd2)=true:=by simp[h6]
 clear h6
 rw[r6,Bool.true_and] at HU0
 by_cases h7:tx=tx2
 rotate_left
 ·have q7:(tx.toList==tx2.toList)=false:=by rw[bList];simp[h7]
  have r7:decide (tx=tx2)=false:=by simp[h7]
  clear h7
  have HU:=hid (show enEqB da db=false by rw[HU0.out];simp only[r7,Bool.false_and,Bool.and_false])
  go_enter Tryz.func19,Tryz.ntmps19
  go_upto_region 1 with (fail)
  rw[←HW0.out,←HN.out,←HW1.out]
  go_wp2_with (first
   | (go_at_call 51;refine(HSQ.out w2 HB2.out).mono ?_;rintro e w3 ⟨rfl,hb3⟩;have HB3:=hid (HB2.out.trans (hb3.mono HB2.out.size));clear hb3)
   | (go_at_call 50;refine HEQ.out.mono ?_;rintro e w2 ⟨rfl,hb2⟩;obtain⟨x0,x1,x2,x3,x4,x5,x6,x7,x8,x9,x10,x16,x17⟩:=HC.out w2 hb2;obtain⟨y0,y1,y2,y3,y4,y5,y6,y7,y8,y9,y10,y16,y17⟩:=HD.out w2 hb2;have HB2:=hid hb2;clear hb2))
  refine bodyPost_ret (v:=.bool false) (by simp[results,Tryz.results19,go_sem]) rfl ?_
  exact⟨by rw[HU.out],HB1.out⟩
 have q7:(tx.toList==tx2.toList)=true:=by rw[bList];simp[h7]
 have r7:decide (tx=tx2)=true:=by simp[h7]
 clear h7
 rw[r7,Bool.true_and] at HU0
 cases q8:(un==un2)
 ·have HU:=hid (show enEqB da db=false by rw[HU0.out];simp only[q8,Bool.false_and,Bool.and_false])
  go_enter Tryz.func19,Tryz.ntmps19
  go_upto_region 1 with (fail)
  rw[←HW0.out,←HN.out,←HW1.out]
  go_wp2_with (first
   | (go_at_call 51;refine(HSQ.out w2 HB2.out).mono ?_;rintro e w3 ⟨rfl,hb3⟩;have HB3:=hid (HB2.out.trans (hb3.mono HB2.out.size));clear hb3)
   | (go_at_call 50;refine HEQ.out.mono ?_;rintro e w2 ⟨rfl,hb2⟩;obtain⟨x0,x1,x2,x3,x4,x5,x6,x7,x8,x9,x10,x16,x17⟩:=HC.out w2 hb2;obtain⟨y0,y1,y2,y3,y4,y5,y6,y7,y8,y9,y10,y16,y17⟩:=HD.out w2 hb2;have HB2:=hid hb2;clear hb2))
  refine bodyPost_ret (v:=.bool false) (by simp[results,Tryz.results19,go_sem]) rfl ?_
  exact⟨by rw[HU.out],HB1.out⟩
 rw[q8,Bool.true_and] at HU0
 cases q9:(dn==dn2)
 ·have HU:=hid (show enEqB da db=false by rw[HU0.out];simp only[q9,Bool.false_and,Bool.and_false])
  go_enter Tryz.func19,Tryz.ntmps19
  go_upto_region 1 with (fail)
  rw[←HW0.out,←HN.out,←HW1.out]
  go_wp2_with (first
   | (go_at_call 51;refine(HSQ.out w2 HB2.out).mono ?_;rintro e w3 ⟨rfl,hb3⟩;have HB3:=hid (HB2.out.trans (hb3.mono HB2.out.size));clear hb3)
   | (go_at_call 50;refine HEQ.out.mono ?_;rintro e w2 ⟨rfl,hb2⟩;obtain⟨x0,x1,x2,x3,x4,x5,x6,x7,x8,x9,x10,x16,x17⟩:=HC.out w2 hb2;obtain⟨y0,y1,y2,y3,y4,y5,y6,y7,y8,y9,y10,y16,y17⟩:=HD.out w2 hb2;have HB2:=hid hb2;clear hb2))
  refine bodyPost_ret (v:=.bool false) (by simp[results,Tryz.results19,go_sem]) rfl ?_
  exact⟨by rw[HU.out],HB1.out⟩
 rw[q9,Bool.true_and] at HU0
 cases u
 ·have HU:=hid (show enEqB da db=false by rw[HU0.out];simp only[Bool.false_and])
  go_enter Tryz.func19,Tryz.ntmps19
  go_upto_region 1 with (fail)
  rw[←HW0.out,←HN.out,←HW1.out]
  go_wp2_with (first
   | (go_at_call 51;refine(HSQ.out w2 HB2.out).mono ?_;rintro e w3 ⟨rfl,hb3⟩;have HB3:=hid (HB2.out.trans (hb3.mono HB2.out.size));clear hb3)
   | (go_at_call 50;refine HEQ.out.mono ?_;rintro e w2 ⟨rfl,hb2⟩;obtain⟨x0,x1,x2,x3,x4,x5,x6,x7,x8,x9,x10,x16,x17⟩:=HC.out w2 hb2;obtain⟨y0,y1,y2,y3,y4,y5,y6,y7,y8,y9,y10,y16,y17⟩:=HD.out w2 hb2;have HB2:=hid hb2;clear hb2))
  refine bodyPost_ret (v:=.bool false) (by simp[results,Tryz.results19,go_sem]) rfl ?_
  exact⟨by rw[HU.out],HB1.out.trans (HB2.out.mono (Nat.le_of_lt HN1.out))⟩
 rw[Bool.true_and] at HU0
 have HU:=HU0
 go_enter Tryz.func19,Tryz.ntmps19
 go_upto_region 1 with (fail)
 rw[←HW0.out,←HN.out,←HW1.out]
 go_wp2_with (first
  | (go_at_call 51;refine(HSQ.out w2 HB2.out).mono ?_;rintro e w3 ⟨rfl,hb3⟩;have HB3:=hid (HB2.out.trans (hb3.mono HB2.out.size));clear hb3)
  | (go_at_call 50;refine HEQ.out.mono ?_;rintro e w2 ⟨rfl,hb2⟩;obtain⟨x0,x1,x2,x3,x4,x5,x6,x7,x8,x9,x10,x16,x17⟩:=HC.out w2 hb2;obtain⟨y0,y1,y2,y3,y4,y5,y6,y7,y8,y9,y10,y16,y17⟩:=HD.out w2 hb2;have HB2:=hid hb2;clear hb2))
 refine bodyPost_ret (v:=.bool v) (by simp[results,Tryz.results19,go_sem]) rfl ?_
 exact⟨by rw[HU.out],HB1.out.trans (HB3.out.mono (Nat.le_of_lt HN1.out))⟩
end
end Go.Proofs.YtaofolgaiipcjaaGreatDoor
