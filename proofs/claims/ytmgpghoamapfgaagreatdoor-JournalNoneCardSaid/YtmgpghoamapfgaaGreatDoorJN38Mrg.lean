/-
  machine.used: whether something of an entry is used. Condition: the entry can be read as data.
-/
import Derived.Test.YtmgpghoamapfgaaGreatDoorJN28Mrg
import Derived.Test.YtmgpghoamapfgaaGreatDoorJN37Mrg
import Derived.Deep.Cut
namespace Go.Proofs.YtmgpghoamapfgaaGreatDoor
set_option linter.unusedVariables false
set_option maxRecDepth 100000
set_option maxHeartbeats 16000000
set_option linter.unusedSimpArgs false
open Go Go.RowKit
theorem emp_size (x:ByteArray):(x.size != 0) = !x.toList.isEmpty:=by
 rw[ByteArray.toList_eq]
 have h:x.size=x.data.toList.length:=Array.length_toList.symm
 rw[h]
 cases x.data.toList<;>simp
theorem ldAtJ {w:World} {b k:Nat} {cs:Array Value} {t:TypeId} {fr:Nat × Nat} {x0 x1 x2 x3 x4 x5:Value} (h:w.heap[b]?=some (.cells cs t fr)) (h0:cs[k]?=some x0) (h1:cs[k+1]?=some x1) (h2:cs[k+2]?=some x2) (h3:cs[k+3]?=some x3) (h4:cs[k+4]?=some x4) (h5:cs[k+5]?=some x5) :
 (loadCellsFrom ⟨b,k,none⟩ 0 6 #[]).run Tryz.prog w=.ok #[x0,x1,x2,x3,x4,x5] w:=by
 have:=run_loadCells_list (P:=Tryz.prog) w ⟨b,k,none⟩ [x0,x1,x2,x3,x4,x5] (fun j v hv=>by
  rw[add_at,cellOf h (k+j)]
  have hj:j<6:=(List.getElem?_eq_some_iff.1 hv).1
  have:j=0∨j=1∨j=2∨j=3∨j=4∨j=5:=by omega
  rcases this with rfl | rfl | rfl | rfl | rfl | rfl
  ·simpa using h0.trans hv
  ·simpa using h1.trans hv
  ·simpa using h2.trans hv
  ·simpa using h3.trans hv
  ·simpa using h4.trans hv
  ·simpa using h5.trans hv)
 exact this
section
attribute [-go_sem] loadCellsFrom storeCells
attribute [local go_sem] lcf0 lcf1 lcf2 lcf3 lcf4 lcf5 stc0 stc1
theorem used_call (c:EnC) (d:En) (w:World) (hd:IsEn (· < w.heap.size) w c d) :
 Calls Tryz.prog 157 #[c.v] w fun e w'=>e=.returned (.bool (usedB d))∧Below w.heap.size w w':=by
 obtain⟨w0,hw0⟩:∃w0,w0=w.alloc (.cells c.ar 41):=⟨_,rfl⟩
 have h0:w0.heap[w.heap.size]?=some (.cells c.ar 41):=by rw[hw0];exact heap_alloc_new w _
 have hb0:Below w.heap.size w w0:=by rw[hw0];exact(Below.refl _ w).alloc (Nat.le_refl _) _
 have hu:usedB d=(c.nu != 0||c.ve != 0||c.ca != 0||c.nm.size != 0||c.nd.size != 0||c.tx.size != 0||c.un||c.dn || !(cmpV d.bd nulV==0)||c.st.e != 0||c.st.n != 0):=by
  unfold usedB
  rw[hd.nu,hd.ve,hd.ca,hd.nm,hd.nd,hd.tx,hd.un,hd.dn,hd.st.e,hd.st.ps.1]
  rfl
 have heq:=valEqual_call c.bd ⟨0,0,0,⟨#[]⟩,none,0,0,none,0,0⟩ d.bd nulV w0 (hd.bd.same fun j hj=>⟨Nat.lt_of_lt_of_le hj hb0.size,hb0.block j hj⟩) (leaf_val 0 0 (by simp[I64]) (by simp[I64]))
 obtain⟨u,hu0⟩:∃u,u=(cmpV d.bd nulV==0):=⟨_,rfl⟩
 rw[←hu0] at hu heq
 have HEQ:=hid heq
 have HU0:=hid hu
 have HW:=hid hw0
 have HB0:=hid hb0
 have HC:=hid (fun (w':World) (h:Below w0.heap.size w0 w')=>have q:=heapExt h h0
  (show w'.cell? ⟨w.heap.size,0,none⟩=some (.int .i64 c.k)∧w'.cell? ⟨w.heap.size,1,none⟩=some (.int .i64 c.ti)∧w'.cell? ⟨w.heap.size,2,none⟩=some (.int .i64 c.nu)∧w'.cell? ⟨w.heap.size,3,none⟩=some (.int .i64 c.ve)∧w'.cell? ⟨w.heap.size,4,none⟩=some (.int .i64 c.ca)∧w'.cell? ⟨w.heap.size,5,none⟩=some (.string c.nm)∧w'.cell? ⟨w.heap.size,6,none⟩=some (.string c.nd)∧w'.cell? ⟨w.heap.size,7,none⟩=some (.string c.tx)∧w'.cell? ⟨w.heap.size,8,none⟩=some (.bool c.un)∧w'.cell? ⟨w.heap.size,9,none⟩=some (.bool c.dn)∧(loadCellsFrom ⟨w.heap.size,10,none⟩ 0 6 #[]).run Tryz.prog w'=.ok #[.int .i64 c.bd.k,.int .i64 c.bd.i,.int .i64 c.bd.s,.string c.bd.t,.slice c.bd.la c.bd.ll c.bd.lc,.slice c.bd.fa c.bd.fl c.bd.fc] w'∧w'.cell? ⟨w.heap.size,16,none⟩=some (.int .i64 c.st.e)∧w'.cell? ⟨w.heap.size,17,none⟩=some (.slice c.st.a c.st.n c.st.c) from
  ⟨cellOf q 0,cellOf q 1,cellOf q 2,cellOf q 3,cellOf q 4,cellOf q 5,cellOf q 6,cellOf q 7,cellOf q 8,cellOf q 9,ldAtJ q rfl rfl rfl rfl rfl rfl,cellOf q 16,cellOf q 17⟩))
 obtain⟨c0,c1,c2,c3,c4,c5,c6,c7,c8,c9,c10,c16,c17⟩:=HC.out w0 (Below.refl _ _)
 clear hd hu heq hw0 h0 hb0 hu0
 obtain⟨k,ti,nu,ve,ca,nm,nd,tx,un,dn,⟨bk,bi,bs,bt,bla,bll,blc,bfa,bfl,bfc⟩,⟨se,sa,sn,scc⟩⟩:=c
 dsimp only[EnC.v,EnC.ar,VC.v] at *
 by_cases h0:nu=0
 rotate_left
 ·have q0:(nu==0)=false:=by simp[h0]
  have r0:(nu != 0)=true:=by simp[h0]
  clear h0
  have HU:=hid (show usedB d=true by rw[HU0.out];simp[*])
  go_enter Tryz.func157,Tryz.ntmps157
  go_upto_region 1 with (fail)
  rw[←HW.out]
  go_wp2_with (go_at_call 155;refine HEQ.out.mono ?_;rintro e w1 ⟨rfl,hb1⟩;have HB1:=hid (HB0.out.trans (hb1.mono HB0.out.size));obtain⟨c0,c1,c2,c3,c4,c5,c6,c7,c8,c9,c10,c16,c17⟩:=HC.out w1 hb1;clear hb1)
  refine bodyPost_ret (v:=.bool true) (by simp[results,Tryz.results157,go_sem]) rfl ?_
  exact⟨by rw[HU.out],HB0.out⟩
 have q0:(nu==0)=true:=by simp[h0]
 have r0:(nu != 0)=false:=by simp[h0]
 clear h0
 by_cases h1:ve=0
 rotate_left
 ·have q1:(ve==0)=false:=by simp[h1]
  have r1:(ve != 0)=true:=by simp[h1]
  clear h1
  have HU:=hid (show usedB d=true by rw[HU0.out];simp[*])
  go_enter Tryz.func157,Tryz.ntmps157
  go_upto_region 1 with (fail)
  rw[←HW.out]
  go_wp2_with (go_at_call 155;refine HEQ.out.mono ?_;rintro e w1 ⟨rfl,hb1⟩;have HB1:=hid (HB0.out.trans (hb1.mono HB0.out.size));obtain⟨c0,c1,c2,c3,c4,c5,c6,c7,c8,c9,c10,c16,c17⟩:=HC.out w1 hb1;clear hb1)
  refine bodyPost_ret (v:=.bool true) (by simp[results,Tryz.results157,go_sem]) rfl ?_
  exact⟨by rw[HU.out],HB0.out⟩
 have q1:(ve==0)=true:=by simp[h1]
 have r1:(ve != 0)=false:=by simp[h1]
 clear h1
 by_cases h2:ca=0
 rotate_left
 ·have q2:(ca==0)=false:=by simp[h2]
  have r2:(ca != 0)=true:=by simp[h2]
  clear h2
  have HU:=hid (show usedB d=true by rw[HU0.out];simp[*])
  go_enter Tryz.func157,Tryz.ntmps157
  go_upto_region 1 with (fail)
  rw[←HW.out]
  go_wp2_with (go_at_call 155;refine HEQ.out.mono ?_;rintro e w1 ⟨rfl,hb1⟩;have HB1:=hid (HB0.out.trans (hb1.mono HB0.out.size));obtain⟨c0,c1,c2,c3,c4,c5,c6,c7,c8,c9,c10,c16,c17⟩:=HC.out w1 hb1;clear hb1)
  refine bodyPost_ret (v:=.bool true) (by simp[results,Tryz.results157,go_sem]) rfl ?_
  exact⟨by rw[HU.out],HB0.out⟩
 have q2:(ca==0)=true:=by simp[h2]
 have r2:(ca != 0)=false:=by simp[h2]
 clear h2
 cases r3:nm.toList.isEmpty
 ·have q3:(nm.size != 0)=true:=by rw[emp_size,r3];rfl
  have HU:=hid (show usedB d=true by rw[HU0.out];simp[*])
  go_enter Tryz.func157,Tryz.ntmps157
  go_upto_region 1 with (fail)
  rw[←HW.out]
  go_wp2_with (go_at_call 155;refine HEQ.out.mono ?_;rintro e w1 ⟨rfl,hb1⟩;have HB1:=hid (HB0.out.trans (hb1.mono HB0.out.size));obtain⟨c0,c1,c2,c3,c4,c5,c6,c7,c8,c9,c10,c16,c17⟩:=HC.out w1 hb1;clear hb1)
  refine bodyPost_ret (v:=.bool true) (by simp[results,Tryz.results157,go_sem]) rfl ?_
  exact⟨by rw[HU.out],HB0.out⟩
 have q3:(nm.size != 0)=false:=by rw[emp_size,r3];rfl
 cases r4:nd.toList.isEmpty
 ·have q4:(nd.size != 0)=true:=by rw[emp_size,r4];rfl
  have HU:=hid (show usedB d=true by rw[HU0.out];simp[*])
  go_enter Tryz.func157,Tryz.ntmps157
  go_upto_region 1 with (fail)
  rw[←HW.out]
  go_wp2_with (go_at_call 155;refine HEQ.out.mono ?_;rintro e w1 ⟨rfl,hb1⟩;have HB1:=hid (HB0.out.trans (hb1.mono HB0.out.size));obtain⟨c0,c1,c2,c3,c4,c5,c6,c7,c8,c9,c10,c16,c17⟩:=HC.out w1 hb1;clear hb1)
  refine bodyPost_ret (v:=.bool true) (by simp[results,Tryz.results157,go_sem]) rfl ?_
  exact⟨by rw[HU.out],HB0.out⟩
 have q4:(nd.size != 0)=false:=by rw[emp_size,r4];rfl
 cases r5:tx.toList.isEmpty
 ·have q5:(tx.size != 0)=true:=by rw[emp_size,r5];rfl
  have HU:=hid (show usedB d=true by rw[HU0.out];simp[*])
  go_enter Tryz.func157,Tryz.ntmps157
  go_upto_region 1 with (fail)
  rw[←HW.out]
  go_wp2_with (go_at_call 155;refine HEQ.out.mono ?_;rintro e w1 ⟨rfl,hb1⟩;have HB1:=hid (HB0.out.trans (hb1.mono HB0.out.size));obtain⟨c0,c1,c2,c3,c4,c5,c6,c7,c8,c9,c10,c16,c17⟩:=HC.out w1 hb1;clear hb1)
  refine bodyPost_ret (v:=.bool true) (by simp[results,Tryz.results157,go_sem]) rfl ?_
  exact⟨by rw[HU.out],HB0.out⟩
 have q5:(tx.size != 0)=false:=by rw[emp_size,r5];rfl
 obtain rfl | rfl:un=true∨un=false:=by cases un<;>simp
 ·skip
  have HU:=hid (show usedB d=true by rw[HU0.out];simp[*])
  go_enter Tryz.func157,Tryz.ntmps157
  go_upto_region 1 with (fail)
  rw[←HW.out]
  go_wp2_with (go_at_call 155;refine HEQ.out.mono ?_;rintro e w1 ⟨rfl,hb1⟩;have HB1:=hid (HB0.out.trans (hb1.mono HB0.out.size));obtain⟨c0,c1,c2,c3,c4,c5,c6,c7,c8,c9,c10,c16,c17⟩:=HC.out w1 hb1;clear hb1)
  refine bodyPost_ret (v:=.bool true) (by simp[results,Tryz.results157,go_sem]) rfl ?_
  exact⟨by rw[HU.out],HB0.out⟩
 obtain rfl | rfl:dn=true∨dn=false:=by cases dn<;>simp
 ·skip
  have HU:=hid (show usedB d=true by rw[HU0.out];simp[*])
  go_enter Tryz.func157,Tryz.ntmps157
  go_upto_region 1 with (fail)
  rw[←HW.out]
  go_wp2_with (go_at_call 155;refine HEQ.out.mono ?_;rintro e w1 ⟨rfl,hb1⟩;have HB1:=hid (HB0.out.trans (hb1.mono HB0.out.size));obtain⟨c0,c1,c2,c3,c4,c5,c6,c7,c8,c9,c10,c16,c17⟩:=HC.out w1 hb1;clear hb1)
  refine bodyPost_ret (v:=.bool true) (by simp[results,Tryz.results157,go_sem]) rfl ?_
  exact⟨by rw[HU.out],HB0.out⟩
 cases r8:u
 ·rw[r8] at HEQ HU0
  have HU:=hid (show usedB d=true by rw[HU0.out];simp[*])
  go_enter Tryz.func157,Tryz.ntmps157
  go_upto_region 1 with (fail)
  rw[←HW.out]
  go_wp2_with (go_at_call 155;refine HEQ.out.mono ?_;rintro e w1 ⟨rfl,hb1⟩;have HB1:=hid (HB0.out.trans (hb1.mono HB0.out.size));obtain⟨c0,c1,c2,c3,c4,c5,c6,c7,c8,c9,c10,c16,c17⟩:=HC.out w1 hb1;clear hb1)
  refine bodyPost_ret (v:=.bool true) (by simp[results,Tryz.results157,go_sem]) rfl ?_
  exact⟨by rw[HU.out],HB1.out⟩
 rw[r8] at HEQ HU0
 by_cases h9:se=0
 rotate_left
 ·have q9:(se==0)=false:=by simp[h9]
  have r9:(se != 0)=true:=by simp[h9]
  clear h9
  have HU:=hid (show usedB d=true by rw[HU0.out];simp[*])
  go_enter Tryz.func157,Tryz.ntmps157
  go_upto_region 1 with (fail)
  rw[←HW.out]
  go_wp2_with (go_at_call 155;refine HEQ.out.mono ?_;rintro e w1 ⟨rfl,hb1⟩;have HB1:=hid (HB0.out.trans (hb1.mono HB0.out.size));obtain⟨c0,c1,c2,c3,c4,c5,c6,c7,c8,c9,c10,c16,c17⟩:=HC.out w1 hb1;clear hb1)
  refine bodyPost_ret (v:=.bool true) (by simp[results,Tryz.results157,go_sem]) rfl ?_
  exact⟨by rw[HU.out],HB1.out⟩
 have q9:(se==0)=true:=by simp[h9]
 have r9:(se != 0)=false:=by simp[h9]
 clear h9
 by_cases h10:sn=0
 rotate_left
 ·have q10:(0:Int)<(sn:Int):=by omega
  have r10:(sn != 0)=true:=by simp[h10]
  have s10:0<sn:=by omega
  clear h10
  have HU:=hid (show usedB d=true by rw[HU0.out];simp[*])
  go_enter Tryz.func157,Tryz.ntmps157
  go_upto_region 1 with (fail)
  rw[←HW.out]
  go_wp2_with (go_at_call 155;refine HEQ.out.mono ?_;rintro e w1 ⟨rfl,hb1⟩;have HB1:=hid (HB0.out.trans (hb1.mono HB0.out.size));obtain⟨c0,c1,c2,c3,c4,c5,c6,c7,c8,c9,c10,c16,c17⟩:=HC.out w1 hb1;clear hb1)
  refine bodyPost_ret (v:=.bool true) (by simp[results,Tryz.results157,go_sem]) rfl ?_
  exact⟨by rw[HU.out],HB1.out⟩
 have q10:¬ (0:Int)<(sn:Int):=by omega
 have r10:(sn != 0)=false:=by simp[h10]
 have s10:¬ 0<sn:=by omega
 clear h10
 have HU:=hid (show usedB d=false by rw[HU0.out];simp[*])
 go_enter Tryz.func157,Tryz.ntmps157
 go_upto_region 1 with (fail)
 rw[←HW.out]
 go_wp2_with (go_at_call 155;refine HEQ.out.mono ?_;rintro e w1 ⟨rfl,hb1⟩;have HB1:=hid (HB0.out.trans (hb1.mono HB0.out.size));obtain⟨c0,c1,c2,c3,c4,c5,c6,c7,c8,c9,c10,c16,c17⟩:=HC.out w1 hb1;clear hb1)
 refine bodyPost_ret (v:=.bool false) (by simp[results,Tryz.results157,go_sem]) rfl ?_
 exact⟨by rw[HU.out],HB1.out⟩
end
end Go.Proofs.YtmgpghoamapfgaaGreatDoor
