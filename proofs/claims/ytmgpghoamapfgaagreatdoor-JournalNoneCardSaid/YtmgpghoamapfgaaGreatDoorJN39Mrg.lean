/-
  journal.forms' functions that write an entry of each kind, as JLaw's wrJ says. Conditions: the block holds a writer; the entry can be read as data, its texts are not longer than 1000000 bytes; Tabs, ZTab.
-/
import Derived.Test.YtmgpghoamapfgaaGreatDoorJN36Mrg
import Derived.Test.YtmgpghoamapfgaaGreatDoorJN38Mrg
namespace Go.Proofs.YtmgpghoamapfgaaGreatDoor
set_option linter.unusedVariables false
set_option maxRecDepth 100000
set_option maxHeartbeats 16000000
set_option linter.unusedSimpArgs false
open Go Go.RowKit Go.Shelf
structure WAt (B b:Nat) (w0:World) (J:JW) (w:World):Prop where
 j:IsJw JT B b J w
 l:Below B w0 w
 o:Lib.OthersKept 5 (some b) w0 w
 s:B≤w.heap.size
theorem WAt.ext {B b:Nat} {w0 w w':World} {J:JW} (h:WAt B b w0 J w) (hb:Below w.heap.size w w'):WAt B b w0 J w' :=
 ⟨h.j.ext hb,h.l.trans (hb.mono h.s),h.o.trans (others_extJ hb),Nat.le_trans h.s hb.size⟩
theorem WAt.post {B b:Nat} {w0 w w':World} {J J':JW} {v:Value} {e:Ending} (h:WAt B b w0 J w) (hp:JPost JT B b J' v w e w'):e=.returned v∧WAt B b w0 J' w' :=
 ⟨hp.1,hp.2.1,h.l.trans hp.2.2.1,h.o.trans hp.2.2.2,Nat.le_trans h.s hp.2.2.1.size⟩
theorem WAt.fin {B b:Nat} {w w0 w':World} {J:JW} (h:WAt B b w0 J w') (hb0:Below w.heap.size w w0) (hBw:B≤w.heap.size):JPost JT B b J (.tuple #[]) w (.returned (.tuple #[])) w' :=
 ⟨rfl,h.j,(hb0.mono hBw).trans h.l,(others_extJ hb0).trans h.o⟩
theorem WAt.text {B b:Nat} {w0 w:World} {J:JW} (h:WAt B b w0 J w) (s:ByteArray) (hl:J.b.length+s.size≤900000000000) :
 Calls Tryz.prog 161 #[.pointer (some ⟨b,0,none⟩),.string s] w fun e w'=>e=.returned (.tuple #[])∧WAt B b w0 (J.text s) w' :=
 (wText_call B b J s w h.j hl h.s).mono fun e w' hp=>h.post hp
theorem WAt.fail {B b:Nat} {w0 w:World} {J:JW} (h:WAt B b w0 J w) (x:Int) :
 Calls Tryz.prog 159 #[.pointer (some ⟨b,0,none⟩),.int .i64 x] w fun e w'=>e=.returned (.tuple #[])∧WAt B b w0 (J.fail x) w' :=
 (wFail_call B b J x w h.j).mono fun e w' hp=>h.post hp
theorem WAt.nums {B b:Nat} {w0 w:World} {J:JW} (h:WAt B b w0 J w) (l:List Int) (hI:∀x∈l,I64 x) (hl:J.b.length+9 * l.length≤1000000000000) :
 Calls Tryz.prog 88 #[.pointer (some ⟨b,0,none⟩),.slice (some ⟨w.heap.size,0,none⟩) l.length l.length] (w.alloc (.cells (l.map (Value.int .i64)).toArray 3)) fun e w'=>e=.returned (.tuple #[])∧WAt B b w0 (J.nums l) w':=by
 have h1:=h.ext ((Below.refl _ w).alloc (Nat.le_refl _) (.cells (l.map (Value.int .i64)).toArray 3))
 exact(wNums_call B b w.heap.size J l _ h1.j hI (heap_alloc_new w _) (by have:=h.j.lt;omega) hl h1.s).mono fun e w' hp=>h1.post hp
theorem text_len (w:JW) (s:ByteArray):(w.text s).b.length≤w.b.length+9+s.size:=by
 show((w.num s.size).b++s.data.toList).length≤_
 rw[List.length_append]
 have:=num_len w s.size
 have h2:s.data.toList.length=s.size:=Array.length_toList
 omega
theorem stampR_eq (d:St):stampR d=.tuple #[.string (stampTE d).1,.int .i64 (stampTE d).2]:=by
 unfold stampR stampTE
 split<;>rfl
section
attribute [-go_sem] loadCellsFrom storeCells
attribute [local go_sem] lcf0 lcf1 lcf2 lcf3 lcf4 lcf5 stc0 stc1
theorem flags_call (c:EnC) (w:World):Calls Tryz.prog 169 #[c.v] w fun e w'=>e=.returned (.int .i64 (flgN c.un c.dn))∧Below w.heap.size w w':=by
 obtain⟨k,ti,nu,ve,ca,nm,nd,tx,un,dn,⟨bk,bi,bs,bt,bla,bll,blc,bfa,bfl,bfc⟩,⟨se,sa,sn,scc⟩⟩:=c
 have hb0:=(Below.refl w.heap.size w).alloc (Nat.le_refl _) (.cells #[.int .i64 k,.int .i64 ti,.int .i64 nu,.int .i64 ve,.int .i64 ca,.string nm,.string nd,.string tx,.bool un,.bool dn,.int .i64 bk,.int .i64 bi,.int .i64 bs,.string bt,.slice bla bll blc,.slice bfa bfl bfc,.int .i64 se,.slice sa sn scc] 41)
 have HB0:=hid hb0
 clear hb0
 dsimp only[EnC.v]
 cases un<;>cases dn<;>(
  go_enter Tryz.func169,Tryz.ntmps169
  go_wp2
  go_ret
  exact⟨rfl,HB0.out⟩)
theorem stampTE_size (d:St) (h1:I64 d.e) (h2:∀x∈d.ps,I64 x):(stampTE d).1.size≤20000:=by
 unfold stampTE
 split
 ·rename_i h;exact stampT_size d h1 h2 (stampE_len h)
 ·exact Nat.zero_le _
theorem wrA_call (B b:Nat) (j:JW) (c:EnC) (d:En) (w:World) (h:IsJw JT B b j w) (hd:IsEn (· < B) w c d) (hz:d.nm.size≤1000000∧d.nd.size≤1000000∧d.tx.size≤1000000) (hj:j.b.length≤1000) (hBw:B≤w.heap.size) :
 Calls Tryz.prog 164 #[.pointer (some ⟨b,0,none⟩),c.v] w (JPost JT B b (((j.text d.nm).nums [d.nu,d.ve]).text d.tx) (.tuple #[]) w):=by
 obtain⟨dk,dti,dnu,dve,dca,dnm,dnd,dtx,dun,ddn,dbd,dst⟩:=d
 obtain⟨hk,_,hti,_,hnu,rnu,hve,rve,hca,rca,hnm,znm,hnd,znd,htx,ztx,hun,hdn,hbd,hst⟩:=hd
 obtain⟨k,ti,nu,ve,ca,nm,nd,tx,un,dn,cbd,cst⟩:=c
 dsimp only at hk hti hnu hve hca hnm hnd htx hun hdn hbd hst rnu rve rca znm znd ztx hz ⊢
 subst hk hti hnu hve hca hnm hnd htx hun hdn
 obtain⟨N,hN⟩:∃N,N=w.heap.size:=⟨_,rfl⟩
 obtain⟨w0,hw0⟩:∃w0,w0=w.alloc (.cells (EnC.ar ⟨k,ti,nu,ve,ca,nm,nd,tx,un,dn,cbd,cst⟩) 41):=⟨_,rfl⟩
 have h0:w0.heap[N]?=some (.cells (EnC.ar ⟨k,ti,nu,ve,ca,nm,nd,tx,un,dn,cbd,cst⟩) 41):=by rw[hw0,hN];exact heap_alloc_new w _
 have hb0:Below w.heap.size w w0:=by rw[hw0];exact(Below.refl _ w).alloc (Nat.le_refl _) _
 have hbN:b≠N:=by have:=h.lt;omega
 have ha:WAt B b w0 j w0:=⟨h.ext hb0,Below.refl _ _,Lib.OthersKept.refl _ _ _,Nat.le_trans hBw hb0.size⟩
 obtain⟨bk,bi,bs,bt,bla,bll,blc,bfa,bfl,bfc⟩:=cbd
 obtain⟨se,sa,sn,scc⟩:=cst
 dsimp only[EnC.v,EnC.ar,EnC.cs,VC.v,SC.v] at *
 have HC:=hid (fun (J:JW) (w':World) (h:WAt B b w0 J w')=>have q:=h.o N _ h0 (fun e=>hbN (by injection e with e;exact e.symm)) (fun c fz e=>by injection e with _ e2 _;exact absurd e2 (by decide))
  (show w'.cell? ⟨N,0,none⟩=some (.int .i64 k)∧w'.cell? ⟨N,1,none⟩=some (.int .i64 ti)∧w'.cell? ⟨N,2,none⟩=some (.int .i64 nu)∧w'.cell? ⟨N,3,none⟩=some (.int .i64 ve)∧w'.cell? ⟨N,4,none⟩=some (.int .i64 ca)∧w'.cell? ⟨N,5,none⟩=some (.string nm)∧w'.cell? ⟨N,6,none⟩=some (.string nd)∧w'.cell? ⟨N,7,none⟩=some (.string tx)∧w'.cell? ⟨N,8,none⟩=some (.bool un)∧w'.cell? ⟨N,9,none⟩=some (.bool dn)∧(loadCellsFrom ⟨N,10,none⟩ 0 6 #[]).run Tryz.prog w'=.ok #[.int .i64 bk,.int .i64 bi,.int .i64 bs,.string bt,.slice bla bll blc,.slice bfa bfl bfc] w'∧w'.cell? ⟨N,16,none⟩=some (.int .i64 se)∧w'.cell? ⟨N,17,none⟩=some (.slice sa sn scc)∧(loadCellsFrom ⟨N,0,none⟩ 0 18 #[]).run Tryz.prog w'=.ok #[.int .i64 k,.int .i64 ti,.int .i64 nu,.int .i64 ve,.int .i64 ca,.string nm,.string nd,.string tx,.bool un,.bool dn,.int .i64 bk,.int .i64 bi,.int .i64 bs,.string bt,.slice bla bll blc,.slice bfa bfl bfc,.int .i64 se,.slice sa sn scc] w' from⟨cellOf q 0,cellOf q 1,cellOf q 2,cellOf q 3,cellOf q 4,cellOf q 5,cellOf q 6,cellOf q 7,cellOf q 8,cellOf q 9,ldAtJ q rfl rfl rfl rfl rfl rfl,cellOf q 16,cellOf q 17,ldEn (c:=⟨k,ti,nu,ve,ca,nm,nd,tx,un,dn,⟨bk,bi,bs,bt,bla,bll,blc,bfa,bfl,bfc⟩,⟨se,sa,sn,scc⟩⟩) (fr:=(0,0)) q⟩))
 have HJ0:=hid ha
 have HB0:=hid hb0
 have HBW:=hid hBw
 have HW:=hid hw0
 have HN:=hid hN
 have HZ:=hid hz
 have HJL:=hid hj
 have FIN:=hid (fun (J:JW) (w':World) (h:WAt B b w0 J w')=>(show JPost JT B b J (.tuple #[]) w (.returned (.tuple #[])) w' from h.fin hb0 hBw))
 obtain⟨x0,x1,x2,x3,x4,x5,x6,x7,x8,x9,x10,x16,x17,x18⟩:=HC.out _ w0 ha
 clear ha hb0 hw0 h0 hz hj h hbN hbd hst znm znd ztx
 clear hN
 go_enter Tryz.func164,Tryz.ntmps164
 go_upto_region 1 with (fail)
 rw[←HW.out,←HN.out]
 go_wp2_with (first
  | (go_at_call 161;go_loud (refine(H2.out.text tx (by have h1:=HZ.out;have h2:=HJL.out;have h3:=text_len j nm;have h4:=nums_len [nu,ve] (j.text nm);simp only[List.length_cons,List.length_nil] at h4;omega)).mono ?_);rintro e w3 ⟨rfl,h3⟩;have H3:=hid h3;obtain⟨c0,c1,c2,c3,c4,c5,c6,c7,c8,c9,c10,c16,c17,c18⟩:=HC.out _ w3 h3;clear h3)
  | (go_at_call 88;go_loud (refine(H1.out.nums [nu,ve] (by intro x hx;simp only[List.mem_cons,List.not_mem_nil,or_false] at hx;rcases hx with rfl | rfl<;>assumption) (by have h1:=HZ.out;have h2:=HJL.out;have h3:=text_len j nm;simp only[List.length_cons,List.length_nil];omega)).mono ?_);rintro e w2 ⟨rfl,h2⟩;have H2:=hid h2;obtain⟨b0,b1,b2,b3,b4,b5,b6,b7,b8,b9,b10,b16,b17,b18⟩:=HC.out _ w2 h2;clear h2)
  | (go_at_call 161;go_loud (refine(HJ0.out.text nm (by have h1:=HZ.out;have h2:=HJL.out;omega)).mono ?_);rintro e w1 ⟨rfl,h1⟩;have H1:=hid h1;obtain⟨a0,a1,a2,a3,a4,a5,a6,a7,a8,a9,a10,a16,a17,a18⟩:=HC.out _ w1 h1;clear h1))
 refine bodyPost_end (results_none rfl _ _ _) rfl ?_
 exact FIN.out _ _ H3.out
theorem wrU_call (B b:Nat) (j:JW) (c:EnC) (d:En) (w:World) (h:IsJw JT B b j w) (hd:IsEn (· < B) w c d) (hz:d.nm.size≤1000000∧d.nd.size≤1000000∧d.tx.size≤1000000) (hj:j.b.length≤1000) (hBw:B≤w.heap.size) :
 Calls Tryz.prog 171 #[.pointer (some ⟨b,0,none⟩),c.v] w (JPost JT B b (j.nums [d.ve]) (.tuple #[]) w):=by
 obtain⟨dk,dti,dnu,dve,dca,dnm,dnd,dtx,dun,ddn,dbd,dst⟩:=d
 obtain⟨hk,_,hti,_,hnu,rnu,hve,rve,hca,rca,hnm,znm,hnd,znd,htx,ztx,hun,hdn,hbd,hst⟩:=hd
 obtain⟨k,ti,nu,ve,ca,nm,nd,tx,un,dn,cbd,cst⟩:=c
 dsimp only at hk hti hnu hve hca hnm hnd htx hun hdn hbd hst rnu rve rca znm znd ztx hz ⊢
 subst hk hti hnu hve hca hnm hnd htx hun hdn
 obtain⟨N,hN⟩:∃N,N=w.heap.size:=⟨_,rfl⟩
 obtain⟨w0,hw0⟩:∃w0,w0=w.alloc (.cells (EnC.ar ⟨k,ti,nu,ve,ca,nm,nd,tx,un,dn,cbd,cst⟩) 41):=⟨_,rfl⟩
 have h0:w0.heap[N]?=some (.cells (EnC.ar ⟨k,ti,nu,ve,ca,nm,nd,tx,un,dn,cbd,cst⟩) 41):=by rw[hw0,hN];exact heap_alloc_new w _
 have hb0:Below w.heap.size w w0:=by rw[hw0];exact(Below.refl _ w).alloc (Nat.le_refl _) _
 have hbN:b≠N:=by have:=h.lt;omega
 have ha:WAt B b w0 j w0:=⟨h.ext hb0,Below.refl _ _,Lib.OthersKept.refl _ _ _,Nat.le_trans hBw hb0.size⟩
 obtain⟨bk,bi,bs,bt,bla,bll,blc,bfa,bfl,bfc⟩:=cbd
 obtain⟨se,sa,sn,scc⟩:=cst
 dsimp only[EnC.v,EnC.ar,EnC.cs,VC.v,SC.v] at *
 have HC:=hid (fun (J:JW) (w':World) (h:WAt B b w0 J w')=>have q:=h.o N _ h0 (fun e=>hbN (by injection e with e;exact e.symm)) (fun c fz e=>by injection e with _ e2 _;exact absurd e2 (by decide))
  (show w'.cell? ⟨N,0,none⟩=some (.int .i64 k)∧w'.cell? ⟨N,1,none⟩=some (.int .i64 ti)∧w'.cell? ⟨N,2,none⟩=some (.int .i64 nu)∧w'.cell? ⟨N,3,none⟩=some (.int .i64 ve)∧w'.cell? ⟨N,4,none⟩=some (.int .i64 ca)∧w'.cell? ⟨N,5,none⟩=some (.string nm)∧w'.cell? ⟨N,6,none⟩=some (.string nd)∧w'.cell? ⟨N,7,none⟩=some (.string tx)∧w'.cell? ⟨N,8,none⟩=some (.bool un)∧w'.cell? ⟨N,9,none⟩=some (.bool dn)∧(loadCellsFrom ⟨N,10,none⟩ 0 6 #[]).run Tryz.prog w'=.ok #[.int .i64 bk,.int .i64 bi,.int .i64 bs,.string bt,.slice bla bll blc,.slice bfa bfl bfc] w'∧w'.cell? ⟨N,16,none⟩=some (.int .i64 se)∧w'.cell? ⟨N,17,none⟩=some (.slice sa sn scc)∧(loadCellsFrom ⟨N,0,none⟩ 0 18 #[]).run Tryz.prog w'=.ok #[.int .i64 k,.int .i64 ti,.int .i64 nu,.int .i64 ve,.int .i64 ca,.string nm,.string nd,.string tx,.bool un,.bool dn,.int .i64 bk,.int .i64 bi,.int .i64 bs,.string bt,.slice bla bll blc,.slice bfa bfl bfc,.int .i64 se,.slice sa sn scc] w' from⟨cellOf q 0,cellOf q 1,cellOf q 2,cellOf q 3,cellOf q 4,cellOf q 5,cellOf q 6,cellOf q 7,cellOf q 8,cellOf q 9,ldAtJ q rfl rfl rfl rfl rfl rfl,cellOf q 16,cellOf q 17,ldEn (c:=⟨k,ti,nu,ve,ca,nm,nd,tx,un,dn,⟨bk,bi,bs,bt,bla,bll,blc,bfa,bfl,bfc⟩,⟨se,sa,sn,scc⟩⟩) (fr:=(0,0)) q⟩))
 have HJ0:=hid ha
 have HB0:=hid hb0
 have HBW:=hid hBw
 have HW:=hid hw0
 have HN:=hid hN
 have HZ:=hid hz
 have HJL:=hid hj
 have FIN:=hid (fun (J:JW) (w':World) (h:WAt B b w0 J w')=>(show JPost JT B b J (.tuple #[]) w (.returned (.tuple #[])) w' from h.fin hb0 hBw))
 obtain⟨x0,x1,x2,x3,x4,x5,x6,x7,x8,x9,x10,x16,x17,x18⟩:=HC.out _ w0 ha
 clear ha hb0 hw0 h0 hz hj h hbN hbd hst znm znd ztx
 clear hN
 go_enter Tryz.func171,Tryz.ntmps171
 go_upto_region 1 with (fail)
 rw[←HW.out,←HN.out]
 go_wp2_with (first
  | (go_at_call 88;go_loud (refine(HJ0.out.nums [ve] (by intro x hx;simp only[List.mem_cons,List.not_mem_nil,or_false] at hx;subst hx;assumption) (by have h2:=HJL.out;simp only[List.length_cons,List.length_nil];omega)).mono ?_);rintro e w1 ⟨rfl,h1⟩;have H1:=hid h1;obtain⟨a0,a1,a2,a3,a4,a5,a6,a7,a8,a9,a10,a16,a17,a18⟩:=HC.out _ w1 h1;clear h1))
 refine bodyPost_end (results_none rfl _ _ _) rfl ?_
 exact FIN.out _ _ H1.out
theorem wrT_call (B b:Nat) (j:JW) (c:EnC) (d:En) (w:World) (h:IsJw JT B b j w) (hd:IsEn (· < B) w c d) (hz:d.nm.size≤1000000∧d.nd.size≤1000000∧d.tx.size≤1000000) (hj:j.b.length≤1000) (hBw:B≤w.heap.size) :
 Calls Tryz.prog 166 #[.pointer (some ⟨b,0,none⟩),c.v] w (JPost JT B b (j) (.tuple #[]) w):=by
 obtain⟨dk,dti,dnu,dve,dca,dnm,dnd,dtx,dun,ddn,dbd,dst⟩:=d
 obtain⟨hk,_,hti,_,hnu,rnu,hve,rve,hca,rca,hnm,znm,hnd,znd,htx,ztx,hun,hdn,hbd,hst⟩:=hd
 obtain⟨k,ti,nu,ve,ca,nm,nd,tx,un,dn,cbd,cst⟩:=c
 dsimp only at hk hti hnu hve hca hnm hnd htx hun hdn hbd hst rnu rve rca znm znd ztx hz ⊢
 subst hk hti hnu hve hca hnm hnd htx hun hdn
 obtain⟨N,hN⟩:∃N,N=w.heap.size:=⟨_,rfl⟩
 obtain⟨w0,hw0⟩:∃w0,w0=w.alloc (.cells (EnC.ar ⟨k,ti,nu,ve,ca,nm,nd,tx,un,dn,cbd,cst⟩) 41):=⟨_,rfl⟩
 have h0:w0.heap[N]?=some (.cells (EnC.ar ⟨k,ti,nu,ve,ca,nm,nd,tx,un,dn,cbd,cst⟩) 41):=by rw[hw0,hN];exact heap_alloc_new w _
 have hb0:Below w.heap.size w w0:=by rw[hw0];exact(Below.refl _ w).alloc (Nat.le_refl _) _
 have hbN:b≠N:=by have:=h.lt;omega
 have ha:WAt B b w0 j w0:=⟨h.ext hb0,Below.refl _ _,Lib.OthersKept.refl _ _ _,Nat.le_trans hBw hb0.size⟩
 obtain⟨bk,bi,bs,bt,bla,bll,blc,bfa,bfl,bfc⟩:=cbd
 obtain⟨se,sa,sn,scc⟩:=cst
 dsimp only[EnC.v,EnC.ar,EnC.cs,VC.v,SC.v] at *
 have HC:=hid (fun (J:JW) (w':World) (h:WAt B b w0 J w')=>have q:=h.o N _ h0 (fun e=>hbN (by injection e with e;exact e.symm)) (fun c fz e=>by injection e with _ e2 _;exact absurd e2 (by decide))
  (show w'.cell? ⟨N,0,none⟩=some (.int .i64 k)∧w'.cell? ⟨N,1,none⟩=some (.int .i64 ti)∧w'.cell? ⟨N,2,none⟩=some (.int .i64 nu)∧w'.cell? ⟨N,3,none⟩=some (.int .i64 ve)∧w'.cell? ⟨N,4,none⟩=some (.int .i64 ca)∧w'.cell? ⟨N,5,none⟩=some (.string nm)∧w'.cell? ⟨N,6,none⟩=some (.string nd)∧w'.cell? ⟨N,7,none⟩=some (.string tx)∧w'.cell? ⟨N,8,none⟩=some (.bool un)∧w'.cell? ⟨N,9,none⟩=some (.bool dn)∧(loadCellsFrom ⟨N,10,none⟩ 0 6 #[]).run Tryz.prog w'=.ok #[.int .i64 bk,.int .i64 bi,.int .i64 bs,.string bt,.slice bla bll blc,.slice bfa bfl bfc] w'∧w'.cell? ⟨N,16,none⟩=some (.int .i64 se)∧w'.cell? ⟨N,17,none⟩=some (.slice sa sn scc)∧(loadCellsFrom ⟨N,0,none⟩ 0 18 #[]).run Tryz.prog w'=.ok #[.int .i64 k,.int .i64 ti,.int .i64 nu,.int .i64 ve,.int .i64 ca,.string nm,.string nd,.string tx,.bool un,.bool dn,.int .i64 bk,.int .i64 bi,.int .i64 bs,.string bt,.slice bla bll blc,.slice bfa bfl bfc,.int .i64 se,.slice sa sn scc] w' from⟨cellOf q 0,cellOf q 1,cellOf q 2,cellOf q 3,cellOf q 4,cellOf q 5,cellOf q 6,cellOf q 7,cellOf q 8,cellOf q 9,ldAtJ q rfl rfl rfl rfl rfl rfl,cellOf q 16,cellOf q 17,ldEn (c:=⟨k,ti,nu,ve,ca,nm,nd,tx,un,dn,⟨bk,bi,bs,bt,bla,bll,blc,bfa,bfl,bfc⟩,⟨se,sa,sn,scc⟩⟩) (fr:=(0,0)) q⟩))
 have HJ0:=hid ha
 have HB0:=hid hb0
 have HBW:=hid hBw
 have HW:=hid hw0
 have HN:=hid hN
 have HZ:=hid hz
 have HJL:=hid hj
 have FIN:=hid (fun (J:JW) (w':World) (h:WAt B b w0 J w')=>(show JPost JT B b J (.tuple #[]) w (.returned (.tuple #[])) w' from h.fin hb0 hBw))
 obtain⟨x0,x1,x2,x3,x4,x5,x6,x7,x8,x9,x10,x16,x17,x18⟩:=HC.out _ w0 ha
 clear ha hb0 hw0 h0 hz hj h hbN hbd hst znm znd ztx
 clear hN
 go_enter Tryz.func166,Tryz.ntmps166
 go_wp2
 rw[←HW.out]
 refine bodyPost_end (results_none rfl _ _ _) rfl ?_
 exact FIN.out _ _ HJ0.out
theorem wrL_call (B b:Nat) (j:JW) (c:EnC) (d:En) (w:World) (h:IsJw JT B b j w) (hd:IsEn (· < B) w c d) (hz:d.nm.size≤1000000∧d.nd.size≤1000000∧d.tx.size≤1000000) (hj:j.b.length≤1000) (hBw:B≤w.heap.size) (hT:Tabs w) :
 Calls Tryz.prog 160 #[.pointer (some ⟨b,0,none⟩),c.v] w (JPost JT B b ((j.fail (stampTE d.st).2).text (stampTE d.st).1) (.tuple #[]) w):=by
 obtain⟨dk,dti,dnu,dve,dca,dnm,dnd,dtx,dun,ddn,dbd,dst⟩:=d
 obtain⟨hk,_,hti,_,hnu,rnu,hve,rve,hca,rca,hnm,znm,hnd,znd,htx,ztx,hun,hdn,hbd,hst⟩:=hd
 obtain⟨k,ti,nu,ve,ca,nm,nd,tx,un,dn,cbd,cst⟩:=c
 dsimp only at hk hti hnu hve hca hnm hnd htx hun hdn hbd hst rnu rve rca znm znd ztx hz ⊢
 subst hk hti hnu hve hca hnm hnd htx hun hdn
 obtain⟨N,hN⟩:∃N,N=w.heap.size:=⟨_,rfl⟩
 obtain⟨w0,hw0⟩:∃w0,w0=w.alloc (.cells (EnC.ar ⟨k,ti,nu,ve,ca,nm,nd,tx,un,dn,cbd,cst⟩) 41):=⟨_,rfl⟩
 have h0:w0.heap[N]?=some (.cells (EnC.ar ⟨k,ti,nu,ve,ca,nm,nd,tx,un,dn,cbd,cst⟩) 41):=by rw[hw0,hN];exact heap_alloc_new w _
 have hb0:Below w.heap.size w w0:=by rw[hw0];exact(Below.refl _ w).alloc (Nat.le_refl _) _
 have hbN:b≠N:=by have:=h.lt;omega
 have ha:WAt B b w0 j w0:=⟨h.ext hb0,Below.refl _ _,Lib.OthersKept.refl _ _ _,Nat.le_trans hBw hb0.size⟩
 have hte:=stampText_call cst dst w0 (hst.same fun i hi=>⟨Nat.lt_of_lt_of_le hi (Nat.le_trans hBw hb0.size),hb0.block i (Nat.lt_of_lt_of_le hi hBw)⟩) (hT.below hb0)
 rw[stampR_eq] at hte
 have hq2:=stampTE_size dst hst.re hst.ps.rng
 obtain⟨q,hq⟩:∃q,q=stampTE dst:=⟨_,rfl⟩
 rw[←hq] at hte hq2 ⊢
 have HTE:=hid hte
 have HQ2:=hid hq2
 clear hte hq2 hq
 obtain⟨bk,bi,bs,bt,bla,bll,blc,bfa,bfl,bfc⟩:=cbd
 obtain⟨se,sa,sn,scc⟩:=cst
 dsimp only[EnC.v,EnC.ar,EnC.cs,VC.v,SC.v] at *
 have HC:=hid (fun (J:JW) (w':World) (h:WAt B b w0 J w')=>have q:=h.o N _ h0 (fun e=>hbN (by injection e with e;exact e.symm)) (fun c fz e=>by injection e with _ e2 _;exact absurd e2 (by decide))
  (show w'.cell? ⟨N,0,none⟩=some (.int .i64 k)∧w'.cell? ⟨N,1,none⟩=some (.int .i64 ti)∧w'.cell? ⟨N,2,none⟩=some (.int .i64 nu)∧w'.cell? ⟨N,3,none⟩=some (.int .i64 ve)∧w'.cell? ⟨N,4,none⟩=some (.int .i64 ca)∧w'.cell? ⟨N,5,none⟩=some (.string nm)∧w'.cell? ⟨N,6,none⟩=some (.string nd)∧w'.cell? ⟨N,7,none⟩=some (.string tx)∧w'.cell? ⟨N,8,none⟩=some (.bool un)∧w'.cell? ⟨N,9,none⟩=some (.bool dn)∧(loadCellsFrom ⟨N,10,none⟩ 0 6 #[]).run Tryz.prog w'=.ok #[.int .i64 bk,.int .i64 bi,.int .i64 bs,.string bt,.slice bla bll blc,.slice bfa bfl bfc] w'∧w'.cell? ⟨N,16,none⟩=some (.int .i64 se)∧w'.cell? ⟨N,17,none⟩=some (.slice sa sn scc)∧(loadCellsFrom ⟨N,0,none⟩ 0 18 #[]).run Tryz.prog w'=.ok #[.int .i64 k,.int .i64 ti,.int .i64 nu,.int .i64 ve,.int .i64 ca,.string nm,.string nd,.string tx,.bool un,.bool dn,.int .i64 bk,.int .i64 bi,.int .i64 bs,.string bt,.slice bla bll blc,.slice bfa bfl bfc,.int .i64 se,.slice sa sn scc] w' from⟨cellOf q 0,cellOf q 1,cellOf q 2,cellOf q 3,cellOf q 4,cellOf q 5,cellOf q 6,cellOf q 7,cellOf q 8,cellOf q 9,ldAtJ q rfl rfl rfl rfl rfl rfl,cellOf q 16,cellOf q 17,ldEn (c:=⟨k,ti,nu,ve,ca,nm,nd,tx,un,dn,⟨bk,bi,bs,bt,bla,bll,blc,bfa,bfl,bfc⟩,⟨se,sa,sn,scc⟩⟩) (fr:=(0,0)) q⟩))
 have HJ0:=hid ha
 have HB0:=hid hb0
 have HBW:=hid hBw
 have HW:=hid hw0
 have HN:=hid hN
 have HZ:=hid hz
 have HJL:=hid hj
 have FIN:=hid (fun (J:JW) (w':World) (h:WAt B b w0 J w')=>(show JPost JT B b J (.tuple #[]) w (.returned (.tuple #[])) w' from h.fin hb0 hBw))
 obtain⟨x0,x1,x2,x3,x4,x5,x6,x7,x8,x9,x10,x16,x17,x18⟩:=HC.out _ w0 ha
 clear ha hb0 hw0 h0 hz hj h hbN hbd hst znm znd ztx
 clear hN
 go_enter Tryz.func160,Tryz.ntmps160
 go_upto_region 1 with (fail)
 rw[←HW.out,←HN.out]
 go_wp2_with (first
  | (go_at_call 161;go_loud (refine(H2.out.text q.1 (by have h1:=HQ2.out;have h2:=HJL.out;show j.b.length+_≤_;omega)).mono ?_);rintro e w3 ⟨rfl,h3⟩;have H3:=hid h3;obtain⟨c0,c1,c2,c3,c4,c5,c6,c7,c8,c9,c10,c16,c17,c18⟩:=HC.out _ w3 h3;clear h3)
  | (go_at_call 159;go_loud (refine(H1.out.fail q.2).mono ?_);rintro e w2 ⟨rfl,h2⟩;have H2:=hid h2;obtain⟨b0,b1,b2,b3,b4,b5,b6,b7,b8,b9,b10,b16,b17,b18⟩:=HC.out _ w2 h2;clear h2)
  | (go_at_call 76;go_loud (refine HTE.out.mono ?_);rintro e w1 ⟨rfl,h1⟩;have H1:=hid (HJ0.out.ext h1);obtain⟨a0,a1,a2,a3,a4,a5,a6,a7,a8,a9,a10,a16,a17,a18⟩:=HC.out _ w1 H1.out;clear h1))
 refine bodyPost_end (results_none rfl _ _ _) rfl ?_
 exact FIN.out _ _ H3.out
theorem wrR_call (B b:Nat) (j:JW) (c:EnC) (d:En) (w:World) (h:IsJw JT B b j w) (hd:IsEn (· < B) w c d) (hz:d.nm.size≤1000000∧d.nd.size≤1000000∧d.tx.size≤1000000) (hj:j.b.length≤1000) (hBw:B≤w.heap.size) (hT:Tabs w) (hZT:ZTab w) :
 Calls Tryz.prog 168 #[.pointer (some ⟨b,0,none⟩),c.v] w (JPost JT B b ((((((j.fail (litF d.bd).2).text d.nm).nums [d.nu]).text d.nd).nums [d.ca,flgN d.un d.dn]).text (litF d.bd).1) (.tuple #[]) w):=by
 obtain⟨dk,dti,dnu,dve,dca,dnm,dnd,dtx,dun,ddn,dbd,dst⟩:=d
 obtain⟨hk,_,hti,_,hnu,rnu,hve,rve,hca,rca,hnm,znm,hnd,znd,htx,ztx,hun,hdn,hbd,hst⟩:=hd
 obtain⟨k,ti,nu,ve,ca,nm,nd,tx,un,dn,cbd,cst⟩:=c
 dsimp only at hk hti hnu hve hca hnm hnd htx hun hdn hbd hst rnu rve rca znm znd ztx hz ⊢
 subst hk hti hnu hve hca hnm hnd htx hun hdn
 obtain⟨N,hN⟩:∃N,N=w.heap.size:=⟨_,rfl⟩
 obtain⟨w0,hw0⟩:∃w0,w0=w.alloc (.cells (EnC.ar ⟨k,ti,nu,ve,ca,nm,nd,tx,un,dn,cbd,cst⟩) 41):=⟨_,rfl⟩
 have h0:w0.heap[N]?=some (.cells (EnC.ar ⟨k,ti,nu,ve,ca,nm,nd,tx,un,dn,cbd,cst⟩) 41):=by rw[hw0,hN];exact heap_alloc_new w _
 have hb0:Below w.heap.size w w0:=by rw[hw0];exact(Below.refl _ w).alloc (Nat.le_refl _) _
 have hbN:b≠N:=by have:=h.lt;omega
 have ha:WAt B b w0 j w0:=⟨h.ext hb0,Below.refl _ _,Lib.OthersKept.refl _ _ _,Nat.le_trans hBw hb0.size⟩
 have hte:=litG_call cbd dbd w0 (hbd.same fun i hi=>⟨Nat.lt_of_lt_of_le hi (Nat.le_trans hBw hb0.size),hb0.block i (Nat.lt_of_lt_of_le hi hBw)⟩) (hT.below hb0) (hZT.below hb0)
 have hq2:=litF_size dbd
 obtain⟨q,hq⟩:∃q,q=litF dbd:=⟨_,rfl⟩
 rw[←hq] at hte hq2 ⊢
 have HTE:=hid hte
 have HQ2:=hid hq2
 clear hte hq2 hq
 obtain⟨fg,hfg⟩:∃fg,fg=flgN un dn:=⟨_,rfl⟩
 have hfi:I64 fg:=by rw[hfg];cases un<;>cases dn<;>simp[flgN,I64]
 have hfc:=fun w'=>flags_call ⟨k,ti,nu,ve,ca,nm,nd,tx,un,dn,cbd,cst⟩ w'
 dsimp only at hfc
 rw[←hfg] at hfc ⊢
 have HFC:=hid hfc
 clear hfg hfc
 obtain⟨bk,bi,bs,bt,bla,bll,blc,bfa,bfl,bfc⟩:=cbd
 obtain⟨se,sa,sn,scc⟩:=cst
 dsimp only[EnC.v,EnC.ar,EnC.cs,VC.v,SC.v] at *
 have HC:=hid (fun (J:JW) (w':World) (h:WAt B b w0 J w')=>have q:=h.o N _ h0 (fun e=>hbN (by injection e with e;exact e.symm)) (fun c fz e=>by injection e with _ e2 _;exact absurd e2 (by decide))
  (show w'.cell? ⟨N,0,none⟩=some (.int .i64 k)∧w'.cell? ⟨N,1,none⟩=some (.int .i64 ti)∧w'.cell? ⟨N,2,none⟩=some (.int .i64 nu)∧w'.cell? ⟨N,3,none⟩=some (.int .i64 ve)∧w'.cell? ⟨N,4,none⟩=some (.int .i64 ca)∧w'.cell? ⟨N,5,none⟩=some (.string nm)∧w'.cell? ⟨N,6,none⟩=some (.string nd)∧w'.cell? ⟨N,7,none⟩=some (.string tx)∧w'.cell? ⟨N,8,none⟩=some (.bool un)∧w'.cell? ⟨N,9,none⟩=some (.bool dn)∧(loadCellsFrom ⟨N,10,none⟩ 0 6 #[]).run Tryz.prog w'=.ok #[.int .i64 bk,.int .i64 bi,.int .i64 bs,.string bt,.slice bla bll blc,.slice bfa bfl bfc] w'∧w'.cell? ⟨N,16,none⟩=some (.int .i64 se)∧w'.cell? ⟨N,17,none⟩=some (.slice sa sn scc)∧(loadCellsFrom ⟨N,0,none⟩ 0 18 #[]).run Tryz.prog w'=.ok #[.int .i64 k,.int .i64 ti,.int .i64 nu,.int .i64 ve,.int .i64 ca,.string nm,.string nd,.string tx,.bool un,.bool dn,.int .i64 bk,.int .i64 bi,.int .i64 bs,.string bt,.slice bla bll blc,.slice bfa bfl bfc,.int .i64 se,.slice sa sn scc] w' from⟨cellOf q 0,cellOf q 1,cellOf q 2,cellOf q 3,cellOf q 4,cellOf q 5,cellOf q 6,cellOf q 7,cellOf q 8,cellOf q 9,ldAtJ q rfl rfl rfl rfl rfl rfl,cellOf q 16,cellOf q 17,ldEn (c:=⟨k,ti,nu,ve,ca,nm,nd,tx,un,dn,⟨bk,bi,bs,bt,bla,bll,blc,bfa,bfl,bfc⟩,⟨se,sa,sn,scc⟩⟩) (fr:=(0,0)) q⟩))
 have HJ0:=hid ha
 have HB0:=hid hb0
 have HBW:=hid hBw
 have HW:=hid hw0
 have HN:=hid hN
 have HZ:=hid hz
 have HJL:=hid hj
 have FIN:=hid (fun (J:JW) (w':World) (h:WAt B b w0 J w')=>(show JPost JT B b J (.tuple #[]) w (.returned (.tuple #[])) w' from h.fin hb0 hBw))
 obtain⟨x0,x1,x2,x3,x4,x5,x6,x7,x8,x9,x10,x16,x17,x18⟩:=HC.out _ w0 ha
 clear ha hb0 hw0 h0 hz hj h hbN hbd hst znm znd ztx
 clear hN
 go_enter Tryz.func168,Tryz.ntmps168
 go_upto_region 1 with (fail)
 rw[←HW.out,←HN.out]
 go_upto_region 6 with (first
  | (go_at_call 161;go_loud (refine(H4.out.text nd (by have h1:=HZ.out;have h2:=HJL.out;have h7:=HQ2.out;have h3:=text_len (j.fail q.2) nm;have h4:=nums_len [nu] ((j.fail q.2).text nm);have h5:=text_len (((j.fail q.2).text nm).nums [nu]) nd;have h6:=nums_len [ca,fg] ((((j.fail q.2).text nm).nums [nu]).text nd);have hj0:(j.fail q.2).b.length=j.b.length:=rfl;simp only[List.length_cons,List.length_nil] at h4 h6 ⊢;omega)).mono ?_);rintro e w5 ⟨rfl,h5⟩;have H5:=hid h5;obtain⟨e0,e1,e2,e3,e4,e5,e6,e7,e8,e9,e10,e16,e17,e18⟩:=HC.out _ w5 h5;clear h5)
  | (go_at_call 88;go_loud (refine(H3.out.nums [nu] (by intro x hx;simp only[List.mem_cons,List.not_mem_nil,or_false] at hx;subst hx;assumption) (by have h1:=HZ.out;have h2:=HJL.out;have h7:=HQ2.out;have h3:=text_len (j.fail q.2) nm;have h4:=nums_len [nu] ((j.fail q.2).text nm);have h5:=text_len (((j.fail q.2).text nm).nums [nu]) nd;have h6:=nums_len [ca,fg] ((((j.fail q.2).text nm).nums [nu]).text nd);have hj0:(j.fail q.2).b.length=j.b.length:=rfl;simp only[List.length_cons,List.length_nil] at h4 h6 ⊢;omega)).mono ?_);rintro e w4 ⟨rfl,h4⟩;have H4:=hid h4;obtain⟨d0,d1,d2,d3,d4,d5,d6,d7,d8,d9,d10,d16,d17,d18⟩:=HC.out _ w4 h4;clear h4)
  | (go_at_call 161;go_loud (refine(H2.out.text nm (by have h1:=HZ.out;have h2:=HJL.out;have h7:=HQ2.out;have h3:=text_len (j.fail q.2) nm;have h4:=nums_len [nu] ((j.fail q.2).text nm);have h5:=text_len (((j.fail q.2).text nm).nums [nu]) nd;have h6:=nums_len [ca,fg] ((((j.fail q.2).text nm).nums [nu]).text nd);have hj0:(j.fail q.2).b.length=j.b.length:=rfl;simp only[List.length_cons,List.length_nil] at h4 h6 ⊢;omega)).mono ?_);rintro e w3 ⟨rfl,h3⟩;have H3:=hid h3;obtain⟨c0,c1,c2,c3,c4,c5,c6,c7,c8,c9,c10,c16,c17,c18⟩:=HC.out _ w3 h3;clear h3)
  | (go_at_call 159;go_loud (refine(H1.out.fail q.2).mono ?_);rintro e w2 ⟨rfl,h2⟩;have H2:=hid h2;obtain⟨b0,b1,b2,b3,b4,b5,b6,b7,b8,b9,b10,b16,b17,b18⟩:=HC.out _ w2 h2;clear h2)
  | (go_at_call 36;go_loud (refine HTE.out.mono ?_);rintro e w1 ⟨rfl,h1⟩;have H1:=hid (HJ0.out.ext h1);obtain⟨a0,a1,a2,a3,a4,a5,a6,a7,a8,a9,a10,a16,a17,a18⟩:=HC.out _ w1 H1.out;clear h1))
 have HC5:=hid (fun (w':World) (h:Below w5.heap.size w5 w')=>HC.out _ w' (H5.out.ext h))
 refine wp_region_split3 6 (fun w'=>Below w5.heap.size w5 w') (by kernel_rfl) (by kernel_rfl) (by kernel_rfl) (by decide) ((Below.refl _ _).drew) (fun hS=>?_)
 simp only[List.take_succ_cons,List.take_zero,List.drop_succ_cons,List.drop_zero]
 refine tkQ 0 (v:=?_) ?_ hS ?_;rotate_left;· intro w' hw';have hcells:=HC5.out w' hw';go_simp;(try with_reducible rfl)
 simp only[Act.put,pt1,pt2,pt3,pt4,pt5,pt6]
 refine tkQ 1 (v:=?_) ?_ hS ?_;rotate_left;· intro w' hw';have hcells:=HC5.out w' hw';go_simp;(try with_reducible rfl)
 simp only[Act.put,pt1,pt2,pt3,pt4,pt5,pt6]
 refine tkQ 2 (v:=?_) ?_ hS ?_;rotate_left;· intro w' hw';have hcells:=HC5.out w' hw';go_simp;(try with_reducible rfl)
 simp only[Act.put,pt1,pt2,pt3,pt4,pt5,pt6]
 refine tkQ 3 (v:=?_) ?_ hS ?_;rotate_left;· intro w' hw';have hcells:=HC5.out w' hw';go_simp;(try with_reducible rfl)
 simp only[Act.put,pt1,pt2,pt3,pt4,pt5,pt6]
 refine wpAnyH_ready (rs:=[4]) (by kernel_rfl) (by simp) ?_
 refine arQ fun K hK=>?_
 go_simp;go_at_call 169;refine(HFC.out _).mono ?_
 rintro e w6 ⟨rfl,hb6⟩
 have HB6:=hid (hS.trans (hb6.mono hS.size))
 refine hK.out _ _ (hS.trans (hb6.mono hS.size)) (fun hS=>?_)
 clear hK K
 (try simp only[Act.put,pt1,pt2,pt3,pt4,pt5,pt6])
 refine wpAnyH_ready (rs:=[5]) (by kernel_rfl) (by simp) ?_
 refine arQ fun K hK=>?_
 go_simp
 refine hK.out _ _ (hS.alloc hS.size _) (fun hS=>?_)
 clear hK K
 (try simp only[Act.put,pt1,pt2,pt3,pt4,pt5,pt6])
 refine wpAnyH_done (by kernel_rfl) ?_ _
 (try dsimp only)
 clear hS
 have H6:=hid (H5.out.ext HB6.out)
 go_wp2_with (first
  | (go_at_call 161;go_loud (refine(H7.out.text q.1 (by have h1:=HZ.out;have h2:=HJL.out;have h7:=HQ2.out;have h3:=text_len (j.fail q.2) nm;have h4:=nums_len [nu] ((j.fail q.2).text nm);have h5:=text_len (((j.fail q.2).text nm).nums [nu]) nd;have h6:=nums_len [ca,fg] ((((j.fail q.2).text nm).nums [nu]).text nd);have hj0:(j.fail q.2).b.length=j.b.length:=rfl;simp only[List.length_cons,List.length_nil] at h4 h6 ⊢;omega)).mono ?_);rintro e w8 ⟨rfl,h8⟩;have H8:=hid h8;obtain⟨h0,h1,h2,h3,h4,h5,h6,h7,h8,h9,h10,h16,h17,h18⟩:=HC.out _ w8 h8;clear h8)
  | (go_at_call 88;go_loud (refine(H6.out.nums [ca,fg] (by intro x hx;simp only[List.mem_cons,List.not_mem_nil,or_false] at hx;rcases hx with rfl | rfl<;>assumption) (by have h1:=HZ.out;have h2:=HJL.out;have h7:=HQ2.out;have h3:=text_len (j.fail q.2) nm;have h4:=nums_len [nu] ((j.fail q.2).text nm);have h5:=text_len (((j.fail q.2).text nm).nums [nu]) nd;have h6:=nums_len [ca,fg] ((((j.fail q.2).text nm).nums [nu]).text nd);have hj0:(j.fail q.2).b.length=j.b.length:=rfl;simp only[List.length_cons,List.length_nil] at h4 h6 ⊢;omega)).mono ?_);rintro e w7 ⟨rfl,h7⟩;have H7:=hid h7;obtain⟨g0,g1,g2,g3,g4,g5,g6,g7,g8,g9,g10,g16,g17,g18⟩:=HC.out _ w7 h7;clear h7))
 refine bodyPost_end (results_none rfl _ _ _) rfl ?_
 exact FIN.out _ _ H8.out
end
end Go.Proofs.YtmgpghoamapfgaaGreatDoor
