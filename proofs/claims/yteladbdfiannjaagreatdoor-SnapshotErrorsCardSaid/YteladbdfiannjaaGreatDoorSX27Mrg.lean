/- A part. -/
import Derived.Test.YteladbdfiannjaaGreatDoorSX23Mrg
import Derived.Test.YteladbdfiannjaaGreatDoorSX24Mrg
import Derived.Test.YteladbdfiannjaaGreatDoorSX26Mrg
namespace Go.Proofs.YteladbdfiannjaaGreatDoor
set_option linter.unusedVariables false
set_option maxRecDepth 100000
set_option maxHeartbeats 64000000
set_option linter.unusedSimpArgs false
section
open Go Go.RowKit Go.Shelf
theorem kP {n a b:Int} (h:inQ n a b=true):a≤n∧n≤b:=by
 unfold inQ at h;simpa using h
theorem xU {d:Ef} (h:efE d=0):(d.k=1∨d.k=2)∧(1≤d.nu∧d.nu≤999999999999999)∧aS d.st=0∧(d.k=1→d.tx.size≤65536)∧(d.k≠1→(0≤d.ca∧d.ca≤999999999999999)∧bP d.bd=0):=by
 unfold efE at h
 by_cases h1:d.k≠1∧d.k≠2
 ·rw[if_pos h1] at h;exact absurd h (by decide)
 rw[if_neg h1] at h
 by_cases h2:aI d.nm=false
 ·rw[if_pos h2] at h;exact absurd h (by decide)
 rw[if_neg h2] at h
 by_cases h3:inQ d.nu 1 999999999999999=false
 ·rw[if_pos h3] at h;exact absurd h (by decide)
 rw[if_neg h3] at h
 by_cases h4:aS d.st≠0
 ·rw[if_pos h4] at h;exact absurd h h4
 rw[if_neg h4] at h
 refine⟨by omega,kP (by simpa using h3),by simpa using h4,fun hk=>?_,fun hk=>?_⟩
 ·rw[if_pos hk] at h
  by_cases h5:65536<d.tx.size
  ·rw[if_pos h5] at h;exact absurd h (by decide)
  ·omega
 ·rw[if_neg hk] at h
  by_cases h5:d.tx.toList.isEmpty=false∨(d.sv.toList==d.nm.toList)=false∨hU d.rs d.st=false
  ·rw[if_pos h5] at h;exact absurd h (by decide)
  rw[if_neg h5] at h
  by_cases h6:aI d.nd=false
  ·rw[if_pos h6] at h;exact absurd h (by decide)
  rw[if_neg h6] at h
  by_cases h7:inQ d.ca 0 999999999999999=false
  ·rw[if_pos h7] at h;exact absurd h (by decide)
  rw[if_neg h7] at h
  exact⟨kP (by simpa using h7),h⟩
theorem xQ (xs:List ByteArray) (L:Nat) (h:∀x∈xs,x.size≤L):(lnB xs).length≤xs.length * (L+1)+1:=by
 have:=eR xs ⟨#[32]⟩ L (fun x hx=>by rw[Array.length_toList];exact h x hx)
 unfold lnB
 rw[List.length_append,Array.length_toList]
 have h1:(⟨#[32]⟩:ByteArray).data.toList.length=1:=rfl
 rw[h1] at this
 exact Nat.add_le_add_right this 1
theorem zK {S:Nat→Prop} {w:World} {c:SC} {d:St} (h:IsSt S w c d) (h0:aS d=0):(cI d).size≤20000 :=
 iX d h.re h.ps.rng (by
  unfold aS at h0
  by_cases a1:d.e<1∨1048576<d.e
  ·rw[if_pos a1] at h0;exact absurd h0 (by decide)
  rw[if_neg a1] at h0
  by_cases a2:d.ps=[]
  ·rw[a2];simp
  rw[if_neg a2] at h0
  by_cases a3:512<d.ps.length
  ·rw[if_pos a3] at h0;exact absurd h0 (by decide)
  ·omega)
def jZ (d:Ef):ByteArray × Int:=if fR d≠0 then (⟨#[]⟩,fR d) else (⟨(cY d).toArray⟩,0)
theorem nM (x:EfC) (d:Ef) (w:World) (hd:IsEf (· < w.heap.size) w x d) (hT:Tabs w) (hZ:ZTab w) (h0:efE d=0) :
 Calls Tryz.prog 77 #[.agg #[.int .i64 x.k,.string x.nm,.int .i64 x.nu,.string x.tx,.int .i64 x.st.e,.slice x.st.a x.st.n x.st.c,.int .i64 x.rs.e,.slice x.rs.a x.rs.n x.rs.c,.string x.sv,.int .i64 x.ca,.bool x.un,.int .i64 x.bd.k,.int .i64 x.bd.i,.int .i64 x.bd.s,.string x.bd.t,.slice x.bd.la x.bd.ll x.bd.lc,.slice x.bd.fa x.bd.fl x.bd.fc,.string x.nd]] w fun e w'=>e=.returned (.tuple #[.string (jZ d).1,.int .i64 (jZ d).2])∧Below w.heap.size w w':=by
 obtain⟨hk,hn,hs,ht,hc⟩:=xU h0
 obtain⟨m,hm⟩:∃m:Nat,d.nu=(m:Int):=⟨d.nu.toNat,by omega⟩
 have hba:Below w.heap.size w (w.alloc (efO x)):=(bR w).alloc lr _
 have hqq:∀w',Below (w.alloc (efO x)).heap.size (w.alloc (efO x)) w'→∀b,b<w.heap.size→b<w'.heap.size∧w'.heap[b]?=w.heap[b]?:=fun w' h b hb=>by
  have h1:=h.size
  have h2:(w.alloc (efO x)).heap.size=w.heap.size+1:=by simp
  exact⟨by omega,(h.block b (by omega)).trans (hba.block b hb)⟩
 obtain⟨at',hat⟩:∃a,a=cI d.st:=⟨_,rfl⟩
 have hats:at'.size≤20000:=by rw[hat];exact zK hd.st hs
 have HSC:Hid (Calls Tryz.prog 143 #[x.st.v] (w.alloc (efO x)) fun e w'=>e=.returned (.tuple #[.string at',.int .i64 0])∧Below (w.alloc (efO x)).heap.size (w.alloc (efO x)) w'):=hid (by
  have h:=gA x.st d.st (w.alloc (efO x)) (hd.st.same (hqq _ (Below.refl _ _))) (hT.below hba)
  unfold iY at h
  rw[if_pos hs,←hat] at h
  exact h)
 have HX:=hid (heap_alloc_new w (efO x))
 have HB:=hid hba
 have HBD:Hid (m≤999999999999999):=hid (by omega)
 have hnm:x.nm.size≤140737488351232:=hd.nmz
 have hxk:=hd.k
 have hxn:x.nu=(m:Int):=by rw[hd.nu,hm]
 have hdm:(aT m).size≤21:=oG m (by omega)
 by_cases h1:d.k=1
 ·have htx:=ht h1
  obtain⟨qx,hqx⟩:∃q,q=qxT x.tx:=⟨_,rfl⟩
  have hqs:qx.size≤200000:=by
   rw[hqx];show(lM x.tx.data.toList).toArray.size≤_
   have:=jS x.tx.data.toList
   have h3:x.tx.data.toList.length=x.tx.size:=by rw[Array.length_toList];rfl
   rw[h3] at this
   rw[←hd.tx] at htx
   rw[List.size_toArray];omega
  have HQX:=hid (fun (w':World)=>(show Calls Tryz.prog 74 #[.string x.tx] w' fun e w2=>e=.returned (.string qx)∧Below w'.heap.size w' w2 from by rw[hqx];exact fA x.tx w' (by rw[hd.tx];omega)))
  have HLZ:Hid ((lnB [zF,x.nm,(aT m),at',qx]).length≤4611686018427387903):=hid (Nat.le_trans (xQ _ 140737488351232 (by
   intro y hy
   simp only[List.mem_cons,List.not_mem_nil,or_false] at hy
   rcases hy with rfl | rfl | rfl | rfl | rfl
   ·decide
   ·exact hnm
   all_goals omega)) (by simp))
  have HR:Hid (jZ d=(⟨(lnB [zF,x.nm,(aT m),at',qx]).toArray⟩,0)):=hid (by
   unfold jZ fR
   rw[if_pos h1,if_neg (by simp)]
   unfold cY
   rw[if_pos h1,hm,bJ,←hat,←hd.nm,←hd.tx,hqx])
  have hx1:x.k=1:=by rw[hxk,h1]
  clear hd hT hZ h0 hk hn hs ht hc hm hba hqq hat hats hnm hxk hdm htx hqx hqs h1
  obtain⟨xk,nm,nu,tx,st,rs,sv,ca,un,bd,nd⟩:=x
  dsimp only[SC.v] at HSC HX HB HQX HLZ HR hxn hx1 ⊢
  subst hxn hx1
  go_enter Tryz.func77,Tryz.ntmps77
  go_upto_region 5 with (go_at_call 143;refine HSC.out.mono ?_;rintro e w1 ⟨rfl,hb1⟩;have HB1:=hid hb1;have hx1:=aB hb1 HX.out;have a0:=aA hx1 0;have a1:=aA hx1 1;have a2:=aA hx1 2;have a3:=aA hx1 3;(try dsimp only at a0 a1 a2 a3);have HC:=hid (fun (w':World) (h:Below w1.heap.size w1 w')=>(show w'.cell? ⟨w.heap.size,1,none⟩=some (.string nm)∧w'.cell? ⟨w.heap.size,2,none⟩=some (.int .i64 m)∧w'.cell? ⟨w.heap.size,3,none⟩=some (.string tx) from⟨aA (aB h hx1) 1,aA (aB h hx1) 2,aA (aB h hx1) 3⟩));clear hx1 hb1)
  clear a0 a1 a2 a3
  refine wp_region_held_drew (S:=(fun w'=>Below w1.heap.size w1 w')) (by kernel_rfl) ((Below.refl _ _).drew) (fun hS=>?_)
  refine tkQ 0 (v:=?_) ?_ hS ?_;rotate_left;· intro w' hw';have hcells:=HC.out w' hw';go_simp;(try rfl)
  simp only[Act.put,pq]
  refine tkQ 1 (v:=?_) ?_ hS ?_;rotate_left;· intro w' hw';have hcells:=HC.out w' hw';go_simp;(try rfl)
  simp only[Act.put,pq]
  refine tkQ 2 (v:=?_) ?_ hS ?_;rotate_left;· intro w' hw';have hcells:=HC.out w' hw';go_simp;(try rfl)
  simp only[Act.put,pq]
  refine tkQ 3 (v:=?_) ?_ hS ?_;rotate_left;· intro w' hw';have hcells:=HC.out w' hw';go_simp;(try rfl)
  simp only[Act.put,pq]
  refine tkQ 5 (v:=?_) ?_ hS ?_;rotate_left;· intro w' hw';have hcells:=HC.out w' hw';go_simp;(try rfl)
  simp only[Act.put,pq]
  refine tkQ 6 (v:=?_) ?_ hS ?_;rotate_left;· intro w' hw';have hcells:=HC.out w' hw';go_simp;(try rfl)
  simp only[Act.put,pq]
  refine tkQ 7 (v:=?_) ?_ hS ?_;rotate_left;· intro w' hw';have hcells:=HC.out w' hw';go_simp;(try rfl)
  simp only[Act.put,pq]
  refine ry [4] ?_
  refine arQ fun K hK=>?_
  go_simp;go_at_call 72;refine(bO m (by have:=HBD.out;omega) _).mono ?_
  rintro e w4 ⟨rfl,hww4⟩
  rw[hww4]
  clear hww4
  refine hK.out _ _ (hS) (fun hS=>?_)
  clear hK K
  (try simp only[Act.put,pq])
  refine ry [8] ?_
  refine arQ fun K hK=>?_
  go_simp;go_at_call 74;refine(HQX.out _).mono ?_
  rintro e w5 ⟨rfl,hb5⟩
  refine hK.out _ _ (hS.trans (hb5.mono hS.size)) (fun hS=>?_)
  clear hK K
  (try simp only[Act.put,pq])
  refine ry [9] ?_
  refine arQ fun K hK=>?_
  go_simp
  refine hK.out _ _ (hS.alloc hS.size _) (fun hS=>?_)
  clear hK K
  (try simp only[Act.put,pq])
  refine ry [10] ?_
  refine arQ fun K hK=>?_
  go_simp;go_at_call 71;refine(bH w5.heap.size 5 [(⟨#[100,101,108,105,118,101,114]⟩:ByteArray),nm,(aT m),at',qx] (w5.alloc (.cells #[.string (⟨#[100,101,108,105,118,101,114]⟩:ByteArray),.string nm,.string (aT m),.string at',.string qx] 9)) (aU w5 [(⟨#[100,101,108,105,118,101,114]⟩:ByteArray),nm,(aT m),at',qx] _) (by simp) HLZ.out).mono ?_
  rintro e w6 ⟨rfl,hww6⟩
  rw[hww6]
  clear hww6
  refine hK.out _ _ (hS) (fun hS=>?_)
  clear hK K
  (try simp only[Act.put,pq])
  refine tkQ 11 (v:=?_) ?_ hS ?_;rotate_left;· intro w' hw';have hcells:=HC.out w' hw';go_simp;(try rfl)
  simp only[Act.put,pq]
  refine tkQ 12 (v:=?_) ?_ hS ?_;rotate_left;· intro w' hw';have hcells:=HC.out w' hw';go_simp;(try rfl)
  simp only[Act.put,pq]
  refine wpAnyH_done (by kernel_rfl) ?_ _
  (try dsimp only)
  have hS5:=hid hS
  clear hS
  go_wp2
  exact bodyPost_ret (v:=.tuple #[.string ⟨(lnB [(⟨#[100,101,108,105,118,101,114]⟩:ByteArray),nm,(aT m),at',qx]).toArray⟩,.int .i64 0]) (by simp[results,Tryz.results77,go_sem]) rfl ⟨by rw[HR.out];rfl,HB.out.trans ((HB1.out.trans (hS5.out.mono HB1.out.size)).mono HB.out.size)⟩
 ·have hc1:=hc h1
  obtain⟨m2,hm2⟩:∃m2:Nat,d.ca=(m2:Int):=⟨d.ca.toNat,by omega⟩
  obtain⟨tb,htb⟩:∃t,t=(cM d.bd).1:=⟨_,rfl⟩
  obtain⟨er,her⟩:∃t,t=(cM d.bd).2:=⟨_,rfl⟩
  have htbs:tb.size≤65536:=by rw[htb];exact dT d.bd
  have HBD2:Hid (m2≤999999999999999):=hid (by omega)
  have HLT:=hid (fun (w':World) (h:Below (w.alloc (efO x)).heap.size (w.alloc (efO x)) w')=>(show Calls Tryz.prog 142 #[x.bd.v] w' fun e w2=>e=.returned (.tuple #[.string tb,.int .i64 er])∧Below w'.heap.size w' w2 from by
   rw[htb,her]
   exact fV x.bd d.bd w' (hd.bd.same (hqq w' h)) ((hT.below hba).below h) ((hZ.below hba).below h)))
  have hdm2:(aT m2).size≤21:=oG m2 (by omega)
  have hnd:x.nd.size≤140737488351232:=hd.ndz
  have HLZ:Hid (∀u:Bool,(lnB [zE,x.nm,(aT m),at',x.nd,(aT m2),wDo u,tb]).length≤4611686018427387903):=hid (fun u=>Nat.le_trans (xQ _ 140737488351232 (by
   intro y hy
   simp only[List.mem_cons,List.not_mem_nil,or_false] at hy
   rcases hy with rfl | rfl | rfl | rfl | rfl | rfl | rfl | rfl
   ·decide
   ·exact hnm
   ·omega
   ·omega
   ·exact hnd
   ·omega
   ·cases u<;>decide
   ·omega)) (by simp))
  have HR:Hid (∀u:Bool,er=0→u=x.un→jZ d=(⟨(lnB [zE,x.nm,(aT m),at',x.nd,(aT m2),wDo u,tb]).toArray⟩,0)):=hid (fun u he hu=>by
   unfold jZ fR
   rw[if_neg h1,←her,if_neg (by simpa using he)]
   unfold cY
   rw[if_neg h1,hm,hm2,bJ,bJ,←hat,←hd.nm,←hd.nd,hu,hd.un,←htb])
  have HRE:Hid (er≠0→jZ d=(⟨#[]⟩,er)):=hid (fun he=>by
   unfold jZ fR
   rw[if_neg h1,←her,if_pos he])
  have hx1:(x.k==1)=false:=by rw[hxk];simpa using h1
  have hca:x.ca=(m2:Int):=by rw[hd.ca,hm2]
  clear hd hT hZ h0 hk hn hs ht hc hm hba hqq hat hats hnm hxk hdm h1 hc1 hm2 htb her htbs hdm2 hnd
  obtain⟨xk,nm,nu,tx,st,rs,sv,ca,un,bd,nd⟩:=x
  dsimp only[SC.v,VC.v] at HSC HX HB HLT HLZ HR HRE hxn hx1 hca ⊢
  subst hxn hca
  go_enter Tryz.func77,Tryz.ntmps77
  go_upto_region 6 with (go_at_call 143;refine HSC.out.mono ?_;rintro e w1 ⟨rfl,hb1⟩;have HB1:=hid hb1;have hx1:=aB hb1 HX.out;have a0:=aA hx1 0;have a11:=aA hx1 11;have a12:=aA hx1 12;have a13:=aA hx1 13;have a14:=aA hx1 14;have a15:=aA hx1 15;have a16:=aA hx1 16;(try dsimp only at a0 a11 a12 a13 a14 a15 a16);clear hx1 hb1)
  go_upto_region 7 with (go_at_call 142;refine(HLT.out _ HB1.out).mono ?_;rintro e w2 ⟨rfl,hb2⟩;have HB2:=hid (HB1.out.trans (hb2.mono HB1.out.size));clear hb2)
  clear a0 a11 a12 a13 a14 a15 a16
  by_cases hz:er=0
  ·have HX2:=hid (aB HB2.out HX.out)
   have b10:=aA HX2.out 10
   (try dsimp only at b10)
   have HC2:=hid (fun (w':World) (h:Below w2.heap.size w2 w')=>(show w'.cell? ⟨w.heap.size,1,none⟩=some (.string nm)∧w'.cell? ⟨w.heap.size,2,none⟩=some (.int .i64 m)∧w'.cell? ⟨w.heap.size,9,none⟩=some (.int .i64 m2)∧w'.cell? ⟨w.heap.size,17,none⟩=some (.string nd) from⟨aA (aB h HX2.out) 1,aA (aB h HX2.out) 2,aA (aB h HX2.out) 9,aA (aB h HX2.out) 17⟩))
   have hz1:(er != 0)=false:=by simp[hz]
   have HZE:=hid hz
   clear hz
   cases un with
   | true =>
     go_upto_region 12 with (fail)
     clear b10
     have hz:=HZE.out
     refine wp_region_held_drew (S:=(fun w'=>Below w2.heap.size w2 w')) (by kernel_rfl) ((Below.refl _ _).drew) (fun hS=>?_)
     refine tkQ 0 (v:=?_) ?_ hS ?_;rotate_left;· intro w' hw';have hcells:=HC2.out w' hw';go_simp;(try rfl)
     simp only[Act.put,pq]
     refine tkQ 1 (v:=?_) ?_ hS ?_;rotate_left;· intro w' hw';have hcells:=HC2.out w' hw';go_simp;(try rfl)
     simp only[Act.put,pq]
     refine tkQ 2 (v:=?_) ?_ hS ?_;rotate_left;· intro w' hw';have hcells:=HC2.out w' hw';go_simp;(try rfl)
     simp only[Act.put,pq]
     refine tkQ 3 (v:=?_) ?_ hS ?_;rotate_left;· intro w' hw';have hcells:=HC2.out w' hw';go_simp;(try rfl)
     simp only[Act.put,pq]
     refine tkQ 5 (v:=?_) ?_ hS ?_;rotate_left;· intro w' hw';have hcells:=HC2.out w' hw';go_simp;(try rfl)
     simp only[Act.put,pq]
     refine tkQ 6 (v:=?_) ?_ hS ?_;rotate_left;· intro w' hw';have hcells:=HC2.out w' hw';go_simp;(try rfl)
     simp only[Act.put,pq]
     refine tkQ 7 (v:=?_) ?_ hS ?_;rotate_left;· intro w' hw';have hcells:=HC2.out w' hw';go_simp;(try rfl)
     simp only[Act.put,pq]
     refine tkQ 8 (v:=?_) ?_ hS ?_;rotate_left;· intro w' hw';have hcells:=HC2.out w' hw';go_simp;(try rfl)
     simp only[Act.put,pq]
     refine tkQ 9 (v:=?_) ?_ hS ?_;rotate_left;· intro w' hw';have hcells:=HC2.out w' hw';go_simp;(try rfl)
     simp only[Act.put,pq]
     refine tkQ 10 (v:=?_) ?_ hS ?_;rotate_left;· intro w' hw';have hcells:=HC2.out w' hw';go_simp;(try rfl)
     simp only[Act.put,pq]
     refine tkQ 12 (v:=?_) ?_ hS ?_;rotate_left;· intro w' hw';have hcells:=HC2.out w' hw';go_simp;(try rfl)
     simp only[Act.put,pq]
     refine tkQ 13 (v:=?_) ?_ hS ?_;rotate_left;· intro w' hw';have hcells:=HC2.out w' hw';go_simp;(try rfl)
     simp only[Act.put,pq]
     refine ry [4] ?_
     refine arQ fun K hK=>?_
     go_simp;go_at_call 72;refine(bO m (by have:=HBD.out;omega) _).mono ?_
     rintro e w4 ⟨rfl,hww4⟩
     rw[hww4]
     clear hww4
     refine hK.out _ _ (hS) (fun hS=>?_)
     clear hK K
     (try simp only[Act.put,pq])
     refine ry [11] ?_
     refine arQ fun K hK=>?_
     go_simp;go_at_call 72;refine(bO m2 (by have:=HBD2.out;omega) _).mono ?_
     rintro e w5 ⟨rfl,hw5⟩
     rw[hw5]
     clear hw5
     refine hK.out _ _ (hS) (fun hS=>?_)
     clear hK K
     (try simp only[Act.put,pq])
     refine ry [14] ?_
     refine arQ fun K hK=>?_
     go_simp
     refine hK.out _ _ (hS.alloc hS.size _) (fun hS=>?_)
     clear hK K
     (try simp only[Act.put,pq])
     refine ry [15] ?_
     refine arQ fun K hK=>?_
     go_simp;go_at_call 71;refine(bH w2.drew.heap.size 8 [(⟨#[114,101,113,117,101,115,116]⟩:ByteArray),nm,(aT m),at',nd,(aT m2),(⟨#[117,110,100,111]⟩:ByteArray),tb] (w2.drew.alloc (.cells #[.string (⟨#[114,101,113,117,101,115,116]⟩:ByteArray),.string nm,.string (aT m),.string at',.string nd,.string (aT m2),.string (⟨#[117,110,100,111]⟩:ByteArray),.string tb] 9)) (aU w2.drew [(⟨#[114,101,113,117,101,115,116]⟩:ByteArray),nm,(aT m),at',nd,(aT m2),(⟨#[117,110,100,111]⟩:ByteArray),tb] _) (by simp) (HLZ.out true)).mono ?_
     rintro e w6 ⟨rfl,hww6⟩
     rw[hww6]
     clear hww6
     refine hK.out _ _ (hS) (fun hS=>?_)
     clear hK K
     (try simp only[Act.put,pq])
     refine tkQ 16 (v:=?_) ?_ hS ?_;rotate_left;· intro w' hw';have hcells:=HC2.out w' hw';go_simp;(try rfl)
     simp only[Act.put,pq]
     refine tkQ 17 (v:=?_) ?_ hS ?_;rotate_left;· intro w' hw';have hcells:=HC2.out w' hw';go_simp;(try rfl)
     simp only[Act.put,pq]
     refine wpAnyH_done (by kernel_rfl) ?_ _
     (try dsimp only)
     have hS5:=hid hS
     clear hS
     go_wp2
     exact bodyPost_ret (v:=.tuple #[.string ⟨(lnB [(⟨#[114,101,113,117,101,115,116]⟩:ByteArray),nm,(aT m),at',nd,(aT m2),(⟨#[117,110,100,111]⟩:ByteArray),tb]).toArray⟩,.int .i64 0]) (by simp[results,Tryz.results77,go_sem]) rfl ⟨by first | (rw[HR.out true hz rfl];done) | (rw[HR.out true hz rfl];rfl),HB.out.trans ((HB2.out.trans (hS5.out.mono HB2.out.size)).mono HB.out.size)⟩
   | false =>
     go_upto_region 12 with (fail)
     clear b10
     have hz:=HZE.out
     refine wp_region_held_drew (S:=(fun w'=>Below w2.heap.size w2 w')) (by kernel_rfl) ((Below.refl _ _).drew) (fun hS=>?_)
     refine tkQ 0 (v:=?_) ?_ hS ?_;rotate_left;· intro w' hw';have hcells:=HC2.out w' hw';go_simp;(try rfl)
     simp only[Act.put,pq]
     refine tkQ 1 (v:=?_) ?_ hS ?_;rotate_left;· intro w' hw';have hcells:=HC2.out w' hw';go_simp;(try rfl)
     simp only[Act.put,pq]
     refine tkQ 2 (v:=?_) ?_ hS ?_;rotate_left;· intro w' hw';have hcells:=HC2.out w' hw';go_simp;(try rfl)
     simp only[Act.put,pq]
     refine tkQ 3 (v:=?_) ?_ hS ?_;rotate_left;· intro w' hw';have hcells:=HC2.out w' hw';go_simp;(try rfl)
     simp only[Act.put,pq]
     refine tkQ 5 (v:=?_) ?_ hS ?_;rotate_left;· intro w' hw';have hcells:=HC2.out w' hw';go_simp;(try rfl)
     simp only[Act.put,pq]
     refine tkQ 6 (v:=?_) ?_ hS ?_;rotate_left;· intro w' hw';have hcells:=HC2.out w' hw';go_simp;(try rfl)
     simp only[Act.put,pq]
     refine tkQ 7 (v:=?_) ?_ hS ?_;rotate_left;· intro w' hw';have hcells:=HC2.out w' hw';go_simp;(try rfl)
     simp only[Act.put,pq]
     refine tkQ 8 (v:=?_) ?_ hS ?_;rotate_left;· intro w' hw';have hcells:=HC2.out w' hw';go_simp;(try rfl)
     simp only[Act.put,pq]
     refine tkQ 9 (v:=?_) ?_ hS ?_;rotate_left;· intro w' hw';have hcells:=HC2.out w' hw';go_simp;(try rfl)
     simp only[Act.put,pq]
     refine tkQ 10 (v:=?_) ?_ hS ?_;rotate_left;· intro w' hw';have hcells:=HC2.out w' hw';go_simp;(try rfl)
     simp only[Act.put,pq]
     refine tkQ 12 (v:=?_) ?_ hS ?_;rotate_left;· intro w' hw';have hcells:=HC2.out w' hw';go_simp;(try rfl)
     simp only[Act.put,pq]
     refine tkQ 13 (v:=?_) ?_ hS ?_;rotate_left;· intro w' hw';have hcells:=HC2.out w' hw';go_simp;(try rfl)
     simp only[Act.put,pq]
     refine ry [4] ?_
     refine arQ fun K hK=>?_
     go_simp;go_at_call 72;refine(bO m (by have:=HBD.out;omega) _).mono ?_
     rintro e w4 ⟨rfl,hww4⟩
     rw[hww4]
     clear hww4
     refine hK.out _ _ (hS) (fun hS=>?_)
     clear hK K
     (try simp only[Act.put,pq])
     refine ry [11] ?_
     refine arQ fun K hK=>?_
     go_simp;go_at_call 72;refine(bO m2 (by have:=HBD2.out;omega) _).mono ?_
     rintro e w5 ⟨rfl,hw5⟩
     rw[hw5]
     clear hw5
     refine hK.out _ _ (hS) (fun hS=>?_)
     clear hK K
     (try simp only[Act.put,pq])
     refine ry [14] ?_
     refine arQ fun K hK=>?_
     go_simp
     refine hK.out _ _ (hS.alloc hS.size _) (fun hS=>?_)
     clear hK K
     (try simp only[Act.put,pq])
     refine ry [15] ?_
     refine arQ fun K hK=>?_
     go_simp;go_at_call 71;refine(bH w2.drew.heap.size 8 [(⟨#[114,101,113,117,101,115,116]⟩:ByteArray),nm,(aT m),at',nd,(aT m2),(⟨#[100,111]⟩:ByteArray),tb] (w2.drew.alloc (.cells #[.string (⟨#[114,101,113,117,101,115,116]⟩:ByteArray),.string nm,.string (aT m),.string at',.string nd,.string (aT m2),.string (⟨#[100,111]⟩:ByteArray),.string tb] 9)) (aU w2.drew [(⟨#[114,101,113,117,101,115,116]⟩:ByteArray),nm,(aT m),at',nd,(aT m2),(⟨#[100,111]⟩:ByteArray),tb] _) (by simp) (HLZ.out false)).mono ?_
     rintro e w6 ⟨rfl,hww6⟩
     rw[hww6]
     clear hww6
     refine hK.out _ _ (hS) (fun hS=>?_)
     clear hK K
     (try simp only[Act.put,pq])
     refine tkQ 16 (v:=?_) ?_ hS ?_;rotate_left;· intro w' hw';have hcells:=HC2.out w' hw';go_simp;(try rfl)
     simp only[Act.put,pq]
     refine tkQ 17 (v:=?_) ?_ hS ?_;rotate_left;· intro w' hw';have hcells:=HC2.out w' hw';go_simp;(try rfl)
     simp only[Act.put,pq]
     refine wpAnyH_done (by kernel_rfl) ?_ _
     (try dsimp only)
     have hS5:=hid hS
     clear hS
     go_wp2
     exact bodyPost_ret (v:=.tuple #[.string ⟨(lnB [(⟨#[114,101,113,117,101,115,116]⟩:ByteArray),nm,(aT m),at',nd,(aT m2),(⟨#[100,111]⟩:ByteArray),tb]).toArray⟩,.int .i64 0]) (by simp[results,Tryz.results77,go_sem]) rfl ⟨by first | (rw[HR.out false hz rfl];done) | (rw[HR.out false hz rfl];rfl),HB.out.trans ((HB2.out.trans (hS5.out.mono HB2.out.size)).mono HB.out.size)⟩
  ·have hz1:(er != 0)=true:=by simp[hz]
   have HRZ:=hid (HRE.out hz)
   clear hz
   go_wp2
   exact bodyPost_ret (v:=.tuple #[.string ⟨#[]⟩,.int .i64 er]) (by simp[results,Tryz.results77,go_sem]) rfl ⟨by first | (rw[HRZ.out];done) | (rw[HRZ.out];rfl),HB.out.trans (HB2.out.mono HB.out.size)⟩
end
section
open Go Go.RowKit Go.Shelf
theorem xL (a:Int):orL [a,0]=a:=by by_cases h:a=0<;>simp[orL,h]
theorem rA (b:Nat) (j:JW) (x:EfC) (d:Ef) (w:World) (h:IsJw 141 b b j w) (hd:IsEf (· < b) w x d) (hT:∀w',Below b w w'→Tabs w') (hZ:∀w',Below b w w'→ZTab w') (h0:efE d=0) (hz:j.b.length+(cY d).length≤140737488355328) :
 Calls Tryz.prog 83 #[.pointer (some ⟨b,0,none⟩),.agg #[.int .i64 x.k,.string x.nm,.int .i64 x.nu,.string x.tx,.int .i64 x.st.e,.slice x.st.a x.st.n x.st.c,.int .i64 x.rs.e,.slice x.rs.a x.rs.n x.rs.c,.string x.sv,.int .i64 x.ca,.bool x.un,.int .i64 x.bd.k,.int .i64 x.bd.i,.int .i64 x.bd.s,.string x.bd.t,.slice x.bd.la x.bd.ll x.bd.lc,.slice x.bd.fa x.bd.fl x.bd.fc,.string x.nd]] w fun e w'=>e=.returned (.tuple #[])∧IsJw 141 b b ⟨j.b++cY d,orL [j.e,fR d]⟩ w'∧Below b w w'∧Lib.OthersKept 5 (some b) w w':=by
 obtain⟨hk,hn,hs,ht,hc⟩:=xU h0
 have hlt:=h.lt
 obtain⟨at',hat⟩:∃a,a=cI d.st:=⟨_,rfl⟩
 have hsame:∀w',Below b w w'→∀k,k<b→k<w'.heap.size∧w'.heap[k]?=w.heap[k]?:=fun w' hb k hk=>⟨by have:=hb.size;omega,hb.block k hk⟩
 have HSC:=hid (fun (w':World) (hb:Below b w w')=>(show Calls Tryz.prog 143 #[x.st.v] w' fun e w2=>e=.returned (.tuple #[.string at',.int .i64 0])∧Below w'.heap.size w' w2 from by
  have h:=gA x.st d.st w' (hd.st.same (hsame w' hb)) (hT w' hb)
  unfold iY at h
  rw[if_pos hs,←hat] at h
  exact h))
 have HIT:=hid (fun (n:Int) (hn:I64 n) (w':World) (hb:Below b w w')=>bD n hn w' (hT w' hb))
 have hba:Below w.heap.size w (w.alloc (.cells #[.int .i64 x.k,.string x.nm,.int .i64 x.nu,.string x.tx,.int .i64 x.st.e,.slice x.st.a x.st.n x.st.c,.int .i64 x.rs.e,.slice x.rs.a x.rs.n x.rs.c,.string x.sv,.int .i64 x.ca,.bool x.un,.int .i64 x.bd.k,.int .i64 x.bd.i,.int .i64 x.bd.s,.string x.bd.t,.slice x.bd.la x.bd.ll x.bd.lc,.slice x.bd.fa x.bd.fl x.bd.fc,.string x.nd] 75)):=(bR w).alloc lr _
 have HI0:Hid (IsJw 141 b b j (w.alloc (.cells #[.int .i64 x.k,.string x.nm,.int .i64 x.nu,.string x.tx,.int .i64 x.st.e,.slice x.st.a x.st.n x.st.c,.int .i64 x.rs.e,.slice x.rs.a x.rs.n x.rs.c,.string x.sv,.int .i64 x.ca,.bool x.un,.int .i64 x.bd.k,.int .i64 x.bd.i,.int .i64 x.bd.s,.string x.bd.t,.slice x.bd.la x.bd.ll x.bd.lc,.slice x.bd.fa x.bd.fl x.bd.fc,.string x.nd] 75)).drew):=hid (h.ext hba.drew)
 have GX:Hid ((w.alloc (.cells #[.int .i64 x.k,.string x.nm,.int .i64 x.nu,.string x.tx,.int .i64 x.st.e,.slice x.st.a x.st.n x.st.c,.int .i64 x.rs.e,.slice x.rs.a x.rs.n x.rs.c,.string x.sv,.int .i64 x.ca,.bool x.un,.int .i64 x.bd.k,.int .i64 x.bd.i,.int .i64 x.bd.s,.string x.bd.t,.slice x.bd.la x.bd.ll x.bd.lc,.slice x.bd.fa x.bd.fl x.bd.fc,.string x.nd] 75)).drew.heap[w.heap.size]?=some (.cells #[.int .i64 x.k,.string x.nm,.int .i64 x.nu,.string x.tx,.int .i64 x.st.e,.slice x.st.a x.st.n x.st.c,.int .i64 x.rs.e,.slice x.rs.a x.rs.n x.rs.c,.string x.sv,.int .i64 x.ca,.bool x.un,.int .i64 x.bd.k,.int .i64 x.bd.i,.int .i64 x.bd.s,.string x.bd.t,.slice x.bd.la x.bd.ll x.bd.lc,.slice x.bd.fa x.bd.fl x.bd.fc,.string x.nd] 75)):=hid (heap_alloc_new w _)
 have HB0:Hid (Below b w (w.alloc (.cells #[.int .i64 x.k,.string x.nm,.int .i64 x.nu,.string x.tx,.int .i64 x.st.e,.slice x.st.a x.st.n x.st.c,.int .i64 x.rs.e,.slice x.rs.a x.rs.n x.rs.c,.string x.sv,.int .i64 x.ca,.bool x.un,.int .i64 x.bd.k,.int .i64 x.bd.i,.int .i64 x.bd.s,.string x.bd.t,.slice x.bd.la x.bd.ll x.bd.lc,.slice x.bd.fa x.bd.fl x.bd.fc,.string x.nd] 75))):=hid (hba.mono (Nat.le_of_lt hlt))
 have HO0:Hid (Lib.OthersKept 5 (some b) w (w.alloc (.cells #[.int .i64 x.k,.string x.nm,.int .i64 x.nu,.string x.tx,.int .i64 x.st.e,.slice x.st.a x.st.n x.st.c,.int .i64 x.rs.e,.slice x.rs.a x.rs.n x.rs.c,.string x.sv,.int .i64 x.ca,.bool x.un,.int .i64 x.bd.k,.int .i64 x.bd.i,.int .i64 x.bd.s,.string x.bd.t,.slice x.bd.la x.bd.ll x.bd.lc,.slice x.bd.fa x.bd.fl x.bd.fc,.string x.nd] 75)).drew):=hid (bC hba.drew)
 have HZX:Hid (w.heap.size<(w.alloc (.cells #[.int .i64 x.k,.string x.nm,.int .i64 x.nu,.string x.tx,.int .i64 x.st.e,.slice x.st.a x.st.n x.st.c,.int .i64 x.rs.e,.slice x.rs.a x.rs.n x.rs.c,.string x.sv,.int .i64 x.ca,.bool x.un,.int .i64 x.bd.k,.int .i64 x.bd.i,.int .i64 x.bd.s,.string x.bd.t,.slice x.bd.la x.bd.ll x.bd.lc,.slice x.bd.fa x.bd.fl x.bd.fc,.string x.nd] 75)).drew.heap.size):=hid (by show w.heap.size<(w.alloc (.cells #[.int .i64 x.k,.string x.nm,.int .i64 x.nu,.string x.tx,.int .i64 x.st.e,.slice x.st.a x.st.n x.st.c,.int .i64 x.rs.e,.slice x.rs.a x.rs.n x.rs.c,.string x.sv,.int .i64 x.ca,.bool x.un,.int .i64 x.bd.k,.int .i64 x.bd.i,.int .i64 x.bd.s,.string x.bd.t,.slice x.bd.la x.bd.ll x.bd.lc,.slice x.bd.fa x.bd.fl x.bd.fc,.string x.nd] 75)).heap.size;simp)
 have HBB:=hid hlt
 have HC:=hid (fun (w':World) (h:w'.heap[w.heap.size]?=some (.cells #[.int .i64 x.k,.string x.nm,.int .i64 x.nu,.string x.tx,.int .i64 x.st.e,.slice x.st.a x.st.n x.st.c,.int .i64 x.rs.e,.slice x.rs.a x.rs.n x.rs.c,.string x.sv,.int .i64 x.ca,.bool x.un,.int .i64 x.bd.k,.int .i64 x.bd.i,.int .i64 x.bd.s,.string x.bd.t,.slice x.bd.la x.bd.ll x.bd.lc,.slice x.bd.fa x.bd.fl x.bd.fc,.string x.nd] 75)∧Below b w w'∧Lib.OthersKept 5 (some b) w w'∧w.heap.size<w'.heap.size)=>(show w'.cell? ⟨w.heap.size,1,none⟩=some (.string x.nm)∧w'.cell? ⟨w.heap.size,2,none⟩=some (.int .i64 x.nu)∧w'.cell? ⟨w.heap.size,3,none⟩=some (.string x.tx)∧w'.cell? ⟨w.heap.size,4,none⟩=some (.int .i64 x.st.e)∧w'.cell? ⟨w.heap.size,5,none⟩=some (.slice x.st.a x.st.n x.st.c)∧w'.cell? ⟨w.heap.size,9,none⟩=some (.int .i64 x.ca)∧w'.cell? ⟨w.heap.size,11,none⟩=some (.int .i64 x.bd.k)∧w'.cell? ⟨w.heap.size,12,none⟩=some (.int .i64 x.bd.i)∧w'.cell? ⟨w.heap.size,13,none⟩=some (.int .i64 x.bd.s)∧w'.cell? ⟨w.heap.size,14,none⟩=some (.string x.bd.t)∧w'.cell? ⟨w.heap.size,15,none⟩=some (.slice x.bd.la x.bd.ll x.bd.lc)∧w'.cell? ⟨w.heap.size,16,none⟩=some (.slice x.bd.fa x.bd.fl x.bd.fc)∧w'.cell? ⟨w.heap.size,17,none⟩=some (.string x.nd) from⟨aA h.1 1,aA h.1 2,aA h.1 3,aA h.1 4,aA h.1 5,aA h.1 9,aA h.1 11,aA h.1 12,aA h.1 13,aA h.1 14,aA h.1 15,aA h.1 16,aA h.1 17⟩))
 have hnu:I64 x.nu:=by rw[hd.nu];unfold I64;omega
 have hca:I64 x.ca:=hd.rca
 have HR:=hid (And.intro hnu hca)
 have HE1:=hid (show d.k=1→cY d=lnB [zF,x.nm,aF x.nu,at',qxT x.tx] from fun h1=>by unfold cY;rw[if_pos h1,←hd.nm,←hd.nu,←hat,←hd.tx])
 have HE2:=hid (show d.k≠1→cY d=lnB [zE,x.nm,aF x.nu,at',x.nd,aF x.ca,wDo x.un,(cM d.bd).1] from fun h1=>by unfold cY;rw[if_neg h1,←hd.nm,←hd.nu,←hat,←hd.nd,←hd.ca,←hd.un])
 have HE3:=hid (show d.k=1→fR d=0 from fun h1=>by unfold fR;rw[if_pos h1])
 have HE4:=hid (show d.k≠1→fR d=(cM d.bd).2 from fun h1=>by unfold fR;rw[if_neg h1])
 obtain⟨tb,htb⟩:∃t,t=(cM d.bd).1:=⟨_,rfl⟩
 obtain⟨er,her⟩:∃t,t=(cM d.bd).2:=⟨_,rfl⟩
 rw[←htb] at HE2
 rw[←her] at HE4
 have HLT:=hid (fun (w':World) (hb:Below b w w')=>(show Calls Tryz.prog 142 #[x.bd.v] w' fun e w2=>e=.returned (.tuple #[.string tb,.int .i64 er])∧Below w'.heap.size w' w2 from by
  rw[htb,her]
  exact fV x.bd d.bd w' (hd.bd.same (hsame w' hb)) (hT w' hb) (hZ w' hb)))
 obtain⟨qx,hqx⟩:∃q,q=qxT x.tx:=⟨_,rfl⟩
 have HQX:=hid (fun (htx:d.k=1) (w':World)=>(show Calls Tryz.prog 74 #[.string x.tx] w' fun e w2=>e=.returned (.string qx)∧Below w'.heap.size w' w2 from by rw[hqx];exact fA x.tx w' (by have:=ht htx;rw[hd.tx];omega)))
 rw[←hqx] at HE1
 have HZ:=hid hz
 have HXK:=hid hd.k
 dsimp only[SC.v,VC.v] at HSC HLT
 have b0:=aA GX.out 0
 have b10:=aA GX.out 10
 (try dsimp only at b0 b10)
 clear h hd hT hZ h0 hk hn hs ht hc hlt hat hsame hba hnu hca htb her hqx hz b0 b10
 go_enter Tryz.func83,Tryz.ntmps83
 go_upto_region 1 with (fail)
 refine wp_region_held_drew (S:=(fun w'=>w'.heap[w.heap.size]?=some (.cells #[.int .i64 x.k,.string x.nm,.int .i64 x.nu,.string x.tx,.int .i64 x.st.e,.slice x.st.a x.st.n x.st.c,.int .i64 x.rs.e,.slice x.rs.a x.rs.n x.rs.c,.string x.sv,.int .i64 x.ca,.bool x.un,.int .i64 x.bd.k,.int .i64 x.bd.i,.int .i64 x.bd.s,.string x.bd.t,.slice x.bd.la x.bd.ll x.bd.lc,.slice x.bd.fa x.bd.fl x.bd.fc,.string x.nd] 75)∧Below b w w'∧Lib.OthersKept 5 (some b) w w'∧w.heap.size<w'.heap.size)) (by kernel_rfl) (⟨GX.out,HB0.out.drew,HO0.out,HZX.out⟩) (fun hS=>?_)
 refine tkQ 0 (v:=?_) ?_ hS ?_;rotate_left;· intro w' hw';have hcells:=HC.out w' hw';go_simp;(try rfl)
 simp only[Act.put,pq]
 refine tkQ 1 (v:=?_) ?_ hS ?_;rotate_left;· intro w' hw';have hcells:=HC.out w' hw';go_simp;(try rfl)
 simp only[Act.put,pq]
 refine tkQ 2 (v:=?_) ?_ hS ?_;rotate_left;· intro w' hw';have hcells:=HC.out w' hw';go_simp;(try rfl)
 simp only[Act.put,pq]
 refine tkQ 7 (v:=?_) ?_ hS ?_;rotate_left;· intro w' hw';have hcells:=HC.out w' hw';go_simp;(try rfl)
 simp only[Act.put,pq]
 refine tkQ 8 (v:=?_) ?_ hS ?_;rotate_left;· intro w' hw';have hcells:=HC.out w' hw';go_simp;(try rfl)
 simp only[Act.put,pq]
 refine ry [3] ?_
 refine arQ fun K hK=>?_
 go_simp;go_at_call 143;refine(HSC.out _ hS.2.1).mono ?_
 rintro e w1 ⟨rfl,hbw1⟩
 have HI1:=hid (HI0.out.ext hbw1)
 refine hK.out _ _ (⟨aB hbw1 hS.1,hS.2.1.trans (hbw1.mono (by have:=HBB.out;have:=hS.2.2.2;omega)),hS.2.2.1.trans (bC hbw1),by have:=hbw1.size;have:=hS.2.2.2;omega⟩) (fun hS=>?_)
 clear hK K
 (try simp only[Act.put,pq])
 refine tkQ 4 (v:=?_) ?_ hS ?_;rotate_left;· intro w' hw';have hcells:=HC.out w' hw';go_simp;(try rfl)
 simp only[Act.put,pq]
 refine tkQ 5 (v:=?_) ?_ hS ?_;rotate_left;· intro w' hw';have hcells:=HC.out w' hw';go_simp;(try rfl)
 simp only[Act.put,pq]
 refine ry [6] ?_
 refine arQ fun K hK=>?_
 have HTX:=hid (eZ b b j at' 0 _ HI1.out (by have:=HBB.out;have:=hS.2.2.2;omega))
 go_simp;go_at_call 82;refine HTX.out.mono ?_
 rintro r w2 ⟨rfl,hiw2,hbw2,how2⟩
 rw[xL] at hiw2
 have HI2:=hid hiw2
 clear HTX hiw2
 refine hK.out _ _ (⟨how2 _ _ hS.1 (by simp;have:=HBB.out;omega) (by intro c fz;simp),hS.2.1.trans hbw2,hS.2.2.1.trans how2,by have:=hbw2.size;have:=hS.2.2.2;omega⟩) (fun hS=>?_)
 clear hK K
 (try simp only[Act.put,pq])
 refine ry [9] ?_
 refine arQ fun K hK=>?_
 go_simp;go_at_call 80;refine(HIT.out x.nu HR.out.1 _ hS.2.1).mono ?_
 rintro e w3 ⟨rfl,hbw3⟩
 have HI3:=hid (HI2.out.ext hbw3)
 refine hK.out _ _ (⟨aB hbw3 hS.1,hS.2.1.trans (hbw3.mono (by have:=HBB.out;have:=hS.2.2.2;omega)),hS.2.2.1.trans (bC hbw3),by have:=hbw3.size;have:=hS.2.2.2;omega⟩) (fun hS=>?_)
 clear hK K
 (try simp only[Act.put,pq])
 refine tkQ 10 (v:=?_) ?_ hS ?_;rotate_left;· intro w' hw';have hcells:=HC.out w' hw';go_simp;(try rfl)
 simp only[Act.put,pq]
 refine tkQ 11 (v:=?_) ?_ hS ?_;rotate_left;· intro w' hw';have hcells:=HC.out w' hw';go_simp;(try rfl)
 simp only[Act.put,pq]
 refine wpAnyH_done (by kernel_rfl) ?_ _
 (try dsimp only)
 have HS3:=hid hS
 clear hS
 have b0:=aA HS3.out.1 0
 have b10:=aA HS3.out.1 10
 (try dsimp only at b0 b10)
 by_cases h1:d.k=1
 ·have hx1:(x.k==1)=true:=by rw[HXK.out,h1];rfl
  have HQ1:=hid (HQX.out h1)
  have he1:=HE1.out h1
  have HLZ:Hid (j.b.length+(lnB [zF,x.nm,(aF x.nu),at',qx]).length≤140737488355328):=hid (by have:=HZ.out;rw[he1] at this;exact this)
  have HRES:Hid (∀w',IsJw 141 b b ⟨j.b++lnB [zF,x.nm,(aF x.nu),at',qx],j.e⟩ w'→IsJw 141 b b ⟨j.b++cY d,orL [j.e,fR d]⟩ w'):=hid (fun w' h=>by rw[he1,HE3.out h1,xL];exact h)
  clear HQX HE1 HE2 HE3 HE4 HZ he1 h1 b10
  have HQX:=HQ1
  clear HQ1
  go_upto_region 3 with (fail)
  clear b0
  refine wp_region_held_drew (S:=(fun w'=>w'.heap[w.heap.size]?=some (.cells #[.int .i64 x.k,.string x.nm,.int .i64 x.nu,.string x.tx,.int .i64 x.st.e,.slice x.st.a x.st.n x.st.c,.int .i64 x.rs.e,.slice x.rs.a x.rs.n x.rs.c,.string x.sv,.int .i64 x.ca,.bool x.un,.int .i64 x.bd.k,.int .i64 x.bd.i,.int .i64 x.bd.s,.string x.bd.t,.slice x.bd.la x.bd.ll x.bd.lc,.slice x.bd.fa x.bd.fl x.bd.fc,.string x.nd] 75)∧Below b w w'∧Lib.OthersKept 5 (some b) w w'∧w.heap.size<w'.heap.size)) (by kernel_rfl) (⟨HS3.out.1,HS3.out.2.1.drew,HS3.out.2.2.1,HS3.out.2.2.2⟩) (fun hS=>?_)
  refine tkQ 0 (v:=?_) ?_ hS ?_;rotate_left;· intro w' hw';have hcells:=HC.out w' hw';go_simp;(try rfl)
  simp only[Act.put,pq]
  refine tkQ 1 (v:=?_) ?_ hS ?_;rotate_left;· intro w' hw';have hcells:=HC.out w' hw';go_simp;(try rfl)
  simp only[Act.put,pq]
  refine tkQ 2 (v:=?_) ?_ hS ?_;rotate_left;· intro w' hw';have hcells:=HC.out w' hw';go_simp;(try rfl)
  simp only[Act.put,pq]
  refine tkQ 3 (v:=?_) ?_ hS ?_;rotate_left;· intro w' hw';have hcells:=HC.out w' hw';go_simp;(try rfl)
  simp only[Act.put,pq]
  refine tkQ 4 (v:=?_) ?_ hS ?_;rotate_left;· intro w' hw';have hcells:=HC.out w' hw';go_simp;(try rfl)
  simp only[Act.put,pq]
  refine tkQ 5 (v:=?_) ?_ hS ?_;rotate_left;· intro w' hw';have hcells:=HC.out w' hw';go_simp;(try rfl)
  simp only[Act.put,pq]
  refine tkQ 6 (v:=?_) ?_ hS ?_;rotate_left;· intro w' hw';have hcells:=HC.out w' hw';go_simp;(try rfl)
  simp only[Act.put,pq]
  refine ry [7] ?_
  refine arQ fun K hK=>?_
  go_simp;go_at_call 74;refine(HQX.out _).mono ?_
  rintro e w5 ⟨rfl,hbw5⟩
  have HI5:=hid (HI3.out.ext ((Below.refl _ w3).drew.trans hbw5))
  refine hK.out _ _ (⟨aB hbw5 hS.1,hS.2.1.trans (hbw5.mono (by have:=HBB.out;have:=hS.2.2.2;omega)),hS.2.2.1.trans (bC hbw5),by have:=hbw5.size;have:=hS.2.2.2;omega⟩) (fun hS=>?_)
  clear hK K
  (try simp only[Act.put,pq])
  refine ry [8] ?_
  refine arQ fun K hK=>?_
  go_simp
  have HI6:=hid (HI5.out.ext ((Below.refl _ w5).alloc lr (.cells #[.string (⟨#[100,101,108,105,118,101,114]⟩:ByteArray),.string x.nm,.string (aF x.nu),.string at',.string qx] 9)))
  refine hK.out _ _ (⟨aC _ hS.1,hS.2.1.alloc (by have:=HBB.out;have:=hS.2.2.2;omega) _,hS.2.2.1.trans (bC ((Below.refl _ _).alloc lr _)),by simp;have:=hS.2.2.2;omega⟩) (fun hS=>?_)
  clear hK K
  (try simp only[Act.put,pq])
  refine ry [9] ?_
  refine arQ fun K hK=>?_
  have HL:=hid (bV b b j w5.heap.size 5 [(⟨#[100,101,108,105,118,101,114]⟩:ByteArray),x.nm,(aF x.nu),at',qx] (w5.alloc (.cells #[.string (⟨#[100,101,108,105,118,101,114]⟩:ByteArray),.string x.nm,.string (aF x.nu),.string at',.string qx] 9)) (aU w5 [(⟨#[100,101,108,105,118,101,114]⟩:ByteArray),x.nm,(aF x.nu),at',qx] _) (by simp) (by simp) (by simp) HLZ.out HI6.out (by have:=HBB.out;have:=hS.2.2.2;omega))
  go_simp;go_at_call 79;refine HL.out.mono ?_
  rintro e w7 ⟨rfl,hiw7,hbw7,how7⟩
  have HIZ:=hid hiw7
  clear HL hiw7
  refine hK.out _ _ (⟨how7 _ _ hS.1 (by simp;have:=HBB.out;omega) (by intro c fz;simp),hS.2.1.trans hbw7,hS.2.2.1.trans how7,by have:=hbw7.size;have:=hS.2.2.2;omega⟩) (fun hS=>?_)
  clear hK K
  (try simp only[Act.put,pq])
  refine wpAnyH_done (by kernel_rfl) ?_ _
  (try dsimp only)
  have HS9:=hid hS
  clear hS
  go_wp2
  exact bodyPost_ret (results_none rfl _ _ _) rfl ⟨rfl,HRES.out _ HIZ.out,HS9.out.2.1,HS9.out.2.2.1⟩
 ·have hx1:(x.k==1)=false:=by rw[HXK.out];simpa using h1
  have he2:=HE2.out h1
  have he4:=HE4.out h1
  have HLZ:Hid (∀u,u=x.un→j.b.length+(lnB [zE,x.nm,aF x.nu,at',x.nd,aF x.ca,wDo u,tb]).length≤140737488355328):=hid (fun u hu=>by have:=HZ.out;rw[he2] at this;rw[hu];exact this)
  have HRES:Hid (∀{u w'},u=x.un→IsJw 141 b b ⟨j.b++lnB [zE,x.nm,aF x.nu,at',x.nd,aF x.ca,wDo u,tb],orL [j.e,er]⟩ w'→IsJw 141 b b ⟨j.b++cY d,orL [j.e,fR d]⟩ w'):=hid (fun hu h=>by rw[he2,he4,←hu];exact h)
  have HI3D:Hid (IsJw 141 b b j w3.drew):=hid HI3.out
  clear HE1 HE2 HE3 HE4 HZ he2 he4 h1
  obtain⟨u,hu⟩:∃u,u=x.un:=⟨_,rfl⟩
  have HU:=hid hu
  rw[←hu] at b10
  clear hu
  cases u with
  | true =>
    go_upto_region 7 with (fail)
    clear b0 b10
    refine wp_region_held_drew (S:=(fun w'=>w'.heap[w.heap.size]?=some (.cells #[.int .i64 x.k,.string x.nm,.int .i64 x.nu,.string x.tx,.int .i64 x.st.e,.slice x.st.a x.st.n x.st.c,.int .i64 x.rs.e,.slice x.rs.a x.rs.n x.rs.c,.string x.sv,.int .i64 x.ca,.bool x.un,.int .i64 x.bd.k,.int .i64 x.bd.i,.int .i64 x.bd.s,.string x.bd.t,.slice x.bd.la x.bd.ll x.bd.lc,.slice x.bd.fa x.bd.fl x.bd.fc,.string x.nd] 75)∧Below b w w'∧Lib.OthersKept 5 (some b) w w'∧w.heap.size<w'.heap.size)) (by kernel_rfl) (⟨HS3.out.1,HS3.out.2.1.drew,HS3.out.2.2.1,HS3.out.2.2.2⟩) (fun hS=>?_)
    refine tkQ 0 (v:=?_) ?_ hS ?_;rotate_left;· intro w' hw';have hcells:=HC.out w' hw';go_simp;(try rfl)
    simp only[Act.put,pq]
    refine tkQ 1 (v:=?_) ?_ hS ?_;rotate_left;· intro w' hw';have hcells:=HC.out w' hw';go_simp;(try rfl)
    simp only[Act.put,pq]
    refine tkQ 2 (v:=?_) ?_ hS ?_;rotate_left;· intro w' hw';have hcells:=HC.out w' hw';go_simp;(try rfl)
    simp only[Act.put,pq]
    refine tkQ 3 (v:=?_) ?_ hS ?_;rotate_left;· intro w' hw';have hcells:=HC.out w' hw';go_simp;(try rfl)
    simp only[Act.put,pq]
    refine tkQ 4 (v:=?_) ?_ hS ?_;rotate_left;· intro w' hw';have hcells:=HC.out w' hw';go_simp;(try rfl)
    simp only[Act.put,pq]
    refine tkQ 5 (v:=?_) ?_ hS ?_;rotate_left;· intro w' hw';have hcells:=HC.out w' hw';go_simp;(try rfl)
    simp only[Act.put,pq]
    refine tkQ 6 (v:=?_) ?_ hS ?_;rotate_left;· intro w' hw';have hcells:=HC.out w' hw';go_simp;(try rfl)
    simp only[Act.put,pq]
    refine tkQ 7 (v:=?_) ?_ hS ?_;rotate_left;· intro w' hw';have hcells:=HC.out w' hw';go_simp;(try rfl)
    simp only[Act.put,pq]
    refine tkQ 8 (v:=?_) ?_ hS ?_;rotate_left;· intro w' hw';have hcells:=HC.out w' hw';go_simp;(try rfl)
    simp only[Act.put,pq]
    refine tkQ 9 (v:=?_) ?_ hS ?_;rotate_left;· intro w' hw';have hcells:=HC.out w' hw';go_simp;(try rfl)
    simp only[Act.put,pq]
    refine tkQ 11 (v:=?_) ?_ hS ?_;rotate_left;· intro w' hw';have hcells:=HC.out w' hw';go_simp;(try rfl)
    simp only[Act.put,pq]
    refine tkQ 12 (v:=?_) ?_ hS ?_;rotate_left;· intro w' hw';have hcells:=HC.out w' hw';go_simp;(try rfl)
    simp only[Act.put,pq]
    refine tkQ 13 (v:=?_) ?_ hS ?_;rotate_left;· intro w' hw';have hcells:=HC.out w' hw';go_simp;(try rfl)
    simp only[Act.put,pq]
    refine tkQ 14 (v:=?_) ?_ hS ?_;rotate_left;· intro w' hw';have hcells:=HC.out w' hw';go_simp;(try rfl)
    simp only[Act.put,pq]
    refine tkQ 15 (v:=?_) ?_ hS ?_;rotate_left;· intro w' hw';have hcells:=HC.out w' hw';go_simp;(try rfl)
    simp only[Act.put,pq]
    refine ry [10] ?_
    refine arQ fun K hK=>?_
    go_simp;go_at_call 80;refine(HIT.out x.ca HR.out.2 _ hS.2.1).mono ?_
    rintro e w5 ⟨rfl,hbw5⟩
    have HI5:=hid (HI3D.out.ext hbw5)
    refine hK.out _ _ (⟨aB hbw5 hS.1,hS.2.1.trans (hbw5.mono (by have:=HBB.out;have:=hS.2.2.2;omega)),hS.2.2.1.trans (bC hbw5),by have:=hbw5.size;have:=hS.2.2.2;omega⟩) (fun hS=>?_)
    clear hK K
    (try simp only[Act.put,pq])
    refine ry [16] ?_
    refine arQ fun K hK=>?_
    go_simp;go_at_call 142;refine(HLT.out _ hS.2.1).mono ?_
    rintro e w6 ⟨rfl,hbw6⟩
    have HI6:=hid (HI5.out.ext hbw6)
    refine hK.out _ _ (⟨aB hbw6 hS.1,hS.2.1.trans (hbw6.mono (by have:=HBB.out;have:=hS.2.2.2;omega)),hS.2.2.1.trans (bC hbw6),by have:=hbw6.size;have:=hS.2.2.2;omega⟩) (fun hS=>?_)
    clear hK K
    (try simp only[Act.put,pq])
    refine tkQ 17 (v:=?_) ?_ hS ?_;rotate_left;· intro w' hw';have hcells:=HC.out w' hw';go_simp;(try rfl)
    simp only[Act.put,pq]
    refine tkQ 18 (v:=?_) ?_ hS ?_;rotate_left;· intro w' hw';have hcells:=HC.out w' hw';go_simp;(try rfl)
    simp only[Act.put,pq]
    refine ry [19] ?_
    refine arQ fun K hK=>?_
    have HTX:=hid (eZ b b j tb er _ HI6.out (by have:=HBB.out;have:=hS.2.2.2;omega))
    go_simp;go_at_call 82;refine HTX.out.mono ?_
    rintro r w7 ⟨rfl,hiw7,hbw7,how7⟩
    have HI7:=hid hiw7
    clear HTX hiw7
    refine hK.out _ _ (⟨how7 _ _ hS.1 (by simp;have:=HBB.out;omega) (by intro c fz;simp),hS.2.1.trans hbw7,hS.2.2.1.trans how7,by have:=hbw7.size;have:=hS.2.2.2;omega⟩) (fun hS=>?_)
    clear hK K
    (try simp only[Act.put,pq])
    refine ry [20] ?_
    refine arQ fun K hK=>?_
    go_simp
    have HI8:=hid (HI7.out.ext ((Below.refl _ w7).alloc lr (.cells #[.string (⟨#[114,101,113,117,101,115,116]⟩:ByteArray),.string x.nm,.string (aF x.nu),.string at',.string x.nd,.string (aF x.ca),.string (⟨#[117,110,100,111]⟩:ByteArray),.string tb] 9)))
    refine hK.out _ _ (⟨aC _ hS.1,hS.2.1.alloc (by have:=HBB.out;have:=hS.2.2.2;omega) _,hS.2.2.1.trans (bC ((Below.refl _ _).alloc lr _)),by simp;have:=hS.2.2.2;omega⟩) (fun hS=>?_)
    clear hK K
    (try simp only[Act.put,pq])
    refine ry [21] ?_
    refine arQ fun K hK=>?_
    have HL:=hid (bV b b ⟨j.b,orL [j.e,er]⟩ w7.heap.size 8 [(⟨#[114,101,113,117,101,115,116]⟩:ByteArray),x.nm,(aF x.nu),at',x.nd,(aF x.ca),(⟨#[117,110,100,111]⟩:ByteArray),tb] (w7.alloc (.cells #[.string (⟨#[114,101,113,117,101,115,116]⟩:ByteArray),.string x.nm,.string (aF x.nu),.string at',.string x.nd,.string (aF x.ca),.string (⟨#[117,110,100,111]⟩:ByteArray),.string tb] 9)) (aU w7 [(⟨#[114,101,113,117,101,115,116]⟩:ByteArray),x.nm,(aF x.nu),at',x.nd,(aF x.ca),(⟨#[117,110,100,111]⟩:ByteArray),tb] _) (by simp) (by simp) (by simp) (HLZ.out true HU.out) HI8.out (by have:=HBB.out;have:=hS.2.2.2;omega))
    go_simp;go_at_call 79;refine HL.out.mono ?_
    rintro e w9 ⟨rfl,hiw9,hbw9,how9⟩
    have HIZ:=hid hiw9
    clear HL hiw9
    refine hK.out _ _ (⟨how9 _ _ hS.1 (by simp;have:=HBB.out;omega) (by intro c fz;simp),hS.2.1.trans hbw9,hS.2.2.1.trans how9,by have:=hbw9.size;have:=hS.2.2.2;omega⟩) (fun hS=>?_)
    clear hK K
    (try simp only[Act.put,pq])
    refine wpAnyH_done (by kernel_rfl) ?_ _
    (try dsimp only)
    have HS9:=hid hS
    clear hS
    go_wp2
    exact bodyPost_end (results_none rfl _ _ _) rfl ⟨rfl,HRES.out HU.out HIZ.out,HS9.out.2.1,HS9.out.2.2.1⟩
  | false =>
    go_upto_region 7 with (fail)
    clear b0 b10
    refine wp_region_held_drew (S:=(fun w'=>w'.heap[w.heap.size]?=some (.cells #[.int .i64 x.k,.string x.nm,.int .i64 x.nu,.string x.tx,.int .i64 x.st.e,.slice x.st.a x.st.n x.st.c,.int .i64 x.rs.e,.slice x.rs.a x.rs.n x.rs.c,.string x.sv,.int .i64 x.ca,.bool x.un,.int .i64 x.bd.k,.int .i64 x.bd.i,.int .i64 x.bd.s,.string x.bd.t,.slice x.bd.la x.bd.ll x.bd.lc,.slice x.bd.fa x.bd.fl x.bd.fc,.string x.nd] 75)∧Below b w w'∧Lib.OthersKept 5 (some b) w w'∧w.heap.size<w'.heap.size)) (by kernel_rfl) (⟨HS3.out.1,HS3.out.2.1.drew,HS3.out.2.2.1,HS3.out.2.2.2⟩) (fun hS=>?_)
    refine tkQ 0 (v:=?_) ?_ hS ?_;rotate_left;· intro w' hw';have hcells:=HC.out w' hw';go_simp;(try rfl)
    simp only[Act.put,pq]
    refine tkQ 1 (v:=?_) ?_ hS ?_;rotate_left;· intro w' hw';have hcells:=HC.out w' hw';go_simp;(try rfl)
    simp only[Act.put,pq]
    refine tkQ 2 (v:=?_) ?_ hS ?_;rotate_left;· intro w' hw';have hcells:=HC.out w' hw';go_simp;(try rfl)
    simp only[Act.put,pq]
    refine tkQ 3 (v:=?_) ?_ hS ?_;rotate_left;· intro w' hw';have hcells:=HC.out w' hw';go_simp;(try rfl)
    simp only[Act.put,pq]
    refine tkQ 4 (v:=?_) ?_ hS ?_;rotate_left;· intro w' hw';have hcells:=HC.out w' hw';go_simp;(try rfl)
    simp only[Act.put,pq]
    refine tkQ 5 (v:=?_) ?_ hS ?_;rotate_left;· intro w' hw';have hcells:=HC.out w' hw';go_simp;(try rfl)
    simp only[Act.put,pq]
    refine tkQ 6 (v:=?_) ?_ hS ?_;rotate_left;· intro w' hw';have hcells:=HC.out w' hw';go_simp;(try rfl)
    simp only[Act.put,pq]
    refine tkQ 7 (v:=?_) ?_ hS ?_;rotate_left;· intro w' hw';have hcells:=HC.out w' hw';go_simp;(try rfl)
    simp only[Act.put,pq]
    refine tkQ 8 (v:=?_) ?_ hS ?_;rotate_left;· intro w' hw';have hcells:=HC.out w' hw';go_simp;(try rfl)
    simp only[Act.put,pq]
    refine tkQ 9 (v:=?_) ?_ hS ?_;rotate_left;· intro w' hw';have hcells:=HC.out w' hw';go_simp;(try rfl)
    simp only[Act.put,pq]
    refine tkQ 11 (v:=?_) ?_ hS ?_;rotate_left;· intro w' hw';have hcells:=HC.out w' hw';go_simp;(try rfl)
    simp only[Act.put,pq]
    refine tkQ 12 (v:=?_) ?_ hS ?_;rotate_left;· intro w' hw';have hcells:=HC.out w' hw';go_simp;(try rfl)
    simp only[Act.put,pq]
    refine tkQ 13 (v:=?_) ?_ hS ?_;rotate_left;· intro w' hw';have hcells:=HC.out w' hw';go_simp;(try rfl)
    simp only[Act.put,pq]
    refine tkQ 14 (v:=?_) ?_ hS ?_;rotate_left;· intro w' hw';have hcells:=HC.out w' hw';go_simp;(try rfl)
    simp only[Act.put,pq]
    refine tkQ 15 (v:=?_) ?_ hS ?_;rotate_left;· intro w' hw';have hcells:=HC.out w' hw';go_simp;(try rfl)
    simp only[Act.put,pq]
    refine ry [10] ?_
    refine arQ fun K hK=>?_
    go_simp;go_at_call 80;refine(HIT.out x.ca HR.out.2 _ hS.2.1).mono ?_
    rintro e w5 ⟨rfl,hbw5⟩
    have HI5:=hid (HI3D.out.ext hbw5)
    refine hK.out _ _ (⟨aB hbw5 hS.1,hS.2.1.trans (hbw5.mono (by have:=HBB.out;have:=hS.2.2.2;omega)),hS.2.2.1.trans (bC hbw5),by have:=hbw5.size;have:=hS.2.2.2;omega⟩) (fun hS=>?_)
    clear hK K
    (try simp only[Act.put,pq])
    refine ry [16] ?_
    refine arQ fun K hK=>?_
    go_simp;go_at_call 142;refine(HLT.out _ hS.2.1).mono ?_
    rintro e w6 ⟨rfl,hbw6⟩
    have HI6:=hid (HI5.out.ext hbw6)
    refine hK.out _ _ (⟨aB hbw6 hS.1,hS.2.1.trans (hbw6.mono (by have:=HBB.out;have:=hS.2.2.2;omega)),hS.2.2.1.trans (bC hbw6),by have:=hbw6.size;have:=hS.2.2.2;omega⟩) (fun hS=>?_)
    clear hK K
    (try simp only[Act.put,pq])
    refine tkQ 17 (v:=?_) ?_ hS ?_;rotate_left;· intro w' hw';have hcells:=HC.out w' hw';go_simp;(try rfl)
    simp only[Act.put,pq]
    refine tkQ 18 (v:=?_) ?_ hS ?_;rotate_left;· intro w' hw';have hcells:=HC.out w' hw';go_simp;(try rfl)
    simp only[Act.put,pq]
    refine ry [19] ?_
    refine arQ fun K hK=>?_
    have HTX:=hid (eZ b b j tb er _ HI6.out (by have:=HBB.out;have:=hS.2.2.2;omega))
    go_simp;go_at_call 82;refine HTX.out.mono ?_
    rintro r w7 ⟨rfl,hiw7,hbw7,how7⟩
    have HI7:=hid hiw7
    clear HTX hiw7
    refine hK.out _ _ (⟨how7 _ _ hS.1 (by simp;have:=HBB.out;omega) (by intro c fz;simp),hS.2.1.trans hbw7,hS.2.2.1.trans how7,by have:=hbw7.size;have:=hS.2.2.2;omega⟩) (fun hS=>?_)
    clear hK K
    (try simp only[Act.put,pq])
    refine ry [20] ?_
    refine arQ fun K hK=>?_
    go_simp
    have HI8:=hid (HI7.out.ext ((Below.refl _ w7).alloc lr (.cells #[.string (⟨#[114,101,113,117,101,115,116]⟩:ByteArray),.string x.nm,.string (aF x.nu),.string at',.string x.nd,.string (aF x.ca),.string (⟨#[100,111]⟩:ByteArray),.string tb] 9)))
    refine hK.out _ _ (⟨aC _ hS.1,hS.2.1.alloc (by have:=HBB.out;have:=hS.2.2.2;omega) _,hS.2.2.1.trans (bC ((Below.refl _ _).alloc lr _)),by simp;have:=hS.2.2.2;omega⟩) (fun hS=>?_)
    clear hK K
    (try simp only[Act.put,pq])
    refine ry [21] ?_
    refine arQ fun K hK=>?_
    have HL:=hid (bV b b ⟨j.b,orL [j.e,er]⟩ w7.heap.size 8 [(⟨#[114,101,113,117,101,115,116]⟩:ByteArray),x.nm,(aF x.nu),at',x.nd,(aF x.ca),(⟨#[100,111]⟩:ByteArray),tb] (w7.alloc (.cells #[.string (⟨#[114,101,113,117,101,115,116]⟩:ByteArray),.string x.nm,.string (aF x.nu),.string at',.string x.nd,.string (aF x.ca),.string (⟨#[100,111]⟩:ByteArray),.string tb] 9)) (aU w7 [(⟨#[114,101,113,117,101,115,116]⟩:ByteArray),x.nm,(aF x.nu),at',x.nd,(aF x.ca),(⟨#[100,111]⟩:ByteArray),tb] _) (by simp) (by simp) (by simp) (HLZ.out false HU.out) HI8.out (by have:=HBB.out;have:=hS.2.2.2;omega))
    go_simp;go_at_call 79;refine HL.out.mono ?_
    rintro e w9 ⟨rfl,hiw9,hbw9,how9⟩
    have HIZ:=hid hiw9
    clear HL hiw9
    refine hK.out _ _ (⟨how9 _ _ hS.1 (by simp;have:=HBB.out;omega) (by intro c fz;simp),hS.2.1.trans hbw9,hS.2.2.1.trans how9,by have:=hbw9.size;have:=hS.2.2.2;omega⟩) (fun hS=>?_)
    clear hK K
    (try simp only[Act.put,pq])
    refine wpAnyH_done (by kernel_rfl) ?_ _
    (try dsimp only)
    have HS9:=hid hS
    clear hS
    go_wp2
    exact bodyPost_end (results_none rfl _ _ _) rfl ⟨rfl,HRES.out HU.out HIZ.out,HS9.out.2.1,HS9.out.2.2.1⟩
end
end Go.Proofs.YteladbdfiannjaaGreatDoor
