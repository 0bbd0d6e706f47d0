/- A part. -/
import Derived.Test.YteladbdfiannjaaGreatDoorSX18Mrg
import Derived.Test.YteladbdfiannjaaGreatDoorSX12Mrg
import Derived.Maps.AppendAt
namespace Go.Proofs.YteladbdfiannjaaGreatDoor
set_option linter.unusedVariables false
set_option maxRecDepth 100000
set_option maxHeartbeats 64000000
set_option linter.unusedSimpArgs false
section
open Go Go.RowKit Go.Shelf
def cK:List Msg→List Msg→Int × List Msg
 | acc,[]=>(0,acc)
 | acc,m :: r=>if acc.length=256 then (9,acc) else if dB m≠0 then (dB m,acc) else if nW acc m.st=true then (7,acc) else cK (acc++[m]) r
def iR:Nat→List Val→Int × Nat
 | k,[]=>(0,k)
 | k,v :: r=>if k=4096 then (9,k) else if bP v≠0 then (bP v,k) else iR (k+1) r
def aV (acc:List Msg) (nv:Nat) (d:Slot):Int × List Msg × Nat :=
 if uB d.n d.t≠0 then (uB d.n d.t,acc,nv) else if (cK acc d.items).1≠0 then ((cK acc d.items).1,(cK acc d.items).2,nv) else ((iR nv d.vals).1,(cK acc d.items).2,(iR nv d.vals).2)
structure ChkAt (CT ME B cb:Nat) (w w':World) (acc:List Msg) (nv:Nat) (iv:Value):Prop where
 k:KeepB B w [(cb,.cells #[iv,.int .i64 nv] CT)] w'
 r:Kept msgK ME B w' iv acc.length acc
 n:∀r,iv.ownBlock=some r→r≠cb
 m:acc.length≤256
 v:nv≤4096
def vQ (B cb:Nat) (acc:List Msg) (nv:Nat) (d:Slot) (w:World) (e:Ending) (w':World):Prop :=
 e=.returned (.int .i64 (aV acc nv d).1)∧Below B w w'∧B≤w'.heap.size∧((aV acc nv d).1=0→∃iv,ChkAt 170 68 B cb w w' (aV acc nv d).2.1 (aV acc nv d).2.2 iv)
theorem jN (W:World) (hT:Tabs W) (B cb:Nat) (c:SlC) (d:Slot) (acc0:List Msg) (nv:Nat) (iv:Value) (w:World) (hW:Below W.heap.size W w) (hWB:W.heap.size≤B) (hcb:B≤cb) (hd:IsSl (· < B) w c d) (hk:ChkAt 170 68 B cb w w acc0 nv iv) :
 Calls Tryz.prog 107 #[.pointer (some ⟨cb,0,none⟩),c.v] w (vQ B cb acc0 nv d w):=by
 obtain⟨ti,hi,hz0,hz1,hz2⟩:=info_parts infoMsg
 obtain⟨⟨kk,ki,ks,kt,kla,kll,klc,kfa,kfl,kfc⟩,cn,ct,ia,il,ic,wa,wl,wc⟩:=c
 have hcw:cb<w.heap.size:=bT (hk.k.at 0 (by simp))
 have hbig:=hd.items.big
 have hbig2:=hd.vals.big
 have HLI:=hid hd.items.len
 have HLV:=hid hd.vals.len
 have HDI:=hid hd.items
 have HDV:=hid hd.vals
 have HNT:=hid (And.intro hd.n hd.t)
 have HCB:=hid (And.intro hcb hcw)
 have TAB:Hid (∀w',Below B w w'→Tabs w'):=hid fun w' h=>hT.below (hW.trans (h.mono hWB))
 dsimp only at hbig hbig2 HLI HLV HDI HDV HNT
 -- the box
 obtain⟨wb,hwb⟩:∃wb,wb=w.alloc (.cells #[.int .i64 kk,.int .i64 ki,.int .i64 ks,.string kt,.slice kla kll klc,.slice kfa kfl kfc,.int .i64 cn,.int .i64 ct,.slice ia il ic,.slice wa wl wc] 133):=⟨_,rfl⟩
 have hkb:KeepB B w [(cb,(.cells #[iv,.int .i64 (nv:Nat)] 170)),(w.heap.size,(.cells #[.int .i64 kk,.int .i64 ki,.int .i64 ks,.string kt,.slice kla kll klc,.slice kfa kfl kfc,.int .i64 cn,.int .i64 ct,.slice ia il ic,.slice wa wl wc] 133))] wb:=by
  rw[hwb]
  have h1:=(hk.k.ext ((bR w).alloc lr _)).cons (heap_alloc_new w (.cells #[.int .i64 kk,.int .i64 ki,.int .i64 ks,.string kt,.slice kla kll klc,.slice kfa kfl kfc,.int .i64 cn,.int .i64 ct,.slice ia il ic,.slice wa wl wc] 133))
  exact h1.sub (by intro p hp;simp only[List.mem_cons,List.mem_nil_iff,or_false,List.not_mem_nil] at hp ⊢;rcases hp with h | h<;>simp[h])
 have hrb:Kept msgK 68 B wb iv acc0.length acc0:=by rw[hwb];exact hk.r.ext hk.k.n ((bR w).alloc lr _)
 have hnb:∀r,iv.ownBlock=some r→r≠cb∧r≠w.heap.size:=fun r e=>⟨hk.n r e,by have:=(hk.r.own r e).2;omega⟩
 have hm:=hk.m
 have hv:=hk.v
 have HWB:=hid hwb
 have HKB:=hid hkb
 have HRB:=hid hrb
 have HNB:=hid hnb
 clear hd hk hwb hkb hrb hnb hW hT hWB hcb hcw
 have e0:=hid (heap_alloc_new w (.cells #[.int .i64 kk,.int .i64 ki,.int .i64 ks,.string kt,.slice kla kll klc,.slice kfa kfl kfc,.int .i64 cn,.int .i64 ct,.slice ia il ic,.slice wa wl wc] 133))
 have c6:=aA e0.out 6
 have c7:=aA e0.out 7
 have c8:=aA e0.out 8
 (try dsimp only at c6 c7 c8)
 dsimp only[SlC.v]
 go_enter Tryz.func107,Tryz.ntmps107
 obtain⟨u,hu⟩:∃u,u=uB cn ct:=⟨_,rfl⟩
 have HU:=hid hu
 have HNU:Hid (∀w',Calls Tryz.prog 103 #[.int .i64 cn,.int .i64 ct] w' fun e w2=>e=.returned (.int .i64 u)∧w'=w2):=hid fun w'=>by rw[hu];exact lC cn ct w'
 clear hu
 by_cases hu0:u=0
 case neg =>
  have r:=hid (show(aV acc0 nv d).1=u by rw[aV,←HNT.out.1,←HNT.out.2,←HU.out,if_pos hu0])
  go_wp2_with (go_at_call 103;refine(HNU.out _).mono ?_;rintro e w2 ⟨rfl,rfl⟩)
  go_ret
  refine⟨retI r.out.symm,?_,?_,fun h=>absurd (r.out.symm.trans h) hu0⟩
  ·rw[←HWB.out];exact HKB.out.b
  ·rw[←HWB.out];exact HKB.out.n
 case pos =>
 subst hu0
 have R0:=hid (show aV acc0 nv d=if (cK acc0 d.items).1≠0 then ((cK acc0 d.items).1,(cK acc0 d.items).2,nv) else ((iR nv d.vals).1,(cK acc0 d.items).2,(iR nv d.vals).2) by rw[aV,←HNT.out.1,←HNT.out.2,←HU.out,if_neg (by decide)])
 go_wp2_with (go_at_call 103;refine(HNU.out _).mono ?_;rintro e w2 ⟨rfl,rfl⟩)
 clear c6 c7 c8
 rw[←HWB.out]
 go_loopw [23] (fun i wr=>∃(k:Nat) (iv:Value) (acc:List Msg),k≤il∧i=.int .i64 k∧KeepB B w [(cb,(.cells #[iv,.int .i64 (nv:Nat)] 170)),(w.heap.size,(.cells #[.int .i64 kk,.int .i64 ki,.int .i64 ks,.string kt,.slice kla kll klc,.slice kfa kfl kfc,.int .i64 cn,.int .i64 ct,.slice ia il ic,.slice wa wl wc] 133))] wr∧Kept msgK 68 B wr iv acc.length acc∧(∀r,iv.ownBlock=some r→r≠cb∧r≠w.heap.size)∧cK acc0 d.items=cK acc (d.items.drop k)∧acc.length≤256) (fun i _=>il-(intOf i).toNat)
 case atStart=>exact⟨0,iv,acc0,Nat.zero_le _,rfl,HKB.out,HRB.out,HNB.out,by rw[List.drop_zero],hm⟩
 case round =>
 obtain⟨k,iv1,acc,hki,rfl,hkb,hrb,hnb,hit,hm1⟩:=hrel
 obtain⟨wp,rfl⟩:∃w1:World,w1=wr:=⟨_,rfl⟩
 clear HKB HRB HNB HWB hm e0 iv
 have HIT:=hid hit
 clear hit
 obtain⟨va,vcap,rfl,hvc⟩:=hrb.shape
 by_cases hlt:k<il
 ·have hkl:k<d.items.length:=by have:=HLI.out;omega
  obtain⟨b,o,rfl,hb,hx⟩:=HDI.out.slot (show 0<il by omega)
  obtain⟨x,hxa,hxi⟩:=hx k hkl
  obtain⟨x0,x1,x2,x3,x4,x5,x6,x7,x8,x9⟩:=(hxa.same (hkb.b.block b hb)).m
  have hlt':(k:Int)<(il:Int):=by omega
  have hk0:(0:Int)≤(k:Int):=by omega
  have hro:=hrb.own
  have hK3:KeepB B w [(cb,(.cells #[.slice va acc.length vcap,.int .i64 (nv:Nat)] 170)),(w.heap.size,(.cells #[.int .i64 kk,.int .i64 ki,.int .i64 ks,.string kt,.slice kla kll klc,.slice kfa kfl kfc,.int .i64 cn,.int .i64 ct,.slice (some ⟨b,o,none⟩) il ic,.slice wa wl wc] 133)),(wp.heap.size,(.cells #[.int .i64 x.st.e,.slice x.st.a x.st.n x.st.c,.int .i64 x.m,.slice x.a x.n x.c,.int .i64 x.b.k,.int .i64 x.b.i,.int .i64 x.b.s,.string x.b.t,.slice x.b.la x.b.ll x.b.lc,.slice x.b.fa x.b.fl x.b.fc] 68))] (wp.alloc (.cells #[.int .i64 x.st.e,.slice x.st.a x.st.n x.st.c,.int .i64 x.m,.slice x.a x.n x.c,.int .i64 x.b.k,.int .i64 x.b.i,.int .i64 x.b.s,.string x.b.t,.slice x.b.la x.b.ll x.b.lc,.slice x.b.fa x.b.fl x.b.fc] 68)):=by
   have h1:=(hkb.ext ((Below.refl _ wp).alloc lr _)).cons (heap_alloc_new wp (.cells #[.int .i64 x.st.e,.slice x.st.a x.st.n x.st.c,.int .i64 x.m,.slice x.a x.n x.c,.int .i64 x.b.k,.int .i64 x.b.i,.int .i64 x.b.s,.string x.b.t,.slice x.b.la x.b.ll x.b.lc,.slice x.b.fa x.b.fl x.b.fc] 68))
   exact h1.sub (by intro p hp;simp only[List.mem_cons,List.mem_nil_iff,or_false,List.not_mem_nil] at hp ⊢;rcases hp with h | h | h<;>simp[h])
  have HC3:Hid (∀w',KeepB B w [(cb,(.cells #[.slice va acc.length vcap,.int .i64 (nv:Nat)] 170)),(w.heap.size,(.cells #[.int .i64 kk,.int .i64 ki,.int .i64 ks,.string kt,.slice kla kll klc,.slice kfa kfl kfc,.int .i64 cn,.int .i64 ct,.slice (some ⟨b,o,none⟩) il ic,.slice wa wl wc] 133)),(wp.heap.size,(.cells #[.int .i64 x.st.e,.slice x.st.a x.st.n x.st.c,.int .i64 x.m,.slice x.a x.n x.c,.int .i64 x.b.k,.int .i64 x.b.i,.int .i64 x.b.s,.string x.b.t,.slice x.b.la x.b.ll x.b.lc,.slice x.b.fa x.b.fl x.b.fc] 68))] w'→(w'.cell? ⟨cb,0,none⟩=some (.slice va acc.length vcap)∧w'.cell? ⟨cb,1,none⟩=some (.int .i64 (nv:Nat)))∧(w'.cell? ⟨wp.heap.size,0,none⟩=some (.int .i64 x.st.e)∧w'.cell? ⟨wp.heap.size,1,none⟩=some (.slice x.st.a x.st.n x.st.c)∧w'.cell? ⟨wp.heap.size,2,none⟩=some (.int .i64 x.m)∧w'.cell? ⟨wp.heap.size,3,none⟩=some (.slice x.a x.n x.c)∧w'.cell? ⟨wp.heap.size,4,none⟩=some (.int .i64 x.b.k)∧w'.cell? ⟨wp.heap.size,5,none⟩=some (.int .i64 x.b.i)∧w'.cell? ⟨wp.heap.size,6,none⟩=some (.int .i64 x.b.s)∧w'.cell? ⟨wp.heap.size,7,none⟩=some (.string x.b.t)∧w'.cell? ⟨wp.heap.size,8,none⟩=some (.slice x.b.la x.b.ll x.b.lc)∧w'.cell? ⟨wp.heap.size,9,none⟩=some (.slice x.b.fa x.b.fl x.b.fc))):=hid fun w' h=>⟨⟨aA (h.at 0 (by simp)) 0,aA (h.at 0 (by simp)) 1⟩,aA (h.at 2 (by simp)) 0,aA (h.at 2 (by simp)) 1,aA (h.at 2 (by simp)) 2,aA (h.at 2 (by simp)) 3,aA (h.at 2 (by simp)) 4,aA (h.at 2 (by simp)) 5,aA (h.at 2 (by simp)) 6,aA (h.at 2 (by simp)) 7,aA (h.at 2 (by simp)) 8,aA (h.at 2 (by simp)) 9⟩
  have RD:Hid (∀w',Below B w w'→B≤w'.heap.size→IsMsg (· < w'.heap.size) w' x d.items[k]):=hid fun w' h hn=>hxi.same fun b q=>⟨by omega,h.block b q⟩
  have HROW:Hid (∀w',Below (wp.alloc (.cells #[.int .i64 x.st.e,.slice x.st.a x.st.n x.st.c,.int .i64 x.m,.slice x.a x.n x.c,.int .i64 x.b.k,.int .i64 x.b.i,.int .i64 x.b.s,.string x.b.t,.slice x.b.la x.b.ll x.b.lc,.slice x.b.fa x.b.fl x.b.fc] 68)).heap.size (wp.alloc (.cells #[.int .i64 x.st.e,.slice x.st.a x.st.n x.st.c,.int .i64 x.m,.slice x.a x.n x.c,.int .i64 x.b.k,.int .i64 x.b.i,.int .i64 x.b.s,.string x.b.t,.slice x.b.la x.b.ll x.b.lc,.slice x.b.fa x.b.fl x.b.fc] 68)) w'→IsRow msgK (· < w'.heap.size) w' va acc.length vcap acc):=hid fun w' h=>(hrb.ext hkb.n (((Below.refl _ wp).alloc lr _).trans (h.mono (by simp)))).row (Nat.le_trans hK3.n h.size) (by dsimp only;omega)
  have HK3:=hid hK3
  have HSZ:=hid (show cb<wp.heap.size∧w.heap.size<wp.heap.size from⟨bT (hkb.at 0 (by simp)),bT (hkb.at 1 (by simp))⟩)
  have HXI:=hid (show IsMsg (· < B) w x d.items[k] from hxi)
  have HRO:=hid hro
  have HNB:=hid hnb
  have HRB:=hid hrb
  have HKB:=hid hkb
  clear hxa hxi hx hkb hrb hnb hro hb hK3
  obtain⟨⟨q0,q1⟩,m0,m1,m2,m3,m4,m5,m6,m7,m8,m9⟩:=HC3.out _ HK3.out
  by_cases ha:acc.length=256
  ·have ha1:(acc.length:Int)=256:=by omega
   have ha2:((acc.length:Int)==256)=true:=by simp[ha1]
   have hi9:cK acc0 d.items=(9,acc):=by rw[HIT.out,List.drop_eq_getElem_cons hkl,cK,if_pos ha]
   have r:=hid (show(aV acc0 nv d).1=9 by rw[R0.out,hi9];rfl)
   clear hi9
   go_wp2
   go_ret
   exact⟨retI r.out.symm,HK3.out.b,HK3.out.n,fun h=>absurd (r.out.symm.trans h) (by decide)⟩
  have ha1:¬ (acc.length:Int)=256:=by omega
  have ha2:((acc.length:Int)==256)=false:=by simp;omega
  have HA6:=hid ha
  clear ha
  obtain⟨v,hv2⟩:∃v,v=dB d.items[k]:=⟨_,rfl⟩
  have HE0:=hid hv2
  have HMC:Hid (Calls Tryz.prog 111 #[.agg #[.int .i64 x.st.e,.slice x.st.a x.st.n x.st.c,.int .i64 x.m,.slice x.a x.n x.c,.int .i64 x.b.k,.int .i64 x.b.i,.int .i64 x.b.s,.string x.b.t,.slice x.b.la x.b.ll x.b.lc,.slice x.b.fa x.b.fl x.b.fc]] (wp.alloc (.cells #[.int .i64 x.st.e,.slice x.st.a x.st.n x.st.c,.int .i64 x.m,.slice x.a x.n x.c,.int .i64 x.b.k,.int .i64 x.b.i,.int .i64 x.b.s,.string x.b.t,.slice x.b.la x.b.ll x.b.lc,.slice x.b.fa x.b.fl x.b.fc] 68)) fun e w'=>e=.returned (.int .i64 v)∧Below (wp.alloc (.cells #[.int .i64 x.st.e,.slice x.st.a x.st.n x.st.c,.int .i64 x.m,.slice x.a x.n x.c,.int .i64 x.b.k,.int .i64 x.b.i,.int .i64 x.b.s,.string x.b.t,.slice x.b.la x.b.ll x.b.lc,.slice x.b.fa x.b.fl x.b.fc] 68)).heap.size (wp.alloc (.cells #[.int .i64 x.st.e,.slice x.st.a x.st.n x.st.c,.int .i64 x.m,.slice x.a x.n x.c,.int .i64 x.b.k,.int .i64 x.b.i,.int .i64 x.b.s,.string x.b.t,.slice x.b.la x.b.ll x.b.lc,.slice x.b.fa x.b.fl x.b.fc] 68)) w'):=hid (by rw[hv2];exact cQ x _ _ (RD.out _ HK3.out.b HK3.out.n) (TAB.out _ HK3.out.b))
  clear hv2
  by_cases hv0:v=0
  case neg =>
   have hi9:cK acc0 d.items=(v,acc):=by rw[HIT.out,List.drop_eq_getElem_cons hkl,cK,if_neg HA6.out,←HE0.out,if_pos hv0]
   have r:=hid (show(aV acc0 nv d).1=v by rw[R0.out,hi9,if_pos hv0])
   clear hi9
   go_wp2_with (go_at_call 111;refine HMC.out.mono ?_;rintro e w2 ⟨rfl,hb2⟩)
   go_ret
   exact⟨retI r.out.symm,(HK3.out.ext hb2).b,(HK3.out.ext hb2).n,fun h=>absurd (r.out.symm.trans h) hv0⟩
  case pos =>
  subst hv0
  obtain⟨p,hp⟩:∃p,p=nW acc d.items[k].st:=⟨_,rfl⟩
  have HH0:=hid hp
  have HHM:Hid (∀w',Below (wp.alloc (.cells #[.int .i64 x.st.e,.slice x.st.a x.st.n x.st.c,.int .i64 x.m,.slice x.a x.n x.c,.int .i64 x.b.k,.int .i64 x.b.i,.int .i64 x.b.s,.string x.b.t,.slice x.b.la x.b.ll x.b.lc,.slice x.b.fa x.b.fl x.b.fc] 68)).heap.size (wp.alloc (.cells #[.int .i64 x.st.e,.slice x.st.a x.st.n x.st.c,.int .i64 x.m,.slice x.a x.n x.c,.int .i64 x.b.k,.int .i64 x.b.i,.int .i64 x.b.s,.string x.b.t,.slice x.b.la x.b.ll x.b.lc,.slice x.b.fa x.b.fl x.b.fc] 68)) w'→Calls Tryz.prog 174 #[.slice va acc.length vcap,.func (.func 175) #[] #[.pointer (some ⟨wp.heap.size,0,none⟩)]] w' fun e w2=>e=.returned (.bool p)∧Below w'.heap.size w' w2):=hid fun w' h=>by
   rw[hp]
   have hk:=HK3.out.ext h
   exact aAm va acc.length vcap acc x.st _ wp.heap.size w' (HROW.out w' h) (RD.out w' hk.b hk.n).st (aA (hk.at 2 (by simp)) 0) (aA (hk.at 2 (by simp)) 1)
  clear hp
  cases p with
  | true =>
    have hi9:cK acc0 d.items=(7,acc):=by rw[HIT.out,List.drop_eq_getElem_cons hkl,cK,if_neg HA6.out,←HE0.out,if_neg (by decide),if_pos HH0.out.symm]
    have r:=hid (show(aV acc0 nv d).1=7 by rw[R0.out,hi9];rfl)
    clear hi9
    go_wp2_with (first
     | (go_at_call 174;refine(HHM.out _ hb2).mono ?_;rintro e w3 ⟨rfl,hb3⟩)
     | (go_at_call 111;refine HMC.out.mono ?_;rintro e w2 ⟨rfl,hb2⟩;clear q0 q1 m0 m1 m2 m3 m4 m5 m6 m7 m8 m9;obtain⟨⟨q0,q1⟩,m0,m1,m2,m3,m4,m5,m6,m7,m8,m9⟩:=HC3.out _ (HK3.out.ext hb2)))
    go_ret
    exact⟨retI r.out.symm,((HK3.out.ext hb2).ext hb3).b,((HK3.out.ext hb2).ext hb3).n,fun h=>absurd (r.out.symm.trans h) (by decide)⟩
  | false =>
    go_upto_region 14 with (first
     | (go_at_call 174;refine(HHM.out _ hb2).mono ?_;rintro e w3 ⟨rfl,hb3⟩)
     | (go_at_call 111;refine HMC.out.mono ?_;rintro e w2 ⟨rfl,hb2⟩;clear q0 q1 m0 m1 m2 m3 m4 m5 m6 m7 m8 m9;obtain⟨⟨q0,q1⟩,m0,m1,m2,m3,m4,m5,m6,m7,m8,m9⟩:=HC3.out _ (HK3.out.ext hb2)))
    clear q0 q1 m0 m1 m2 m3 m4 m5 m6 m7 m8 m9
    have hs3:=(HK3.out.ext hb2).ext hb3
    have hs3d:=hs3.ext ((Below.refl _ w3).drew)
    have hbp:Below wp.heap.size wp w3.drew:=(((Below.refl _ wp).alloc lr _).trans ((hb2.trans (hb3.mono hb2.size)).mono (by simp))).drew
    obtain⟨cs,hcs,hl0,hown,hel⟩:=HRB.out.ext HKB.out.n hbp
    have HS3:=hid (show wp.heap.size<w3.heap.size from bT (hs3.at 2 (by simp)))
    have HS3D:=hid hs3d
    have HXD:=hid (HXI.out.same (S':=(· < B)) (w':=w3.drew) fun b q=>⟨q,hs3d.b.block b q⟩)
    have HOWN:=hid hown
    have HEL:=hid hel
    have HCL:=hid hcs
    have HNE:=hid (show ∀r,(Value.slice va acc.length vcap).ownBlock=some r→B≤r∧∀p∈([(cb,(.cells #[.slice va acc.length vcap,.int .i64 (nv:Nat)] 170)),(w.heap.size,(.cells #[.int .i64 kk,.int .i64 ki,.int .i64 ks,.string kt,.slice kla kll klc,.slice kfa kfl kfc,.int .i64 cn,.int .i64 ct,.slice (some ⟨b,o,none⟩) il ic,.slice wa wl wc] 133)),(wp.heap.size,(.cells #[.int .i64 x.st.e,.slice x.st.a x.st.n x.st.c,.int .i64 x.m,.slice x.a x.n x.c,.int .i64 x.b.k,.int .i64 x.b.i,.int .i64 x.b.s,.string x.b.t,.slice x.b.la x.b.ll x.b.lc,.slice x.b.fa x.b.fl x.b.fc] 68))]:List (Nat × Obj)),p.1≠r from fun r e=>⟨(HRO.out r e).1,fun p hp=>by
     have h1:=HNB.out r e
     have h2:=(HRO.out r e).2
     simp only[List.mem_cons,List.not_mem_nil,or_false] at hp
     rcases hp with rfl | rfl | rfl
     ·exact fun h=>h1.1 h.symm
     ·exact fun h=>h1.2 h.symm
     ·exact fun h=>by dsimp only at h;omega⟩)
    have hcap1:acc.length+1≤maxLen:=by unfold maxLen;omega
    have hcap2:(acc.length+1) * 152≤140737488355328:=by omega
    clear hs3 hs3d hbp hown hel hcs hl0 hb2 hb3 HHM HMC HROW RD TAB x0 x1 x2 x3 x4 x5 x6 x7 x8 x9
    refine bY 8 (fun w'=>KeepB B w [(cb,(.cells #[.slice va acc.length vcap,.int .i64 (nv:Nat)] 170)),(w.heap.size,(.cells #[.int .i64 kk,.int .i64 ki,.int .i64 ks,.string kt,.slice kla kll klc,.slice kfa kfl kfc,.int .i64 cn,.int .i64 ct,.slice (some ⟨b,o,none⟩) il ic,.slice wa wl wc] 133)),(wp.heap.size,(.cells #[.int .i64 x.st.e,.slice x.st.a x.st.n x.st.c,.int .i64 x.m,.slice x.a x.n x.c,.int .i64 x.b.k,.int .i64 x.b.i,.int .i64 x.b.s,.string x.b.t,.slice x.b.la x.b.ll x.b.lc,.slice x.b.fa x.b.fl x.b.fc] 68))] w') (by kernel_rfl) (by kernel_rfl) (by kernel_rfl) (by decide) (HS3D.out) (fun hS=>?_)
    simp only[zdm,zdn,zdp,zdq]
    refine tkQ 0 (v:=?_) ?_ hS ?_;rotate_left;· intro w' hw';have hcells:=HC3.out w' hw';go_simp;(try rfl)
    simp only[Act.put,pq]
    refine tkQ 1 (v:=?_) ?_ hS ?_;rotate_left;· intro w' hw';have hcells:=HC3.out w' hw';go_simp;(try rfl)
    simp only[Act.put,pq]
    refine tkQ 2 (v:=?_) ?_ hS ?_;rotate_left;· intro w' hw';have hcells:=HC3.out w' hw';go_simp;(try rfl)
    simp only[Act.put,pq]
    refine tkQ 3 (v:=?_) ?_ hS ?_;rotate_left;· intro w' hw';have hcells:=HC3.out w' hw';go_simp;(try rfl)
    simp only[Act.put,pq]
    refine tkQ 4 (v:=?_) ?_ hS ?_;rotate_left;· intro w' hw';have hcells:=HC3.out w' hw';go_simp;(try rfl)
    simp only[Act.put,pq]
    refine tkQ 5 (v:=?_) ?_ hS ?_;rotate_left;· intro w' hw';have hcells:=HC3.out w' hw';go_simp;(try rfl)
    simp only[Act.put,pq]
    refine ry [6] ?_
    refine arQ fun K hK=>?_
    go_simp
    refine hK.out _ _ (hS.ext ((Below.refl _ _).alloc lr _)) (fun hS=>?_)
    clear hK K
    (try simp only[Act.put,pq])
    refine ry [7] ?_
    refine arQ fun K hK=>?_
    refine step_append_lies _ (by rfl) _ _ _ (by rfl) B 68 ti _ 10 152 Tryz.underlying131 hi hz0 hz1 hz2 rfl (by omega) (.slice va acc.length vcap) acc.length (cs.flatMap MC.cs) (by rfl) (HOWN.out.alloc _) ⟨w3.heap.size,0,none⟩ 1 1 (MC.cs x) (by rfl) (by rfl) (World.news_of_block (heap_alloc_new w3.drew _)) (by simp[MC.cs,Value.oneCell']) (by omega) hcap1 hcap2 hS.n _ rfl ?_
    intro gg cap5 w6 hown2 hgrow hat hlt2
    have hS6:=hS.grown hgrow HNE.out
    have HO2:=hid hown2
    have HG:=hid hgrow
    have HAT:=hid hat
    clear hown2 hgrow hat hlt2
    refine hK.out _ _ (hS6) (fun hS=>?_)
    clear hK K
    (try simp only[Act.put,pq])
    refine wpAnyH_done (by kernel_rfl) ?_ _
    (try dsimp only)
    have HS6:=hid hS
    have hc6:=hS.at 0 (by simp)
    dsimp only[List.getElem_cons_zero] at hc6
    clear hS hS6 hi hz0 hz1 hz2
    have z0:=aA hc6 0
    have zf0:=aE hc6 0
    (try dsimp only at z0)
    clear hc6
    go_wp2
    go_roundw
    case rel =>
     have hk2:Kept msgK 68 B w6 (.slice (some ⟨gg,0,none⟩) (acc.length+1) cap5) (acc.length+1) (acc++[d.items[k]]) :=
      Kept.push (K:=msgK) (w1:=w3.drew) (c:=x) HCL.out rfl HEL.out HS3D.out.n HXD.out (fun r e=>(HNE.out r e).1) HO2.out HG.out
     have hat:=HAT.out
     have hs3:=HS3.out
     have hsz3:=HSZ.out
     have hcb:=HCB.out
     refine⟨k+1,.slice (some ⟨gg,0,none⟩) (acc.length+1) cap5,acc++[d.items[k]],by omega,by go_num,?_,?_,fun r e=>?_,?_,by simp;omega⟩
     ·exact(HS6.out.set (o:=0) (.slice (some ⟨gg,0,none⟩) (acc.length+1) cap5) HCB.out.1 (by simp;omega)).sub (by simp)
     ·rw[List.length_append]
      refine hk2.set _ _ HCB.out.1 (fun e=>?_)
      have hr:gg=cb:=Option.some.inj e
      rcases hat with h | h
      ·exact(HNE.out gg h).2 _ (List.mem_cons_self ..) hr.symm
      ·rw[h] at hr;simp at hr;omega
     ·have hr:r=gg:=(Option.some.inj e).symm
      subst hr
      rcases hat with h | h
      ·have h1:=(HNE.out r h).2
       exact⟨fun e=>h1 _ (List.mem_cons_self ..) e.symm,fun e=>h1 _ (List.mem_cons_of_mem _ (List.mem_cons_self ..)) e.symm⟩
      ·rw[h];simp;omega
     ·rw[HIT.out,List.drop_eq_getElem_cons hkl,cK,if_neg HA6.out,←HE0.out,if_neg (by decide),←HH0.out,if_neg (by decide)]
    case measure=>simp[intOf];omega
 ·obtain rfl:k=il:=by omega
  have hi0:cK acc0 d.items=(0,acc):=by rw[HIT.out,show k=d.items.length from HLI.out,List.drop_length,cK]
  have R1:=hid (show aV acc0 nv d=((iR nv d.vals).1,acc,(iR nv d.vals).2) by rw[R0.out,hi0,if_neg (show ¬ ((0:Int),acc).1≠0 from fun h=>h rfl)])
  have HNB:=hid hnb
  have c9:=aA (hkb.at 1 (by simp)) 9
  (try dsimp only[List.getElem_cons_zero,List.getElem_cons_succ] at c9)
  have HKB:=hid (hkb.sub (l':=[(cb,(.cells #[.slice va acc.length vcap,.int .i64 (nv:Nat)] 170))]) (by intro p hp;simp only[List.mem_cons,List.not_mem_nil,or_false] at hp;simp[hp]))
  have HRB:=hid hrb
  clear hi0 hnb hkb hrb HIT hi hz0 hz1 hz2
  go_wp2
  clear c9
  go_loopw [58] (fun i wr=>∃(q kv:Nat),q≤wl∧i=.int .i64 q∧KeepB B w [(cb,(.cells #[.slice va acc.length vcap,.int .i64 (kv:Nat)] 170))] wr∧Kept msgK 68 B wr (.slice va acc.length vcap) acc.length acc∧iR nv d.vals=iR kv (d.vals.drop q)∧kv≤4096) (fun i _=>wl-(intOf i).toNat)
  case atStart=>exact⟨0,nv,Nat.zero_le _,rfl,HKB.out,HRB.out,by rw[List.drop_zero],hv⟩
  case round =>
  obtain⟨q,kv,hq,rfl,hkb,hrb,hvt,hkv⟩:=hrel
  obtain⟨wq,rfl⟩:∃w1:World,w1=wr:=⟨_,rfl⟩
  clear HKB HRB
  have HVT:=hid hvt
  clear hvt
  by_cases hlt:q<wl
  ·have hql:q<d.vals.length:=by have:=HLV.out;omega
   obtain⟨b,o,rfl,hb,hx⟩:=HDV.out.slot (show 0<wl by omega)
   obtain⟨x,hxa,hxi⟩:=hx q hql
   obtain⟨x0,x1,x2,x3,x4,x5⟩:=(hxa.same (hkb.b.block b hb)).val
   have hlt':(q:Int)<(wl:Int):=by omega
   have hq0:(0:Int)≤(q:Int):=by omega
   have hK2:KeepB B w [(cb,(.cells #[.slice va acc.length vcap,.int .i64 (kv:Nat)] 170)),(wq.heap.size,(.cells #[.int .i64 x.k,.int .i64 x.i,.int .i64 x.s,.string x.t,.slice x.la x.ll x.lc,.slice x.fa x.fl x.fc] 66))] (wq.alloc (.cells #[.int .i64 x.k,.int .i64 x.i,.int .i64 x.s,.string x.t,.slice x.la x.ll x.lc,.slice x.fa x.fl x.fc] 66)):=by
    have h1:=(hkb.ext ((Below.refl _ wq).alloc lr _)).cons (heap_alloc_new wq (.cells #[.int .i64 x.k,.int .i64 x.i,.int .i64 x.s,.string x.t,.slice x.la x.ll x.lc,.slice x.fa x.fl x.fc] 66))
    exact h1.sub (by intro p hp;simp only[List.mem_cons,List.mem_nil_iff,or_false,List.not_mem_nil] at hp ⊢;rcases hp with h | h<;>simp[h])
   have HC2:Hid (∀w',KeepB B w [(cb,(.cells #[.slice va acc.length vcap,.int .i64 (kv:Nat)] 170)),(wq.heap.size,(.cells #[.int .i64 x.k,.int .i64 x.i,.int .i64 x.s,.string x.t,.slice x.la x.ll x.lc,.slice x.fa x.fl x.fc] 66))] w'→(w'.cell? ⟨cb,1,none⟩=some (.int .i64 (kv:Nat))∧w'.frozen? ⟨cb,1,none⟩=false)∧(w'.cell? ⟨wq.heap.size,0,none⟩=some (.int .i64 x.k)∧w'.cell? ⟨wq.heap.size,1,none⟩=some (.int .i64 x.i)∧w'.cell? ⟨wq.heap.size,2,none⟩=some (.int .i64 x.s)∧w'.cell? ⟨wq.heap.size,3,none⟩=some (.string x.t)∧w'.cell? ⟨wq.heap.size,4,none⟩=some (.slice x.la x.ll x.lc)∧w'.cell? ⟨wq.heap.size,5,none⟩=some (.slice x.fa x.fl x.fc))):=hid fun w' h=>⟨⟨aA (h.at 0 (by simp)) 1,aE (h.at 0 (by simp)) 1⟩,aA (h.at 1 (by simp)) 0,aA (h.at 1 (by simp)) 1,aA (h.at 1 (by simp)) 2,aA (h.at 1 (by simp)) 3,aA (h.at 1 (by simp)) 4,aA (h.at 1 (by simp)) 5⟩
   have RD:Hid (IsVal (· < (wq.alloc (.cells #[.int .i64 x.k,.int .i64 x.i,.int .i64 x.s,.string x.t,.slice x.la x.ll x.lc,.slice x.fa x.fl x.fc] 66)).heap.size) (wq.alloc (.cells #[.int .i64 x.k,.int .i64 x.i,.int .i64 x.s,.string x.t,.slice x.la x.ll x.lc,.slice x.fa x.fl x.fc] 66)) x d.vals[q]):=hid (hxi.same fun b q=>⟨by have:=hK2.n;omega,hK2.b.block b q⟩)
   have HK2:=hid hK2
   have HRB:=hid hrb
   have HKB:=hid hkb
   clear hxa hxi hx hkb hrb hb hK2
   obtain⟨⟨q1,q2⟩,m0,m1,m2,m3,m4,m5⟩:=HC2.out _ HK2.out
   by_cases ha:kv=4096
   ·have ha1:(kv:Int)=4096:=by omega
    have ha2:((kv:Int)==4096)=true:=by simp[ha1]
    have r:=hid (show(aV acc0 nv d).1=9 by rw[R1.out,HVT.out,List.drop_eq_getElem_cons hql,iR,if_pos ha])
    clear ha
    go_wp2
    go_ret
    exact⟨retI r.out.symm,HK2.out.b,HK2.out.n,fun h=>absurd (r.out.symm.trans h) (by decide)⟩
   have ha1:¬ (kv:Int)=4096:=by omega
   have ha2:((kv:Int)==4096)=false:=by simp;omega
   have ha3:(kv:Int)≤4096:=by omega
   have ha4:(0:Int)≤(kv:Int):=by omega
   have HA6:=hid ha
   clear ha
   obtain⟨v,hv2⟩:∃v,v=bP d.vals[q]:=⟨_,rfl⟩
   have HE0:=hid hv2
   have HMC:Hid (Calls Tryz.prog 104 #[.agg #[.int .i64 x.k,.int .i64 x.i,.int .i64 x.s,.string x.t,.slice x.la x.ll x.lc,.slice x.fa x.fl x.fc]] (wq.alloc (.cells #[.int .i64 x.k,.int .i64 x.i,.int .i64 x.s,.string x.t,.slice x.la x.ll x.lc,.slice x.fa x.fl x.fc] 66)) fun e w'=>e=.returned (.int .i64 v)∧Below (wq.alloc (.cells #[.int .i64 x.k,.int .i64 x.i,.int .i64 x.s,.string x.t,.slice x.la x.ll x.lc,.slice x.fa x.fl x.fc] 66)).heap.size (wq.alloc (.cells #[.int .i64 x.k,.int .i64 x.i,.int .i64 x.s,.string x.t,.slice x.la x.ll x.lc,.slice x.fa x.fl x.fc] 66)) w'):=hid (by rw[hv2];exact gH x _ _ RD.out (TAB.out _ HK2.out.b))
   clear hv2
   by_cases hv0:v=0
   case neg =>
    have r:=hid (show(aV acc0 nv d).1=v by rw[R1.out,HVT.out,List.drop_eq_getElem_cons hql,iR,if_neg HA6.out,←HE0.out,if_pos hv0])
    go_wp2_with (go_at_call 104;refine HMC.out.mono ?_;rintro e w2 ⟨rfl,hb2⟩)
    go_ret
    exact⟨retI r.out.symm,(HK2.out.ext hb2).b,(HK2.out.ext hb2).n,fun h=>absurd (r.out.symm.trans h) hv0⟩
   case pos =>
   subst hv0
   go_wp2_with (go_at_call 104;refine HMC.out.mono ?_;rintro e w2 ⟨rfl,hb2⟩;clear q1 q2 m0 m1 m2 m3 m4 m5;obtain⟨⟨q1,q2⟩,m0,m1,m2,m3,m4,m5⟩:=HC2.out _ (HK2.out.ext hb2))
   go_roundw
   case rel =>
    have hk4:=HK2.out.ext hb2
    have hr4:=HRB.out.ext HKB.out.n (((Below.refl _ wq).alloc lr (.cells #[.int .i64 x.k,.int .i64 x.i,.int .i64 x.s,.string x.t,.slice x.la x.ll x.lc,.slice x.fa x.fl x.fc] 66)).trans (hb2.mono (by simp)))
    have hsz:cb<wq.heap.size:=bT (HKB.out.at 0 (by simp))
    refine⟨q+1,kv+1,by omega,by go_num,?_,hr4.set _ _ HCB.out.1 (fun e=>(HNB.out cb e).1 rfl),?_,by have:=HA6.out;omega⟩
    ·have h:=hk4.set (o:=1) (.int .i64 ((kv:Int)+1)) HCB.out.1 (by simp;omega)
     rw[show((kv:Int)+1)=((kv+1:Nat):Int) by omega] at h
     exact h.sub (by simp)
    ·rw[HVT.out,List.drop_eq_getElem_cons hql,iR,if_neg HA6.out,←HE0.out,if_neg (by decide)]
   case measure=>simp[intOf];omega
  ·obtain rfl:q=wl:=by omega
   have R2:=hid (show aV acc0 nv d=(0,acc,kv) by rw[R1.out,HVT.out,show q=d.vals.length from HLV.out,List.drop_length,iR])
   go_wp2
   go_ret
   exact⟨retI (by rw[R2.out]),hkb.b,hkb.n,fun _=>by rw[R2.out];exact⟨_,hkb,hrb,fun r e=>(HNB.out r e).1,hm1,hkv⟩⟩
end
section
open Go Go.RowKit Go.Shelf
def cmpP:Option Val→Val→Int
 | none,_=>1
 | some p,x=>dJ x p
def dS (l:List Slot):Nat→Option Val
 | 0=>none
 | k+1=>(l[k]?).map (·.k)
theorem eO (l:List Slot) (k:Nat) (h:k<l.length):dS l (k+1)=some l[k].k:=by rw[dS,List.getElem?_eq_getElem h];rfl
def cJ:Option Val→List Msg→Nat→List Slot→Int
 | _,_,_,[]=>0
 | prev,acc,nv,x :: r=>if bP x.k≠0∧dM x.k=false then bP x.k else if cmpP prev x.k=0 then 7 else if cmpP prev x.k = -1 then 24
   else if (aV acc nv x).1≠0 then (aV acc nv x).1 else cJ (some x.k) (aV acc nv x).2.1 (aV acc nv x).2.2 r
def bB (d:Sta):Int:=if uB d.n d.t≠0 then uB d.n d.t else if 1024<d.l.length then 9 else cJ none [] 0 d.l
theorem ChkAt.self {CT ME B cb:Nat} {w w':World} {acc:List Msg} {nv:Nat} {iv:Value} (h:ChkAt CT ME B cb w w' acc nv iv):ChkAt CT ME B cb w' w' acc nv iv:=⟨⟨Below.refl _ _,h.k.n,h.k.at'⟩,h.r,h.n,h.m,h.v⟩
theorem ChkAt.ext {CT ME B cb:Nat} {w w' w'':World} {acc:List Msg} {nv:Nat} {iv:Value} (h:ChkAt CT ME B cb w w' acc nv iv) (hb:Below w'.heap.size w' w''):ChkAt CT ME B cb w'' w'' acc nv iv :=
 ⟨⟨Below.refl _ _,Nat.le_trans h.k.n hb.size,fun p hp=>aB hb (h.k.at' p hp)⟩,h.r.ext h.k.n hb,h.n,h.m,h.v⟩
def SlotPost' (B cb:Nat) (acc:List Msg) (nv:Nat) (d:Slot) (w:World) (v:Int) (e:Ending) (w':World):Prop :=
 e=.returned (.int .i64 v)∧Below B w w'∧B≤w'.heap.size∧(v=0→∃iv,ChkAt 170 68 B cb w w' (aV acc nv d).2.1 (aV acc nv d).2.2 iv)
theorem slotPost'_of {B cb:Nat} {acc:List Msg} {nv:Nat} {d:Slot} {w:World} {v:Int} {e:Ending} {w':World} (h:vQ B cb acc nv d w e w') (hv:v=(aV acc nv d).1):SlotPost' B cb acc nv d w v e w':=by
 subst hv;exact h
theorem dK (c:StC) (d:Sta) (w:World) (hd:IsSta (· < w.heap.size) w c d) (hT:Tabs w):Calls Tryz.prog 27 #[c.v] w fun e w'=>e=.returned (.int .i64 (bB d))∧Below w.heap.size w w':=by
 obtain⟨sn,st,a,sl,sc⟩:=c
 have hbig:=hd.l.big
 have HL:=hid hd.l.len
 have HDL:=hid hd.l
 have HT:=hid hT
 have HNT:=hid (And.intro hd.n hd.t)
 dsimp only at hbig HL HDL HNT
 obtain⟨wb,hwb⟩:∃wb,wb=(w.alloc (.cells #[.int .i64 sn,.int .i64 st,.slice a sl sc] 55)).alloc (.cells #[.slice none 0 0,.int .i64 0] 170):=⟨_,rfl⟩
 have hb0:Below w.heap.size w wb:=by rw[hwb];exact((bR w).alloc lr _).alloc (by simp) _
 have hsb:wb.heap.size=w.heap.size+2:=by rw[hwb];simp
 have g1:wb.heap[w.heap.size]?=some (.cells #[.int .i64 sn,.int .i64 st,.slice a sl sc] 55):=by rw[hwb];exact aC _ (heap_alloc_new w _)
 have g2:wb.heap[w.heap.size+1]?=some (.cells #[.slice none 0 0,.int .i64 0] 170):=by rw[hwb];exact aM _ _ _ (by simp)
 have hck0:ChkAt 170 68 (w.heap.size+1) (w.heap.size+1) wb wb [] 0 (.slice none 0 0):=⟨⟨Below.refl _ _,by omega,fun p hp=>by simp only[List.mem_cons,List.not_mem_nil,or_false] at hp;rw[hp];exact g2⟩,Kept.nil _ _ _,(fun r e=>by cases e),(by simp),(by omega)⟩
 have HBOX:=hid (heap_alloc_new w (.cells #[.int .i64 sn,.int .i64 st,.slice a sl sc] 55))
 have HWB:=hid hwb
 have HB0:=hid hb0
 have G1:=hid g1
 have HCK0:=hid hck0
 have HSB:=hid hsb
 clear hd hT hwb hb0 hsb g1 g2 hck0
 have k0:=aA HBOX.out 0
 have k1:=aA HBOX.out 1
 have k2:=aA HBOX.out 2
 (try dsimp only at k0 k1 k2)
 dsimp only[StC.v]
 go_enter Tryz.func27,Tryz.ntmps27
 obtain⟨u,hu⟩:∃u,u=uB sn st:=⟨_,rfl⟩
 have HU:=hid hu
 have HNU:Hid (∀w',Calls Tryz.prog 103 #[.int .i64 sn,.int .i64 st] w' fun e w2=>e=.returned (.int .i64 u)∧w'=w2):=hid fun w'=>by rw[hu];exact lC sn st w'
 clear hu
 by_cases hu0:u=0
 case neg =>
  have r:=hid (show bB d=u by rw[bB,←HNT.out.1,←HNT.out.2,←HU.out,if_pos hu0])
  go_wp2_with (go_at_call 103;refine(HNU.out _).mono ?_;rintro e w2 ⟨rfl,rfl⟩)
  go_ret
  exact⟨retI r.out.symm,(bR w).alloc lr _⟩
 case pos =>
 subst hu0
 by_cases hbl:1024<sl
 ·have hbl':(1024:Int)<(sl:Int):=by omega
  have r:=hid (show bB d=9 by rw[bB,←HNT.out.1,←HNT.out.2,←HU.out,if_neg (by decide),if_pos (by rw[←HL.out];exact hbl)])
  go_wp2_with (go_at_call 103;refine(HNU.out _).mono ?_;rintro e w2 ⟨rfl,rfl⟩)
  go_ret
  exact⟨retI r.out.symm,(bR w).alloc lr _⟩
 have hbl':¬ (1024:Int)<(sl:Int):=by omega
 have R0:=hid (show bB d=cJ none [] 0 d.l by rw[bB,←HNT.out.1,←HNT.out.2,←HU.out,if_neg (by decide),if_neg (by rw[←HL.out];exact hbl)])
 go_wp2_with (go_at_call 103;refine(HNU.out _).mono ?_;rintro e w2 ⟨rfl,rfl⟩)
 clear k0 k1 k2 HNU HU HNT HBOX
 rw[←HWB.out]
 go_loopw [24] (fun i wr=>∃(k:Nat) (acc:List Msg) (nv:Nat) (iv:Value),k≤sl∧i=.int .i64 k∧ChkAt 170 68 (w.heap.size+1) (w.heap.size+1) wr wr acc nv iv∧Below (w.heap.size+1) wb wr∧cJ none [] 0 d.l=cJ (dS d.l k) acc nv (d.l.drop k)) (fun i _=>sl-(intOf i).toNat)
 case atStart=>exact⟨0,[],0,_,Nat.zero_le _,rfl,HCK0.out,Below.refl _ _,by rw[List.drop_zero];rfl⟩
 case round =>
 obtain⟨k,acc,nv,iv,hks,rfl,hck,hbwp,hit⟩:=hrel
 obtain⟨wp,rfl⟩:∃w1:World,w1=wr:=⟨_,rfl⟩
 have HIT:=hid hit
 have HCK:=hid hck
 have HBWP:=hid hbwp
 have hsz:w.heap.size+2≤wp.heap.size:=by have:=HSB.out;have:=hbwp.size;omega
 clear hit hck HCK0
 by_cases hlt:k<sl
 ·have hkl:k<d.l.length:=by have:=HL.out;omega
  obtain⟨b,o,rfl,hb,hx⟩:=HDL.out.slot (show 0<sl by omega)
  obtain⟨x,hxa,hxi⟩:=hx k hkl
  have hbw:Below w.heap.size w wp:=HB0.out.trans (hbwp.mono (by omega))
  obtain⟨x0,x1,x2,x3,x4,x5,x6,x7,x8,x9⟩:=(hxa.same (hbw.block b hb)).slot
  have hlt':(k:Int)<(sl:Int):=by omega
  have hk0:(0:Int)≤(k:Int):=by omega
  have hsl:(sl:Int)≤1024:=by omega
  have HB:=hid hb
  have HX:=hid hx
  have HXI:=hid hxi
  have HBA:=hid (show Below (w.heap.size+1) wp (wp.alloc (.cells #[.int .i64 x.k.k,.int .i64 x.k.i,.int .i64 x.k.s,.string x.k.t,.slice x.k.la x.k.ll x.k.lc,.slice x.k.fa x.k.fl x.k.fc,.int .i64 x.n,.int .i64 x.t,.slice x.ia x.il x.ic,.slice x.va x.vl x.vc] 133)) from(Below.refl _ wp).alloc (by omega) _)
  have HBA2:=hid (show Below wp.heap.size wp (wp.alloc (.cells #[.int .i64 x.k.k,.int .i64 x.k.i,.int .i64 x.k.s,.string x.k.t,.slice x.k.la x.k.ll x.k.lc,.slice x.k.fa x.k.fl x.k.fc,.int .i64 x.n,.int .i64 x.t,.slice x.ia x.il x.ic,.slice x.va x.vl x.vc] 133)) from(Below.refl _ wp).alloc lr _)
  have HSA:=hid (show w.heap.size+1≤(wp.alloc (.cells #[.int .i64 x.k.k,.int .i64 x.k.i,.int .i64 x.k.s,.string x.k.t,.slice x.k.la x.k.ll x.k.lc,.slice x.k.fa x.k.fl x.k.fc,.int .i64 x.n,.int .i64 x.t,.slice x.ia x.il x.ic,.slice x.va x.vl x.vc] 133)).heap.size by simp;omega)
  have HC:Hid (∀w',Below (wp.alloc (.cells #[.int .i64 x.k.k,.int .i64 x.k.i,.int .i64 x.k.s,.string x.k.t,.slice x.k.la x.k.ll x.k.lc,.slice x.k.fa x.k.fl x.k.fc,.int .i64 x.n,.int .i64 x.t,.slice x.ia x.il x.ic,.slice x.va x.vl x.vc] 133)).heap.size (wp.alloc (.cells #[.int .i64 x.k.k,.int .i64 x.k.i,.int .i64 x.k.s,.string x.k.t,.slice x.k.la x.k.ll x.k.lc,.slice x.k.fa x.k.fl x.k.fc,.int .i64 x.n,.int .i64 x.t,.slice x.ia x.il x.ic,.slice x.va x.vl x.vc] 133)) w'→(w'.cell? ⟨w.heap.size,0,none⟩=some (.int .i64 sn)∧w'.cell? ⟨w.heap.size,1,none⟩=some (.int .i64 st)∧w'.cell? ⟨w.heap.size,2,none⟩=some (.slice (some ⟨b,o,none⟩) sl sc))∧(w'.cell? ⟨wp.heap.size,0,none⟩=some (.int .i64 x.k.k)∧w'.cell? ⟨wp.heap.size,1,none⟩=some (.int .i64 x.k.i)∧w'.cell? ⟨wp.heap.size,2,none⟩=some (.int .i64 x.k.s)∧w'.cell? ⟨wp.heap.size,3,none⟩=some (.string x.k.t)∧w'.cell? ⟨wp.heap.size,4,none⟩=some (.slice x.k.la x.k.ll x.k.lc)∧w'.cell? ⟨wp.heap.size,5,none⟩=some (.slice x.k.fa x.k.fl x.k.fc)∧w'.cell? ⟨wp.heap.size,6,none⟩=some (.int .i64 x.n)∧w'.cell? ⟨wp.heap.size,7,none⟩=some (.int .i64 x.t)∧w'.cell? ⟨wp.heap.size,8,none⟩=some (.slice x.ia x.il x.ic)∧w'.cell? ⟨wp.heap.size,9,none⟩=some (.slice x.va x.vl x.vc))):=hid fun w' h=>by
   have h1:=aB h (heap_alloc_new wp (.cells #[.int .i64 x.k.k,.int .i64 x.k.i,.int .i64 x.k.s,.string x.k.t,.slice x.k.la x.k.ll x.k.lc,.slice x.k.fa x.k.fl x.k.fc,.int .i64 x.n,.int .i64 x.t,.slice x.ia x.il x.ic,.slice x.va x.vl x.vc] 133))
   have h2:=aB h (aC (.cells #[.int .i64 x.k.k,.int .i64 x.k.i,.int .i64 x.k.s,.string x.k.t,.slice x.k.la x.k.ll x.k.lc,.slice x.k.fa x.k.fl x.k.fc,.int .i64 x.n,.int .i64 x.t,.slice x.ia x.il x.ic,.slice x.va x.vl x.vc] 133) (fY hbwp G1.out (by omega)))
   exact⟨⟨aA h2 0,aA h2 1,aA h2 2⟩,aA h1 0,aA h1 1,aA h1 2,aA h1 3,aA h1 4,aA h1 5,aA h1 6,aA h1 7,aA h1 8,aA h1 9⟩
  have hbwa:Below w.heap.size w (wp.alloc (.cells #[.int .i64 x.k.k,.int .i64 x.k.i,.int .i64 x.k.s,.string x.k.t,.slice x.k.la x.k.ll x.k.lc,.slice x.k.fa x.k.fl x.k.fc,.int .i64 x.n,.int .i64 x.t,.slice x.ia x.il x.ic,.slice x.va x.vl x.vc] 133)):=hbw.alloc hbw.size _
  obtain⟨v,hv⟩:∃v,v=bP d.l[k].k:=⟨_,rfl⟩
  obtain⟨z,hz⟩:∃z,z=dM d.l[k].k:=⟨_,rfl⟩
  have HVC:Hid (Calls Tryz.prog 104 #[.agg #[.int .i64 x.k.k,.int .i64 x.k.i,.int .i64 x.k.s,.string x.k.t,.slice x.k.la x.k.ll x.k.lc,.slice x.k.fa x.k.fl x.k.fc]] (wp.alloc (.cells #[.int .i64 x.k.k,.int .i64 x.k.i,.int .i64 x.k.s,.string x.k.t,.slice x.k.la x.k.ll x.k.lc,.slice x.k.fa x.k.fl x.k.fc,.int .i64 x.n,.int .i64 x.t,.slice x.ia x.il x.ic,.slice x.va x.vl x.vc] 133)) fun e w'=>e=.returned (.int .i64 v)∧Below (wp.alloc (.cells #[.int .i64 x.k.k,.int .i64 x.k.i,.int .i64 x.k.s,.string x.k.t,.slice x.k.la x.k.ll x.k.lc,.slice x.k.fa x.k.fl x.k.fc,.int .i64 x.n,.int .i64 x.t,.slice x.ia x.il x.ic,.slice x.va x.vl x.vc] 133)).heap.size (wp.alloc (.cells #[.int .i64 x.k.k,.int .i64 x.k.i,.int .i64 x.k.s,.string x.k.t,.slice x.k.la x.k.ll x.k.lc,.slice x.k.fa x.k.fl x.k.fc,.int .i64 x.n,.int .i64 x.t,.slice x.ia x.il x.ic,.slice x.va x.vl x.vc] 133)) w'):=hid (by rw[hv];exact gH x.k _ _ (hxi.k.same fun b q=>⟨Nat.lt_of_lt_of_le q hbwa.size,hbwa.block b q⟩) (HT.out.below hbwa))
  have HIS:Hid (∀w',Below (wp.alloc (.cells #[.int .i64 x.k.k,.int .i64 x.k.i,.int .i64 x.k.s,.string x.k.t,.slice x.k.la x.k.ll x.k.lc,.slice x.k.fa x.k.fl x.k.fc,.int .i64 x.n,.int .i64 x.t,.slice x.ia x.il x.ic,.slice x.va x.vl x.vc] 133)).heap.size (wp.alloc (.cells #[.int .i64 x.k.k,.int .i64 x.k.i,.int .i64 x.k.s,.string x.k.t,.slice x.k.la x.k.ll x.k.lc,.slice x.k.fa x.k.fl x.k.fc,.int .i64 x.n,.int .i64 x.t,.slice x.ia x.il x.ic,.slice x.va x.vl x.vc] 133)) w'→Calls Tryz.prog 105 #[.agg #[.int .i64 x.k.k,.int .i64 x.k.i,.int .i64 x.k.s,.string x.k.t,.slice x.k.la x.k.ll x.k.lc,.slice x.k.fa x.k.fl x.k.fc]] w' fun e w2=>e=.returned (.bool z)∧Below w'.heap.size w' w2):=hid fun w' _=>by rw[hz,gD hxi.k];exact bM _ _ _ _ _ _ _ _ _ _ w'
  have HV:=hid hv
  have HZ:=hid hz
  clear hxa hxi hx hb hbw hbwa hv hz hbwp
  obtain⟨⟨q0,q1,q2⟩,m0,m1,m2,m3,m4,m5,m6,m7,m8,m9⟩:=HC.out _ (Below.refl _ _)
  by_cases hv0:v=0
  ·subst hv0
   have HKEY:=hid (show ¬ (bP d.l[k].k≠0∧dM d.l[k].k=false) from fun h=>h.1 HV.out.symm)
   by_cases hkz:k=0
   ·have hkf:decide ((0:Int)<(k:Int))=false:=by simp;omega
    have hkf2:decide (0<k)=false:=by simp;omega
    have HKZ:=hid (show dS d.l k=none by rw[hkz,dS])
    clear hkz
    have HNEXT:=hid (show cJ (dS d.l k) acc nv (d.l.drop k)=if (aV acc nv d.l[k]).1≠0 then (aV acc nv d.l[k]).1 else cJ (some d.l[k].k) (aV acc nv d.l[k]).2.1 (aV acc nv d.l[k]).2.2 (d.l.drop (k+1)) by
     rw[List.drop_eq_getElem_cons hkl,cJ,if_neg HKEY.out,if_neg (by rw[HKZ.out];exact(show ¬ (1:Int)=0 by decide)),if_neg (by rw[HKZ.out];exact(show ¬ (1:Int) = -1 by decide))])
    obtain⟨v2,hv2⟩:∃v2,v2=(aV acc nv d.l[k]).1:=⟨_,rfl⟩
    have HSL:Hid (∀w',Below (wp.alloc (.cells #[.int .i64 x.k.k,.int .i64 x.k.i,.int .i64 x.k.s,.string x.k.t,.slice x.k.la x.k.ll x.k.lc,.slice x.k.fa x.k.fl x.k.fc,.int .i64 x.n,.int .i64 x.t,.slice x.ia x.il x.ic,.slice x.va x.vl x.vc] 133)).heap.size (wp.alloc (.cells #[.int .i64 x.k.k,.int .i64 x.k.i,.int .i64 x.k.s,.string x.k.t,.slice x.k.la x.k.ll x.k.lc,.slice x.k.fa x.k.fl x.k.fc,.int .i64 x.n,.int .i64 x.t,.slice x.ia x.il x.ic,.slice x.va x.vl x.vc] 133)) w'→Calls Tryz.prog 107 #[.pointer (some ⟨w.heap.size+1,0,none⟩),.agg #[.int .i64 x.k.k,.int .i64 x.k.i,.int .i64 x.k.s,.string x.k.t,.slice x.k.la x.k.ll x.k.lc,.slice x.k.fa x.k.fl x.k.fc,.int .i64 x.n,.int .i64 x.t,.slice x.ia x.il x.ic,.slice x.va x.vl x.vc]] w' (SlotPost' (w.heap.size+1) (w.heap.size+1) acc nv d.l[k] w' v2)):=hid fun w' h=>(jN w HT.out (w.heap.size+1) (w.heap.size+1) x d.l[k] acc nv iv w' (HB0.out.trans ((HBWP.out.trans (HBA.out.trans (h.mono HSA.out))).mono (by omega))) (by omega) lr (HXI.out.same fun b q=>⟨by omega,(HB0.out.trans ((HBWP.out.trans (HBA.out.trans (h.mono HSA.out))).mono (by omega))).block b q⟩) (HCK.out.ext (HBA2.out.trans (h.mono (by simp))))).mono fun e w2 h=>slotPost'_of h hv2
    have HV2:=hid hv2
    clear hv2
    by_cases hv20:v2=0
    ·subst hv20
     have hnext:=hid (HNEXT.out.trans (if_neg (fun h=>h HV2.out.symm)))
     go_wp2_with (first
                 | (go_at_call 107;refine(HSL.out _ hb3).mono ?_;rintro e w5 ⟨rfl,hb5,hn5,hc5⟩)
                 | (go_at_call 104;refine HVC.out.mono ?_;rintro e w3 ⟨rfl,hb3⟩;clear q0 q1 q2 m0 m1 m2 m3 m4 m5 m6 m7 m8 m9;obtain⟨⟨q0,q1,q2⟩,m0,m1,m2,m3,m4,m5,m6,m7,m8,m9⟩:=HC.out _ (hb3)))
     go_roundw
     case rel =>
      obtain⟨iv5,hck5⟩:=hc5 (by first | rfl | trivial)
      exact⟨k+1,(aV acc nv d.l[k]).2.1,(aV acc nv d.l[k]).2.2,iv5,by omega,by go_num,hck5.self,HBWP.out.trans ((HBA.out.trans (hb3.mono HSA.out)).trans hb5),by rw[HIT.out,hnext.out,eO d.l k hkl]⟩
     case measure=>simp[intOf];omega
    ·have r:=hid (show bB d=v2 by rw[R0.out,HIT.out,HNEXT.out,if_pos (by rw[←HV2.out];exact hv20),HV2.out])
     go_wp2_with (first
                 | (go_at_call 107;refine(HSL.out _ hb3).mono ?_;rintro e w5 ⟨rfl,hb5,hn5,hc5⟩)
                 | (go_at_call 104;refine HVC.out.mono ?_;rintro e w3 ⟨rfl,hb3⟩;clear q0 q1 q2 m0 m1 m2 m3 m4 m5 m6 m7 m8 m9;obtain⟨⟨q0,q1,q2⟩,m0,m1,m2,m3,m4,m5,m6,m7,m8,m9⟩:=HC.out _ (hb3)))
     go_ret
     exact⟨retI r.out.symm,HB0.out.trans ((HBWP.out.trans ((HBA.out.trans (hb3.mono HSA.out)).trans hb5)).mono (by omega))⟩
   ·obtain⟨k1,hk1⟩:∃k1,k=k1+1:=⟨k-1,by omega⟩
    have hwr:IntKind.i64.wrap ((k:Int)-1)=(k:Int)-1:=IntWalk.i64_in _ (by omega)
    have hk1':(0:Int)≤(k:Int)-1:=by omega
    have hk1'':(1:Int)≤(k:Int):=by omega
    have hk1N:1≤k:=by omega
    have hk2':(k:Int)-1<(sl:Int):=by omega
    have hkt:k-1=k1:=by omega
    have hkf:decide ((0:Int)<(k:Int))=true:=by simp;omega
    have hkf2:decide (0<k)=true:=by simp;omega
    have hk1l:k1<d.l.length:=by omega
    obtain⟨y,hya,hyi⟩:=HX.out k1 hk1l
    obtain⟨cc,hcc⟩:∃cc,cc=dJ d.l[k].k d.l[k1].k:=⟨_,rfl⟩
    have HPK:dS d.l k=some d.l[k1].k:=by rw[show dS d.l k=dS d.l (k1+1) by rw[hk1]];exact eO d.l k1 hk1l
    have HCC:=hid (show cc=cmpP (dS d.l k) d.l[k].k by rw[hcc,HPK];rfl)
    clear HPK
    have HY:Hid (∀w',Below (wp.alloc (.cells #[.int .i64 x.k.k,.int .i64 x.k.i,.int .i64 x.k.s,.string x.k.t,.slice x.k.la x.k.ll x.k.lc,.slice x.k.fa x.k.fl x.k.fc,.int .i64 x.n,.int .i64 x.t,.slice x.ia x.il x.ic,.slice x.va x.vl x.vc] 133)).heap.size (wp.alloc (.cells #[.int .i64 x.k.k,.int .i64 x.k.i,.int .i64 x.k.s,.string x.k.t,.slice x.k.la x.k.ll x.k.lc,.slice x.k.fa x.k.fl x.k.fc,.int .i64 x.n,.int .i64 x.t,.slice x.ia x.il x.ic,.slice x.va x.vl x.vc] 133)) w'→w'.cell? ⟨b,o+(k-1) * 10,none⟩=some (.int .i64 y.k.k)∧w'.cell? ⟨b,o+(k-1) * 10+1,none⟩=some (.int .i64 y.k.i)∧w'.cell? ⟨b,o+(k-1) * 10+2,none⟩=some (.int .i64 y.k.s)∧w'.cell? ⟨b,o+(k-1) * 10+3,none⟩=some (.string y.k.t)∧w'.cell? ⟨b,o+(k-1) * 10+4,none⟩=some (.slice y.k.la y.k.ll y.k.lc)∧w'.cell? ⟨b,o+(k-1) * 10+5,none⟩=some (.slice y.k.fa y.k.fl y.k.fc)):=hid fun w' h=>by
     have hw:=HB0.out.trans ((HBWP.out.trans (HBA.out.trans (h.mono HSA.out))).mono (by omega))
     rw[hkt]
     obtain⟨y0,y1,y2,y3,y4,y5,_⟩:=(hya.same (hw.block b HB.out)).slot
     exact⟨y0,y1,y2,y3,y4,y5⟩
    have HCMP:Hid (∀w',Below (wp.alloc (.cells #[.int .i64 x.k.k,.int .i64 x.k.i,.int .i64 x.k.s,.string x.k.t,.slice x.k.la x.k.ll x.k.lc,.slice x.k.fa x.k.fl x.k.fc,.int .i64 x.n,.int .i64 x.t,.slice x.ia x.il x.ic,.slice x.va x.vl x.vc] 133)).heap.size (wp.alloc (.cells #[.int .i64 x.k.k,.int .i64 x.k.i,.int .i64 x.k.s,.string x.k.t,.slice x.k.la x.k.ll x.k.lc,.slice x.k.fa x.k.fl x.k.fc,.int .i64 x.n,.int .i64 x.t,.slice x.ia x.il x.ic,.slice x.va x.vl x.vc] 133)) w'→Calls Tryz.prog 106 #[.agg #[.int .i64 x.k.k,.int .i64 x.k.i,.int .i64 x.k.s,.string x.k.t,.slice x.k.la x.k.ll x.k.lc,.slice x.k.fa x.k.fl x.k.fc],.agg #[.int .i64 y.k.k,.int .i64 y.k.i,.int .i64 y.k.s,.string y.k.t,.slice y.k.la y.k.ll y.k.lc,.slice y.k.fa y.k.fl y.k.fc]] w' fun e w2=>e=.returned (.int .i64 cc)∧Below w'.heap.size w' w2):=hid fun w' h=>by
     have hw:=HB0.out.trans ((HBWP.out.trans (HBA.out.trans (h.mono HSA.out))).mono (by omega))
     have hs:=hw.size
     rw[hcc]
     exact iP x.k y.k _ _ w' (HXI.out.k.same fun b q=>⟨by omega,hw.block b q⟩) (hyi.k.same fun b q=>⟨by omega,hw.block b q⟩)
    clear hya hyi hcc hk1 hkz hkt hk1l
    go_upto_region 14 with (go_at_call 104;refine HVC.out.mono ?_;rintro e w3 ⟨rfl,hb3⟩;clear q0 q1 q2 m0 m1 m2 m3 m4 m5 m6 m7 m8 m9;obtain⟨⟨q0,q1,q2⟩,m0,m1,m2,m3,m4,m5,m6,m7,m8,m9⟩:=HC.out _ (hb3))
    have HC4:Hid (∀w',Below w3.heap.size w3 w'→(w'.cell? ⟨w.heap.size,2,none⟩=some (.slice (some ⟨b,o,none⟩) sl sc))∧(w'.cell? ⟨wp.heap.size,0,none⟩=some (.int .i64 x.k.k)∧w'.cell? ⟨wp.heap.size,1,none⟩=some (.int .i64 x.k.i)∧w'.cell? ⟨wp.heap.size,2,none⟩=some (.int .i64 x.k.s)∧w'.cell? ⟨wp.heap.size,3,none⟩=some (.string x.k.t)∧w'.cell? ⟨wp.heap.size,4,none⟩=some (.slice x.k.la x.k.ll x.k.lc)∧w'.cell? ⟨wp.heap.size,5,none⟩=some (.slice x.k.fa x.k.fl x.k.fc)∧w'.cell? ⟨wp.heap.size,6,none⟩=some (.int .i64 x.n)∧w'.cell? ⟨wp.heap.size,7,none⟩=some (.int .i64 x.t)∧w'.cell? ⟨wp.heap.size,8,none⟩=some (.slice x.ia x.il x.ic)∧w'.cell? ⟨wp.heap.size,9,none⟩=some (.slice x.va x.vl x.vc))∧(w'.cell? ⟨b,o+(k-1) * 10,none⟩=some (.int .i64 y.k.k)∧w'.cell? ⟨b,o+(k-1) * 10+1,none⟩=some (.int .i64 y.k.i)∧w'.cell? ⟨b,o+(k-1) * 10+2,none⟩=some (.int .i64 y.k.s)∧w'.cell? ⟨b,o+(k-1) * 10+3,none⟩=some (.string y.k.t)∧w'.cell? ⟨b,o+(k-1) * 10+4,none⟩=some (.slice y.k.la y.k.ll y.k.lc)∧w'.cell? ⟨b,o+(k-1) * 10+5,none⟩=some (.slice y.k.fa y.k.fl y.k.fc))):=hid fun w' h=>by
     have h1:=HC.out w' (hb3.trans (h.mono hb3.size))
     obtain⟨⟨q0,q1,q2⟩,m0,m1,m2,m3,m4,m5,m6,m7,m8,m9⟩:=h1
     have h2:=HY.out w' (hb3.trans (h.mono hb3.size))
     exact⟨q2,⟨m0,m1,m2,m3,m4,m5,m6,m7,m8,m9⟩,h2⟩
    have HCP:Hid (∀w',Below w3.heap.size w3 w'→Calls Tryz.prog 106 #[.agg #[.int .i64 x.k.k,.int .i64 x.k.i,.int .i64 x.k.s,.string x.k.t,.slice x.k.la x.k.ll x.k.lc,.slice x.k.fa x.k.fl x.k.fc],.agg #[.int .i64 y.k.k,.int .i64 y.k.i,.int .i64 y.k.s,.string y.k.t,.slice y.k.la y.k.ll y.k.lc,.slice y.k.fa y.k.fl y.k.fc]] w' fun e w2=>e=.returned (.int .i64 cc)∧Below w'.heap.size w' w2):=hid fun w' h=>HCMP.out w' (hb3.trans (h.mono hb3.size))
    clear q0 q1 q2 m0 m1 m2 m3 m4 m5 m6 m7 m8 m9
    refine aQ 10 (fun w'=>Below w3.heap.size w3 w') (by kernel_rfl) (by kernel_rfl) (by kernel_rfl) (by decide) ((Below.refl _ _).drew) (fun hS=>?_)
    simp only[zdm,zdn,zdp,zdq]
    refine tkQ 0 (v:=?_) ?_ hS ?_;rotate_left;· intro w' hw';have hcells:=HC4.out w' hw';go_simp;(try rfl)
    simp only[Act.put,pq]
    refine tkQ 1 (v:=?_) ?_ hS ?_;rotate_left;· intro w' hw';have hcells:=HC4.out w' hw';go_simp;(try rfl)
    simp only[Act.put,pq]
    refine tkQ 2 (v:=?_) ?_ hS ?_;rotate_left;· intro w' hw';have hcells:=HC4.out w' hw';go_simp;(try rfl)
    simp only[Act.put,pq]
    refine tkQ 3 (v:=?_) ?_ hS ?_;rotate_left;· intro w' hw';have hcells:=HC4.out w' hw';go_simp;(try rfl)
    simp only[Act.put,pq]
    refine tkQ 4 (v:=?_) ?_ hS ?_;rotate_left;· intro w' hw';have hcells:=HC4.out w' hw';go_simp;(try rfl)
    simp only[Act.put,pq]
    refine tkQ 5 (v:=?_) ?_ hS ?_;rotate_left;· intro w' hw';have hcells:=HC4.out w' hw';go_simp;(try rfl)
    simp only[Act.put,pq]
    refine tkQ 6 (v:=?_) ?_ hS ?_;rotate_left;· intro w' hw';have hcells:=HC4.out w' hw';go_simp;(try rfl)
    simp only[Act.put,pq]
    refine tkQ 7 (v:=?_) ?_ hS ?_;rotate_left;· intro w' hw';have hcells:=HC4.out w' hw';go_simp;(try rfl)
    simp only[Act.put,pq]
    refine tkQ 8 (v:=?_) ?_ hS ?_;rotate_left;· intro w' hw';have hcells:=HC4.out w' hw';go_simp;(try rfl)
    simp only[Act.put,pq]
    refine ry [9] ?_
    refine arQ fun K hK=>?_
    go_simp;go_at_call 106;refine(HCP.out _ hS).mono ?_
    rintro e w4 ⟨rfl,hb4'⟩
    refine hK.out _ _ (hS.trans (hb4'.mono hS.size)) (fun hS=>?_)
    clear hK K
    (try simp only[Act.put,pq])
    refine wpAnyH_done (by kernel_rfl) ?_ _
    (try dsimp only)
    have hb4:=hb3.trans (hS.mono hb3.size)
    have hc4:=HC.out _ hb4
    clear hS HC4 HCP hb4'
    obtain⟨⟨q0,q1,q2⟩,m0,m1,m2,m3,m4,m5,m6,m7,m8,m9⟩:=hc4
    clear q0 q1 q2
    by_cases c0:cc=0
    ·have c0':(cc==0)=true:=by simp[c0]
     have r:=hid (show bB d=7 by rw[R0.out,HIT.out,List.drop_eq_getElem_cons hkl,cJ,if_neg HKEY.out,←HCC.out,if_pos c0])
     go_wp2
     go_ret
     exact⟨retI r.out.symm,HB0.out.trans ((HBWP.out.trans (HBA.out.trans (hb4.mono HSA.out))).mono (by omega))⟩
    by_cases c1:cc = -1
    ·have c1':(cc == -1)=true:=by simp[c1]
     have c0':(cc==0)=false:=by simp[c0]
     have r:=hid (show bB d=24 by rw[R0.out,HIT.out,List.drop_eq_getElem_cons hkl,cJ,if_neg HKEY.out,←HCC.out,if_neg c0,if_pos c1])
     go_wp2
     go_ret
     exact⟨retI r.out.symm,HB0.out.trans ((HBWP.out.trans (HBA.out.trans (hb4.mono HSA.out))).mono (by omega))⟩
    have c0':(cc==0)=false:=by simp[c0]
    have c1':(cc == -1)=false:=by simp[c1]
    have HNEXT:=hid (show cJ (dS d.l k) acc nv (d.l.drop k)=if (aV acc nv d.l[k]).1≠0 then (aV acc nv d.l[k]).1 else cJ (some d.l[k].k) (aV acc nv d.l[k]).2.1 (aV acc nv d.l[k]).2.2 (d.l.drop (k+1)) by rw[List.drop_eq_getElem_cons hkl,cJ,if_neg HKEY.out,←HCC.out,if_neg c0,if_neg c1])
    obtain⟨v2,hv2⟩:∃v2,v2=(aV acc nv d.l[k]).1:=⟨_,rfl⟩
    have HSL:Hid (∀w',Below (wp.alloc (.cells #[.int .i64 x.k.k,.int .i64 x.k.i,.int .i64 x.k.s,.string x.k.t,.slice x.k.la x.k.ll x.k.lc,.slice x.k.fa x.k.fl x.k.fc,.int .i64 x.n,.int .i64 x.t,.slice x.ia x.il x.ic,.slice x.va x.vl x.vc] 133)).heap.size (wp.alloc (.cells #[.int .i64 x.k.k,.int .i64 x.k.i,.int .i64 x.k.s,.string x.k.t,.slice x.k.la x.k.ll x.k.lc,.slice x.k.fa x.k.fl x.k.fc,.int .i64 x.n,.int .i64 x.t,.slice x.ia x.il x.ic,.slice x.va x.vl x.vc] 133)) w'→Calls Tryz.prog 107 #[.pointer (some ⟨w.heap.size+1,0,none⟩),.agg #[.int .i64 x.k.k,.int .i64 x.k.i,.int .i64 x.k.s,.string x.k.t,.slice x.k.la x.k.ll x.k.lc,.slice x.k.fa x.k.fl x.k.fc,.int .i64 x.n,.int .i64 x.t,.slice x.ia x.il x.ic,.slice x.va x.vl x.vc]] w' (SlotPost' (w.heap.size+1) (w.heap.size+1) acc nv d.l[k] w' v2)):=hid fun w' h=>(jN w HT.out (w.heap.size+1) (w.heap.size+1) x d.l[k] acc nv iv w' (HB0.out.trans ((HBWP.out.trans (HBA.out.trans (h.mono HSA.out))).mono (by omega))) (by omega) lr (HXI.out.same fun b q=>⟨by omega,(HB0.out.trans ((HBWP.out.trans (HBA.out.trans (h.mono HSA.out))).mono (by omega))).block b q⟩) (HCK.out.ext (HBA2.out.trans (h.mono (by simp))))).mono fun e w2 h=>slotPost'_of h hv2
    have HV2:=hid hv2
    clear hv2
    by_cases hv20:v2=0
    ·subst hv20
     have hnext:=hid (HNEXT.out.trans (if_neg (fun h=>h HV2.out.symm)))
     go_wp2_with (go_at_call 107;refine(HSL.out _ hb4).mono ?_;rintro e w5 ⟨rfl,hb5,hn5,hc5⟩)
     go_roundw
     case rel =>
      obtain⟨iv5,hck5⟩:=hc5 (by first | rfl | trivial)
      exact⟨k+1,(aV acc nv d.l[k]).2.1,(aV acc nv d.l[k]).2.2,iv5,by omega,by go_num,hck5.self,HBWP.out.trans ((HBA.out.trans (hb4.mono HSA.out)).trans hb5),by rw[HIT.out,hnext.out,eO d.l k hkl]⟩
     case measure=>simp[intOf];omega
    ·have r:=hid (show bB d=v2 by rw[R0.out,HIT.out,HNEXT.out,if_pos (by rw[←HV2.out];exact hv20),HV2.out])
     go_wp2_with (go_at_call 107;refine(HSL.out _ hb4).mono ?_;rintro e w5 ⟨rfl,hb5,hn5,hc5⟩)
     go_ret
     exact⟨retI r.out.symm,HB0.out.trans ((HBWP.out.trans ((HBA.out.trans (hb4.mono HSA.out)).trans hb5)).mono (by omega))⟩
  cases z with
  | false =>
    have r:=hid (show bB d=v by rw[R0.out,HIT.out,List.drop_eq_getElem_cons hkl,cJ,if_pos ⟨by rw[←HV.out];exact hv0,HZ.out.symm⟩,HV.out])
    go_wp2_with (first
                | (go_at_call 105;refine(HIS.out _ hb2).mono ?_;rintro e w3 ⟨rfl,hb3'⟩;have hb3:=hb2.trans (hb3'.mono hb2.size))
                | (go_at_call 104;refine HVC.out.mono ?_;rintro e w2 ⟨rfl,hb2⟩;clear q0 q1 q2 m0 m1 m2 m3 m4 m5 m6 m7 m8 m9;obtain⟨⟨q0,q1,q2⟩,m0,m1,m2,m3,m4,m5,m6,m7,m8,m9⟩:=HC.out _ (hb2)))
    go_ret
    exact⟨retI r.out.symm,HB0.out.trans ((HBWP.out.trans (HBA.out.trans (hb3.mono HSA.out))).mono (by omega))⟩
  | true =>
    have HKEY:=hid (show ¬ (bP d.l[k].k≠0∧dM d.l[k].k=false) from fun h=>by rw[←HZ.out] at h;cases h.2)
    by_cases hkz:k=0
    ·have hkf:decide ((0:Int)<(k:Int))=false:=by simp;omega
     have hkf2:decide (0<k)=false:=by simp;omega
     have HKZ:=hid (show dS d.l k=none by rw[hkz,dS])
     clear hkz
     have HNEXT:=hid (show cJ (dS d.l k) acc nv (d.l.drop k)=if (aV acc nv d.l[k]).1≠0 then (aV acc nv d.l[k]).1 else cJ (some d.l[k].k) (aV acc nv d.l[k]).2.1 (aV acc nv d.l[k]).2.2 (d.l.drop (k+1)) by
      rw[List.drop_eq_getElem_cons hkl,cJ,if_neg HKEY.out,if_neg (by rw[HKZ.out];exact(show ¬ (1:Int)=0 by decide)),if_neg (by rw[HKZ.out];exact(show ¬ (1:Int) = -1 by decide))])
     obtain⟨v2,hv2⟩:∃v2,v2=(aV acc nv d.l[k]).1:=⟨_,rfl⟩
     have HSL:Hid (∀w',Below (wp.alloc (.cells #[.int .i64 x.k.k,.int .i64 x.k.i,.int .i64 x.k.s,.string x.k.t,.slice x.k.la x.k.ll x.k.lc,.slice x.k.fa x.k.fl x.k.fc,.int .i64 x.n,.int .i64 x.t,.slice x.ia x.il x.ic,.slice x.va x.vl x.vc] 133)).heap.size (wp.alloc (.cells #[.int .i64 x.k.k,.int .i64 x.k.i,.int .i64 x.k.s,.string x.k.t,.slice x.k.la x.k.ll x.k.lc,.slice x.k.fa x.k.fl x.k.fc,.int .i64 x.n,.int .i64 x.t,.slice x.ia x.il x.ic,.slice x.va x.vl x.vc] 133)) w'→Calls Tryz.prog 107 #[.pointer (some ⟨w.heap.size+1,0,none⟩),.agg #[.int .i64 x.k.k,.int .i64 x.k.i,.int .i64 x.k.s,.string x.k.t,.slice x.k.la x.k.ll x.k.lc,.slice x.k.fa x.k.fl x.k.fc,.int .i64 x.n,.int .i64 x.t,.slice x.ia x.il x.ic,.slice x.va x.vl x.vc]] w' (SlotPost' (w.heap.size+1) (w.heap.size+1) acc nv d.l[k] w' v2)):=hid fun w' h=>(jN w HT.out (w.heap.size+1) (w.heap.size+1) x d.l[k] acc nv iv w' (HB0.out.trans ((HBWP.out.trans (HBA.out.trans (h.mono HSA.out))).mono (by omega))) (by omega) lr (HXI.out.same fun b q=>⟨by omega,(HB0.out.trans ((HBWP.out.trans (HBA.out.trans (h.mono HSA.out))).mono (by omega))).block b q⟩) (HCK.out.ext (HBA2.out.trans (h.mono (by simp))))).mono fun e w2 h=>slotPost'_of h hv2
     have HV2:=hid hv2
     clear hv2
     by_cases hv20:v2=0
     ·subst hv20
      have hnext:=hid (HNEXT.out.trans (if_neg (fun h=>h HV2.out.symm)))
      go_wp2_with (first
                  | (go_at_call 107;refine(HSL.out _ hb3).mono ?_;rintro e w5 ⟨rfl,hb5,hn5,hc5⟩)
                  | (go_at_call 105;refine(HIS.out _ hb2).mono ?_;rintro e w3 ⟨rfl,hb3'⟩;have hb3:=hb2.trans (hb3'.mono hb2.size);clear q0 q1 q2 m0 m1 m2 m3 m4 m5 m6 m7 m8 m9;obtain⟨⟨q0,q1,q2⟩,m0,m1,m2,m3,m4,m5,m6,m7,m8,m9⟩:=HC.out _ (hb3))
                  | (go_at_call 104;refine HVC.out.mono ?_;rintro e w2 ⟨rfl,hb2⟩;clear q0 q1 q2 m0 m1 m2 m3 m4 m5 m6 m7 m8 m9;obtain⟨⟨q0,q1,q2⟩,m0,m1,m2,m3,m4,m5,m6,m7,m8,m9⟩:=HC.out _ (hb2)))
      go_roundw
      case rel =>
       obtain⟨iv5,hck5⟩:=hc5 (by first | rfl | trivial)
       exact⟨k+1,(aV acc nv d.l[k]).2.1,(aV acc nv d.l[k]).2.2,iv5,by omega,by go_num,hck5.self,HBWP.out.trans ((HBA.out.trans (hb3.mono HSA.out)).trans hb5),by rw[HIT.out,hnext.out,eO d.l k hkl]⟩
      case measure=>simp[intOf];omega
     ·have r:=hid (show bB d=v2 by rw[R0.out,HIT.out,HNEXT.out,if_pos (by rw[←HV2.out];exact hv20),HV2.out])
      go_wp2_with (first
                  | (go_at_call 107;refine(HSL.out _ hb3).mono ?_;rintro e w5 ⟨rfl,hb5,hn5,hc5⟩)
                  | (go_at_call 105;refine(HIS.out _ hb2).mono ?_;rintro e w3 ⟨rfl,hb3'⟩;have hb3:=hb2.trans (hb3'.mono hb2.size);clear q0 q1 q2 m0 m1 m2 m3 m4 m5 m6 m7 m8 m9;obtain⟨⟨q0,q1,q2⟩,m0,m1,m2,m3,m4,m5,m6,m7,m8,m9⟩:=HC.out _ (hb3))
                  | (go_at_call 104;refine HVC.out.mono ?_;rintro e w2 ⟨rfl,hb2⟩;clear q0 q1 q2 m0 m1 m2 m3 m4 m5 m6 m7 m8 m9;obtain⟨⟨q0,q1,q2⟩,m0,m1,m2,m3,m4,m5,m6,m7,m8,m9⟩:=HC.out _ (hb2)))
      go_ret
      exact⟨retI r.out.symm,HB0.out.trans ((HBWP.out.trans ((HBA.out.trans (hb3.mono HSA.out)).trans hb5)).mono (by omega))⟩
    ·obtain⟨k1,hk1⟩:∃k1,k=k1+1:=⟨k-1,by omega⟩
     have hwr:IntKind.i64.wrap ((k:Int)-1)=(k:Int)-1:=IntWalk.i64_in _ (by omega)
     have hk1':(0:Int)≤(k:Int)-1:=by omega
     have hk1'':(1:Int)≤(k:Int):=by omega
     have hk1N:1≤k:=by omega
     have hk2':(k:Int)-1<(sl:Int):=by omega
     have hkt:k-1=k1:=by omega
     have hkf:decide ((0:Int)<(k:Int))=true:=by simp;omega
     have hkf2:decide (0<k)=true:=by simp;omega
     have hk1l:k1<d.l.length:=by omega
     obtain⟨y,hya,hyi⟩:=HX.out k1 hk1l
     obtain⟨cc,hcc⟩:∃cc,cc=dJ d.l[k].k d.l[k1].k:=⟨_,rfl⟩
     have HPK:dS d.l k=some d.l[k1].k:=by rw[show dS d.l k=dS d.l (k1+1) by rw[hk1]];exact eO d.l k1 hk1l
     have HCC:=hid (show cc=cmpP (dS d.l k) d.l[k].k by rw[hcc,HPK];rfl)
     clear HPK
     have HY:Hid (∀w',Below (wp.alloc (.cells #[.int .i64 x.k.k,.int .i64 x.k.i,.int .i64 x.k.s,.string x.k.t,.slice x.k.la x.k.ll x.k.lc,.slice x.k.fa x.k.fl x.k.fc,.int .i64 x.n,.int .i64 x.t,.slice x.ia x.il x.ic,.slice x.va x.vl x.vc] 133)).heap.size (wp.alloc (.cells #[.int .i64 x.k.k,.int .i64 x.k.i,.int .i64 x.k.s,.string x.k.t,.slice x.k.la x.k.ll x.k.lc,.slice x.k.fa x.k.fl x.k.fc,.int .i64 x.n,.int .i64 x.t,.slice x.ia x.il x.ic,.slice x.va x.vl x.vc] 133)) w'→w'.cell? ⟨b,o+(k-1) * 10,none⟩=some (.int .i64 y.k.k)∧w'.cell? ⟨b,o+(k-1) * 10+1,none⟩=some (.int .i64 y.k.i)∧w'.cell? ⟨b,o+(k-1) * 10+2,none⟩=some (.int .i64 y.k.s)∧w'.cell? ⟨b,o+(k-1) * 10+3,none⟩=some (.string y.k.t)∧w'.cell? ⟨b,o+(k-1) * 10+4,none⟩=some (.slice y.k.la y.k.ll y.k.lc)∧w'.cell? ⟨b,o+(k-1) * 10+5,none⟩=some (.slice y.k.fa y.k.fl y.k.fc)):=hid fun w' h=>by
      have hw:=HB0.out.trans ((HBWP.out.trans (HBA.out.trans (h.mono HSA.out))).mono (by omega))
      rw[hkt]
      obtain⟨y0,y1,y2,y3,y4,y5,_⟩:=(hya.same (hw.block b HB.out)).slot
      exact⟨y0,y1,y2,y3,y4,y5⟩
     have HCMP:Hid (∀w',Below (wp.alloc (.cells #[.int .i64 x.k.k,.int .i64 x.k.i,.int .i64 x.k.s,.string x.k.t,.slice x.k.la x.k.ll x.k.lc,.slice x.k.fa x.k.fl x.k.fc,.int .i64 x.n,.int .i64 x.t,.slice x.ia x.il x.ic,.slice x.va x.vl x.vc] 133)).heap.size (wp.alloc (.cells #[.int .i64 x.k.k,.int .i64 x.k.i,.int .i64 x.k.s,.string x.k.t,.slice x.k.la x.k.ll x.k.lc,.slice x.k.fa x.k.fl x.k.fc,.int .i64 x.n,.int .i64 x.t,.slice x.ia x.il x.ic,.slice x.va x.vl x.vc] 133)) w'→Calls Tryz.prog 106 #[.agg #[.int .i64 x.k.k,.int .i64 x.k.i,.int .i64 x.k.s,.string x.k.t,.slice x.k.la x.k.ll x.k.lc,.slice x.k.fa x.k.fl x.k.fc],.agg #[.int .i64 y.k.k,.int .i64 y.k.i,.int .i64 y.k.s,.string y.k.t,.slice y.k.la y.k.ll y.k.lc,.slice y.k.fa y.k.fl y.k.fc]] w' fun e w2=>e=.returned (.int .i64 cc)∧Below w'.heap.size w' w2):=hid fun w' h=>by
      have hw:=HB0.out.trans ((HBWP.out.trans (HBA.out.trans (h.mono HSA.out))).mono (by omega))
      have hs:=hw.size
      rw[hcc]
      exact iP x.k y.k _ _ w' (HXI.out.k.same fun b q=>⟨by omega,hw.block b q⟩) (hyi.k.same fun b q=>⟨by omega,hw.block b q⟩)
     clear hya hyi hcc hk1 hkz hkt hk1l
     go_upto_region 14 with (first
      | (go_at_call 105;refine(HIS.out _ hb2).mono ?_;rintro e w3 ⟨rfl,hb3'⟩;have hb3:=hb2.trans (hb3'.mono hb2.size);clear q0 q1 q2 m0 m1 m2 m3 m4 m5 m6 m7 m8 m9;obtain⟨⟨q0,q1,q2⟩,m0,m1,m2,m3,m4,m5,m6,m7,m8,m9⟩:=HC.out _ (hb3))
      | (go_at_call 104;refine HVC.out.mono ?_;rintro e w2 ⟨rfl,hb2⟩;clear q0 q1 q2 m0 m1 m2 m3 m4 m5 m6 m7 m8 m9;obtain⟨⟨q0,q1,q2⟩,m0,m1,m2,m3,m4,m5,m6,m7,m8,m9⟩:=HC.out _ (hb2)))
     have HC4:Hid (∀w',Below w3.heap.size w3 w'→(w'.cell? ⟨w.heap.size,2,none⟩=some (.slice (some ⟨b,o,none⟩) sl sc))∧(w'.cell? ⟨wp.heap.size,0,none⟩=some (.int .i64 x.k.k)∧w'.cell? ⟨wp.heap.size,1,none⟩=some (.int .i64 x.k.i)∧w'.cell? ⟨wp.heap.size,2,none⟩=some (.int .i64 x.k.s)∧w'.cell? ⟨wp.heap.size,3,none⟩=some (.string x.k.t)∧w'.cell? ⟨wp.heap.size,4,none⟩=some (.slice x.k.la x.k.ll x.k.lc)∧w'.cell? ⟨wp.heap.size,5,none⟩=some (.slice x.k.fa x.k.fl x.k.fc)∧w'.cell? ⟨wp.heap.size,6,none⟩=some (.int .i64 x.n)∧w'.cell? ⟨wp.heap.size,7,none⟩=some (.int .i64 x.t)∧w'.cell? ⟨wp.heap.size,8,none⟩=some (.slice x.ia x.il x.ic)∧w'.cell? ⟨wp.heap.size,9,none⟩=some (.slice x.va x.vl x.vc))∧(w'.cell? ⟨b,o+(k-1) * 10,none⟩=some (.int .i64 y.k.k)∧w'.cell? ⟨b,o+(k-1) * 10+1,none⟩=some (.int .i64 y.k.i)∧w'.cell? ⟨b,o+(k-1) * 10+2,none⟩=some (.int .i64 y.k.s)∧w'.cell? ⟨b,o+(k-1) * 10+3,none⟩=some (.string y.k.t)∧w'.cell? ⟨b,o+(k-1) * 10+4,none⟩=some (.slice y.k.la y.k.ll y.k.lc)∧w'.cell? ⟨b,o+(k-1) * 10+5,none⟩=some (.slice y.k.fa y.k.fl y.k.fc))):=hid fun w' h=>by
      have h1:=HC.out w' (hb3.trans (h.mono hb3.size))
      obtain⟨⟨q0,q1,q2⟩,m0,m1,m2,m3,m4,m5,m6,m7,m8,m9⟩:=h1
      have h2:=HY.out w' (hb3.trans (h.mono hb3.size))
      exact⟨q2,⟨m0,m1,m2,m3,m4,m5,m6,m7,m8,m9⟩,h2⟩
     have HCP:Hid (∀w',Below w3.heap.size w3 w'→Calls Tryz.prog 106 #[.agg #[.int .i64 x.k.k,.int .i64 x.k.i,.int .i64 x.k.s,.string x.k.t,.slice x.k.la x.k.ll x.k.lc,.slice x.k.fa x.k.fl x.k.fc],.agg #[.int .i64 y.k.k,.int .i64 y.k.i,.int .i64 y.k.s,.string y.k.t,.slice y.k.la y.k.ll y.k.lc,.slice y.k.fa y.k.fl y.k.fc]] w' fun e w2=>e=.returned (.int .i64 cc)∧Below w'.heap.size w' w2):=hid fun w' h=>HCMP.out w' (hb3.trans (h.mono hb3.size))
     clear q0 q1 q2 m0 m1 m2 m3 m4 m5 m6 m7 m8 m9
     refine aQ 10 (fun w'=>Below w3.heap.size w3 w') (by kernel_rfl) (by kernel_rfl) (by kernel_rfl) (by decide) ((Below.refl _ _).drew) (fun hS=>?_)
     simp only[zdm,zdn,zdp,zdq]
     refine tkQ 0 (v:=?_) ?_ hS ?_;rotate_left;· intro w' hw';have hcells:=HC4.out w' hw';go_simp;(try rfl)
     simp only[Act.put,pq]
     refine tkQ 1 (v:=?_) ?_ hS ?_;rotate_left;· intro w' hw';have hcells:=HC4.out w' hw';go_simp;(try rfl)
     simp only[Act.put,pq]
     refine tkQ 2 (v:=?_) ?_ hS ?_;rotate_left;· intro w' hw';have hcells:=HC4.out w' hw';go_simp;(try rfl)
     simp only[Act.put,pq]
     refine tkQ 3 (v:=?_) ?_ hS ?_;rotate_left;· intro w' hw';have hcells:=HC4.out w' hw';go_simp;(try rfl)
     simp only[Act.put,pq]
     refine tkQ 4 (v:=?_) ?_ hS ?_;rotate_left;· intro w' hw';have hcells:=HC4.out w' hw';go_simp;(try rfl)
     simp only[Act.put,pq]
     refine tkQ 5 (v:=?_) ?_ hS ?_;rotate_left;· intro w' hw';have hcells:=HC4.out w' hw';go_simp;(try rfl)
     simp only[Act.put,pq]
     refine tkQ 6 (v:=?_) ?_ hS ?_;rotate_left;· intro w' hw';have hcells:=HC4.out w' hw';go_simp;(try rfl)
     simp only[Act.put,pq]
     refine tkQ 7 (v:=?_) ?_ hS ?_;rotate_left;· intro w' hw';have hcells:=HC4.out w' hw';go_simp;(try rfl)
     simp only[Act.put,pq]
     refine tkQ 8 (v:=?_) ?_ hS ?_;rotate_left;· intro w' hw';have hcells:=HC4.out w' hw';go_simp;(try rfl)
     simp only[Act.put,pq]
     refine ry [9] ?_
     refine arQ fun K hK=>?_
     go_simp;go_at_call 106;refine(HCP.out _ hS).mono ?_
     rintro e w4 ⟨rfl,hb4'⟩
     refine hK.out _ _ (hS.trans (hb4'.mono hS.size)) (fun hS=>?_)
     clear hK K
     (try simp only[Act.put,pq])
     refine wpAnyH_done (by kernel_rfl) ?_ _
     (try dsimp only)
     have hb4:=hb3.trans (hS.mono hb3.size)
     have hc4:=HC.out _ hb4
     clear hS HC4 HCP hb4'
     obtain⟨⟨q0,q1,q2⟩,m0,m1,m2,m3,m4,m5,m6,m7,m8,m9⟩:=hc4
     clear q0 q1 q2
     by_cases c0:cc=0
     ·have c0':(cc==0)=true:=by simp[c0]
      have r:=hid (show bB d=7 by rw[R0.out,HIT.out,List.drop_eq_getElem_cons hkl,cJ,if_neg HKEY.out,←HCC.out,if_pos c0])
      go_wp2
      go_ret
      exact⟨retI r.out.symm,HB0.out.trans ((HBWP.out.trans (HBA.out.trans (hb4.mono HSA.out))).mono (by omega))⟩
     by_cases c1:cc = -1
     ·have c1':(cc == -1)=true:=by simp[c1]
      have c0':(cc==0)=false:=by simp[c0]
      have r:=hid (show bB d=24 by rw[R0.out,HIT.out,List.drop_eq_getElem_cons hkl,cJ,if_neg HKEY.out,←HCC.out,if_neg c0,if_pos c1])
      go_wp2
      go_ret
      exact⟨retI r.out.symm,HB0.out.trans ((HBWP.out.trans (HBA.out.trans (hb4.mono HSA.out))).mono (by omega))⟩
     have c0':(cc==0)=false:=by simp[c0]
     have c1':(cc == -1)=false:=by simp[c1]
     have HNEXT:=hid (show cJ (dS d.l k) acc nv (d.l.drop k)=if (aV acc nv d.l[k]).1≠0 then (aV acc nv d.l[k]).1 else cJ (some d.l[k].k) (aV acc nv d.l[k]).2.1 (aV acc nv d.l[k]).2.2 (d.l.drop (k+1)) by rw[List.drop_eq_getElem_cons hkl,cJ,if_neg HKEY.out,←HCC.out,if_neg c0,if_neg c1])
     obtain⟨v2,hv2⟩:∃v2,v2=(aV acc nv d.l[k]).1:=⟨_,rfl⟩
     have HSL:Hid (∀w',Below (wp.alloc (.cells #[.int .i64 x.k.k,.int .i64 x.k.i,.int .i64 x.k.s,.string x.k.t,.slice x.k.la x.k.ll x.k.lc,.slice x.k.fa x.k.fl x.k.fc,.int .i64 x.n,.int .i64 x.t,.slice x.ia x.il x.ic,.slice x.va x.vl x.vc] 133)).heap.size (wp.alloc (.cells #[.int .i64 x.k.k,.int .i64 x.k.i,.int .i64 x.k.s,.string x.k.t,.slice x.k.la x.k.ll x.k.lc,.slice x.k.fa x.k.fl x.k.fc,.int .i64 x.n,.int .i64 x.t,.slice x.ia x.il x.ic,.slice x.va x.vl x.vc] 133)) w'→Calls Tryz.prog 107 #[.pointer (some ⟨w.heap.size+1,0,none⟩),.agg #[.int .i64 x.k.k,.int .i64 x.k.i,.int .i64 x.k.s,.string x.k.t,.slice x.k.la x.k.ll x.k.lc,.slice x.k.fa x.k.fl x.k.fc,.int .i64 x.n,.int .i64 x.t,.slice x.ia x.il x.ic,.slice x.va x.vl x.vc]] w' (SlotPost' (w.heap.size+1) (w.heap.size+1) acc nv d.l[k] w' v2)):=hid fun w' h=>(jN w HT.out (w.heap.size+1) (w.heap.size+1) x d.l[k] acc nv iv w' (HB0.out.trans ((HBWP.out.trans (HBA.out.trans (h.mono HSA.out))).mono (by omega))) (by omega) lr (HXI.out.same fun b q=>⟨by omega,(HB0.out.trans ((HBWP.out.trans (HBA.out.trans (h.mono HSA.out))).mono (by omega))).block b q⟩) (HCK.out.ext (HBA2.out.trans (h.mono (by simp))))).mono fun e w2 h=>slotPost'_of h hv2
     have HV2:=hid hv2
     clear hv2
     by_cases hv20:v2=0
     ·subst hv20
      have hnext:=hid (HNEXT.out.trans (if_neg (fun h=>h HV2.out.symm)))
      go_wp2_with (go_at_call 107;refine(HSL.out _ hb4).mono ?_;rintro e w5 ⟨rfl,hb5,hn5,hc5⟩)
      go_roundw
      case rel =>
       obtain⟨iv5,hck5⟩:=hc5 (by first | rfl | trivial)
       exact⟨k+1,(aV acc nv d.l[k]).2.1,(aV acc nv d.l[k]).2.2,iv5,by omega,by go_num,hck5.self,HBWP.out.trans ((HBA.out.trans (hb4.mono HSA.out)).trans hb5),by rw[HIT.out,hnext.out,eO d.l k hkl]⟩
      case measure=>simp[intOf];omega
     ·have r:=hid (show bB d=v2 by rw[R0.out,HIT.out,HNEXT.out,if_pos (by rw[←HV2.out];exact hv20),HV2.out])
      go_wp2_with (go_at_call 107;refine(HSL.out _ hb4).mono ?_;rintro e w5 ⟨rfl,hb5,hn5,hc5⟩)
      go_ret
      exact⟨retI r.out.symm,HB0.out.trans ((HBWP.out.trans ((HBA.out.trans (hb4.mono HSA.out)).trans hb5)).mono (by omega))⟩
 ·obtain rfl:k=sl:=by omega
  have r:=hid (show bB d=0 by rw[R0.out,HIT.out,show k=d.l.length from HL.out,List.drop_length];cases dS d.l d.l.length<;>rfl)
  go_wp2
  go_ret
  exact⟨retI r.out.symm,HB0.out.trans (hbwp.mono (by omega))⟩
end
end Go.Proofs.YteladbdfiannjaaGreatDoor
