/- A part. -/
import Derived.Test.YtmgpghoamapfgaaGreatDoorST28Mrg
import Derived.Test.YtmgpghoamapfgaaGreatDoorST29Mrg
import Derived.Test.YtmgpghoamapfgaaGreatDoorST20Mrg
namespace Go.Proofs.YtmgpghoamapfgaaGreatDoor
set_option linter.unusedVariables false
set_option maxRecDepth 100000
set_option maxHeartbeats 16000000
set_option linter.unusedSimpArgs false
open Go Go.RowKit Go.Shelf
def bB:List Msg->List Msg->Int × List Msg
 | acc,[]=>(0,acc)
 | acc,m :: r=>if acc.length=256 then (9,acc) else if eY m≠0 then (eY m,acc) else if nG acc m.st=true then (7,acc) else bB (acc++[m]) r
def eB:Nat->List Val->Int × Nat
 | k,[]=>(0,k)
 | k,v :: r=>if k=4096 then (9,k) else if aR v≠0 then (aR v,k) else eB (k+1) r
def aO (acc:List Msg) (nv:Nat) (d:Slot):Int × List Msg × Nat :=
 if gP d.n d.t≠0 then (gP d.n d.t,acc,nv) else if (bB acc d.items).1≠0 then ((bB acc d.items).1,(bB acc d.items).2,nv) else ((eB nv d.vals).1,(bB acc d.items).2,(eB nv d.vals).2)
structure ChkAt (CT ME B cb:Nat) (w w':World) (acc:List Msg) (nv:Nat) (iv:Value):Prop where
 k:KeepB B w [(cb,.cells #[iv,I6 nv] CT)] w'
 r:Kept msgK ME B w' iv acc.length acc
 n:∀r,iv.ownBlock=some r->r≠cb
 m:acc.length<=256
 v:nv<=4096
def aFd (B cb:Nat) (acc:List Msg) (nv:Nat) (d:Slot) (w:World) (e:Ending) (w':World):Prop :=
 e=.returned (I6 (aO acc nv d).1)/\Below B w w'/\B<=w'.heap.size/\((aO acc nv d).1=0->∃iv,ChkAt 120 86 B cb w w' (aO acc nv d).2.1 (aO acc nv d).2.2 iv)
theorem nV (W:World) (hT:Tabs W) (B cb:Nat) (c:SlC) (d:Slot) (acc0:List Msg) (nv:Nat) (iv:Value) (w:World) (hW:BB W w) (hWB:W.heap.size<=B) (hcb:B<=cb) (hd:IsSl (· < B) w c d) (hk:ChkAt 120 86 B cb w w acc0 nv iv) :
 CP 69 #[.pointer (some ⟨cb,0,none⟩),c.v] w (aFd B cb acc0 nv d w):=by
 obtain⟨ti,hi,hz0,hz1,hz2⟩:=info_parts aBy;obtain⟨⟨kk,ki,ks,kt,kla,kll,klc,kfa,kfl,kfc⟩,cn,ct,ia,il,ic,wa,wl,wc⟩:=c;have hcw:cb<w.heap.size:=ltOf (hk.k.at 0 gd);have hbig:=hd.items.big;have hbig2:=hd.vals.big;have HLI:=hid hd.items.len;have HLV:=hid hd.vals.len;have HDI:=hid hd.items;have HDV:=hid hd.vals;have HNT:=hid (And.intro hd.n hd.t);have HCB:=hid (And.intro hcb hcw);have TAB:Hid (∀w',Below B w w'->Tabs w'):=hid fun w' h=>hT.below (hW.trans (h.mono hWB));dsimp only at hbig hbig2 HLI HLV HDI HDV HNT
 -- the box
 obtain⟨wb,hwb⟩:=ez (w.alloc (.cells #[I6 kk,I6 ki,I6 ks,.string kt,.slice kla kll klc,.slice kfa kfl kfc,I6 cn,I6 ct,.slice ia il ic,.slice wa wl wc] 66))
 have hkb:KeepB B w [(cb,(.cells #[iv,I6 (nv:Nat)] 120)),(w.heap.size,(.cells #[I6 kk,I6 ki,I6 ks,.string kt,.slice kla kll klc,.slice kfa kfl kfc,I6 cn,I6 ct,.slice ia il ic,.slice wa wl wc] 66))] wb:=by
  rw[hwb];have h1:=(hk.k.ext ((bR w).alloc lr _)).cons (heap_alloc_new w (.cells #[I6 kk,I6 ki,I6 ks,.string kt,.slice kla kll klc,.slice kfa kfl kfc,I6 cn,I6 ct,.slice ia il ic,.slice wa wl wc] 66));exact h1.sub (by intro p hp;simp only[List.mem_cons,List.mem_nil_iff,or_false,List.not_mem_nil] at hp ⊢;rcases hp with h | h<;>simp[h])
 have hrb:Kept msgK 86 B wb iv acc0.length acc0:=by rw[hwb];exact hk.r.ext hk.k.n ((bR w).alloc lr _)
 have hnb:∀r,iv.ownBlock=some r->r≠cb/\r≠w.heap.size:=fun r e=>⟨hk.n r e,by have:=(hk.r.own r e).2;omega⟩
 have hm:=hk.m;have hv:=hk.v;have HWB:=hid hwb;have HKB:=hid hkb;have HRB:=hid hrb;have HNB:=hid hnb;clear hd hk hwb hkb hrb hnb hW hT hWB hcb hcw;have e0:=hid (heap_alloc_new w (.cells #[I6 kk,I6 ki,I6 ks,.string kt,.slice kla kll klc,.slice kfa kfl kfc,I6 cn,I6 ct,.slice ia il ic,.slice wa wl wc] 66));have c6:=aA e0.out 6;have c7:=aA e0.out 7;have c8:=aA e0.out 8
 (try dsimp only at c6 c7 c8)
 dsimp only[SlC.v];go_enter Tryz.func69,Tryz.ntmps69
 obtain⟨u,hu⟩:=ez (gP cn ct)
 have HU:=hid hu;have HNU:Hid (∀w',CP 65 #[I6 cn,I6 ct] w' fun e w2=>e=.returned (I6 u)/\w'=w2):=hid fun w'=>by rw[hu];exact qB cn ct w'
 clear hu;by_cases hu0:u=0
 case neg =>
  have r:=hid (show(aO acc0 nv d).1=u by rw[aO,<-HNT.out.1,<-HNT.out.2,<-HU.out,if_pos hu0]);go_wp2_with (go_at_call 65;refine(HNU.out _).mono ?_;rintro e w2 ⟨rfl,rfl⟩)
  go_ret;refine⟨retI r.out.symm,?_,?_,fun h=>absurd (r.out.symm.trans h) hu0⟩
  ·rw[<-HWB.out];exact HKB.out.b
  ·rw[<-HWB.out];exact HKB.out.n
 case pos =>
 subst hu0;have R0:=hid (show aO acc0 nv d=if (bB acc0 d.items).1≠0 then ((bB acc0 d.items).1,(bB acc0 d.items).2,nv) else ((eB nv d.vals).1,(bB acc0 d.items).2,(eB nv d.vals).2) by rw[aO,<-HNT.out.1,<-HNT.out.2,<-HU.out,if_neg gc]);go_wp2_with (go_at_call 65;refine(HNU.out _).mono ?_;rintro e w2 ⟨rfl,rfl⟩)
 clear c6 c7 c8;rw[<-HWB.out]
 go_loopw [23] (fun i wr=>∃(k:Nat) (iv:Value) (acc:List Msg),k<=il/\i=I6 k/\KeepB B w [(cb,(.cells #[iv,I6 (nv:Nat)] 120)),(w.heap.size,(.cells #[I6 kk,I6 ki,I6 ks,.string kt,.slice kla kll klc,.slice kfa kfl kfc,I6 cn,I6 ct,.slice ia il ic,.slice wa wl wc] 66))] wr/\Kept msgK 86 B wr iv acc.length acc/\(∀r,iv.ownBlock=some r->r≠cb/\r≠w.heap.size)/\bB acc0 d.items=bB acc (d.items.drop k)/\acc.length<=256) (fun i _=>il-(intOf i).toNat)
 case atStart=>exact⟨0,iv,acc0,Nat.zero_le _,rfl,HKB.out,HRB.out,HNB.out,by rw[List.drop_zero],hm⟩
 case round =>
 obtain⟨k,iv1,acc,hki,rfl,hkb,hrb,hnb,hit,hm1⟩:=hrel;obtain⟨wp,rfl⟩:=ez (wr:World)
 clear HKB HRB HNB HWB hm e0 iv;have HIT:=hid hit;clear hit;obtain⟨va,vcap,rfl,hvc⟩:=hrb.shape;by_cases hlt:k<il
 ·have hkl:k<d.items.length:=by have:=HLI.out;omega
  obtain⟨b,o,rfl,hb,hx⟩:=HDI.out.slot (show 0<il by omega);obtain⟨x,hxa,hxi⟩:=hx k hkl;obtain⟨x0,x1,x2,x3,x4,x5,x6,x7,x8,x9⟩:=(hxa.same (hkb.b.block b hb)).m;have hlt':(k:Int)<(il:Int):=by omega
  have hk0:(0:Int)<=(k:Int):=by omega
  have hro:=hrb.own;have hK3:KeepB B w [(cb,(.cells #[.slice va acc.length vcap,I6 (nv:Nat)] 120)),(w.heap.size,(.cells #[I6 kk,I6 ki,I6 ks,.string kt,.slice kla kll klc,.slice kfa kfl kfc,I6 cn,I6 ct,.slice (some ⟨b,o,none⟩) il ic,.slice wa wl wc] 66)),(wp.heap.size,(oM x 86))] (wp.alloc (oM x 86)):=by
   have h1:=(hkb.ext ((Below.refl _ wp).alloc lr _)).cons (heap_alloc_new wp (oM x 86));exact h1.sub (by intro p hp;simp only[List.mem_cons,List.mem_nil_iff,or_false,List.not_mem_nil] at hp ⊢;rcases hp with h | h | h<;>simp[h])
  have HC3:Hid (∀w',KeepB B w [(cb,(.cells #[.slice va acc.length vcap,I6 (nv:Nat)] 120)),(w.heap.size,(.cells #[I6 kk,I6 ki,I6 ks,.string kt,.slice kla kll klc,.slice kfa kfl kfc,I6 cn,I6 ct,.slice (some ⟨b,o,none⟩) il ic,.slice wa wl wc] 66)),(wp.heap.size,(oM x 86))] w'->(Ce w' cb 0 (.slice va acc.length vcap)/\Ce w' cb 1 (I6 (nv:Nat)))/\(Ce w' wp.heap.size 0 (I6 x.st.e)/\Ce w' wp.heap.size 1 (.slice x.st.a x.st.n x.st.c)/\Ce w' wp.heap.size 2 (I6 x.m)/\Ce w' wp.heap.size 3 (.slice x.a x.n x.c)/\Ce w' wp.heap.size 4 (I6 x.b.k)/\Ce w' wp.heap.size 5 (I6 x.b.i)/\Ce w' wp.heap.size 6 (I6 x.b.s)/\Ce w' wp.heap.size 7 (.string x.b.t)/\Ce w' wp.heap.size 8 (.slice x.b.la x.b.ll x.b.lc)/\Ce w' wp.heap.size 9 (.slice x.b.fa x.b.fl x.b.fc))):=hid fun w' h=>⟨⟨aA (h.at 0 gd) 0,aA (h.at 0 gd) 1⟩,aA (h.at 2 gd) 0,aA (h.at 2 gd) 1,aA (h.at 2 gd) 2,aA (h.at 2 gd) 3,aA (h.at 2 gd) 4,aA (h.at 2 gd) 5,aA (h.at 2 gd) 6,aA (h.at 2 gd) 7,aA (h.at 2 gd) 8,aA (h.at 2 gd) 9⟩
  have RD:Hid (∀w',Below B w w'->B<=w'.heap.size->IsMsg (· < w'.heap.size) w' x d.items[k]):=hid fun w' h hn=>hxi.same fun b q=>⟨by omega,h.block b q⟩
  have HROW:Hid (∀w',BB (wp.alloc (oM x 86)) w'->IsRow msgK (· < w'.heap.size) w' va acc.length vcap acc):=hid fun w' h=>(hrb.ext hkb.n (((Below.refl _ wp).alloc lr _).trans (h.mono gd))).row (Nat.le_trans hK3.n h.size) gi;have HK3:=hid hK3;have HSZ:=hid (show cb<wp.heap.size/\w.heap.size<wp.heap.size from⟨ltOf (hkb.at 0 gd),ltOf (hkb.at 1 gd)⟩);have HXI:=hid (show IsMsg (· < B) w x d.items[k] from hxi);have HRO:=hid hro;have HNB:=hid hnb;have HRB:=hid hrb;have HKB:=hid hkb;clear hxa hxi hx hkb hrb hnb hro hb hK3
  obtain⟨⟨q0,q1⟩,m0,m1,m2,m3,m4,m5,m6,m7,m8,m9⟩:=HC3.out _ HK3.out;by_cases ha:acc.length=256
  ·have ha1:(acc.length:Int)=256:=by omega
   have ha2:((acc.length:Int)==256)=true:=by simp[ha1]
   have hi9:bB acc0 d.items=(9,acc):=by rw[HIT.out,List.drop_eq_getElem_cons hkl,bB,if_pos ha]
   have r:=hid (show(aO acc0 nv d).1=9 by rw[R0.out,hi9];rfl);clear hi9;go_wp2;go_ret;exact⟨retI r.out.symm,HK3.out.b,HK3.out.n,fun h=>absurd (r.out.symm.trans h) gc⟩
  have ha1:¬ (acc.length:Int)=256:=by omega
  have ha2:((acc.length:Int)==256)=false:=by simp;omega
  have HA6:=hid ha;clear ha;obtain⟨v,hv2⟩:=ez (eY d.items[k])
  have HE0:=hid hv2;have HMC:Hid (CP 75 #[.agg #[I6 x.st.e,.slice x.st.a x.st.n x.st.c,I6 x.m,.slice x.a x.n x.c,I6 x.b.k,I6 x.b.i,I6 x.b.s,.string x.b.t,.slice x.b.la x.b.ll x.b.lc,.slice x.b.fa x.b.fl x.b.fc]] (wp.alloc (oM x 86)) fun e w'=>e=.returned (I6 v)/\BB (wp.alloc (oM x 86)) w'):=hid (by rw[hv2];exact fF x _ _ (RD.out _ HK3.out.b HK3.out.n) (TAB.out _ HK3.out.b));clear hv2;by_cases hv0:v=0
  case neg =>
   have hi9:bB acc0 d.items=(v,acc):=by rw[HIT.out,List.drop_eq_getElem_cons hkl,bB,if_neg HA6.out,<-HE0.out,if_pos hv0]
   have r:=hid (show(aO acc0 nv d).1=v by rw[R0.out,hi9,if_pos hv0]);clear hi9;go_wp2_with (go_at_call 75;refine HMC.out.mono ?_;rintro e w2 ⟨rfl,hb2⟩)
   go_ret;exact⟨retI r.out.symm,(HK3.out.ext hb2).b,(HK3.out.ext hb2).n,fun h=>absurd (r.out.symm.trans h) hv0⟩
  case pos =>
  subst hv0;obtain⟨p,hp⟩:=ez (nG acc d.items[k].st)
  have HH0:=hid hp;have HHM:Hid (∀w',BB (wp.alloc (oM x 86)) w'->CP 127 #[.slice va acc.length vcap,.func (.func 128) #[] #[.pointer (some ⟨wp.heap.size,0,none⟩)]] w' (Rt (.bool p) w')):=hid fun w' h=>by
   rw[hp];have hk:=HK3.out.ext h;exact aKe va acc.length vcap acc x.st _ wp.heap.size w' (HROW.out w' h) (RD.out w' hk.b hk.n).st (aA (hk.at 2 gd) 0) (aA (hk.at 2 gd) 1)
  clear hp;cases p with
  | true =>
    have hi9:bB acc0 d.items=(7,acc):=by rw[HIT.out,List.drop_eq_getElem_cons hkl,bB,if_neg HA6.out,<-HE0.out,if_neg gc,if_pos HH0.out.symm]
    have r:=hid (show(aO acc0 nv d).1=7 by rw[R0.out,hi9];rfl);clear hi9;go_wp2_with (first
     | (go_at_call 127;refine(HHM.out _ hb2).mono ?_;rintro e w3 ⟨rfl,hb3⟩)
     | (go_at_call 75;refine HMC.out.mono ?_;rintro e w2 ⟨rfl,hb2⟩;clear q0 q1 m0 m1 m2 m3 m4 m5 m6 m7 m8 m9;obtain⟨⟨q0,q1⟩,m0,m1,m2,m3,m4,m5,m6,m7,m8,m9⟩:=HC3.out _ (HK3.out.ext hb2)))
    go_ret;exact⟨retI r.out.symm,((HK3.out.ext hb2).ext hb3).b,((HK3.out.ext hb2).ext hb3).n,fun h=>absurd (r.out.symm.trans h) gc⟩
  | false =>
    go_upto_region 14 with (first
     | (go_at_call 127;refine(HHM.out _ hb2).mono ?_;rintro e w3 ⟨rfl,hb3⟩)
     | (go_at_call 75;refine HMC.out.mono ?_;rintro e w2 ⟨rfl,hb2⟩;clear q0 q1 m0 m1 m2 m3 m4 m5 m6 m7 m8 m9;obtain⟨⟨q0,q1⟩,m0,m1,m2,m3,m4,m5,m6,m7,m8,m9⟩:=HC3.out _ (HK3.out.ext hb2)))
    clear q0 q1 m0 m1 m2 m3 m4 m5 m6 m7 m8 m9;have hs3:=(HK3.out.ext hb2).ext hb3;have hs3d:=hs3.ext ((Below.refl _ w3).drew);have hbp:BB wp w3.drew:=(((Below.refl _ wp).alloc lr _).trans ((hb2.trans (hb3.mono hb2.size)).mono gd)).drew;obtain⟨cs,hcs,hl0,hown,hel⟩:=HRB.out.ext HKB.out.n hbp;have HS3:=hid (show wp.heap.size<w3.heap.size from ltOf (hs3.at 2 gd));have HS3D:=hid hs3d;have HXD:=hid (HXI.out.same (S':=(· < B)) (w':=w3.drew) fun b q=>⟨q,hs3d.b.block b q⟩);have HOWN:=hid hown;have HEL:=hid hel;have HCL:=hid hcs
    have HNE:=hid (show ∀r,(Value.slice va acc.length vcap).ownBlock=some r->B<=r/\∀p∈([(cb,(.cells #[.slice va acc.length vcap,I6 (nv:Nat)] 120)),(w.heap.size,(.cells #[I6 kk,I6 ki,I6 ks,.string kt,.slice kla kll klc,.slice kfa kfl kfc,I6 cn,I6 ct,.slice (some ⟨b,o,none⟩) il ic,.slice wa wl wc] 66)),(wp.heap.size,(oM x 86))]:List (Nat × Obj)),p.1≠r from fun r e=>⟨(HRO.out r e).1,fun p hp=>by
     have h1:=HNB.out r e;have h2:=(HRO.out r e).2;simp only[List.mem_cons,List.not_mem_nil,or_false] at hp;rcases hp with rfl | rfl | rfl
     ·exact fun h=>h1.1 h.symm
     ·exact fun h=>h1.2 h.symm
     ·exact fun h=>by dsimp only at h;omega⟩)
    have hcap1:acc.length+1<=maxLen:=by unfold maxLen;omega
    have hcap2:(acc.length+1) * 152<=140737488355328:=by omega
    clear hs3 hs3d hbp hown hel hcs hl0 hb2 hb3 HHM HMC HROW RD TAB x0 x1 x2 x3 x4 x5 x6 x7 x8 x9;refine dP 8 (fun w'=>KeepB B w [(cb,(.cells #[.slice va acc.length vcap,I6 (nv:Nat)] 120)),(w.heap.size,(.cells #[I6 kk,I6 ki,I6 ks,.string kt,.slice kla kll klc,.slice kfa kfl kfc,I6 cn,I6 ct,.slice (some ⟨b,o,none⟩) il ic,.slice wa wl wc] 66)),(wp.heap.size,(oM x 86))] w') ge ge ge gc (HS3D.out) (fun hS=>?_);simp only[zdm,zdn,zdp,zdq];refine tc 0 HC3 ?_;refine tc 1 HC3 ?_;refine tc 2 HC3 ?_;refine tc 3 HC3 ?_;refine tc 4 HC3 ?_;refine tc 5 HC3 ?_;refine yr 6 fun K hK=>?_;go_simp;refine hK.out _ _ (hS.ext ((Below.refl _ _).alloc lr _)) (fun hS=>?_);clear hK K
    (try simp only[Act.put,pq])
    refine yr 7 fun K hK=>?_;refine step_append_lies _ gh _ _ _ gh B 86 ti _ 10 152 Tryz.underlying64 hi hz0 hz1 hz2 rfl ga (.slice va acc.length vcap) acc.length (cs.flatMap MC.cs) gh (HOWN.out.alloc _) ⟨w3.heap.size,0,none⟩ 1 1 (MC.cs x) gh gh (World.news_of_block (heap_alloc_new w3.drew _)) (by simp[MC.cs,Value.oneCell']) ga hcap1 hcap2 hS.n _ rfl ?_;intro gg cap5 w6 hown2 hgrow hat hlt2;have hS6:=hS.grown hgrow HNE.out;have HO2:=hid hown2;have HG:=hid hgrow;have HAT:=hid hat
    clear hown2 hgrow hat hlt2;refine hK.out _ _ (hS6) (fun hS=>?_);clear hK K
    (try simp only[Act.put,pq])
    refine wpAnyH_done ge ?_ _
    (try dsimp only)
    have HS6:=hid hS;have hc6:=hS.at 0 gd;dsimp only[List.getElem_cons_zero] at hc6;clear hS hS6 hi hz0 hz1 hz2;have z0:=aA hc6 0;have zf0:=aC hc6 0
    (try dsimp only at z0)
    clear hc6;go_wp2
    go_roundw
    case rel =>
     have hk2:Kept msgK 86 B w6 (.slice (some ⟨gg,0,none⟩) (acc.length+1) cap5) (acc.length+1) (acc++[d.items[k]]) :=
      Kept.push (K:=msgK) (w1:=w3.drew) (c:=x) HCL.out rfl HEL.out HS3D.out.n HXD.out (fun r e=>(HNE.out r e).1) HO2.out HG.out
     have hat:=HAT.out;have hs3:=HS3.out;have hsz3:=HSZ.out;have hcb:=HCB.out;refine⟨k+1,.slice (some ⟨gg,0,none⟩) (acc.length+1) cap5,acc++[d.items[k]],by omega,by go_num,?_,?_,fun r e=>?_,?_,by simp;omega⟩
     ·exact(HS6.out.set (o:=0) (.slice (some ⟨gg,0,none⟩) (acc.length+1) cap5) HCB.out.1 gj).sub gd
     ·rw[List.length_append];refine hk2.set _ _ HCB.out.1 (fun e=>?_);have hr:gg=cb:=Option.some.inj e;rcases hat with h | h
      ·exact(HNE.out gg h).2 _ (List.mem_cons_self ..) hr.symm
      ·rw[h] at hr;simp at hr;omega
     ·have hr:r=gg:=(Option.some.inj e).symm;subst hr;rcases hat with h | h
      ·have h1:=(HNE.out r h).2;exact⟨fun e=>h1 _ (List.mem_cons_self ..) e.symm,fun e=>h1 _ (List.mem_cons_of_mem _ (List.mem_cons_self ..)) e.symm⟩
      ·rw[h];simp;omega
     ·rw[HIT.out,List.drop_eq_getElem_cons hkl,bB,if_neg HA6.out,<-HE0.out,if_neg gc,<-HH0.out,if_neg gc]
    case measure=>simp[intOf];omega
 ·obtain rfl:k=il:=by omega
  have hi0:bB acc0 d.items=(0,acc):=by rw[HIT.out,show k=d.items.length from HLI.out,List.drop_length,bB]
  have R1:=hid (show aO acc0 nv d=((eB nv d.vals).1,acc,(eB nv d.vals).2) by rw[R0.out,hi0,if_neg (show ¬ ((0:Int),acc).1≠0 from fun h=>h rfl)]);have HNB:=hid hnb;have c9:=aA (hkb.at 1 gd) 9
  (try dsimp only[List.getElem_cons_zero,List.getElem_cons_succ] at c9)
  have HKB:=hid (hkb.sub (l':=[(cb,(.cells #[.slice va acc.length vcap,I6 (nv:Nat)] 120))]) (by intro p hp;simp only[List.mem_cons,List.not_mem_nil,or_false] at hp;simp[hp]));have HRB:=hid hrb;clear hi0 hnb hkb hrb HIT hi hz0 hz1 hz2;go_wp2;clear c9
  go_loopw [58] (fun i wr=>∃(q kv:Nat),q<=wl/\i=I6 q/\KeepB B w [(cb,(.cells #[.slice va acc.length vcap,I6 (kv:Nat)] 120))] wr/\Kept msgK 86 B wr (.slice va acc.length vcap) acc.length acc/\eB nv d.vals=eB kv (d.vals.drop q)/\kv<=4096) (fun i _=>wl-(intOf i).toNat)
  case atStart=>exact⟨0,nv,Nat.zero_le _,rfl,HKB.out,HRB.out,by rw[List.drop_zero],hv⟩
  case round =>
  obtain⟨q,kv,hq,rfl,hkb,hrb,hvt,hkv⟩:=hrel;obtain⟨wq,rfl⟩:=ez (wr:World)
  clear HKB HRB;have HVT:=hid hvt;clear hvt;by_cases hlt:q<wl
  ·have hql:q<d.vals.length:=by have:=HLV.out;omega
   obtain⟨b,o,rfl,hb,hx⟩:=HDV.out.slot (show 0<wl by omega);obtain⟨x,hxa,hxi⟩:=hx q hql;obtain⟨x0,x1,x2,x3,x4,x5⟩:=(hxa.same (hkb.b.block b hb)).val;have hlt':(q:Int)<(wl:Int):=by omega
   have hq0:(0:Int)<=(q:Int):=by omega
   have hK2:KeepB B w [(cb,(.cells #[.slice va acc.length vcap,I6 (kv:Nat)] 120)),(wq.heap.size,(oV x 36))] (wq.alloc (oV x 36)):=by
    have h1:=(hkb.ext ((Below.refl _ wq).alloc lr _)).cons (heap_alloc_new wq (oV x 36));exact h1.sub (by intro p hp;simp only[List.mem_cons,List.mem_nil_iff,or_false,List.not_mem_nil] at hp ⊢;rcases hp with h | h<;>simp[h])
   have HC2:Hid (∀w',KeepB B w [(cb,(.cells #[.slice va acc.length vcap,I6 (kv:Nat)] 120)),(wq.heap.size,(oV x 36))] w'->(Ce w' cb 1 (I6 (kv:Nat))/\w'.frozen? ⟨cb,1,none⟩=false)/\(Ce w' wq.heap.size 0 (I6 x.k)/\Ce w' wq.heap.size 1 (I6 x.i)/\Ce w' wq.heap.size 2 (I6 x.s)/\Ce w' wq.heap.size 3 (.string x.t)/\Ce w' wq.heap.size 4 (.slice x.la x.ll x.lc)/\Ce w' wq.heap.size 5 (.slice x.fa x.fl x.fc))):=hid fun w' h=>⟨⟨aA (h.at 0 gd) 1,aC (h.at 0 gd) 1⟩,aA (h.at 1 gd) 0,aA (h.at 1 gd) 1,aA (h.at 1 gd) 2,aA (h.at 1 gd) 3,aA (h.at 1 gd) 4,aA (h.at 1 gd) 5⟩
   have RD:Hid (IsVal (· < (wq.alloc (oV x 36)).heap.size) (wq.alloc (oV x 36)) x d.vals[q]):=hid (hxi.same fun b q=>⟨by have:=hK2.n;omega,hK2.b.block b q⟩);have HK2:=hid hK2;have HRB:=hid hrb;have HKB:=hid hkb;clear hxa hxi hx hkb hrb hb hK2;obtain⟨⟨q1,q2⟩,m0,m1,m2,m3,m4,m5⟩:=HC2.out _ HK2.out;by_cases ha:kv=4096
   ·have ha1:(kv:Int)=4096:=by omega
    have ha2:((kv:Int)==4096)=true:=by simp[ha1]
    have r:=hid (show(aO acc0 nv d).1=9 by rw[R1.out,HVT.out,List.drop_eq_getElem_cons hql,eB,if_pos ha]);clear ha;go_wp2;go_ret;exact⟨retI r.out.symm,HK2.out.b,HK2.out.n,fun h=>absurd (r.out.symm.trans h) gc⟩
   have ha1:¬ (kv:Int)=4096:=by omega
   have ha2:((kv:Int)==4096)=false:=by simp;omega
   have ha3:(kv:Int)<=4096:=by omega
   have ha4:(0:Int)<=(kv:Int):=by omega
   have HA6:=hid ha;clear ha;obtain⟨v,hv2⟩:=ez (aR d.vals[q])
   have HE0:=hid hv2;have HMC:Hid (CP 66 #[.agg #[I6 x.k,I6 x.i,I6 x.s,.string x.t,.slice x.la x.ll x.lc,.slice x.fa x.fl x.fc]] (wq.alloc (oV x 36)) fun e w'=>e=.returned (I6 v)/\BB (wq.alloc (oV x 36)) w'):=hid (by rw[hv2];exact iG x _ _ RD.out (TAB.out _ HK2.out.b));clear hv2;by_cases hv0:v=0
   case neg =>
    have r:=hid (show(aO acc0 nv d).1=v by rw[R1.out,HVT.out,List.drop_eq_getElem_cons hql,eB,if_neg HA6.out,<-HE0.out,if_pos hv0]);go_wp2_with (go_at_call 66;refine HMC.out.mono ?_;rintro e w2 ⟨rfl,hb2⟩)
    go_ret;exact⟨retI r.out.symm,(HK2.out.ext hb2).b,(HK2.out.ext hb2).n,fun h=>absurd (r.out.symm.trans h) hv0⟩
   case pos =>
   subst hv0;go_wp2_with (go_at_call 66;refine HMC.out.mono ?_;rintro e w2 ⟨rfl,hb2⟩;clear q1 q2 m0 m1 m2 m3 m4 m5;obtain⟨⟨q1,q2⟩,m0,m1,m2,m3,m4,m5⟩:=HC2.out _ (HK2.out.ext hb2))
   go_roundw
   case rel =>
    have hk4:=HK2.out.ext hb2;have hr4:=HRB.out.ext HKB.out.n (((Below.refl _ wq).alloc lr (oV x 36)).trans (hb2.mono gd));have hsz:cb<wq.heap.size:=ltOf (HKB.out.at 0 gd);refine⟨q+1,kv+1,by omega,by go_num,?_,hr4.set _ _ HCB.out.1 (fun e=>(HNB.out cb e).1 rfl),?_,by have:=HA6.out;omega⟩
    ·have h:=hk4.set (o:=1) (I6 ((kv:Int)+1)) HCB.out.1 gj;rw[show((kv:Int)+1)=((kv+1:Nat):Int) by omega] at h;exact h.sub gd
    ·rw[HVT.out,List.drop_eq_getElem_cons hql,eB,if_neg HA6.out,<-HE0.out,if_neg gc]
   case measure=>simp[intOf];omega
  ·obtain rfl:q=wl:=by omega
   have R2:=hid (show aO acc0 nv d=(0,acc,kv) by rw[R1.out,HVT.out,show q=d.vals.length from HLV.out,List.drop_length,eB]);go_wp2;go_ret;exact⟨retI (by rw[R2.out]),hkb.b,hkb.n,fun _=>by rw[R2.out];exact⟨_,hkb,hrb,fun r e=>(HNB.out r e).1,hm1,hkv⟩⟩
end Go.Proofs.YtmgpghoamapfgaaGreatDoor
