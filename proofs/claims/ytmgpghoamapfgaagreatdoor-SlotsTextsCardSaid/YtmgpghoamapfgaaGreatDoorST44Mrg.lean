/- A part. -/
import Derived.Test.YtmgpghoamapfgaaGreatDoorST29Mrg
import Derived.Test.YtmgpghoamapfgaaGreatDoorST7Mrg
import Derived.OwnWalk
namespace Go.Proofs.YtmgpghoamapfgaaGreatDoor
set_option linter.unusedVariables false
set_option maxRecDepth 100000
set_option maxHeartbeats 16000000
set_option linter.unusedSimpArgs false
section
open Go Go.RowKit Go.Shelf
theorem oE {N B:Nat} {w w':World} (h:Below N w w') (hB:B<=w.heap.size):B<=w'.heap.size:=Nat.le_trans hB h.size
abbrev putTen (W:World) (B:Nat) (v0 v1 v2 v3 v4 v5 v6 v7 v8 v9:Value):World:=((((((((((W.setCell ⟨B,0,none⟩ (v0)).setCell ⟨B,1,none⟩ (v1)).setCell ⟨B,2,none⟩ (v2)).setCell ⟨B,3,none⟩ (v3)).setCell ⟨B,4,none⟩ (v4)).setCell ⟨B,5,none⟩ (v5)).setCell ⟨B,6,none⟩ (v6)).setCell ⟨B,7,none⟩ (v7)).setCell ⟨B,8,none⟩ (v8)).setCell ⟨B,9,none⟩ (v9))
theorem fX {w:World} {B:Nat} {v0 v1 v2 v3 v4 v5 v6 v7 v8 v9:Value} {t:TypeId} {x0 x1 x2 x3 x4 x5 x6 x7 x8 x9:Value} {fr:Nat × Nat} (h:w.heap[B]?=some (.cells #[x0,x1,x2,x3,x4,x5,x6,x7,x8,x9] t fr)):(putTen w B v0 v1 v2 v3 v4 v5 v6 v7 v8 v9).heap[B]?=some (.cells #[v0,v1,v2,v3,v4,v5,v6,v7,v8,v9] t fr):=by
 have e:=(aE (o:=9) (v9) (aE (o:=8) (v8) (aE (o:=7) (v7) (aE (o:=6) (v6) (aE (o:=5) (v5) (aE (o:=4) (v4) (aE (o:=3) (v3) (aE (o:=2) (v2) (aE (o:=1) (v1) (aE (o:=0) (v0) h))))))))))
 simp only[List.setIfInBounds_toArray,List.set_cons_zero,List.set_cons_succ] at e;exact e
theorem pX (v0 v1 v2 v3 v4 v5 v6 v7 v8 v9:Value) (w:World) (B b:Nat) (hb:b≠B):(putTen w B v0 v1 v2 v3 v4 v5 v6 v7 v8 v9).heap[b]?=w.heap[b]?:=by
 unfold putTen;rw[Below.heap_setCell _ _ _ _ hb,Below.heap_setCell _ _ _ _ hb,Below.heap_setCell _ _ _ _ hb,Below.heap_setCell _ _ _ _ hb,Below.heap_setCell _ _ _ _ hb,Below.heap_setCell _ _ _ _ hb,Below.heap_setCell _ _ _ _ hb,Below.heap_setCell _ _ _ _ hb,Below.heap_setCell _ _ _ _ hb,Below.heap_setCell _ _ _ _ hb]
theorem sK (v0 v1 v2 v3 v4 v5 v6 v7 v8 v9:Value) (w:World) (B:Nat):(putTen w B v0 v1 v2 v3 v4 v5 v6 v7 v8 v9).heap.size=w.heap.size:=by simp[putTen,World.setCell]
theorem eV (v0 v1 v2 v3 v4 v5 v6 v7 v8 v9:Value) (w:World) (B N:Nat) (hN:N<=B):Below N w (putTen w B v0 v1 v2 v3 v4 v5 v6 v7 v8 v9):=(((((((((((Below.refl _ _).setCell (p:=⟨B,0,none⟩) gi _).setCell (p:=⟨B,1,none⟩) gi _).setCell (p:=⟨B,2,none⟩) gi _).setCell (p:=⟨B,3,none⟩) gi _).setCell (p:=⟨B,4,none⟩) gi _).setCell (p:=⟨B,5,none⟩) gi _).setCell (p:=⟨B,6,none⟩) gi _).setCell (p:=⟨B,7,none⟩) gi _).setCell (p:=⟨B,8,none⟩) gi _).setCell (p:=⟨B,9,none⟩) gi _)
def aNz (w:World) (d:Slot) (e:Ending) (w':World):Prop:=∃c':SlC,e=.returned c'.v/\BB w w'/\IsSl (fun b=>w.heap.size<=b/\b<w'.heap.size) w' c' d
theorem wJ (c:SlC) (d:Slot) (w:World) (hd:IsSl (· < w.heap.size) w c d):CP 64 #[c.v] w (aNz w d):=by
 obtain⟨ti10,hi10,hz010,hz110,hz210⟩:=info_parts aBy;obtain⟨ti6,hi6,hz06,hz16,hz26⟩:=info_parts lE;obtain⟨⟨kk,ki,ks,kt,kla,kll,klc,kfa,kfl,kfc⟩,cn,ct,ia,il,ic,wa,wl,wc⟩:=c;have hbig:=hd.items.big;have hbig2:=hd.vals.big;have HLI:=hid hd.items.len;have HLV:=hid hd.vals.len;have HDI:=hid hd.items;have HDV:=hid hd.vals;have HK:=hid hd.k;have HNT:=hid (And.intro hd.n (And.intro hd.rn (And.intro hd.t hd.rt)));dsimp only at hbig hbig2 HLI HLV HDI HDV HNT HK;clear hd
 obtain⟨wb,hwb⟩:=ez ((w.alloc (.cells #[I6 kk,I6 ki,I6 ks,.string kt,.slice kla kll klc,.slice kfa kfl kfc,I6 cn,I6 ct,.slice ia il ic,.slice wa wl wc] 66)).alloc (.cells #[I6 0,I6 0,I6 0,.string ⟨#[]⟩,.slice none 0 0,.slice none 0 0,I6 0,I6 0,.slice none 0 0,.slice none 0 0] 66))
 have hb0:BB w wb:=by rw[hwb];exact((bR w).alloc lr _).alloc gd _
 have hsb:wb.heap.size=w.heap.size+2:=by rw[hwb];simp
 have g1:wb.heap[w.heap.size]?=some (.cells #[I6 kk,I6 ki,I6 ks,.string kt,.slice kla kll klc,.slice kfa kfl kfc,I6 cn,I6 ct,.slice ia il ic,.slice wa wl wc] 66):=by rw[hwb];exact aD _ (heap_alloc_new w _)
 have g2:wb.heap[w.heap.size+1]?=some (.cells #[I6 0,I6 0,I6 0,.string ⟨#[]⟩,.slice none 0 0,.slice none 0 0,I6 0,I6 0,.slice none 0 0,.slice none 0 0] 66):=by rw[hwb];exact aS _ _ _ gd
 have k8:=aA g1 8
 (try dsimp only at k8)
 rw[hwb] at k8;have HWB:=hid hwb;have HB0:=hid hb0;have HSB:=hid hsb;have G1:=hid g1;have G2:=hid g2;clear hwb hb0 hsb g1 g2;dsimp only[SlC.v];go_enter Tryz.func64,Tryz.ntmps64
 go_wp2_with (at_make;refine wpList_make_own _ rfl _ _ 64 rfl wb.heap.size 86 ti10 _ 10 Tryz.underlying64 hi10 hz010 hz110 .i64 .i64 _ il rfl rfl rfl (by rw[hz210];omega) (by unfold maxLen;omega) (by rw[HWB.out];exact Nat.le_refl _) ?_;intro w1 hown1 hg1;rw[<-HWB.out] at hown1 hg1;have k8':=(aT hg1 G1.out gd:_);have c8:=aA k8' 8;(try dsimp only at c8);have HO1:=hid hown1;have HG1:=hid hg1;clear k8' hown1 hg1 k8)
 clear c8;have HBS:=hid (show BB w w1 from HB0.out.grown HG1.out (by have:=HSB.out;omega) (fun r e=>by cases e));have HZS:=hid (show w.heap.size<=wb.heap.size by have:=HSB.out;omega);have HZB:=hid (show wb.heap.size<=w1.heap.size from HG1.out.size)
 go_loopw [3,16] (fun vv i wr=>∃(k:Nat) (v:Value),v=vv/\k<=il/\i=I6 k/\Built msgK 86 wb.heap.size wr v k d.items/\Below wb.heap.size w1 wr) (fun _ i _=>il-(intOf i).toNat)
 case atStart=>exact⟨0,_,rfl,Nat.zero_le _,rfl,⟨[],rfl,(by rw[show w.heap.size+1+1=wb.heap.size from HSB.out.symm];exact HO1.out),fun j h=>by simp at h⟩,Below.refl _ _⟩
 case round =>
 obtain⟨k,v,rfl,hk,rfl,hbu,hbr⟩:=hrel;obtain⟨wp,rfl⟩:=ez (wr:World)
 by_cases hlt:k<il
 ·have hkl:k<d.items.length:=by have:=HLI.out;omega
  obtain⟨b,o,rfl,hb,hx⟩:=HDI.out.slot (show 0<il by omega);obtain⟨x,hxa,hxi⟩:=hx k hkl;have hbw:BB w wp:=HBS.out.trans (hbr.mono HZS.out);obtain⟨x0,x1,x2,x3,x4,x5,x6,x7,x8,x9⟩:=((hxa.same (hbw.block b hb))).m;have hlt':(k:Int)<(il:Int):=by omega
  have hk0:(0:Int)<=(k:Int):=by omega
  obtain⟨cs,hcs,hown,hel⟩:=hbu;have hvb:=Built.own (K:=msgK) ⟨cs,hcs,hown,hel⟩;have hba:BB w (wp.alloc (oM x 86)):=hbw.alloc hbw.size _;have hsz0:wb.heap.size<=wp.heap.size:=oE hbr HZB.out;have HCS:=hid (xJ x d.items[k] (wp.alloc (oM x 86)) (hxi.same fun b q=>⟨by have:=hba.size;omega,hba.block b q⟩));have HVB:=hid hvb;have HOWN:=hid hown;have HEL:=hid hel;have HCL:=hid hcs;have HBR:=hid hbr;have hbs:wb.heap.size<=wp.heap.size:=hsz0;clear hvb hown hel hcs hba hbr hxi hxa hx hb hbw;have hcap1:k+1<=maxLen:=by unfold maxLen;omega
  have hcap2:(k+1) * 152<=140737488355328:=by omega
  go_wp2_with (first
   | (go_at_call 116;refine HCS.out.mono ?_;rintro e w4 ⟨c4,rfl,hb4,hi4⟩;have HB4:=hid hb4;have HI4:=hid hi4;clear hb4 hi4)
   | (at_builtin;refine wpList_append_lies _ gh _ _ 64 gh wb.heap.size 86 ti10 _ 10 152 Tryz.underlying64 hi10 hz010 hz110 hz210 rfl ga v k (cs.flatMap MC.cs) gh ((fM (HOWN.out.alloc _) HB4.out).alloc (oM c4 86)) ⟨w4.heap.size,0,none⟩ 1 1 (MC.cs c4) gh gh (World.news_of_block (heap_alloc_new w4 _)) (by simp[MC.cs,Value.oneCell']) ga hcap1 hcap2 (by have h2:=HB4.out.size;simp at h2 ⊢;omega) (w4.heap.size+1) gd ?_;intro gg cap5 w5 hown2 hgrow hat hlt2;have HO2:=hid hown2;have HG:=hid hgrow;have HAT:=hid hat;clear hown2 hgrow hat hlt2))
  go_roundw
  case rel =>
   have h4:=HB4.out.size;simp only[World.size_alloc] at h4;have h14:Below wb.heap.size w1 w4:=HBR.out.trans ((((Below.refl _ wp).alloc lr (oM x 86)).trans (HB4.out.mono gd)).mono hbs);have hpush:Built msgK 86 wb.heap.size w5 (.slice (some ⟨gg,0,none⟩) (k+1) cap5) (k+1) d.items :=
    Built.push (K:=msgK) (N:=wp.heap.size) (w1:=w4) (o:=(oM c4 86)) (c:=c4) HCL.out
     (fun j hj hj'=>(HEL.out j hj hj').same fun b hb=>⟨⟨hb.1,by have:=hb.2.1;omega,hb.2.2⟩,(HB4.out.block b (by have:=hb.2.1;simp;omega)).trans (Below.heap_alloc _ _ _ (by have:=hb.2.1;omega))⟩) hkl
     (HI4.out.same fun b hb=>⟨⟨by have:=hb.1;simp at this;omega,hb.2⟩,rfl⟩) hbs (fun r e=>(HVB.out r e).2) HO2.out HG.out HAT.out
   exact⟨k+1,_,rfl,by omega,by go_num,hpush,(h14.alloc ga _).grown HG.out gj (fun r e=>(HVB.out r e).1)⟩
  case measure=>simp[intOf];omega
 ·obtain rfl:il=k:=by omega
  obtain⟨va,vc1,rfl,hva,_,_⟩:=hbu.shape;have hsz0:wb.heap.size<=wp.heap.size:=oE hbr HZB.out;have gb:wp.heap[w.heap.size]?=some (.cells #[I6 kk,I6 ki,I6 ks,.string kt,.slice kla kll klc,.slice kfa kfl kfc,I6 cn,I6 ct,.slice ia il ic,.slice wa wl wc] 66):=gA hbr (aT HG1.out G1.out gd) (by have:=HSB.out;omega);have gr:wp.heap[w.heap.size+1]?=some (.cells #[I6 0,I6 0,I6 0,.string ⟨#[]⟩,.slice none 0 0,.slice none 0 0,I6 0,I6 0,.slice none 0 0,.slice none 0 0] 66):=gA hbr (aT HG1.out G2.out gd) (by have:=HSB.out;omega);have HBP:=hid (HBS.out.trans (hbr.mono HZS.out));have HGB:=hid gb
  have HGR:=hid gr;have HBU:=hid hbu;have HSP:=hid (show wb.heap.size<=wp.heap.size from hsz0);have k9:=aA gb 9
  (try dsimp only at k9)
  clear gb gr hbu hbr hsz0 HO1 HG1 G1 G2 HWB HB0 HBS HZS HZB;go_wp2_with (at_make;refine wpList_make_own _ rfl _ _ 33 rfl wp.heap.size 36 ti6 _ 6 Tryz.underlying33 hi6 hz06 hz16 .i64 .i64 _ wl rfl rfl rfl (by rw[hz26];omega) (by unfold maxLen;omega) lr ?_;intro w2 hown2 hg2;have k9':=(aT hg2 HGB.out gd:_);have c9:=aA k9' 9;(try dsimp only at c9);have HO2A:=hid hown2;have HG2A:=hid hg2;clear k9' hown2 hg2 k9)
  clear c9;have HBS:=hid (show BB w w2 from HBP.out.grown HG2A.out HBP.out.size (fun r e=>by cases e));have HZS:=hid (show w.heap.size<=wp.heap.size from HBP.out.size);have HZB:=hid (show wp.heap.size<=w2.heap.size from HG2A.out.size);obtain⟨ws,rfl⟩:=ez (wp:World)
  go_loopw [6,33] (fun vv i wr=>∃(k:Nat) (v:Value),v=vv/\k<=wl/\i=I6 k/\Built valK 36 ws.heap.size wr v k d.vals/\Below ws.heap.size w2 wr) (fun _ i _=>wl-(intOf i).toNat)
  case atStart=>exact⟨0,_,rfl,Nat.zero_le _,rfl,⟨[],rfl,HO2A.out,fun j h=>by simp at h⟩,Below.refl _ _⟩
  case round =>
  obtain⟨k,v,rfl,hk,rfl,hbu,hbr⟩:=hrel;obtain⟨wp,rfl⟩:=ez (wr:World)
  by_cases hlt:k<wl
  ·have hkl:k<d.vals.length:=by have:=HLV.out;omega
   obtain⟨b,o,rfl,hb,hx⟩:=HDV.out.slot (show 0<wl by omega);obtain⟨x,hxa,hxi⟩:=hx k hkl;have hbw:BB w wp:=HBS.out.trans (hbr.mono HZS.out);obtain⟨x0,x1,x2,x3,x4,x5⟩:=((hxa.same (hbw.block b hb))).val;have hlt':(k:Int)<(wl:Int):=by omega
   have hk0:(0:Int)<=(k:Int):=by omega
   obtain⟨cs,hcs,hown,hel⟩:=hbu;have hvb:=Built.own (K:=valK) ⟨cs,hcs,hown,hel⟩;have hba:BB w (wp.alloc (oV x 36)):=hbw.alloc hbw.size _;have hsz0:ws.heap.size<=wp.heap.size:=oE hbr HZB.out;have HCS:=hid (mJ (c:=x) (d:=d.vals[k]) (w:=(wp.alloc (oV x 36))) (hxi.same fun b q=>⟨by have:=hba.size;omega,hba.block b q⟩));have HVB:=hid hvb;have HOWN:=hid hown;have HEL:=hid hel;have HCL:=hid hcs;have HBR:=hid hbr;have hbs:ws.heap.size<=wp.heap.size:=hsz0;clear hvb hown hel hcs hba hbr hxi hxa hx hb hbw;have hcap1:k+1<=maxLen:=by unfold maxLen;omega
   have hcap2:(k+1) * 88<=140737488355328:=by omega
   go_wp2_with (first
    | (go_at_call 117;refine HCS.out.mono ?_;rintro e w4 ⟨c4,rfl,hb4,hi4⟩;have HB4:=hid hb4;have HI4:=hid hi4;clear hb4 hi4)
    | (at_builtin;refine wpList_append_lies _ gh _ _ 33 gh ws.heap.size 36 ti6 _ 6 88 Tryz.underlying33 hi6 hz06 hz16 hz26 rfl ga v k (cs.flatMap VC.cs) gh ((fM (HOWN.out.alloc _) HB4.out).alloc (oV c4 36)) ⟨w4.heap.size,0,none⟩ 1 1 (VC.cs c4) gh gh (World.news_of_block (heap_alloc_new w4 _)) (by simp[VC.cs,Value.oneCell']) ga hcap1 hcap2 (by have h2:=HB4.out.size;simp at h2 ⊢;omega) (w4.heap.size+1) gd ?_;intro gg cap5 w5 hown2 hgrow hat hlt2;have HO2:=hid hown2;have HG:=hid hgrow;have HAT:=hid hat;clear hown2 hgrow hat hlt2))
   go_roundw
   case rel =>
    have h4:=HB4.out.size;simp only[World.size_alloc] at h4;have h14:Below ws.heap.size w2 w4:=HBR.out.trans ((((Below.refl _ wp).alloc lr (oV x 36)).trans (HB4.out.mono gd)).mono hbs);have hpush:Built valK 36 ws.heap.size w5 (.slice (some ⟨gg,0,none⟩) (k+1) cap5) (k+1) d.vals :=
     Built.push (K:=valK) (N:=wp.heap.size) (w1:=w4) (o:=(oV c4 36)) (c:=c4) HCL.out
      (fun j hj hj'=>(HEL.out j hj hj').same fun b hb=>⟨⟨hb.1,by have:=hb.2.1;omega,hb.2.2⟩,(HB4.out.block b (by have:=hb.2.1;simp;omega)).trans (Below.heap_alloc _ _ _ (by have:=hb.2.1;omega))⟩) hkl
      (HI4.out.same fun b hb=>⟨⟨by have:=hb.1;simp at this;omega,hb.2⟩,rfl⟩) hbs (fun r e=>(HVB.out r e).2) HO2.out HG.out HAT.out
    exact⟨k+1,_,rfl,by omega,by go_num,hpush,(h14.alloc ga _).grown HG.out gj (fun r e=>(HVB.out r e).1)⟩
   case measure=>simp[intOf];omega
  ·obtain rfl:wl=k:=by omega
   obtain⟨vb,vc2,rfl,hvb2,_,_⟩:=hbu.shape;have hsz2:ws.heap.size<=wp.heap.size:=oE hbr HZB.out;have hbp2:BB ws wp:=((Below.refl _ ws).grown HG2A.out lr (fun r e=>by cases e)).trans (hbr.mono lr);have gb:=aB hbp2 HGB.out;have gr:=aB hbp2 HGR.out;have hbw:BB w wp:=HBP.out.trans (hbp2.mono HBP.out.size);have HKC:=hid (mJ (c:=⟨kk,ki,ks,kt,kla,kll,klc,kfa,kfl,kfc⟩) (d:=d.k) (w:=wp) (HK.out.same fun b q=>⟨Nat.lt_of_lt_of_le q hbw.size,hbw.block b q⟩));dsimp only[VC.v] at HKC
   have e0:=aA gb 0;have ef0:=aC gb 0;have e1:=aA gb 1;have ef1:=aC gb 1;have e2:=aA gb 2;have ef2:=aC gb 2;have e3:=aA gb 3;have ef3:=aC gb 3;have e4:=aA gb 4;have ef4:=aC gb 4;have e5:=aA gb 5;have ef5:=aC gb 5;have e6:=aA gb 6;have ef6:=aC gb 6;have e7:=aA gb 7;have ef7:=aC gb 7;have e8:=aA gb 8;have ef8:=aC gb 8;have e9:=aA gb 9;have ef9:=aC gb 9
   (try dsimp only at e0 e1 e2 e3 e4 e5 e6 e7 e8 e9)
   have HGB2:=hid gb;have HGR2:=hid gr;have HBU2:=hid hbu;have HBW:=hid hbw;have HBP2:=hid hbp2;have HSZ2:=hid hsz2;clear gb gr hbu hbr hbw hbp2 hsz2 HBS HZS HZB HO2A HG2A HGB HGR
   go_wp2_with (go_at_call 117;refine HKC.out.mono ?_;rintro e w7 ⟨c6,rfl,hb7,hi7⟩;clear e0 e1 e2 e3 e4 e5 e6 e7 e8 e9 ef0 ef1 ef2 ef3 ef4 ef5 ef6 ef7 ef8 ef9;have gb:=aB hb7 HGB2.out;have gr:=aB hb7 HGR2.out;have e0:=aA gb 0;have ef0:=aC gb 0;have f0:=aA gr 0;have ff0:=aC gr 0;have e1:=aA gb 1;have ef1:=aC gb 1;have f1:=aA gr 1;have ff1:=aC gr 1;have e2:=aA gb 2;have ef2:=aC gb 2;have f2:=aA gr 2;have ff2:=aC gr 2;have e3:=aA gb 3;have ef3:=aC gb 3;have f3:=aA gr 3;have ff3:=aC gr 3;have e4:=aA gb 4;have ef4:=aC gb 4;have f4:=aA gr 4;have ff4:=aC gr 4;have e5:=aA gb 5;have ef5:=aC gb 5;have f5:=aA gr 5;have ff5:=aC gr 5;have e6:=aA gb 6;have ef6:=aC gb 6;have f6:=aA gr 6;have ff6:=aC gr 6;have e7:=aA gb 7;have ef7:=aC gb 7;have f7:=aA gr 7;have ff7:=aC gr 7;have e8:=aA gb 8;have ef8:=aC gb 8;have f8:=aA gr 8;have ff8:=aC gr 8;have e9:=aA gb 9;have ef9:=aC gb 9;have f9:=aA gr 9;have ff9:=aC gr 9;(try dsimp only at e0 e1 e2 e3 e4 e5 e6 e7 e8 e9 f0 f1 f2 f3 f4 f5 f6 f7 f8 f9);have GR7:=hid gr;have HI7:=hid hi7;have HB7:=hid hb7;clear gb gr hi7 hb7)
   clear e0 e1 e2 e3 e4 e5 e6 e7 e8 e9 ef0 ef1 ef2 ef3 ef4 ef5 ef6 ef7 ef8 ef9 f0 f1 f2 f3 f4 f5 f6 f7 f8 f9 ff0 ff1 ff2 ff3 ff4 ff5 ff6 ff7 ff8 ff9;have hb7:=HB7.out;have hs7:=hb7.size;have hsw:=HBP.out.size;have hss:=HSP.out;have hsb:=HSB.out;have hz2:=HSZ2.out
   obtain⟨W8,hW8⟩:=ez (((((((((w7.setCell ⟨w.heap.size,0,none⟩ (I6 c6.k)).setCell ⟨w.heap.size,1,none⟩ (I6 c6.i)).setCell ⟨w.heap.size,2,none⟩ (I6 c6.s)).setCell ⟨w.heap.size,3,none⟩ (.string c6.t)).setCell ⟨w.heap.size,4,none⟩ (.slice c6.la c6.ll c6.lc)).setCell ⟨w.heap.size,5,none⟩ (.slice c6.fa c6.fl c6.fc)).setCell ⟨w.heap.size,8,none⟩ (.slice va il vc1)).setCell ⟨w.heap.size,9,none⟩ (.slice vb wl vc2)))
   have hO8:∀b,b≠w.heap.size->W8.heap[b]?=w7.heap[b]?:=fun b hb=>by
    rw[hW8];exact(Below.heap_setCell _ _ _ _ hb).trans ((Below.heap_setCell _ _ _ _ hb).trans ((Below.heap_setCell _ _ _ _ hb).trans ((Below.heap_setCell _ _ _ _ hb).trans ((Below.heap_setCell _ _ _ _ hb).trans ((Below.heap_setCell _ _ _ _ hb).trans ((Below.heap_setCell _ _ _ _ hb).trans (Below.heap_setCell _ _ _ _ hb)))))))
   have hS8:W8.heap.size=w7.heap.size:=by rw[hW8];simp[World.setCell]
   have hB8:BB w W8:=by
    rw[hW8];exact((((((((HBW.out.trans (hb7.mono HBW.out.size)).setCell (p:=⟨w.heap.size,0,none⟩) lr _).setCell (p:=⟨w.heap.size,1,none⟩) lr _).setCell (p:=⟨w.heap.size,2,none⟩) lr _).setCell (p:=⟨w.heap.size,3,none⟩) lr _).setCell (p:=⟨w.heap.size,4,none⟩) lr _).setCell (p:=⟨w.heap.size,5,none⟩) lr _).setCell (p:=⟨w.heap.size,8,none⟩) lr _).setCell (p:=⟨w.heap.size,9,none⟩) lr _
   have h1:=fX (B:=w.heap.size+1) (w:=W8) (v0:=I6 c6.k) (v1:=I6 c6.i) (v2:=I6 c6.s) (v3:=.string c6.t) (v4:=.slice c6.la c6.ll c6.lc) (v5:=.slice c6.fa c6.fl c6.fc) (v6:=I6 cn) (v7:=I6 ct) (v8:=.slice va il vc1) (v9:=.slice vb wl vc2) ((hO8 _ ga).trans GR7.out);have hO9:∀b,b≠w.heap.size->b≠w.heap.size+1->(putTen W8 (w.heap.size+1) (I6 c6.k) (I6 c6.i) (I6 c6.s) (.string c6.t) (.slice c6.la c6.ll c6.lc) (.slice c6.fa c6.fl c6.fc) (I6 cn) (I6 ct) (.slice va il vc1) (.slice vb wl vc2)).heap[b]?=w7.heap[b]?:=fun b h2 h3=>(pX _ _ _ _ _ _ _ _ _ _ _ _ _ h3).trans (hO8 b h2)
   have hS9:(putTen W8 (w.heap.size+1) (I6 c6.k) (I6 c6.i) (I6 c6.s) (.string c6.t) (.slice c6.la c6.ll c6.lc) (.slice c6.fa c6.fl c6.fc) (I6 cn) (I6 ct) (.slice va il vc1) (.slice vb wl vc2)).heap.size=w7.heap.size:=(sK _ _ _ _ _ _ _ _ _ _ _ _).trans hS8;have hB9:=hB8.trans (eV (I6 c6.k) (I6 c6.i) (I6 c6.s) (.string c6.t) (.slice c6.la c6.ll c6.lc) (.slice c6.fa c6.fl c6.fc) (I6 cn) (I6 ct) (.slice va il vc1) (.slice vb wl vc2) W8 (w.heap.size+1) w.heap.size ga);obtain⟨_,c1',e1',hr1⟩:=Built.row' HBU.out HLI.out gi
   obtain⟨rfl,rfl⟩:va=_/\vc1=c1':=by(injection e1' with q1 _ q2;exact⟨q1,q2⟩)
   obtain⟨_,c2',e2',hr2⟩:=Built.row' HBU2.out HLV.out gi;obtain⟨rfl,rfl⟩:vb=_/\vc2=c2':=by(injection e2' with q1 _ q2;exact⟨q1,q2⟩)
   have I1:=hid (hr1.same (S':=fun b=>w.heap.size<=b/\b<(putTen W8 (w.heap.size+1) (I6 c6.k) (I6 c6.i) (I6 c6.s) (.string c6.t) (.slice c6.la c6.ll c6.lc) (.slice c6.fa c6.fl c6.fc) (I6 cn) (I6 ct) (.slice va il vc1) (.slice vb wl vc2)).heap.size) (w':=putTen W8 (w.heap.size+1) (I6 c6.k) (I6 c6.i) (I6 c6.s) (.string c6.t) (.slice c6.la c6.ll c6.lc) (.slice c6.fa c6.fl c6.fc) (I6 cn) (I6 ct) (.slice va il vc1) (.slice vb wl vc2)) fun b q=>⟨by rw[hS9];omega,(hO9 b ga ga).trans ((hb7.block b ga).trans (HBP2.out.block b ga))⟩)
   have I2:=hid (hr2.same (S':=fun b=>w.heap.size<=b/\b<(putTen W8 (w.heap.size+1) (I6 c6.k) (I6 c6.i) (I6 c6.s) (.string c6.t) (.slice c6.la c6.ll c6.lc) (.slice c6.fa c6.fl c6.fc) (I6 cn) (I6 ct) (.slice va il vc1) (.slice vb wl vc2)).heap.size) (w':=putTen W8 (w.heap.size+1) (I6 c6.k) (I6 c6.i) (I6 c6.s) (.string c6.t) (.slice c6.la c6.ll c6.lc) (.slice c6.fa c6.fl c6.fc) (I6 cn) (I6 ct) (.slice va il vc1) (.slice vb wl vc2)) fun b q=>⟨by rw[hS9];omega,(hO9 b ga ga).trans (hb7.block b ga)⟩)
   have I3:=hid (HI7.out.same (S':=fun b=>w.heap.size<=b/\b<(putTen W8 (w.heap.size+1) (I6 c6.k) (I6 c6.i) (I6 c6.s) (.string c6.t) (.slice c6.la c6.ll c6.lc) (.slice c6.fa c6.fl c6.fc) (I6 cn) (I6 ct) (.slice va il vc1) (.slice vb wl vc2)).heap.size) (w':=putTen W8 (w.heap.size+1) (I6 c6.k) (I6 c6.i) (I6 c6.s) (.string c6.t) (.slice c6.la c6.ll c6.lc) (.slice c6.fa c6.fl c6.fc) (I6 cn) (I6 ct) (.slice va il vc1) (.slice vb wl vc2)) fun b q=>⟨by rw[hS9];omega,hO9 b ga ga⟩);clear hO8 hS8 hB8 hO9 hS9 hr1 hr2;dsimp only[putTen] at h1 hB9 I1 I2 I3;rw[hW8] at h1 hB9 I1 I2 I3
   exact bodyPost_ret (v:=SlC.v ⟨c6,cn,ct,va,il,vc1,vb,wl,vc2⟩) (by simp[results,Tryz.results64,go_sem,aA h1]) rfl ⟨(⟨c6,cn,ct,va,il,vc1,vb,wl,vc2⟩:SlC),rfl,hB9,⟨I3.out,HNT.out.1,HNT.out.2.1,HNT.out.2.2.1,HNT.out.2.2.2,I1.out,I2.out⟩⟩
end
section
open Go Go.RowKit Go.Shelf
def jJ (c:Nat->Int):Nat->Nat->Nat->Nat
 | 0,i,_=>i
 | f+1,i,j=>if i<j then (if c ((i+j) / 2)<0 then jJ c f ((i+j) / 2+1) j else jJ c f i ((i+j) / 2)) else i
def aMr (l:List Slot) (k:Val) (j:Nat):Int:=match l[j]? with
 | some x=>cN x.k k
 | none=>0
def sO (l:List Slot) (k:Val):Nat:=jJ (aMr l k) (l.length+1) 0 l.length
def mM (l:List Slot) (k:Val):Bool:=decide (sO l k<l.length)&&(aMr l k (sO l k)==0)
theorem aDw (l:List Slot) (k:Val) (j:Nat) (h:j<l.length):aMr l k j=cN l[j].k k:=by rw[aMr,List.getElem?_eq_getElem h]
def aFe (w:World) (l:List Slot) (k:Val) (e:Ending) (w':World):Prop:=e=.returned (.tuple #[I6 (sO l k:Nat),.bool (mM l k)])/\BB w w'
theorem vQ (x:SlC) (d:Slot) (c:VC) (kd:Val) (w:World) (hd:IsSl (· < w.heap.size) w x d) (hk:IsVal (· < w.heap.size) w c kd):CP 115 #[x.v,c.v] w (Rt (I6 (cN d.k kd)) w):=by
 have hb:BB w ((w.alloc (oS x 66)).alloc (oV c 36)):=((bR w).alloc lr _).alloc gd _;have hc:=gK x.k c d.k kd _ (hd.k.same fun b q=>⟨Nat.lt_of_lt_of_le q hb.size,hb.block b q⟩) (hk.same fun b q=>⟨Nat.lt_of_lt_of_le q hb.size,hb.block b q⟩);have g1:=aD (oV c 36) (heap_alloc_new w (oS x 66));have HC:=hid hc;have HB:=hid hb;have e0:=aA g1 0;have e1:=aA g1 1;have e2:=aA g1 2;have e3:=aA g1 3;have e4:=aA g1 4;have e5:=aA g1 5
 (try dsimp only at e0 e1 e2 e3 e4 e5)
 clear hc hb hd hk g1;dsimp only[SlC.v,VC.v] at HC ⊢;go_enter Tryz.func115,Tryz.ntmps115
 go_wp2_with (go_at_call 68;refine HC.out.mono ?_;rintro e w2 ⟨rfl,hb2⟩)
 go_ret;exact⟨rfl,HB.out.trans (hb2.mono HB.out.size)⟩
theorem bs_call (a:Option Addr) (n cp:Nat) (l:List Slot) (c:VC) (kd:Val) (w:World) (hd:IsRow slK (· < w.heap.size) w a n cp l) (hk:IsVal (· < w.heap.size) w c kd) :
 CP 114 #[.slice a n cp,c.v,.func (.func 115) #[] #[]] w (aFe w l kd):=by
 have hen:∀args w,(callFunc 115 args).run Tryz.prog w=.ok (.enter 115 args) w:=enters_of Tryz.func115 ge rfl;have hbig:n * 152<=140737488351232:=hd.big;have hn62:n<4611686018427387904:=by omega
 have HL:=hid hd.len;have HD:=hid hd;have HK:=hid hk;clear hd hk hbig;obtain⟨wb,hwb⟩:=ez (w.alloc (oV c 36))
 have HB0:=hid (show BB w wb by rw[hwb];exact(bR w).alloc lr _);have G1:=hid (show wb.heap[w.heap.size]?=some (oV c 36) by rw[hwb];exact heap_alloc_new w _);have HWB:=hid hwb;clear hwb;obtain⟨cc,hcc⟩:=ez (aMr l kd)
 obtain⟨fi,hfi⟩:=ez (sO l kd)
 have HFI:=hid hfi;have HCC:=hid hcc;have HBT0:=hid (show fi=jJ cc (n+1) 0 n by rw[hfi,hcc,sO,HL.out]);clear hcc hfi;dsimp only[VC.v];go_enter Tryz.func114,Tryz.ntmps114
 go_wp2;rw[<-HWB.out]
 go_loopw [9,10] (fun s9 s10 wr=>∃lo hi f:Nat,s9=I6 lo/\s10=I6 hi/\lo<=hi/\hi<=n/\hi-lo<f/\fi=jJ cc f lo hi/\BB wb wr) (fun s9 s10 _=>(intOf s10).toNat-(intOf s9).toNat)
 case atStart=>exact⟨0,n,n+1,rfl,rfl,Nat.zero_le _,Nat.le_refl _,by omega,HBT0.out,Below.refl _ _⟩
 case round =>
 obtain⟨lo,hi,f,rfl,rfl,hlh,hin,hf,hbt,hbr⟩:=hrel;obtain⟨wp,rfl⟩:=ez (wr:World)
 obtain⟨g,hg⟩:∃g,f=g+1:=⟨f-1,by omega⟩
 have HBT:=hid (show fi=jJ cc (g+1) lo hi by rw[<-hg];exact hbt);have HF:=hid (show hi-lo<g+1 by omega);clear hf hg;have HBR:=hid hbr;have HBW:=hid (HB0.out.trans (hbr.mono HB0.out.size));clear hbt hbr HBT0;by_cases hlt:lo<hi
 ·have hkl:(lo+hi) / 2<l.length:=by have:=HL.out;omega
  obtain⟨b,o,rfl,hb,hx⟩:=HD.out.slot (show 0<n by omega);obtain⟨x,hxa,hxi⟩:=hx ((lo+hi) / 2) hkl;have HB:=hid hb;obtain⟨u,hu⟩:=ez (cN l[(lo+hi) / 2].k kd)
  have HU:=hid (show cc ((lo+hi) / 2)=u by rw[hu,HCC.out,aDw l kd _ hkl])
  have HC:Hid (∀w',BB wp w'->(Ce w' w.heap.size 0 (I6 c.k)/\Ce w' w.heap.size 1 (I6 c.i)/\Ce w' w.heap.size 2 (I6 c.s)/\Ce w' w.heap.size 3 (.string c.t)/\Ce w' w.heap.size 4 (.slice c.la c.ll c.lc)/\Ce w' w.heap.size 5 (.slice c.fa c.fl c.fc))/\(w'.cell? ⟨b,o+(((lo:Int)+(hi:Int)) / 2).toNat * 10,none⟩=some (I6 x.k.k)/\w'.cell? ⟨b,o+(((lo:Int)+(hi:Int)) / 2).toNat * 10+1,none⟩=some (I6 x.k.i)/\w'.cell? ⟨b,o+(((lo:Int)+(hi:Int)) / 2).toNat * 10+2,none⟩=some (I6 x.k.s)/\w'.cell? ⟨b,o+(((lo:Int)+(hi:Int)) / 2).toNat * 10+3,none⟩=some (.string x.k.t)/\w'.cell? ⟨b,o+(((lo:Int)+(hi:Int)) / 2).toNat * 10+4,none⟩=some (.slice x.k.la x.k.ll x.k.lc)/\w'.cell? ⟨b,o+(((lo:Int)+(hi:Int)) / 2).toNat * 10+5,none⟩=some (.slice x.k.fa x.k.fl x.k.fc)/\w'.cell? ⟨b,o+(((lo:Int)+(hi:Int)) / 2).toNat * 10+6,none⟩=some (I6 x.n)/\w'.cell? ⟨b,o+(((lo:Int)+(hi:Int)) / 2).toNat * 10+7,none⟩=some (I6 x.t)/\w'.cell? ⟨b,o+(((lo:Int)+(hi:Int)) / 2).toNat * 10+8,none⟩=some (.slice x.ia x.il x.ic)/\w'.cell? ⟨b,o+(((lo:Int)+(hi:Int)) / 2).toNat * 10+9,none⟩=some (.slice x.va x.vl x.vc))):=hid fun w' h=>by
   rw[show(((lo:Int)+(hi:Int)) / 2).toNat=(lo+hi) / 2 by omega];have h1:=aB ((HBR.out).trans (h.mono HBR.out.size)) G1.out;obtain⟨x0,x1,x2,x3,x4,x5,x6,x7,x8,x9⟩:=(hxa.same ((HBW.out.trans (h.mono HBW.out.size)).block b HB.out)).slot;exact⟨⟨aA h1 0,aA h1 1,aA h1 2,aA h1 3,aA h1 4,aA h1 5⟩,x0,x1,x2,x3,x4,x5,x6,x7,x8,x9⟩
  have HCL:Hid (∀w',BB wp w'->CP 115 #[.agg #[I6 x.k.k,I6 x.k.i,I6 x.k.s,.string x.k.t,.slice x.k.la x.k.ll x.k.lc,.slice x.k.fa x.k.fl x.k.fc,I6 x.n,I6 x.t,.slice x.ia x.il x.ic,.slice x.va x.vl x.vc],.agg #[I6 c.k,I6 c.i,I6 c.s,.string c.t,.slice c.la c.ll c.lc,.slice c.fa c.fl c.fc]] w' (Rt (I6 u) w')):=hid fun w' h=>by
   have hw:=HBW.out.trans (h.mono HBW.out.size);have hs:=hw.size;rw[hu];exact vQ x l[(lo+hi) / 2] c kd w' (hxi.same fun b q=>⟨by omega,hw.block b q⟩) (HK.out.same fun b q=>⟨by omega,hw.block b q⟩)
  have hm0:(0:Int)<=((lo:Int)+(hi:Int)) / 2:=by omega
  have hm1:((lo:Int)+(hi:Int)) / 2<(n:Int):=by omega
  clear hx hxa hxi hb hu hkl;by_cases hu0:u<0
  ·have HULT:=hid (show cc ((lo+hi) / 2)<0 by rw[HU.out];exact hu0);go_upto_region 5 with (fail)
   refine aG 8 (fun w'=>BB wp w') ge ge ge gc ((Below.refl _ _).drew) (fun hS=>?_);simp only[zdm,zdn,zdp,zdq];refine tc 0 HC ?_;refine tc 1 HC ?_;refine tc 2 HC ?_;refine tc 3 HC ?_;refine tc 4 HC ?_;refine tc 5 HC ?_;refine yr 6 fun K hK=>?_;go_simp;go_at_call 115;refine(HCL.out _ hS).mono ?_;rintro e w3 ⟨rfl,hb3⟩;refine hK.out _ _ (hS.trans (hb3.mono hS.size)) (fun hS=>?_);clear hK K
   (try simp only[Act.put,pq])
   refine tc 7 HC ?_;refine wpAnyH_done ge ?_ _
   (try dsimp only)
   have HBE:=hid hS;clear hS HC HCL;go_wp2
   go_roundw
   case rel =>
    refine⟨(lo+hi) / 2+1,hi,g,by rw[show((lo:Int)+(hi:Int)) / 2+1=(((lo+hi) / 2+1:Nat):Int) by omega],rfl,by omega,hin,(by have:=HF.out;omega),?_,HBR.out.trans (HBE.out.mono HBR.out.size)⟩;rw[HBT.out,jJ,if_pos hlt,if_pos HULT.out]
   case measure=>simp[intOf];omega
  ·have HULT:=hid (show ¬ cc ((lo+hi) / 2)<0 by rw[HU.out];exact hu0);go_upto_region 5 with (fail)
   refine aG 8 (fun w'=>BB wp w') ge ge ge gc ((Below.refl _ _).drew) (fun hS=>?_);simp only[zdm,zdn,zdp,zdq];refine tc 0 HC ?_;refine tc 1 HC ?_;refine tc 2 HC ?_;refine tc 3 HC ?_;refine tc 4 HC ?_;refine tc 5 HC ?_;refine yr 6 fun K hK=>?_;go_simp;go_at_call 115;refine(HCL.out _ hS).mono ?_;rintro e w3 ⟨rfl,hb3⟩;refine hK.out _ _ (hS.trans (hb3.mono hS.size)) (fun hS=>?_);clear hK K
   (try simp only[Act.put,pq])
   refine tc 7 HC ?_;refine wpAnyH_done ge ?_ _
   (try dsimp only)
   have HBE:=hid hS;clear hS HC HCL;go_wp2
   go_roundw
   case rel =>
    refine⟨lo,(lo+hi) / 2,g,rfl,by rw[show((lo:Int)+(hi:Int)) / 2=(((lo+hi) / 2:Nat):Int) by omega],by omega,by omega,(by have:=HF.out;omega),?_,HBR.out.trans (HBE.out.mono HBR.out.size)⟩;rw[HBT.out,jJ,if_pos hlt,if_neg HULT.out]
   case measure=>simp[intOf];omega
 ·obtain rfl:hi=lo:=by omega
  have HE:=hid (show fi=hi by rw[HBT.out,jJ,if_neg hlt]);by_cases hn:hi<n
  ·have hkl:hi<l.length:=by have:=HL.out;omega
   obtain⟨b,o,rfl,hb,hx⟩:=HD.out.slot (show 0<n by omega);obtain⟨x,hxa,hxi⟩:=hx hi hkl;have HB:=hid hb;have hn':(hi:Int)<(n:Int):=by omega
   have hi0:(0:Int)<=(hi:Int):=by omega
   obtain⟨u,hu⟩:=ez (cN l[hi].k kd)
   have HU:=hid hu;have HFB:=hid (show mM l kd=(u==0) by rw[mM,<-HFI.out,HE.out,aDw l kd hi hkl,<-HU.out];simp[<-HL.out,hn])
   have HC:Hid (∀w',BB wp w'->(Ce w' w.heap.size 0 (I6 c.k)/\Ce w' w.heap.size 1 (I6 c.i)/\Ce w' w.heap.size 2 (I6 c.s)/\Ce w' w.heap.size 3 (.string c.t)/\Ce w' w.heap.size 4 (.slice c.la c.ll c.lc)/\Ce w' w.heap.size 5 (.slice c.fa c.fl c.fc))/\(w'.cell? ⟨b,o+hi * 10,none⟩=some (I6 x.k.k)/\w'.cell? ⟨b,o+hi * 10+1,none⟩=some (I6 x.k.i)/\w'.cell? ⟨b,o+hi * 10+2,none⟩=some (I6 x.k.s)/\w'.cell? ⟨b,o+hi * 10+3,none⟩=some (.string x.k.t)/\w'.cell? ⟨b,o+hi * 10+4,none⟩=some (.slice x.k.la x.k.ll x.k.lc)/\w'.cell? ⟨b,o+hi * 10+5,none⟩=some (.slice x.k.fa x.k.fl x.k.fc)/\w'.cell? ⟨b,o+hi * 10+6,none⟩=some (I6 x.n)/\w'.cell? ⟨b,o+hi * 10+7,none⟩=some (I6 x.t)/\w'.cell? ⟨b,o+hi * 10+8,none⟩=some (.slice x.ia x.il x.ic)/\w'.cell? ⟨b,o+hi * 10+9,none⟩=some (.slice x.va x.vl x.vc))):=hid fun w' h=>by
    have h1:=aB ((HBR.out).trans (h.mono HBR.out.size)) G1.out;obtain⟨x0,x1,x2,x3,x4,x5,x6,x7,x8,x9⟩:=(hxa.same ((HBW.out.trans (h.mono HBW.out.size)).block b HB.out)).slot;exact⟨⟨aA h1 0,aA h1 1,aA h1 2,aA h1 3,aA h1 4,aA h1 5⟩,x0,x1,x2,x3,x4,x5,x6,x7,x8,x9⟩
   have HCL:Hid (∀w',BB wp w'->CP 115 #[.agg #[I6 x.k.k,I6 x.k.i,I6 x.k.s,.string x.k.t,.slice x.k.la x.k.ll x.k.lc,.slice x.k.fa x.k.fl x.k.fc,I6 x.n,I6 x.t,.slice x.ia x.il x.ic,.slice x.va x.vl x.vc],.agg #[I6 c.k,I6 c.i,I6 c.s,.string c.t,.slice c.la c.ll c.lc,.slice c.fa c.fl c.fc]] w' (Rt (I6 u) w')):=hid fun w' h=>by
    have hw:=HBW.out.trans (h.mono HBW.out.size);have hs:=hw.size;rw[hu];exact vQ x l[hi] c kd w' (hxi.same fun b q=>⟨by omega,hw.block b q⟩) (HK.out.same fun b q=>⟨by omega,hw.block b q⟩)
   clear hx hxa hxi hb hu;go_upto_region 8 with (fail)
   refine wp_region_held_drew (S:=(fun w'=>BB wp w')) ge ((Below.refl _ _).drew) (fun hS=>?_);refine tc 0 HC ?_;refine tc 1 HC ?_;refine tc 2 HC ?_;refine tc 3 HC ?_;refine tc 4 HC ?_;refine tc 5 HC ?_;refine tc 6 HC ?_;refine tc 7 HC ?_;refine tc 8 HC ?_;refine tc 9 HC ?_;refine tc 10 HC ?_;refine yr 11 fun K hK=>?_;go_simp;go_at_call 115;refine(HCL.out _ hS).mono ?_;rintro e w3 ⟨rfl,hb3⟩;refine hK.out _ _ (hS.trans (hb3.mono hS.size)) (fun hS=>?_);clear hK K
   (try simp only[Act.put,pq])
   refine tc 12 HC ?_;refine tc 13 HC ?_;refine tc 14 HC ?_;refine tc 15 HC ?_;refine wpAnyH_done ge ?_ _
   (try dsimp only)
   have HBE:=hid hS;clear hS HC HCL;go_wp2
   go_ret2
   exact⟨by rw[HFB.out,<-HFI.out,HE.out];rfl,HBW.out.trans (HBE.out.mono HBW.out.size)⟩
  ·have hn':¬ (hi:Int)<(n:Int):=by omega
   have hn2:decide ((hi:Int)<(n:Int))=false:=by simp;omega
   have hn3:decide (hi<n)=false:=by simp;omega
   have HFB:=hid (show mM l kd=false by rw[mM,<-HFI.out,HE.out,<-HL.out];simp[hn]);have HC:Hid (∀w':World,BB wp w'->True):=hid fun _ _=>trivial;go_upto_region 8 with (fail)
   refine wp_region_held_drew (S:=(fun w'=>BB wp w')) ge ((Below.refl _ _).drew) (fun hS=>?_);refine tc 0 HC ?_;refine tc 1 HC ?_;refine tc 2 HC ?_;refine tc 3 HC ?_;refine tc 4 HC ?_;refine wpAnyH_take (i:=5) (oi:=_) (v:=undef) rfl ge ge ge (fun _ _ _ h=>h) (Or.inr ⟨by rfl,rfl⟩) hS ?_;simp only[Act.put,pq];refine wpAnyH_take (i:=6) (oi:=_) (v:=undef) rfl ge ge ge (fun _ _ _ h=>h) (Or.inr ⟨by rfl,rfl⟩) hS ?_;simp only[Act.put,pq];refine wpAnyH_take (i:=7) (oi:=_) (v:=undef) rfl ge ge ge (fun _ _ _ h=>h) (Or.inr ⟨by rfl,rfl⟩) hS ?_;simp only[Act.put,pq]
   refine wpAnyH_take (i:=8) (oi:=_) (v:=undef) rfl ge ge ge (fun _ _ _ h=>h) (Or.inr ⟨by rfl,rfl⟩) hS ?_;simp only[Act.put,pq];refine wpAnyH_take (i:=9) (oi:=_) (v:=undef) rfl ge ge ge (fun _ _ _ h=>h) (Or.inr ⟨by rfl,rfl⟩) hS ?_;simp only[Act.put,pq];refine wpAnyH_take (i:=10) (oi:=_) (v:=undef) rfl ge ge ge (fun _ _ _ h=>h) (Or.inr ⟨by rfl,rfl⟩) hS ?_;simp only[Act.put,pq]
   refine wpAnyH_take (i:=11) (oi:=_) (v:=undef) rfl ge ge ge (fun _ _ _ h=>h) (Or.inr ⟨by rfl,rfl⟩) hS ?_;simp only[Act.put,pq];refine wpAnyH_take (i:=12) (oi:=_) (v:=undef) rfl ge ge ge (fun _ _ _ h=>h) (Or.inr ⟨by rfl,rfl⟩) hS ?_;simp only[Act.put,pq];refine tc 13 HC ?_;refine tc 14 HC ?_;refine tc 15 HC ?_;refine wpAnyH_done ge ?_ _
   (try dsimp only)
   have HBE:=hid hS;clear hS HC;go_wp2
   go_ret2
   exact⟨by rw[HFB.out,<-HFI.out,HE.out];rfl,HBW.out.trans (HBE.out.mono HBW.out.size)⟩
end
section
open Go Go.RowKit Go.Shelf
theorem aKi (c:StC) (d:Sta) (k:VC) (kd:Val) (w:World) (hd:IsSta (· < w.heap.size) w c d) (hk:IsVal (· < w.heap.size) w k kd):CP 63 #[c.v,k.v] w (aFe w d.l kd):=by
 obtain⟨sn,st,a,sl,sc⟩:=c;have hb:BB w ((w.alloc (.cells #[I6 sn,I6 st,.slice a sl sc] 24)).alloc (oV k 36)):=((bR w).alloc lr _).alloc gd _;have hc:=bs_call a sl sc d.l k kd _ (hd.l.same fun b q=>⟨Nat.lt_of_lt_of_le q hb.size,hb.block b q⟩) (hk.same fun b q=>⟨Nat.lt_of_lt_of_le q hb.size,hb.block b q⟩);have g1:=aD (oV k 36) (heap_alloc_new w (.cells #[I6 sn,I6 st,.slice a sl sc] 24));have k2:=aA g1 2
 (try dsimp only at k2)
 have HC:=hid hc;have HB:=hid hb;obtain⟨fi,hfi⟩:=ez (sO d.l kd)
 obtain⟨fb,hfb⟩:=ez (mM d.l kd)
 have HE:=hid (And.intro hfi hfb);clear hc hb hd hk g1 hfi hfb;dsimp only[StC.v,VC.v] at HC ⊢;go_enter Tryz.func63,Tryz.ntmps63
 go_wp2_with (go_at_call 114;refine HC.out.mono ?_;rintro e w2 ⟨he,hb2⟩;rw[<-HE.out.1,<-HE.out.2] at he;subst he)
 go_ret2
 exact⟨by rw[<-HE.out.1,<-HE.out.2];rfl,HB.out.trans (hb2.mono HB.out.size)⟩
def aFf:Slot:=⟨noVal,0,0,[],[]⟩
theorem row_nil' {C D:Type} {K:Kit C D} (S:Nat->Prop) (w:World):IsRow K S w none 0 0 []:=⟨rfl,Nat.le_refl _,by rw[Nat.zero_mul];decide,.inl rfl⟩
theorem aIv (S:Nat->Prop) (w:World):IsSl S w ⟨⟨0,0,0,⟨#[]⟩,none,0,0,none,0,0⟩,0,0,none,0,0,none,0,0⟩ aFf :=
 ⟨⟨⟨rfl,rfl,rfl,rfl,⟨(show I64 0 from⟨by decide,by decide⟩),(show I64 0 from⟨by decide,by decide⟩),(show I64 0 from⟨by decide,by decide⟩),by decide,by decide,by decide,by decide,by decide⟩,rfl,rfl,rfl⟩,.inl rfl,.inl rfl⟩,rfl,(show I64 0 from⟨by decide,by decide⟩),rfl,(show I64 0 from⟨by decide,by decide⟩),row_nil' _ _,row_nil' _ _⟩
def GetPost (w:World) (l:List Slot) (kd:Val) (e:Ending) (w':World):Prop:=∃(c':SlC) (d':Slot),e=.returned (.tuple #[c'.v,.bool (mM l kd)])/\BB w w'/\IsSl (fun b=>w.heap.size<=b/\b<w'.heap.size) w' c' d'/\(mM l kd=true->l[sO l kd]?=some d')/\(mM l kd=false->d'=aFf)
theorem aMy (c:StC) (d:Sta) (k:VC) (kd:Val) (w:World) (hd:IsSta (· < w.heap.size) w c d) (hk:IsVal (· < w.heap.size) w k kd):CP 28 #[c.v,k.v] w (GetPost w d.l kd):=by
 obtain⟨sn,st,a,sl,sc⟩:=c;have hbig:sl * 152<=140737488351232:=hd.l.big;have HL:=hid hd.l.len;have HDL:=hid hd.l;dsimp only at HL HDL;obtain⟨wb,hwb⟩:=ez (((w.alloc (.cells #[I6 sn,I6 st,.slice a sl sc] 24)).alloc (oV k 36)).alloc (.cells #[I6 0,I6 0,I6 0,.string ⟨#[]⟩,.slice none 0 0,.slice none 0 0,I6 0,I6 0,.slice none 0 0,.slice none 0 0] 66))
 have hb0:BB w wb:=by rw[hwb];exact(((bR w).alloc lr _).alloc gd _).alloc gj _
 have hsb:wb.heap.size=w.heap.size+3:=by rw[hwb];simp
 have g1:wb.heap[w.heap.size]?=some (.cells #[I6 sn,I6 st,.slice a sl sc] 24):=by rw[hwb];exact aD _ (aD _ (heap_alloc_new w _))
 have g2:wb.heap[w.heap.size+1]?=some (oV k 36):=by rw[hwb];exact aD _ (aS _ _ _ gd)
 have g3:wb.heap[w.heap.size+2]?=some (.cells #[I6 0,I6 0,I6 0,.string ⟨#[]⟩,.slice none 0 0,.slice none 0 0,I6 0,I6 0,.slice none 0 0,.slice none 0 0] 66):=by rw[hwb];exact aS _ _ _ gd
 have hc:=aKi ⟨sn,st,a,sl,sc⟩ d k kd wb (hd.same fun b q=>⟨Nat.lt_of_lt_of_le q hb0.size,hb0.block b q⟩) (hk.same fun b q=>⟨Nat.lt_of_lt_of_le q hb0.size,hb0.block b q⟩);obtain⟨fi,hfi⟩:=ez (sO d.l kd)
 obtain⟨fb,hfb⟩:=ez (mM d.l kd)
 have HE:=hid (And.intro hfi hfb);rw[hwb] at hc;have HC:=hid hc;have HWB:=hid hwb;have HB0:=hid hb0;have HSB:=hid hsb;have G1:=hid g1;have G3:=hid g3;have s0:=aA g1 0;have s1:=aA g1 1;have s2:=aA g1 2;have q0:=aA g2 0;have q1:=aA g2 1;have q2:=aA g2 2;have q3:=aA g2 3;have q4:=aA g2 4;have q5:=aA g2 5
 (try dsimp only at s0 s1 s2 q0 q1 q2 q3 q4 q5)
 rw[hwb] at s0 s1 s2 q0 q1 q2 q3 q4 q5;clear hwb hb0 hsb g1 g2 g3 hc hd hk hfi hfb;dsimp only[StC.v,VC.v] at HC ⊢;go_enter Tryz.func28,Tryz.ntmps28
 cases fb with
 | false =>
   go_wp2_with (go_at_call 63;refine HC.out.mono ?_;rintro e w3 ⟨he,hb3⟩;rw[<-HE.out.1,<-HE.out.2] at he;subst he;rw[<-HWB.out] at hb3;have g3:=aB hb3 G3.out;have y0:=aA g3 0;have y1:=aA g3 1;have y2:=aA g3 2;have y3:=aA g3 3;have y4:=aA g3 4;have y5:=aA g3 5;have y6:=aA g3 6;have y7:=aA g3 7;have y8:=aA g3 8;have y9:=aA g3 9;have u0:=aC g3 0;have u1:=aC g3 1;have u2:=aC g3 2;have u3:=aC g3 3;have u4:=aC g3 4;have u5:=aC g3 5;have u6:=aC g3 6;have u7:=aC g3 7;have u8:=aC g3 8;have u9:=aC g3 9;(try dsimp only at y0 y1 y2 y3 y4 y5 y6 y7 y8 y9);have GG3:=hid g3;clear g3)
   have h1:=fX (B:=w.heap.size+2) (w:=w3) (v0:=I6 0) (v1:=I6 0) (v2:=I6 0) (v3:=.string ⟨#[]⟩) (v4:=.slice none 0 0) (v5:=.slice none 0 0) (v6:=I6 0) (v7:=I6 0) (v8:=.slice none 0 0) (v9:=.slice none 0 0) GG3.out;have hB:=(HB0.out.trans (hb3.mono HB0.out.size)).trans (eV (I6 0) (I6 0) (I6 0) (.string ⟨#[]⟩) (.slice none 0 0) (.slice none 0 0) (I6 0) (I6 0) (.slice none 0 0) (.slice none 0 0) w3 (w.heap.size+2) w.heap.size ga);dsimp only[putTen] at h1 hB
   exact bodyPost_ret (v:=.tuple #[SlC.v ⟨⟨0,0,0,⟨#[]⟩,none,0,0,none,0,0⟩,0,0,none,0,0,none,0,0⟩,.bool false]) (by simp[results,Tryz.results28,go_sem,aA h1]) rfl ⟨⟨⟨0,0,0,⟨#[]⟩,none,0,0,none,0,0⟩,0,0,none,0,0,none,0,0⟩,aFf,by rw[<-HE.out.2],hB,aIv _ _,fun h=>by(rw[<-HE.out.2] at h;cases h),fun _=>rfl⟩
 | true =>
   have hfl:fi<sl:=by
    have h:=HE.out.2;rw[mM,<-HE.out.1,<-HL.out] at h;simp only[Bool.true_eq,Bool.and_eq_true,decide_eq_true_eq] at h;exact h.1
   have hkl:fi<d.l.length:=by have:=HL.out;omega
   obtain⟨b,o,rfl,hb,hx⟩:=HDL.out.slot (show 0<sl by omega);obtain⟨x,hxa,hxi⟩:=hx fi hkl;obtain⟨dx,hdx⟩:=ez (d.l[fi])
   have HDX:=hid (show d.l[fi]?=some dx by rw[hdx];exact List.getElem?_eq_getElem hkl);rw[<-hdx] at hxi;have hf1:(fi:Int)<(sl:Int):=by omega
   have hf0:(0:Int)<=(fi:Int):=by omega
   have HX:Hid (∀w',BB wb w'->w'.cell? ⟨b,o+fi * 10,none⟩=some (I6 x.k.k)/\w'.cell? ⟨b,o+fi * 10+1,none⟩=some (I6 x.k.i)/\w'.cell? ⟨b,o+fi * 10+2,none⟩=some (I6 x.k.s)/\w'.cell? ⟨b,o+fi * 10+3,none⟩=some (.string x.k.t)/\w'.cell? ⟨b,o+fi * 10+4,none⟩=some (.slice x.k.la x.k.ll x.k.lc)/\w'.cell? ⟨b,o+fi * 10+5,none⟩=some (.slice x.k.fa x.k.fl x.k.fc)/\w'.cell? ⟨b,o+fi * 10+6,none⟩=some (I6 x.n)/\w'.cell? ⟨b,o+fi * 10+7,none⟩=some (I6 x.t)/\w'.cell? ⟨b,o+fi * 10+8,none⟩=some (.slice x.ia x.il x.ic)/\w'.cell? ⟨b,o+fi * 10+9,none⟩=some (.slice x.va x.vl x.vc)):=hid fun w' h=>(hxa.same ((HB0.out.trans (h.mono HB0.out.size)).block b hb)).slot
   have HCS:Hid (∀w',BB wb w'->CP 64 #[.agg #[I6 x.k.k,I6 x.k.i,I6 x.k.s,.string x.k.t,.slice x.k.la x.k.ll x.k.lc,.slice x.k.fa x.k.fl x.k.fc,I6 x.n,I6 x.t,.slice x.ia x.il x.ic,.slice x.va x.vl x.vc]] w' (aNz w' dx)):=hid fun w' h=>by
    have hw:=HB0.out.trans (h.mono HB0.out.size);exact wJ x _ w' (hxi.same fun b q=>⟨Nat.lt_of_lt_of_le q hw.size,hw.block b q⟩)
   clear hx hxa hxi hb hdx hkl hfl;go_wp2_with (first
    | (go_at_call 64;refine(HCS.out _ hb3).mono ?_;rintro e w5 ⟨c5,rfl,hb5,hi5⟩;clear x0 x1 x2 x3 x4 x5 x6 x7 x8 x9 t2;have g3:=aB (hb3.trans (hb5.mono hb3.size)) G3.out;have y0:=aA g3 0;have y1:=aA g3 1;have y2:=aA g3 2;have y3:=aA g3 3;have y4:=aA g3 4;have y5:=aA g3 5;have y6:=aA g3 6;have y7:=aA g3 7;have y8:=aA g3 8;have y9:=aA g3 9;have u0:=aC g3 0;have u1:=aC g3 1;have u2:=aC g3 2;have u3:=aC g3 3;have u4:=aC g3 4;have u5:=aC g3 5;have u6:=aC g3 6;have u7:=aC g3 7;have u8:=aC g3 8;have u9:=aC g3 9;(try dsimp only at y0 y1 y2 y3 y4 y5 y6 y7 y8 y9);have GG3:=hid g3;have HI5:=hid hi5;have HB5:=hid hb5;clear g3 hi5 hb5)
    | (go_at_call 63;refine HC.out.mono ?_;rintro e w3 ⟨he,hb3⟩;rw[<-HE.out.1,<-HE.out.2] at he;subst he;rw[<-HWB.out] at hb3;have t2:=aA (aB hb3 G1.out) 2;(try dsimp only at t2);obtain⟨x0,x1,x2,x3,x4,x5,x6,x7,x8,x9⟩:=HX.out _ hb3))
   have h5:=HB5.out;have hz5:=h5.size;have hz3:=hb3.size;have hsb:=HSB.out;have h1:=fX (B:=w.heap.size+2) (w:=w5) (v0:=I6 c5.k.k) (v1:=I6 c5.k.i) (v2:=I6 c5.k.s) (v3:=.string c5.k.t) (v4:=.slice c5.k.la c5.k.ll c5.k.lc) (v5:=.slice c5.k.fa c5.k.fl c5.k.fc) (v6:=I6 c5.n) (v7:=I6 c5.t) (v8:=.slice c5.ia c5.il c5.ic) (v9:=.slice c5.va c5.vl c5.vc) GG3.out
   have hB:=((HB0.out.trans (hb3.mono HB0.out.size)).trans (h5.mono ga)).trans (eV (I6 c5.k.k) (I6 c5.k.i) (I6 c5.k.s) (.string c5.k.t) (.slice c5.k.la c5.k.ll c5.k.lc) (.slice c5.k.fa c5.k.fl c5.k.fc) (I6 c5.n) (I6 c5.t) (.slice c5.ia c5.il c5.ic) (.slice c5.va c5.vl c5.vc) w5 (w.heap.size+2) w.heap.size ga)
   have hI:=hid (HI5.out.same (S':=fun b=>w.heap.size<=b/\b<(putTen w5 (w.heap.size+2) (I6 c5.k.k) (I6 c5.k.i) (I6 c5.k.s) (.string c5.k.t) (.slice c5.k.la c5.k.ll c5.k.lc) (.slice c5.k.fa c5.k.fl c5.k.fc) (I6 c5.n) (I6 c5.t) (.slice c5.ia c5.il c5.ic) (.slice c5.va c5.vl c5.vc)).heap.size) (w':=putTen w5 (w.heap.size+2) (I6 c5.k.k) (I6 c5.k.i) (I6 c5.k.s) (.string c5.k.t) (.slice c5.k.la c5.k.ll c5.k.lc) (.slice c5.k.fa c5.k.fl c5.k.fc) (I6 c5.n) (I6 c5.t) (.slice c5.ia c5.il c5.ic) (.slice c5.va c5.vl c5.vc)) fun b q=>⟨⟨by omega,by rw[sK];exact q.2⟩,pX _ _ _ _ _ _ _ _ _ _ _ _ _ ga⟩)
   dsimp only[putTen] at h1 hB hI;exact bodyPost_ret (v:=.tuple #[SlC.v c5,.bool true]) (by simp[results,Tryz.results28,go_sem,aA h1]) rfl ⟨c5,dx,by rw[<-HE.out.2],hB,hI.out,fun _=>by rw[<-HE.out.1];exact HDX.out,fun h=>by(rw[<-HE.out.2] at h;cases h)⟩
end
end Go.Proofs.YtmgpghoamapfgaaGreatDoor
