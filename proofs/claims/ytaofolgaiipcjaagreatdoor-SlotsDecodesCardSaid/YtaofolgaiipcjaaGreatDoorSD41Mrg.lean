/- A part. -/
import Derived.Test.YtaofolgaiipcjaaGreatDoorSD29Mrg
import Derived.Test.YtaofolgaiipcjaaGreatDoorSD7Mrg
import Derived.OwnWalk
namespace Go.Proofs.YtaofolgaiipcjaaGreatDoor
set_option linter.unusedVariables false
set_option maxRecDepth 100000
set_option maxHeartbeats 16000000
set_option linter.unusedSimpArgs false
section
open Go Go.RowKit Go.Shelf
theorem yT {N B:Nat} {w w':World} (h:Below N w w') (hB:B≤w.heap.size):B≤w'.heap.size:=Nat.le_trans hB h.size
abbrev putTen (W:World) (B:Nat) (v0 v1 v2 v3 v4 v5 v6 v7 v8 v9:Value):World:=((((((((((W.setCell ⟨B,0,none⟩ (v0)).setCell ⟨B,1,none⟩ (v1)).setCell ⟨B,2,none⟩ (v2)).setCell ⟨B,3,none⟩ (v3)).setCell ⟨B,4,none⟩ (v4)).setCell ⟨B,5,none⟩ (v5)).setCell ⟨B,6,none⟩ (v6)).setCell ⟨B,7,none⟩ (v7)).setCell ⟨B,8,none⟩ (v8)).setCell ⟨B,9,none⟩ (v9))
theorem mT {w:World} {B:Nat} {v0 v1 v2 v3 v4 v5 v6 v7 v8 v9:Value} {t:TypeId} {x0 x1 x2 x3 x4 x5 x6 x7 x8 x9:Value} {fr:Nat × Nat} (h:w.heap[B]?=some (.cells #[x0,x1,x2,x3,x4,x5,x6,x7,x8,x9] t fr)):(putTen w B v0 v1 v2 v3 v4 v5 v6 v7 v8 v9).heap[B]?=some (.cells #[v0,v1,v2,v3,v4,v5,v6,v7,v8,v9] t fr):=by
 have e:=(jE (o:=9) (v9) (jE (o:=8) (v8) (jE (o:=7) (v7) (jE (o:=6) (v6) (jE (o:=5) (v5) (jE (o:=4) (v4) (jE (o:=3) (v3) (jE (o:=2) (v2) (jE (o:=1) (v1) (jE (o:=0) (v0) h))))))))))
 simp only[List.setIfInBounds_toArray,List.set_cons_zero,List.set_cons_succ] at e;exact e
theorem jA2 (v0 v1 v2 v3 v4 v5 v6 v7 v8 v9:Value) (w:World) (B b:Nat) (hb:b≠B):(putTen w B v0 v1 v2 v3 v4 v5 v6 v7 v8 v9).heap[b]?=w.heap[b]?:=by
 unfold putTen;rw[Below.heap_setCell _ _ _ _ hb,Below.heap_setCell _ _ _ _ hb,Below.heap_setCell _ _ _ _ hb,Below.heap_setCell _ _ _ _ hb,Below.heap_setCell _ _ _ _ hb,Below.heap_setCell _ _ _ _ hb,Below.heap_setCell _ _ _ _ hb,Below.heap_setCell _ _ _ _ hb,Below.heap_setCell _ _ _ _ hb,Below.heap_setCell _ _ _ _ hb]
theorem jB0 (v0 v1 v2 v3 v4 v5 v6 v7 v8 v9:Value) (w:World) (B:Nat):(putTen w B v0 v1 v2 v3 v4 v5 v6 v7 v8 v9).heap.size=w.heap.size:=by simp[putTen,World.setCell]
theorem mL (v0 v1 v2 v3 v4 v5 v6 v7 v8 v9:Value) (w:World) (B N:Nat) (hN:N≤B):Below N w (putTen w B v0 v1 v2 v3 v4 v5 v6 v7 v8 v9):=(((((((((((Below.refl _ _).setCell (p:=⟨B,0,none⟩) (by dsimp only;omega) _).setCell (p:=⟨B,1,none⟩) (by dsimp only;omega) _).setCell (p:=⟨B,2,none⟩) (by dsimp only;omega) _).setCell (p:=⟨B,3,none⟩) (by dsimp only;omega) _).setCell (p:=⟨B,4,none⟩) (by dsimp only;omega) _).setCell (p:=⟨B,5,none⟩) (by dsimp only;omega) _).setCell (p:=⟨B,6,none⟩) (by dsimp only;omega) _).setCell (p:=⟨B,7,none⟩) (by dsimp only;omega) _).setCell (p:=⟨B,8,none⟩) (by dsimp only;omega) _).setCell (p:=⟨B,9,none⟩) (by dsimp only;omega) _)
def SlPost (w:World) (d:Slot) (e:Ending) (w':World):Prop:=∃c':SlC,e=.returned c'.v∧Below w.heap.size w w'∧IsSl (fun b=>w.heap.size≤b∧b<w'.heap.size) w' c' d
theorem jC0 (c:SlC) (d:Slot) (w:World) (hd:IsSl (· < w.heap.size) w c d):Calls Tryz.prog 162 #[c.v] w (SlPost w d):=by
 obtain⟨ti10,hi10,hz010,hz110,hz210⟩:=info_parts jH7;obtain⟨ti6,hi6,hz06,hz16,hz26⟩:=info_parts vF;obtain⟨⟨kk,ki,ks,kt,kla,kll,klc,kfa,kfl,kfc⟩,cn,ct,ia,il,ic,wa,wl,wc⟩:=c;have hbig:=hd.items.big;have hbig2:=hd.vals.big;have HLI:=hid hd.items.len;have HLV:=hid hd.vals.len;have HDI:=hid hd.items;have HDV:=hid hd.vals;have HK:=hid hd.k;have HNT:=hid (And.intro hd.n (And.intro hd.rn (And.intro hd.t hd.rt)));dsimp only at hbig hbig2 HLI HLV HDI HDV HNT HK;clear hd
 obtain⟨wb,hwb⟩:∃wb,wb=(w.alloc (.cells #[.int .i64 kk,.int .i64 ki,.int .i64 ks,.string kt,.slice kla kll klc,.slice kfa kfl kfc,.int .i64 cn,.int .i64 ct,.slice ia il ic,.slice wa wl wc] 107)).alloc (.cells #[.int .i64 0,.int .i64 0,.int .i64 0,.string ⟨#[]⟩,.slice none 0 0,.slice none 0 0,.int .i64 0,.int .i64 0,.slice none 0 0,.slice none 0 0] 107):=⟨_,rfl⟩
 have hb0:Below w.heap.size w wb:=by rw[hwb];exact((bR w).alloc lr _).alloc (by simp) _
 have hsb:wb.heap.size=w.heap.size+2:=by rw[hwb];simp
 have g1:wb.heap[w.heap.size]?=some (.cells #[.int .i64 kk,.int .i64 ki,.int .i64 ks,.string kt,.slice kla kll klc,.slice kfa kfl kfc,.int .i64 cn,.int .i64 ct,.slice ia il ic,.slice wa wl wc] 107):=by rw[hwb];exact jD _ (heap_alloc_new w _)
 have g2:wb.heap[w.heap.size+1]?=some (.cells #[.int .i64 0,.int .i64 0,.int .i64 0,.string ⟨#[]⟩,.slice none 0 0,.slice none 0 0,.int .i64 0,.int .i64 0,.slice none 0 0,.slice none 0 0] 107):=by rw[hwb];exact jK _ _ _ (by simp)
 have k8:=jA g1 8
 (try dsimp only at k8)
 rw[hwb] at k8;have HWB:=hid hwb;have HB0:=hid hb0;have HSB:=hid hsb;have G1:=hid g1;have G2:=hid g2;clear hwb hb0 hsb g1 g2;dsimp only[SlC.v];go_enter Tryz.func162,Tryz.ntmps162
 go_wp2_with (at_make;refine wpList_make_own _ rfl _ _ 105 rfl wb.heap.size 120 ti10 _ 10 Tryz.underlying105 hi10 hz010 hz110 .i64 .i64 _ il rfl rfl rfl (by rw[hz210];omega) (by unfold maxLen;omega) (by rw[HWB.out];exact Nat.le_refl _) ?_;intro w1 hown1 hg1;rw[←HWB.out] at hown1 hg1;have k8':=(jL hg1 G1.out (by simp):_);have c8:=jA k8' 8;(try dsimp only at c8);have HO1:=hid hown1;have HG1:=hid hg1;clear k8' hown1 hg1 k8)
 clear c8;have HBS:=hid (show Below w.heap.size w w1 from HB0.out.grown HG1.out (by have:=HSB.out;omega) (fun r e=>by cases e));have HZS:=hid (show w.heap.size≤wb.heap.size by have:=HSB.out;omega);have HZB:=hid (show wb.heap.size≤w1.heap.size from HG1.out.size)
 go_loopw [3,16] (fun vv i wr=>∃(k:Nat) (v:Value),v=vv∧k≤il∧i=.int .i64 k∧Built msgK 120 wb.heap.size wr v k d.items∧Below wb.heap.size w1 wr) (fun _ i _=>il-(intOf i).toNat)
 case atStart=>exact⟨0,_,rfl,Nat.zero_le _,rfl,⟨[],rfl,(by rw[show w.heap.size+1+1=wb.heap.size from HSB.out.symm];exact HO1.out),fun j h=>by simp at h⟩,Below.refl _ _⟩
 case round =>
 obtain⟨k,v,rfl,hk,rfl,hbu,hbr⟩:=hrel;obtain⟨wp,rfl⟩:∃w1:World,w1=wr:=⟨_,rfl⟩
 by_cases hlt:k<il
 ·have hkl:k<d.items.length:=by have:=HLI.out;omega
  obtain⟨b,o,rfl,hb,hx⟩:=HDI.out.slot (show 0<il by omega);obtain⟨x,hxa,hxi⟩:=hx k hkl;have hbw:Below w.heap.size w wp:=HBS.out.trans (hbr.mono HZS.out);obtain⟨x0,x1,x2,x3,x4,x5,x6,x7,x8,x9⟩:=((hxa.same (hbw.block b hb))).m;have hlt':(k:Int)<(il:Int):=by omega
  have hk0:(0:Int)≤(k:Int):=by omega
  obtain⟨cs,hcs,hown,hel⟩:=hbu;have hvb:=Built.own (K:=msgK) ⟨cs,hcs,hown,hel⟩;have hba:Below w.heap.size w (wp.alloc (.cells #[.int .i64 x.st.e,.slice x.st.a x.st.n x.st.c,.int .i64 x.m,.slice x.a x.n x.c,.int .i64 x.b.k,.int .i64 x.b.i,.int .i64 x.b.s,.string x.b.t,.slice x.b.la x.b.ll x.b.lc,.slice x.b.fa x.b.fl x.b.fc] 120)):=hbw.alloc hbw.size _;have hsz0:wb.heap.size≤wp.heap.size:=yT hbr HZB.out
  have HCS:=hid (jD8 x d.items[k] (wp.alloc (.cells #[.int .i64 x.st.e,.slice x.st.a x.st.n x.st.c,.int .i64 x.m,.slice x.a x.n x.c,.int .i64 x.b.k,.int .i64 x.b.i,.int .i64 x.b.s,.string x.b.t,.slice x.b.la x.b.ll x.b.lc,.slice x.b.fa x.b.fl x.b.fc] 120)) (hxi.same fun b q=>⟨by have:=hba.size;omega,hba.block b q⟩));have HVB:=hid hvb;have HOWN:=hid hown;have HEL:=hid hel;have HCL:=hid hcs;have HBR:=hid hbr;have hbs:wb.heap.size≤wp.heap.size:=hsz0;clear hvb hown hel hcs hba hbr hxi hxa hx hb hbw;have hcap1:k+1≤maxLen:=by unfold maxLen;omega
  have hcap2:(k+1) * 152≤140737488355328:=by omega
  go_wp2_with (first
   | (go_at_call 243;refine HCS.out.mono ?_;rintro e w4 ⟨c4,rfl,hb4,hi4⟩;have HB4:=hid hb4;have HI4:=hid hi4;clear hb4 hi4)
   | (at_builtin;refine wpList_append_lies _ (by rfl) _ _ 105 (by rfl) wb.heap.size 120 ti10 _ 10 152 Tryz.underlying105 hi10 hz010 hz110 hz210 rfl (by omega) v k (cs.flatMap MC.cs) (by rfl) ((nR (HOWN.out.alloc _) HB4.out).alloc (.cells #[.int .i64 c4.st.e,.slice c4.st.a c4.st.n c4.st.c,.int .i64 c4.m,.slice c4.a c4.n c4.c,.int .i64 c4.b.k,.int .i64 c4.b.i,.int .i64 c4.b.s,.string c4.b.t,.slice c4.b.la c4.b.ll c4.b.lc,.slice c4.b.fa c4.b.fl c4.b.fc] 120)) ⟨w4.heap.size,0,none⟩ 1 1 (MC.cs c4) (by rfl) (by rfl) (World.news_of_block (heap_alloc_new w4 _)) (by simp[MC.cs,Value.oneCell']) (by omega) hcap1 hcap2 (by have h2:=HB4.out.size;simp at h2 ⊢;omega) (w4.heap.size+1) (by simp) ?_;intro gg cap5 w5 hown2 hgrow hat hlt2;have HO2:=hid hown2;have HG:=hid hgrow;have HAT:=hid hat;clear hown2 hgrow hat hlt2))
  go_roundw
  case rel =>
   have h4:=HB4.out.size;simp only[World.size_alloc] at h4;have h14:Below wb.heap.size w1 w4:=HBR.out.trans ((((Below.refl _ wp).alloc lr (.cells #[.int .i64 x.st.e,.slice x.st.a x.st.n x.st.c,.int .i64 x.m,.slice x.a x.n x.c,.int .i64 x.b.k,.int .i64 x.b.i,.int .i64 x.b.s,.string x.b.t,.slice x.b.la x.b.ll x.b.lc,.slice x.b.fa x.b.fl x.b.fc] 120)).trans (HB4.out.mono (by simp))).mono hbs);have hpush:Built msgK 120 wb.heap.size w5 (.slice (some ⟨gg,0,none⟩) (k+1) cap5) (k+1) d.items :=
    Built.push (K:=msgK) (N:=wp.heap.size) (w1:=w4) (o:=(.cells #[.int .i64 c4.st.e,.slice c4.st.a c4.st.n c4.st.c,.int .i64 c4.m,.slice c4.a c4.n c4.c,.int .i64 c4.b.k,.int .i64 c4.b.i,.int .i64 c4.b.s,.string c4.b.t,.slice c4.b.la c4.b.ll c4.b.lc,.slice c4.b.fa c4.b.fl c4.b.fc] 120)) (c:=c4) HCL.out
     (fun j hj hj'=>(HEL.out j hj hj').same fun b hb=>⟨⟨hb.1,by have:=hb.2.1;omega,hb.2.2⟩,(HB4.out.block b (by have:=hb.2.1;simp;omega)).trans (Below.heap_alloc _ _ _ (by have:=hb.2.1;omega))⟩) hkl
     (HI4.out.same fun b hb=>⟨⟨by have:=hb.1;simp at this;omega,hb.2⟩,rfl⟩) hbs (fun r e=>(HVB.out r e).2) HO2.out HG.out HAT.out
   exact⟨k+1,_,rfl,by omega,by go_num,hpush,(h14.alloc (by omega) _).grown HG.out (by simp;omega) (fun r e=>(HVB.out r e).1)⟩
  case measure=>simp[intOf];omega
 ·obtain rfl:il=k:=by omega
  obtain⟨va,vc1,rfl,hva,_,_⟩:=hbu.shape;have hsz0:wb.heap.size≤wp.heap.size:=yT hbr HZB.out;have gb:wp.heap[w.heap.size]?=some (.cells #[.int .i64 kk,.int .i64 ki,.int .i64 ks,.string kt,.slice kla kll klc,.slice kfa kfl kfc,.int .i64 cn,.int .i64 ct,.slice ia il ic,.slice wa wl wc] 107):=vG hbr (jL HG1.out G1.out (by simp)) (by have:=HSB.out;omega)
  have gr:wp.heap[w.heap.size+1]?=some (.cells #[.int .i64 0,.int .i64 0,.int .i64 0,.string ⟨#[]⟩,.slice none 0 0,.slice none 0 0,.int .i64 0,.int .i64 0,.slice none 0 0,.slice none 0 0] 107):=vG hbr (jL HG1.out G2.out (by simp)) (by have:=HSB.out;omega);have HBP:=hid (HBS.out.trans (hbr.mono HZS.out));have HGB:=hid gb;have HGR:=hid gr;have HBU:=hid hbu;have HSP:=hid (show wb.heap.size≤wp.heap.size from hsz0);have k9:=jA gb 9
  (try dsimp only at k9)
  clear gb gr hbu hbr hsz0 HO1 HG1 G1 G2 HWB HB0 HBS HZS HZB;go_wp2_with (at_make;refine wpList_make_own _ rfl _ _ 22 rfl wp.heap.size 25 ti6 _ 6 Tryz.underlying22 hi6 hz06 hz16 .i64 .i64 _ wl rfl rfl rfl (by rw[hz26];omega) (by unfold maxLen;omega) lr ?_;intro w2 hown2 hg2;have k9':=(jL hg2 HGB.out (by simp):_);have c9:=jA k9' 9;(try dsimp only at c9);have HO2A:=hid hown2;have HG2A:=hid hg2;clear k9' hown2 hg2 k9)
  clear c9;have HBS:=hid (show Below w.heap.size w w2 from HBP.out.grown HG2A.out HBP.out.size (fun r e=>by cases e));have HZS:=hid (show w.heap.size≤wp.heap.size from HBP.out.size);have HZB:=hid (show wp.heap.size≤w2.heap.size from HG2A.out.size);obtain⟨ws,rfl⟩:∃w1:World,w1=wp:=⟨_,rfl⟩
  go_loopw [6,33] (fun vv i wr=>∃(k:Nat) (v:Value),v=vv∧k≤wl∧i=.int .i64 k∧Built valK 25 ws.heap.size wr v k d.vals∧Below ws.heap.size w2 wr) (fun _ i _=>wl-(intOf i).toNat)
  case atStart=>exact⟨0,_,rfl,Nat.zero_le _,rfl,⟨[],rfl,HO2A.out,fun j h=>by simp at h⟩,Below.refl _ _⟩
  case round =>
  obtain⟨k,v,rfl,hk,rfl,hbu,hbr⟩:=hrel;obtain⟨wp,rfl⟩:∃w1:World,w1=wr:=⟨_,rfl⟩
  by_cases hlt:k<wl
  ·have hkl:k<d.vals.length:=by have:=HLV.out;omega
   obtain⟨b,o,rfl,hb,hx⟩:=HDV.out.slot (show 0<wl by omega);obtain⟨x,hxa,hxi⟩:=hx k hkl;have hbw:Below w.heap.size w wp:=HBS.out.trans (hbr.mono HZS.out);obtain⟨x0,x1,x2,x3,x4,x5⟩:=((hxa.same (hbw.block b hb))).val;have hlt':(k:Int)<(wl:Int):=by omega
   have hk0:(0:Int)≤(k:Int):=by omega
   obtain⟨cs,hcs,hown,hel⟩:=hbu;have hvb:=Built.own (K:=valK) ⟨cs,hcs,hown,hel⟩;have hba:Below w.heap.size w (wp.alloc (.cells #[.int .i64 x.k,.int .i64 x.i,.int .i64 x.s,.string x.t,.slice x.la x.ll x.lc,.slice x.fa x.fl x.fc] 25)):=hbw.alloc hbw.size _;have hsz0:ws.heap.size≤wp.heap.size:=yT hbr HZB.out;have HCS:=hid (vZ (c:=x) (d:=d.vals[k]) (w:=(wp.alloc (.cells #[.int .i64 x.k,.int .i64 x.i,.int .i64 x.s,.string x.t,.slice x.la x.ll x.lc,.slice x.fa x.fl x.fc] 25))) (hxi.same fun b q=>⟨by have:=hba.size;omega,hba.block b q⟩));have HVB:=hid hvb;have HOWN:=hid hown;have HEL:=hid hel
   have HCL:=hid hcs;have HBR:=hid hbr;have hbs:ws.heap.size≤wp.heap.size:=hsz0;clear hvb hown hel hcs hba hbr hxi hxa hx hb hbw;have hcap1:k+1≤maxLen:=by unfold maxLen;omega
   have hcap2:(k+1) * 88≤140737488355328:=by omega
   go_wp2_with (first
    | (go_at_call 244;refine HCS.out.mono ?_;rintro e w4 ⟨c4,rfl,hb4,hi4⟩;have HB4:=hid hb4;have HI4:=hid hi4;clear hb4 hi4)
    | (at_builtin;refine wpList_append_lies _ (by rfl) _ _ 22 (by rfl) ws.heap.size 25 ti6 _ 6 88 Tryz.underlying22 hi6 hz06 hz16 hz26 rfl (by omega) v k (cs.flatMap VC.cs) (by rfl) ((nR (HOWN.out.alloc _) HB4.out).alloc (.cells #[.int .i64 c4.k,.int .i64 c4.i,.int .i64 c4.s,.string c4.t,.slice c4.la c4.ll c4.lc,.slice c4.fa c4.fl c4.fc] 25)) ⟨w4.heap.size,0,none⟩ 1 1 (VC.cs c4) (by rfl) (by rfl) (World.news_of_block (heap_alloc_new w4 _)) (by simp[VC.cs,Value.oneCell']) (by omega) hcap1 hcap2 (by have h2:=HB4.out.size;simp at h2 ⊢;omega) (w4.heap.size+1) (by simp) ?_;intro gg cap5 w5 hown2 hgrow hat hlt2;have HO2:=hid hown2;have HG:=hid hgrow;have HAT:=hid hat;clear hown2 hgrow hat hlt2))
   go_roundw
   case rel =>
    have h4:=HB4.out.size;simp only[World.size_alloc] at h4;have h14:Below ws.heap.size w2 w4:=HBR.out.trans ((((Below.refl _ wp).alloc lr (.cells #[.int .i64 x.k,.int .i64 x.i,.int .i64 x.s,.string x.t,.slice x.la x.ll x.lc,.slice x.fa x.fl x.fc] 25)).trans (HB4.out.mono (by simp))).mono hbs);have hpush:Built valK 25 ws.heap.size w5 (.slice (some ⟨gg,0,none⟩) (k+1) cap5) (k+1) d.vals :=
     Built.push (K:=valK) (N:=wp.heap.size) (w1:=w4) (o:=(.cells #[.int .i64 c4.k,.int .i64 c4.i,.int .i64 c4.s,.string c4.t,.slice c4.la c4.ll c4.lc,.slice c4.fa c4.fl c4.fc] 25)) (c:=c4) HCL.out
      (fun j hj hj'=>(HEL.out j hj hj').same fun b hb=>⟨⟨hb.1,by have:=hb.2.1;omega,hb.2.2⟩,(HB4.out.block b (by have:=hb.2.1;simp;omega)).trans (Below.heap_alloc _ _ _ (by have:=hb.2.1;omega))⟩) hkl
      (HI4.out.same fun b hb=>⟨⟨by have:=hb.1;simp at this;omega,hb.2⟩,rfl⟩) hbs (fun r e=>(HVB.out r e).2) HO2.out HG.out HAT.out
    exact⟨k+1,_,rfl,by omega,by go_num,hpush,(h14.alloc (by omega) _).grown HG.out (by simp;omega) (fun r e=>(HVB.out r e).1)⟩
   case measure=>simp[intOf];omega
  ·obtain rfl:wl=k:=by omega
   obtain⟨vb,vc2,rfl,hvb2,_,_⟩:=hbu.shape;have hsz2:ws.heap.size≤wp.heap.size:=yT hbr HZB.out;have hbp2:Below ws.heap.size ws wp:=((Below.refl _ ws).grown HG2A.out lr (fun r e=>by cases e)).trans (hbr.mono lr);have gb:=jB hbp2 HGB.out;have gr:=jB hbp2 HGR.out;have hbw:Below w.heap.size w wp:=HBP.out.trans (hbp2.mono HBP.out.size);have HKC:=hid (vZ (c:=⟨kk,ki,ks,kt,kla,kll,klc,kfa,kfl,kfc⟩) (d:=d.k) (w:=wp) (HK.out.same fun b q=>⟨Nat.lt_of_lt_of_le q hbw.size,hbw.block b q⟩));dsimp only[VC.v] at HKC
   have e0:=jA gb 0;have ef0:=jC gb 0;have e1:=jA gb 1;have ef1:=jC gb 1;have e2:=jA gb 2;have ef2:=jC gb 2;have e3:=jA gb 3;have ef3:=jC gb 3;have e4:=jA gb 4;have ef4:=jC gb 4;have e5:=jA gb 5;have ef5:=jC gb 5;have e6:=jA gb 6;have ef6:=jC gb 6;have e7:=jA gb 7;have ef7:=jC gb 7;have e8:=jA gb 8;have ef8:=jC gb 8;have e9:=jA gb 9;have ef9:=jC gb 9
   (try dsimp only at e0 e1 e2 e3 e4 e5 e6 e7 e8 e9)
   have HGB2:=hid gb;have HGR2:=hid gr;have HBU2:=hid hbu;have HBW:=hid hbw;have HBP2:=hid hbp2;have HSZ2:=hid hsz2;clear gb gr hbu hbr hbw hbp2 hsz2 HBS HZS HZB HO2A HG2A HGB HGR
   go_wp2_with (go_at_call 244;refine HKC.out.mono ?_;rintro e w7 ⟨c6,rfl,hb7,hi7⟩;clear e0 e1 e2 e3 e4 e5 e6 e7 e8 e9 ef0 ef1 ef2 ef3 ef4 ef5 ef6 ef7 ef8 ef9;have gb:=jB hb7 HGB2.out;have gr:=jB hb7 HGR2.out;have e0:=jA gb 0;have ef0:=jC gb 0;have f0:=jA gr 0;have ff0:=jC gr 0;have e1:=jA gb 1;have ef1:=jC gb 1;have f1:=jA gr 1;have ff1:=jC gr 1;have e2:=jA gb 2;have ef2:=jC gb 2;have f2:=jA gr 2;have ff2:=jC gr 2;have e3:=jA gb 3;have ef3:=jC gb 3;have f3:=jA gr 3;have ff3:=jC gr 3;have e4:=jA gb 4;have ef4:=jC gb 4;have f4:=jA gr 4;have ff4:=jC gr 4;have e5:=jA gb 5;have ef5:=jC gb 5;have f5:=jA gr 5;have ff5:=jC gr 5;have e6:=jA gb 6;have ef6:=jC gb 6;have f6:=jA gr 6;have ff6:=jC gr 6;have e7:=jA gb 7;have ef7:=jC gb 7;have f7:=jA gr 7;have ff7:=jC gr 7;have e8:=jA gb 8;have ef8:=jC gb 8;have f8:=jA gr 8;have ff8:=jC gr 8;have e9:=jA gb 9;have ef9:=jC gb 9;have f9:=jA gr 9;have ff9:=jC gr 9;(try dsimp only at e0 e1 e2 e3 e4 e5 e6 e7 e8 e9 f0 f1 f2 f3 f4 f5 f6 f7 f8 f9);have GR7:=hid gr;have HI7:=hid hi7;have HB7:=hid hb7;clear gb gr hi7 hb7)
   clear e0 e1 e2 e3 e4 e5 e6 e7 e8 e9 ef0 ef1 ef2 ef3 ef4 ef5 ef6 ef7 ef8 ef9 f0 f1 f2 f3 f4 f5 f6 f7 f8 f9 ff0 ff1 ff2 ff3 ff4 ff5 ff6 ff7 ff8 ff9;have hb7:=HB7.out;have hs7:=hb7.size;have hsw:=HBP.out.size;have hss:=HSP.out;have hsb:=HSB.out;have hz2:=HSZ2.out
   obtain⟨W8,hW8⟩:∃W8,W8=((((((((w7.setCell ⟨w.heap.size,0,none⟩ (.int .i64 c6.k)).setCell ⟨w.heap.size,1,none⟩ (.int .i64 c6.i)).setCell ⟨w.heap.size,2,none⟩ (.int .i64 c6.s)).setCell ⟨w.heap.size,3,none⟩ (.string c6.t)).setCell ⟨w.heap.size,4,none⟩ (.slice c6.la c6.ll c6.lc)).setCell ⟨w.heap.size,5,none⟩ (.slice c6.fa c6.fl c6.fc)).setCell ⟨w.heap.size,8,none⟩ (.slice va il vc1)).setCell ⟨w.heap.size,9,none⟩ (.slice vb wl vc2)):=⟨_,rfl⟩
   have hO8:∀b,b≠w.heap.size→W8.heap[b]?=w7.heap[b]?:=fun b hb=>by
    rw[hW8];exact(Below.heap_setCell _ _ _ _ hb).trans ((Below.heap_setCell _ _ _ _ hb).trans ((Below.heap_setCell _ _ _ _ hb).trans ((Below.heap_setCell _ _ _ _ hb).trans ((Below.heap_setCell _ _ _ _ hb).trans ((Below.heap_setCell _ _ _ _ hb).trans ((Below.heap_setCell _ _ _ _ hb).trans (Below.heap_setCell _ _ _ _ hb)))))))
   have hS8:W8.heap.size=w7.heap.size:=by rw[hW8];simp[World.setCell]
   have hB8:Below w.heap.size w W8:=by
    rw[hW8];exact((((((((HBW.out.trans (hb7.mono HBW.out.size)).setCell (p:=⟨w.heap.size,0,none⟩) lr _).setCell (p:=⟨w.heap.size,1,none⟩) lr _).setCell (p:=⟨w.heap.size,2,none⟩) lr _).setCell (p:=⟨w.heap.size,3,none⟩) lr _).setCell (p:=⟨w.heap.size,4,none⟩) lr _).setCell (p:=⟨w.heap.size,5,none⟩) lr _).setCell (p:=⟨w.heap.size,8,none⟩) lr _).setCell (p:=⟨w.heap.size,9,none⟩) lr _
   have h1:=mT (B:=w.heap.size+1) (w:=W8) (v0:=.int .i64 c6.k) (v1:=.int .i64 c6.i) (v2:=.int .i64 c6.s) (v3:=.string c6.t) (v4:=.slice c6.la c6.ll c6.lc) (v5:=.slice c6.fa c6.fl c6.fc) (v6:=.int .i64 cn) (v7:=.int .i64 ct) (v8:=.slice va il vc1) (v9:=.slice vb wl vc2) ((hO8 _ (by omega)).trans GR7.out)
   have hO9:∀b,b≠w.heap.size→b≠w.heap.size+1→(putTen W8 (w.heap.size+1) (.int .i64 c6.k) (.int .i64 c6.i) (.int .i64 c6.s) (.string c6.t) (.slice c6.la c6.ll c6.lc) (.slice c6.fa c6.fl c6.fc) (.int .i64 cn) (.int .i64 ct) (.slice va il vc1) (.slice vb wl vc2)).heap[b]?=w7.heap[b]?:=fun b h2 h3=>(jA2 _ _ _ _ _ _ _ _ _ _ _ _ _ h3).trans (hO8 b h2)
   have hS9:(putTen W8 (w.heap.size+1) (.int .i64 c6.k) (.int .i64 c6.i) (.int .i64 c6.s) (.string c6.t) (.slice c6.la c6.ll c6.lc) (.slice c6.fa c6.fl c6.fc) (.int .i64 cn) (.int .i64 ct) (.slice va il vc1) (.slice vb wl vc2)).heap.size=w7.heap.size:=(jB0 _ _ _ _ _ _ _ _ _ _ _ _).trans hS8;have hB9:=hB8.trans (mL (.int .i64 c6.k) (.int .i64 c6.i) (.int .i64 c6.s) (.string c6.t) (.slice c6.la c6.ll c6.lc) (.slice c6.fa c6.fl c6.fc) (.int .i64 cn) (.int .i64 ct) (.slice va il vc1) (.slice vb wl vc2) W8 (w.heap.size+1) w.heap.size (by omega))
   obtain⟨_,c1',e1',hr1⟩:=Built.row' HBU.out HLI.out (by dsimp only;omega);obtain⟨rfl,rfl⟩:va=_∧vc1=c1':=by(injection e1' with q1 _ q2;exact⟨q1,q2⟩)
   obtain⟨_,c2',e2',hr2⟩:=Built.row' HBU2.out HLV.out (by dsimp only;omega);obtain⟨rfl,rfl⟩:vb=_∧vc2=c2':=by(injection e2' with q1 _ q2;exact⟨q1,q2⟩)
   have I1:=hid (hr1.same (S':=fun b=>w.heap.size≤b∧b<(putTen W8 (w.heap.size+1) (.int .i64 c6.k) (.int .i64 c6.i) (.int .i64 c6.s) (.string c6.t) (.slice c6.la c6.ll c6.lc) (.slice c6.fa c6.fl c6.fc) (.int .i64 cn) (.int .i64 ct) (.slice va il vc1) (.slice vb wl vc2)).heap.size) (w':=putTen W8 (w.heap.size+1) (.int .i64 c6.k) (.int .i64 c6.i) (.int .i64 c6.s) (.string c6.t) (.slice c6.la c6.ll c6.lc) (.slice c6.fa c6.fl c6.fc) (.int .i64 cn) (.int .i64 ct) (.slice va il vc1) (.slice vb wl vc2)) fun b q=>⟨by rw[hS9];omega,(hO9 b (by omega) (by omega)).trans ((hb7.block b (by omega)).trans (HBP2.out.block b (by omega)))⟩)
   have I2:=hid (hr2.same (S':=fun b=>w.heap.size≤b∧b<(putTen W8 (w.heap.size+1) (.int .i64 c6.k) (.int .i64 c6.i) (.int .i64 c6.s) (.string c6.t) (.slice c6.la c6.ll c6.lc) (.slice c6.fa c6.fl c6.fc) (.int .i64 cn) (.int .i64 ct) (.slice va il vc1) (.slice vb wl vc2)).heap.size) (w':=putTen W8 (w.heap.size+1) (.int .i64 c6.k) (.int .i64 c6.i) (.int .i64 c6.s) (.string c6.t) (.slice c6.la c6.ll c6.lc) (.slice c6.fa c6.fl c6.fc) (.int .i64 cn) (.int .i64 ct) (.slice va il vc1) (.slice vb wl vc2)) fun b q=>⟨by rw[hS9];omega,(hO9 b (by omega) (by omega)).trans (hb7.block b (by omega))⟩)
   have I3:=hid (HI7.out.same (S':=fun b=>w.heap.size≤b∧b<(putTen W8 (w.heap.size+1) (.int .i64 c6.k) (.int .i64 c6.i) (.int .i64 c6.s) (.string c6.t) (.slice c6.la c6.ll c6.lc) (.slice c6.fa c6.fl c6.fc) (.int .i64 cn) (.int .i64 ct) (.slice va il vc1) (.slice vb wl vc2)).heap.size) (w':=putTen W8 (w.heap.size+1) (.int .i64 c6.k) (.int .i64 c6.i) (.int .i64 c6.s) (.string c6.t) (.slice c6.la c6.ll c6.lc) (.slice c6.fa c6.fl c6.fc) (.int .i64 cn) (.int .i64 ct) (.slice va il vc1) (.slice vb wl vc2)) fun b q=>⟨by rw[hS9];omega,hO9 b (by omega) (by omega)⟩);clear hO8 hS8 hB8 hO9 hS9 hr1 hr2
   dsimp only[putTen] at h1 hB9 I1 I2 I3;rw[hW8] at h1 hB9 I1 I2 I3;exact bodyPost_ret (v:=SlC.v ⟨c6,cn,ct,va,il,vc1,vb,wl,vc2⟩) (by simp[results,Tryz.results162,go_sem,jA h1]) rfl ⟨(⟨c6,cn,ct,va,il,vc1,vb,wl,vc2⟩:SlC),rfl,hB9,⟨I3.out,HNT.out.1,HNT.out.2.1,HNT.out.2.2.1,HNT.out.2.2.2,I1.out,I2.out⟩⟩
end
section
open Go Go.RowKit Go.Shelf
def uQ (c:Nat→Int):Nat→Nat→Nat→Nat
 | 0,i,_=>i
 | f+1,i,j=>if i<j then (if c ((i+j) / 2)<0 then uQ c f ((i+j) / 2+1) j else uQ c f i ((i+j) / 2)) else i
def keyC (l:List Slot) (k:Val) (j:Nat):Int:=match l[j]? with
 | some x=>cmpV x.k k
 | none=>0
def jFo (l:List Slot) (k:Val):Nat:=uQ (keyC l k) (l.length+1) 0 l.length
def jAc (l:List Slot) (k:Val):Bool:=decide (jFo l k<l.length)&&(keyC l k (jFo l k)==0)
theorem jI7 (l:List Slot) (k:Val) (j:Nat) (h:j<l.length):keyC l k j=cmpV l[j].k k:=by rw[keyC,List.getElem?_eq_getElem h]
def jIt (w:World) (l:List Slot) (k:Val) (e:Ending) (w':World):Prop:=e=.returned (.tuple #[.int .i64 (jFo l k:Nat),.bool (jAc l k)])∧Below w.heap.size w w'
theorem jCp (x:SlC) (d:Slot) (c:VC) (kd:Val) (w:World) (hd:IsSl (· < w.heap.size) w x d) (hk:IsVal (· < w.heap.size) w c kd):Calls Tryz.prog 242 #[x.v,c.v] w fun e w'=>e=.returned (.int .i64 (cmpV d.k kd))∧Below w.heap.size w w':=by
 have hb:Below w.heap.size w ((w.alloc (.cells #[.int .i64 x.k.k,.int .i64 x.k.i,.int .i64 x.k.s,.string x.k.t,.slice x.k.la x.k.ll x.k.lc,.slice x.k.fa x.k.fl x.k.fc,.int .i64 x.n,.int .i64 x.t,.slice x.ia x.il x.ic,.slice x.va x.vl x.vc] 107)).alloc (.cells #[.int .i64 c.k,.int .i64 c.i,.int .i64 c.s,.string c.t,.slice c.la c.ll c.lc,.slice c.fa c.fl c.fc] 25)):=((bR w).alloc lr _).alloc (by simp) _;have hc:=qD x.k c d.k kd _ (hd.k.same fun b q=>⟨Nat.lt_of_lt_of_le q hb.size,hb.block b q⟩) (hk.same fun b q=>⟨Nat.lt_of_lt_of_le q hb.size,hb.block b q⟩)
 have g1:=jD (.cells #[.int .i64 c.k,.int .i64 c.i,.int .i64 c.s,.string c.t,.slice c.la c.ll c.lc,.slice c.fa c.fl c.fc] 25) (heap_alloc_new w (.cells #[.int .i64 x.k.k,.int .i64 x.k.i,.int .i64 x.k.s,.string x.k.t,.slice x.k.la x.k.ll x.k.lc,.slice x.k.fa x.k.fl x.k.fc,.int .i64 x.n,.int .i64 x.t,.slice x.ia x.il x.ic,.slice x.va x.vl x.vc] 107));have HC:=hid hc;have HB:=hid hb;have e0:=jA g1 0;have e1:=jA g1 1;have e2:=jA g1 2;have e3:=jA g1 3;have e4:=jA g1 4;have e5:=jA g1 5
 (try dsimp only at e0 e1 e2 e3 e4 e5)
 clear hc hb hd hk g1;dsimp only[SlC.v,VC.v] at HC ⊢;go_enter Tryz.func242,Tryz.ntmps242
 go_wp2_with (go_at_call 72;refine HC.out.mono ?_;rintro e w2 ⟨rfl,hb2⟩)
 go_ret;exact⟨rfl,HB.out.trans (hb2.mono HB.out.size)⟩
theorem bs_call (a:Option Addr) (n cp:Nat) (l:List Slot) (c:VC) (kd:Val) (w:World) (hd:IsRow slK (· < w.heap.size) w a n cp l) (hk:IsVal (· < w.heap.size) w c kd) :
 Calls Tryz.prog 241 #[.slice a n cp,c.v,.func (.func 242) #[] #[]] w (jIt w l kd):=by
 have hen:∀args w,(callFunc 242 args).run Tryz.prog w=.ok (.enter 242 args) w:=enters_of Tryz.func242 (by kernel_rfl) rfl;have hbig:n * 152≤140737488351232:=hd.big;have hn62:n<4611686018427387904:=by omega
 have HL:=hid hd.len;have HD:=hid hd;have HK:=hid hk;clear hd hk hbig;obtain⟨wb,hwb⟩:∃wb,wb=w.alloc (.cells #[.int .i64 c.k,.int .i64 c.i,.int .i64 c.s,.string c.t,.slice c.la c.ll c.lc,.slice c.fa c.fl c.fc] 25):=⟨_,rfl⟩
 have HB0:=hid (show Below w.heap.size w wb by rw[hwb];exact(bR w).alloc lr _);have G1:=hid (show wb.heap[w.heap.size]?=some (.cells #[.int .i64 c.k,.int .i64 c.i,.int .i64 c.s,.string c.t,.slice c.la c.ll c.lc,.slice c.fa c.fl c.fc] 25) by rw[hwb];exact heap_alloc_new w _);have HWB:=hid hwb;clear hwb;obtain⟨cc,hcc⟩:∃cc,cc=keyC l kd:=⟨_,rfl⟩
 obtain⟨fi,hfi⟩:∃fi,fi=jFo l kd:=⟨_,rfl⟩
 have HFI:=hid hfi;have HCC:=hid hcc;have HBT0:=hid (show fi=uQ cc (n+1) 0 n by rw[hfi,hcc,jFo,HL.out]);clear hcc hfi;dsimp only[VC.v];go_enter Tryz.func241,Tryz.ntmps241
 go_wp2;rw[←HWB.out]
 go_loopw [9,10] (fun s9 s10 wr=>∃lo hi f:Nat,s9=.int .i64 lo∧s10=.int .i64 hi∧lo≤hi∧hi≤n∧hi-lo<f∧fi=uQ cc f lo hi∧Below wb.heap.size wb wr) (fun s9 s10 _=>(intOf s10).toNat-(intOf s9).toNat)
 case atStart=>exact⟨0,n,n+1,rfl,rfl,Nat.zero_le _,Nat.le_refl _,by omega,HBT0.out,Below.refl _ _⟩
 case round =>
 obtain⟨lo,hi,f,rfl,rfl,hlh,hin,hf,hbt,hbr⟩:=hrel;obtain⟨wp,rfl⟩:∃w1:World,w1=wr:=⟨_,rfl⟩
 obtain⟨g,hg⟩:∃g,f=g+1:=⟨f-1,by omega⟩
 have HBT:=hid (show fi=uQ cc (g+1) lo hi by rw[←hg];exact hbt);have HF:=hid (show hi-lo<g+1 by omega);clear hf hg;have HBR:=hid hbr;have HBW:=hid (HB0.out.trans (hbr.mono HB0.out.size));clear hbt hbr HBT0;by_cases hlt:lo<hi
 ·have hkl:(lo+hi) / 2<l.length:=by have:=HL.out;omega
  obtain⟨b,o,rfl,hb,hx⟩:=HD.out.slot (show 0<n by omega);obtain⟨x,hxa,hxi⟩:=hx ((lo+hi) / 2) hkl;have HB:=hid hb;obtain⟨u,hu⟩:∃u,u=cmpV l[(lo+hi) / 2].k kd:=⟨_,rfl⟩
  have HU:=hid (show cc ((lo+hi) / 2)=u by rw[hu,HCC.out,jI7 l kd _ hkl])
  have HC:Hid (∀w',Below wp.heap.size wp w'→(w'.cell? ⟨w.heap.size,0,none⟩=some (.int .i64 c.k)∧w'.cell? ⟨w.heap.size,1,none⟩=some (.int .i64 c.i)∧w'.cell? ⟨w.heap.size,2,none⟩=some (.int .i64 c.s)∧w'.cell? ⟨w.heap.size,3,none⟩=some (.string c.t)∧w'.cell? ⟨w.heap.size,4,none⟩=some (.slice c.la c.ll c.lc)∧w'.cell? ⟨w.heap.size,5,none⟩=some (.slice c.fa c.fl c.fc))∧(w'.cell? ⟨b,o+(((lo:Int)+(hi:Int)) / 2).toNat * 10,none⟩=some (.int .i64 x.k.k)∧w'.cell? ⟨b,o+(((lo:Int)+(hi:Int)) / 2).toNat * 10+1,none⟩=some (.int .i64 x.k.i)∧w'.cell? ⟨b,o+(((lo:Int)+(hi:Int)) / 2).toNat * 10+2,none⟩=some (.int .i64 x.k.s)∧w'.cell? ⟨b,o+(((lo:Int)+(hi:Int)) / 2).toNat * 10+3,none⟩=some (.string x.k.t)∧w'.cell? ⟨b,o+(((lo:Int)+(hi:Int)) / 2).toNat * 10+4,none⟩=some (.slice x.k.la x.k.ll x.k.lc)∧w'.cell? ⟨b,o+(((lo:Int)+(hi:Int)) / 2).toNat * 10+5,none⟩=some (.slice x.k.fa x.k.fl x.k.fc)∧w'.cell? ⟨b,o+(((lo:Int)+(hi:Int)) / 2).toNat * 10+6,none⟩=some (.int .i64 x.n)∧w'.cell? ⟨b,o+(((lo:Int)+(hi:Int)) / 2).toNat * 10+7,none⟩=some (.int .i64 x.t)∧w'.cell? ⟨b,o+(((lo:Int)+(hi:Int)) / 2).toNat * 10+8,none⟩=some (.slice x.ia x.il x.ic)∧w'.cell? ⟨b,o+(((lo:Int)+(hi:Int)) / 2).toNat * 10+9,none⟩=some (.slice x.va x.vl x.vc))):=hid fun w' h=>by
   rw[show(((lo:Int)+(hi:Int)) / 2).toNat=(lo+hi) / 2 by omega];have h1:=jB ((HBR.out).trans (h.mono HBR.out.size)) G1.out;obtain⟨x0,x1,x2,x3,x4,x5,x6,x7,x8,x9⟩:=(hxa.same ((HBW.out.trans (h.mono HBW.out.size)).block b HB.out)).slot;exact⟨⟨jA h1 0,jA h1 1,jA h1 2,jA h1 3,jA h1 4,jA h1 5⟩,x0,x1,x2,x3,x4,x5,x6,x7,x8,x9⟩
  have HCL:Hid (∀w',Below wp.heap.size wp w'→Calls Tryz.prog 242 #[.agg #[.int .i64 x.k.k,.int .i64 x.k.i,.int .i64 x.k.s,.string x.k.t,.slice x.k.la x.k.ll x.k.lc,.slice x.k.fa x.k.fl x.k.fc,.int .i64 x.n,.int .i64 x.t,.slice x.ia x.il x.ic,.slice x.va x.vl x.vc],.agg #[.int .i64 c.k,.int .i64 c.i,.int .i64 c.s,.string c.t,.slice c.la c.ll c.lc,.slice c.fa c.fl c.fc]] w' fun e w2=>e=.returned (.int .i64 u)∧Below w'.heap.size w' w2):=hid fun w' h=>by
   have hw:=HBW.out.trans (h.mono HBW.out.size);have hs:=hw.size;rw[hu];exact jCp x l[(lo+hi) / 2] c kd w' (hxi.same fun b q=>⟨by omega,hw.block b q⟩) (HK.out.same fun b q=>⟨by omega,hw.block b q⟩)
  have hm0:(0:Int)≤((lo:Int)+(hi:Int)) / 2:=by omega
  have hm1:((lo:Int)+(hi:Int)) / 2<(n:Int):=by omega
  clear hx hxa hxi hb hu hkl;by_cases hu0:u<0
  ·have HULT:=hid (show cc ((lo+hi) / 2)<0 by rw[HU.out];exact hu0);go_upto_region 5 with (fail)
   refine jF 8 (fun w'=>Below wp.heap.size wp w') (by kernel_rfl) (by kernel_rfl) (by kernel_rfl) (by decide) ((Below.refl _ _).drew) (fun hS=>?_);simp only[dm,dn,dp,dq];refine tkQ 0 (v:=?_) ?_ hS ?_;rotate_left;· intro w' hw';have hcells:=HC.out w' hw';go_simp;(try rfl)
   simp only[Act.put,pq];refine tkQ 1 (v:=?_) ?_ hS ?_;rotate_left;· intro w' hw';have hcells:=HC.out w' hw';go_simp;(try rfl)
   simp only[Act.put,pq];refine tkQ 2 (v:=?_) ?_ hS ?_;rotate_left;· intro w' hw';have hcells:=HC.out w' hw';go_simp;(try rfl)
   simp only[Act.put,pq];refine tkQ 3 (v:=?_) ?_ hS ?_;rotate_left;· intro w' hw';have hcells:=HC.out w' hw';go_simp;(try rfl)
   simp only[Act.put,pq];refine tkQ 4 (v:=?_) ?_ hS ?_;rotate_left;· intro w' hw';have hcells:=HC.out w' hw';go_simp;(try rfl)
   simp only[Act.put,pq];refine tkQ 5 (v:=?_) ?_ hS ?_;rotate_left;· intro w' hw';have hcells:=HC.out w' hw';go_simp;(try rfl)
   simp only[Act.put,pq];refine ry [6] ?_;refine arQ fun K hK=>?_;go_simp;go_at_call 242;refine(HCL.out _ hS).mono ?_;rintro e w3 ⟨rfl,hb3⟩;refine hK.out _ _ (hS.trans (hb3.mono hS.size)) (fun hS=>?_);clear hK K
   (try simp only[Act.put,pq])
   refine tkQ 7 (v:=?_) ?_ hS ?_;rotate_left;· intro w' hw';have hcells:=HC.out w' hw';go_simp;(try rfl)
   simp only[Act.put,pq];refine wpAnyH_done (by kernel_rfl) ?_ _
   (try dsimp only)
   have HBE:=hid hS;clear hS HC HCL;go_wp2
   go_roundw
   case rel =>
    refine⟨(lo+hi) / 2+1,hi,g,by rw[show((lo:Int)+(hi:Int)) / 2+1=(((lo+hi) / 2+1:Nat):Int) by omega],rfl,by omega,hin,(by have:=HF.out;omega),?_,HBR.out.trans (HBE.out.mono HBR.out.size)⟩;rw[HBT.out,uQ,if_pos hlt,if_pos HULT.out]
   case measure=>simp[intOf];omega
  ·have HULT:=hid (show ¬ cc ((lo+hi) / 2)<0 by rw[HU.out];exact hu0);go_upto_region 5 with (fail)
   refine jF 8 (fun w'=>Below wp.heap.size wp w') (by kernel_rfl) (by kernel_rfl) (by kernel_rfl) (by decide) ((Below.refl _ _).drew) (fun hS=>?_);simp only[dm,dn,dp,dq];refine tkQ 0 (v:=?_) ?_ hS ?_;rotate_left;· intro w' hw';have hcells:=HC.out w' hw';go_simp;(try rfl)
   simp only[Act.put,pq];refine tkQ 1 (v:=?_) ?_ hS ?_;rotate_left;· intro w' hw';have hcells:=HC.out w' hw';go_simp;(try rfl)
   simp only[Act.put,pq];refine tkQ 2 (v:=?_) ?_ hS ?_;rotate_left;· intro w' hw';have hcells:=HC.out w' hw';go_simp;(try rfl)
   simp only[Act.put,pq];refine tkQ 3 (v:=?_) ?_ hS ?_;rotate_left;· intro w' hw';have hcells:=HC.out w' hw';go_simp;(try rfl)
   simp only[Act.put,pq];refine tkQ 4 (v:=?_) ?_ hS ?_;rotate_left;· intro w' hw';have hcells:=HC.out w' hw';go_simp;(try rfl)
   simp only[Act.put,pq];refine tkQ 5 (v:=?_) ?_ hS ?_;rotate_left;· intro w' hw';have hcells:=HC.out w' hw';go_simp;(try rfl)
   simp only[Act.put,pq];refine ry [6] ?_;refine arQ fun K hK=>?_;go_simp;go_at_call 242;refine(HCL.out _ hS).mono ?_;rintro e w3 ⟨rfl,hb3⟩;refine hK.out _ _ (hS.trans (hb3.mono hS.size)) (fun hS=>?_);clear hK K
   (try simp only[Act.put,pq])
   refine tkQ 7 (v:=?_) ?_ hS ?_;rotate_left;· intro w' hw';have hcells:=HC.out w' hw';go_simp;(try rfl)
   simp only[Act.put,pq];refine wpAnyH_done (by kernel_rfl) ?_ _
   (try dsimp only)
   have HBE:=hid hS;clear hS HC HCL;go_wp2
   go_roundw
   case rel =>
    refine⟨lo,(lo+hi) / 2,g,rfl,by rw[show((lo:Int)+(hi:Int)) / 2=(((lo+hi) / 2:Nat):Int) by omega],by omega,by omega,(by have:=HF.out;omega),?_,HBR.out.trans (HBE.out.mono HBR.out.size)⟩;rw[HBT.out,uQ,if_pos hlt,if_neg HULT.out]
   case measure=>simp[intOf];omega
 ·obtain rfl:hi=lo:=by omega
  have HE:=hid (show fi=hi by rw[HBT.out,uQ,if_neg hlt]);by_cases hn:hi<n
  ·have hkl:hi<l.length:=by have:=HL.out;omega
   obtain⟨b,o,rfl,hb,hx⟩:=HD.out.slot (show 0<n by omega);obtain⟨x,hxa,hxi⟩:=hx hi hkl;have HB:=hid hb;have hn':(hi:Int)<(n:Int):=by omega
   have hi0:(0:Int)≤(hi:Int):=by omega
   obtain⟨u,hu⟩:∃u,u=cmpV l[hi].k kd:=⟨_,rfl⟩
   have HU:=hid hu;have HFB:=hid (show jAc l kd=(u==0) by rw[jAc,←HFI.out,HE.out,jI7 l kd hi hkl,←HU.out];simp[←HL.out,hn])
   have HC:Hid (∀w',Below wp.heap.size wp w'→(w'.cell? ⟨w.heap.size,0,none⟩=some (.int .i64 c.k)∧w'.cell? ⟨w.heap.size,1,none⟩=some (.int .i64 c.i)∧w'.cell? ⟨w.heap.size,2,none⟩=some (.int .i64 c.s)∧w'.cell? ⟨w.heap.size,3,none⟩=some (.string c.t)∧w'.cell? ⟨w.heap.size,4,none⟩=some (.slice c.la c.ll c.lc)∧w'.cell? ⟨w.heap.size,5,none⟩=some (.slice c.fa c.fl c.fc))∧(w'.cell? ⟨b,o+hi * 10,none⟩=some (.int .i64 x.k.k)∧w'.cell? ⟨b,o+hi * 10+1,none⟩=some (.int .i64 x.k.i)∧w'.cell? ⟨b,o+hi * 10+2,none⟩=some (.int .i64 x.k.s)∧w'.cell? ⟨b,o+hi * 10+3,none⟩=some (.string x.k.t)∧w'.cell? ⟨b,o+hi * 10+4,none⟩=some (.slice x.k.la x.k.ll x.k.lc)∧w'.cell? ⟨b,o+hi * 10+5,none⟩=some (.slice x.k.fa x.k.fl x.k.fc)∧w'.cell? ⟨b,o+hi * 10+6,none⟩=some (.int .i64 x.n)∧w'.cell? ⟨b,o+hi * 10+7,none⟩=some (.int .i64 x.t)∧w'.cell? ⟨b,o+hi * 10+8,none⟩=some (.slice x.ia x.il x.ic)∧w'.cell? ⟨b,o+hi * 10+9,none⟩=some (.slice x.va x.vl x.vc))):=hid fun w' h=>by
    have h1:=jB ((HBR.out).trans (h.mono HBR.out.size)) G1.out;obtain⟨x0,x1,x2,x3,x4,x5,x6,x7,x8,x9⟩:=(hxa.same ((HBW.out.trans (h.mono HBW.out.size)).block b HB.out)).slot;exact⟨⟨jA h1 0,jA h1 1,jA h1 2,jA h1 3,jA h1 4,jA h1 5⟩,x0,x1,x2,x3,x4,x5,x6,x7,x8,x9⟩
   have HCL:Hid (∀w',Below wp.heap.size wp w'→Calls Tryz.prog 242 #[.agg #[.int .i64 x.k.k,.int .i64 x.k.i,.int .i64 x.k.s,.string x.k.t,.slice x.k.la x.k.ll x.k.lc,.slice x.k.fa x.k.fl x.k.fc,.int .i64 x.n,.int .i64 x.t,.slice x.ia x.il x.ic,.slice x.va x.vl x.vc],.agg #[.int .i64 c.k,.int .i64 c.i,.int .i64 c.s,.string c.t,.slice c.la c.ll c.lc,.slice c.fa c.fl c.fc]] w' fun e w2=>e=.returned (.int .i64 u)∧Below w'.heap.size w' w2):=hid fun w' h=>by
    have hw:=HBW.out.trans (h.mono HBW.out.size);have hs:=hw.size;rw[hu];exact jCp x l[hi] c kd w' (hxi.same fun b q=>⟨by omega,hw.block b q⟩) (HK.out.same fun b q=>⟨by omega,hw.block b q⟩)
   clear hx hxa hxi hb hu;go_upto_region 8 with (fail)
   refine wp_region_held_drew (S:=(fun w'=>Below wp.heap.size wp w')) (by kernel_rfl) ((Below.refl _ _).drew) (fun hS=>?_);refine tkQ 0 (v:=?_) ?_ hS ?_;rotate_left;· intro w' hw';have hcells:=HC.out w' hw';go_simp;(try rfl)
   simp only[Act.put,pq];refine tkQ 1 (v:=?_) ?_ hS ?_;rotate_left;· intro w' hw';have hcells:=HC.out w' hw';go_simp;(try rfl)
   simp only[Act.put,pq];refine tkQ 2 (v:=?_) ?_ hS ?_;rotate_left;· intro w' hw';have hcells:=HC.out w' hw';go_simp;(try rfl)
   simp only[Act.put,pq];refine tkQ 3 (v:=?_) ?_ hS ?_;rotate_left;· intro w' hw';have hcells:=HC.out w' hw';go_simp;(try rfl)
   simp only[Act.put,pq];refine tkQ 4 (v:=?_) ?_ hS ?_;rotate_left;· intro w' hw';have hcells:=HC.out w' hw';go_simp;(try rfl)
   simp only[Act.put,pq];refine tkQ 5 (v:=?_) ?_ hS ?_;rotate_left;· intro w' hw';have hcells:=HC.out w' hw';go_simp;(try rfl)
   simp only[Act.put,pq];refine tkQ 6 (v:=?_) ?_ hS ?_;rotate_left;· intro w' hw';have hcells:=HC.out w' hw';go_simp;(try rfl)
   simp only[Act.put,pq];refine tkQ 7 (v:=?_) ?_ hS ?_;rotate_left;· intro w' hw';have hcells:=HC.out w' hw';go_simp;(try rfl)
   simp only[Act.put,pq];refine tkQ 8 (v:=?_) ?_ hS ?_;rotate_left;· intro w' hw';have hcells:=HC.out w' hw';go_simp;(try rfl)
   simp only[Act.put,pq];refine tkQ 9 (v:=?_) ?_ hS ?_;rotate_left;· intro w' hw';have hcells:=HC.out w' hw';go_simp;(try rfl)
   simp only[Act.put,pq];refine tkQ 10 (v:=?_) ?_ hS ?_;rotate_left;· intro w' hw';have hcells:=HC.out w' hw';go_simp;(try rfl)
   simp only[Act.put,pq];refine ry [11] ?_;refine arQ fun K hK=>?_;go_simp;go_at_call 242;refine(HCL.out _ hS).mono ?_;rintro e w3 ⟨rfl,hb3⟩;refine hK.out _ _ (hS.trans (hb3.mono hS.size)) (fun hS=>?_);clear hK K
   (try simp only[Act.put,pq])
   refine tkQ 12 (v:=?_) ?_ hS ?_;rotate_left;· intro w' hw';have hcells:=HC.out w' hw';go_simp;(try rfl)
   simp only[Act.put,pq];refine tkQ 13 (v:=?_) ?_ hS ?_;rotate_left;· intro w' hw';have hcells:=HC.out w' hw';go_simp;(try rfl)
   simp only[Act.put,pq];refine tkQ 14 (v:=?_) ?_ hS ?_;rotate_left;· intro w' hw';have hcells:=HC.out w' hw';go_simp;(try rfl)
   simp only[Act.put,pq];refine tkQ 15 (v:=?_) ?_ hS ?_;rotate_left;· intro w' hw';have hcells:=HC.out w' hw';go_simp;(try rfl)
   simp only[Act.put,pq];refine wpAnyH_done (by kernel_rfl) ?_ _
   (try dsimp only)
   have HBE:=hid hS;clear hS HC HCL;go_wp2
   go_ret2
   exact⟨by rw[HFB.out,←HFI.out,HE.out];rfl,HBW.out.trans (HBE.out.mono HBW.out.size)⟩
  ·have hn':¬ (hi:Int)<(n:Int):=by omega
   have hn2:decide ((hi:Int)<(n:Int))=false:=by simp;omega
   have hn3:decide (hi<n)=false:=by simp;omega
   have HFB:=hid (show jAc l kd=false by rw[jAc,←HFI.out,HE.out,←HL.out];simp[hn]);have HC:Hid (∀w':World,Below wp.heap.size wp w'→True):=hid fun _ _=>trivial;go_upto_region 8 with (fail)
   refine wp_region_held_drew (S:=(fun w'=>Below wp.heap.size wp w')) (by kernel_rfl) ((Below.refl _ _).drew) (fun hS=>?_);refine tkQ 0 (v:=?_) ?_ hS ?_;rotate_left;· intro w' hw';have hcells:=HC.out w' hw';go_simp;(try rfl)
   simp only[Act.put,pq];refine tkQ 1 (v:=?_) ?_ hS ?_;rotate_left;· intro w' hw';have hcells:=HC.out w' hw';go_simp;(try rfl)
   simp only[Act.put,pq];refine tkQ 2 (v:=?_) ?_ hS ?_;rotate_left;· intro w' hw';have hcells:=HC.out w' hw';go_simp;(try rfl)
   simp only[Act.put,pq];refine tkQ 3 (v:=?_) ?_ hS ?_;rotate_left;· intro w' hw';have hcells:=HC.out w' hw';go_simp;(try rfl)
   simp only[Act.put,pq];refine tkQ 4 (v:=?_) ?_ hS ?_;rotate_left;· intro w' hw';have hcells:=HC.out w' hw';go_simp;(try rfl)
   simp only[Act.put,pq];refine wpAnyH_take (i:=5) (oi:=_) (v:=undef) rfl (by kernel_rfl) (by kernel_rfl) (by kernel_rfl) (fun _ _ _ h=>h) (Or.inr ⟨by rfl,rfl⟩) hS ?_;simp only[Act.put,pq];refine wpAnyH_take (i:=6) (oi:=_) (v:=undef) rfl (by kernel_rfl) (by kernel_rfl) (by kernel_rfl) (fun _ _ _ h=>h) (Or.inr ⟨by rfl,rfl⟩) hS ?_;simp only[Act.put,pq];refine wpAnyH_take (i:=7) (oi:=_) (v:=undef) rfl (by kernel_rfl) (by kernel_rfl) (by kernel_rfl) (fun _ _ _ h=>h) (Or.inr ⟨by rfl,rfl⟩) hS ?_;simp only[Act.put,pq]
   refine wpAnyH_take (i:=8) (oi:=_) (v:=undef) rfl (by kernel_rfl) (by kernel_rfl) (by kernel_rfl) (fun _ _ _ h=>h) (Or.inr ⟨by rfl,rfl⟩) hS ?_;simp only[Act.put,pq];refine wpAnyH_take (i:=9) (oi:=_) (v:=undef) rfl (by kernel_rfl) (by kernel_rfl) (by kernel_rfl) (fun _ _ _ h=>h) (Or.inr ⟨by rfl,rfl⟩) hS ?_;simp only[Act.put,pq];refine wpAnyH_take (i:=10) (oi:=_) (v:=undef) rfl (by kernel_rfl) (by kernel_rfl) (by kernel_rfl) (fun _ _ _ h=>h) (Or.inr ⟨by rfl,rfl⟩) hS ?_;simp only[Act.put,pq]
   refine wpAnyH_take (i:=11) (oi:=_) (v:=undef) rfl (by kernel_rfl) (by kernel_rfl) (by kernel_rfl) (fun _ _ _ h=>h) (Or.inr ⟨by rfl,rfl⟩) hS ?_;simp only[Act.put,pq];refine wpAnyH_take (i:=12) (oi:=_) (v:=undef) rfl (by kernel_rfl) (by kernel_rfl) (by kernel_rfl) (fun _ _ _ h=>h) (Or.inr ⟨by rfl,rfl⟩) hS ?_;simp only[Act.put,pq];refine tkQ 13 (v:=?_) ?_ hS ?_;rotate_left;· intro w' hw';have hcells:=HC.out w' hw';go_simp;(try rfl)
   simp only[Act.put,pq];refine tkQ 14 (v:=?_) ?_ hS ?_;rotate_left;· intro w' hw';have hcells:=HC.out w' hw';go_simp;(try rfl)
   simp only[Act.put,pq];refine tkQ 15 (v:=?_) ?_ hS ?_;rotate_left;· intro w' hw';have hcells:=HC.out w' hw';go_simp;(try rfl)
   simp only[Act.put,pq];refine wpAnyH_done (by kernel_rfl) ?_ _
   (try dsimp only)
   have HBE:=hid hS;clear hS HC;go_wp2
   go_ret2
   exact⟨by rw[HFB.out,←HFI.out,HE.out];rfl,HBW.out.trans (HBE.out.mono HBW.out.size)⟩
end
section
open Go Go.RowKit Go.Shelf
theorem jMn (c:StC) (d:Sta) (k:VC) (kd:Val) (w:World) (hd:IsSta (· < w.heap.size) w c d) (hk:IsVal (· < w.heap.size) w k kd):Calls Tryz.prog 161 #[c.v,k.v] w (jIt w d.l kd):=by
 obtain⟨sn,st,a,sl,sc⟩:=c;have hb:Below w.heap.size w ((w.alloc (.cells #[.int .i64 sn,.int .i64 st,.slice a sl sc] 43)).alloc (.cells #[.int .i64 k.k,.int .i64 k.i,.int .i64 k.s,.string k.t,.slice k.la k.ll k.lc,.slice k.fa k.fl k.fc] 25)):=((bR w).alloc lr _).alloc (by simp) _;have hc:=bs_call a sl sc d.l k kd _ (hd.l.same fun b q=>⟨Nat.lt_of_lt_of_le q hb.size,hb.block b q⟩) (hk.same fun b q=>⟨Nat.lt_of_lt_of_le q hb.size,hb.block b q⟩)
 have g1:=jD (.cells #[.int .i64 k.k,.int .i64 k.i,.int .i64 k.s,.string k.t,.slice k.la k.ll k.lc,.slice k.fa k.fl k.fc] 25) (heap_alloc_new w (.cells #[.int .i64 sn,.int .i64 st,.slice a sl sc] 43));have k2:=jA g1 2
 (try dsimp only at k2)
 have HC:=hid hc;have HB:=hid hb;obtain⟨fi,hfi⟩:∃fi,fi=jFo d.l kd:=⟨_,rfl⟩
 obtain⟨fb,hfb⟩:∃fb,fb=jAc d.l kd:=⟨_,rfl⟩
 have HE:=hid (And.intro hfi hfb);clear hc hb hd hk g1 hfi hfb;dsimp only[StC.v,VC.v] at HC ⊢;go_enter Tryz.func161,Tryz.ntmps161
 go_wp2_with (go_at_call 241;refine HC.out.mono ?_;rintro e w2 ⟨he,hb2⟩;rw[←HE.out.1,←HE.out.2] at he;subst he)
 go_ret2
 exact⟨by rw[←HE.out.1,←HE.out.2];rfl,HB.out.trans (hb2.mono HB.out.size)⟩
def jKz:Slot:=⟨noVal,0,0,[],[]⟩
theorem row_nil' {C D:Type} {K:Kit C D} (S:Nat→Prop) (w:World):IsRow K S w none 0 0 []:=⟨rfl,Nat.le_refl _,by rw[Nat.zero_mul];decide,.inl rfl⟩
theorem jKy (S:Nat→Prop) (w:World):IsSl S w ⟨⟨0,0,0,⟨#[]⟩,none,0,0,none,0,0⟩,0,0,none,0,0,none,0,0⟩ jKz :=
 ⟨⟨⟨rfl,rfl,rfl,rfl,⟨(show I64 0 from⟨by decide,by decide⟩),(show I64 0 from⟨by decide,by decide⟩),(show I64 0 from⟨by decide,by decide⟩),by decide,by decide,by decide,by decide,by decide⟩,rfl,rfl,rfl⟩,.inl rfl,.inl rfl⟩,rfl,(show I64 0 from⟨by decide,by decide⟩),rfl,(show I64 0 from⟨by decide,by decide⟩),row_nil' _ _,row_nil' _ _⟩
def GetPost (w:World) (l:List Slot) (kd:Val) (e:Ending) (w':World):Prop:=∃(c':SlC) (d':Slot),e=.returned (.tuple #[c'.v,.bool (jAc l kd)])∧Below w.heap.size w w'∧IsSl (fun b=>w.heap.size≤b∧b<w'.heap.size) w' c' d'∧(jAc l kd=true→l[jFo l kd]?=some d')∧(jAc l kd=false→d'=jKz)
theorem get_call (c:StC) (d:Sta) (k:VC) (kd:Val) (w:World) (hd:IsSta (· < w.heap.size) w c d) (hk:IsVal (· < w.heap.size) w k kd):Calls Tryz.prog 58 #[c.v,k.v] w (GetPost w d.l kd):=by
 obtain⟨sn,st,a,sl,sc⟩:=c;have hbig:sl * 152≤140737488351232:=hd.l.big;have HL:=hid hd.l.len;have HDL:=hid hd.l;dsimp only at HL HDL;obtain⟨wb,hwb⟩:∃wb,wb=((w.alloc (.cells #[.int .i64 sn,.int .i64 st,.slice a sl sc] 43)).alloc (.cells #[.int .i64 k.k,.int .i64 k.i,.int .i64 k.s,.string k.t,.slice k.la k.ll k.lc,.slice k.fa k.fl k.fc] 25)).alloc (.cells #[.int .i64 0,.int .i64 0,.int .i64 0,.string ⟨#[]⟩,.slice none 0 0,.slice none 0 0,.int .i64 0,.int .i64 0,.slice none 0 0,.slice none 0 0] 107):=⟨_,rfl⟩
 have hb0:Below w.heap.size w wb:=by rw[hwb];exact(((bR w).alloc lr _).alloc (by simp) _).alloc (by simp;omega) _
 have hsb:wb.heap.size=w.heap.size+3:=by rw[hwb];simp
 have g1:wb.heap[w.heap.size]?=some (.cells #[.int .i64 sn,.int .i64 st,.slice a sl sc] 43):=by rw[hwb];exact jD _ (jD _ (heap_alloc_new w _))
 have g2:wb.heap[w.heap.size+1]?=some (.cells #[.int .i64 k.k,.int .i64 k.i,.int .i64 k.s,.string k.t,.slice k.la k.ll k.lc,.slice k.fa k.fl k.fc] 25):=by rw[hwb];exact jD _ (jK _ _ _ (by simp))
 have g3:wb.heap[w.heap.size+2]?=some (.cells #[.int .i64 0,.int .i64 0,.int .i64 0,.string ⟨#[]⟩,.slice none 0 0,.slice none 0 0,.int .i64 0,.int .i64 0,.slice none 0 0,.slice none 0 0] 107):=by rw[hwb];exact jK _ _ _ (by simp)
 have hc:=jMn ⟨sn,st,a,sl,sc⟩ d k kd wb (hd.same fun b q=>⟨Nat.lt_of_lt_of_le q hb0.size,hb0.block b q⟩) (hk.same fun b q=>⟨Nat.lt_of_lt_of_le q hb0.size,hb0.block b q⟩);obtain⟨fi,hfi⟩:∃fi,fi=jFo d.l kd:=⟨_,rfl⟩
 obtain⟨fb,hfb⟩:∃fb,fb=jAc d.l kd:=⟨_,rfl⟩
 have HE:=hid (And.intro hfi hfb);rw[hwb] at hc;have HC:=hid hc;have HWB:=hid hwb;have HB0:=hid hb0;have HSB:=hid hsb;have G1:=hid g1;have G3:=hid g3;have s0:=jA g1 0;have s1:=jA g1 1;have s2:=jA g1 2;have q0:=jA g2 0;have q1:=jA g2 1;have q2:=jA g2 2;have q3:=jA g2 3;have q4:=jA g2 4;have q5:=jA g2 5
 (try dsimp only at s0 s1 s2 q0 q1 q2 q3 q4 q5)
 rw[hwb] at s0 s1 s2 q0 q1 q2 q3 q4 q5;clear hwb hb0 hsb g1 g2 g3 hc hd hk hfi hfb;dsimp only[StC.v,VC.v] at HC ⊢;go_enter Tryz.func58,Tryz.ntmps58
 cases fb with
 | false =>
   go_wp2_with (go_at_call 161;refine HC.out.mono ?_;rintro e w3 ⟨he,hb3⟩;rw[←HE.out.1,←HE.out.2] at he;subst he;rw[←HWB.out] at hb3;have g3:=jB hb3 G3.out;have y0:=jA g3 0;have y1:=jA g3 1;have y2:=jA g3 2;have y3:=jA g3 3;have y4:=jA g3 4;have y5:=jA g3 5;have y6:=jA g3 6;have y7:=jA g3 7;have y8:=jA g3 8;have y9:=jA g3 9;have u0:=jC g3 0;have u1:=jC g3 1;have u2:=jC g3 2;have u3:=jC g3 3;have u4:=jC g3 4;have u5:=jC g3 5;have u6:=jC g3 6;have u7:=jC g3 7;have u8:=jC g3 8;have u9:=jC g3 9;(try dsimp only at y0 y1 y2 y3 y4 y5 y6 y7 y8 y9);have GG3:=hid g3;clear g3)
   have h1:=mT (B:=w.heap.size+2) (w:=w3) (v0:=.int .i64 0) (v1:=.int .i64 0) (v2:=.int .i64 0) (v3:=.string ⟨#[]⟩) (v4:=.slice none 0 0) (v5:=.slice none 0 0) (v6:=.int .i64 0) (v7:=.int .i64 0) (v8:=.slice none 0 0) (v9:=.slice none 0 0) GG3.out;have hB:=(HB0.out.trans (hb3.mono HB0.out.size)).trans (mL (.int .i64 0) (.int .i64 0) (.int .i64 0) (.string ⟨#[]⟩) (.slice none 0 0) (.slice none 0 0) (.int .i64 0) (.int .i64 0) (.slice none 0 0) (.slice none 0 0) w3 (w.heap.size+2) w.heap.size (by omega));dsimp only[putTen] at h1 hB
   exact bodyPost_ret (v:=.tuple #[SlC.v ⟨⟨0,0,0,⟨#[]⟩,none,0,0,none,0,0⟩,0,0,none,0,0,none,0,0⟩,.bool false]) (by simp[results,Tryz.results58,go_sem,jA h1]) rfl ⟨⟨⟨0,0,0,⟨#[]⟩,none,0,0,none,0,0⟩,0,0,none,0,0,none,0,0⟩,jKz,by rw[←HE.out.2],hB,jKy _ _,fun h=>by(rw[←HE.out.2] at h;cases h),fun _=>rfl⟩
 | true =>
   have hfl:fi<sl:=by
    have h:=HE.out.2;rw[jAc,←HE.out.1,←HL.out] at h;simp only[Bool.true_eq,Bool.and_eq_true,decide_eq_true_eq] at h;exact h.1
   have hkl:fi<d.l.length:=by have:=HL.out;omega
   obtain⟨b,o,rfl,hb,hx⟩:=HDL.out.slot (show 0<sl by omega);obtain⟨x,hxa,hxi⟩:=hx fi hkl;obtain⟨dx,hdx⟩:∃dx,dx=d.l[fi]:=⟨_,rfl⟩
   have HDX:=hid (show d.l[fi]?=some dx by rw[hdx];exact List.getElem?_eq_getElem hkl);rw[←hdx] at hxi;have hf1:(fi:Int)<(sl:Int):=by omega
   have hf0:(0:Int)≤(fi:Int):=by omega
   have HX:Hid (∀w',Below wb.heap.size wb w'→w'.cell? ⟨b,o+fi * 10,none⟩=some (.int .i64 x.k.k)∧w'.cell? ⟨b,o+fi * 10+1,none⟩=some (.int .i64 x.k.i)∧w'.cell? ⟨b,o+fi * 10+2,none⟩=some (.int .i64 x.k.s)∧w'.cell? ⟨b,o+fi * 10+3,none⟩=some (.string x.k.t)∧w'.cell? ⟨b,o+fi * 10+4,none⟩=some (.slice x.k.la x.k.ll x.k.lc)∧w'.cell? ⟨b,o+fi * 10+5,none⟩=some (.slice x.k.fa x.k.fl x.k.fc)∧w'.cell? ⟨b,o+fi * 10+6,none⟩=some (.int .i64 x.n)∧w'.cell? ⟨b,o+fi * 10+7,none⟩=some (.int .i64 x.t)∧w'.cell? ⟨b,o+fi * 10+8,none⟩=some (.slice x.ia x.il x.ic)∧w'.cell? ⟨b,o+fi * 10+9,none⟩=some (.slice x.va x.vl x.vc)):=hid fun w' h=>(hxa.same ((HB0.out.trans (h.mono HB0.out.size)).block b hb)).slot
   have HCS:Hid (∀w',Below wb.heap.size wb w'→Calls Tryz.prog 162 #[.agg #[.int .i64 x.k.k,.int .i64 x.k.i,.int .i64 x.k.s,.string x.k.t,.slice x.k.la x.k.ll x.k.lc,.slice x.k.fa x.k.fl x.k.fc,.int .i64 x.n,.int .i64 x.t,.slice x.ia x.il x.ic,.slice x.va x.vl x.vc]] w' (SlPost w' dx)):=hid fun w' h=>by
    have hw:=HB0.out.trans (h.mono HB0.out.size);exact jC0 x _ w' (hxi.same fun b q=>⟨Nat.lt_of_lt_of_le q hw.size,hw.block b q⟩)
   clear hx hxa hxi hb hdx hkl hfl;go_wp2_with (first
    | (go_at_call 162;refine(HCS.out _ hb3).mono ?_;rintro e w5 ⟨c5,rfl,hb5,hi5⟩;clear x0 x1 x2 x3 x4 x5 x6 x7 x8 x9 t2;have g3:=jB (hb3.trans (hb5.mono hb3.size)) G3.out;have y0:=jA g3 0;have y1:=jA g3 1;have y2:=jA g3 2;have y3:=jA g3 3;have y4:=jA g3 4;have y5:=jA g3 5;have y6:=jA g3 6;have y7:=jA g3 7;have y8:=jA g3 8;have y9:=jA g3 9;have u0:=jC g3 0;have u1:=jC g3 1;have u2:=jC g3 2;have u3:=jC g3 3;have u4:=jC g3 4;have u5:=jC g3 5;have u6:=jC g3 6;have u7:=jC g3 7;have u8:=jC g3 8;have u9:=jC g3 9;(try dsimp only at y0 y1 y2 y3 y4 y5 y6 y7 y8 y9);have GG3:=hid g3;have HI5:=hid hi5;have HB5:=hid hb5;clear g3 hi5 hb5)
    | (go_at_call 161;refine HC.out.mono ?_;rintro e w3 ⟨he,hb3⟩;rw[←HE.out.1,←HE.out.2] at he;subst he;rw[←HWB.out] at hb3;have t2:=jA (jB hb3 G1.out) 2;(try dsimp only at t2);obtain⟨x0,x1,x2,x3,x4,x5,x6,x7,x8,x9⟩:=HX.out _ hb3))
   have h5:=HB5.out;have hz5:=h5.size;have hz3:=hb3.size;have hsb:=HSB.out;have h1:=mT (B:=w.heap.size+2) (w:=w5) (v0:=.int .i64 c5.k.k) (v1:=.int .i64 c5.k.i) (v2:=.int .i64 c5.k.s) (v3:=.string c5.k.t) (v4:=.slice c5.k.la c5.k.ll c5.k.lc) (v5:=.slice c5.k.fa c5.k.fl c5.k.fc) (v6:=.int .i64 c5.n) (v7:=.int .i64 c5.t) (v8:=.slice c5.ia c5.il c5.ic) (v9:=.slice c5.va c5.vl c5.vc) GG3.out
   have hB:=((HB0.out.trans (hb3.mono HB0.out.size)).trans (h5.mono (by omega))).trans (mL (.int .i64 c5.k.k) (.int .i64 c5.k.i) (.int .i64 c5.k.s) (.string c5.k.t) (.slice c5.k.la c5.k.ll c5.k.lc) (.slice c5.k.fa c5.k.fl c5.k.fc) (.int .i64 c5.n) (.int .i64 c5.t) (.slice c5.ia c5.il c5.ic) (.slice c5.va c5.vl c5.vc) w5 (w.heap.size+2) w.heap.size (by omega))
   have hI:=hid (HI5.out.same (S':=fun b=>w.heap.size≤b∧b<(putTen w5 (w.heap.size+2) (.int .i64 c5.k.k) (.int .i64 c5.k.i) (.int .i64 c5.k.s) (.string c5.k.t) (.slice c5.k.la c5.k.ll c5.k.lc) (.slice c5.k.fa c5.k.fl c5.k.fc) (.int .i64 c5.n) (.int .i64 c5.t) (.slice c5.ia c5.il c5.ic) (.slice c5.va c5.vl c5.vc)).heap.size) (w':=putTen w5 (w.heap.size+2) (.int .i64 c5.k.k) (.int .i64 c5.k.i) (.int .i64 c5.k.s) (.string c5.k.t) (.slice c5.k.la c5.k.ll c5.k.lc) (.slice c5.k.fa c5.k.fl c5.k.fc) (.int .i64 c5.n) (.int .i64 c5.t) (.slice c5.ia c5.il c5.ic) (.slice c5.va c5.vl c5.vc)) fun b q=>⟨⟨by omega,by rw[jB0];exact q.2⟩,jA2 _ _ _ _ _ _ _ _ _ _ _ _ _ (by omega)⟩)
   dsimp only[putTen] at h1 hB hI;exact bodyPost_ret (v:=.tuple #[SlC.v c5,.bool true]) (by simp[results,Tryz.results58,go_sem,jA h1]) rfl ⟨c5,dx,by rw[←HE.out.2],hB,hI.out,fun _=>by rw[←HE.out.1];exact HDX.out,fun h=>by(rw[←HE.out.2] at h;cases h)⟩
end
end Go.Proofs.YtaofolgaiipcjaaGreatDoor
