/- A part. -/
import Derived.Test.YteladbdfiannjaaGreatDoorSX42Mrg
import Derived.Test.YteladbdfiannjaaGreatDoorSX26Mrg
namespace Go.Proofs.YteladbdfiannjaaGreatDoor
set_option linter.unusedVariables false
set_option maxRecDepth 100000
set_option maxHeartbeats 64000000
set_option linter.unusedSimpArgs false
open Go Go.RowKit Go.Shelf
def rG:ByteArray:=⟨#[115,110,97,112,115,104,111,116,32,49,32,51,32,53,48,10,97,114,114,105,118,101,100,32,105,110,32,51,10,101,110,100,10]⟩
theorem rd_set1 {lp:Value} {v e t:Int} {ap:Option Addr} {an ac R:Nat} {w:World} (x:Int) (h:w.heap[R]?=some (rdO lp v e t ap an ac)):(w.setCell ⟨R,1,none⟩ (.int .i64 x)).heap[R]?=some (rdO lp x e t ap an ac):=by
 have:=aD (o:=1) (.int .i64 x) h
 simpa only[List.setIfInBounds_toArray,List.set_cons_zero,List.set_cons_succ] using this
theorem rd_set2 {lp:Value} {v e t:Int} {ap:Option Addr} {an ac R:Nat} {w:World} (x:Int) (h:w.heap[R]?=some (rdO lp v e t ap an ac)):(w.setCell ⟨R,2,none⟩ (.int .i64 x)).heap[R]?=some (rdO lp v x t ap an ac):=by
 have:=aD (o:=2) (.int .i64 x) h
 simpa only[List.setIfInBounds_toArray,List.set_cons_zero,List.set_cons_succ] using this
theorem rd_set3 {lp:Value} {v e t:Int} {ap:Option Addr} {an ac R:Nat} {w:World} (x:Int) (h:w.heap[R]?=some (rdO lp v e t ap an ac)):(w.setCell ⟨R,3,none⟩ (.int .i64 x)).heap[R]?=some (rdO lp v e x ap an ac):=by
 have:=aD (o:=3) (.int .i64 x) h
 simpa only[List.setIfInBounds_toArray,List.set_cons_zero,List.set_cons_succ] using this
theorem aC7 {lp:Value} {v e t:Int} {ap:Option Addr} {an ac R:Nat} {w:World} (h:w.heap[R]?=some (rdO lp v e t ap an ac)):(w.setCell ⟨R,10,none⟩ (.bool false)).heap[R]?=some (rdO lp v e t ap an ac):=by
 have:=aD (o:=10) (.bool false) h
 simpa only[List.setIfInBounds_toArray,List.set_cons_zero,List.set_cons_succ] using this
theorem split3:Lib.countB rG ⟨#[10]⟩=3∧Lib.splitB ⟨#[10]⟩ 0 3 rG=[⟨#[115,110,97,112,115,104,111,116,32,49,32,51,32,53,48]⟩,⟨#[97,114,114,105,118,101,100,32,105,110,32,51]⟩,⟨#[101,110,100]⟩,⟨#[]⟩]:=by
 constructor
 ·kernel_rfl
 ·kernel_rfl
theorem cut1:mC ⟨#[49,32,51,32,53,48]⟩ ⟨#[49]⟩ ⟨#[51,32,53,48]⟩:=⟨by kernel_rfl,by kernel_rfl⟩
theorem cut2:mC ⟨#[51,32,53,48]⟩ ⟨#[51]⟩ ⟨#[53,48]⟩:=⟨by kernel_rfl,by kernel_rfl⟩
theorem cut3:mC ⟨#[53,48]⟩ ⟨#[53,48]⟩ ⟨#[]⟩:=⟨by kernel_rfl,by kernel_rfl⟩
theorem cut4:mC ⟨#[105,110,32,51]⟩ ⟨#[105,110]⟩ ⟨#[51]⟩:=⟨by kernel_rfl,by kernel_rfl⟩
theorem cut5:mC ⟨#[51]⟩ ⟨#[51]⟩ ⟨#[]⟩:=⟨by kernel_rfl,by kernel_rfl⟩
theorem ito1:aF 1=⟨#[49]⟩:=by
 unfold aF Lib.itoa
 rw[if_neg (by decide),show Int.toNat 1=1 from rfl,Lib.decDigits,dif_pos (by decide)];rfl
theorem ito3:aF 3=⟨#[51]⟩:=by
 unfold aF Lib.itoa
 rw[if_neg (by decide),show Int.toNat 3=3 from rfl,Lib.decDigits,dif_pos (by decide)];rfl
theorem ito50:aF 50=⟨#[53,48]⟩:=by
 unfold aF Lib.itoa
 rw[if_neg (by decide),show Int.toNat 50=50 from rfl,Lib.decDigits,dif_neg (by decide),show 50 / 10=5 from rfl,Lib.decDigits,dif_pos (by decide)];rfl
theorem qN (g c:Nat) (w:World) (hg:CntAt w g ⟨#[105,110]⟩ 3) (hT:Tabs w) :
 Calls Tryz.prog 21 #[.agg #[.int .i64 1,.int .i64 3,.int .i64 50,.slice none 0 0,.slice (some ⟨g,0,none⟩) 1 c,.slice none 0 0,.slice none 0 0,.slice none 0 0,.slice none 0 0]] w fun r w'=>r=.returned (.tuple #[.string rG,.int .i64 0])∧Below w.heap.size w w' :=
 (aAu ⟨#[105,110]⟩ ⟨#[115,110,97,112,115,104,111,116,32,49,32,51,32,53,48]⟩ ⟨#[97,114,114,105,118,101,100,32,105,110,32,51]⟩ (by kernel_rfl) 1 3 50 3 (by decide) (by decide) (by decide) (by decide) (by rw[ito1,ito3,ito50];kernel_rfl) (by rw[ito3];kernel_rfl) (by simp[ByteArray.size]) (by simp[ByteArray.size]) g c w hg hT).mono fun r w' h=>h
theorem aAw (w:World) (hT:Tabs w) (hN:NumVars w) :
 Calls Tryz.prog 23 #[.string rG] w fun r w'=>∃g gc,r=.returned (.tuple #[.agg #[.int .i64 1,.int .i64 3,.int .i64 50,.slice none 0 0,.slice (some ⟨g,0,none⟩) 1 gc,.slice none 0 0,.slice none 0 0,.slice none 0 0,.slice none 0 0],.int .i64 0])∧CntAt w' g ⟨#[105,110]⟩ 3∧Below w.heap.size w w':=by
 obtain⟨mx,hmx⟩:=hN.2.2
 obtain⟨W,hW⟩:∃W,W=(((((w.alloc (.cells #[.int .i64 0,.int .i64 0,.int .i64 0,.slice none 0 0,.slice none 0 0,.slice none 0 0,.slice none 0 0,.slice none 0 0,.slice none 0 0] 30)).alloc (.cells #[.string ⟨#[115,110,97,112,115,104,111,116,32,49,32,51,32,53,48]⟩,.string ⟨#[97,114,114,105,118,101,100,32,105,110,32,51]⟩,.string ⟨#[101,110,100]⟩,.string ⟨#[]⟩] 9)).alloc (rdO (.slice (some ⟨w.heap.size+1,0,none⟩) 4 4) 0 0 0 none 0 0)).alloc (.cells #[.pointer (some ⟨w.heap.size+2,0,none⟩)] 150)).alloc (.cells #[.pointer (some ⟨w.heap.size+2,1,none⟩)] 51)):=⟨_,rfl⟩
 have HB0:Below w.heap.size w W:=by rw[hW];exact((((((bR w).alloc lr _).alloc (by simp) _).alloc (by simp;omega) _).alloc (by simp;omega) _).alloc (by simp;omega) _)
 have gZ:W.heap[w.heap.size]?=some (.cells #[.int .i64 0,.int .i64 0,.int .i64 0,.slice none 0 0,.slice none 0 0,.slice none 0 0,.slice none 0 0,.slice none 0 0,.slice none 0 0] 30):=by rw[hW];exact aC _ (aC _ (aC _ (aC _ (heap_alloc_new w _))))
 have gL:W.heap[w.heap.size+1]?=some (.cells #[.string ⟨#[115,110,97,112,115,104,111,116,32,49,32,51,32,53,48]⟩,.string ⟨#[97,114,114,105,118,101,100,32,105,110,32,51]⟩,.string ⟨#[101,110,100]⟩,.string ⟨#[]⟩] 9):=by rw[hW];exact aC _ (aC _ (aC _ (aM _ _ _ (by simp))))
 have gR:W.heap[w.heap.size+2]?=some (rdO (.slice (some ⟨w.heap.size+1,0,none⟩) 4 4) 0 0 0 none 0 0):=by rw[hW];exact aC _ (aC _ (aM _ _ _ (by simp)))
 have g4:W.heap[w.heap.size+3]?=some (.cells #[.pointer (some ⟨w.heap.size+2,0,none⟩)] 150):=by rw[hW];exact aC _ (aM _ _ _ (by simp))
 have g5:W.heap[w.heap.size+4]?=some (.cells #[.pointer (some ⟨w.heap.size+2,1,none⟩)] 51):=by rw[hW];exact aM _ _ _ (by simp)
 have zW:W.heap.size=w.heap.size+5:=by rw[hW];simp
 have HSP:Hid (Calls Tryz.prog 85 #[.string rG,.string ⟨#[10]⟩] (w.alloc (.cells #[.int .i64 0,.int .i64 0,.int .i64 0,.slice none 0 0,.slice none 0 0,.slice none 0 0,.slice none 0 0,.slice none 0 0,.slice none 0 0] 30)) fun e w'=>e=.returned (.slice (some ⟨(w.alloc (.cells #[.int .i64 0,.int .i64 0,.int .i64 0,.slice none 0 0,.slice none 0 0,.slice none 0 0,.slice none 0 0,.slice none 0 0,.slice none 0 0] 30)).heap.size,0,none⟩) 4 4)∧w'=(w.alloc (.cells #[.int .i64 0,.int .i64 0,.int .i64 0,.slice none 0 0,.slice none 0 0,.slice none 0 0,.slice none 0 0,.slice none 0 0,.slice none 0 0] 30)).alloc (.cells #[.string ⟨#[115,110,97,112,115,104,111,116,32,49,32,51,32,53,48]⟩,.string ⟨#[97,114,114,105,118,101,100,32,105,110,32,51]⟩,.string ⟨#[101,110,100]⟩,.string ⟨#[]⟩] 9)):=hid (by
  have h:=Tryz.strings_Split rG ⟨#[10]⟩ mx (w.alloc (.cells #[.int .i64 0,.int .i64 0,.int .i64 0,.slice none 0 0,.slice none 0 0,.slice none 0 0,.slice none 0 0,.slice none 0 0,.slice none 0 0] 30)) (by simp[rG,ByteArray.size]) (lN ((bR w).alloc lr _) hmx) (by simp[ByteArray.size])
  rw[split3.1,split3.2] at h
  exact h)
 have hNB:NB W w.heap.size:=⟨w,hT,hN,HB0,Nat.le_refl _⟩
 have HNX:=hid (qC ⟨#[115,110,97,112,115,104,111,116]⟩ ⟨#[115,110,97,112,115,104,111,116,32,49,32,51,32,53,48]⟩ ⟨#[49,32,51,32,53,48]⟩ (by simp[ByteArray.size]) (by kernel_rfl) (by kernel_rfl) (w.heap.size+2) (w.heap.size+1) 0 2 3 (by decide) 0 0 0 none 0 0 W gR (by rw[aA gL];rfl) (by decide) (by decide))
 have HNB:=hid hNB
 have HW:=hid hW
 have HBW:=hid HB0
 have GZ:=hid gZ
 have GL:=hid gL
 have G4w:=hid g4
 have G5w:=hid g5
 have HZW:=hid zW
 have c4:=aA g4 0
 (try dsimp only at c4)
 obtain⟨tx,htx⟩:∃tx,tx=rG:=⟨_,rfl⟩
 rw[←htx] at HSP ⊢
 have HTX:=hid htx
 have HT0:=hid hT
 have HN0:=hid hN
 clear hmx hW gZ gL gR g4 g5 hNB hT hN HB0 zW htx
 go_enter Tryz.func23,Tryz.ntmps23
 go_upto_region 3 with (go_at_call 85;refine HSP.out.mono ?_;rintro r w3 ⟨rfl,hw3⟩;rw[hw3];clear hw3)
 rw[←HW.out]
 go_upto_region 6 with (go_at_call 86;refine HNX.out.mono ?_;rintro r w1 ⟨c,rfl,hsc,hcw,hR1,ht1⟩;have HSC:=hid hsc;have HCW':=hid hcw;have HR1w:=hid hR1;have HT1:=hid ht1;clear hsc hcw hR1 ht1)
 clear c4
 have HCW:Hid (w.heap.size+5≤c):=hid (by have:=HCW'.out;have:=HZW.out;omega)
 have H5:Hid (w1.drew.heap[w.heap.size+4]?=some (.cells #[.pointer (some ⟨w.heap.size+2,1,none⟩)] 51)):=hid (HT1.out.keep G5w.out (by omega))
 have HR1:Hid (w1.drew.heap[w.heap.size+2]?=some (rdO (.slice (some ⟨w.heap.size+1,0+1,none⟩) (2+1) 3) 0 0 0 none 0 0)):=hid HR1w.out
 have HSCd:Hid (w1.drew.heap[c]?=some (scO ⟨#[49,32,51,32,53,48]⟩)):=hid HSC.out
 have HND:Hid (NB w1.drew w.heap.size):=hid ((HNB.out.turn HT1.out (fun k hk=>by omega)).below (Below.refl _ w1).drew)
 have HN1:=hid (iF ⟨#[49,32,51,32,53,48]⟩ ⟨#[49]⟩ ⟨#[51,32,53,48]⟩ (by simp[ByteArray.size]) cut1 1 (by simp[ByteArray.size]) (by kernel_rfl) (by kernel_rfl) c w1.drew HSCd.out HND.out.num (fun w' ht=>(HND.out.turn ht (fun k hk=>by have:=HCW.out;omega)).num))
 have N2:=hid (fun (w2:World) (h2:w2.heap[c]?=some (scO ⟨#[51,32,53,48]⟩)) (ht:Turn (fun k=>k=c) w1.drew w2)=>iF ⟨#[51,32,53,48]⟩ ⟨#[51]⟩ ⟨#[53,48]⟩ (by simp[ByteArray.size]) cut2 3 (by simp[ByteArray.size]) (by kernel_rfl) (by kernel_rfl) c w2 h2 (HND.out.turn ht (fun k hk=>by have:=HCW.out;omega)).num (fun w' ht'=>((HND.out.turn ht (fun k hk=>by have:=HCW.out;omega)).turn ht' (fun k hk=>by have:=HCW.out;omega)).num))
 have N3:=hid (fun (w2:World) (h2:w2.heap[c]?=some (scO ⟨#[53,48]⟩)) (ht:Turn (fun k=>k=c) w1.drew w2)=>iF ⟨#[53,48]⟩ ⟨#[53,48]⟩ ⟨#[]⟩ (by simp[ByteArray.size]) cut3 50 (by simp[ByteArray.size]) (by kernel_rfl) (by kernel_rfl) c w2 h2 (HND.out.turn ht (fun k hk=>by have:=HCW.out;omega)).num (fun w' ht'=>((HND.out.turn ht (fun k hk=>by have:=HCW.out;omega)).turn ht' (fun k hk=>by have:=HCW.out;omega)).num))
 have HC6:=hid (fun (w':World) (h:w'.heap[w.heap.size+4]?=some (.cells #[.pointer (some ⟨w.heap.size+2,1,none⟩)] 51))=>(show w'.cell? ⟨w.heap.size+4,0,none⟩=some (.pointer (some ⟨w.heap.size+2,1,none⟩)) from aA h 0))
 refine wp_region_held_drew (S:=(fun w'=>w'.heap[w.heap.size+4]?=some (.cells #[.pointer (some ⟨w.heap.size+2,1,none⟩)] 51))) (by kernel_rfl) (H5.out) (fun hS=>?_)
 refine tkQ 0 (v:=?_) ?_ hS ?_;rotate_left;· intro w' hw';have hcells:=HC6.out w' hw';go_simp;(try rfl)
 simp only[Act.put,pq]
 refine tkQ 1 (v:=?_) ?_ hS ?_;rotate_left;· intro w' hw';have hcells:=HC6.out w' hw';go_simp;(try rfl)
 simp only[Act.put,pq]
 refine tkQ 2 (v:=?_) ?_ hS ?_;rotate_left;· intro w' hw';have hcells:=HC6.out w' hw';go_simp;(try rfl)
 simp only[Act.put,pq]
 refine tkQ 3 (v:=?_) ?_ hS ?_;rotate_left;· intro w' hw';have hcells:=HC6.out w' hw';go_simp;(try rfl)
 simp only[Act.put,pq]
 refine tkQ 5 (v:=?_) ?_ hS ?_;rotate_left;· intro w' hw';have hcells:=HC6.out w' hw';go_simp;(try rfl)
 simp only[Act.put,pq]
 refine tkQ 7 (v:=?_) ?_ hS ?_;rotate_left;· intro w' hw';have hcells:=HC6.out w' hw';go_simp;(try rfl)
 simp only[Act.put,pq]
 refine ry [4] ?_
 refine arQ fun K hK=>?_
 go_simp;go_at_call 87;refine HN1.out.mono ?_
 rintro r w21 ⟨rfl,h21,ht21⟩
 have HT21:=hid ht21
 have HN2:=hid (N2.out w21 h21 ht21)
 refine hK.out _ _ (ht21.keep hS (by have:=HCW.out;omega)) (fun hS=>?_)
 clear hK K
 (try simp only[Act.put,pq])
 refine ry [6] ?_
 refine arQ fun K hK=>?_
 go_simp;go_at_call 87;refine HN2.out.mono ?_
 rintro r w22 ⟨rfl,h22,ht22⟩
 have HT22:=hid (HT21.out.trans ht22)
 have HN3:=hid (N3.out w22 h22 HT22.out)
 refine hK.out _ _ (ht22.keep hS (by have:=HCW.out;omega)) (fun hS=>?_)
 clear hK K
 (try simp only[Act.put,pq])
 refine ry [8] ?_
 refine arQ fun K hK=>?_
 go_simp;go_at_call 87;refine HN3.out.mono ?_
 rintro r w23 ⟨rfl,h23,ht23⟩
 have HT23:=hid (HT22.out.trans ht23)
 have HC23:=hid h23
 have HR23:=hid (HT23.out.keep HR1.out (by have:=HCW.out;omega))
 refine hK.out _ _ (ht23.keep hS (by have:=HCW.out;omega)) (fun hS=>?_)
 clear hK K
 (try simp only[Act.put,pq])
 refine tkQ 9 (v:=?_) ?_ hS ?_;rotate_left;· intro w' hw';have hcells:=HC6.out w' hw';go_simp;(try rfl)
 simp only[Act.put,pq]
 refine tkQ 10 (v:=?_) ?_ hS ?_;rotate_left;· intro w' hw';have hcells:=HC6.out w' hw';go_simp;(try rfl)
 simp only[Act.put,pq]
 refine ry [11] ?_
 refine arQ fun K hK=>?_
 have q11:=aE HR23.out 1;have p11:=aA HR23.out 1;(try dsimp only at p11)
 go_simp
 have HR24:=hid (rd_set1 1 HR23.out)
 refine hK.out _ _ (aJ _ _ hS (by simp)) (fun hS=>?_)
 clear hK K
 (try simp only[Act.put,pq])
 refine tkQ 12 (v:=?_) ?_ hS ?_;rotate_left;· intro w' hw';have hcells:=HC6.out w' hw';go_simp;(try rfl)
 simp only[Act.put,pq]
 refine tkQ 13 (v:=?_) ?_ hS ?_;rotate_left;· intro w' hw';have hcells:=HC6.out w' hw';go_simp;(try rfl)
 simp only[Act.put,pq]
 refine ry [14] ?_
 refine arQ fun K hK=>?_
 have q14:=aE HR24.out 2;have p14:=aA HR24.out 2;(try dsimp only at p14)
 go_simp
 have HR25:=hid (rd_set2 3 HR24.out)
 refine hK.out _ _ (aJ _ _ hS (by simp)) (fun hS=>?_)
 clear hK K
 (try simp only[Act.put,pq])
 refine tkQ 15 (v:=?_) ?_ hS ?_;rotate_left;· intro w' hw';have hcells:=HC6.out w' hw';go_simp;(try rfl)
 simp only[Act.put,pq]
 refine tkQ 16 (v:=?_) ?_ hS ?_;rotate_left;· intro w' hw';have hcells:=HC6.out w' hw';go_simp;(try rfl)
 simp only[Act.put,pq]
 refine ry [17] ?_
 refine arQ fun K hK=>?_
 have q17:=aE HR25.out 3;have p17:=aA HR25.out 3;(try dsimp only at p17)
 go_simp
 have HR26:=hid (rd_set3 50 HR25.out)
 refine hK.out _ _ (aJ _ _ hS (by simp)) (fun hS=>?_)
 clear hK K
 (try simp only[Act.put,pq])
 refine wpAnyH_done (by kernel_rfl) ?_ _
 (try dsimp only)
 skip
 have hT26:Turn (fun k=>k=w.heap.size+2∨w.heap.size+5≤k) W (((w23.setCell ⟨w.heap.size+2,1,none⟩ (.int .i64 1)).setCell ⟨w.heap.size+2,2,none⟩ (.int .i64 3)).setCell ⟨w.heap.size+2,3,none⟩ (.int .i64 50)):=(((((HT1.out.mono fun k hk=>.inl hk).trans (Turn.of_below (Below.refl _ w1).drew)).trans (HT23.out.mono fun k hk=>.inr (by have:=HCW.out;omega))).trans (Turn.setCell ⟨w.heap.size+2,1,none⟩ _ (.inl rfl))).trans (Turn.setCell ⟨w.heap.size+2,2,none⟩ _ (.inl rfl))).trans (Turn.setCell ⟨w.heap.size+2,3,none⟩ _ (.inl rfl))
 obtain⟨W7,hW7⟩:∃W7,W7=(((w23.setCell ⟨w.heap.size+2,1,none⟩ (.int .i64 1)).setCell ⟨w.heap.size+2,2,none⟩ (.int .i64 3)).setCell ⟨w.heap.size+2,3,none⟩ (.int .i64 50)):=⟨_,rfl⟩
 rw[←hW7] at hT26 ⊢
 have GR:Hid (W7.drew.heap[w.heap.size+2]?=some (rdO (.slice (some ⟨w.heap.size+1,0+1,none⟩) (2+1) 3) 1 3 50 none 0 0)):=hid (by rw[hW7];exact HR26.out)
 have GC:Hid (W7.drew.heap[c]?=some (scO ⟨#[]⟩)):=hid (by rw[hW7];exact aJ _ _ (aJ _ _ (aJ _ _ HC23.out (by have:=HCW.out;simp;omega)) (by have:=HCW.out;simp;omega)) (by have:=HCW.out;simp;omega))
 have G4:Hid (W7.drew.heap[w.heap.size+3]?=some (.cells #[.pointer (some ⟨w.heap.size+2,0,none⟩)] 150)):=hid (hT26.keep G4w.out (by omega))
 have HT26:=hid hT26
 clear hT26 hW7
 have HC7:=hid (fun (w':World) (h:w'.heap[w.heap.size+3]?=some (.cells #[.pointer (some ⟨w.heap.size+2,0,none⟩)] 150)∧w'.heap[c]?=some (scO ⟨#[]⟩))=>(show w'.cell? ⟨w.heap.size+3,0,none⟩=some (.pointer (some ⟨w.heap.size+2,0,none⟩))∧w'.cell? ⟨c,1,none⟩=some (.bool false) from⟨aA h.1 0,aA h.2 1⟩))
 go_upto_region 7 with (fail)
 refine wp_region_held_drew (S:=(fun w'=>w'.heap[w.heap.size+3]?=some (.cells #[.pointer (some ⟨w.heap.size+2,0,none⟩)] 150)∧w'.heap[c]?=some (scO ⟨#[]⟩))) (by kernel_rfl) (⟨G4.out,GC.out⟩) (fun hS=>?_)
 refine tkQ 0 (v:=?_) ?_ hS ?_;rotate_left;· intro w' hw';have hcells:=HC7.out w' hw';go_simp;(try rfl)
 simp only[Act.put,pq]
 refine tkQ 1 (v:=?_) ?_ hS ?_;rotate_left;· intro w' hw';have hcells:=HC7.out w' hw';go_simp;(try rfl)
 simp only[Act.put,pq]
 refine tkQ 2 (v:=?_) ?_ hS ?_;rotate_left;· intro w' hw';have hcells:=HC7.out w' hw';go_simp;(try rfl)
 simp only[Act.put,pq]
 refine tkQ 3 (v:=?_) ?_ hS ?_;rotate_left;· intro w' hw';have hcells:=HC7.out w' hw';go_simp;(try rfl)
 simp only[Act.put,pq]
 refine tkQ 4 (v:=?_) ?_ hS ?_;rotate_left;· intro w' hw';have hcells:=HC7.out w' hw';go_simp;(try rfl)
 simp only[Act.put,pq]
 refine tkQ 5 (v:=?_) ?_ hS ?_;rotate_left;· intro w' hw';have hcells:=HC7.out w' hw';go_simp;(try rfl)
 simp only[Act.put,pq]
 refine tkQ 6 (v:=?_) ?_ hS ?_;rotate_left;· intro w' hw';have hcells:=HC7.out w' hw';go_simp;(try rfl)
 simp only[Act.put,pq]
 refine ry [7] ?_
 refine arQ fun K hK=>?_
 have q7:=aE GR.out 10;have p7:=aA GR.out 10;(try dsimp only at p7)
 go_simp
 refine hK.out _ _ (⟨aJ _ _ hS.1 (by simp),aJ _ _ hS.2 (by have:=HCW.out;simp;omega)⟩) (fun hS=>?_)
 clear hK K
 (try simp only[Act.put,pq])
 refine wpAnyH_done (by kernel_rfl) ?_ _
 (try dsimp only)
 clear hS
 obtain⟨W8,hW8⟩:∃W8,W8=(W7.setCell ⟨w.heap.size+2,10,none⟩ (.bool false)).drew:=⟨_,rfl⟩
 rw[←hW8]
 have ht8:Turn (fun k=>k=w.heap.size+2∨w.heap.size+5≤k) W W8:=by rw[hW8];exact(HT26.out.trans (Turn.setCell ⟨w.heap.size+2,10,none⟩ _ (.inl rfl))).trans (Turn.of_below (Below.refl _ _).drew)
 have gR8:W8.heap[w.heap.size+2]?=some (rdO (.slice (some ⟨w.heap.size+1,0+1,none⟩) (2+1) 3) 1 3 50 none 0 0):=by rw[hW8];exact aC7 GR.out
 have c4:=aA (ht8.keep G4w.out (by omega)) 0
 (try dsimp only at c4)
 have hb8:Below w.heap.size w W8:=HBW.out.trans (ht8.below (fun k hk=>by omega) (by have:=HZW.out;omega))
 have HT8:=hid ht8
 have GR8:=hid gR8
 have HB8:=hid hb8
 clear hW8 ht8 gR8 hb8
 go_wp2
 clear c4
 obtain⟨WF,hWF⟩:∃WF,WF=W8.alloc (.cells #[.func (.func 88) #[.pointer (some ⟨w.heap.size+2,0,none⟩)] #[],.func (.func 89) #[] #[.pointer (some ⟨w.heap.size+3,0,none⟩),.pointer (some ⟨w.heap.size+4,0,none⟩)],.func (.func 92) #[] #[.pointer (some ⟨w.heap.size+3,0,none⟩),.pointer (some ⟨w.heap.size+4,0,none⟩)],.func (.func 93) #[] #[.pointer (some ⟨w.heap.size+3,0,none⟩),.pointer (some ⟨w.heap.size+4,0,none⟩)],.func (.func 97) #[] #[.pointer (some ⟨w.heap.size+3,0,none⟩),.pointer (some ⟨w.heap.size+4,0,none⟩)],.func (.func 101) #[.pointer (some ⟨w.heap.size+2,0,none⟩)] #[]] 1):=⟨_,rfl⟩
 obtain⟨fb,hfb⟩:∃fb,fb=W8.heap.size:=⟨_,rfl⟩
 rw[←hWF,←hfb]
 have hbF:Below W8.heap.size W8 WF:=by rw[hWF];exact(Below.refl _ _).alloc lr _
 have HF0:Hid (WF.heap[fb]?=some (.cells #[.func (.func 88) #[.pointer (some ⟨w.heap.size+2,0,none⟩)] #[],.func (.func 89) #[] #[.pointer (some ⟨w.heap.size+3,0,none⟩),.pointer (some ⟨w.heap.size+4,0,none⟩)],.func (.func 92) #[] #[.pointer (some ⟨w.heap.size+3,0,none⟩),.pointer (some ⟨w.heap.size+4,0,none⟩)],.func (.func 93) #[] #[.pointer (some ⟨w.heap.size+3,0,none⟩),.pointer (some ⟨w.heap.size+4,0,none⟩)],.func (.func 97) #[] #[.pointer (some ⟨w.heap.size+3,0,none⟩),.pointer (some ⟨w.heap.size+4,0,none⟩)],.func (.func 101) #[.pointer (some ⟨w.heap.size+2,0,none⟩)] #[]] 1)):=hid (by rw[hWF,hfb];exact heap_alloc_new W8 _)
 have HFB:Hid (w.heap.size+5≤fb):=hid (by rw[hfb];have:=HT8.out.size;have:=HZW.out;omega)
 have GR0:=hid (aB hbF GR8.out)
 have GL0:=hid (aB hbF (HT8.out.keep GL.out (by omega)))
 have G40:=hid (aB hbF (HT8.out.keep G4w.out (by omega)))
 have G50:=hid (aB hbF (HT8.out.keep G5w.out (by omega)))
 have GZ0:=hid (aB hbF (HT8.out.keep GZ.out (by omega)))
 have GB0:=hid (HB8.out.trans (hbF.mono HB8.out.size))
 clear hWF hfb hbF
 have hen0:∀args w,(callFunc 88 args).run Tryz.prog w=.ok (.enter 88 args) w:=enters_of Tryz.func88 (by kernel_rfl) rfl
 have hen1:∀args w,(callFunc 89 args).run Tryz.prog w=.ok (.enter 89 args) w:=enters_of Tryz.func89 (by kernel_rfl) rfl
 have hen2:∀args w,(callFunc 92 args).run Tryz.prog w=.ok (.enter 92 args) w:=enters_of Tryz.func92 (by kernel_rfl) rfl
 have hen3:∀args w,(callFunc 93 args).run Tryz.prog w=.ok (.enter 93 args) w:=enters_of Tryz.func93 (by kernel_rfl) rfl
 have hen4:∀args w,(callFunc 97 args).run Tryz.prog w=.ok (.enter 97 args) w:=enters_of Tryz.func97 (by kernel_rfl) rfl
 have hen5:∀args w,(callFunc 101 args).run Tryz.prog w=.ok (.enter 101 args) w:=enters_of Tryz.func101 (by kernel_rfl) rfl
 refine wp_loop_rounds 7 ?_
 rw[rounds_succ]
 have f0:=aA HF0.out 0
 (try dsimp only at f0)
 go_wp2_with (go_at_call 88;refine(zJ ⟨#[97,114,114,105,118,101,100,32,105,110,32,51]⟩ (by kernel_rfl) (w.heap.size+2) (w.heap.size+1) (0+1) 2 3 1 3 50 none 0 0 WF GR0.out (by rw[aA GL0.out];rfl) (by decide)).mono ?_;rintro r w80 ⟨rfl,hb80⟩;have HB80:=hid hb80;clear hb80)
 clear f0
 have HF1:=hid (aB HB80.out HF0.out)
 have GR1:=hid (aB HB80.out GR0.out)
 have GL1:=hid (aB HB80.out GL0.out)
 have G41:=hid (aB HB80.out G40.out)
 have G51:=hid (aB HB80.out G50.out)
 have GZ1:=hid (aB HB80.out GZ0.out)
 have GB1:=hid (GB0.out.trans (HB80.out.mono GB0.out.size))
 have HD1:=hid (aDc w.heap.size ⟨#[97,114,114,105,118,101,100,32,105,110,32,51]⟩ ⟨#[101,110,100]⟩ ⟨#[105,110,32,51]⟩ ⟨#[105,110]⟩ ⟨#[51]⟩ ⟨#[51]⟩ ⟨#[]⟩ (by kernel_rfl) (by kernel_rfl) (by kernel_rfl) (by simp[ByteArray.size]) cut4 (by simp[ByteArray.size]) cut5 (by simp[ByteArray.size]) 3 (by kernel_rfl) (by kernel_rfl) (w.heap.size+2) (w.heap.size+1) (0+1) 1 2 (by decide) 1 3 50 _ _ w80 GL1.out rfl rfl GR1.out ⟨w,HT0.out,HN0.out,GB1.out,Nat.le_refl _⟩ (by omega) (by omega) (w.heap.size+3) (w.heap.size+4) G41.out G51.out ⟨by omega,by omega⟩)
 rw[rounds_succ]
 have f1:=aA HF1.out 1
 (try dsimp only at f1)
 go_wp2_with (go_at_call 89;refine HD1.out.mono ?_;rintro r w81 ⟨rfl,g,gc,hcg,hgw,hgc,hR81,ht81⟩;have HCG81:=hid hcg;have HGW:=hid hgw;have HT81:=hid ht81;have GR2:=hid hR81;clear hcg hgw hgc hR81 ht81)
 clear f1
 have HF2:=hid (HT81.out.keep HF1.out (by have:=HFB.out;omega))
 have GL2:=hid (HT81.out.keep GL1.out (by omega))
 have G42:=hid (HT81.out.keep G41.out (by omega))
 have G52:=hid (HT81.out.keep G51.out (by omega))
 have GZ2:=hid (HT81.out.keep GZ1.out (by omega))
 have GB2:=hid (GB1.out.trans (HT81.out.below (fun k hk=>by omega) GB1.out.size))
 rw[rounds_succ]
 have f2:=aA HF2.out 2
 (try dsimp only at f2)
 go_wp2_with (go_at_call 92;refine(dec2_no ⟨#[101,110,100]⟩ (by kernel_rfl) (w.heap.size+2) (w.heap.size+1) (0+1+1) 1 2 1 3 50 _ 1 gc _ GR2.out (by rw[aA GL2.out];rfl) (by decide) _ _ G42.out G52.out).mono ?_;rintro r w82 ⟨rfl,hb_w82⟩;have HBw82:=hid hb_w82;clear hb_w82)
 clear f2
 have HF3:=hid (aB HBw82.out HF2.out)
 have GR3:=hid (aB HBw82.out GR2.out)
 have GL3:=hid (aB HBw82.out GL2.out)
 have G43:=hid (aB HBw82.out G42.out)
 have G53:=hid (aB HBw82.out G52.out)
 have GZ3:=hid (aB HBw82.out GZ2.out)
 have GB3:=hid (GB2.out.trans (HBw82.out.mono GB2.out.size))
 rw[rounds_succ]
 have f3:=aA HF3.out 3
 (try dsimp only at f3)
 go_wp2_with (go_at_call 93;refine(dec3_no ⟨#[101,110,100]⟩ (by kernel_rfl) (w.heap.size+2) (w.heap.size+1) (0+1+1) 1 2 1 3 50 _ 1 gc _ GR3.out (by rw[aA GL3.out];rfl) (by decide) _ _ G43.out G53.out).mono ?_;rintro r w83 ⟨rfl,hb_w83⟩;have HBw83:=hid hb_w83;clear hb_w83)
 clear f3
 have HF4:=hid (aB HBw83.out HF3.out)
 have GR4:=hid (aB HBw83.out GR3.out)
 have GL4:=hid (aB HBw83.out GL3.out)
 have G44:=hid (aB HBw83.out G43.out)
 have G54:=hid (aB HBw83.out G53.out)
 have GZ4:=hid (aB HBw83.out GZ3.out)
 have GB4:=hid (GB3.out.trans (HBw83.out.mono GB3.out.size))
 rw[rounds_succ]
 have f4:=aA HF4.out 4
 (try dsimp only at f4)
 go_wp2_with (go_at_call 97;refine(dec4_no ⟨#[101,110,100]⟩ (by kernel_rfl) (w.heap.size+2) (w.heap.size+1) (0+1+1) 1 2 1 3 50 _ 1 gc _ GR4.out (by rw[aA GL4.out];rfl) (by decide) _ _ G44.out G54.out).mono ?_;rintro r w84 ⟨rfl,hb_w84⟩;have HBw84:=hid hb_w84;clear hb_w84)
 clear f4
 have HF5:=hid (aB HBw84.out HF4.out)
 have GR5:=hid (aB HBw84.out GR4.out)
 have GL5:=hid (aB HBw84.out GL4.out)
 have G45:=hid (aB HBw84.out G44.out)
 have G55:=hid (aB HBw84.out G54.out)
 have GZ5:=hid (aB HBw84.out GZ4.out)
 have GB5:=hid (GB4.out.trans (HBw84.out.mono GB4.out.size))
 rw[rounds_succ]
 have f5:=aA HF5.out 5
 (try dsimp only at f5)
 go_wp2_with (go_at_call 101;refine(effs_no ⟨#[101,110,100]⟩ (by kernel_rfl) (w.heap.size+2) (w.heap.size+1) (0+1+1) 1 2 1 3 50 _ 1 gc _ GR5.out (by rw[aA GL5.out];rfl) (by decide) (by kernel_rfl)).mono ?_;rintro r w85 ⟨rfl,hb_w85⟩;have HBw85:=hid hb_w85;clear hb_w85)
 clear f5
 have HF6:=hid (aB HBw85.out HF5.out)
 have GR6:=hid (aB HBw85.out GR5.out)
 have GL6:=hid (aB HBw85.out GL5.out)
 have G46:=hid (aB HBw85.out G45.out)
 have G56:=hid (aB HBw85.out G55.out)
 have GZ6:=hid (aB HBw85.out GZ5.out)
 have GB6:=hid (GB5.out.trans (HBw85.out.mono GB5.out.size))
 have HCGE:=hid ((((HCG81.out.ext HBw82.out).ext HBw83.out).ext HBw84.out).ext HBw85.out)
 have HEN:=hid (qN g gc w85 HCGE.out (HT0.out.below GB6.out))
 rw[←HTX.out] at HEN
 rw[rounds_succ]
 have c4:=aA G46.out 0
 have r1:=aA GR6.out 1
 have r2:=aA GR6.out 2
 have r3:=aA GR6.out 3
 have r4:=aA GR6.out 4
 have r5:=aA GR6.out 5
 have r6:=aA GR6.out 6
 have r7:=aA GR6.out 7
 have r8:=aA GR6.out 8
 have r9:=aA GR6.out 9
 (try dsimp only at c4 r1 r2 r3 r4 r5 r6 r7 r8 r9)
 go_upto_region 14 with (go_at_call 21;refine HEN.out.mono ?_;rintro r w90 ⟨rfl,hb90⟩;have HB90:=hid hb90;clear hb90)
 clear c4 r1 r2 r3 r4 r5 r6 r7 r8 r9
 have HR90:=hid (aB HB90.out GR6.out)
 have HZ90:=hid (aB HB90.out GZ6.out)
 have c4:=aA (aB HB90.out G46.out) 0
 have r1:=aA HR90.out 1
 have r2:=aA HR90.out 2
 have r3:=aA HR90.out 3
 have r4:=aA HR90.out 4
 have r5:=aA HR90.out 5
 have r6:=aA HR90.out 6
 have r7:=aA HR90.out 7
 have r8:=aA HR90.out 8
 have r9:=aA HR90.out 9
 have r10:=aA HR90.out 10
 (try dsimp only at c4 r1 r2 r3 r4 r5 r6 r7 r8 r9 r10)
 have q1:(tx.toList==tx.toList)=true:=beq_self_eq_true _
 have q2:(tx.toList != tx.toList)=false:=by simp[bne]
 go_upto_region 16 with (fail)
 have zf0:=aE HZ90.out 0
 have zc0:=aA HZ90.out 0
 have zf1:=aE HZ90.out 1
 have zc1:=aA HZ90.out 1
 have zf2:=aE HZ90.out 2
 have zc2:=aA HZ90.out 2
 have zf3:=aE HZ90.out 3
 have zc3:=aA HZ90.out 3
 have zf4:=aE HZ90.out 4
 have zc4:=aA HZ90.out 4
 have zf5:=aE HZ90.out 5
 have zc5:=aA HZ90.out 5
 have zf6:=aE HZ90.out 6
 have zc6:=aA HZ90.out 6
 have zf7:=aE HZ90.out 7
 have zc7:=aA HZ90.out 7
 have zf8:=aE HZ90.out 8
 have zc8:=aA HZ90.out 8
 (try dsimp only at zc0 zc1 zc2 zc3 zc4 zc5 zc6 zc7 zc8)
 go_wp2
 clear c4 r1 r2 r3 r4 r5 r6 r7 r8 r9 r10 q1 q2 zf0 zc0 zf1 zc1 zf2 zc2 zf3 zc3 zf4 zc4 zf5 zc5 zf6 zc6 zf7 zc7 zf8 zc8
 have hbb:Below w.heap.size w w90:=GB6.out.trans (HB90.out.mono GB6.out.size)
 have hF:=(aD (o:=8) (.slice none 0 0) (aD (o:=7) (.slice none 0 0) (aD (o:=6) (.slice none 0 0) (aD (o:=5) (.slice none 0 0) (aD (o:=4) (.slice (some ⟨g,0,none⟩) 1 gc) (aD (o:=3) (.slice none 0 0) (aD (o:=2) (.int .i64 50) (aD (o:=1) (.int .i64 3) (aD (o:=0) (.int .i64 1) HZ90.out)))))))))
 simp only[List.setIfInBounds_toArray,List.set_cons_zero,List.set_cons_succ] at hF
 have hgw:g≠w.heap.size:=by have:=HGW.out;have h1:=GB1.out.size;have h2:=HFB.out;have h3:=bT HF1.out;omega
 have hcF:CntAt (((((((((w90.setCell ⟨w.heap.size,0,none⟩ (.int .i64 1)).setCell ⟨w.heap.size,1,none⟩ (.int .i64 3)).setCell ⟨w.heap.size,2,none⟩ (.int .i64 50)).setCell ⟨w.heap.size,3,none⟩ (.slice none 0 0)).setCell ⟨w.heap.size,4,none⟩ (.slice (some ⟨g,0,none⟩) 1 gc)).setCell ⟨w.heap.size,5,none⟩ (.slice none 0 0)).setCell ⟨w.heap.size,6,none⟩ (.slice none 0 0)).setCell ⟨w.heap.size,7,none⟩ (.slice none 0 0)).setCell ⟨w.heap.size,8,none⟩ (.slice none 0 0)) g ⟨#[105,110]⟩ 3:=(HCGE.out.ext HB90.out).same fun o ho=>aJ _ _ (aJ _ _ (aJ _ _ (aJ _ _ (aJ _ _ (aJ _ _ (aJ _ _ (aJ _ _ (aJ _ _ (ho) (by exact hgw)) (by exact hgw)) (by exact hgw)) (by exact hgw)) (by exact hgw)) (by exact hgw)) (by exact hgw)) (by exact hgw)) (by exact hgw)
 have hbF:Below w.heap.size w (((((((((w90.setCell ⟨w.heap.size,0,none⟩ (.int .i64 1)).setCell ⟨w.heap.size,1,none⟩ (.int .i64 3)).setCell ⟨w.heap.size,2,none⟩ (.int .i64 50)).setCell ⟨w.heap.size,3,none⟩ (.slice none 0 0)).setCell ⟨w.heap.size,4,none⟩ (.slice (some ⟨g,0,none⟩) 1 gc)).setCell ⟨w.heap.size,5,none⟩ (.slice none 0 0)).setCell ⟨w.heap.size,6,none⟩ (.slice none 0 0)).setCell ⟨w.heap.size,7,none⟩ (.slice none 0 0)).setCell ⟨w.heap.size,8,none⟩ (.slice none 0 0)):=(((((((((hbb.setCell (p:=⟨w.heap.size,0,none⟩) lr _).setCell (p:=⟨w.heap.size,1,none⟩) lr _).setCell (p:=⟨w.heap.size,2,none⟩) lr _).setCell (p:=⟨w.heap.size,3,none⟩) lr _).setCell (p:=⟨w.heap.size,4,none⟩) lr _).setCell (p:=⟨w.heap.size,5,none⟩) lr _).setCell (p:=⟨w.heap.size,6,none⟩) lr _).setCell (p:=⟨w.heap.size,7,none⟩) lr _).setCell (p:=⟨w.heap.size,8,none⟩) lr _)
 obtain⟨Wf,hWf⟩:∃Wf,Wf=(((((((((w90.setCell ⟨w.heap.size,0,none⟩ (.int .i64 1)).setCell ⟨w.heap.size,1,none⟩ (.int .i64 3)).setCell ⟨w.heap.size,2,none⟩ (.int .i64 50)).setCell ⟨w.heap.size,3,none⟩ (.slice none 0 0)).setCell ⟨w.heap.size,4,none⟩ (.slice (some ⟨g,0,none⟩) 1 gc)).setCell ⟨w.heap.size,5,none⟩ (.slice none 0 0)).setCell ⟨w.heap.size,6,none⟩ (.slice none 0 0)).setCell ⟨w.heap.size,7,none⟩ (.slice none 0 0)).setCell ⟨w.heap.size,8,none⟩ (.slice none 0 0)):=⟨_,rfl⟩
 rw[←hWf] at hF hcF hbF ⊢
 exact bodyPost_ret (v:=.tuple #[.agg #[.int .i64 1,.int .i64 3,.int .i64 50,.slice none 0 0,.slice (some ⟨g,0,none⟩) 1 gc,.slice none 0 0,.slice none 0 0,.slice none 0 0,.slice none 0 0],.int .i64 0]) (by simp[results,Tryz.results23,go_sem,aA hF]) rfl ⟨g,gc,rfl,hcF,hbF⟩
end Go.Proofs.YteladbdfiannjaaGreatDoor
