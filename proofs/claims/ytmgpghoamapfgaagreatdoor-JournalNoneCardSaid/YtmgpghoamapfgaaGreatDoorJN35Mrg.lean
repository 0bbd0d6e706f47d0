/-
  device.List: the names of the device's files in order. Conditions: the device's cells stand in its block; few files.
-/
import Derived.Test.YtmgpghoamapfgaaGreatDoorJN34Mrg
import Derived.Test.YtmgpghoamapfgaaGreatDoorJN32Mrg
import Derived.Deep.Onto
namespace Go.Proofs.YtmgpghoamapfgaaGreatDoor
set_option linter.unusedVariables false
set_option maxRecDepth 100000
set_option maxHeartbeats 16000000
set_option linter.unusedSimpArgs false
section
open Go Go.RowKit Go.Shelf Go.Lib
theorem fKeys_call (b:Nat) (w:World):Calls Tryz.prog 181 #[.map (some b)] w fun e w' =>
 e=.returned (.func (.func 249) #[] #[.pointer (some ⟨w.heap.size,0,none⟩)])∧w'=w.alloc (.cells #[.map (some b)] 109) :=
 callsIn_wide.1 (AnyZ.keys_in Tryz.keysF Fence.wide 6 trivial rfl (some b) w)
theorem fKeys_stops (n:Nat) (hn:1≤n) (Bm b nn:Nat) (D:DataW Value) {R:Value→Option (DataW Value × List MemPlace)} (w:World) (hBm:Bm<w.heap.size) (hm:w.cell? ⟨Bm,0,none⟩=some (.map (some b))) (hown:w.ownsMap Tryz.prog 9 R b nn D) :
 SeqStopsK Fence.wide n Tryz.prog 249 #[.pointer (some ⟨Bm,0,none⟩)] (fun x:List UInt8 => #[encStr x]) KeepsWalks (fun ss=>ss.Perm (strKeys D)∧∀x,x∈ss ↔ Maps.has D (.string x)=true) (fun pre=>pre.Nodup∧∀x∈pre,Maps.has D (.string x)=true) (Maps.size D) w :=
 AnyZ.keys_stops (ρ:=Tryz.keysF_ren) { Tryz.keysF with } Fence.wide n trivial rfl hn Bm b nn D w hBm hm hown
theorem fKeys_enters:∀args w,(callFunc 249 args).run Tryz.prog w=.ok (.enter 249 args) w :=
 enters_of Tryz.func249 (by kernel_rfl) rfl
def NamesP (w w':World) (D:DataW Value) (p:Option Addr) (n c:Nat):Prop:=∃ss:List (List UInt8),n=ss.length∧ss.Perm (strKeys D)∧w'.ownsRow w.heap.size 9 1 (.slice p n c) n (ss.map encStr)∧Below w.heap.size w w'
theorem ownsRow_shape {w:World} {B n:Nat} {e:TypeId} {v:Value} {l:List Value} (h:w.ownsRow B e 1 v n l):∃p c,v=.slice p n c:=by
 rcases h.2 with ⟨h1,h2⟩ | ⟨g,cap,cur,h1,_⟩
 ·exact⟨none,0,by rw[h1,h2]⟩
 ·exact⟨_,_,h1⟩
theorem sortedK_call (Bm b nn:Nat) (D:DataW Value) (hsz:Maps.size D≤1000) (hk:(strKeys D).length≤1000) (w:World) (hBm:Bm<w.heap.size) (hm:w.cell? ⟨Bm,0,none⟩=some (.map (some b))) (hown:w.ownsMap Tryz.prog 9 rdFile b nn D) :
 Calls Tryz.prog 180 #[.func (.func 249) #[] #[.pointer (some ⟨Bm,0,none⟩)]] w fun e w'=>∃p n c,e=.returned (.slice p n c)∧NamesP w w' D p n c:=by
 have HC:=hid (callsIn_wide.1 (collect_call 6 (by decide) w _ _ fKeys_enters _ _ (Maps.size D) (by omega) (fKeys_stops 4 (by decide) Bm b nn D w hBm hm hown)))
 clear hm hown hBm
 go_enter Tryz.func180,Tryz.ntmps180
 go_upto_region 2 with (go_at_call 247;refine HC.out.mono ?_;rintro e w1 ⟨v,ss,rfl,hS,ho,hb⟩;obtain⟨p,c,rfl⟩:=ownsRow_shape ho;have HO:=hid ho;have HB:=hid hb;have HSP:=hid hS.1;clear ho hb hS)
 have HS:=hid (srtS_call w.heap.size ss.length _ ss w1 HO.out (by rw[HSP.out.length_eq];omega))
 go_wp2_with (go_at_call 248;refine HS.out.mono ?_;rintro e w2 ⟨rfl,ho2,hg2⟩)
 go_ret
 have hl:(srtB ss).length=ss.length:=(List.mergeSort_perm _ _).length_eq
 exact⟨p,ss.length,c,rfl,srtB ss,hl.symm,(List.mergeSort_perm _ _).trans HSP.out,ho2,HB.out.grown hg2 HB.out.size (fun k hk=>by
  rcases HO.out.2 with ⟨h1,_⟩ | ⟨g,cap,cur,h1,h3,_⟩
  ·simp only[Value.slice.injEq] at h1;rw[h1.1] at hk;cases hk
  ·simp only[Value.slice.injEq] at h1;rw[h1.1] at hk;cases hk;exact h3)⟩
theorem dList_call (d m nn:Nat) (left:Int) (D:DataW Value) (hsz:Maps.size D≤1000) (hk:(strKeys D).length≤1000) (w:World) (hd:w.heap[d]?=some (devO m left)) (hm:w.ownsMap Tryz.prog 9 rdFile m nn D) :
 Calls Tryz.prog 104 #[.pointer (some ⟨d,0,none⟩)] w fun e w'=>∃p n c,e=.returned (.tuple #[.slice p n c,.int .i64 0])∧NamesP w w' D p n c:=by
 have c1:=cellOf hd 1
 (try dsimp only at c1)
 have HK:=hid (dCheck_call d m left w hd)
 have HF:=hid (fKeys_call m w)
 have hb1:Below w.heap.size w (w.alloc (.cells #[.map (some m)] 109)):=(Below.refl _ w).alloc (Nat.le_refl _) _
 have HB1:=hid hb1
 have HS:=hid (sortedK_call w.heap.size m nn D hsz hk (w.alloc (.cells #[.map (some m)] 109)) (by simp) (cellOf (heap_alloc_new w _) 0) (ownsMap_same hm (hb1.block m hm.lt)))
 clear hd hm hb1
 go_enter Tryz.func104,Tryz.ntmps104
 go_wp2_with (first
  | (go_at_call 56;refine HK.out.mono ?_;rintro e w2 ⟨rfl,hw2⟩;obtain rfl:=hw2.symm)
  | (go_at_call 181;refine HF.out.mono ?_;rintro e w3 ⟨rfl,hw3⟩;subst hw3)
  | (go_at_call 180;refine HS.out.mono ?_;rintro e w4 ⟨p,n,c,rfl,hN⟩))
 go_ret2
 obtain⟨ss,h1,h2,h3,h4⟩:=hN
 have hsz':w.heap.size≤(w.alloc (.cells #[.map (some m)] 109)).heap.size:=HB1.out.size
 exact⟨p,n,c,rfl,ss,h1,h2,h3.mono hsz',HB1.out.trans (h4.mono HB1.out.size)⟩
end
section
open Go Go.RowKit Go.Shelf Go.Lib
def LogP (d:Nat) (w:World) (l:Nat) (w':World):Prop:=w'.heap[l]?=some (logO d)∧w.heap.size≤l∧Below w.heap.size w w'
theorem sOpen_call (d m nn:Nat) (left:Int) (D:DataW Value) (hsz:Maps.size D≤1000) (hk:(strKeys D).length≤1000) (hall:∀x∈strKeys D,x=sOther.data.toList) (w:World) (hd:w.heap[d]?=some (devO m left)) (hm:w.ownsMap Tryz.prog 9 rdFile m nn D) (hT:Tabs w) (hN:NumVars w) :
 Calls Tryz.prog 51 #[.pointer (some ⟨d,0,none⟩),.string ⟨#[106,111,117,114,110,97,108]⟩,.int .i64 100] w fun e w'=>∃l,e=.returned (.tuple #[.pointer (some ⟨l,0,none⟩),.int .i64 0])∧LogP d w l w':=by
 have HD:=hid (dDown_call d m left w hd)
 have HI:=hid (cName_call ⟨#[106,111,117,114,110,97,108]⟩ w)
 have hn:isNameB ⟨#[106,111,117,114,110,97,108]⟩=true:=by decide +kernel
 rw[hn] at HI
 have HL:=hid (dList_call d m nn left D hsz hk w hd hm)
 have HV:=hid (fun (w':World) (h:Below w.heap.size w w')=>number_other w' (hT.below h) (hN.below h))
 have HALL:=hid hall
 clear hn hd hm hT hN hall
 go_enter Tryz.func51,Tryz.ntmps51
 go_upto_region 12 with (first
  | (go_at_call 102;refine HD.out.mono ?_;rintro e w2 ⟨rfl,hw2⟩;obtain rfl:=hw2.symm)
  | (go_at_call 103;refine HI.out.mono ?_;rintro e w3 ⟨rfl,hw3⟩;obtain rfl:=hw3)
  | (go_at_call 104;refine HL.out.mono ?_;rintro e w4 ⟨p,n,c,rfl,hnp⟩;have HNP:=hid hnp;clear hnp))
 obtain⟨ss,hss,hperm,hrow,hb4⟩:=HNP.out
 have HB4:=hid hb4
 have hlen:n≤1000:=by rw[hss,hperm.length_eq];exact hk
 have HNM:=hid (fun x (hx:x∈ss)=>HALL.out x (hperm.mem_iff.1 hx))
 obtain⟨l,hl⟩:∃l,l=w4.heap.size:=⟨_,rfl⟩
 obtain⟨w5,hw5⟩:∃w5,w5=w4.alloc (logO d):=⟨_,rfl⟩
 have HP5:=hid (show LogP d w l w5 from⟨by rw[hw5,hl];exact heap_alloc_new w4 _,by rw[hl];exact hb4.size,by rw[hw5];exact hb4.alloc hb4.size _⟩)
 have HROW:=hid (show w5.ownsRow w.heap.size 9 1 (.slice p n c) n (ss.map encStr) by rw[hw5];exact hrow.alloc _)
 have HSS:=hid hss
 go_upto_region 14 with (fail)
 rw[←hl,←hw5]
 clear hrow hb4 hperm hss hw5 hl
 go_wp2
 go_loopw [11,56] (fun f i wr=>f=.slice none 0 0∧∃k:Nat,k≤n∧i=.int .i64 k∧Below w5.heap.size w5 wr) (fun _ i _=>n-(intOf i).toNat)
 case atStart=>exact⟨rfl,0,Nat.zero_le _,rfl,Below.refl _ _⟩
 case round =>
  obtain⟨rfl,k,hkn,rfl,hbr⟩:=hrel
  obtain⟨wp,rfl⟩:∃w1:World,w1=wr:=⟨_,rfl⟩
  have HBR:=hid hbr
  have hn63:(n:Int)≤1000:=by omega
  by_cases hlt:k<n
  ·have hks:k<ss.length:=by have:=HSS.out;omega
   obtain⟨g,rfl,hgl⟩:∃g,p=some ⟨g,0,none⟩∧g<w5.heap.size:=by
    rcases HROW.out.2 with ⟨_,h0⟩ | ⟨g,cap,cur,h1,_,h3,_⟩
    ·omega
    ·simp only[Value.slice.injEq] at h1
     exact⟨g,h1.1,ltOf h3⟩
   have hc5:=HROW.out.cells (g:=g) rfl k (encStr ss[k]) (by rw[List.getElem?_map,List.getElem?_eq_getElem hks];rfl)
   have hsk:ss[k]=sOther.data.toList:=HNM.out _ (List.getElem_mem hks)
   rw[hsk] at hc5
   have hlt':(k:Int)<(n:Int):=by omega
   have hk0:(0:Int)≤(k:Int):=by omega
   have hcell:wp.cell? ⟨g,k,none⟩=some (.string ⟨#[111,116,104,101,114,45,48,48,48,48,48,48,48,49]⟩):=by
    refine(World.cell?_of_block (w:=w5) (a:=⟨g,k,none⟩) (hbr.block g hgl)).trans ?_
    have hc6:=hc5
    simp only[Addr.add,Nat.zero_add] at hc6
    have e:(if k=0 then (⟨g,0,none⟩:Addr) else ⟨g,k,none⟩)=⟨g,k,none⟩:=by
     split
     ·rename_i h;rw[h]
     ·rfl
    rw[e] at hc6
    exact hc6
   have hv:=HV.out wp (HP5.out.2.2.trans (hbr.mono HP5.out.2.2.size))
   have HVV:=hid hv
   clear hc5 hsk hgl hks hv hbr
   go_wp2_with (go_at_call 105;refine HVV.out.mono ?_;rintro e w7 ⟨rfl,hb7⟩)
   go_roundw
   case rel=>exact⟨rfl,k+1,by omega,by go_num,HBR.out.trans (hb7.mono HBR.out.size)⟩
   case measure=>simp[intOf];omega
  ·obtain rfl:k=n:=by omega
   clear hlt hbr
   have HSI:=hid (Tryz.slices_Sort_int_none none 0 wp)
   go_upto_region 22 with (go_at_call 106;refine HSI.out.mono ?_;rintro e w8 ⟨rfl,hw8⟩;obtain rfl:=hw8.symm)
   have HY:=hid (lSync_call l d wp (heapExt HBR.out HP5.out.1))
   have HL:=hid HP5.out
   go_upto_region 23 with (fail)
   refine wp_loop_rounds 1 ?_
   rw[rounds_succ]
   go_wp2_with (go_at_call 53;refine HY.out.mono ?_;rintro e w9 ⟨rfl,hw9⟩;obtain rfl:=hw9.symm)
   go_ret2
   exact⟨l,rfl,heapExt HBR.out HP5.out.1,HP5.out.2.1,HP5.out.2.2.trans (HBR.out.mono HP5.out.2.2.size)⟩
def JrnP (d:Nat) (w:World) (j:Nat) (w':World):Prop:=∃l,w'.heap[j]?=some (jrnO l)∧w'.heap[l]?=some (logO d)∧Below w.heap.size w w'
theorem jOpen_call (d m nn:Nat) (left:Int) (D:DataW Value) (hsz:Maps.size D≤1000) (hk:(strKeys D).length≤1000) (hall:∀x∈strKeys D,x=sOther.data.toList) (w:World) (hd:w.heap[d]?=some (devO m left)) (hm:w.ownsMap Tryz.prog 9 rdFile m nn D) (hT:Tabs w) (hN:NumVars w) :
 Calls Tryz.prog 17 #[.pointer (some ⟨d,0,none⟩),.int .i64 100] w fun e w'=>∃j,e=.returned (.tuple #[.pointer (some ⟨j,0,none⟩),.int .i64 0])∧JrnP d w j w':=by
 have HS:=hid (sOpen_call d m nn left D hsz hk hall w hd hm hT hN)
 clear hd hm hT hN hall
 go_enter Tryz.func17,Tryz.ntmps17
 go_upto_region 4 with (go_at_call 51;refine HS.out.mono ?_;rintro e w4 ⟨l,rfl,hlp⟩;have HLP:=hid hlp;clear hlp)
 obtain⟨N,hN⟩:∃N,N=w4.heap.size:=⟨_,rfl⟩
 obtain⟨w5,hw5⟩:∃w5,w5=w4.alloc (jrnO l):=⟨_,rfl⟩
 have HQ:=hid (show w5.heap[N]?=some (jrnO l)∧w5.heap[l]?=some (logO d)∧Below w.heap.size w w5 from⟨by rw[hw5,hN];exact heap_alloc_new w4 _,by rw[hw5];exact heapAlloc _ HLP.out.1,by rw[hw5];exact HLP.out.2.2.alloc HLP.out.2.2.size _⟩)
 go_upto_region 5 with (fail)
 rw[←hN,←hw5]
 clear hw5 hN
 have HF:=hid (lFirst_call l d w5 HQ.out.2.1)
 have HA:=hid (lLast_call l d w5 HQ.out.2.1)
 go_upto_region 6 with (go_at_call 52;refine HF.out.mono ?_;rintro e w9 ⟨rfl,hw9⟩;obtain rfl:=hw9.symm)
 refine wp_loop_rounds 1 ?_
 rw[rounds_succ]
 go_wp2_with (go_at_call 46;refine HA.out.mono ?_;rintro e w9 ⟨rfl,hw9⟩;obtain rfl:=hw9.symm)
 go_ret2
 exact⟨N,rfl,l,HQ.out⟩
def OpenedP (w:World) (d j m:Nat) (w':World):Prop:=JrnP d w j w'∧w'.heap[d]?=some (devO m 0)∧w'.ownsMap Tryz.prog 9 rdFile m 0 noFiles∧w.heap.size≤d∧w.heap.size≤m
theorem opened_call (w:World) (hT:Tabs w) (hN:NumVars w) :
 Calls Tryz.prog 23 #[.int .i64 100] w fun e w'=>∃d j m,e=.returned (.tuple #[.pointer (some ⟨d,0,none⟩),.pointer (some ⟨j,0,none⟩),.bool true])∧OpenedP w d j m w':=by
 have HD:=hid (dNew_call w)
 obtain⟨m,hm⟩:∃m,m=w.heap.size:=⟨_,rfl⟩
 obtain⟨w0,hw0⟩:∃w0,w0=w.alloc (.map #[] 0):=⟨_,rfl⟩
 obtain⟨w1,hw1⟩:∃w1,w1=w0.alloc (devO m 0):=⟨_,rfl⟩
 have hs0:w0.heap.size=m+1:=by rw[hw0,World.size_alloc,←hm]
 have h1:w1.heap[m+1]?=some (devO m 0):=by rw[hw1,←hs0];exact heap_alloc_new w0 _
 have h2:w1.ownsMap Tryz.prog 9 rdFile m 0 noFiles:=by rw[hw1,hw0,hm];exact(World.ownsMap_made w _ _ _).alloc _
 have hb1:Below w.heap.size w w1:=by rw[hw1,hw0];exact((Below.refl _ w).alloc (Nat.le_refl _) _).alloc (by simp) _
 have HO:=hid (jOpen_call (m+1) m 0 0 noFiles (by decide) (by decide) (by intro x hx;cases hx) w1 h1 h2 (hT.below hb1) (hN.below hb1))
 have HB:=hid hb1
 have HDM:=hid (And.intro h1 h2)
 have HM:=hid hm
 rw[←hm,←hw0,←hw1] at HD
 clear h1 h2 hb1 hw0 hw1 hs0 hT hN hm
 go_enter Tryz.func23,Tryz.ntmps23
 go_wp2_with (first
  | (go_at_call 55;refine HD.out.mono ?_;rintro e w2 ⟨rfl,hw2⟩;obtain rfl:=hw2)
  | (go_at_call 17;refine HO.out.mono ?_;rintro e w3 ⟨j,rfl,hj⟩;have HJ:=hid hj;clear hj))
 refine bodyPost_ret (v:=.tuple #[.pointer (some ⟨m+1,0,none⟩),.pointer (some ⟨j,0,none⟩),.bool true]) (by simp[results,Tryz.results23,go_sem]) rfl ?_
 obtain⟨l,h1,h2,h3⟩:=HJ.out
 have hm:=HM.out
 exact⟨m+1,j,m,rfl,⟨l,h1,h2,HB.out.trans (h3.mono HB.out.size)⟩,heapExt h3 HDM.out.1,ownsMap_same HDM.out.2 (h3.block m HDM.out.2.lt),by omega,by omega⟩
end
end Go.Proofs.YtmgpghoamapfgaaGreatDoor
