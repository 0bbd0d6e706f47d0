/-
  A builder that is the first field of a struct with an error behind it: WriteByte; and a snapshot's line, written there. Condition: the block holds such a struct.
-/
import Derived.Test.YtbfcokcfabbklaaGreatDoorSN22Mrg
import Derived.Test.YtbfcokcfabbklaaGreatDoorSN4Mrg
namespace Go.Proofs.YtbfcokcfabbklaaGreatDoor
set_option linter.unusedVariables false
set_option maxRecDepth 100000
set_option maxHeartbeats 16000000
set_option linter.unusedSimpArgs false
section
open Go Go.RowKit Go.Shelf
theorem wbyteJ_call (T:TypeId) (hT:JwT T) (B b:Nat) (j:JW) (c:UInt8) (w:World) (h:IsJw T B b j w) (hlen:j.b.length+1≤140737488355328) (hBw:B≤w.heap.size) :
 Calls Tryz.prog 155 #[.pointer (some ⟨b,0,none⟩),.int .u8 (c.toNat:Nat)] w (JPost T B b ⟨j.b++[c],j.e⟩ .nilIface w):=by
 obtain⟨i0,hi,hz0,hz1,hz2⟩:=info_parts infoU8
 have HCC:=hid (ccJ_call T hT B b j w h)
 have HT:=hid hT.2
 have hB:=h.1
 obtain⟨cn,hcn⟩:∃cn:Nat,cn=c.toNat:=⟨_,rfl⟩
 rw[←hcn]
 have HCN:=hid hcn
 clear h hT hcn
 go_enter Tryz.func155,Tryz.ntmps155
 go_wp2_with (go_at_call 157;refine HCC.out.mono ?_)
 rintro e w1 ⟨⟨rfl,h1,hb1,hk1⟩,v,hbk,hown,hne⟩
 have c0:w1.cell? ⟨b,0,none⟩=some (.pointer (some ⟨b,0,none⟩)):=by rw[Lib.cell_of_heap hbk];rfl
 have c1:w1.cell? ⟨b,1,none⟩=some v:=by rw[Lib.cell_of_heap hbk];rfl
 have hbl:(Lib.byteCells j.b).length=j.b.length:=Lib.byteCells_length _
 go_wp2_with (at_builtin;refine wpList_append_ownF _ rfl _ _ 145 rfl B 5 i0 (.int .u8 0) 1 1 Tryz.underlying145 hi hz0 hz1 hz2 rfl (by decide) _ _ _ rfl (hown.alloc _) ⟨w1.heap.size,0,none⟩ 1 1 [.int .u8 cn] rfl rfl ?c1 ?c2 ?c3 ?c4 ?c5 ?_)
 case c1 =>
  intro j u hj
  match j,hj with
  | 0,hj=>simp at hj;subst hj;simp[Addr.add]
 case c2=>intro u hu;simp at hu;subst hu;rfl
 case c3=>unfold maxLen;omega
 case c4=>omega
 case c5=>have:=hb1.size;simp;omega
 intro v' w2 hown' hgrow _
 have hlt:=ltOf hbk
 have hb2:w2.heap[b]?=some (.cells #[.pointer (some ⟨b,0,none⟩),v,.int .i64 j.e] T (0,0)):=(hgrow.block b (by simp;omega) (fun e=>hne e.symm)).trans ((Below.heap_alloc _ _ _ hlt).trans hbk)
 have d0:=cellOf hb2 0
 have d1:=cellOf hb2 1
 have f1:=freeOf hb2 1
 (try dsimp only at d0 d1)
 have hne':v'.ownBlock≠some b:=Lib.ownBlock_neF hown' hb2 HT.out
 have HNE:=hid hne'
 clear hne'
 obtain⟨g,cap,rfl⟩:∃g cap,v'=.slice (some ⟨g,0,none⟩) (j.b.length+1) cap:=by
  rcases hown'.2 with ⟨_,h0⟩ | ⟨g,cap,cur,fz,hv,_⟩
  ·omega
  ·exact⟨g,cap,hv⟩
 go_wp2
 go_ret
 refine⟨rfl,⟨hB,_,.slice (some ⟨g,0,none⟩) (j.b.length+1) cap,?_,.inr rfl,?_,HNE.out⟩,?_,((hk1.alloc _).grown hgrow (Lib.ownsRowF_kind (hown.alloc _))).setCell ⟨b,1,none⟩ rfl _⟩
 ·simp[World.setCell,Array.getElem?_modify,hb2]
 ·have hx:Lib.byteCells (j.b++[c])=Lib.byteCells j.b++[.int .u8 cn]:=by rw[HCN.out];simp[Lib.byteCells]
  have hz:(j.b++[c]).length=j.b.length+1:=by rw[List.length_append];rfl
  dsimp only
  rw[hx,hz]
  exact hown'.kept (row:=some b) ⟨rfl,rfl,rfl,by simp[World.setCell],fun k _ hk=>Below.heap_setCell _ _ _ _ (fun e=>hk (by simp[e]))⟩ (Or.inr HNE.out)
 ·exact((hb1.alloc (by have:=hb1.size;omega) _).grown hgrow (by have:=hb1.size;simp;omega) (fun k hk=>(hown.lt k hk).1)).setCell (p:=⟨b,1,none⟩) hB _
end
section
open Go Go.RowKit Go.Shelf
theorem snwT:JwT 149:=⟨by kernel_rfl,by decide⟩
def lnW (j:JW) (s:ByteArray):JW:=⟨j.b++s.data.toList++[10],j.e⟩
theorem snLine_call (B b:Nat) (j:JW) (g c:Nat) (xs:List ByteArray) (s:ByteArray) (hs:joinB xs ⟨#[32]⟩=s) (w:World) (hx:∀(k:Nat) x,xs[k]?=some x→w.cell? ⟨g,0+k,none⟩=some (.string x)) (hg:g<w.heap.size) (hl:xs.length≤10) (hc:xs.length≤c) (hz:s.size≤1000) (hj:j.b.length≤1000000) (h:IsJw 149 B b j w) (hB:B≤w.heap.size) :
 Calls Tryz.prog 86 #[.pointer (some ⟨b,0,none⟩),.slice (some ⟨g,0,none⟩) xs.length c] w fun e w'=>e=.returned (.tuple #[])∧IsJw 149 B b (lnW j s) w'∧Below B w w'∧Lib.OthersKept 5 (some b) w w':=by
 have HJ:=hid (Tryz.strings_Join g 0 c xs ⟨#[32]⟩ w.drew hx hg (by omega) hc (by
  have:(Lib.join (xs.map (·.data.toList)) (⟨#[32]⟩:ByteArray).data.toList).length=s.size:=by rw[←hs];simp[joinB,ByteArray.size]
  rw[this];omega))
 have hs':(⟨(Lib.join (xs.map (·.data.toList)) (⟨#[32]⟩:ByteArray).data.toList).toArray⟩:ByteArray)=s:=hs
 rw[hs'] at HJ
 clear hs hs'
 have HI:=hid h
 have HZ:=hid (And.intro hz hj)
 have HBW:=hid hB
 clear h hx hg hl hc hz hj hB
 go_enter Tryz.func86,Tryz.ntmps86
 go_upto_region 0 with (fail)
 refine wp_region_held_drew (S:=(fun _=>True)) (by kernel_rfl) (trivial) (fun hS=>?_)
 refine tkQ 0 (v:=?_) ?_ hS ?_;rotate_left;· intro w' hw';(try dsimp only at hw');go_simp;(try with_reducible rfl)
 simp only[Act.put,pt1,pt2,pt3,pt4,pt5,pt6]
 refine tkQ 1 (v:=?_) ?_ hS ?_;rotate_left;· intro w' hw';(try dsimp only at hw');go_simp;(try with_reducible rfl)
 simp only[Act.put,pt1,pt2,pt3,pt4,pt5,pt6]
 refine tkQ 2 (v:=?_) ?_ hS ?_;rotate_left;· intro w' hw';(try dsimp only at hw');go_simp;(try with_reducible rfl)
 simp only[Act.put,pt1,pt2,pt3,pt4,pt5,pt6]
 refine tkQ 3 (v:=?_) ?_ hS ?_;rotate_left;· intro w' hw';(try dsimp only at hw');go_simp;(try with_reducible rfl)
 simp only[Act.put,pt1,pt2,pt3,pt4,pt5,pt6]
 refine wpAnyH_ready (rs:=[4]) (by kernel_rfl) (by simp) ?_
 refine arQ fun K hK=>?_
 go_simp
 go_at_call 151
 refine HJ.out.mono ?_
 rintro e w1 ⟨rfl,hb1'⟩
 have hb1:Below w.heap.size w w1:=(Below.refl _ w).drew.trans hb1'
 clear hb1'
 have HB1:=hid hb1
 clear hb1
 refine hK.out _ _ (trivial) (fun hS=>?_)
 clear hK K
 (try simp only[Act.put,pt1,pt2,pt3,pt4,pt5,pt6])
 refine wpAnyH_ready (rs:=[5]) (by kernel_rfl) (by simp) ?_
 refine arQ fun K hK=>?_
 have HW:=hid (wstrJ_call 149 snwT B b j s w1 (HI.out.ext (HB1.out)) (by have:=HZ.out;omega) (by have:=HB1.out.size;have:=HBW.out;omega))
 go_simp
 go_at_call 87
 refine HW.out.mono ?_
 rintro e w2 ⟨rfl,hi2,hb2,ho2⟩
 have HI2:=hid hi2;have HB2:=hid hb2;have HO2:=hid ho2
 clear hi2 hb2 ho2
 refine hK.out _ _ (trivial) (fun hS=>?_)
 clear hK K
 (try simp only[Act.put,pt1,pt2,pt3,pt4,pt5,pt6])
 refine wpAnyH_done (by kernel_rfl) ?_ _
 (try dsimp only)
 skip
 have hln:(j.b++s.data.toList).length=j.b.length+s.size:=by rw[List.length_append,Array.length_toList];rfl
 have HY:Hid (Calls Tryz.prog 155 #[.pointer (some ⟨b,0,none⟩),.int .u8 10] w2 (JPost 149 B b (lnW j s) .nilIface w2)):=hid (wbyteJ_call 149 snwT B b ⟨j.b++s.data.toList,j.e⟩ 10 w2 HI2.out (by dsimp only;rw[hln];have:=HZ.out;omega) (by have:=HB1.out.size;have:=HB2.out.size;have:=HBW.out;omega))
 clear hS hln
 go_wp2_with (go_at_call 155;refine HY.out.mono ?_;rintro e w3 ⟨rfl,hi3,hb3,ho3⟩)
 exact bodyPost_end (results_none rfl _ _ _) rfl ⟨rfl,hi3,(HB1.out.mono HBW.out).trans (HB2.out.trans hb3),(others_extJ HB1.out).trans (HO2.out.trans ho3)⟩
end
end Go.Proofs.YtbfcokcfabbklaaGreatDoor
