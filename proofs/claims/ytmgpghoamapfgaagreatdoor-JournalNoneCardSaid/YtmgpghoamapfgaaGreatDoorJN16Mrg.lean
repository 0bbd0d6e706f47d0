/-
  literal.text of a list, out of the texts of its elements. Conditions: the value can be read as data; what the function answers for the elements; the lengths are within the reach.
-/
import Derived.Test.YtmgpghoamapfgaaGreatDoorJN5Mrg
namespace Go.Proofs.YtmgpghoamapfgaaGreatDoor
set_option linter.unusedVariables false
set_option maxRecDepth 100000
set_option maxHeartbeats 16000000
set_option linter.unusedSimpArgs false
open Go Go.RowKit Go.Shelf
attribute [local go_sem ↓] Go.wp_at_zero Go.wp_at_succ
theorem textList_call (i0 s0:Int) (t0:ByteArray) (la:Option Addr) (ll lc:Nat) (fa:Option Addr) (fl fc:Nat) (l:List Val) (ns:List ByteArray) (fs:List Val) (w:World) (hd:IsVal (· < w.heap.size) w ⟨8,i0,s0,t0,la,ll,lc,fa,fl,fc⟩ (.mk 8 i0 s0 t0 l ns fs))
 (xs:List ByteArray) (hxl:xs.length=ll)
 (L:Nat) (hxL:∀x∈xs,x.data.toList.length≤L) (hLN:ll * (L+3)≤140737488355328)
 (htx:∀j (h:j<l.length) (hj:j<xs.length) (x:VC) (w':World),Below w.heap.size w w'→IsVal (· < w'.heap.size) w' x l[j]→Calls Tryz.prog 74 #[.agg #[.int .i64 x.k,.int .i64 x.i,.int .i64 x.s,.string x.t,.slice x.la x.ll x.lc,.slice x.fa x.fl x.fc]] w' fun e w2=>e=.returned (.string xs[j])∧Below w'.heap.size w' w2) :
 Calls Tryz.prog 74 #[.agg #[.int .i64 8,.int .i64 i0,.int .i64 s0,.string t0,.slice la ll lc,.slice fa fl fc]] w fun e w'=>e=.returned (.string (⟨#[91]⟩++joinB xs ⟨#[44,32]⟩++⟨#[93]⟩))∧Below w.heap.size w w':=by
 obtain⟨⟨_,_,_,_,hok,hll,hfl,hns⟩,hv,hf⟩:=hd
 dsimp only at hll hfl hv hf
 have hreachl:ll * 88≤140737488351232:=hok.l
 have HF:=hid hll;clear hfl hll hf hns
 clear hok
 obtain⟨ti,hi,hz0,hz1,hz2⟩:=info_parts infoStr
 obtain⟨w0,hw0⟩:∃w0,w0=w.alloc (.cells #[.int .i64 8,.int .i64 i0,.int .i64 s0,.string t0,.slice la ll lc,.slice fa fl fc] 36):=⟨_,rfl⟩
 have hb0:Below w.heap.size w w0:=by rw[hw0];exact(Below.refl _ w).alloc (Nat.le_refl _) _
 have HB0:=hid hb0;clear hb0
 have HW0:=hid hw0;clear hw0
 have HXL:=hid hxL;clear hxL
 have HXN:=hid hxl;clear hxl
 have HTXS:=hid htx;clear htx
 have HLN:=hid hLN;clear hLN
 go_enter Tryz.func74,Tryz.ntmps74
 go_wp2
 rw[←HW0.out]
 go_loopw [3,78] (fun vv i wr=>∃(k:Nat) (v:Value),v=vv∧k≤ll∧i=.int .i64 k∧wr.ownsRow w0.heap.size 9 1 v k ((xs.take k).map Value.string)∧Below w0.heap.size w0 wr) (fun _ i _=>ll-(intOf i).toNat)
 case atStart=>exact⟨0,_,rfl,Nat.zero_le _,rfl,World.ownsRow_nil _ _ _ _,Below.refl _ _⟩
 case round =>
  obtain⟨k,v,rfl,hk,rfl,hown,hbr⟩:=hrel
  have HBR:=hid hbr
  have hbelw:Below w.heap.size w wr:=HB0.out.trans (hbr.mono HB0.out.size)
  have HBW:=hid hbelw
  by_cases hlt:k<ll
  ·rcases hv with rfl | ⟨b,o,rfl,hb,hvs⟩
   ·exfalso;have:=HF.out;simp at this;omega
   ·have hkl:k<l.length:=by have:=HF.out;omega
    have hkx:k<xs.length:=by have:=HXN.out;omega
    obtain⟨x,hx,hxv⟩:=hvs.get k hkl
    obtain⟨tz,htz⟩:∃tz,tz=xs[k]:=⟨_,rfl⟩
    have HXK:=hid htz
    have hx':=hx.same (w':=wr) (hbelw.block b hb)
    obtain⟨hx0,hx1,hx2,hx3,hx4,hx5⟩:=hx'
    have hlt':(k:Int)<(ll:Int):=by omega
    have hsz:=hbelw.size
    have hbwa:Below wr.heap.size wr (wr.alloc (Obj.cells #[Value.int IntKind.i64 x.k,Value.int IntKind.i64 x.i,Value.int IntKind.i64 x.s,Value.string x.t,Value.slice x.la x.ll x.lc,Value.slice x.fa x.fl x.fc] 36 (0,0))):=(Below.refl _ wr).alloc (Nat.le_refl _) _
    have HBA:=hid hbwa
    have HTX:=hid (htz▸HTXS.out k hkl hkx x (wr.alloc (Obj.cells #[Value.int IntKind.i64 x.k,Value.int IntKind.i64 x.i,Value.int IntKind.i64 x.s,Value.string x.t,Value.slice x.la x.ll x.lc,Value.slice x.fa x.fl x.fc] 36 (0,0))) (hbelw.trans (hbwa.mono hsz)) (hxv.same fun b hb=>⟨by have:=hbwa.size;omega,(hbwa.block b (by omega)).trans (hbelw.block b hb)⟩))
    have hcap1:k+1≤maxLen:=by unfold maxLen;omega
    have hcap2:(k+1) * 16≤140737488355328:=by omega
    have HOWN:=hid hown;clear hown
    clear hx hxv htz hbr hbelw hbwa
    go_wp2_with (first
     | (go_at_call 74;refine HTX.out.mono ?_;rintro e w1 ⟨rfl,hb1⟩)
     | (at_builtin;refine wpList_append_own_at _ (by rfl) _ _ 75 (by rfl) w0.heap.size 9 ti _ 1 16 Tryz.underlying75 hi hz0 hz1 hz2 rfl (by omega) _ _ _ (by rfl) ((ownExt HOWN.out (HBA.out.trans (hb1.mono HBA.out.size))).alloc _) ⟨w1.heap.size,0,none⟩ 1 1 [.string tz] (by rfl) (by rfl) (cell_one_new _ _ _) (by simp[Value.oneCell']) hcap1 hcap2 (by have:=HBR.out.size;have:=HBA.out.size;have:=hb1.size;simp at *;omega) ?_;intro v' w5 hown' hgrow hnil hloc;have HO2:=hid hown';have HG:=hid hgrow;clear hown' hgrow hnil hloc))
    go_roundw
    case rel =>
     have hst:Below w0.heap.size w0 (wr.alloc (Obj.cells #[Value.int IntKind.i64 x.k,Value.int IntKind.i64 x.i,Value.int IntKind.i64 x.s,Value.string x.t,Value.slice x.la x.ll x.lc,Value.slice x.fa x.fl x.fc] 36 (0,0))):=HBR.out.trans (HBA.out.mono HBR.out.size)
     have hst2:Below w0.heap.size w0 w1:=hst.trans (hb1.mono hst.size)
     refine⟨k+1,_,rfl,by omega,by go_num,?_,(hst2.alloc hst2.size _).grown HG.out (by have:=hst2.size;simp;omega) (fun r e=>own_ge2 HOWN.out r e)⟩
     have h:=HO2.out
     rw[List.take_succ_eq_append_getElem hkx,←HXK.out,List.map_append]
     exact h
    case measure=>simp[intOf];omega
  ·obtain rfl:k=ll:=by omega
   clear hlt
   rw[List.take_of_length_le (by have:=HXN.out;omega)] at hown
   rcases Nat.eq_zero_or_pos k with h0 | h0
   ·subst h0
    have hx0:xs=[]:=List.eq_nil_of_length_eq_zero HXN.out
    subst hx0
    obtain⟨a,c,rfl⟩:∃a c,v=.slice a 0 c:=by
     rcases hown.2 with ⟨rfl,_⟩ | ⟨g,cap,cur,rfl,_⟩
     ·exact⟨_,_,rfl⟩
     ·exact⟨_,_,rfl⟩
    have hjoin:Hid (Calls Tryz.prog 138 #[.slice a 0 c] wr fun e w'=>e=.returned (.string (joinB [] ⟨#[44,32]⟩))∧Below wr.heap.size wr w'):=hid (join_of _ _ _ (fun w' h=>(Tryz.strings_Join_none a c ⟨#[44,32]⟩ w').mono fun e w2 ⟨he,hw⟩=>⟨he,by rw[hw];exact Below.refl _ _⟩))
    clear hown hbr
    have s1:1+(joinB [] ⟨#[44,32]⟩).size≤9223372036854775807:=by decide
    have s2:1+(joinB [] ⟨#[44,32]⟩).size+1≤9223372036854775807:=by decide
    go_wp2_with (go_at_call 138;refine hjoin.out.mono ?_;rintro e w3 ⟨rfl,hb3⟩)
    go_ret
    exact⟨rfl,HBW.out.trans (hb3.mono HBW.out.size)⟩
   obtain⟨g,cap',rfl,hj⟩:=strRow_join hown HXN.out.symm h0 L HXL.out ⟨#[44,32]⟩ HLN.out
   have HJ:=hid hj
   have hjoin:Hid (Calls Tryz.prog 138 #[.slice (some ⟨g,0,none⟩) k cap'] wr fun e w'=>e=.returned (.string (joinB xs ⟨#[44,32]⟩))∧Below wr.heap.size wr w'):=hid (join_of _ _ _ HJ.out)
   have hjz:=joinB_size xs ⟨#[44,32]⟩ L HXL.out
   rw[HXN.out] at hjz
   have hL3:=HLN.out
   have hjz2:(joinB xs ⟨#[44,32]⟩).size≤140737488355328:=by simp at hjz;rw[Nat.mul_add] at hL3 hjz;omega
   have s1:1+(joinB xs ⟨#[44,32]⟩).size≤9223372036854775807:=by omega
   have s2:1+(joinB xs ⟨#[44,32]⟩).size+1≤9223372036854775807:=by omega
   clear hj hown hbr hjz hL3 hjz2
   go_wp2_with (go_at_call 138;refine hjoin.out.mono ?_;rintro e w3 ⟨rfl,hb3⟩)
   go_ret
   exact⟨rfl,HBW.out.trans (hb3.mono HBW.out.size)⟩
theorem textRec0_call (i0 s0:Int) (t0:ByteArray) (la:Option Addr) (ll lc:Nat) (fa:Option Addr) (fc:Nat) (w:World) :
 Calls Tryz.prog 74 #[.agg #[.int .i64 9,.int .i64 i0,.int .i64 s0,.string t0,.slice la ll lc,.slice fa 0 fc]] w fun e w'=>e=.returned (.string (recT []))∧Below w.heap.size w w':=by
 obtain⟨w0,hw0⟩:∃w0,w0=w.alloc (.cells #[.int .i64 9,.int .i64 i0,.int .i64 s0,.string t0,.slice la ll lc,.slice fa 0 fc] 36):=⟨_,rfl⟩
 have hb0:Below w.heap.size w w0:=by rw[hw0];exact(Below.refl _ w).alloc (Nat.le_refl _) _
 have HB0:=hid hb0;clear hb0
 have HW0:=hid hw0;clear hw0
 go_enter Tryz.func74,Tryz.ntmps74
 go_wp2
 rw[←HW0.out]
 go_loopw [3,97] (fun vv i wr=>vv=.slice none 0 0∧i=.int .i64 0∧Below w0.heap.size w0 wr) (fun _ i _=>0)
 case atStart=>exact⟨rfl,rfl,Below.refl _ _⟩
 case round =>
  obtain⟨rfl,rfl,hbr⟩:=hrel
  have HBW:=hid (HB0.out.trans (hbr.mono HB0.out.size))
  have hjoin:Hid (Calls Tryz.prog 138 #[.slice none 0 0] wr fun e w'=>e=.returned (.string (joinB [] ⟨#[44,32]⟩))∧Below wr.heap.size wr w'):=hid (join_of _ _ _ (fun w' h=>(Tryz.strings_Join_none none 0 ⟨#[44,32]⟩ w').mono fun e w2 ⟨he,hw⟩=>⟨he,by rw[hw];exact Below.refl _ _⟩))
  clear hbr
  have s1:1+(joinB [] ⟨#[44,32]⟩).size≤9223372036854775807:=by decide
  have s2:1+(joinB [] ⟨#[44,32]⟩).size+1≤9223372036854775807:=by decide
  go_wp2_with (go_at_call 138;refine hjoin.out.mono ?_;rintro e w3 ⟨rfl,hb3⟩)
  go_ret
  exact⟨rfl,HBW.out.trans (hb3.mono HBW.out.size)⟩
end Go.Proofs.YtmgpghoamapfgaaGreatDoor
