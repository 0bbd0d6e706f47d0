/-
  literal.Text of any value: its text, or the first error. Conditions: the value can be read as data; Tabs, ZTab.
-/
import Derived.Test.YtmgpghoamapfgaaGreatDoorJN17Mrg
import Derived.Test.YtmgpghoamapfgaaGreatDoorJN10Mrg
namespace Go.Proofs.YtmgpghoamapfgaaGreatDoor
set_option linter.unusedVariables false
set_option maxRecDepth 100000
set_option maxHeartbeats 16000000
set_option linter.unusedSimpArgs false
section
open Go Go.RowKit Go.Shelf
def litF (d:Val):ByteArray × Int :=
 if isNullV d=false∧chkVal d≠0 then (⟨#[]⟩,chkVal d) else if 65536<(txt d).length then (⟨#[]⟩,5) else (⟨(txt d).toArray⟩,0)
theorem litF_size (d:Val):(litF d).1.size≤65536:=by
 unfold litF
 split
 ·exact Nat.zero_le _
 ·split
  ·exact Nat.zero_le _
  ·rw[bSize];omega
theorem limitedL_call (s:ByteArray) (hs:65536<s.size) (w:World):Calls Tryz.prog 73 #[.string s] w fun e w'=>e=.returned (.tuple #[.string ⟨#[]⟩,.int .i64 5])∧w=w':=by
 have hs':(65536:Int)<(s.size:Int):=by omega
 go_enter Tryz.func73,Tryz.ntmps73
 go_wp2
 exact bodyPost_ret (v:=.tuple #[.string ⟨#[]⟩,.int .i64 5]) (by simp[results,Tryz.results73,go_sem]) rfl ⟨rfl,rfl⟩
theorem limitedG_call (s:ByteArray) (w:World):Calls Tryz.prog 73 #[.string s] w fun e w'=>e=.returned (.tuple #[.string (if 65536<s.size then ⟨#[]⟩ else s),.int .i64 (if 65536<s.size then 5 else 0)])∧w=w':=by
 by_cases h:65536<s.size
 ·rw[if_pos h,if_pos h];exact limitedL_call s h w
 ·rw[if_neg h,if_neg h];exact limited_call s (by omega) w
theorem litG_bad (c:VC) (d:Val) (w:World) (hd:IsVal (· < w.heap.size) w c d) (hT:Tabs w) (hn:isNullV d=false) (h0:chkVal d≠0) :
 Calls Tryz.prog 36 #[c.v] w fun e w'=>e=.returned (.tuple #[.string ⟨#[]⟩,.int .i64 (chkVal d)])∧Below w.heap.size w w':=by
 have hb1:Below w.heap.size w (w.alloc (vObj c)):=(Below.refl _ w).alloc (Nat.le_refl _) _
 have HB1:=hid hb1
 have HC:=hid (check_later c d w hd hT _ hb1)
 obtain⟨x,hx⟩:∃x,x=chkVal d:=⟨_,rfl⟩
 rw[←hx] at HC h0 ⊢
 have hx0:(x==0)=false:=by simp;exact h0
 have hx1:(x != 0)=true:=by simp;exact h0
 have HIN:=hid (fun w=>isNull_call c.k c.i c.s c.t c.la c.ll c.lc c.fa c.fl c.fc w)
 rw[←isNullV_of hd,hn] at HIN
 have HSIX:Hid (∀w2,Below (w.alloc (vObj c)).heap.size (w.alloc (vObj c)) w2→Six w2 w.heap.size c∧Below w.heap.size w w2):=hid fun w2 h=>⟨sixOf (heapExt h (heap_alloc_new w _)),hb1.trans (h.mono hb1.size)⟩
 clear hd hT h0 hb1 hx hn
 obtain⟨k,i,s,tt,la,ll,lc,fa,fl,fc⟩:=c
 dsimp only[vObj,VC.v] at HC HIN HSIX HB1 ⊢
 go_enter Tryz.func36,Tryz.ntmps36
 go_wp2_with (first
  | (go_at_call 66;refine HC.out.mono ?_;rintro e w2 ⟨rfl,hb2⟩;obtain⟨⟨j1,j2,j3,j4,j5,j6⟩,hb3⟩:=HSIX.out _ hb2)
  | (go_at_call 67;refine(HIN.out _).mono ?_;rintro e w4 ⟨rfl,hb4⟩))
 exact bodyPost_ret (v:=.tuple #[.string ⟨#[]⟩,.int .i64 x]) (by simp[results,Tryz.results36,go_sem]) rfl ⟨rfl,hb3.trans (hb4.mono hb3.size)⟩
theorem litG_ok (c:VC) (d:Val) (w:World) (hd:IsVal (· < w.heap.size) w c d) (hT:Tabs w) (hZ:ZTab w) (h0:chkVal d=0) :
 Calls Tryz.prog 36 #[c.v] w fun e w'=>e=.returned (.tuple #[.string (if 65536<(⟨(txt d).toArray⟩:ByteArray).size then ⟨#[]⟩ else ⟨(txt d).toArray⟩),.int .i64 (if 65536<(⟨(txt d).toArray⟩:ByteArray).size then 5 else 0)])∧Below w.heap.size w w':=by
 have hb1:Below w.heap.size w (w.alloc (vObj c)):=(Below.refl _ w).alloc (Nat.le_refl _) _
 have HB1:=hid hb1
 have HC:=hid (check_later c d w hd hT _ hb1)
 rw[h0] at HC
 have HTX:Hid (∀w',Below w.heap.size w w'→Calls Tryz.prog 74 #[c.v] w' fun e w2=>e=.returned (.string ⟨(txt d).toArray⟩)∧Below w'.heap.size w' w2):=hid fun w' h=>text_call d c w' (good_of h0) (hd.same fun b q=>⟨Nat.lt_of_lt_of_le q h.size,h.block b q⟩) (hT.below h) (hZ.below h)
 obtain⟨t,ht⟩:∃t:ByteArray,t=⟨(txt d).toArray⟩:=⟨_,rfl⟩
 rw[←ht] at HTX ⊢
 have HLM:=hid (fun w=>limitedG_call t w)
 obtain⟨u,hu⟩:∃u:ByteArray,u=if 65536<t.size then ⟨#[]⟩ else t:=⟨_,rfl⟩
 obtain⟨v,hv⟩:∃v:Int,v=if 65536<t.size then 5 else 0:=⟨_,rfl⟩
 rw[←hu,←hv] at HLM ⊢
 have HSIX:Hid (∀w2,Below (w.alloc (vObj c)).heap.size (w.alloc (vObj c)) w2→Six w2 w.heap.size c∧Below w.heap.size w w2):=hid fun w2 h=>⟨sixOf (heapExt h (heap_alloc_new w _)),hb1.trans (h.mono hb1.size)⟩
 clear hd hT hZ h0 hb1 ht hu hv
 obtain⟨k,i,s,tt,la,ll,lc,fa,fl,fc⟩:=c
 dsimp only[vObj,VC.v] at HC HTX HSIX HB1 ⊢
 go_enter Tryz.func36,Tryz.ntmps36
 go_wp2_with (first
  | (go_at_call 66;refine HC.out.mono ?_;rintro e w2 ⟨rfl,hb2⟩;obtain⟨⟨j1,j2,j3,j4,j5,j6⟩,hb3⟩:=HSIX.out _ hb2)
  | (go_at_call 74;refine(HTX.out _ hb3).mono ?_;rintro e w4 ⟨rfl,hb4⟩)
  | (go_at_call 73;refine(HLM.out _).mono ?_;rintro e w5 ⟨rfl,rfl⟩))
 exact bodyPost_ret (v:=.tuple #[.string u,.int .i64 v]) (by simp[results,Tryz.results36,go_sem]) rfl ⟨rfl,hb3.trans (hb4.mono hb3.size)⟩
theorem litG_null (c:VC) (d:Val) (w:World) (hd:IsVal (· < w.heap.size) w c d) (hT:Tabs w) (hn:isNullV d=true) (h0:chkVal d≠0) (hk:c.k=0) :
 Calls Tryz.prog 36 #[c.v] w fun e w'=>e=.returned (.tuple #[.string ⟨#[110,117,108,108]⟩,.int .i64 0])∧Below w.heap.size w w':=by
 have hb1:Below w.heap.size w (w.alloc (vObj c)):=(Below.refl _ w).alloc (Nat.le_refl _) _
 have HB1:=hid hb1
 have HC:=hid (check_later c d w hd hT _ hb1)
 obtain⟨x,hx⟩:∃x,x=chkVal d:=⟨_,rfl⟩
 rw[←hx] at HC h0
 have hx0:(x==0)=false:=by simp;exact h0
 have hx1:(x != 0)=true:=by simp;exact h0
 have HIN:=hid (fun w=>isNull_call c.k c.i c.s c.t c.la c.ll c.lc c.fa c.fl c.fc w)
 rw[←isNullV_of hd,hn] at HIN
 have HTX:=hid (fun w=>textNull_call c.s c.i c.t c.la c.ll c.lc c.fa c.fl c.fc w)
 have HSIX:Hid (∀w2,Below (w.alloc (vObj c)).heap.size (w.alloc (vObj c)) w2→Six w2 w.heap.size c∧Below w.heap.size w w2):=hid fun w2 h=>⟨sixOf (heapExt h (heap_alloc_new w _)),hb1.trans (h.mono hb1.size)⟩
 have HLM:=hid (fun w=>limited_call ⟨#[110,117,108,108]⟩ (by decide) w)
 clear hd hT h0 hb1 hx hn
 obtain⟨k,i,s,tt,la,ll,lc,fa,fl,fc⟩:=c
 dsimp only[vObj,VC.v] at HC HIN HTX HSIX HB1 hk ⊢
 subst hk
 go_enter Tryz.func36,Tryz.ntmps36
 go_wp2_with (first
  | (go_at_call 66;refine HC.out.mono ?_;rintro e w2 ⟨rfl,hb2⟩;obtain⟨⟨j1,j2,j3,j4,j5,j6⟩,hb3⟩:=HSIX.out _ hb2;have HB2:=hid hb2;clear hb2)
  | (go_at_call 67;refine(HIN.out _).mono ?_;rintro e w4 ⟨rfl,hb4⟩;obtain⟨⟨l1,l2,l3,l4,l5,l6⟩,hb5⟩:=HSIX.out _ (HB2.out.trans (hb4.mono HB2.out.size));clear hb4 j1 j2 j3 j4 j5 j6)
  | (go_at_call 74;refine(HTX.out _).mono ?_;rintro e w6 ⟨rfl,hb6⟩)
  | (go_at_call 73;refine(HLM.out _).mono ?_;rintro e w7 ⟨rfl,rfl⟩))
 exact bodyPost_ret (v:=.tuple #[.string ⟨#[110,117,108,108]⟩,.int .i64 0]) (by simp[results,Tryz.results36,go_sem]) rfl ⟨rfl,hb5.trans (hb6.mono hb5.size)⟩
theorem litG_call (c:VC) (d:Val) (w:World) (hd:IsVal (· < w.heap.size) w c d) (hT:Tabs w) (hZ:ZTab w) :
 Calls Tryz.prog 36 #[c.v] w fun e w'=>e=.returned (.tuple #[.string (litF d).1,.int .i64 (litF d).2])∧Below w.heap.size w w':=by
 unfold litF
 by_cases h0:chkVal d=0
 ·rw[if_neg (fun h=>h.2 h0)]
  have h:=litG_ok c d w hd hT hZ h0
  rw[bSize] at h
  split<;>rename_i hl<;>simp only[hl,if_true,if_false] at h<;>exact h
 by_cases hn:isNullV d=true
 ·rw[if_neg (by rw[hn];simp)]
  have hk:c.k=0:=by
   have h:=isNullV_of hd
   rw[hn] at h
   have h2:isNullB c.k c.i c.s c.t c.ll c.fl=true:=h.symm
   unfold isNullB at h2
   simp only[Bool.and_eq_true,beq_iff_eq] at h2
   exact h2.1
  have hk2:kindV d=0:=by obtain⟨k,i,s,t,l,ns,fs⟩:=d;obtain⟨h,_⟩:=hd;exact h.1.symm.trans hk
  have ht:txt d=[110,117,108,108]:=by
   obtain⟨k,i,s,t,l,ns,fs⟩:=d
   have hk3:k=0:=hk2
   subst hk3
   simp[txt,leafT]
  rw[ht]
  exact litG_null c d w hd hT hn h0 hk
 ·rw[if_pos ⟨by simpa using hn,h0⟩]
  exact litG_bad c d w hd hT (by simpa using hn) h0
end
section
open Go Go.RowKit Go.Shelf
end
end Go.Proofs.YtmgpghoamapfgaaGreatDoor
