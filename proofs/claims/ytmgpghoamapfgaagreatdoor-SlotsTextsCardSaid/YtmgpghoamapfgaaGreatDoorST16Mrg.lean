/- A part. -/
import Derived.Test.YtmgpghoamapfgaaGreatDoorST15Mrg
import Derived.Test.YtmgpghoamapfgaaGreatDoorST9Mrg
namespace Go.Proofs.YtmgpghoamapfgaaGreatDoor
set_option linter.unusedVariables false
set_option maxRecDepth 100000
set_option maxHeartbeats 16000000
set_option linter.unusedSimpArgs false
section
open Go Go.RowKit Go.Shelf
def bG (d:Val):ByteArray × Int :=
 if cF d=false/\aR d≠0 then (⟨#[]⟩,aR d) else if 65536<(txt d).length then (⟨#[]⟩,5) else (⟨(txt d).toArray⟩,0)
theorem dC (d:Val):(bG d).1.size<=65536:=by
 unfold bG;split
 ·exact Nat.zero_le _
 ·split
  ·exact Nat.zero_le _
  ·rw[aU];omega
theorem xK (s:ByteArray) (hs:65536<s.size) (w:World):CP 73 #[.string s] w fun e w'=>e=.returned (.tuple #[.string ⟨#[]⟩,I6 5])/\w=w':=by
 have hs':(65536:Int)<(s.size:Int):=by omega
 go_enter Tryz.func73,Tryz.ntmps73
 go_wp2;exact bodyPost_ret (v:=.tuple #[.string ⟨#[]⟩,I6 5]) (by simp[results,Tryz.results73,go_sem]) rfl ⟨rfl,rfl⟩
theorem xL (s:ByteArray) (w:World):CP 73 #[.string s] w fun e w'=>e=.returned (.tuple #[.string (if 65536<s.size then ⟨#[]⟩ else s),I6 (if 65536<s.size then 5 else 0)])/\w=w':=by
 by_cases h:65536<s.size
 ·rw[if_pos h,if_pos h];exact xK s h w
 ·rw[if_neg h,if_neg h];exact lZ s ga w
theorem aMl (c:VC) (d:Val) (w:World) (hd:IsVal (· < w.heap.size) w c d) (hT:Tabs w) (hn:cF d=false) (h0:aR d≠0) :
 CP 36 #[c.v] w (Rt (.tuple #[.string ⟨#[]⟩,I6 (aR d)]) w):=by
 have hb1:BB w (w.alloc (vObj c)):=(bR w).alloc lr _;have HB1:=hid hb1;have HC:=hid (iU c d w hd hT _ hb1);obtain⟨x,hx⟩:=ez (aR d)
 rw[<-hx] at HC h0 ⊢;have hx0:(x==0)=false:=by simp;exact h0
 have hx1:(x != 0)=true:=by simp;exact h0
 have HIN:=hid (fun w=>bN c.k c.i c.s c.t c.la c.ll c.lc c.fa c.fl c.fc w);rw[<-gX hd,hn] at HIN;have HSIX:Hid (∀w2,BB (w.alloc (vObj c)) w2->Six w2 w.heap.size c/\BB w w2):=hid fun w2 h=>⟨sixOf (aB h (heap_alloc_new w _)),hb1.trans (h.mono hb1.size)⟩
 clear hd hT h0 hb1 hx hn;obtain⟨k,i,s,tt,la,ll,lc,fa,fl,fc⟩:=c;dsimp only[vObj,VC.v] at HC HIN HSIX HB1 ⊢;go_enter Tryz.func36,Tryz.ntmps36
 go_wp2_with (first
  | (go_at_call 66;refine HC.out.mono ?_;rintro e w2 ⟨rfl,hb2⟩;obtain⟨⟨j1,j2,j3,j4,j5,j6⟩,hb3⟩:=HSIX.out _ hb2)
  | (go_at_call 67;refine(HIN.out _).mono ?_;rintro e w4 ⟨rfl,hb4⟩))
 exact bodyPost_ret (v:=.tuple #[.string ⟨#[]⟩,I6 x]) (by simp[results,Tryz.results36,go_sem]) rfl ⟨rfl,hb3.trans (hb4.mono hb3.size)⟩
theorem litG_ok (c:VC) (d:Val) (w:World) (hd:IsVal (· < w.heap.size) w c d) (hT:Tabs w) (hZ:ZTab w) (h0:aR d=0) :
 CP 36 #[c.v] w fun e w'=>e=.returned (.tuple #[.string (if 65536<(⟨(txt d).toArray⟩:ByteArray).size then ⟨#[]⟩ else ⟨(txt d).toArray⟩),I6 (if 65536<(⟨(txt d).toArray⟩:ByteArray).size then 5 else 0)])/\BB w w':=by
 have hb1:BB w (w.alloc (vObj c)):=(bR w).alloc lr _;have HB1:=hid hb1;have HC:=hid (iU c d w hd hT _ hb1);rw[h0] at HC;have HTX:Hid (∀w',BB w w'->CP 74 #[c.v] w' (Rt (.string ⟨(txt d).toArray⟩) w')):=hid fun w' h=>aJ2 d c w' (aIe h0) (hd.same fun b q=>⟨Nat.lt_of_lt_of_le q h.size,h.block b q⟩) (hT.below h) (hZ.below h);obtain⟨t,ht⟩:=ez (⟨(txt d).toArray⟩:ByteArray)
 rw[<-ht] at HTX ⊢;have HLM:=hid (fun w=>xL t w);obtain⟨u,hu⟩:=ez (if 65536<t.size then ⟨#[]⟩ else t:ByteArray)
 obtain⟨v,hv⟩:=ez (if 65536<t.size then 5 else 0:Int)
 rw[<-hu,<-hv] at HLM ⊢;have HSIX:Hid (∀w2,BB (w.alloc (vObj c)) w2->Six w2 w.heap.size c/\BB w w2):=hid fun w2 h=>⟨sixOf (aB h (heap_alloc_new w _)),hb1.trans (h.mono hb1.size)⟩
 clear hd hT hZ h0 hb1 ht hu hv;obtain⟨k,i,s,tt,la,ll,lc,fa,fl,fc⟩:=c;dsimp only[vObj,VC.v] at HC HTX HSIX HB1 ⊢;go_enter Tryz.func36,Tryz.ntmps36
 go_wp2_with (first
  | (go_at_call 66;refine HC.out.mono ?_;rintro e w2 ⟨rfl,hb2⟩;obtain⟨⟨j1,j2,j3,j4,j5,j6⟩,hb3⟩:=HSIX.out _ hb2)
  | (go_at_call 74;refine(HTX.out _ hb3).mono ?_;rintro e w4 ⟨rfl,hb4⟩)
  | (go_at_call 73;refine(HLM.out _).mono ?_;rintro e w5 ⟨rfl,rfl⟩))
 exact bodyPost_ret (v:=.tuple #[.string u,I6 v]) (by simp[results,Tryz.results36,go_sem]) rfl ⟨rfl,hb3.trans (hb4.mono hb3.size)⟩
theorem aJx (c:VC) (d:Val) (w:World) (hd:IsVal (· < w.heap.size) w c d) (hT:Tabs w) (hn:cF d=true) (h0:aR d≠0) (hk:c.k=0) :
 CP 36 #[c.v] w (Rt (.tuple #[.string ⟨#[110,117,108,108]⟩,I6 0]) w):=by
 have hb1:BB w (w.alloc (vObj c)):=(bR w).alloc lr _;have HB1:=hid hb1;have HC:=hid (iU c d w hd hT _ hb1);obtain⟨x,hx⟩:=ez (aR d)
 rw[<-hx] at HC h0;have hx0:(x==0)=false:=by simp;exact h0
 have hx1:(x != 0)=true:=by simp;exact h0
 have HIN:=hid (fun w=>bN c.k c.i c.s c.t c.la c.ll c.lc c.fa c.fl c.fc w);rw[<-gX hd,hn] at HIN;have HTX:=hid (fun w=>wZ c.s c.i c.t c.la c.ll c.lc c.fa c.fl c.fc w);have HSIX:Hid (∀w2,BB (w.alloc (vObj c)) w2->Six w2 w.heap.size c/\BB w w2):=hid fun w2 h=>⟨sixOf (aB h (heap_alloc_new w _)),hb1.trans (h.mono hb1.size)⟩
 have HLM:=hid (fun w=>lZ ⟨#[110,117,108,108]⟩ gc w);clear hd hT h0 hb1 hx hn;obtain⟨k,i,s,tt,la,ll,lc,fa,fl,fc⟩:=c;dsimp only[vObj,VC.v] at HC HIN HTX HSIX HB1 hk ⊢;subst hk;go_enter Tryz.func36,Tryz.ntmps36
 go_wp2_with (first
  | (go_at_call 66;refine HC.out.mono ?_;rintro e w2 ⟨rfl,hb2⟩;obtain⟨⟨j1,j2,j3,j4,j5,j6⟩,hb3⟩:=HSIX.out _ hb2;have HB2:=hid hb2;clear hb2)
  | (go_at_call 67;refine(HIN.out _).mono ?_;rintro e w4 ⟨rfl,hb4⟩;obtain⟨⟨l1,l2,l3,l4,l5,l6⟩,hb5⟩:=HSIX.out _ (HB2.out.trans (hb4.mono HB2.out.size));clear hb4 j1 j2 j3 j4 j5 j6)
  | (go_at_call 74;refine(HTX.out _).mono ?_;rintro e w6 ⟨rfl,hb6⟩)
  | (go_at_call 73;refine(HLM.out _).mono ?_;rintro e w7 ⟨rfl,rfl⟩))
 exact bodyPost_ret (v:=.tuple #[.string ⟨#[110,117,108,108]⟩,I6 0]) (by simp[results,Tryz.results36,go_sem]) rfl ⟨rfl,hb5.trans (hb6.mono hb5.size)⟩
theorem jP (c:VC) (d:Val) (w:World) (hd:IsVal (· < w.heap.size) w c d) (hT:Tabs w) (hZ:ZTab w) :
 CP 36 #[c.v] w (Rt (.tuple #[.string (bG d).1,I6 (bG d).2]) w):=by
 unfold bG;by_cases h0:aR d=0
 ·rw[if_neg (fun h=>h.2 h0)];have h:=litG_ok c d w hd hT hZ h0;rw[aU] at h;split<;>rename_i hl<;>simp only[hl,if_true,if_false] at h<;>exact h
 by_cases hn:cF d=true
 ·rw[if_neg (by rw[hn];simp)];have hk:c.k=0:=by
   have h:=gX hd;rw[hn] at h;have h2:eM c.k c.i c.s c.t c.ll c.fl=true:=h.symm;unfold eM at h2;simp only[Bool.and_eq_true,beq_iff_eq] at h2;exact h2.1
  have hk2:zK d=0:=by obtain⟨k,i,s,t,l,ns,fs⟩:=d;obtain⟨h,_⟩:=hd;exact h.1.symm.trans hk
  have ht:txt d=[110,117,108,108]:=by
   obtain⟨k,i,s,t,l,ns,fs⟩:=d;have hk3:k=0:=hk2;subst hk3;simp[txt,dU]
  rw[ht];exact aJx c d w hd hT hn h0 hk
 ·rw[if_pos ⟨by simpa using hn,h0⟩];exact aMl c d w hd hT (by simpa using hn) h0
end
section
open Go Go.RowKit Go.Shelf
theorem aI8 {d:Val} (h:(bG d).2=0):(cF d=true\/aR d=0)/\(bG d).1.data.toList=txt d:=by
 unfold bG at *;by_cases q1:cF d=false/\aR d≠0
 ·rw[if_pos q1] at h;exact absurd h q1.2
 rw[if_neg q1] at *;by_cases q2:65536<(txt d).length
 ·rw[if_pos q2] at h;exact absurd h gc
 rw[if_neg q2];refine⟨?_,rfl⟩;cases hb:cF d
 ·right;exact Classical.byContradiction fun hc=>q1 ⟨hb,hc⟩
 ·exact .inl rfl
theorem aDe {d:Val} (h:cF d=true) (hn:mO d):d=dA:=by
 obtain⟨k,i,s,t,l,ns,fs⟩:=d;simp only[cF,eM,Bool.and_eq_true,beq_iff_eq,List.isEmpty_iff] at h;have h1:=hn.1;obtain⟨hk,hi,hs,ht,hl,hf⟩:=h;rw[ByteArray.toList_eq] at ht;have ht':t=⟨#[]⟩:=ByteArray.ext (Array.ext' ht);have hl':l=[]:=List.eq_nil_of_length_eq_zero ga;have hf':fs=[]:=List.eq_nil_of_length_eq_zero ga;have hn':ns=[]:=List.eq_nil_of_length_eq_zero (by rw[h1,hf'];rfl);subst hk hi hs ht' hl' hf' hn';rfl
theorem uZ {d:Val} (h:(bG d).2=0) (hn:mO d):eX (bG d).1=(d,0,0):=by
 obtain⟨h1,h2⟩:=aI8 h;refine aM6 h2 (dC d) ?_;rcases h1 with h1 | h1
 ·exact .inr (aDe h1 hn)
 ·exact .inl ⟨h1,hn⟩
end
end Go.Proofs.YtmgpghoamapfgaaGreatDoor
