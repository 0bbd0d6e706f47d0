/- A part. -/
import Derived.Test.YteladbdfiannjaaGreatDoorSX6Mrg
import Derived.Test.YteladbdfiannjaaGreatDoorSX11Mrg
import Derived.Test.YteladbdfiannjaaGreatDoorSX12Mrg
namespace Go.Proofs.YteladbdfiannjaaGreatDoor
set_option linter.unusedVariables false
set_option maxRecDepth 100000
set_option maxHeartbeats 64000000
set_option linter.unusedSimpArgs false
section
open Go Go.RowKit Go.Shelf
def ZTab (w:World):Prop:=TabAt 7 Lib.deBruijn64tab w
theorem ZTab.below {w w':World} (h:ZTab w) (hb:Below w.heap.size w w'):ZTab w':=fun j hj =>
 (World.cell?_of_block (w:=w) (a:=⟨7,j,none⟩) (hb.block _ (World.block_lt_of_cell? w _ (h j hj)))).trans (h j hj)
theorem nH (w:World):Calls Tryz.prog 301 #[.int .i64 16] w fun e w'=>e=.returned (.bool true)∧w=w':=by
 go_enter Tryz.func301,Tryz.ntmps301
 go_wp2
 go_ret
 exact⟨rfl,rfl⟩
theorem pV (w:World) (hZ:ZTab w):Calls Tryz.prog 302 #[.int .u64 16] w fun e w'=>e=.returned (.int .i64 4)∧w=w':=by
 refine(Tryz.bits_TrailingZeros 16 (by decide) w (fun _=>hZ)).mono fun e w' ⟨he,hw⟩=>⟨?_,hw.symm⟩
 rw[he,show Lib.ctz 64 16=4 by decide +kernel];rfl
def digB:ByteArray:=⟨#[48,49,50,51,52,53,54,55,56,57,97,98,99,100,101,102,103,104,105,106,107,108,109,110,111,112,113,114,115,116,117,118,119,120,121,122]⟩
theorem xV:∀c:Nat,(h:c<16)→(digB[c]'(Nat.lt_of_lt_of_le h (by decide))).toNat=(iM c).toNat:=by decide
theorem and15 (c:Nat) (hc:c<128):bits BinOp.and IntKind.u64 (c:Int) 15=((c % 16:Nat):Int):=by
 have h:∀c:Fin 128,bits BinOp.and IntKind.u64 ((c.val:Nat):Int) 15=((c.val % 16:Nat):Int):=by decide +kernel
 exact h ⟨c,hc⟩
theorem uQ (c:Nat) (hc:c<16) (w:World) (hZ:ZTab w) :
 Calls Tryz.prog 255 #[.slice none 0 0,.int .u64 (c:Int),.int .i64 16,.bool false,.bool false] w fun e w'=>e=.returned (.tuple #[.slice none 0 0,.string ⟨#[iM c]⟩])∧Below w.heap.size w w':=by
 have HZ:=hid (fun w' (h:Below w.heap.size w w')=>pV w' (hZ.below h))
 have HD:=hid (xV c hc)
 have q16:¬ (16:Int)≤(c:Int):=by omega
 have q0:(0:Int)≤(c:Int):=by omega
 have q36:(c:Int)<36:=by omega
 have q36':c<36:=by omega
 go_enter Tryz.func255,Tryz.ntmps255
 go_wp2_with (first
  | (go_at_call 302;refine(HZ.out _ ((bR w).alloc lr _)).mono ?_;rintro e w' ⟨rfl,rfl⟩)
  | (go_at_call 301;refine(nH _).mono ?_;rintro e w' ⟨rfl,rfl⟩))
 have hA0:Tryz.zeroCells343.size=65:=by kernel_rfl
 generalize Tryz.zeroCells343=A at hA0 ⊢
 go_loopw [1,13] (fun u i wr=>u=.int .u64 (c:Int)∧i=.int .i64 65∧wr=w.alloc (.cells A 343)) (fun u _ _=>0)
 case atStart=>exact⟨rfl,rfl,rfl⟩
 case round =>
  obtain⟨rfl,rfl,rfl⟩:=hrel
  go_wp2
  have hcv:=fun W h=>run_convert_bytes_back (P:=Tryz.prog) W 137 9 5 ⟨w.heap.size,64,none⟩ 1 [iM c] Tryz.underlying137 Tryz.underlying5 Tryz.underlying9 h
  simp only[List.length_singleton] at hcv
  rw[hcv _ (fun j hj=>by
   have hj0:j=0:=by simpa using hj
   subst hj0
   rw[show(⟨w.heap.size,64,none⟩:Addr).add 0=⟨w.heap.size,64,none⟩ from rfl,aA (heap_alloc_new w _) 64]
   have hd:=HD.out
   simp only[digB] at hd
   simp[hA0,hd])]
  simp only[Result.andThen]
  rw[Oper.upon_value]
  go_wp2
  exact bodyPost_ret (v:=.tuple #[.slice none 0 0,.string ⟨#[iM c]⟩]) (by simp[results,Tryz.results255,go_sem]) rfl ⟨rfl,(bR w).alloc lr _⟩
theorem uP (c:Nat) (h16:16≤c) (hc:c<128) (w:World) (hZ:ZTab w) :
 Calls Tryz.prog 255 #[.slice none 0 0,.int .u64 (c:Int),.int .i64 16,.bool false,.bool false] w fun e w'=>e=.returned (.tuple #[.slice none 0 0,.string ⟨#[iM (c / 16),iM (c % 16)]⟩])∧Below w.heap.size w w':=by
 have HZ:=hid (fun w' (h:Below w.heap.size w w')=>pV w' (hZ.below h))
 obtain⟨q,hq⟩:∃q,q=c / 16:=⟨_,rfl⟩
 obtain⟨r,hr⟩:∃r,r=c % 16:=⟨_,rfl⟩
 have hq16:q<16:=by omega
 have hr16:r<16:=by omega
 have HD:=hid (And.intro (xV q hq16) (xV r hr16))
 have ha:=and15 c hc
 rw[←hr] at ha
 have q16:(16:Int)≤(c:Int):=by omega
 have p16:¬ (16:Int)≤(q:Int):=by omega
 have q0:(0:Int)≤(q:Int):=by omega
 have r0:(0:Int)≤(r:Int):=by omega
 have q36:(q:Int)<36:=by omega
 have r36:(r:Int)<36:=by omega
 have q36':q<36:=by omega
 have r36':r<36:=by omega
 have hsh:((c:Int) / 2 ^ 4)=(q:Int):=by omega
 have hsh2:((c:Int) / 16)=(q:Int):=by omega
 rw[←hq,←hr]
 clear hq hr
 go_enter Tryz.func255,Tryz.ntmps255
 go_wp2_with (first
  | (go_at_call 302;refine(HZ.out _ ((bR w).alloc lr _)).mono ?_;rintro e w' ⟨rfl,rfl⟩)
  | (go_at_call 301;refine(nH _).mono ?_;rintro e w' ⟨rfl,rfl⟩))
 have hA0:Tryz.zeroCells343.size=65:=by kernel_rfl
 generalize Tryz.zeroCells343=A at hA0 ⊢
 obtain⟨A',hA'⟩:∃A',A'=A.setIfInBounds 64 (.int .u8 ((iM r).toNat:Int)):=⟨_,rfl⟩
 have hA1:A'.size=65:=by rw[hA'];simp[hA0]
 have HA:=hid hA'
 clear hA'
 go_loopw [1,13] (fun u i wr=>(u=.int .u64 (c:Int)∧i=.int .i64 65∧wr=w.alloc (.cells A 343))∨(u=.int .u64 (q:Int)∧i=.int .i64 64∧wr=w.alloc (.cells A' 343))) (fun u _ _=>(intOf u).toNat)
 case atStart=>exact .inl ⟨rfl,rfl,rfl⟩
 case round =>
  rcases hrel with ⟨rfl,rfl,rfl⟩ | ⟨rfl,rfl,rfl⟩
  ·go_wp2
   obtain⟨hd,he⟩:=HD.out
   simp only[digB] at hd he
   refine⟨.inr ⟨rfl,rfl,?_⟩,?_⟩
   ·rw[HA.out,←he]
   ·simp[intOf];omega
  ·go_wp2
   have hcv:=fun W h=>run_convert_bytes_back (P:=Tryz.prog) W 137 9 5 ⟨w.heap.size,63,none⟩ 2 [iM q,iM r] Tryz.underlying137 Tryz.underlying5 Tryz.underlying9 h
   simp only[List.length_cons,List.length_nil,Nat.zero_add,Nat.reduceAdd] at hcv
   rw[hcv _ (fun j hj=>by
    obtain⟨hd,he⟩:=HD.out
    simp only[digB] at hd he
    have hj2:j<2:=hj
    have hj0:j=0∨j=1:=by omega
    rcases hj0 with rfl | rfl
    ·rw[show(⟨w.heap.size,63,none⟩:Addr).add 0=⟨w.heap.size,63,none⟩ from rfl,aA (heap_alloc_new w _) 63]
     rw[Array.getElem?_setIfInBounds]
     simp[hA1,hd]
    ·rw[show(⟨w.heap.size,63,none⟩:Addr).add 1=⟨w.heap.size,64,none⟩ from rfl,aA (heap_alloc_new w _) 64]
     rw[Array.getElem?_setIfInBounds,HA.out,Array.getElem?_setIfInBounds]
     simp[hA0])]
   simp only[Result.andThen]
   rw[Oper.upon_value]
   go_wp2
   exact bodyPost_ret (v:=.tuple #[.slice none 0 0,.string ⟨#[iM q,iM r]⟩]) (by simp[results,Tryz.results255,go_sem]) rfl ⟨rfl,(bR w).alloc lr _⟩
theorem sG (c:Nat) (hc:c<128) (w:World) (hZ:ZTab w) :
 Calls Tryz.prog 255 #[.slice none 0 0,.int .u64 (c:Int),.int .i64 16,.bool false,.bool false] w fun e w'=>e=.returned (.tuple #[.slice none 0 0,.string ⟨(pG c).toArray⟩])∧Below w.heap.size w w':=by
 unfold pG
 by_cases h:c<16
 ·rw[if_pos h];exact uQ c h w hZ
 ·rw[if_neg h];exact uP c (by omega) hc w hZ
theorem aAn (c:Nat) (hc:c<128) (w:World) (hZ:ZTab w) :
 Calls Tryz.prog 197 #[.int .i64 (c:Int),.int .i64 16] w fun e w'=>e=.returned (.string ⟨(pG c).toArray⟩)∧Below w.heap.size w w':=by
 have HB:=hid (sG c hc w hZ)
 have wc:IntKind.u64.wrap (c:Int)=(c:Int):=by rw[IntKind.wrap_u64];omega
 have c0:¬ (c:Int)<0:=by omega
 clear hZ hc
 go_enter Tryz.func197,Tryz.ntmps197
 go_wp2_with (go_at_call 255;refine HB.out.mono ?_;rintro e w1 ⟨rfl,hb1⟩)
 go_ret
 exact⟨rfl,hb1⟩
theorem oA (c:Nat) (hc:c<128) (w:World) (hZ:ZTab w) :
 Calls Tryz.prog 145 #[.int .i64 (c:Int),.int .i64 16] w fun e w'=>e=.returned (.string ⟨(pG c).toArray⟩)∧Below w.heap.size w w':=by
 have HB:=hid (aAn c hc w hZ)
 clear hZ hc
 go_enter Tryz.func145,Tryz.ntmps145
 go_wp2_with (go_at_call 197;refine HB.out.mono ?_;rintro e w1 ⟨rfl,hb1⟩)
 go_ret
 exact⟨rfl,hb1⟩
end
section
open Go Go.RowKit Go.Shelf
theorem aD5 (s:ByteArray) (k:Nat) (h:k<s.size):Lib.byteCells (34 :: (s.data.toList.take (k+1)).flatMap gE)=Lib.byteCells (34 :: (s.data.toList.take k).flatMap gE)++Lib.byteCells (gE s[k]):=by
 rw[List.take_add_one,aBr s k h]
 simp[Lib.byteCells]
theorem esc_len (s:ByteArray) (k:Nat) (h:k≤s.size) (hs:s.size≤1000000):(Lib.byteCells (34 :: (s.data.toList.take k).flatMap gE)).length≤6000001:=by
 have h1:=fH gE 6 uT (s.data.toList.take k)
 have h2:(s.data.toList.take k).length≤k:=by simp;omega
 simp only[Lib.byteCells,List.length_map,List.length_cons]
 omega
theorem esc_q (b:UInt8) (c:Nat) (h:b.toNat=c) (h1:c=34∨c=92):Lib.byteCells (gE b)=[.int .u8 92]++[.int .u8 (c:Int)]:=by
 rw[gE,if_pos (by rw[h];exact h1)];simp[Lib.byteCells,h]
theorem esc_n (b:UInt8) (h:b.toNat=10):Lib.byteCells (gE b)=Lib.strCells ⟨#[92,110]⟩:=by
 rw[gE,if_neg (by omega),if_pos h];rfl
theorem esc_r (b:UInt8) (h:b.toNat=13):Lib.byteCells (gE b)=Lib.strCells ⟨#[92,114]⟩:=by
 rw[gE,if_neg (by omega),if_neg (by omega),if_pos h];rfl
theorem esc_t (b:UInt8) (h:b.toNat=9):Lib.byteCells (gE b)=Lib.strCells ⟨#[92,116]⟩:=by
 rw[gE,if_neg (by omega),if_neg (by omega),if_neg (by omega),if_pos h];rfl
theorem esc_c (b:UInt8) (c:Nat) (h:b.toNat=c) (h1:(c<32∧c≠10∧c≠13∧c≠9)∨c=127) (x:ByteArray) (hx:x=⟨(pG c).toArray⟩):Lib.byteCells (gE b)=Lib.strCells (⟨#[92,117,123]⟩++x++⟨#[125]⟩):=by
 rw[gE,if_neg (by omega),if_neg (by omega),if_neg (by omega),if_neg (by omega),if_pos (by omega),h,hx];simp[Lib.strCells,Lib.byteCells,ByteArray.data_append]
theorem esc_p (b:UInt8) (c:Nat) (h:b.toNat=c) (h1:32≤c∧c≠34∧c≠92∧c≠127):Lib.byteCells (gE b)=[.int .u8 (c:Int)]:=by
 rw[gE,if_neg (by omega),if_neg (by omega),if_neg (by omega),if_neg (by omega),if_neg (by omega)];simp[Lib.byteCells,h]
theorem fB (s:ByteArray) (w:World) (hs:s.size≤1000000) (hT:Tabs w) (hZ:ZTab w) :
 Calls Tryz.prog 76 #[.string s] w fun e w'=>e=.returned (.string ⟨(bZ s.data.toList).toArray⟩)∧Below w.heap.size w w':=by
 have HBN:=hid (mS w)
 have HTZ:=hid hZ
 have HB0:=hid (show Below w.heap.size w (w.alloc (.cells #[.pointer none,.slice none 0 0] 139)) from(bR w).alloc lr _)
 have HWB:=hid (eJ w.heap.size w.heap.size [] 34 (w.alloc (.cells #[.pointer none,.slice none 0 0] 139)) (mS w) (by simp) (by simp))
 clear hT hZ
 go_enter Tryz.func76,Tryz.ntmps76
 go_wp2_with (go_at_call 144;refine HWB.out.mono ?_;rintro e w1 ⟨rfl,h1,hb1,hk1⟩)
 have HH1:=hid h1
 have HB1:=hid hb1
 clear h1 hb1 hk1
 go_loopw [9] (fun i wr=>∃k:Nat,k≤s.size∧i=.int .i64 k∧IsBld w.heap.size w.heap.size (Lib.byteCells (34 :: (s.data.toList.take k).flatMap gE)) wr∧Below w.heap.size w1 wr) (fun i _=>s.size-(intOf i).toNat)
 case atStart=>exact⟨0,Nat.zero_le _,rfl,.inr (by simpa [Lib.byteCells] using HH1.out),Below.refl _ _⟩
 case round =>
  obtain⟨k,hk,rfl,hbl,hbr⟩:=hrel
  obtain⟨wp,rfl⟩:∃w1:World,w1=wr:=⟨_,rfl⟩
  have hsz:w.heap.size≤wp.heap.size:=by have h1:=(HB0.out.trans HB1.out).size;have h2:=hbr.size;omega
  have HTW:=hid (HTZ.out.below ((HB0.out.trans (HB1.out.mono (by simp))).trans hbr))
  have hln6:=esc_len s k hk hs
  by_cases hlt:k<s.size
  ·have hlt':(k:Int)<(s.size:Int):=by omega
   have hk0:(0:Int)≤(k:Int):=by omega
   have HST2:=hid (aD5 s k hlt)
   have HLN:=hid hln6
   have HW92:=hid (eJ w.heap.size w.heap.size _ 92 wp hbl (by omega) hsz)
   have HWS:=hid (fun (x:ByteArray) (hx:x.size≤6)=>jK w.heap.size w.heap.size _ x wp hbl (by omega) hsz)
   have HWS2:=hid (fun (x:ByteArray) (w3:World) (h3:Below wp.heap.size wp w3) (hx:x.size≤6)=>jK w.heap.size w.heap.size _ x w3 (hbl.ext h3) (by omega) (Nat.le_trans hsz h3.size))
   have hWC:=fun c:Int=>eJ w.heap.size w.heap.size _ c wp hbl (by omega) hsz
   have HWCA:=hid hWC
   have HBR:=hid hbr
   have HSZ:=hid hsz
   clear hbl hbr hsz hWC hln6
   go_upto_region 8 with (fail)
   have h255:s[k].toNat<256:=s[k].toNat_lt
   obtain⟨c,hc⟩:∃c:Nat,s[k].toNat=c:=⟨_,rfl⟩
   rw[hc] at h255 ⊢
   have HWC:=hid (HWCA.out (c:Int))
   have HC:=hid hc
   have hcase:c=34∨c=92∨c=10∨c=13∨c=9∨(c<32∧c≠10∧c≠13∧c≠9)∨c=127∨(32≤c∧c≠34∧c≠92∧c≠127):=by omega
   clear hc
   rcases hcase with hcase | hcase | hcase | hcase | hcase | hcase | hcase | hcase
   ·have q34:((c:Int)==34)=true:=by simp;omega
    have q92:((c:Int)==92)=false:=by simp;omega
    have q10:((c:Int)==10)=false:=by simp;omega
    have q13:((c:Int)==13)=false:=by simp;omega
    have q9:((c:Int)==9)=false:=by simp;omega
    have q127:((c:Int)==127)=false:=by simp;omega
    have q32:¬ (c:Int)<32:=by omega
    have hE:=esc_q s[k] c HC.out (by omega)
    have HE:=hid hE;clear hE hcase
    go_wp2_with (first
     | (go_at_call 144;refine(eJ w.heap.size w.heap.size _ (c:Int) w3 (.inr h3) (by have:=HLN.out;rw[List.length_append];simp only[List.length_cons,List.length_nil];omega) (Nat.le_trans HSZ.out hb3.size)).mono ?_;rintro e w4 ⟨rfl,h4,hb4,hk4⟩)
     | (go_at_call 144;refine HW92.out.mono ?_;rintro e w3 ⟨rfl,h3,hb3,hk3⟩))
    go_roundw
    case rel=>exact⟨k+1,by omega,by go_num,.inr (by rw[HST2.out,HE.out,←List.append_assoc];exact h4),HBR.out.trans (hb3.trans hb4)⟩
    case measure=>simp[intOf];omega
   ·have q34:((c:Int)==34)=false:=by simp;omega
    have q92:((c:Int)==92)=true:=by simp;omega
    have q10:((c:Int)==10)=false:=by simp;omega
    have q13:((c:Int)==13)=false:=by simp;omega
    have q9:((c:Int)==9)=false:=by simp;omega
    have q127:((c:Int)==127)=false:=by simp;omega
    have q32:¬ (c:Int)<32:=by omega
    have hE:=esc_q s[k] c HC.out (by omega)
    have HE:=hid hE;clear hE hcase
    go_wp2_with (first
     | (go_at_call 144;refine(eJ w.heap.size w.heap.size _ (c:Int) w3 (.inr h3) (by have:=HLN.out;rw[List.length_append];simp only[List.length_cons,List.length_nil];omega) (Nat.le_trans HSZ.out hb3.size)).mono ?_;rintro e w4 ⟨rfl,h4,hb4,hk4⟩)
     | (go_at_call 144;refine HW92.out.mono ?_;rintro e w3 ⟨rfl,h3,hb3,hk3⟩))
    go_roundw
    case rel=>exact⟨k+1,by omega,by go_num,.inr (by rw[HST2.out,HE.out,←List.append_assoc];exact h4),HBR.out.trans (hb3.trans hb4)⟩
    case measure=>simp[intOf];omega
   ·have q34:((c:Int)==34)=false:=by simp;omega
    have q92:((c:Int)==92)=false:=by simp;omega
    have q10:((c:Int)==10)=true:=by simp;omega
    have q13:((c:Int)==13)=false:=by simp;omega
    have q9:((c:Int)==9)=false:=by simp;omega
    have q127:((c:Int)==127)=false:=by simp;omega
    have q32:(c:Int)<32:=by omega
    have hE:=esc_n s[k] (HC.out.trans (by omega))
    have HE:=hid hE;clear hE hcase
    go_wp2_with (go_at_call 81;refine(HWS.out ⟨#[92,110]⟩ (by decide)).mono ?_;rintro e w3 ⟨rfl,h3,hb3,hk3⟩)
    go_roundw
    case rel=>exact⟨k+1,by omega,by go_num,.inr (by rw[HST2.out,HE.out];exact h3),HBR.out.trans hb3⟩
    case measure=>simp[intOf];omega
   ·have q34:((c:Int)==34)=false:=by simp;omega
    have q92:((c:Int)==92)=false:=by simp;omega
    have q10:((c:Int)==10)=false:=by simp;omega
    have q13:((c:Int)==13)=true:=by simp;omega
    have q9:((c:Int)==9)=false:=by simp;omega
    have q127:((c:Int)==127)=false:=by simp;omega
    have q32:(c:Int)<32:=by omega
    have hE:=esc_r s[k] (HC.out.trans (by omega))
    have HE:=hid hE;clear hE hcase
    go_wp2_with (go_at_call 81;refine(HWS.out ⟨#[92,114]⟩ (by decide)).mono ?_;rintro e w3 ⟨rfl,h3,hb3,hk3⟩)
    go_roundw
    case rel=>exact⟨k+1,by omega,by go_num,.inr (by rw[HST2.out,HE.out];exact h3),HBR.out.trans hb3⟩
    case measure=>simp[intOf];omega
   ·have q34:((c:Int)==34)=false:=by simp;omega
    have q92:((c:Int)==92)=false:=by simp;omega
    have q10:((c:Int)==10)=false:=by simp;omega
    have q13:((c:Int)==13)=false:=by simp;omega
    have q9:((c:Int)==9)=true:=by simp;omega
    have q127:((c:Int)==127)=false:=by simp;omega
    have q32:(c:Int)<32:=by omega
    have hE:=esc_t s[k] (HC.out.trans (by omega))
    have HE:=hid hE;clear hE hcase
    go_wp2_with (go_at_call 81;refine(HWS.out ⟨#[92,116]⟩ (by decide)).mono ?_;rintro e w3 ⟨rfl,h3,hb3,hk3⟩)
    go_roundw
    case rel=>exact⟨k+1,by omega,by go_num,.inr (by rw[HST2.out,HE.out];exact h3),HBR.out.trans hb3⟩
    case measure=>simp[intOf];omega
   ·have q34:((c:Int)==34)=false:=by simp;omega
    have q92:((c:Int)==92)=false:=by simp;omega
    have q10:((c:Int)==10)=false:=by simp;omega
    have q13:((c:Int)==13)=false:=by simp;omega
    have q9:((c:Int)==9)=false:=by simp;omega
    have q127:((c:Int)==127)=false:=by simp;omega
    have q32:(c:Int)<32:=by omega
    obtain⟨x,hx⟩:∃x:ByteArray,x=⟨(pG c).toArray⟩:=⟨_,rfl⟩
    have hxz:x.size≤2:=by rw[hx,cD];exact nT c
    have HFI:=hid (oA c (by omega) wp (HTW.out))
    rw[←hx] at HFI
    have hE:=esc_c s[k] c HC.out (by omega) x hx
    have hxs:(⟨#[92,117,123]⟩++x++⟨#[125]⟩:ByteArray).size≤6:=by rw[ByteArray.size_append,ByteArray.size_append];have:(⟨#[92,117,123]⟩:ByteArray).size=3:=rfl;have:(⟨#[125]⟩:ByteArray).size=1:=rfl;omega
    have HXS:=hid hxs;have HE:=hid hE;clear hE hcase hx hxs
    go_wp2_with (first
     | (go_at_call 81;refine(HWS2.out _ w3 HB3.out HXS.out).mono ?_;rintro e w4 ⟨rfl,h4,hb4,hk4⟩)
     | (go_at_call 145;refine HFI.out.mono ?_;rintro e w3 ⟨rfl,hb3⟩;have HB3:=hid hb3;clear hb3))
    go_roundw
    case rel=>exact⟨k+1,by omega,by go_num,.inr (by rw[HST2.out,HE.out];exact h4),HBR.out.trans ((HB3.out.mono HSZ.out).trans hb4)⟩
    case measure=>simp[intOf];omega
   ·have q34:((c:Int)==34)=false:=by simp;omega
    have q92:((c:Int)==92)=false:=by simp;omega
    have q10:((c:Int)==10)=false:=by simp;omega
    have q13:((c:Int)==13)=false:=by simp;omega
    have q9:((c:Int)==9)=false:=by simp;omega
    have q127:((c:Int)==127)=true:=by simp;omega
    have q32:¬ (c:Int)<32:=by omega
    obtain⟨x,hx⟩:∃x:ByteArray,x=⟨(pG c).toArray⟩:=⟨_,rfl⟩
    have hxz:x.size≤2:=by rw[hx,cD];exact nT c
    have HFI:=hid (oA c (by omega) wp (HTW.out))
    rw[←hx] at HFI
    have hE:=esc_c s[k] c HC.out (by omega) x hx
    have hxs:(⟨#[92,117,123]⟩++x++⟨#[125]⟩:ByteArray).size≤6:=by rw[ByteArray.size_append,ByteArray.size_append];have:(⟨#[92,117,123]⟩:ByteArray).size=3:=rfl;have:(⟨#[125]⟩:ByteArray).size=1:=rfl;omega
    have HXS:=hid hxs;have HE:=hid hE;clear hE hcase hx hxs
    go_wp2_with (first
     | (go_at_call 81;refine(HWS2.out _ w3 HB3.out HXS.out).mono ?_;rintro e w4 ⟨rfl,h4,hb4,hk4⟩)
     | (go_at_call 145;refine HFI.out.mono ?_;rintro e w3 ⟨rfl,hb3⟩;have HB3:=hid hb3;clear hb3))
    go_roundw
    case rel=>exact⟨k+1,by omega,by go_num,.inr (by rw[HST2.out,HE.out];exact h4),HBR.out.trans ((HB3.out.mono HSZ.out).trans hb4)⟩
    case measure=>simp[intOf];omega
   ·have q34:((c:Int)==34)=false:=by simp;omega
    have q92:((c:Int)==92)=false:=by simp;omega
    have q10:((c:Int)==10)=false:=by simp;omega
    have q13:((c:Int)==13)=false:=by simp;omega
    have q9:((c:Int)==9)=false:=by simp;omega
    have q127:((c:Int)==127)=false:=by simp;omega
    have q32:¬ (c:Int)<32:=by omega
    have hE:=esc_p s[k] c HC.out (by omega)
    have HE:=hid hE;clear hE hcase
    go_wp2_with (go_at_call 144;refine HWC.out.mono ?_;rintro e w3 ⟨rfl,h3,hb3,hk3⟩)
    go_roundw
    case rel=>exact⟨k+1,by omega,by go_num,.inr (by rw[HST2.out,HE.out];exact h3),HBR.out.trans hb3⟩
    case measure=>simp[intOf];omega
  ·obtain rfl:k=s.size:=by omega
   have hln:s.data.toList.length=s.size:=rfl
   have hall:s.data.toList.take s.size=s.data.toList:=List.take_of_length_le (by rw[hln];exact Nat.le_refl _)
   rw[hall] at hbl hln6
   have hbw:Below w.heap.size w wp:=(HB0.out.trans (HB1.out.mono (by simp))).trans hbr
   have HW2:=hid (eJ w.heap.size w.heap.size _ 34 wp hbl (by omega) hsz)
   clear hln
   have HST:Hid (∀w' ,IsBld w.heap.size w.heap.size (Lib.byteCells (bZ s.data.toList)) w'→w.heap.size≤w'.heap.size→Calls Tryz.prog 84 #[.pointer (some ⟨w.heap.size,0,none⟩)] w' fun e w2=>e=.returned (.string ⟨(bZ s.data.toList).toArray⟩)∧Below w.heap.size w' w2):=hid fun w' h hn=>(Tryz.Builder_String_any_k _ _ _ w' h hn).mono fun e w2 ⟨he,_,hb,_⟩=>⟨he,hb⟩
   have HBW:=hid hbw
   have HSZ:=hid hsz
   clear hbl hbr hall hbw hln6
   go_wp2_with (first
    | (go_at_call 84;refine(HST.out w4 (.inr (by have e:Lib.byteCells (bZ s.data.toList)=Lib.byteCells (34 :: s.data.toList.flatMap gE)++[.int .u8 34]:=(by simp[bZ,Lib.byteCells]);rw[e];exact h4)) (Nat.le_trans HSZ.out hb4.size)).mono ?_;rintro e w5 ⟨rfl,hb5⟩)
    | (go_at_call 144;refine HW2.out.mono ?_;rintro e w4 ⟨rfl,h4,hb4,hk4⟩))
   go_ret
   exact⟨rfl,(HBW.out.trans hb4).trans hb5⟩
end
section
open Go Go.RowKit Go.Shelf
def lowB:ByteArray:=⟨#[48,49,50,51,52,53,54,55,56,57,97,98,99,100,101,102]⟩
theorem aCn:∀c:Nat,c<16→lowB.extract c (c+1)=⟨#[iM c]⟩:=by decide
theorem aAx (s:ByteArray) (k:Nat) (h:k<s.size):Lib.byteCells ((s.data.toList.take (k+1)).flatMap gU)=Lib.byteCells ((s.data.toList.take k).flatMap gU)++Lib.byteCells (gU s[k]):=by
 rw[List.take_add_one,aBr s k h]
 simp[Lib.byteCells]
theorem aDe (s:ByteArray) (k:Nat) (h:k≤s.size) (hs:s.size≤1000000):(Lib.byteCells ((s.data.toList.take k).flatMap gU)).length≤2000000:=by
 have h1:=fH gU 2 (fun c=>by simp[gU]) (s.data.toList.take k)
 have h2:(s.data.toList.take k).length≤k:=by simp;omega
 simp only[Lib.byteCells,List.length_map]
 omega
theorem fA (s:ByteArray) (w:World) (hs:s.size≤1000000) :
 Calls Tryz.prog 74 #[.string s] w fun e w'=>e=.returned (.string ⟨(lM s.data.toList).toArray⟩)∧Below w.heap.size w w':=by
 have HBN:=hid (mS w)
 have HB0:=hid (show Below w.heap.size w (w.alloc (.cells #[.pointer none,.slice none 0 0] 139)) from(bR w).alloc lr _)
 go_enter Tryz.func74,Tryz.ntmps74
 go_wp2
 go_loopw [7] (fun i wr=>∃k:Nat,k≤s.size∧i=.int .i64 k∧IsBld w.heap.size w.heap.size (Lib.byteCells ((s.data.toList.take k).flatMap gU)) wr∧Below w.heap.size (w.alloc (.cells #[.pointer none,.slice none 0 0] 139)) wr) (fun i _=>s.size-(intOf i).toNat)
 case atStart=>exact⟨0,Nat.zero_le _,rfl,by simpa [Lib.byteCells] using HBN.out,Below.refl _ _⟩
 case round =>
  obtain⟨k,hk,rfl,hbl,hbr⟩:=hrel
  obtain⟨wp,rfl⟩:∃w1:World,w1=wr:=⟨_,rfl⟩
  have hsz:w.heap.size≤wp.heap.size:=by have h1:=HB0.out.size;have h2:=hbr.size;omega
  have hln6:=aDe s k hk hs
  by_cases hlt:k<s.size
  ·have hlt':(k:Int)<(s.size:Int):=by omega
   have hk0:(0:Int)≤(k:Int):=by omega
   have HST2:=hid (aAx s k hlt)
   have HWS:=hid (fun (x:ByteArray) (w3:World) (h3:Below wp.heap.size wp w3) (hx:x.size≤6)=>jK w.heap.size w.heap.size _ x w3 (hbl.ext h3) (by omega) (Nat.le_trans hsz h3.size))
   have HBR:=hid hbr
   have HSZ:=hid hsz
   clear hbl hbr hsz hln6
   have h255:s[k].toNat<256:=s[k].toNat_lt
   obtain⟨q,hq⟩:∃q:Nat,q=s[k].toNat / 16:=⟨_,rfl⟩
   obtain⟨r,hr⟩:∃r:Nat,r=s[k].toNat % 16:=⟨_,rfl⟩
   have hq16:q<16:=by omega
   have hr16:r<16:=by omega
   have wq:IntKind.u8.wrap ((s[k].toNat:Int) / 16)=(q:Int):=by rw[IntWalk.u8_in _ (by omega)];omega
   have wr2:(s[k].toNat:Int).tmod 16=(r:Int):=by rw[Int.tmod_eq_emod_of_nonneg (by omega)];omega
   have wq1:IntKind.u8.wrap ((q:Int)+1)=(q:Int)+1:=IntWalk.u8_in _ (by omega)
   have wr1:IntKind.u8.wrap ((r:Int)+1)=(r:Int)+1:=IntWalk.u8_in _ (by omega)
   have lq:(q:Int)+1≤16:=by omega
   have lr:(r:Int)+1≤16:=by omega
   have lq0:(0:Int)≤(q:Int)+1:=by omega
   have lr0:(0:Int)≤(r:Int)+1:=by omega
   have lq1:(q:Int)≤(q:Int)+1:=by omega
   have lr1:(r:Int)≤(r:Int)+1:=by omega
   obtain⟨x,hx⟩:∃x:ByteArray,(⟨#[48,49,50,51,52,53,54,55,56,57,97,98,99,100,101,102]⟩:ByteArray).extract q (q+1)=x:=⟨_,rfl⟩
   obtain⟨y,hy⟩:∃y:ByteArray,(⟨#[48,49,50,51,52,53,54,55,56,57,97,98,99,100,101,102]⟩:ByteArray).extract r (r+1)=y:=⟨_,rfl⟩
   have ex:x=⟨#[iM q]⟩:=by rw[←hx];exact aCn q hq16
   have ey:y=⟨#[iM r]⟩:=by rw[←hy];exact aCn r hr16
   have hxz:x.size=1:=by rw[ex];rfl
   have hyz:y.size=1:=by rw[ey];rfl
   have HCD:=hid (show x++y=⟨(gU s[k]).toArray⟩ by rw[ex,ey,gU,←hq,←hr];rfl)
   have hxy:x.size+y.size≤9223372036854775807:=by omega
   have HXY:=hid (show(x++y).size≤6 by rw[ByteArray.size_append];omega)
   clear hq hr ex ey
   go_upto_region 5 with (fail)
   refine lQ 21 (fun w'=>Below wp.heap.size wp w') (by kernel_rfl) (by kernel_rfl) (by kernel_rfl) (by decide) ((Below.refl _ wp).drew) (fun hS=>?_)
   simp only[zdm,zdn,zdp,zdq]
   refine tkQ 0 (v:=?_) ?_ hS ?_;rotate_left;· intro w' hw';(try dsimp only at hw');go_simp;(try rfl)
   simp only[Act.put,pq]
   refine tkQ 1 (v:=?_) ?_ hS ?_;rotate_left;· intro w' hw';(try dsimp only at hw');go_simp;(try rfl)
   simp only[Act.put,pq]
   refine tkQ 2 (v:=?_) ?_ hS ?_;rotate_left;· intro w' hw';(try dsimp only at hw');go_simp;(try rfl)
   simp only[Act.put,pq]
   refine tkQ 3 (v:=?_) ?_ hS ?_;rotate_left;· intro w' hw';(try dsimp only at hw');go_simp;(try rfl)
   simp only[Act.put,pq]
   refine tkQ 4 (v:=?_) ?_ hS ?_;rotate_left;· intro w' hw';(try dsimp only at hw');go_simp;(try rfl)
   simp only[Act.put,pq]
   refine tkQ 5 (v:=?_) ?_ hS ?_;rotate_left;· intro w' hw';(try dsimp only at hw');go_simp;(try rfl)
   simp only[Act.put,pq]
   refine tkQ 6 (v:=?_) ?_ hS ?_;rotate_left;· intro w' hw';(try dsimp only at hw');go_simp;(try rfl)
   simp only[Act.put,pq]
   refine tkQ 7 (v:=?_) ?_ hS ?_;rotate_left;· intro w' hw';(try dsimp only at hw');go_simp;(try rfl)
   simp only[Act.put,pq]
   refine tkQ 8 (v:=?_) ?_ hS ?_;rotate_left;· intro w' hw';(try dsimp only at hw');go_simp;(try rfl)
   simp only[Act.put,pq]
   refine tkQ 9 (v:=?_) ?_ hS ?_;rotate_left;· intro w' hw';(try dsimp only at hw');go_simp;(try rfl)
   simp only[Act.put,pq]
   refine tkQ 10 (v:=?_) ?_ hS ?_;rotate_left;· intro w' hw';(try dsimp only at hw');go_simp;(try rfl)
   simp only[Act.put,pq]
   refine tkQ 11 (v:=?_) ?_ hS ?_;rotate_left;· intro w' hw';(try dsimp only at hw');go_simp;(try rfl)
   simp only[Act.put,pq]
   refine tkQ 12 (v:=?_) ?_ hS ?_;rotate_left;· intro w' hw';(try dsimp only at hw');go_simp;(try rfl)
   simp only[Act.put,pq]
   refine tkQ 13 (v:=?_) ?_ hS ?_;rotate_left;· intro w' hw';(try dsimp only at hw');go_simp;(try rfl)
   simp only[Act.put,pq]
   refine tkQ 14 (v:=?_) ?_ hS ?_;rotate_left;· intro w' hw';(try dsimp only at hw');go_simp;(try rfl)
   simp only[Act.put,pq]
   refine tkQ 15 (v:=?_) ?_ hS ?_;rotate_left;· intro w' hw';(try dsimp only at hw');go_simp;(try rfl)
   simp only[Act.put,pq]
   refine tkQ 16 (v:=?_) ?_ hS ?_;rotate_left;· intro w' hw';(try dsimp only at hw');go_simp;(try rfl)
   simp only[Act.put,pq]
   refine tkQ 17 (v:=?_) ?_ hS ?_;rotate_left;· intro w' hw';(try dsimp only at hw');go_simp;(try rfl)
   simp only[Act.put,pq]
   refine tkQ 18 (v:=?_) ?_ hS ?_;rotate_left;· intro w' hw';(try dsimp only at hw');go_simp;(try rfl)
   simp only[Act.put,pq]
   refine tkQ 19 (v:=?_) ?_ hS ?_;rotate_left;· intro w' hw';(try dsimp only at hw');go_simp;(try rfl)
   simp only[Act.put,pq]
   refine tkQ 20 (v:=?_) ?_ hS ?_;rotate_left;· intro w' hw';(try dsimp only at hw');go_simp;(try rfl)
   simp only[Act.put,pq]
   refine wpAnyH_done (by kernel_rfl) ?_ _
   (try dsimp only)
   have HSS:=hid hS
   clear hS
   go_wp2_with (go_at_call 81;refine(HWS.out _ _ HSS.out HXY.out).mono ?_;rintro e w3 ⟨rfl,h3,hb3,hk3⟩)
   go_roundw
   case rel=>exact⟨k+1,by omega,by go_num,(.inr (by rw[HST2.out];have e:Lib.byteCells (gU s[k])=Lib.strCells (x++y):=(by rw[HCD.out];simp[Lib.strCells,Lib.byteCells]);rw[e];exact h3)),HBR.out.trans ((HSS.out.mono HSZ.out).trans hb3)⟩
   case measure=>simp[intOf];omega
  ·obtain rfl:k=s.size:=by omega
   have hln:s.data.toList.length=s.size:=rfl
   have hall:s.data.toList.take s.size=s.data.toList:=List.take_of_length_le (by rw[hln];exact Nat.le_refl _)
   rw[hall] at hbl hln6
   have hbw:Below w.heap.size w wp:=HB0.out.trans (hbr.mono (by simp))
   obtain⟨y,hy⟩:∃y:ByteArray,y=⟨(s.data.toList.flatMap gU).toArray⟩:=⟨_,rfl⟩
   have HST:=hid ((Tryz.Builder_String_any_k w.heap.size w.heap.size _ wp hbl hsz).mono fun e w2 ⟨he,_,hb,_⟩=>(show e=Ending.returned (.string y)∧Below w.heap.size wp w2 from⟨by rw[he,hy],hb⟩))
   have hyz:y.size≤2000000:=by rw[hy,cD];simpa [Lib.byteCells] using hln6
   have hz1:2+y.size≤9223372036854775807:=by omega
   have hz2:2+y.size+1≤9223372036854775807:=by omega
   have HF:=hid (show(⟨#[120,34]⟩:ByteArray)++y++⟨#[34]⟩=⟨(lM s.data.toList).toArray⟩ by
    rw[hy,show(⟨#[120,34]⟩:ByteArray)=⟨[120,34].toArray⟩ from rfl,show(⟨#[34]⟩:ByteArray)=⟨[34].toArray⟩ from rfl,aX,aX];rfl)
   have HBW:=hid hbw
   clear hbl hbr hall hbw hln6 hy hyz hln
   go_wp2_with (go_at_call 84;refine HST.out.mono ?_;rintro e w5 ⟨rfl,hb5⟩)
   go_ret
   exact⟨by rw[←HF.out];rfl,HBW.out.trans hb5⟩
end
section
open Go Go.RowKit Go.Shelf
theorem uA (n:Int) (s:Nat) (h1:n.natAbs≤999999999999999) (h2:s≤12) (w:World) (hT:Tabs w):Calls Tryz.prog 248 #[.int .i64 n,.int .i64 (s:Int)] w fun e w'=>e=.returned (.string ⟨(eT n s).toArray⟩)∧Below w.heap.size w w':=by
 have HD:=hid (fun w hT=>wC n s h1 h2 w hT)
 clear h1 h2
 obtain⟨t,ht⟩:∃t:ByteArray,t=⟨(eT n s).toArray⟩:=⟨_,rfl⟩
 rw[←ht] at HD ⊢
 clear ht
 go_enter Tryz.func248,Tryz.ntmps248
 go_wp2_with (go_at_call 295;refine(HD.out _ hT).mono ?_;rintro e w1 ⟨rfl,hb1⟩)
 go_ret
 exact⟨rfl,hb1⟩
section
variable (s:Int) (t:ByteArray) (la:Option Addr) (ll lc:Nat) (fa:Option Addr) (fl fc:Nat) (w:World)
set_option maxRecDepth 100000
set_option maxHeartbeats 4000000
theorem wJ (b:Int) :
 Calls Tryz.prog 196 #[.agg #[.int .i64 1,.int .i64 b,.int .i64 s,.string t,.slice la ll lc,.slice fa fl fc]] w fun e w'=>e=.returned (.string ⟨(Lib.formatBool (b==1)).toArray⟩)∧Below w.heap.size w w':=by
 go_enter Tryz.func196,Tryz.ntmps196
 go_wp2_with (go_at_call 247;refine(Tryz.strconv_FormatBool _ _).mono ?_;rintro e w' ⟨rfl,rfl⟩)
 go_ret
 exact⟨rfl,(bR w).alloc lr _⟩
theorem wI (i:Int) (hi:I64 i) (hT:Tabs w) :
 Calls Tryz.prog 196 #[.agg #[.int .i64 2,.int .i64 i,.int .i64 s,.string t,.slice la ll lc,.slice fa fl fc]] w fun e w'=>e=.returned (.string (aF i))∧Below w.heap.size w w':=by
 have hb0:Below w.heap.size w (w.alloc (.cells #[.int .i64 2,.int .i64 i,.int .i64 s,.string t,.slice la ll lc,.slice fa fl fc] 66)):=(bR w).alloc lr _
 have HI:=hid (bD i hi _ (hT.below hb0))
 have HB0:=hid hb0
 clear hb0
 go_enter Tryz.func196,Tryz.ntmps196
 go_wp2_with (go_at_call 80;refine HI.out.mono ?_;rintro e w1 ⟨rfl,hb1⟩)
 go_ret
 exact⟨rfl,HB0.out.trans (hb1.mono HB0.out.size)⟩
theorem wH (i:Int) (z:Nat) (h1:i.natAbs≤999999999999999) (h2:z≤12) (hz:s=(z:Int)) (hT:Tabs w) :
 Calls Tryz.prog 196 #[.agg #[.int .i64 3,.int .i64 i,.int .i64 s,.string t,.slice la ll lc,.slice fa fl fc]] w fun e w'=>e=.returned (.string ⟨(if s=0 then eT i s.toNat++[100] else eT i s.toNat).toArray⟩)∧Below w.heap.size w w':=by
 subst hz
 have hb0:Below w.heap.size w (w.alloc (.cells #[.int .i64 3,.int .i64 i,.int .i64 (z:Int),.string t,.slice la ll lc,.slice fa fl fc] 66)):=(bR w).alloc lr _
 have hN:=uA i z h1 h2 _ (hT.below hb0)
 have hlen:=uW i z h2 (by omega)
 obtain⟨x,hx⟩:∃x:ByteArray,x=⟨(eT i z).toArray⟩:=⟨_,rfl⟩
 have hxz:x.size≤41:=by rw[hx,cD];exact hlen
 have hz1:x.size+1≤9223372036854775807:=by omega
 rw[←hx] at hN
 have HN:=hid hN
 have HB0:=hid hb0
 have HE:=hid hb0
 have HA:=hid (heap_alloc_new w (.cells #[.int .i64 3,.int .i64 i,.int .i64 (z:Int),.string t,.slice la ll lc,.slice fa fl fc] 66))
 have HX:=hid hx
 by_cases h0:z=0
 ·have hz0:((z:Int)==0)=true:=by simp;omega
  have hF:(if (z:Int)=0 then eT i (z:Int).toNat++[100] else eT i (z:Int).toNat)=eT i z++[100]:=by rw[if_pos (by omega)];rfl
  rw[hF]
  have HF:Hid (x++⟨#[100]⟩=(⟨(eT i z++[100]).toArray⟩:ByteArray)):=hid (by rw[hx,show(⟨#[100]⟩:ByteArray)=⟨[100].toArray⟩ from rfl,aX])
  clear hb0 hN hx hxz h1 h2 hlen hF h0
  go_enter Tryz.func196,Tryz.ntmps196
  go_wp2_with (go_at_call 248;refine HN.out.mono ?_;rintro e w1 ⟨rfl,hb1⟩;have hq:=aB hb1 HA.out;have q2:=aA hq 2;(try dsimp only at q2))
  go_ret
  exact⟨by rw[←HF.out];rfl,HB0.out.trans (hb1.mono HB0.out.size)⟩
 ·have hz0:((z:Int)==0)=false:=by simp;omega
  have hF:(if (z:Int)=0 then eT i (z:Int).toNat++[100] else eT i (z:Int).toNat)=eT i z:=by rw[if_neg (by omega)];rfl
  rw[hF]
  clear hb0 hN hx hxz h1 h2 hlen hF h0
  go_enter Tryz.func196,Tryz.ntmps196
  go_wp2_with (go_at_call 248;refine HN.out.mono ?_;rintro e w1 ⟨rfl,hb1⟩;have hq:=aB hb1 HA.out;have q2:=aA hq 2;(try dsimp only at q2))
  go_ret
  exact⟨by rw[←HX.out];rfl,HB0.out.trans (hb1.mono HB0.out.size)⟩
theorem wG (i:Int) (hs:t.size≤1000000) (hT:Tabs w) (hZ:ZTab w) :
 Calls Tryz.prog 196 #[.agg #[.int .i64 4,.int .i64 i,.int .i64 s,.string t,.slice la ll lc,.slice fa fl fc]] w fun e w'=>e=.returned (.string ⟨(bZ t.data.toList).toArray⟩)∧Below w.heap.size w w':=by
 have hb0:Below w.heap.size w (w.alloc (.cells #[.int .i64 4,.int .i64 i,.int .i64 s,.string t,.slice la ll lc,.slice fa fl fc] 66)):=(bR w).alloc lr _
 have HI:=hid (fB t _ hs (hT.below hb0) (hZ.below hb0))
 have HB0:=hid hb0
 clear hb0
 go_enter Tryz.func196,Tryz.ntmps196
 go_wp2_with (go_at_call 76;refine HI.out.mono ?_;rintro e w1 ⟨rfl,hb1⟩)
 go_ret
 exact⟨rfl,HB0.out.trans (hb1.mono HB0.out.size)⟩
theorem wF (i:Int) (hs:t.size≤1000000) :
 Calls Tryz.prog 196 #[.agg #[.int .i64 5,.int .i64 i,.int .i64 s,.string t,.slice la ll lc,.slice fa fl fc]] w fun e w'=>e=.returned (.string ⟨(lM t.data.toList).toArray⟩)∧Below w.heap.size w w':=by
 have hb0:Below w.heap.size w (w.alloc (.cells #[.int .i64 5,.int .i64 i,.int .i64 s,.string t,.slice la ll lc,.slice fa fl fc] 66)):=(bR w).alloc lr _
 have HI:=hid (fA t (w.alloc (.cells #[.int .i64 5,.int .i64 i,.int .i64 s,.string t,.slice la ll lc,.slice fa fl fc] 66)) hs)
 have HB0:=hid hb0
 clear hb0
 go_enter Tryz.func196,Tryz.ntmps196
 go_wp2_with (go_at_call 74;refine HI.out.mono ?_;rintro e w1 ⟨rfl,hb1⟩)
 go_ret
 exact⟨rfl,HB0.out.trans (hb1.mono HB0.out.size)⟩
theorem wE (i:Int) (n:Nat) (hd:i+719162=n) (hn:n≤3652058) (hT:Tabs w) (hZ:ZTab w) :
 Calls Tryz.prog 196 #[.agg #[.int .i64 6,.int .i64 i,.int .i64 s,.string t,.slice la ll lc,.slice fa fl fc]] w fun e w'=>e=.returned (.string ⟨(100 :: 97 :: 116 :: 101 :: 32 :: bZ (eI n)).toArray⟩)∧Below w.heap.size w w':=by
 have hb0:Below w.heap.size w (w.alloc (.cells #[.int .i64 6,.int .i64 i,.int .i64 s,.string t,.slice la ll lc,.slice fa fl fc] 66)):=(bR w).alloc lr _
 have hlen:=jR n hn
 have hI:=lO i n hd hn _ (hT.below hb0)
 obtain⟨x,hx⟩:∃x:ByteArray,x=⟨(eI n).toArray⟩:=⟨_,rfl⟩
 have hxz:x.size=10:=by rw[hx,cD,hlen]
 rw[←hx] at hI
 have hxd:x.data.toList=eI n:=by rw[hx]
 have HQ:=hid (fun w' (h:Below w.heap.size w w')=>fB x w' (by omega) (hT.below h) (hZ.below h))
 rw[hxd] at HQ
 obtain⟨y,hy⟩:∃y:ByteArray,y=⟨(bZ (eI n)).toArray⟩:=⟨_,rfl⟩
 have hyz:y.size≤100:=by rw[hy,cD];have:=eN (eI n);omega
 have hz1:5+y.size≤9223372036854775807:=by omega
 rw[←hy] at HQ
 have HF:Hid ((⟨#[100,97,116,101,32]⟩:ByteArray)++y=⟨(100 :: 97 :: 116 :: 101 :: 32 :: bZ (eI n)).toArray⟩):=hid (by rw[hy,show(⟨#[100,97,116,101,32]⟩:ByteArray)=⟨[100,97,116,101,32].toArray⟩ from rfl,aX];rfl)
 have HI:=hid hI
 have HB0:=hid hb0
 clear hb0 hI hlen hx hxz hxd hy hyz hd hn hT hZ
 go_enter Tryz.func196,Tryz.ntmps196
 go_wp2_with (first
  | (go_at_call 76;refine(HQ.out w1 (HB0.out.trans (hb1.mono HB0.out.size))).mono ?_;rintro e w2 ⟨rfl,hb2⟩)
  | (go_at_call 249;refine HI.out.mono ?_;rintro e w1 ⟨rfl,hb1⟩))
 go_ret
 have h2:=HB0.out.trans (hb1.mono HB0.out.size)
 exact⟨by rw[←HF.out];rfl,h2.trans (hb2.mono h2.size)⟩
theorem wD (i:Int) (n:Nat) (hd:i+62135596800000=n) (hn:n≤315537897599999) (hT:Tabs w) (hZ:ZTab w) :
 Calls Tryz.prog 196 #[.agg #[.int .i64 7,.int .i64 i,.int .i64 s,.string t,.slice la ll lc,.slice fa fl fc]] w fun e w'=>e=.returned (.string ⟨(116 :: 105 :: 109 :: 101 :: 32 :: bZ (gN n)).toArray⟩)∧Below w.heap.size w w':=by
 have hb0:Below w.heap.size w (w.alloc (.cells #[.int .i64 7,.int .i64 i,.int .i64 s,.string t,.slice la ll lc,.slice fa fl fc] 66)):=(bR w).alloc lr _
 have hlen:=pY n hn
 have hI:=oQ i n hd hn _ (hT.below hb0)
 obtain⟨x,hx⟩:∃x:ByteArray,x=⟨(gN n).toArray⟩:=⟨_,rfl⟩
 have hxz:x.size≤25:=by rw[hx,cD];exact hlen
 rw[←hx] at hI
 have hxd:x.data.toList=gN n:=by rw[hx]
 have HQ:=hid (fun w' (h:Below w.heap.size w w')=>fB x w' (by omega) (hT.below h) (hZ.below h))
 rw[hxd] at HQ
 obtain⟨y,hy⟩:∃y:ByteArray,y=⟨(bZ (gN n)).toArray⟩:=⟨_,rfl⟩
 have hyz:y.size≤200:=by rw[hy,cD];have:=eN (gN n);omega
 have hz1:5+y.size≤9223372036854775807:=by omega
 rw[←hy] at HQ
 have HF:Hid ((⟨#[116,105,109,101,32]⟩:ByteArray)++y=⟨(116 :: 105 :: 109 :: 101 :: 32 :: bZ (gN n)).toArray⟩):=hid (by rw[hy,show(⟨#[116,105,109,101,32]⟩:ByteArray)=⟨[116,105,109,101,32].toArray⟩ from rfl,aX];rfl)
 have HI:=hid hI
 have HB0:=hid hb0
 clear hb0 hI hlen hx hxz hxd hy hyz hd hn hT hZ
 go_enter Tryz.func196,Tryz.ntmps196
 go_wp2_with (first
  | (go_at_call 76;refine(HQ.out w1 (HB0.out.trans (hb1.mono HB0.out.size))).mono ?_;rintro e w2 ⟨rfl,hb2⟩)
  | (go_at_call 250;refine HI.out.mono ?_;rintro e w1 ⟨rfl,hb1⟩))
 go_ret
 have h2:=HB0.out.trans (hb1.mono HB0.out.size)
 exact⟨by rw[←HF.out];rfl,h2.trans (hb2.mono h2.size)⟩
end
end
section
open Go Go.RowKit Go.Shelf
attribute [local go_sem ↓] Go.wp_at_zero Go.wp_at_succ
theorem oT (i0 s0:Int) (t0:ByteArray) (la:Option Addr) (ll lc:Nat) (fa:Option Addr) (fl fc:Nat) (l:List Val) (ns:List ByteArray) (fs:List Val) (w:World) (hd:IsVal (· < w.heap.size) w ⟨8,i0,s0,t0,la,ll,lc,fa,fl,fc⟩ (.mk 8 i0 s0 t0 l ns fs))
 (xs:List ByteArray) (hxl:xs.length=ll)
 (L:Nat) (hxL:∀x∈xs,x.data.toList.length≤L) (hLN:ll * (L+3)≤140737488355328)
 (htx:∀j (h:j<l.length) (hj:j<xs.length) (x:VC) (w':World),Below w.heap.size w w'→IsVal (· < w'.heap.size) w' x l[j]→Calls Tryz.prog 196 #[.agg #[.int .i64 x.k,.int .i64 x.i,.int .i64 x.s,.string x.t,.slice x.la x.ll x.lc,.slice x.fa x.fl x.fc]] w' fun e w2=>e=.returned (.string xs[j])∧Below w'.heap.size w' w2) :
 Calls Tryz.prog 196 #[.agg #[.int .i64 8,.int .i64 i0,.int .i64 s0,.string t0,.slice la ll lc,.slice fa fl fc]] w fun e w'=>e=.returned (.string (⟨#[91]⟩++bG xs ⟨#[44,32]⟩++⟨#[93]⟩))∧Below w.heap.size w w':=by
 obtain⟨⟨_,_,_,_,hok,hll,hfl,hns⟩,hv,hf⟩:=hd
 dsimp only at hll hfl hv hf
 have hreachl:ll * 88≤140737488351232:=hok.l
 have HF:=hid hll;clear hfl hll hf hns
 clear hok
 obtain⟨ti,hi,hz0,hz1,hz2⟩:=info_parts lG
 obtain⟨w0,hw0⟩:∃w0,w0=w.alloc (.cells #[.int .i64 8,.int .i64 i0,.int .i64 s0,.string t0,.slice la ll lc,.slice fa fl fc] 66):=⟨_,rfl⟩
 have hb0:Below w.heap.size w w0:=by rw[hw0];exact(bR w).alloc lr _
 have HB0:=hid hb0;clear hb0
 have HW0:=hid hw0;clear hw0
 have HXL:=hid hxL;clear hxL
 have HXN:=hid hxl;clear hxl
 have HTXS:=hid htx;clear htx
 have HLN:=hid hLN;clear hLN
 go_enter Tryz.func196,Tryz.ntmps196
 go_wp2
 rw[←HW0.out]
 go_loopw [3,78] (fun vv i wr=>∃(k:Nat) (v:Value),v=vv∧k≤ll∧i=.int .i64 k∧wr.ownsRow w0.heap.size 9 1 v k ((xs.take k).map Value.string)∧Below w0.heap.size w0 wr) (fun _ i _=>ll-(intOf i).toNat)
 case atStart=>exact⟨0,_,rfl,Nat.zero_le _,rfl,World.ownsRow_nil _ _ _ _,Below.refl _ _⟩
 case round =>
  obtain⟨k,v,rfl,hk,rfl,hown,hbr⟩:=hrel
  have HBR:=hid hbr
  have hbelw:Below w.heap.size w wr:=HB0.out.trans (hbr.mono HB0.out.size)
  have HBW:=hid hbelw
  by_cases hlt:k<ll
  ·rcases hv with rfl | ⟨b,o,rfl,hb,hvs⟩
   ·exfalso;have:=HF.out;simp at this;omega
   ·have hkl:k<l.length:=by have:=HF.out;omega
    have hkx:k<xs.length:=by have:=HXN.out;omega
    obtain⟨x,hx,hxv⟩:=hvs.get k hkl
    obtain⟨tz,htz⟩:∃tz,tz=xs[k]:=⟨_,rfl⟩
    have HXK:=hid htz
    have hx':=hx.same (w':=wr) (hbelw.block b hb)
    obtain⟨hx0,hx1,hx2,hx3,hx4,hx5⟩:=hx'
    have hlt':(k:Int)<(ll:Int):=by omega
    have hsz:=hbelw.size
    have hbwa:Below wr.heap.size wr (wr.alloc (Obj.cells #[Value.int IntKind.i64 x.k,Value.int IntKind.i64 x.i,Value.int IntKind.i64 x.s,Value.string x.t,Value.slice x.la x.ll x.lc,Value.slice x.fa x.fl x.fc] 66 (0,0))):=(Below.refl _ wr).alloc lr _
    have HBA:=hid hbwa
    have HTX:=hid (htz▸HTXS.out k hkl hkx x (wr.alloc (Obj.cells #[Value.int IntKind.i64 x.k,Value.int IntKind.i64 x.i,Value.int IntKind.i64 x.s,Value.string x.t,Value.slice x.la x.ll x.lc,Value.slice x.fa x.fl x.fc] 66 (0,0))) (hbelw.trans (hbwa.mono hsz)) (hxv.same fun b hb=>⟨by have:=hbwa.size;omega,(hbwa.block b (by omega)).trans (hbelw.block b hb)⟩))
    have hcap1:k+1≤maxLen:=by unfold maxLen;omega
    have hcap2:(k+1) * 16≤140737488355328:=by omega
    have HOWN:=hid hown;clear hown
    clear hx hxv htz hbr hbelw hbwa
    go_wp2_with (first
     | (go_at_call 196;refine HTX.out.mono ?_;rintro e w1 ⟨rfl,hb1⟩)
     | (at_builtin;refine wpList_append_own_at _ (by rfl) _ _ 112 (by rfl) w0.heap.size 9 ti _ 1 16 Tryz.underlying112 hi hz0 hz1 hz2 rfl (by omega) _ _ _ (by rfl) ((cW HOWN.out (HBA.out.trans (hb1.mono HBA.out.size))).alloc _) ⟨w1.heap.size,0,none⟩ 1 1 [.string tz] (by rfl) (by rfl) (cell_one_new _ _ _) (by simp[Value.oneCell']) hcap1 hcap2 (by have:=HBR.out.size;have:=HBA.out.size;have:=hb1.size;simp at *;omega) ?_;intro v' w5 hown' hgrow hnil hloc;have HO2:=hid hown';have HG:=hid hgrow;clear hown' hgrow hnil hloc))
    go_roundw
    case rel =>
     have hst:Below w0.heap.size w0 (wr.alloc (Obj.cells #[Value.int IntKind.i64 x.k,Value.int IntKind.i64 x.i,Value.int IntKind.i64 x.s,Value.string x.t,Value.slice x.la x.ll x.lc,Value.slice x.fa x.fl x.fc] 66 (0,0))):=HBR.out.trans (HBA.out.mono HBR.out.size)
     have hst2:Below w0.heap.size w0 w1:=hst.trans (hb1.mono hst.size)
     refine⟨k+1,_,rfl,by omega,by go_num,?_,(hst2.alloc hst2.size _).grown HG.out (by have:=hst2.size;simp;omega) (fun r e=>mO HOWN.out r e)⟩
     have h:=HO2.out
     rw[List.take_succ_eq_append_getElem hkx,←HXK.out,List.map_append]
     exact h
    case measure=>simp[intOf];omega
  ·obtain rfl:k=ll:=by omega
   clear hlt
   rw[List.take_of_length_le (by have:=HXN.out;omega)] at hown
   rcases Nat.eq_zero_or_pos k with h0 | h0
   ·subst h0
    have hx0:xs=[]:=List.eq_nil_of_length_eq_zero HXN.out
    subst hx0
    obtain⟨a,c,rfl⟩:∃a c,v=.slice a 0 c:=by
     rcases hown.2 with ⟨rfl,_⟩ | ⟨g,cap,cur,rfl,_⟩
     ·exact⟨_,_,rfl⟩
     ·exact⟨_,_,rfl⟩
    have hjoin:Hid (Calls Tryz.prog 251 #[.slice a 0 c] wr fun e w'=>e=.returned (.string (bG [] ⟨#[44,32]⟩))∧Below wr.heap.size wr w'):=hid (mP _ _ _ (fun w' h=>(Tryz.strings_Join_none a c ⟨#[44,32]⟩ w').mono fun e w2 ⟨he,hw⟩=>⟨he,by rw[hw];exact Below.refl _ _⟩))
    clear hown hbr
    have s1:1+(bG [] ⟨#[44,32]⟩).size≤9223372036854775807:=by decide
    have s2:1+(bG [] ⟨#[44,32]⟩).size+1≤9223372036854775807:=by decide
    go_wp2_with (go_at_call 251;refine hjoin.out.mono ?_;rintro e w3 ⟨rfl,hb3⟩)
    go_ret
    exact⟨rfl,HBW.out.trans (hb3.mono HBW.out.size)⟩
   obtain⟨g,cap',rfl,hj⟩:=gO hown HXN.out.symm h0 L HXL.out ⟨#[44,32]⟩ HLN.out
   have HJ:=hid hj
   have hjoin:Hid (Calls Tryz.prog 251 #[.slice (some ⟨g,0,none⟩) k cap'] wr fun e w'=>e=.returned (.string (bG xs ⟨#[44,32]⟩))∧Below wr.heap.size wr w'):=hid (mP _ _ _ HJ.out)
   have hjz:=eR xs ⟨#[44,32]⟩ L HXL.out
   rw[HXN.out] at hjz
   have hL3:=HLN.out
   have hjz2:(bG xs ⟨#[44,32]⟩).size≤140737488355328:=by simp at hjz;rw[Nat.mul_add] at hL3 hjz;omega
   have s1:1+(bG xs ⟨#[44,32]⟩).size≤9223372036854775807:=by omega
   have s2:1+(bG xs ⟨#[44,32]⟩).size+1≤9223372036854775807:=by omega
   clear hj hown hbr hjz hL3 hjz2
   go_wp2_with (go_at_call 251;refine hjoin.out.mono ?_;rintro e w3 ⟨rfl,hb3⟩)
   go_ret
   exact⟨rfl,HBW.out.trans (hb3.mono HBW.out.size)⟩
theorem oR (i0 s0:Int) (t0:ByteArray) (la:Option Addr) (ll lc:Nat) (fa:Option Addr) (fc:Nat) (w:World) :
 Calls Tryz.prog 196 #[.agg #[.int .i64 9,.int .i64 i0,.int .i64 s0,.string t0,.slice la ll lc,.slice fa 0 fc]] w fun e w'=>e=.returned (.string (recT []))∧Below w.heap.size w w':=by
 obtain⟨w0,hw0⟩:∃w0,w0=w.alloc (.cells #[.int .i64 9,.int .i64 i0,.int .i64 s0,.string t0,.slice la ll lc,.slice fa 0 fc] 66):=⟨_,rfl⟩
 have hb0:Below w.heap.size w w0:=by rw[hw0];exact(bR w).alloc lr _
 have HB0:=hid hb0;clear hb0
 have HW0:=hid hw0;clear hw0
 go_enter Tryz.func196,Tryz.ntmps196
 go_wp2
 rw[←HW0.out]
 go_loopw [3,97] (fun vv i wr=>vv=.slice none 0 0∧i=.int .i64 0∧Below w0.heap.size w0 wr) (fun _ i _=>0)
 case atStart=>exact⟨rfl,rfl,Below.refl _ _⟩
 case round =>
  obtain⟨rfl,rfl,hbr⟩:=hrel
  have HBW:=hid (HB0.out.trans (hbr.mono HB0.out.size))
  have hjoin:Hid (Calls Tryz.prog 251 #[.slice none 0 0] wr fun e w'=>e=.returned (.string (bG [] ⟨#[44,32]⟩))∧Below wr.heap.size wr w'):=hid (mP _ _ _ (fun w' h=>(Tryz.strings_Join_none none 0 ⟨#[44,32]⟩ w').mono fun e w2 ⟨he,hw⟩=>⟨he,by rw[hw];exact Below.refl _ _⟩))
  clear hbr
  have s1:1+(bG [] ⟨#[44,32]⟩).size≤9223372036854775807:=by decide
  have s2:1+(bG [] ⟨#[44,32]⟩).size+1≤9223372036854775807:=by decide
  go_wp2_with (go_at_call 251;refine hjoin.out.mono ?_;rintro e w3 ⟨rfl,hb3⟩)
  go_ret
  exact⟨rfl,HBW.out.trans (hb3.mono HBW.out.size)⟩
end
section
open Go Go.RowKit Go.Shelf
attribute [local go_sem ↓] Go.wp_at_zero Go.wp_at_succ
theorem rB (i0 s0:Int) (t0:ByteArray) (la:Option Addr) (ll lc:Nat) (fa:Option Addr) (fl fc:Nat) (d:Val) (ns:List ByteArray) (fs:List Val) (w:World) (hd:IsVal (· < w.heap.size) w ⟨10,i0,s0,t0,la,ll,lc,fa,fl,fc⟩ (.mk 10 i0 s0 t0 [d] ns fs))
 (y:ByteArray) (hy:y.size≤100000000) (ht:t0.size≤1000)
 (htx:∀(x:VC) (w':World),Below w.heap.size w w'→IsVal (· < w'.heap.size) w' x d→Calls Tryz.prog 196 #[.agg #[.int .i64 x.k,.int .i64 x.i,.int .i64 x.s,.string x.t,.slice x.la x.ll x.lc,.slice x.fa x.fl x.fc]] w' fun e w2=>e=.returned (.string y)∧Below w'.heap.size w' w2) :
 Calls Tryz.prog 196 #[.agg #[.int .i64 10,.int .i64 i0,.int .i64 s0,.string t0,.slice la ll lc,.slice fa fl fc]] w fun e w'=>e=.returned (.string (t0++⟨#[40]⟩++y++⟨#[41]⟩))∧Below w.heap.size w w':=by
 obtain⟨⟨_,_,_,_,hok,hll,_,_⟩,hv,_⟩:=hd
 dsimp only at hll hv
 have hll1:ll=1:=hll
 subst hll1
 clear hok hll
 rcases hv with h0 | ⟨b,o,rfl,hb,hvs⟩
 ·cases h0
 obtain⟨x,hx,hxv⟩:=hvs.get 0 (by simp)
 rw[Nat.zero_mul,Nat.add_zero] at hx
 simp only[List.getElem_cons_zero] at hxv
 obtain⟨w0,hw0⟩:∃w0,w0=w.alloc (.cells #[.int .i64 10,.int .i64 i0,.int .i64 s0,.string t0,.slice (some ⟨b,o,none⟩) 1 lc,.slice fa fl fc] 66):=⟨_,rfl⟩
 have hb0:Below w.heap.size w w0:=by rw[hw0];exact(bR w).alloc lr _
 have hn0:w0.heap[w.heap.size]?=some (.cells #[.int .i64 10,.int .i64 i0,.int .i64 s0,.string t0,.slice (some ⟨b,o,none⟩) 1 lc,.slice fa fl fc] 66):=by rw[hw0];exact heap_alloc_new w _
 have HB0:=hid hb0
 have HC:=hid (fun (w':World) (h:Below w0.heap.size w0 w') =>
  have q:=aB h hn0
  have h2:=hb0.trans (h.mono hb0.size)
  have a:=hx.same (w':=w') (h2.block b hb)
  (show(w'.cell? ⟨w.heap.size,3,none⟩=some (.string t0)∧w'.cell? ⟨w.heap.size,4,none⟩=some (.slice (some ⟨b,o,none⟩) 1 lc))∧w'.cell? ⟨b,o,none⟩=some (.int .i64 x.k)∧w'.cell? ⟨b,o+1,none⟩=some (.int .i64 x.i)∧w'.cell? ⟨b,o+2,none⟩=some (.int .i64 x.s)∧w'.cell? ⟨b,o+3,none⟩=some (.string x.t)∧w'.cell? ⟨b,o+4,none⟩=some (.slice x.la x.ll x.lc)∧w'.cell? ⟨b,o+5,none⟩=some (.slice x.fa x.fl x.fc) from⟨⟨aA q 3,aA q 4⟩,a.k,a.i,a.s,a.t,a.l,a.f⟩))
 have HTX:=hid (fun (w':World) (h:Below w0.heap.size w0 w')=>htx x w' (hb0.trans (h.mono hb0.size)) (hxv.same fun b' hb'=>⟨Nat.lt_of_lt_of_le hb' (hb0.trans (h.mono hb0.size)).size,(hb0.trans (h.mono hb0.size)).block b' hb'⟩))
 have HW0:=hid hw0
 have s1:(9223372036854775807<t0.size+1)=False:=eq_false (by omega)
 have s2:(9223372036854775807<t0.size+1+y.size)=False:=eq_false (by omega)
 have s3:(9223372036854775807<t0.size+1+y.size+1)=False:=eq_false (by omega)
 clear hx hxv htx hb0 hn0 hw0 hvs hy ht
 go_enter Tryz.func196,Tryz.ntmps196
 go_upto_region 38 with (fail)
 rw[←HW0.out]
 refine aQ 10 (fun w'=>Below w0.heap.size w0 w') (by kernel_rfl) (by kernel_rfl) (by kernel_rfl) (by decide) ((Below.refl _ w0).drew) (fun hS=>?_)
 simp only[zdm,zdn,zdp,zdq]
 refine tkQ 0 (v:=?_) ?_ hS ?_;rotate_left;· intro w' hw';have hcells:=HC.out w' hw';go_simp;(try rfl)
 simp only[Act.put,pq]
 refine tkQ 1 (v:=?_) ?_ hS ?_;rotate_left;· intro w' hw';have hcells:=HC.out w' hw';go_simp;(try rfl)
 simp only[Act.put,pq]
 refine tkQ 2 (v:=?_) ?_ hS ?_;rotate_left;· intro w' hw';have hcells:=HC.out w' hw';go_simp;(try rfl)
 simp only[Act.put,pq]
 refine tkQ 3 (v:=?_) ?_ hS ?_;rotate_left;· intro w' hw';have hcells:=HC.out w' hw';go_simp;(try rfl)
 simp only[Act.put,pq]
 refine tkQ 4 (v:=?_) ?_ hS ?_;rotate_left;· intro w' hw';have hcells:=HC.out w' hw';go_simp;(try rfl)
 simp only[Act.put,pq]
 refine tkQ 5 (v:=?_) ?_ hS ?_;rotate_left;· intro w' hw';have hcells:=HC.out w' hw';go_simp;(try rfl)
 simp only[Act.put,pq]
 refine tkQ 6 (v:=?_) ?_ hS ?_;rotate_left;· intro w' hw';have hcells:=HC.out w' hw';go_simp;(try rfl)
 simp only[Act.put,pq]
 refine ry [7] ?_
 refine arQ fun K hK=>?_
 go_simp;go_at_call 196;refine(HTX.out _ hS).mono ?_
 rintro e w1 ⟨rfl,hb1⟩
 refine hK.out _ _ (hS.trans (hb1.mono hS.size)) (fun hS=>?_)
 clear hK K
 (try simp only[Act.put,pq])
 refine tkQ 8 (v:=?_) ?_ hS ?_;rotate_left;· intro w' hw';have hcells:=HC.out w' hw';go_simp;(try rfl)
 simp only[Act.put,pq]
 refine tkQ 9 (v:=?_) ?_ hS ?_;rotate_left;· intro w' hw';have hcells:=HC.out w' hw';go_simp;(try rfl)
 simp only[Act.put,pq]
 refine wpAnyH_done (by kernel_rfl) ?_ _
 (try dsimp only)
 have HSS:=hid hS
 clear hS
 go_wp2
 go_ret
 exact⟨rfl,HB0.out.trans (HSS.out.mono HB0.out.size)⟩
end
section
open Go Go.RowKit Go.Shelf
theorem gS:∀(ns:List ByteArray) (xs:List (List UInt8)),ns.length=xs.length→(jU ns xs).length=xs.length
 | [],[],_=>rfl
 | [],_ :: _,h=>by simp at h
 | _ :: _,[],h=>by simp at h
 | n :: ns,x :: xs,h=>by rw[jU,List.length_cons,List.length_cons,gS ns xs (by simpa using h)]
theorem oB:∀(ns:List ByteArray) (xs:List (List UInt8)) (j:Nat) (h:j<(jU ns xs).length) (h1:j<ns.length) (h2:j<xs.length),(jU ns xs)[j]=ns[j].data.toList++58 :: 32 :: xs[j]
 | n :: ns,x :: xs,0,_,_,_=>rfl
 | n :: ns,x :: xs,j+1,h,h1,h2=>by
   simp only[jU,List.getElem_cons_succ]
   exact oB ns xs j (by simpa [jU] using h) (by simpa using h1) (by simpa using h2)
theorem sz_pos (d:Val):1≤Val.sz d:=by obtain⟨k,i,s,t,l,ns,fs⟩:=d;rw[Val.sz];omega
theorem mapData (l:List (List UInt8)):(l.map (fun x=>(⟨x.toArray⟩:ByteArray))).map (·.data.toList)=l:=by
 rw[List.map_map]
 exact(List.map_congr_left (fun x _=>rfl)).trans (List.map_id _)
theorem uH (l:List (List UInt8)) (sep:ByteArray):bG (l.map (fun x=>(⟨x.toArray⟩:ByteArray))) sep=⟨(Lib.join l sep.data.toList).toArray⟩:=by
 unfold bG;rw[mapData]
theorem cG (l:List Val):(dO l).length=l.length:=by rw[hG,List.length_map]
theorem Good.kidLen {n:Nat} {d d':Val} (h:Good n d) (hn:n≤4096) (hd:d'∈eQ d):(txt d').length≤33554432:=(h.kid hd).len hn
theorem kU:∀(z:Nat) (d:Val),Val.sz d≤z→∀(c:VC) (w:World),Good 4096 d→IsVal (· < w.heap.size) w c d→Tabs w→ZTab w →
 Calls Tryz.prog 196 #[c.v] w fun e w'=>e=.returned (.string ⟨(txt d).toArray⟩)∧Below w.heap.size w w'
 | 0,d,h,_,_,_,_,_,_=>absurd (sz_pos d) (by omega)
 | z+1,.mk k i s t l ns fs,hz,⟨ck,ci,cs,ct,la,ll,lc,fa,fl,fc⟩,w,hg,hd,hT,hZ=>by
   have hd0:=hd
   obtain⟨⟨h1,h2,h3,h4,hok,hll,hfl,hns⟩,hv,hf⟩:=hd0
   dsimp only at h1 h2 h3 h4 hll hfl
   subst h1;subst h2;subst h3;subst h4
   obtain⟨k1,k2,hr⟩:=hg.self
   have k1':1≤ck:=k1
   have k2':ck≤10:=k2
   have hsz:Val.szs l≤z∧Val.szs fs≤z:=by rw[Val.sz] at hz;omega
   have hk:ck=1∨ck=2∨ck=3∨ck=4∨ck=5∨ck=6∨ck=7∨ck=8∨ck=9∨ck=10:=by omega
   simp only[kX] at hr
   rcases hk with rfl | rfl | rfl | rfl | rfl | rfl | rfl | rfl | rfl | rfl
   ·have h:=wJ cs ct la ll lc fa fl fc w ci
    have e:txt (.mk 1 ci cs ct l ns fs)=Lib.formatBool (ci==1):=by
     simp[txt,kB,Lib.formatBool]
     by_cases h1:ci=1<;>simp[h1]<;>kernel_rfl
    rw[e];exact h
   ·exact wI cs ct la ll lc fa fl fc w ci hok.i hT
   ·simp at hr
    obtain⟨a,b⟩:=mK hr
    have ha:=bW a
    have hb:=bW b
    have h:=wH cs ct la ll lc fa fl fc w ci cs.toNat (by omega) (by omega) (by omega) hT
    have e:txt (.mk 3 ci cs ct l ns fs)=(if cs=0 then eT ci cs.toNat++[100] else eT ci cs.toNat):=by simp[txt,kB]
    rw[e];exact h
   ·simp at hr
    have hz4:=mW hr
    have h:=wG cs ct la ll lc fa fl fc w ci (by omega) hT hZ
    have e:txt (.mk 4 ci cs ct l ns fs)=bZ ct.data.toList:=by simp[txt,kB]
    rw[e];exact h
   ·simp at hr
    have hz5:=eM (by decide) hr
    have h:=wF cs ct la ll lc fa fl fc w ci (by omega)
    have e:txt (.mk 5 ci cs ct l ns fs)=lM ct.data.toList:=by simp[txt,kB]
    rw[e];exact h
   ·simp at hr
    have hb:=bW hr
    have h:=wE cs ct la ll lc fa fl fc w ci (ci+719162).toNat (by omega) (by omega) hT hZ
    have e:txt (.mk 6 ci cs ct l ns fs)=100 :: 97 :: 116 :: 101 :: 32 :: bZ (eI (ci+719162).toNat):=by simp[txt,kB]
    rw[e];exact h
   ·simp at hr
    have hb:=bW hr
    have h:=wD cs ct la ll lc fa fl fc w ci (ci+62135596800000).toNat (by omega) (by omega) hT hZ
    have e:txt (.mk 7 ci cs ct l ns fs)=116 :: 105 :: 109 :: 101 :: 32 :: bZ (gN (ci+62135596800000).toNat):=by simp[txt,kB]
    rw[e];exact h
   ·-- a list
    simp at hr
    have hl:=eM (by decide) hr
    have h:=oT ci cs ct la ll lc fa fl fc l ns fs w hd ((dO l).map (fun x=>(⟨x.toArray⟩:ByteArray))) (by rw[List.length_map,cG];exact hll.symm) 33554432
     (fun x hx=>by
       obtain⟨y,hy,rfl⟩:=List.mem_map.1 hx
       rw[hG] at hy
       obtain⟨d',hd',rfl⟩:=List.mem_map.1 hy
       exact hg.kidLen lr (by simp[eQ];exact hd'))
     (by rw[hll];omega)
     (fun j hj hj2 x w' hb hx=>by
       have e:((dO l).map (fun x=>(⟨x.toArray⟩:ByteArray)))[j]=⟨(txt l[j]).toArray⟩:=by
        rw[List.getElem_map];congr 2;simp only[hG,List.getElem_map]
       rw[e]
       exact kU z l[j] (by have:=Val.szs_get l j hj;omega) x w' (hg.kid (by simp[eQ])) hx (hT.below hb) (hZ.below hb))
    have e:txt (.mk 8 ci cs ct l ns fs)=91 :: (Lib.join (dO l) [44,32]++[93]):=by simp[txt]
    rw[e]
    rw[uH] at h
    rw[show(⟨(91 :: (Lib.join (dO l) [44,32]++[93])).toArray⟩:ByteArray)=⟨#[91]⟩++⟨(Lib.join (dO l) [44,32]).toArray⟩++⟨#[93]⟩ by rw[show(⟨#[91]⟩:ByteArray)=⟨[91].toArray⟩ from rfl,show(⟨#[93]⟩:ByteArray)=⟨[93].toArray⟩ from rfl,aX,aX];rfl]
    exact h
   ·-- a record
    have hrec:eA ns=0:=by simpa using hr
    have e:txt (.mk 9 ci cs ct l ns fs)=123 :: (Lib.join (jU ns (dO fs)) [44,32]++[125]):=by simp[txt]
    rw[e]
    have e2:(⟨(123 :: (Lib.join (jU ns (dO fs)) [44,32]++[125])).toArray⟩:ByteArray)=recT ((jU ns (dO fs)).map (fun x=>(⟨x.toArray⟩:ByteArray))):=by
     unfold recT
     rw[uH,show(⟨#[123]⟩:ByteArray)=⟨[123].toArray⟩ from rfl,show(⟨#[125]⟩:ByteArray)=⟨[125].toArray⟩ from rfl,aX,aX];rfl
    rw[e2]
    have hns':ns.length=(dO fs).length:=by rw[cG];exact hns
    rcases Nat.eq_zero_or_pos fl with h0 | h0
    ·have hf0:fs=[]:=List.eq_nil_of_length_eq_zero (by omega)
     have hn0:ns=[]:=List.eq_nil_of_length_eq_zero (by omega)
     subst hf0;subst hn0;subst h0
     exact oR ci cs ct la ll lc fa fc w
    have hnl:fl≤64:=by
     unfold eA at hrec
     split at hrec
     ·cases hrec
     ·rename_i hle
      omega
    have hnm:∀n∈ns,n.data.toList.length≤32:=by
     unfold eA at hrec
     split at hrec
     ·cases hrec
     ·exact gY _ _ hrec
    have hkx:∀d'∈fs,d'∈eQ (.mk 9 ci cs ct l ns fs):=fun d' h=>by simp[eQ];exact h
    refine rC ci cs ct la ll lc fa fl fc l ns fs w hd _ (fun j=>if h:j<fs.length then ⟨(txt fs[j]).toArray⟩ else ⟨#[]⟩) h0 (by rw[List.length_map,gS _ _ hns',cG];exact hfl.symm)
     (fun j hj hn=>by
       have hjf:j<fs.length:=by rw[List.length_map,gS _ _ hns',cG] at hj;exact hj
       rw[List.getElem_map,oB ns (dO fs) j (by simpa using hj) hn (by rw[cG];exact hjf),dif_pos hjf]
       have e3:(dO fs)[j]'(by rw[cG];exact hjf)=txt fs[j]:=by simp only[hG,List.getElem_map]
       rw[e3]
       apply ByteArray.ext
       simp[ByteArray.data_append])
     33554500
     (fun x hx=>by
       obtain⟨y,hy,rfl⟩:=List.mem_map.1 hx
       obtain⟨j,hj,rfl⟩:=List.getElem_of_mem hy
       have hjf:j<fs.length:=by rw[gS _ _ hns',cG] at hj;exact hj
       have hjn:j<ns.length:=by omega
       rw[oB ns (dO fs) j hj hjn (by rw[cG];exact hjf)]
       have e3:(dO fs)[j]'(by rw[cG];exact hjf)=txt fs[j]:=by simp only[hG,List.getElem_map]
       rw[e3]
       have a1:=hnm ns[j] (List.getElem_mem _)
       have a2:=hg.kidLen lr (hkx fs[j] (List.getElem_mem _))
       simp;simp at a1;omega)
     (by omega)
     (fun j hj x w' hb hx=>by
       rw[dif_pos hj]
       exact kU z fs[j] (by have:=Val.szs_get fs j hj;omega) x w' (hg.kid (hkx _ (List.getElem_mem _))) hx (hT.below hb) (hZ.below hb))
   ·-- a variant
    have hvar:cL ct l.length=0:=by simpa using hr
    have hl1:l.length=1∧ct.data.toList.length≤32:=by
     unfold cL at hvar
     split at hvar
     ·cases hvar
     ·rename_i hx
      have hx':=kO (by simpa using hx)
      split at hvar
      ·cases hvar
      ·have:=eM (by decide) hvar
       constructor
       ·omega
       ·exact hx'
    obtain⟨d',rfl⟩:∃d',l=[d']:=by
     match l,hl1.1 with
     | [d'],_=>exact⟨d',rfl⟩
    have e:txt (.mk 10 ci cs ct [d'] ns fs)=ct.data.toList++40 :: (txt d'++[41]):=by simp[txt,dO]
    rw[e]
    have hkd:d'∈eQ (.mk 10 ci cs ct [d'] ns fs):=by simp[eQ]
    have h:=rB ci cs ct la ll lc fa fl fc d' ns fs w hd ⟨(txt d').toArray⟩ (by have:=hg.kidLen lr hkd;rw[cD];omega) (by have:=hl1.2;rw[vL] at this;omega)
     (fun x w' hb hx=>kU z d' (by have h1:=hsz.1;simp only[Val.szs] at h1;omega) x w' (hg.kid hkd) hx (hT.below hb) (hZ.below hb))
    have e2:(⟨(ct.data.toList++40 :: (txt d'++[41])).toArray⟩:ByteArray)=ct++⟨#[40]⟩++⟨(txt d').toArray⟩++⟨#[41]⟩:=by
     apply ByteArray.ext
     simp[ByteArray.data_append]
    rw[e2];exact h
theorem zG (d:Val) (c:VC) (w:World) (hg:Good 4096 d) (hd:IsVal (· < w.heap.size) w c d) (hT:Tabs w) (hZ:ZTab w) :
 Calls Tryz.prog 196 #[c.v] w fun e w'=>e=.returned (.string ⟨(txt d).toArray⟩)∧Below w.heap.size w w':=kU _ d lr c w hg hd hT hZ
end
section
open Go Go.RowKit Go.Shelf
def cM (d:Val):ByteArray × Int :=
 if dM d=false∧bP d≠0 then (⟨#[]⟩,bP d) else if 65536<(txt d).length then (⟨#[]⟩,5) else (⟨(txt d).toArray⟩,0)
theorem dT (d:Val):(cM d).1.size≤65536:=by
 unfold cM
 split
 ·exact Nat.zero_le _
 ·split
  ·exact Nat.zero_le _
  ·rw[cD];omega
theorem pE (s:ByteArray) (hs:65536<s.size) (w:World):Calls Tryz.prog 195 #[.string s] w fun e w'=>e=.returned (.tuple #[.string ⟨#[]⟩,.int .i64 5])∧w=w':=by
 have hs':(65536:Int)<(s.size:Int):=by omega
 go_enter Tryz.func195,Tryz.ntmps195
 go_wp2
 exact bodyPost_ret (v:=.tuple #[.string ⟨#[]⟩,.int .i64 5]) (by simp[results,Tryz.results195,go_sem]) rfl ⟨rfl,rfl⟩
theorem pF (s:ByteArray) (w:World):Calls Tryz.prog 195 #[.string s] w fun e w'=>e=.returned (.tuple #[.string (if 65536<s.size then ⟨#[]⟩ else s),.int .i64 (if 65536<s.size then 5 else 0)])∧w=w':=by
 by_cases h:65536<s.size
 ·rw[if_pos h,if_pos h];exact pE s h w
 ·rw[if_neg h,if_neg h];exact lD s (by omega) w
theorem aCo (c:VC) (d:Val) (w:World) (hd:IsVal (· < w.heap.size) w c d) (hT:Tabs w) (hn:dM d=false) (h0:bP d≠0) :
 Calls Tryz.prog 142 #[c.v] w fun e w'=>e=.returned (.tuple #[.string ⟨#[]⟩,.int .i64 (bP d)])∧Below w.heap.size w w':=by
 have hb1:Below w.heap.size w (w.alloc (vObj c)):=(bR w).alloc lr _
 have HB1:=hid hb1
 have HC:=hid (gW c d w hd hT _ hb1)
 obtain⟨x,hx⟩:∃x,x=bP d:=⟨_,rfl⟩
 rw[←hx] at HC h0 ⊢
 have hx0:(x==0)=false:=by simp;exact h0
 have hx1:(x != 0)=true:=by simp;exact h0
 have HIN:=hid (fun w=>bM c.k c.i c.s c.t c.la c.ll c.lc c.fa c.fl c.fc w)
 rw[←gD hd,hn] at HIN
 have HSIX:Hid (∀w2,Below (w.alloc (vObj c)).heap.size (w.alloc (vObj c)) w2→Six w2 w.heap.size c∧Below w.heap.size w w2):=hid fun w2 h=>⟨sixOf (aB h (heap_alloc_new w _)),hb1.trans (h.mono hb1.size)⟩
 clear hd hT h0 hb1 hx hn
 obtain⟨k,i,s,tt,la,ll,lc,fa,fl,fc⟩:=c
 dsimp only[vObj,VC.v] at HC HIN HSIX HB1 ⊢
 go_enter Tryz.func142,Tryz.ntmps142
 go_wp2_with (first
  | (go_at_call 104;refine HC.out.mono ?_;rintro e w2 ⟨rfl,hb2⟩;obtain⟨⟨j1,j2,j3,j4,j5,j6⟩,hb3⟩:=HSIX.out _ hb2)
  | (go_at_call 105;refine(HIN.out _).mono ?_;rintro e w4 ⟨rfl,hb4⟩))
 exact bodyPost_ret (v:=.tuple #[.string ⟨#[]⟩,.int .i64 x]) (by simp[results,Tryz.results142,go_sem]) rfl ⟨rfl,hb3.trans (hb4.mono hb3.size)⟩
theorem litG_ok (c:VC) (d:Val) (w:World) (hd:IsVal (· < w.heap.size) w c d) (hT:Tabs w) (hZ:ZTab w) (h0:bP d=0) :
 Calls Tryz.prog 142 #[c.v] w fun e w'=>e=.returned (.tuple #[.string (if 65536<(⟨(txt d).toArray⟩:ByteArray).size then ⟨#[]⟩ else ⟨(txt d).toArray⟩),.int .i64 (if 65536<(⟨(txt d).toArray⟩:ByteArray).size then 5 else 0)])∧Below w.heap.size w w':=by
 have hb1:Below w.heap.size w (w.alloc (vObj c)):=(bR w).alloc lr _
 have HB1:=hid hb1
 have HC:=hid (gW c d w hd hT _ hb1)
 rw[h0] at HC
 have HTX:Hid (∀w',Below w.heap.size w w'→Calls Tryz.prog 196 #[c.v] w' fun e w2=>e=.returned (.string ⟨(txt d).toArray⟩)∧Below w'.heap.size w' w2):=hid fun w' h=>zG d c w' (good_of h0) (hd.same fun b q=>⟨Nat.lt_of_lt_of_le q h.size,h.block b q⟩) (hT.below h) (hZ.below h)
 obtain⟨t,ht⟩:∃t:ByteArray,t=⟨(txt d).toArray⟩:=⟨_,rfl⟩
 rw[←ht] at HTX ⊢
 have HLM:=hid (fun w=>pF t w)
 obtain⟨u,hu⟩:∃u:ByteArray,u=if 65536<t.size then ⟨#[]⟩ else t:=⟨_,rfl⟩
 obtain⟨v,hv⟩:∃v:Int,v=if 65536<t.size then 5 else 0:=⟨_,rfl⟩
 rw[←hu,←hv] at HLM ⊢
 have HSIX:Hid (∀w2,Below (w.alloc (vObj c)).heap.size (w.alloc (vObj c)) w2→Six w2 w.heap.size c∧Below w.heap.size w w2):=hid fun w2 h=>⟨sixOf (aB h (heap_alloc_new w _)),hb1.trans (h.mono hb1.size)⟩
 clear hd hT hZ h0 hb1 ht hu hv
 obtain⟨k,i,s,tt,la,ll,lc,fa,fl,fc⟩:=c
 dsimp only[vObj,VC.v] at HC HTX HSIX HB1 ⊢
 go_enter Tryz.func142,Tryz.ntmps142
 go_wp2_with (first
  | (go_at_call 104;refine HC.out.mono ?_;rintro e w2 ⟨rfl,hb2⟩;obtain⟨⟨j1,j2,j3,j4,j5,j6⟩,hb3⟩:=HSIX.out _ hb2)
  | (go_at_call 196;refine(HTX.out _ hb3).mono ?_;rintro e w4 ⟨rfl,hb4⟩)
  | (go_at_call 195;refine(HLM.out _).mono ?_;rintro e w5 ⟨rfl,rfl⟩))
 exact bodyPost_ret (v:=.tuple #[.string u,.int .i64 v]) (by simp[results,Tryz.results142,go_sem]) rfl ⟨rfl,hb3.trans (hb4.mono hb3.size)⟩
theorem aA4 (c:VC) (d:Val) (w:World) (hd:IsVal (· < w.heap.size) w c d) (hT:Tabs w) (hn:dM d=true) (h0:bP d≠0) (hk:c.k=0) :
 Calls Tryz.prog 142 #[c.v] w fun e w'=>e=.returned (.tuple #[.string ⟨#[110,117,108,108]⟩,.int .i64 0])∧Below w.heap.size w w':=by
 have hb1:Below w.heap.size w (w.alloc (vObj c)):=(bR w).alloc lr _
 have HB1:=hid hb1
 have HC:=hid (gW c d w hd hT _ hb1)
 obtain⟨x,hx⟩:∃x,x=bP d:=⟨_,rfl⟩
 rw[←hx] at HC h0
 have hx0:(x==0)=false:=by simp;exact h0
 have hx1:(x != 0)=true:=by simp;exact h0
 have HIN:=hid (fun w=>bM c.k c.i c.s c.t c.la c.ll c.lc c.fa c.fl c.fc w)
 rw[←gD hd,hn] at HIN
 have HTX:=hid (fun w=>oS c.s c.i c.t c.la c.ll c.lc c.fa c.fl c.fc w)
 have HSIX:Hid (∀w2,Below (w.alloc (vObj c)).heap.size (w.alloc (vObj c)) w2→Six w2 w.heap.size c∧Below w.heap.size w w2):=hid fun w2 h=>⟨sixOf (aB h (heap_alloc_new w _)),hb1.trans (h.mono hb1.size)⟩
 have HLM:=hid (fun w=>lD ⟨#[110,117,108,108]⟩ (by decide) w)
 clear hd hT h0 hb1 hx hn
 obtain⟨k,i,s,tt,la,ll,lc,fa,fl,fc⟩:=c
 dsimp only[vObj,VC.v] at HC HIN HTX HSIX HB1 hk ⊢
 subst hk
 go_enter Tryz.func142,Tryz.ntmps142
 go_wp2_with (first
  | (go_at_call 104;refine HC.out.mono ?_;rintro e w2 ⟨rfl,hb2⟩;obtain⟨⟨j1,j2,j3,j4,j5,j6⟩,hb3⟩:=HSIX.out _ hb2;have HB2:=hid hb2;clear hb2)
  | (go_at_call 105;refine(HIN.out _).mono ?_;rintro e w4 ⟨rfl,hb4⟩;obtain⟨⟨l1,l2,l3,l4,l5,l6⟩,hb5⟩:=HSIX.out _ (HB2.out.trans (hb4.mono HB2.out.size));clear hb4 j1 j2 j3 j4 j5 j6)
  | (go_at_call 196;refine(HTX.out _).mono ?_;rintro e w6 ⟨rfl,hb6⟩)
  | (go_at_call 195;refine(HLM.out _).mono ?_;rintro e w7 ⟨rfl,rfl⟩))
 exact bodyPost_ret (v:=.tuple #[.string ⟨#[110,117,108,108]⟩,.int .i64 0]) (by simp[results,Tryz.results142,go_sem]) rfl ⟨rfl,hb5.trans (hb6.mono hb5.size)⟩
theorem fV (c:VC) (d:Val) (w:World) (hd:IsVal (· < w.heap.size) w c d) (hT:Tabs w) (hZ:ZTab w) :
 Calls Tryz.prog 142 #[c.v] w fun e w'=>e=.returned (.tuple #[.string (cM d).1,.int .i64 (cM d).2])∧Below w.heap.size w w':=by
 unfold cM
 by_cases h0:bP d=0
 ·rw[if_neg (fun h=>h.2 h0)]
  have h:=litG_ok c d w hd hT hZ h0
  rw[cD] at h
  split<;>rename_i hl<;>simp only[hl,if_true,if_false] at h<;>exact h
 by_cases hn:dM d=true
 ·rw[if_neg (by rw[hn];simp)]
  have hk:c.k=0:=by
   have h:=gD hd
   rw[hn] at h
   have h2:dC c.k c.i c.s c.t c.ll c.fl=true:=h.symm
   unfold dC at h2
   simp only[Bool.and_eq_true,beq_iff_eq] at h2
   exact h2.1
  have hk2:qI d=0:=by obtain⟨k,i,s,t,l,ns,fs⟩:=d;obtain⟨h,_⟩:=hd;exact h.1.symm.trans hk
  have ht:txt d=[110,117,108,108]:=by
   obtain⟨k,i,s,t,l,ns,fs⟩:=d
   have hk3:k=0:=hk2
   subst hk3
   simp[txt,kB]
  rw[ht]
  exact aA4 c d w hd hT hn h0 hk
 ·rw[if_pos ⟨by simpa using hn,h0⟩]
  exact aCo c d w hd hT (by simpa using hn) h0
end
end Go.Proofs.YteladbdfiannjaaGreatDoor
