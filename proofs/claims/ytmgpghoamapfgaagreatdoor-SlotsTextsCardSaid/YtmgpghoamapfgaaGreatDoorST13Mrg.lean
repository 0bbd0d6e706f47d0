/- A part. -/
import Derived.Test.YtmgpghoamapfgaaGreatDoorST10Mrg
import Derived.Test.YtmgpghoamapfgaaGreatDoorST11Mrg
import Derived.Test.YtmgpghoamapfgaaGreatDoorST12Mrg
namespace Go.Proofs.YtmgpghoamapfgaaGreatDoor
set_option linter.unusedVariables false
set_option maxRecDepth 100000
set_option maxHeartbeats 16000000
set_option linter.unusedSimpArgs false
section
open Go Go.RowKit Go.Shelf
def ZTab (w:World):Prop:=TabAt 7 Lib.deBruijn64tab w
theorem ZTab.below {w w':World} (h:ZTab w) (hb:BB w w'):ZTab w':=fun j hj =>
 (World.cell?_of_block (w:=w) (a:=⟨7,j,none⟩) (hb.block _ (World.block_lt_of_cell? w _ (h j hj)))).trans (h j hj)
theorem uP (w:World):CP 267 #[I6 16] w fun e w'=>e=.returned (.bool true)/\w=w':=by
 go_enter Tryz.func267,Tryz.ntmps267
 go_wp2;go_ret;exact⟨rfl,rfl⟩
theorem yB (w:World) (hZ:ZTab w):CP 268 #[.int .u64 16] w fun e w'=>e=.returned (I6 4)/\w=w':=by
 refine(Tryz.bits_TrailingZeros 16 gc w (fun _=>hZ)).mono fun e w' ⟨he,hw⟩=>⟨?_,hw.symm⟩
 rw[he,show Lib.ctz 64 16=4 by decide +kernel];rfl
def digB:ByteArray:=⟨#[48,49,50,51,52,53,54,55,56,57,97,98,99,100,101,102,103,104,105,106,107,108,109,110,111,112,113,114,115,116,117,118,119,120,121,122]⟩
theorem aH9:∀c:Nat,(h:c<16)->(digB[c]'(Nat.lt_of_lt_of_le h gc)).toNat=(jF c).toNat:=by decide
theorem and15 (c:Nat) (hc:c<128):bits BinOp.and IntKind.u64 (c:Int) 15=((c % 16:Nat):Int):=by
 have h:∀c:Fin 128,bits BinOp.and IntKind.u64 ((c.val:Nat):Int) 15=((c.val % 16:Nat):Int):=by decide +kernel
 exact h ⟨c,hc⟩
theorem aEf (c:Nat) (hc:c<16) (w:World) (hZ:ZTab w) :
 CP 215 #[.slice none 0 0,.int .u64 (c:Int),I6 16,.bool false,.bool false] w (Rt (.tuple #[.slice none 0 0,.string ⟨#[jF c]⟩]) w):=by
 have HZ:=hid (fun w' (h:BB w w')=>yB w' (hZ.below h));have HD:=hid (aH9 c hc);have q16:¬ (16:Int)<=(c:Int):=by omega
 have q0:(0:Int)<=(c:Int):=by omega
 have q36:(c:Int)<36:=by omega
 have q36':c<36:=by omega
 go_enter Tryz.func215,Tryz.ntmps215
 go_wp2_with (first
  | (go_at_call 268;refine(HZ.out _ ((bR w).alloc lr _)).mono ?_;rintro e w' ⟨rfl,rfl⟩)
  | (go_at_call 267;refine(uP _).mono ?_;rintro e w' ⟨rfl,rfl⟩))
 have hA0:Tryz.zeroCells304.size=65:=by kernel_rfl
 generalize Tryz.zeroCells304=A at hA0 ⊢
 go_loopw [1,13] (fun u i wr=>u=.int .u64 (c:Int)/\i=I6 65/\wr=w.alloc (.cells A 304)) (fun u _ _=>0)
 case atStart=>exact⟨rfl,rfl,rfl⟩
 case round =>
  obtain⟨rfl,rfl,rfl⟩:=hrel;go_wp2;have hcv:=fun W h=>run_convert_bytes_back (P:=Tryz.prog) W 72 9 5 ⟨w.heap.size,64,none⟩ 1 [jF c] Tryz.underlying72 Tryz.underlying5 Tryz.underlying9 h;simp only[List.length_singleton] at hcv;rw[hcv _ (fun j hj=>by
   have hj0:j=0:=by simpa using hj
   subst hj0;rw[show(⟨w.heap.size,64,none⟩:Addr).add 0=⟨w.heap.size,64,none⟩ from rfl,aA (heap_alloc_new w _) 64];have hd:=HD.out;simp only[digB] at hd;simp[hA0,hd])]
  simp only[Result.andThen];rw[Oper.upon_value];go_wp2;exact bodyPost_ret (v:=.tuple #[.slice none 0 0,.string ⟨#[jF c]⟩]) (by simp[results,Tryz.results215,go_sem]) rfl ⟨rfl,(bR w).alloc lr _⟩
theorem aEe (c:Nat) (h16:16<=c) (hc:c<128) (w:World) (hZ:ZTab w) :
 CP 215 #[.slice none 0 0,.int .u64 (c:Int),I6 16,.bool false,.bool false] w (Rt (.tuple #[.slice none 0 0,.string ⟨#[jF (c / 16),jF (c % 16)]⟩]) w):=by
 have HZ:=hid (fun w' (h:BB w w')=>yB w' (hZ.below h));obtain⟨q,hq⟩:=ez (c / 16)
 obtain⟨r,hr⟩:=ez (c % 16)
 have hq16:q<16:=by omega
 have hr16:r<16:=by omega
 have HD:=hid (And.intro (aH9 q hq16) (aH9 r hr16));have ha:=and15 c hc;rw[<-hr] at ha;have q16:(16:Int)<=(c:Int):=by omega
 have p16:¬ (16:Int)<=(q:Int):=by omega
 have q0:(0:Int)<=(q:Int):=by omega
 have r0:(0:Int)<=(r:Int):=by omega
 have q36:(q:Int)<36:=by omega
 have r36:(r:Int)<36:=by omega
 have q36':q<36:=by omega
 have r36':r<36:=by omega
 have hsh:((c:Int) / 2 ^ 4)=(q:Int):=by omega
 have hsh2:((c:Int) / 16)=(q:Int):=by omega
 rw[<-hq,<-hr];clear hq hr;go_enter Tryz.func215,Tryz.ntmps215
 go_wp2_with (first
  | (go_at_call 268;refine(HZ.out _ ((bR w).alloc lr _)).mono ?_;rintro e w' ⟨rfl,rfl⟩)
  | (go_at_call 267;refine(uP _).mono ?_;rintro e w' ⟨rfl,rfl⟩))
 have hA0:Tryz.zeroCells304.size=65:=by kernel_rfl
 generalize Tryz.zeroCells304=A at hA0 ⊢;obtain⟨A',hA'⟩:∃A',A'=A.setIfInBounds 64 (.int .u8 ((jF r).toNat:Int)):=⟨_,rfl⟩
 have hA1:A'.size=65:=by rw[hA'];simp[hA0]
 have HA:=hid hA';clear hA'
 go_loopw [1,13] (fun u i wr=>(u=.int .u64 (c:Int)/\i=I6 65/\wr=w.alloc (.cells A 304))\/(u=.int .u64 (q:Int)/\i=I6 64/\wr=w.alloc (.cells A' 304))) (fun u _ _=>(intOf u).toNat)
 case atStart=>exact .inl ⟨rfl,rfl,rfl⟩
 case round =>
  rcases hrel with ⟨rfl,rfl,rfl⟩ | ⟨rfl,rfl,rfl⟩
  ·go_wp2;obtain⟨hd,he⟩:=HD.out;simp only[digB] at hd he;refine⟨.inr ⟨rfl,rfl,?_⟩,?_⟩
   ·rw[HA.out,<-he]
   ·simp[intOf];omega
  ·go_wp2;have hcv:=fun W h=>run_convert_bytes_back (P:=Tryz.prog) W 72 9 5 ⟨w.heap.size,63,none⟩ 2 [jF q,jF r] Tryz.underlying72 Tryz.underlying5 Tryz.underlying9 h;simp only[List.length_cons,List.length_nil,Nat.zero_add,Nat.reduceAdd] at hcv;rw[hcv _ (fun j hj=>by
    obtain⟨hd,he⟩:=HD.out;simp only[digB] at hd he;have hj2:j<2:=hj;have hj0:j=0\/j=1:=by omega
    rcases hj0 with rfl | rfl
    ·rw[show(⟨w.heap.size,63,none⟩:Addr).add 0=⟨w.heap.size,63,none⟩ from rfl,aA (heap_alloc_new w _) 63];rw[Array.getElem?_setIfInBounds];simp[hA1,hd]
    ·rw[show(⟨w.heap.size,63,none⟩:Addr).add 1=⟨w.heap.size,64,none⟩ from rfl,aA (heap_alloc_new w _) 64];rw[Array.getElem?_setIfInBounds,HA.out,Array.getElem?_setIfInBounds];simp[hA0])]
   simp only[Result.andThen];rw[Oper.upon_value];go_wp2;exact bodyPost_ret (v:=.tuple #[.slice none 0 0,.string ⟨#[jF q,jF r]⟩]) (by simp[results,Tryz.results215,go_sem]) rfl ⟨rfl,(bR w).alloc lr _⟩
theorem aBz (c:Nat) (hc:c<128) (w:World) (hZ:ZTab w) :
 CP 215 #[.slice none 0 0,.int .u64 (c:Int),I6 16,.bool false,.bool false] w (Rt (.tuple #[.slice none 0 0,.string ⟨(jG c).toArray⟩]) w):=by
 unfold jG;by_cases h:c<16
 ·rw[if_pos h];exact aEf c h w hZ
 ·rw[if_neg h];exact aEe c ga hc w hZ
theorem aKg (c:Nat) (hc:c<128) (w:World) (hZ:ZTab w) :
 CP 131 #[I6 (c:Int),I6 16] w (Rt (.string ⟨(jG c).toArray⟩) w):=by
 have HB:=hid (aBz c hc w hZ);have wc:IntKind.u64.wrap (c:Int)=(c:Int):=by rw[IntKind.wrap_u64];omega
 have c0:¬ (c:Int)<0:=by omega
 clear hZ hc;go_enter Tryz.func131,Tryz.ntmps131
 go_wp2_with (go_at_call 215;refine HB.out.mono ?_;rintro e w1 ⟨rfl,hb1⟩)
 go_ret;exact⟨rfl,hb1⟩
theorem vN (c:Nat) (hc:c<128) (w:World) (hZ:ZTab w) :
 CP 219 #[I6 (c:Int),I6 16] w (Rt (.string ⟨(jG c).toArray⟩) w):=by
 have HB:=hid (aKg c hc w hZ);clear hZ hc;go_enter Tryz.func219,Tryz.ntmps219
 go_wp2_with (go_at_call 131;refine HB.out.mono ?_;rintro e w1 ⟨rfl,hb1⟩)
 go_ret;exact⟨rfl,hb1⟩
end
section
open Go Go.RowKit Go.Shelf
theorem aN2 (s:ByteArray) (k:Nat) (h:k<s.size):Lib.byteCells (34 :: (s.data.toList.take (k+1)).flatMap dB)=Lib.byteCells (34 :: (s.data.toList.take k).flatMap dB)++Lib.byteCells (dB s[k]):=by
 rw[List.take_add_one,jV s k h];simp[Lib.byteCells]
theorem esc_len (s:ByteArray) (k:Nat) (h:k<=s.size) (hs:s.size<=1000000):(Lib.byteCells (34 :: (s.data.toList.take k).flatMap dB)).length<=6000001:=by
 have h1:=iQ dB 6 aEk (s.data.toList.take k);have h2:(s.data.toList.take k).length<=k:=by simp;omega
 simp only[Lib.byteCells,List.length_map,List.length_cons];omega
theorem esc_q (b:UInt8) (c:Nat) (h:b.toNat=c) (h1:c=34\/c=92):Lib.byteCells (dB b)=[.int .u8 92]++[.int .u8 (c:Int)]:=by
 rw[dB,if_pos (by rw[h];exact h1)];simp[Lib.byteCells,h]
theorem esc_n (b:UInt8) (h:b.toNat=10):Lib.byteCells (dB b)=Lib.strCells ⟨#[92,110]⟩:=by
 rw[dB,if_neg ga,if_pos h];rfl
theorem esc_r (b:UInt8) (h:b.toNat=13):Lib.byteCells (dB b)=Lib.strCells ⟨#[92,114]⟩:=by
 rw[dB,if_neg ga,if_neg ga,if_pos h];rfl
theorem esc_t (b:UInt8) (h:b.toNat=9):Lib.byteCells (dB b)=Lib.strCells ⟨#[92,116]⟩:=by
 rw[dB,if_neg ga,if_neg ga,if_neg ga,if_pos h];rfl
theorem esc_c (b:UInt8) (c:Nat) (h:b.toNat=c) (h1:(c<32/\c≠10/\c≠13/\c≠9)\/c=127) (x:ByteArray) (hx:x=⟨(jG c).toArray⟩):Lib.byteCells (dB b)=Lib.strCells (⟨#[92,117,123]⟩++x++⟨#[125]⟩):=by
 rw[dB,if_neg ga,if_neg ga,if_neg ga,if_neg ga,if_pos ga,h,hx];simp[Lib.strCells,Lib.byteCells,ByteArray.data_append]
theorem esc_p (b:UInt8) (c:Nat) (h:b.toNat=c) (h1:32<=c/\c≠34/\c≠92/\c≠127):Lib.byteCells (dB b)=[.int .u8 (c:Int)]:=by
 rw[dB,if_neg ga,if_neg ga,if_neg ga,if_neg ga,if_neg ga];simp[Lib.byteCells,h]
theorem mZ (s:ByteArray) (w:World) (hs:s.size<=1000000) (hT:Tabs w) (hZ:ZTab w) :
 CP 134 #[.string s] w (Rt (.string ⟨(aP s.data.toList).toArray⟩) w):=by
 have HBN:=hid (jK w);have HTZ:=hid hZ;have HB0:=hid (show BB w (w.alloc (.cells #[.pointer none,.slice none 0 0] 74)) from(bR w).alloc lr _);have HWB:=hid (cR w.heap.size w.heap.size [] 34 (w.alloc (.cells #[.pointer none,.slice none 0 0] 74)) (jK w) gd gd);clear hT hZ;go_enter Tryz.func134,Tryz.ntmps134
 go_wp2_with (go_at_call 218;refine HWB.out.mono ?_;rintro e w1 ⟨rfl,h1,hb1,hk1⟩)
 have HH1:=hid h1;have HB1:=hid hb1;clear h1 hb1 hk1
 go_loopw [9] (fun i wr=>∃k:Nat,k<=s.size/\i=I6 k/\IsBld w.heap.size w.heap.size (Lib.byteCells (34 :: (s.data.toList.take k).flatMap dB)) wr/\Below w.heap.size w1 wr) (fun i _=>s.size-(intOf i).toNat)
 case atStart=>exact⟨0,Nat.zero_le _,rfl,.inr (by simpa [Lib.byteCells] using HH1.out),Below.refl _ _⟩
 case round =>
  obtain⟨k,hk,rfl,hbl,hbr⟩:=hrel;obtain⟨wp,rfl⟩:=ez (wr:World)
  have hsz:w.heap.size<=wp.heap.size:=by have h1:=(HB0.out.trans HB1.out).size;have h2:=hbr.size;omega
  have HTW:=hid (HTZ.out.below ((HB0.out.trans (HB1.out.mono gd)).trans hbr));have hln6:=esc_len s k hk hs;by_cases hlt:k<s.size
  ·have hlt':(k:Int)<(s.size:Int):=by omega
   have hk0:(0:Int)<=(k:Int):=by omega
   have HST2:=hid (aN2 s k hlt);have HLN:=hid hln6;have HW92:=hid (cR w.heap.size w.heap.size _ 92 wp hbl ga hsz);have HWS:=hid (fun (x:ByteArray) (hx:x.size<=6)=>kZ w.heap.size w.heap.size _ x wp hbl ga hsz);have HWS2:=hid (fun (x:ByteArray) (w3:World) (h3:BB wp w3) (hx:x.size<=6)=>kZ w.heap.size w.heap.size _ x w3 (hbl.ext h3) ga (Nat.le_trans hsz h3.size));have hWC:=fun c:Int=>cR w.heap.size w.heap.size _ c wp hbl ga hsz;have HWCA:=hid hWC;have HBR:=hid hbr;have HSZ:=hid hsz;clear hbl hbr hsz hWC hln6;go_upto_region 8 with (fail)
   have h255:s[k].toNat<256:=s[k].toNat_lt;obtain⟨c,hc⟩:∃c:Nat,s[k].toNat=c:=⟨_,rfl⟩
   rw[hc] at h255 ⊢;have HWC:=hid (HWCA.out (c:Int));have HC:=hid hc;have hcase:c=34\/c=92\/c=10\/c=13\/c=9\/(c<32/\c≠10/\c≠13/\c≠9)\/c=127\/(32<=c/\c≠34/\c≠92/\c≠127):=by omega
   clear hc;rcases hcase with hcase | hcase | hcase | hcase | hcase | hcase | hcase | hcase
   ·have q34:((c:Int)==34)=true:=by simp;omega
    have q92:((c:Int)==92)=false:=by simp;omega
    have q10:((c:Int)==10)=false:=by simp;omega
    have q13:((c:Int)==13)=false:=by simp;omega
    have q9:((c:Int)==9)=false:=by simp;omega
    have q127:((c:Int)==127)=false:=by simp;omega
    have q32:¬ (c:Int)<32:=by omega
    have hE:=esc_q s[k] c HC.out ga;have HE:=hid hE;clear hE hcase;go_wp2_with (first
     | (go_at_call 218;refine(cR w.heap.size w.heap.size _ (c:Int) w3 (.inr h3) (by have:=HLN.out;rw[List.length_append];simp only[List.length_cons,List.length_nil];omega) (Nat.le_trans HSZ.out hb3.size)).mono ?_;rintro e w4 ⟨rfl,h4,hb4,hk4⟩)
     | (go_at_call 218;refine HW92.out.mono ?_;rintro e w3 ⟨rfl,h3,hb3,hk3⟩))
    go_roundw
    case rel=>exact⟨k+1,by omega,by go_num,.inr (by rw[HST2.out,HE.out,<-List.append_assoc];exact h4),HBR.out.trans (hb3.trans hb4)⟩
    case measure=>simp[intOf];omega
   ·have q34:((c:Int)==34)=false:=by simp;omega
    have q92:((c:Int)==92)=true:=by simp;omega
    have q10:((c:Int)==10)=false:=by simp;omega
    have q13:((c:Int)==13)=false:=by simp;omega
    have q9:((c:Int)==9)=false:=by simp;omega
    have q127:((c:Int)==127)=false:=by simp;omega
    have q32:¬ (c:Int)<32:=by omega
    have hE:=esc_q s[k] c HC.out ga;have HE:=hid hE;clear hE hcase;go_wp2_with (first
     | (go_at_call 218;refine(cR w.heap.size w.heap.size _ (c:Int) w3 (.inr h3) (by have:=HLN.out;rw[List.length_append];simp only[List.length_cons,List.length_nil];omega) (Nat.le_trans HSZ.out hb3.size)).mono ?_;rintro e w4 ⟨rfl,h4,hb4,hk4⟩)
     | (go_at_call 218;refine HW92.out.mono ?_;rintro e w3 ⟨rfl,h3,hb3,hk3⟩))
    go_roundw
    case rel=>exact⟨k+1,by omega,by go_num,.inr (by rw[HST2.out,HE.out,<-List.append_assoc];exact h4),HBR.out.trans (hb3.trans hb4)⟩
    case measure=>simp[intOf];omega
   ·have q34:((c:Int)==34)=false:=by simp;omega
    have q92:((c:Int)==92)=false:=by simp;omega
    have q10:((c:Int)==10)=true:=by simp;omega
    have q13:((c:Int)==13)=false:=by simp;omega
    have q9:((c:Int)==9)=false:=by simp;omega
    have q127:((c:Int)==127)=false:=by simp;omega
    have q32:(c:Int)<32:=by omega
    have hE:=esc_n s[k] (HC.out.trans ga);have HE:=hid hE;clear hE hcase;go_wp2_with (go_at_call 32;refine(HWS.out ⟨#[92,110]⟩ gc).mono ?_;rintro e w3 ⟨rfl,h3,hb3,hk3⟩)
    go_roundw
    case rel=>exact⟨k+1,by omega,by go_num,.inr (by rw[HST2.out,HE.out];exact h3),HBR.out.trans hb3⟩
    case measure=>simp[intOf];omega
   ·have q34:((c:Int)==34)=false:=by simp;omega
    have q92:((c:Int)==92)=false:=by simp;omega
    have q10:((c:Int)==10)=false:=by simp;omega
    have q13:((c:Int)==13)=true:=by simp;omega
    have q9:((c:Int)==9)=false:=by simp;omega
    have q127:((c:Int)==127)=false:=by simp;omega
    have q32:(c:Int)<32:=by omega
    have hE:=esc_r s[k] (HC.out.trans ga);have HE:=hid hE;clear hE hcase;go_wp2_with (go_at_call 32;refine(HWS.out ⟨#[92,114]⟩ gc).mono ?_;rintro e w3 ⟨rfl,h3,hb3,hk3⟩)
    go_roundw
    case rel=>exact⟨k+1,by omega,by go_num,.inr (by rw[HST2.out,HE.out];exact h3),HBR.out.trans hb3⟩
    case measure=>simp[intOf];omega
   ·have q34:((c:Int)==34)=false:=by simp;omega
    have q92:((c:Int)==92)=false:=by simp;omega
    have q10:((c:Int)==10)=false:=by simp;omega
    have q13:((c:Int)==13)=false:=by simp;omega
    have q9:((c:Int)==9)=true:=by simp;omega
    have q127:((c:Int)==127)=false:=by simp;omega
    have q32:(c:Int)<32:=by omega
    have hE:=esc_t s[k] (HC.out.trans ga);have HE:=hid hE;clear hE hcase;go_wp2_with (go_at_call 32;refine(HWS.out ⟨#[92,116]⟩ gc).mono ?_;rintro e w3 ⟨rfl,h3,hb3,hk3⟩)
    go_roundw
    case rel=>exact⟨k+1,by omega,by go_num,.inr (by rw[HST2.out,HE.out];exact h3),HBR.out.trans hb3⟩
    case measure=>simp[intOf];omega
   ·have q34:((c:Int)==34)=false:=by simp;omega
    have q92:((c:Int)==92)=false:=by simp;omega
    have q10:((c:Int)==10)=false:=by simp;omega
    have q13:((c:Int)==13)=false:=by simp;omega
    have q9:((c:Int)==9)=false:=by simp;omega
    have q127:((c:Int)==127)=false:=by simp;omega
    have q32:(c:Int)<32:=by omega
    obtain⟨x,hx⟩:=ez (⟨(jG c).toArray⟩:ByteArray)
    have hxz:x.size<=2:=by rw[hx,aU];exact vJ c
    have HFI:=hid (vN c ga wp (HTW.out));rw[<-hx] at HFI;have hE:=esc_c s[k] c HC.out ga x hx;have hxs:(⟨#[92,117,123]⟩++x++⟨#[125]⟩:ByteArray).size<=6:=by rw[ByteArray.size_append,ByteArray.size_append];have:(⟨#[92,117,123]⟩:ByteArray).size=3:=rfl;have:(⟨#[125]⟩:ByteArray).size=1:=rfl;omega
    have HXS:=hid hxs;have HE:=hid hE;clear hE hcase hx hxs;go_wp2_with (first
     | (go_at_call 32;refine(HWS2.out _ w3 HB3.out HXS.out).mono ?_;rintro e w4 ⟨rfl,h4,hb4,hk4⟩)
     | (go_at_call 219;refine HFI.out.mono ?_;rintro e w3 ⟨rfl,hb3⟩;have HB3:=hid hb3;clear hb3))
    go_roundw
    case rel=>exact⟨k+1,by omega,by go_num,.inr (by rw[HST2.out,HE.out];exact h4),HBR.out.trans ((HB3.out.mono HSZ.out).trans hb4)⟩
    case measure=>simp[intOf];omega
   ·have q34:((c:Int)==34)=false:=by simp;omega
    have q92:((c:Int)==92)=false:=by simp;omega
    have q10:((c:Int)==10)=false:=by simp;omega
    have q13:((c:Int)==13)=false:=by simp;omega
    have q9:((c:Int)==9)=false:=by simp;omega
    have q127:((c:Int)==127)=true:=by simp;omega
    have q32:¬ (c:Int)<32:=by omega
    obtain⟨x,hx⟩:=ez (⟨(jG c).toArray⟩:ByteArray)
    have hxz:x.size<=2:=by rw[hx,aU];exact vJ c
    have HFI:=hid (vN c ga wp (HTW.out));rw[<-hx] at HFI;have hE:=esc_c s[k] c HC.out ga x hx;have hxs:(⟨#[92,117,123]⟩++x++⟨#[125]⟩:ByteArray).size<=6:=by rw[ByteArray.size_append,ByteArray.size_append];have:(⟨#[92,117,123]⟩:ByteArray).size=3:=rfl;have:(⟨#[125]⟩:ByteArray).size=1:=rfl;omega
    have HXS:=hid hxs;have HE:=hid hE;clear hE hcase hx hxs;go_wp2_with (first
     | (go_at_call 32;refine(HWS2.out _ w3 HB3.out HXS.out).mono ?_;rintro e w4 ⟨rfl,h4,hb4,hk4⟩)
     | (go_at_call 219;refine HFI.out.mono ?_;rintro e w3 ⟨rfl,hb3⟩;have HB3:=hid hb3;clear hb3))
    go_roundw
    case rel=>exact⟨k+1,by omega,by go_num,.inr (by rw[HST2.out,HE.out];exact h4),HBR.out.trans ((HB3.out.mono HSZ.out).trans hb4)⟩
    case measure=>simp[intOf];omega
   ·have q34:((c:Int)==34)=false:=by simp;omega
    have q92:((c:Int)==92)=false:=by simp;omega
    have q10:((c:Int)==10)=false:=by simp;omega
    have q13:((c:Int)==13)=false:=by simp;omega
    have q9:((c:Int)==9)=false:=by simp;omega
    have q127:((c:Int)==127)=false:=by simp;omega
    have q32:¬ (c:Int)<32:=by omega
    have hE:=esc_p s[k] c HC.out ga;have HE:=hid hE;clear hE hcase;go_wp2_with (go_at_call 218;refine HWC.out.mono ?_;rintro e w3 ⟨rfl,h3,hb3,hk3⟩)
    go_roundw
    case rel=>exact⟨k+1,by omega,by go_num,.inr (by rw[HST2.out,HE.out];exact h3),HBR.out.trans hb3⟩
    case measure=>simp[intOf];omega
  ·obtain rfl:k=s.size:=by omega
   have hln:s.data.toList.length=s.size:=rfl;have hall:s.data.toList.take s.size=s.data.toList:=List.take_of_length_le (by rw[hln];exact Nat.le_refl _);rw[hall] at hbl hln6;have hbw:BB w wp:=(HB0.out.trans (HB1.out.mono gd)).trans hbr;have HW2:=hid (cR w.heap.size w.heap.size _ 34 wp hbl ga hsz);clear hln
   have HST:Hid (∀w' ,IsBld w.heap.size w.heap.size (Lib.byteCells (aP s.data.toList)) w'->w.heap.size<=w'.heap.size->CP 38 #[.pointer (some ⟨w.heap.size,0,none⟩)] w' fun e w2=>e=.returned (.string ⟨(aP s.data.toList).toArray⟩)/\Below w.heap.size w' w2):=hid fun w' h hn=>(Tryz.Builder_String_any_k _ _ _ w' h hn).mono fun e w2 ⟨he,_,hb,_⟩=>⟨he,hb⟩
   have HBW:=hid hbw;have HSZ:=hid hsz;clear hbl hbr hall hbw hln6;go_wp2_with (first
    | (go_at_call 38;refine(HST.out w4 (.inr (by have e:Lib.byteCells (aP s.data.toList)=Lib.byteCells (34 :: s.data.toList.flatMap dB)++[.int .u8 34]:=(by simp[aP,Lib.byteCells]);rw[e];exact h4)) (Nat.le_trans HSZ.out hb4.size)).mono ?_;rintro e w5 ⟨rfl,hb5⟩)
    | (go_at_call 218;refine HW2.out.mono ?_;rintro e w4 ⟨rfl,h4,hb4,hk4⟩))
   go_ret;exact⟨rfl,(HBW.out.trans hb4).trans hb5⟩
end
section
open Go Go.RowKit Go.Shelf
def lowB:ByteArray:=⟨#[48,49,50,51,52,53,54,55,56,57,97,98,99,100,101,102]⟩
theorem aMi:∀c:Nat,c<16->lowB.extract c (c+1)=⟨#[jF c]⟩:=by decide
theorem aKs (s:ByteArray) (k:Nat) (h:k<s.size):Lib.byteCells ((s.data.toList.take (k+1)).flatMap eD)=Lib.byteCells ((s.data.toList.take k).flatMap eD)++Lib.byteCells (eD s[k]):=by
 rw[List.take_add_one,jV s k h];simp[Lib.byteCells]
theorem aNc (s:ByteArray) (k:Nat) (h:k<=s.size) (hs:s.size<=1000000):(Lib.byteCells ((s.data.toList.take k).flatMap eD)).length<=2000000:=by
 have h1:=iQ eD 2 (fun c=>by simp[eD]) (s.data.toList.take k);have h2:(s.data.toList.take k).length<=k:=by simp;omega
 simp only[Lib.byteCells,List.length_map];omega
theorem aD5 (s:ByteArray) (w:World) (hs:s.size<=1000000) :
 CP 135 #[.string s] w (Rt (.string ⟨(gL s.data.toList).toArray⟩) w):=by
 have HBN:=hid (jK w);have HB0:=hid (show BB w (w.alloc (.cells #[.pointer none,.slice none 0 0] 74)) from(bR w).alloc lr _);go_enter Tryz.func135,Tryz.ntmps135
 go_wp2
 go_loopw [7] (fun i wr=>∃k:Nat,k<=s.size/\i=I6 k/\IsBld w.heap.size w.heap.size (Lib.byteCells ((s.data.toList.take k).flatMap eD)) wr/\Below w.heap.size (w.alloc (.cells #[.pointer none,.slice none 0 0] 74)) wr) (fun i _=>s.size-(intOf i).toNat)
 case atStart=>exact⟨0,Nat.zero_le _,rfl,by simpa [Lib.byteCells] using HBN.out,Below.refl _ _⟩
 case round =>
  obtain⟨k,hk,rfl,hbl,hbr⟩:=hrel;obtain⟨wp,rfl⟩:=ez (wr:World)
  have hsz:w.heap.size<=wp.heap.size:=by have h1:=HB0.out.size;have h2:=hbr.size;omega
  have hln6:=aNc s k hk hs;by_cases hlt:k<s.size
  ·have hlt':(k:Int)<(s.size:Int):=by omega
   have hk0:(0:Int)<=(k:Int):=by omega
   have HST2:=hid (aKs s k hlt);have HWS:=hid (fun (x:ByteArray) (w3:World) (h3:BB wp w3) (hx:x.size<=6)=>kZ w.heap.size w.heap.size _ x w3 (hbl.ext h3) ga (Nat.le_trans hsz h3.size));have HBR:=hid hbr;have HSZ:=hid hsz;clear hbl hbr hsz hln6;have h255:s[k].toNat<256:=s[k].toNat_lt;obtain⟨q,hq⟩:=ez (s[k].toNat / 16:Nat)
   obtain⟨r,hr⟩:=ez (s[k].toNat % 16:Nat)
   have hq16:q<16:=by omega
   have hr16:r<16:=by omega
   have wq:IntKind.u8.wrap ((s[k].toNat:Int) / 16)=(q:Int):=by rw[IntWalk.u8_in _ ga];omega
   have wr2:(s[k].toNat:Int).tmod 16=(r:Int):=by rw[Int.tmod_eq_emod_of_nonneg ga];omega
   have wq1:IntKind.u8.wrap ((q:Int)+1)=(q:Int)+1:=IntWalk.u8_in _ ga;have wr1:IntKind.u8.wrap ((r:Int)+1)=(r:Int)+1:=IntWalk.u8_in _ ga;have lq:(q:Int)+1<=16:=by omega
   have lr:(r:Int)+1<=16:=by omega
   have lq0:(0:Int)<=(q:Int)+1:=by omega
   have lr0:(0:Int)<=(r:Int)+1:=by omega
   have lq1:(q:Int)<=(q:Int)+1:=by omega
   have lr1:(r:Int)<=(r:Int)+1:=by omega
   obtain⟨x,hx⟩:∃x:ByteArray,(⟨#[48,49,50,51,52,53,54,55,56,57,97,98,99,100,101,102]⟩:ByteArray).extract q (q+1)=x:=⟨_,rfl⟩
   obtain⟨y,hy⟩:∃y:ByteArray,(⟨#[48,49,50,51,52,53,54,55,56,57,97,98,99,100,101,102]⟩:ByteArray).extract r (r+1)=y:=⟨_,rfl⟩
   have ex:x=⟨#[jF q]⟩:=by rw[<-hx];exact aMi q hq16
   have ey:y=⟨#[jF r]⟩:=by rw[<-hy];exact aMi r hr16
   have hxz:x.size=1:=by rw[ex];rfl
   have hyz:y.size=1:=by rw[ey];rfl
   have HCD:=hid (show x++y=⟨(eD s[k]).toArray⟩ by rw[ex,ey,eD,<-hq,<-hr];rfl);have hxy:x.size+y.size<=9223372036854775807:=by omega
   have HXY:=hid (show(x++y).size<=6 by rw[ByteArray.size_append];omega);clear hq hr ex ey;go_upto_region 5 with (fail)
   refine rC 21 (fun w'=>BB wp w') ge ge ge gc ((Below.refl _ wp).drew) (fun hS=>?_);simp only[zdm,zdn,zdp,zdq];refine ta 0 ?_;refine ta 1 ?_;refine ta 2 ?_;refine ta 3 ?_;refine ta 4 ?_;refine ta 5 ?_;refine ta 6 ?_;refine ta 7 ?_;refine ta 8 ?_;refine ta 9 ?_;refine ta 10 ?_;refine ta 11 ?_;refine ta 12 ?_;refine ta 13 ?_;refine ta 14 ?_;refine ta 15 ?_;refine ta 16 ?_;refine ta 17 ?_;refine ta 18 ?_;refine ta 19 ?_;refine ta 20 ?_;refine wpAnyH_done ge ?_ _
   (try dsimp only)
   have HSS:=hid hS;clear hS;go_wp2_with (go_at_call 32;refine(HWS.out _ _ HSS.out HXY.out).mono ?_;rintro e w3 ⟨rfl,h3,hb3,hk3⟩)
   go_roundw
   case rel=>exact⟨k+1,by omega,by go_num,(.inr (by rw[HST2.out];have e:Lib.byteCells (eD s[k])=Lib.strCells (x++y):=(by rw[HCD.out];simp[Lib.strCells,Lib.byteCells]);rw[e];exact h3)),HBR.out.trans ((HSS.out.mono HSZ.out).trans hb3)⟩
   case measure=>simp[intOf];omega
  ·obtain rfl:k=s.size:=by omega
   have hln:s.data.toList.length=s.size:=rfl;have hall:s.data.toList.take s.size=s.data.toList:=List.take_of_length_le (by rw[hln];exact Nat.le_refl _);rw[hall] at hbl hln6;have hbw:BB w wp:=HB0.out.trans (hbr.mono gd);obtain⟨y,hy⟩:=ez (⟨(s.data.toList.flatMap eD).toArray⟩:ByteArray)
   have HST:=hid ((Tryz.Builder_String_any_k w.heap.size w.heap.size _ wp hbl hsz).mono fun e w2 ⟨he,_,hb,_⟩=>(show e=Ending.returned (.string y)/\Below w.heap.size wp w2 from⟨by rw[he,hy],hb⟩));have hyz:y.size<=2000000:=by rw[hy,aU];simpa [Lib.byteCells] using hln6
   have hz1:2+y.size<=9223372036854775807:=by omega
   have hz2:2+y.size+1<=9223372036854775807:=by omega
   have HF:=hid (show(⟨#[120,34]⟩:ByteArray)++y++⟨#[34]⟩=⟨(gL s.data.toList).toArray⟩ by
    rw[hy,show(⟨#[120,34]⟩:ByteArray)=⟨[120,34].toArray⟩ from rfl,show(⟨#[34]⟩:ByteArray)=⟨[34].toArray⟩ from rfl,bA,bA];rfl)
   have HBW:=hid hbw;clear hbl hbr hall hbw hln6 hy hyz hln;go_wp2_with (go_at_call 38;refine HST.out.mono ?_;rintro e w5 ⟨rfl,hb5⟩)
   go_ret;exact⟨by rw[<-HF.out];rfl,HBW.out.trans hb5⟩
end
end Go.Proofs.YtmgpghoamapfgaaGreatDoor
