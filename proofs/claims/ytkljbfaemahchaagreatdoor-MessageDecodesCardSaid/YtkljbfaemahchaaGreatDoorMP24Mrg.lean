/-
  The reader's readBytes: what ParLaw's rdByt says. Conditions: the reader's block holds its cells; the text's length fits.
-/
import Derived.Test.YtkljbfaemahchaaGreatDoorMP22Mrg
import Derived.Test.YtkljbfaemahchaaGreatDoorMP23Mrg
import Derived.Test.YtkljbfaemahchaaGreatDoorMP11Mrg
namespace Go.Proofs.YtkljbfaemahchaaGreatDoor
set_option linter.unusedVariables false
set_option linter.unusedSimpArgs false
open Go Go.RowKit Go.Shelf
attribute [local go_sem] putC_setCell putC_cell putC_cell_ne putC_frozen putC_frozen_ne size_putC
theorem bytGo_end (l : List UInt8) (i : Nat) (odd : Int) (acc : List UInt8) (h : l = []) : bytGo l i odd acc = .inr none:=by subst h; rfl
theorem bytGo_q (c : UInt8) (l : List UInt8) (i : Nat) (odd : Int) (acc : List UInt8) (h : c.toNat = 34) (h2 : odd < 0) : bytGo (c :: l) i odd acc = .inl (i + 1,acc):=by
 unfold bytGo; rw [if_pos ⟨h,h2⟩]
theorem bytGo_f (c : UInt8) (l : List UInt8) (i : Nat) (odd : Int) (acc : List UInt8) (h : ¬ (c.toNat = 34 ∧ odd < 0)) (h2 : hexI c < 0) : bytGo (c :: l) i odd acc = .inr (some i):=by
 unfold bytGo; rw [if_neg h,if_pos h2]
theorem bytGo_1 (c : UInt8) (l : List UInt8) (i : Nat) (odd : Int) (acc : List UInt8) (h : ¬ (c.toNat = 34 ∧ odd < 0)) (h2 : ¬ hexI c < 0) (h3 : odd < 0) : bytGo (c :: l) i odd acc = bytGo l (i + 1) (hexI c) acc:=by
 rw [bytGo,if_neg h,if_neg h2,if_pos h3]
theorem bytGo_2 (c : UInt8) (l : List UInt8) (i : Nat) (odd : Int) (acc : List UInt8) (h : ¬ (c.toNat = 34 ∧ odd < 0)) (h2 : ¬ hexI c < 0) (h3 : ¬ odd < 0) : bytGo (c :: l) i odd acc = bytGo l (i + 1) (-1) (acc ++ [UInt8.ofNat (16 * odd + hexI c).toNat]):=by
 rw [bytGo,if_neg h,if_neg h2,if_neg h3]
theorem hexI_lt16 (c : UInt8) : hexI c < 16:=by
 have : ∀ n : Fin 256,hexI (UInt8.ofNat n.val) < 16:=by decide +kernel
 have:=this ⟨c.toNat,c.toNat_lt⟩
 simpa using this
theorem hexI_34 (c : UInt8) (h : c.toNat = 34) : hexI c < 0:=by
 have : ∀ n : Fin 256,n.val = 34 → hexI (UInt8.ofNat n.val) < 0:=by decide +kernel
 have:=this ⟨c.toNat,c.toNat_lt⟩ h
 simpa using this
set_option maxRecDepth 100000 in
set_option maxHeartbeats 8000000 in
theorem readBytes_call (b : Nat) (s : ByteArray) (r : Rd) (at_ : Nat) (w : World) (h : IsRd w b s r) (hat : at_ + 2 ≤ s.size) (hs : s.size ≤ 1000000) :
 Calls Tryz.prog 300 #[.pointer (some ⟨b,0,none⟩),.int .i64 at_] w fun x w' => x = .returned (.tuple #[]) ∧ IsRd w' b s (rdByt s.data.toList at_ r) ∧ w.grownBy w' (some b):=by
 have hln : s.data.toList.length = s.size:=rfl
 have HR:=hid h
 have HB0:=hid (show Below w.heap.size w (w.alloc (.cells #[.pointer none,.slice none 0 0] 160)) from (Below.refl _ w).alloc (Nat.le_refl _) _)
 have HBN:=hid (bld_new w)
 have HLT:=hid h.lt
 clear h
 go_enter Tryz.func300,Tryz.ntmps300
 go_wp2
 go_loopw [5,6] (fun ov iv wr => ∃ (odd : Int) (k : Nat) (acc : List UInt8),ov = .int .i64 odd ∧ iv = .int .i64 k ∧ -1 ≤ odd ∧ odd ≤ 15 ∧ at_ + 2 ≤ k ∧ k ≤ s.size ∧ acc.length ≤ k ∧ bytGo (s.data.toList.drop (at_ + 2)) (at_ + 2) (-1) [] = bytGo (s.data.toList.drop k) k odd acc ∧ IsBld w.heap.size w.heap.size (Lib.byteCells acc) wr ∧ Below w.heap.size w wr) (fun _ iv _ => s.size - (intOf iv).toNat)
 case atStart => exact ⟨-1,at_ + 2,[],rfl,rfl,by omega,by omega,Nat.le_refl _,hat,Nat.zero_le _,rfl,HBN.out,HB0.out⟩
 case round =>
  obtain ⟨odd,k,acc,rfl,rfl,ho1,ho2,hk1,hk,hac,heq,hbl,hbr⟩:=hrel
  have HRW:=hid (HR.out.grown (grownOf hbr none) (by simp))
  obtain ⟨W,hW,hw⟩:=HRW.out.put
  have HG:=hid (grownOf hbr (some b))
  have HEQ:=hid heq
  have HBL:=hid hbl
  have HBR:=hid hbr
  have HSZ:=hid hbr.size
  clear heq hbl hbr
  by_cases hlt : k < s.size
  ·have hlt' : (k : Int) < (s.size : Int):=by omega
   have hk0 : (0 : Int) ≤ (k : Int):=by omega
   have hd:=drop_at s k hlt
   have hacl : (Lib.byteCells acc).length ≤ s.size:=by simp [Lib.byteCells]; omega
   have HWB:=hid (fun (c : Int) => wbyte_call w.heap.size w.heap.size (Lib.byteCells acc) c wr HBL.out (by omega) HSZ.out)
   have HST:=hid (show Calls Tryz.prog 108 #[.pointer (some ⟨w.heap.size,0,none⟩)] wr fun e w2 => e = .returned (.string ⟨acc.toArray⟩) ∧ Below w.heap.size wr w2 from (Tryz.Builder_String_any_k _ _ _ wr HBL.out HSZ.out).mono fun e w2 ⟨he,_,hb,_⟩ => ⟨he,hb⟩)
   have HHX:=hid (hex_call s[k] wr)
   have HFL:=hid (fail_call b s r k 13 wr HRW.out)
   have h16:=hexI_lt16 s[k]
   have h34:=hexI_34 s[k]
   have hQ:=bytGo_q s[k] (s.data.toList.drop (k + 1)) k odd acc
   have hF:=bytGo_f s[k] (s.data.toList.drop (k + 1)) k odd acc
   have h1:=bytGo_1 s[k] (s.data.toList.drop (k + 1)) k odd acc
   have h2:=bytGo_2 s[k] (s.data.toList.drop (k + 1)) k odd acc
   rw [← hd,← HEQ.out] at hQ hF h1 h2
   obtain ⟨n,hn⟩ : ∃ n,n = hexI s[k]:=⟨_,rfl⟩
   rw [← hn] at hF h1 h2 h16 h34 HHX
   have HQ:=hid hQ
   have HF:=hid hF
   have H1:=hid h1
   have H2:=hid h2
   clear hQ hF h1 h2 hn hd HEQ hacl
   subst hw
   by_cases hq : s[k].toNat = 34
   ·have q34 : ((s[k].toNat : Int) == 34) = true:=by simp; omega
    have hn0 : n < 0:=h34 hq
    have HQ4:=hid hq
    clear hq h34
    by_cases hod : odd < 0
    ·go_wp2_with (first
      | (go_at_call 108; refine HST.out.mono ?_; rintro e w2 ⟨rfl,hb2⟩; have HB2:=hid hb2; clear hb2; have HR2:=hid (HR.out.grown (grownOf (HBR.out.trans HB2.out) none) (by simp)); obtain ⟨W2,hW2,hw2⟩:=HR2.out.put; have HG2:=hid (grownOf (HBR.out.trans HB2.out) (some b)); clear HB2 HR2; subst hw2)
      | (go_at_call 346; refine HHX.out.mono ?_; rintro e w2 ⟨rfl,rfl⟩))
     refine bodyPost_ret (results_none rfl _ _ _) rfl ?_
     refine ⟨rfl,?_,HG2.out.trans (putC_grown _ _ _ _)⟩
     rw [rdByt,HQ.out HQ4.out hod]
     exact isRd_put W2 b s { r with k:=4,b:=⟨acc.toArray⟩,nx:=k + 1 } hW2 ⟨(fun e => nomatch e),by show k + 1 ≤ s.size; omega,HR.out.ok.p⟩ _ rfl
    ·go_wp2_with (first
      | (go_at_call 214; refine HFL.out.mono ?_; rintro e w2 ⟨rfl,h2,hg2⟩; have H2R:=hid h2; have HG2:=hid hg2; clear h2 hg2)
      | (go_at_call 346; refine HHX.out.mono ?_; rintro e w2 ⟨rfl,rfl⟩))
     refine bodyPost_ret (results_none rfl _ _ _) rfl ?_
     exact ⟨rfl,by rw [rdByt,HF.out (fun h => absurd h.2 (by omega)) hn0]; exact H2R.out,HG.out.trans HG2.out⟩
   ·have q34 : ((s[k].toNat : Int) == 34) = false:=by simp; omega
    by_cases hn0 : n < 0
    ·go_wp2_with (first
      | (go_at_call 214; refine HFL.out.mono ?_; rintro e w2 ⟨rfl,h2,hg2⟩; have H2R:=hid h2; have HG2:=hid hg2; clear h2 hg2)
      | (go_at_call 346; refine HHX.out.mono ?_; rintro e w2 ⟨rfl,rfl⟩))
     refine bodyPost_ret (results_none rfl _ _ _) rfl ?_
     exact ⟨rfl,by rw [rdByt,HF.out (by omega) (by omega)]; exact H2R.out,HG.out.trans HG2.out⟩
    by_cases hod : odd < 0
    ·go_wp2_with (go_at_call 346; refine HHX.out.mono ?_; rintro e w2 ⟨rfl,rfl⟩)
     refine ⟨⟨n,k + 1,acc,rfl,by go_num,by omega,by omega,by omega,by omega,by omega,H1.out (by omega) hn0 hod,HBL.out,HBR.out⟩,by simp [intOf]; omega⟩
    ·have e1 : IntKind.i64.wrap (16 * odd) = 16 * odd:=IntWalk.i64_in _ ⟨by omega,by omega⟩
     have e2 : IntKind.i64.wrap (16 * odd + n) = 16 * odd + n:=IntWalk.i64_in _ ⟨by omega,by omega⟩
     have e3 : IntKind.u8.wrap (16 * odd + n) = 16 * odd + n:=IntWalk.u8_in _ ⟨by omega,by omega⟩
     go_wp2_with (first
      | (go_at_call 253; refine (HWB.out _).mono ?_; rintro e w2 ⟨rfl,h2,hb2,hk2⟩; have H2B:=hid h2; have HB2:=hid hb2; clear h2 hb2 hk2)
      | (go_at_call 346; refine HHX.out.mono ?_; rintro e w2 ⟨rfl,rfl⟩))
     refine ⟨⟨-1,k + 1,acc ++ [UInt8.ofNat (16 * odd + n).toNat],rfl,by go_num,by omega,by omega,by omega,by omega,by simp; omega,H2.out (by omega) hn0 hod,?_,HBR.out.trans HB2.out⟩,by simp [intOf]; omega⟩
     have e4 : Lib.byteCells (acc ++ [UInt8.ofNat (16 * odd + n).toNat]) = Lib.byteCells acc ++ [.int .u8 (16 * odd + n)]:=by
      simp [Lib.byteCells]; omega
     rw [e4]
     exact .inr H2B.out
  ·obtain rfl : k = s.size:=by omega
   have HFL:=hid (fail_call b s r at_ 4 wr HRW.out)
   have hend:=bytGo_end (s.data.toList.drop s.size) s.size odd acc (List.drop_eq_nil_of_le (Nat.le_of_eq hln))
   rw [← HEQ.out] at hend
   have HE:=hid hend
   clear hend
   subst hw
   go_wp2_with (go_at_call 214; refine HFL.out.mono ?_; rintro e w2 ⟨rfl,h2,hg2⟩; have H2R:=hid h2; have HG2:=hid hg2; clear h2 hg2)
   refine bodyPost_end (results_none rfl _ _ _) rfl ?_
   exact ⟨rfl,by rw [rdByt,HE.out]; exact H2R.out,HG.out.trans HG2.out⟩
end Go.Proofs.YtkljbfaemahchaaGreatDoor
