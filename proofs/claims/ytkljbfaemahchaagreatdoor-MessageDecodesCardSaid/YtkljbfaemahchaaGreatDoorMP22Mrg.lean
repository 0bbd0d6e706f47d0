/-
  The reader's small functions: fail, letter, digit, inWord, hex, is; run with its three predicates. Conditions: the reader's block holds its cells.
-/
import Derived.Test.YtkljbfaemahchaaGreatDoorMP21Mrg
import Derived.Test.YtkljbfaemahchaaGreatDoorMP16Mrg
import Derived.Test.YtkljbfaemahchaaGreatDoorMP6Mrg
import Derived.Test.YtkljbfaemahchaaGreatDoorMP0Mrg
import Derived.Test.YtkljbfaemahchaaGreatDoorMP11Mrg
namespace Go.Proofs.YtkljbfaemahchaaGreatDoor
set_option linter.unusedVariables false
set_option linter.unusedSimpArgs false
open Go Go.RowKit Go.Shelf
attribute [local go_sem] putC_setCell putC_cell putC_cell_ne putC_frozen putC_frozen_ne size_putC
theorem fail_call (b : Nat) (s : ByteArray) (r : Rd) (p : Nat) (e : Int) (w : World) (h : IsRd w b s r) :
 Calls Tryz.prog 214 #[.pointer (some ⟨b,0,none⟩),.int .i64 p,.int .i64 e] w fun x w' => x = .returned (.tuple #[]) ∧ IsRd w' b s (r.fail p e) ∧ w.grownBy w' (some b):=by
 have ok:=hid h.ok
 obtain ⟨W,hW,hw⟩:=h.put
 clear h
 subst hw
 by_cases he : r.e = 0
 ·go_enter Tryz.func214,Tryz.ntmps214
  go_wp2
  refine bodyPost_end (results_none rfl _ _ _) rfl ?_
  refine ⟨rfl,?_,?_⟩
  ·refine isRd_put W b s _ hW (Rd.fail_ok ok.out p e) _ ?_
   rw [Rd.fail,if_pos he]
  ·exact putC_grown _ _ _ _
 ·go_enter Tryz.func214,Tryz.ntmps214
  go_wp2
  refine bodyPost_end (results_none rfl _ _ _) rfl ?_
  refine ⟨rfl,?_,?_⟩
  ·refine isRd_put W b s _ hW (Rd.fail_ok ok.out p e) _ ?_
   rw [Rd.fail,if_neg he]
  ·exact putC_grown _ _ _ _
set_option maxHeartbeats 2000000 in
theorem letter_call (c : UInt8) (w : World) : Calls Tryz.prog 301 #[.int .u8 c.toNat] w fun x w' => x = .returned (.bool (letC c)) ∧ w' = w:=by
 have h : letC c = ((decide ((97 : Int) ≤ c.toNat) && decide ((c.toNat : Int) ≤ 122)) || (decide ((65 : Int) ≤ c.toNat) && decide ((c.toNat : Int) ≤ 90))):=by
  unfold letC; congr 2 <;> simp <;> omega
 rw [h]
 clear h
 obtain ⟨n,hn⟩ : ∃ n : Int,n = c.toNat:=⟨_,rfl⟩
 rw [← hn]
 clear hn
 by_cases h1 : (97 : Int) ≤ n <;> by_cases h2 : n ≤ 122 <;> by_cases h3 : (65 : Int) ≤ n <;> by_cases h4 : n ≤ 90 <;>
  (go_enter Tryz.func301,Tryz.ntmps301; go_wp2; go_ret; exact ⟨by simp [h1,h2,h3,h4],rfl⟩)
set_option maxHeartbeats 2000000 in
theorem digit_call (c : UInt8) (w : World) : Calls Tryz.prog 303 #[.int .u8 c.toNat] w fun x w' => x = .returned (.bool (digC c)) ∧ w' = w:=by
 have h : digC c = (decide ((48 : Int) ≤ c.toNat) && decide ((c.toNat : Int) ≤ 57)):=by
  unfold digC; congr 2 <;> simp <;> omega
 rw [h]
 clear h
 obtain ⟨n,hn⟩ : ∃ n : Int,n = c.toNat:=⟨_,rfl⟩
 rw [← hn]
 clear hn
 by_cases h1 : (48 : Int) ≤ n <;> by_cases h2 : n ≤ 57 <;>
  (go_enter Tryz.func303,Tryz.ntmps303; go_wp2; go_ret; exact ⟨by simp [h1,h2],rfl⟩)
set_option maxHeartbeats 2000000 in
theorem inWord_call (c : UInt8) (w : World) : Calls Tryz.prog 302 #[.int .u8 c.toNat] w fun x w' => x = .returned (.bool (wrdC c)) ∧ w' = w:=by
 have h : wrdC c = (letC c || (digC c || decide ((c.toNat : Int) = 95))):=by
  unfold wrdC; congr 2; rw [Bool.eq_iff_iff]; simp; omega
 rw [h]
 clear h
 have HL:=hid (letter_call c w)
 have HD:=hid (digit_call c w)
 obtain ⟨l,hl⟩ : ∃ l,l = letC c:=⟨_,rfl⟩
 obtain ⟨d,hd⟩ : ∃ d,d = digC c:=⟨_,rfl⟩
 rw [← hl] at HL ⊢
 rw [← hd] at HD ⊢
 clear hl hd
 obtain ⟨n,hn⟩ : ∃ n : Int,n = c.toNat:=⟨_,rfl⟩
 rw [← hn] at HL HD ⊢
 clear hn
 cases l <;> cases d <;> rcases Decidable.em (n = 95) with rfl | h1 <;>
  (go_enter Tryz.func302,Tryz.ntmps302
   go_wp2_with (first
    | (go_at_call 301; refine HL.out.mono ?_; rintro e w1 ⟨rfl,rfl⟩)
    | (go_at_call 303; refine HD.out.mono ?_; rintro e w1 ⟨rfl,rfl⟩))
   go_ret; exact ⟨by simp [*],rfl⟩)
theorem strEq' (a b : ByteArray) : (a.toList == b.toList) = decide (a = b):=by
 rw [strEq,decide_eq_decide]
 exact ⟨fun h => ByteArray.ext (Array.ext' h),fun h => by rw [h]⟩
set_option maxHeartbeats 4000000 in
theorem is_call (b : Nat) (s : ByteArray) (r : Rd) (t : ByteArray) (w : World) (h : IsRd w b s r) :
 Calls Tryz.prog 305 #[.pointer (some ⟨b,0,none⟩),.string t] w fun x w' => x = .returned (.bool (r.is t)) ∧ w' = w:=by
 have ok:=hid h.ok
 obtain ⟨W,hW,hw⟩:=h.put
 clear h
 subst hw
 have hi : r.is t = (decide (r.e = 0) && ((decide ((r.k : Int) = 5) || decide ((r.k : Int) = 1)) && (r.t.toList == t.toList))):=by
  have a1 : decide ((r.k : Int) = 5) = decide (r.k = 5):=by rw [decide_eq_decide]; omega
  have a2 : decide ((r.k : Int) = 1) = decide (r.k = 1):=by rw [decide_eq_decide]; omega
  unfold Rd.is
  rw [strEq',a1,a2]
 rw [hi]
 clear hi
 obtain ⟨q,hq⟩ : ∃ q,(r.t.toList == t.toList) = q:=⟨_,rfl⟩
 obtain ⟨kk,hkk⟩ : ∃ kk : Int,(r.k : Int) = kk:=⟨_,rfl⟩
 obtain ⟨ee,hee⟩ : ∃ ee : Int,r.e = ee:=⟨_,rfl⟩
 rw [hkk,hq,hee]
 clear hkk hee
 by_cases he : ee = 0
 ·subst he
  by_cases h5 : kk = 5
  ·subst h5
   go_enter Tryz.func305,Tryz.ntmps305
   go_wp2
   go_ret
   exact ⟨by simp,rfl⟩
  ·by_cases h1 : kk = 1
   ·subst h1
    go_enter Tryz.func305,Tryz.ntmps305
    go_wp2
    go_ret
    exact ⟨by simp,rfl⟩
   ·go_enter Tryz.func305,Tryz.ntmps305
    go_wp2
    go_ret
    exact ⟨by simp [h1,h5],rfl⟩
 ·go_enter Tryz.func305,Tryz.ntmps305
  go_wp2
  go_ret
  exact ⟨by simp [he],rfl⟩
theorem hex_tab : ∀ n : Fin 256,hexI (UInt8.ofNat n.val) = Lib.indexByte [48,49,50,51,52,53,54,55,56,57,97,98,99,100,101,102] (UInt8.ofNat (lowC n.val)):=by decide +kernel
theorem sp_tab : ∀ n : Fin 256,spC (UInt8.ofNat n.val) = decide (0 ≤ Lib.indexByte [32,9,13,10] (UInt8.ofNat n.val)):=by decide +kernel
theorem hex_idx (c : UInt8) : hexI c = Lib.indexByte [48,49,50,51,52,53,54,55,56,57,97,98,99,100,101,102] (UInt8.ofNat (lowC c.toNat)):=by
 have:=hex_tab ⟨c.toNat,c.toNat_lt⟩
 simpa using this
theorem sp_idx (c : UInt8) : spC c = decide (0 ≤ Lib.indexByte [32,9,13,10] c):=by
 have:=sp_tab ⟨c.toNat,c.toNat_lt⟩
 simpa using this
set_option maxHeartbeats 2000000 in
theorem space_call (c : UInt8) (w : World) : Calls Tryz.prog 297 #[.int .u8 c.toNat] w fun x w' => x = .returned (.bool (spC c)) ∧ w' = w:=by
 have HI:=hid (Tryz.strings_IndexByte ⟨#[32,9,13,10]⟩ (c.toNat : Int) w)
 rw [sp_idx]
 rw [show ((c.toNat : Int).toNat.toUInt8) = c by simp] at HI
 obtain ⟨i,hi⟩ : ∃ i,i = Lib.indexByte [32,9,13,10] c:=⟨_,rfl⟩
 rw [← hi] at HI ⊢
 clear hi
 go_enter Tryz.func297,Tryz.ntmps297
 go_wp2_with (go_at_call 261; refine HI.out.mono ?_; rintro e w1 ⟨rfl,rfl⟩)
 go_ret
 exact ⟨by simp,rfl⟩
set_option maxHeartbeats 2000000 in
theorem hex_call (c : UInt8) (w : World) : Calls Tryz.prog 346 #[.int .u8 c.toNat] w fun x w' => x = .returned (.int .i64 (hexI c)) ∧ w' = w:=by
 rw [hex_idx]
 have HI:=hid (Tryz.strings_IndexByte ⟨#[48,49,50,51,52,53,54,55,56,57,97,98,99,100,101,102]⟩ (lowC c.toNat : Int) w)
 rw [show ((lowC c.toNat : Int).toNat.toUInt8) = UInt8.ofNat (lowC c.toNat) by simp] at HI
 obtain ⟨i,hi⟩ : ∃ i,i = Lib.indexByte [48,49,50,51,52,53,54,55,56,57,97,98,99,100,101,102] (UInt8.ofNat (lowC c.toNat)):=⟨_,rfl⟩
 rw [← hi] at HI ⊢
 clear hi
 have hlt:=c.toNat_lt
 obtain ⟨n,hn⟩ : ∃ n,n = c.toNat:=⟨_,rfl⟩
 rw [← hn] at HI ⊢ hlt
 clear hn
 by_cases h1 : 65 ≤ n ∧ n ≤ 70
 ·rw [show ((lowC n : Nat) : Int) = (n : Int) + 32 by unfold lowC; rw [if_pos h1]; omega] at HI
  have h2 : (65 : Int) ≤ n:=by omega
  have h3 : (n : Int) ≤ 70:=by omega
  have h4 : IntKind.u8.wrap ((n : Int) + 32) = (n : Int) + 32:=IntWalk.u8_in _ ⟨by omega,by omega⟩
  go_enter Tryz.func346,Tryz.ntmps346
  go_wp2_with (go_at_call 261; refine HI.out.mono ?_; rintro e w1 ⟨rfl,rfl⟩)
  go_ret
  exact ⟨rfl,rfl⟩
 ·rw [show lowC n = n by unfold lowC; rw [if_neg h1]] at HI
  by_cases h2 : (65 : Int) ≤ n
  ·have h3 : ¬ (n : Int) ≤ 70:=by omega
   go_enter Tryz.func346,Tryz.ntmps346
   go_wp2_with (go_at_call 261; refine HI.out.mono ?_; rintro e w1 ⟨rfl,rfl⟩)
   go_ret
   exact ⟨rfl,rfl⟩
  ·go_enter Tryz.func346,Tryz.ntmps346
   go_wp2_with (go_at_call 261; refine HI.out.mono ?_; rintro e w1 ⟨rfl,rfl⟩)
   go_ret
   exact ⟨rfl,rfl⟩
set_option maxHeartbeats 4000000 in
theorem run_digit (b : Nat) (s : ByteArray) (r : Rd) (i : Nat) (w : World) (h : IsRd w b s r) (hi : i ≤ s.size) (hs : s.size ≤ 140737488351232) :
 Calls Tryz.prog 296 #[.pointer (some ⟨b,0,none⟩),.int .i64 i,.func (.func 303) #[] #[]] w fun x w' => x = .returned (.int .i64 (runI s.data.toList i digC)) ∧ w' = w:=by
 have ok:=hid h.ok
 obtain ⟨W,hW,hw⟩:=h.put
 clear h
 subst hw
 go_enter Tryz.func296,Tryz.ntmps296
 go_wp2
 go_loopw [1] (fun v wr => ∃ k : Nat,k ≤ s.size ∧ v = .int .i64 k ∧ runI s.data.toList k digC = runI s.data.toList i digC ∧ wr = putC W b (rdA s r.nx r.k r.p r.t r.b r.n r.sc r.d r.x r.e r.o)) (fun v _ => s.size - (intOf v).toNat)
 case atStart => exact ⟨i,hi,rfl,rfl,rfl⟩
 case round =>
  obtain ⟨k,hk,rfl,hrun,rfl⟩:=hrel
  have HR:=hid hrun
  clear hrun hi
  by_cases hlt : k < s.size
  ·have hlt' : (k : Int) < (s.size : Int):=by omega
   have hk0 : (0 : Int) ≤ (k : Int):=by omega
   have HC:=hid (digit_call s[k] (putC W b (rdA s r.nx r.k r.p r.t r.b r.n r.sc r.d r.x r.e r.o)))
   have hg:=strGet s k hlt
   obtain ⟨q,hq⟩ : ∃ q,q = digC s[k]:=⟨_,rfl⟩
   rw [← hq] at HC
   have HQ:=hid hq
   have HG:=hid hg
   clear hq hg
   cases q
   ·go_wp2_with (go_at_call 303; refine HC.out.mono ?_; rintro e w1 ⟨rfl,rfl⟩)
    go_ret
    refine ⟨?_,rfl⟩
    rw [← HR.out,runI_stop s.data.toList k digC (fun c hc => by rw [HG.out] at hc; cases hc; exact HQ.out.symm)]
    rfl
   ·go_wp2_with (go_at_call 303; refine HC.out.mono ?_; rintro e w1 ⟨rfl,rfl⟩)
    refine ⟨⟨k + 1,by omega,by go_num,?_,trivial⟩,by simp [intOf]; omega⟩
    rw [← HR.out,runI_step s.data.toList k digC s[k] HG.out HQ.out.symm]
  ·obtain rfl : k = s.size:=by omega
   go_wp2
   go_ret
   refine ⟨?_,rfl⟩
   have hln : s.data.toList.length = s.size:=rfl
   rw [← HR.out,runI_stop s.data.toList s.size digC (fun c hc => by rw [List.getElem?_eq_none (Nat.le_of_eq hln)] at hc; cases hc)]
   rfl
set_option maxHeartbeats 4000000 in
theorem run_word (b : Nat) (s : ByteArray) (r : Rd) (i : Nat) (w : World) (h : IsRd w b s r) (hi : i ≤ s.size) (hs : s.size ≤ 140737488351232) :
 Calls Tryz.prog 296 #[.pointer (some ⟨b,0,none⟩),.int .i64 i,.func (.func 302) #[] #[]] w fun x w' => x = .returned (.int .i64 (runI s.data.toList i wrdC)) ∧ w' = w:=by
 have ok:=hid h.ok
 obtain ⟨W,hW,hw⟩:=h.put
 clear h
 subst hw
 go_enter Tryz.func296,Tryz.ntmps296
 go_wp2
 go_loopw [1] (fun v wr => ∃ k : Nat,k ≤ s.size ∧ v = .int .i64 k ∧ runI s.data.toList k wrdC = runI s.data.toList i wrdC ∧ wr = putC W b (rdA s r.nx r.k r.p r.t r.b r.n r.sc r.d r.x r.e r.o)) (fun v _ => s.size - (intOf v).toNat)
 case atStart => exact ⟨i,hi,rfl,rfl,rfl⟩
 case round =>
  obtain ⟨k,hk,rfl,hrun,rfl⟩:=hrel
  have HR:=hid hrun
  clear hrun hi
  by_cases hlt : k < s.size
  ·have hlt' : (k : Int) < (s.size : Int):=by omega
   have hk0 : (0 : Int) ≤ (k : Int):=by omega
   have HC:=hid (inWord_call s[k] (putC W b (rdA s r.nx r.k r.p r.t r.b r.n r.sc r.d r.x r.e r.o)))
   have hg:=strGet s k hlt
   obtain ⟨q,hq⟩ : ∃ q,q = wrdC s[k]:=⟨_,rfl⟩
   rw [← hq] at HC
   have HQ:=hid hq
   have HG:=hid hg
   clear hq hg
   cases q
   ·go_wp2_with (go_at_call 302; refine HC.out.mono ?_; rintro e w1 ⟨rfl,rfl⟩)
    go_ret
    refine ⟨?_,rfl⟩
    rw [← HR.out,runI_stop s.data.toList k wrdC (fun c hc => by rw [HG.out] at hc; cases hc; exact HQ.out.symm)]
    rfl
   ·go_wp2_with (go_at_call 302; refine HC.out.mono ?_; rintro e w1 ⟨rfl,rfl⟩)
    refine ⟨⟨k + 1,by omega,by go_num,?_,trivial⟩,by simp [intOf]; omega⟩
    rw [← HR.out,runI_step s.data.toList k wrdC s[k] HG.out HQ.out.symm]
  ·obtain rfl : k = s.size:=by omega
   go_wp2
   go_ret
   refine ⟨?_,rfl⟩
   have hln : s.data.toList.length = s.size:=rfl
   rw [← HR.out,runI_stop s.data.toList s.size wrdC (fun c hc => by rw [List.getElem?_eq_none (Nat.le_of_eq hln)] at hc; cases hc)]
   rfl
set_option maxHeartbeats 4000000 in
theorem run_space (b : Nat) (s : ByteArray) (r : Rd) (i : Nat) (w : World) (h : IsRd w b s r) (hi : i ≤ s.size) (hs : s.size ≤ 140737488351232) :
 Calls Tryz.prog 296 #[.pointer (some ⟨b,0,none⟩),.int .i64 i,.func (.func 297) #[] #[]] w fun x w' => x = .returned (.int .i64 (runI s.data.toList i spC)) ∧ w' = w:=by
 have ok:=hid h.ok
 obtain ⟨W,hW,hw⟩:=h.put
 clear h
 subst hw
 go_enter Tryz.func296,Tryz.ntmps296
 go_wp2
 go_loopw [1] (fun v wr => ∃ k : Nat,k ≤ s.size ∧ v = .int .i64 k ∧ runI s.data.toList k spC = runI s.data.toList i spC ∧ wr = putC W b (rdA s r.nx r.k r.p r.t r.b r.n r.sc r.d r.x r.e r.o)) (fun v _ => s.size - (intOf v).toNat)
 case atStart => exact ⟨i,hi,rfl,rfl,rfl⟩
 case round =>
  obtain ⟨k,hk,rfl,hrun,rfl⟩:=hrel
  have HR:=hid hrun
  clear hrun hi
  by_cases hlt : k < s.size
  ·have hlt' : (k : Int) < (s.size : Int):=by omega
   have hk0 : (0 : Int) ≤ (k : Int):=by omega
   have HC:=hid (space_call s[k] (putC W b (rdA s r.nx r.k r.p r.t r.b r.n r.sc r.d r.x r.e r.o)))
   have hg:=strGet s k hlt
   obtain ⟨q,hq⟩ : ∃ q,q = spC s[k]:=⟨_,rfl⟩
   rw [← hq] at HC
   have HQ:=hid hq
   have HG:=hid hg
   clear hq hg
   cases q
   ·go_wp2_with (go_at_call 297; refine HC.out.mono ?_; rintro e w1 ⟨rfl,rfl⟩)
    go_ret
    refine ⟨?_,rfl⟩
    rw [← HR.out,runI_stop s.data.toList k spC (fun c hc => by rw [HG.out] at hc; cases hc; exact HQ.out.symm)]
    rfl
   ·go_wp2_with (go_at_call 297; refine HC.out.mono ?_; rintro e w1 ⟨rfl,rfl⟩)
    refine ⟨⟨k + 1,by omega,by go_num,?_,trivial⟩,by simp [intOf]; omega⟩
    rw [← HR.out,runI_step s.data.toList k spC s[k] HG.out HQ.out.symm]
  ·obtain rfl : k = s.size:=by omega
   go_wp2
   go_ret
   refine ⟨?_,rfl⟩
   have hln : s.data.toList.length = s.size:=rfl
   rw [← HR.out,runI_stop s.data.toList s.size spC (fun c hc => by rw [List.getElem?_eq_none (Nat.le_of_eq hln)] at hc; cases hc)]
   rfl
end Go.Proofs.YtkljbfaemahchaaGreatDoor
