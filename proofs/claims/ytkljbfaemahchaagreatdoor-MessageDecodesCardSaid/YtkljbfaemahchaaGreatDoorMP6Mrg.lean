/-
  The plain law of numbers in texts: Atoi and the law's own reading agree at decimal digits. No program in sight.
-/
import Derived.Lib.AtoiAll
import Derived.Lib.IndexMore
import Derived.Lib.ItoaNum
import Derived.Test.YtkljbfaemahchaaGreatDoorMP5Mrg
import Derived.Lib.ItoaMem
import Derived.Test.YtkljbfaemahchaaGreatDoorMP0Mrg
import Derived.Lib.AtoiErrMem
import Derived.Sort.CutIn
namespace Go.Proofs.YtkljbfaemahchaaGreatDoor
set_option linter.unusedVariables false
set_option linter.unusedSimpArgs false
section
open Go
theorem bAppend (a b : List UInt8) : (⟨a.toArray⟩ : ByteArray) ++ ⟨b.toArray⟩ = ⟨(a ++ b).toArray⟩:=by
 apply ByteArray.ext
 simp [ByteArray.data_append]
theorem bSize (a : List UInt8) : (⟨a.toArray⟩ : ByteArray).size = a.length:=by simp [ByteArray.size]
theorem dig_nat (k : Nat) (h : k < 10) : (UInt8.ofNat (48 + k)).toNat = 48 + k:=by simp [UInt8.toNat_ofNat']; omega
theorem decDigits_ne (n : Nat) : Lib.decDigits n ≠ []:=by
 rw [Lib.decDigits]; split <;> simp
theorem decDigits_all (n : Nat) : ∀ c ∈ Lib.decDigits n,48 ≤ c.toNat ∧ c.toNat ≤ 57:=by
 induction n using Nat.strongRecOn with
 | _ n ih =>
   intro c hc
   rw [Lib.decDigits] at hc
   split at hc
   ·rename_i h
    simp only [List.mem_singleton] at hc
    subst hc
    rw [dig_nat n h]; omega
   ·rename_i h
    rcases List.mem_append.1 hc with hc | hc
    ·exact ih (n / 10) (by omega) c hc
    ·simp only [List.mem_singleton] at hc
     subst hc
     rw [dig_nat _ (by omega)]; omega
theorem uint_append (c : UInt8) (hc : 48 ≤ c.toNat ∧ c.toNat ≤ 57) : ∀ (l : List UInt8) (a u : Nat),Lib.parseUint10 a l = .ok u → u * 10 + (c.toNat - 48) < 18446744073709551616 → Lib.parseUint10 a (l ++ [c]) = .ok (u * 10 + (c.toNat - 48))
 | [],a,u,h,hb => by
   simp only [Lib.parseUint10] at h
   injection h with h
   subst h
   simp only [List.nil_append,Lib.parseUint10]
   rw [if_pos hc,if_neg (by omega),if_neg (by omega)]
 | d :: l,a,u,h,hb => by
   simp only [List.cons_append,Lib.parseUint10] at h ⊢
   split at h
   ·rename_i h1
    rw [if_pos h1]
    split at h
    ·cases h
    ·rename_i h2
     rw [if_neg h2]
     split at h
     ·cases h
     ·rename_i h3
      rw [if_neg h3]
      exact uint_append c hc l _ u h hb
   ·cases h
theorem uint_dec (n : Nat) (h : n < 18446744073709551616) : Lib.parseUint10 0 (Lib.decDigits n) = .ok n:=by
 induction n using Nat.strongRecOn with
 | _ n ih =>
   rw [Lib.decDigits]
   split
   ·rename_i h10
    simp only [Lib.parseUint10,dig_nat n h10]
    rw [if_pos (by omega),if_neg (by omega),if_neg (by omega)]
    congr 1; omega
   ·rename_i h10
    have e:=uint_append (UInt8.ofNat (48 + n % 10)) (by rw [dig_nat _ (by omega)]; omega) _ 0 _ (ih (n / 10) (by omega) (by omega)) (by rw [dig_nat _ (by omega)]; omega)
    rw [e,dig_nat _ (by omega)]
    congr 1; omega
theorem atoi_dec (n : Nat) (h : n < 9223372036854775808) : Lib.atoiAll (Lib.decDigits n) = .ok (n : Int):=by
 have hp:=uint_dec n (by omega)
 have ha:=decDigits_all n
 have hne:=decDigits_ne n
 obtain ⟨l,hl⟩ : ∃ l,l = Lib.decDigits n:=⟨_,rfl⟩
 rw [← hl] at hp ha hne ⊢
 cases l with
 | nil => exact absurd rfl hne
 | cons c r =>
   have hc:=ha c (List.mem_cons_self ..)
   unfold Lib.atoiAll Lib.parseMag
   dsimp only
   rw [if_neg (show ¬ (c.toNat = 43 ∨ c.toNat = 45) by omega),if_neg (by simp),hp]
   dsimp only
   rw [if_neg (by omega),if_neg (by omega),if_neg (by omega)]
def eNum (s : List UInt8) : Int × Bool :=
 match Lib.atoiAll s with
 | .ok v => (v,decide (Lib.itoa v = s))
 | .range => (Lib.atoiSat s,false)
 | _ => (0,false)
theorem decDigits_lt (n k : Nat) (h : n < 10 ^ k) (hk : 0 < k) : (Lib.decDigits n).length ≤ k:=by
 induction k generalizing n with
 | zero => omega
 | succ k ih =>
   rw [Lib.decDigits]
   split
   ·simp
   ·rename_i h10
    have hk' : 0 < k:=by rcases k with _ | k; (· simp at h; omega); omega
    have:=ih (n / 10) (by rw [Nat.pow_succ] at h; omega) hk'
    simp; omega
theorem eNum_dec (n : Nat) (h : n < 9223372036854775808) : eNum (Lib.decDigits n) = ((n : Int),true):=by
 unfold eNum
 rw [atoi_dec n h]
 simp [Lib.itoa]
end
section
open Go Go.RowKit
def decB (n : Nat) : ByteArray:=⟨(Lib.decDigits n).toArray⟩
theorem decB_itoa (n : Nat) : itoaB (n : Int) = decB n:=by unfold itoaB decB; rw [Lib.itoa_nonneg]
theorem dec_size (n : Nat) (h : (n : Int) ≤ 9223372036854775807) : (decB n).size ≤ 21:=by
 have:=Lib.itoa_length_le (n : Int) (by omega) h
 rw [Lib.itoa_nonneg] at this
 exact this
theorem conv_at (w : World) (g : Nat) (x : Int) (h : w.heap[g]? = some (.cells #[.int .u8 x] 5)) : (convert 101 9 (.slice (some ⟨g,0,none⟩) 1 1)).run Tryz.prog w = .ok (.string ⟨#[UInt8.ofNat x.toNat]⟩) w :=
 run_convert_bytes_arg (P:=Tryz.prog) w 101 5 Tryz.underlying101 Tryz.underlying5 g 0 1 1 [x] rfl (fun i hi => by
  obtain rfl : i = 0:=by omega
  exact cellOf h 0) 9 Tryz.underlying9
theorem conv1 (w : World) (x : Int) : (convert 101 9 (.slice (some ⟨w.heap.size,0,none⟩) 1 1)).run Tryz.prog (w.alloc (.cells #[.int .u8 x] 5)) = .ok (.string ⟨#[UInt8.ofNat x.toNat]⟩) (w.alloc (.cells #[.int .u8 x] 5)) :=
 conv_at _ _ x (heap_alloc_new w _)
set_option maxRecDepth 100000 in
set_option maxHeartbeats 2000000 in
theorem dec_small (n : Nat) (h : n < 10) (w : World) : Calls Tryz.prog 44 #[.int .i64 n] w fun e w' => e = .returned (.string (decB n)) ∧ Below w.heap.size w w':=by
 have hlt : (n : Int) < 10:=by omega
 have hD : decB n = ⟨#[UInt8.ofNat (48 + n)]⟩:=by
  unfold decB
  rw [Lib.decDigits_one h]
 have HD:=hid hD
 have kc:=conv1
 clear hD
 go_enter Tryz.func44,Tryz.ntmps44
 go_wp2
 go_ret
 exact ⟨by rw [HD.out]; rfl,(Below.refl _ w).alloc (Nat.le_refl _) _⟩
set_option maxRecDepth 100000 in
set_option maxHeartbeats 4000000 in
theorem dec_big (n : Nat) (h : 10 ≤ n) (hn : (n : Int) ≤ 9223372036854775807) (ih : ∀ w,Calls Tryz.prog 44 #[.int .i64 ((n / 10 : Nat) : Int)] w fun e w' => e = .returned (.string (decB (n / 10))) ∧ Below w.heap.size w w') (w : World) : Calls Tryz.prog 44 #[.int .i64 n] w fun e w' => e = .returned (.string (decB n)) ∧ Below w.heap.size w w':=by
 have hlt : ¬ (n : Int) < 10:=by omega
 have hq : (n : Int).tdiv 10 = ((n / 10 : Nat) : Int):=by rw [Int.tdiv_eq_ediv_of_nonneg (by omega)]; omega
 have hr : (n : Int).tmod 10 = ((n % 10 : Nat) : Int):=by rw [Int.tmod_eq_emod_of_nonneg (by omega)]; omega
 have hD : decB n = decB (n / 10) ++ ⟨#[UInt8.ofNat (48 + ((n % 10 : Nat) : Int)).toNat]⟩:=by
  unfold decB
  rw [Lib.decDigits,dif_neg (by omega),show (48 + ((n % 10 : Nat) : Int)).toNat = 48 + n % 10 by omega]
  apply ByteArray.ext
  simp [ByteArray.data_append]
 have hs:=dec_size (n / 10) (by omega)
 have hm : ((n % 10 : Nat) : Int) < 10:=by omega
 have hm0 : (0 : Int) ≤ ((n % 10 : Nat) : Int):=by omega
 obtain ⟨q,hq'⟩ : ∃ q,q = ((n / 10 : Nat) : Int):=⟨_,rfl⟩
 obtain ⟨r,hr'⟩ : ∃ r,r = ((n % 10 : Nat) : Int):=⟨_,rfl⟩
 have hq0 : 0 ≤ q ∧ q ≤ 9223372036854775807:=by omega
 have hwq : IntKind.i64.wrap q = q:=IntWalk.i64_in _ (by omega)
 have hwr : IntKind.i64.wrap (48 + r) = 48 + r:=IntWalk.i64_in _ (by omega)
 have hwu : IntKind.u8.wrap (48 + r) = 48 + r:=by rw [IntKind.wrap_u8]; omega
 obtain ⟨s,hs'⟩ : ∃ s,s = decB (n / 10):=⟨_,rfl⟩
 rw [← hq'] at hq ih
 rw [← hs'] at hs ih hD
 rw [← hr'] at hr hm hm0 hD
 have hsz : ¬ 9223372036854775807 < s.size + 1:=by omega
 have HIH:=hid ih
 have HD:=hid hD
 have kc:=conv1
 clear hD hq' hr' hs' ih
 go_enter Tryz.func44,Tryz.ntmps44
 go_upto_region 3 with (fail)
 refine wp_region_split 10 (fun w' => Below w.heap.size w w') (by kernel_rfl) (by kernel_rfl) (by kernel_rfl) (by decide) ((Below.refl _ _).drew) (fun hS => ?_)
 simp only [List.take_succ_cons,List.take_zero,List.drop_succ_cons,List.drop_zero]
 refine tkQ 0 (v:=?_) ?_ hS ?_; rotate_left; · intro w' hw'; (try dsimp only at hw'); go_simp; (try with_reducible rfl)
 simp only [Act.put,pt1,pt2,pt3,pt4,pt5,pt6]
 refine tkQ 1 (v:=?_) ?_ hS ?_; rotate_left; · intro w' hw'; (try dsimp only at hw'); go_simp; (try with_reducible rfl)
 simp only [Act.put,pt1,pt2,pt3,pt4,pt5,pt6]
 refine tkQ 3 (v:=?_) ?_ hS ?_; rotate_left; · intro w' hw'; (try dsimp only at hw'); go_simp; (try with_reducible rfl)
 simp only [Act.put,pt1,pt2,pt3,pt4,pt5,pt6]
 refine tkQ 4 (v:=?_) ?_ hS ?_; rotate_left; · intro w' hw'; (try dsimp only at hw'); go_simp; (try with_reducible rfl)
 simp only [Act.put,pt1,pt2,pt3,pt4,pt5,pt6]
 refine tkQ 5 (v:=?_) ?_ hS ?_; rotate_left; · intro w' hw'; (try dsimp only at hw'); go_simp; (try with_reducible rfl)
 simp only [Act.put,pt1,pt2,pt3,pt4,pt5,pt6]
 refine tkQ 6 (v:=?_) ?_ hS ?_; rotate_left; · intro w' hw'; (try dsimp only at hw'); go_simp; (try with_reducible rfl)
 simp only [Act.put,pt1,pt2,pt3,pt4,pt5,pt6]
 refine wpAnyH_ready (rs:=[2,7]) (by kernel_rfl) (by simp) ?_
 refine AllReadyH.cons (o:=_) rfl (fun K hK => ?_) ?_
 ·clear hq hr hlt kc
  go_simp; go_at_call 44; refine (HIH.out _).mono ?_
  rintro e w1 ⟨rfl,hb1⟩
  refine hK.out _ _ (hS.trans (hb1.mono hS.size)) (fun hS => ?_)
  clear hK K
  (try simp only [Act.put,pt1,pt2,pt3,pt4,pt5,pt6])
  refine wpAnyH_ready (rs:=[7]) (by kernel_rfl) (by simp) ?_
  refine arQ fun K hK => ?_
  go_simp
  refine hK.out _ _ (hS.alloc hS.size _) (fun hS => ?_)
  clear hK K
  (try simp only [Act.put,pt1,pt2,pt3,pt4,pt5,pt6])
  refine wpAnyH_ready (rs:=[8]) (by kernel_rfl) (by simp) ?_
  refine arQ fun K hK => ?_
  have kk:=conv1 w1 (48 + r)
  have k2:=conv_at (w1.alloc (.cells #[.int .u8 (48 + r)] 5)).drew w1.heap.size (48 + r) (heap_alloc_new w1 _)
  go_simp
  refine hK.out _ _ (hS) (fun hS => ?_)
  clear hK K
  (try simp only [Act.put,pt1,pt2,pt3,pt4,pt5,pt6])
  refine tkQ 9 (v:=?_) ?_ hS ?_; rotate_left; · intro w' hw'; (try dsimp only at hw'); go_simp; (try with_reducible rfl)
  simp only [Act.put,pt1,pt2,pt3,pt4,pt5,pt6]
  refine wpAnyH_done (by kernel_rfl) ?_ _
  (try dsimp only)
  go_wp2
  go_ret
  exact ⟨by rw [HD.out]; rfl,hS⟩
 refine arQ fun K hK => ?_
 go_simp
 refine hK.out _ _ (hS.alloc hS.size _) (fun hS => ?_)
 clear hK K
 (try simp only [Act.put,pt1,pt2,pt3,pt4,pt5,pt6])
 refine wpAnyH_ready (rs:=[2,8]) (by kernel_rfl) (by simp) ?_
 refine AllReadyH.cons (o:=_) rfl (fun K hK => ?_) ?_
 ·clear hq hr hlt kc
  go_simp; go_at_call 44; refine (HIH.out _).mono ?_
  rintro e w1 ⟨rfl,hb1⟩
  refine hK.out _ _ (hS.trans (hb1.mono hS.size)) (fun hS => ?_)
  clear hK K
  (try simp only [Act.put,pt1,pt2,pt3,pt4,pt5,pt6])
  refine wpAnyH_ready (rs:=[8]) (by kernel_rfl) (by simp) ?_
  refine arQ fun K hK => ?_
  have kk:=conv_at w1 w.heap.size (48 + r) (heapExt hb1 (heap_alloc_new w _))
  go_simp
  refine hK.out _ _ (hS) (fun hS => ?_)
  clear hK K
  (try simp only [Act.put,pt1,pt2,pt3,pt4,pt5,pt6])
  refine tkQ 9 (v:=?_) ?_ hS ?_; rotate_left; · intro w' hw'; (try dsimp only at hw'); go_simp; (try with_reducible rfl)
  simp only [Act.put,pt1,pt2,pt3,pt4,pt5,pt6]
  refine wpAnyH_done (by kernel_rfl) ?_ _
  (try dsimp only)
  go_wp2
  go_ret
  exact ⟨by rw [HD.out]; rfl,hS⟩
 refine arQ fun K hK => ?_
 have kk:=conv1 w (48 + r)
 have k2:=conv_at (w.alloc (.cells #[.int .u8 (48 + r)] 5)).drew w.heap.size (48 + r) (heap_alloc_new w _)
 go_simp
 refine hK.out _ _ (hS) (fun hS => ?_)
 clear hK K
 (try simp only [Act.put,pt1,pt2,pt3,pt4,pt5,pt6])
 refine wpAnyH_ready (rs:=[2]) (by kernel_rfl) (by simp) ?_
 refine arQ fun K hK => ?_
 clear hq hr hlt kc
 go_simp; go_at_call 44; refine (HIH.out _).mono ?_
 rintro e w1 ⟨rfl,hb1⟩
 refine hK.out _ _ (hS.trans (hb1.mono hS.size)) (fun hS => ?_)
 clear hK K
 (try simp only [Act.put,pt1,pt2,pt3,pt4,pt5,pt6])
 refine tkQ 9 (v:=?_) ?_ hS ?_; rotate_left; · intro w' hw'; (try dsimp only at hw'); go_simp; (try with_reducible rfl)
 simp only [Act.put,pt1,pt2,pt3,pt4,pt5,pt6]
 refine wpAnyH_done (by kernel_rfl) ?_ _
 (try dsimp only)
 go_wp2
 go_ret
 exact ⟨by rw [HD.out]; rfl,hS⟩
theorem dec_call (n : Nat) (hn : (n : Int) ≤ 9223372036854775807) (w : World) : Calls Tryz.prog 44 #[.int .i64 n] w fun e w' => e = .returned (.string (decB n)) ∧ Below w.heap.size w w':=by
 induction n using Nat.strongRecOn generalizing w with
 | _ n ih =>
   by_cases h : n < 10
   ·exact dec_small n h w
   ·exact dec_big n (by omega) hn (fun w => ih (n / 10) (by omega) (by omega) w) w
end
section
open Go Go.RowKit
end
section
open Go Go.RowKit Go.Shelf
def IfCell (g : Nat) (w : World) : Prop:=∃ ev,w.cell? ⟨g,0,none⟩ = some ev ∧ (ev = .nilIface ∨ ∃ te pe,ev = .iface te pe)
def NumVars (w : World) : Prop:=IfCell 1 w ∧ IfCell 2 w ∧ ∃ m,w.cell? ⟨0,0,none⟩ = some (.int .i64 m)
theorem cell_below {w w' : World} {g : Nat} {v : Value} (hb : Below w.heap.size w w') (h : w.cell? ⟨g,0,none⟩ = some v) : w'.cell? ⟨g,0,none⟩ = some v:=by
 have hlt : g < w.heap.size:=by
  rcases Nat.lt_or_ge g w.heap.size with h1 | h1
  ·exact h1
  ·exfalso
   unfold World.cell? at h
   simp only [Array.getElem?_eq_none h1] at h
   cases h
 exact (World.cell?_of_block (w:=w) (a:=⟨g,0,none⟩) (hb.block g hlt)).trans h
theorem IfCell.below {g : Nat} {w w' : World} (h : IfCell g w) (hb : Below w.heap.size w w') : IfCell g w':=h.elim fun ev h => ⟨ev,cell_below hb h.1,h.2⟩
theorem NumVars.below {w w' : World} (h : NumVars w) (hb : Below w.heap.size w w') : NumVars w':=⟨h.1.below hb,h.2.1.below hb,h.2.2.elim fun m h => ⟨m,cell_below hb h⟩⟩
theorem below_drewN (w : World) (n : Nat) : Below w.heap.size w (w.drewN n):=⟨rfl,rfl,rfl,Nat.le_refl _,fun _ _ => rfl⟩
theorem strEq (a b : ByteArray) : (a.toList == b.toList) = decide (a.data.toList = b.data.toList):=by
 rw [ByteArray.toList_eq,ByteArray.toList_eq,Bool.eq_iff_iff]; simp
theorem atoi_bad (s : ByteArray) (hlim : s.size ≤ 281474976710656) (h1 : ∀ v,Lib.atoiAll s.data.toList ≠ .ok v) (h2 : Lib.atoiAll s.data.toList ≠ .range) (ev : Value) (w : World) (hv : w.cell? ⟨1,0,none⟩ = some ev) (hev : ev = .nilIface ∨ ∃ te pe,ev = .iface te pe) :
 Calls Tryz.prog 84 #[.string s] w fun e w' => ∃ N,e = .returned (.tuple #[.int .i64 (0),.iface 273 (.pointer (some ⟨N,0,none⟩))]) ∧ w.heap.size ≤ N ∧ w'.heap[N]? = some (.cells #[.string ⟨#[65,116,111,105]⟩,.string s,ev] 328 (0,0)) ∧ Below w.heap.size w w':=by
 cases hx : Lib.atoiAll s.data.toList
 ·exact absurd hx (h1 _)
 ·exact Any.strconv_Atoi_syntax Tryz.laysC172 s hlim hx ev w hv hev
 ·exact absurd hx h2
theorem drop_at (s : ByteArray) (k : Nat) (h : k < s.size) : s.data.toList.drop k = s[k] :: s.data.toList.drop (k + 1):=by
 have h' : k < s.data.toList.length:=h
 rw [List.drop_eq_getElem_cons h']
 rfl
end
end Go.Proofs.YtkljbfaemahchaaGreatDoor
