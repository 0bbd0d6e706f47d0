/-
  strconv.Atoi and decimal.Text of anything; decimal.Parse: the number that ParLaw's decP says. Conditions: Tabs, NumVars.
-/
import Derived.Test.YtkljbfaemahchaaGreatDoorMP7Mrg
import Derived.Test.YtkljbfaemahchaaGreatDoorMP15Mrg
import Derived.Test.YtkljbfaemahchaaGreatDoorMP6Mrg
import Derived.Test.YtkljbfaemahchaaGreatDoorMP0Mrg
import Derived.Lib.AtoiAllCases
namespace Go.Proofs.YtkljbfaemahchaaGreatDoor
set_option linter.unusedVariables false
set_option linter.unusedSimpArgs false
open Go Go.RowKit Go.Shelf
theorem atoiV_bounds (l : List UInt8) : -9223372036854775808 ≤ atoiV l ∧ atoiV l ≤ 9223372036854775807:=by
 unfold atoiV
 split
 ·rename_i v h; exact Lib.atoiAll_bounds h
 ·exact Lib.atoiSat_bounds l
 ·omega
theorem atoi_call (s : ByteArray) (hs : s.size ≤ 1000000) (w : World) (hN : NumVars w) :
 Calls Tryz.prog 84 #[.string s] w fun x w' => ∃ ev,x = .returned (.tuple #[.int .i64 (atoiV s.data.toList),ev]) ∧ ((atoiOK s.data.toList = true ∧ ev = .nilIface) ∨ (atoiOK s.data.toList = false ∧ ∃ p,ev = .iface 273 p)) ∧ Below w.heap.size w w':=by
 obtain ⟨⟨e1,h1,k1⟩,⟨e2,h2,k2⟩,_⟩:=hN
 obtain ⟨r,hr⟩ : ∃ r,Lib.atoiAll s.data.toList = r:=⟨_,rfl⟩
 by_cases hok : ∃ v,r = .ok v
 ·obtain ⟨v,rfl⟩:=hok
  refine (Tryz.strconv_Atoi_ok s (by omega) v hr w).mono ?_
  rintro e w1 ⟨rfl,hw1⟩
  refine ⟨_,?_,.inl ⟨by unfold atoiOK; rw [hr],rfl⟩,hw1.elim (fun h => h ▸ Below.refl _ _) (fun ⟨_,h⟩ => h ▸ Lib.bytesWorld_below _ _ _)⟩
  unfold atoiV; rw [hr]
 by_cases hra : r = .range
 ·subst hra
  refine (Tryz.strconv_Atoi_range s (by omega) hr e2 w h2 k2).mono ?_
  rintro e w1 ⟨N,rfl,_,_,hb1⟩
  have hx : atoiOK s.data.toList = false ∧ atoiV s.data.toList = Lib.atoiSat s.data.toList:=by
   unfold atoiOK atoiV
   rw [hr]
   exact ⟨rfl,rfl⟩
  exact ⟨.iface 273 (.pointer (some ⟨N,0,none⟩)),by rw [hx.2],.inr ⟨hx.1,_,rfl⟩,hb1⟩
 refine (atoi_bad s (by omega) (fun v h => hok ⟨v,hr.symm.trans h⟩) (fun h => hra (hr.symm.trans h)) e1 w h1 k1).mono ?_
 rintro e w1 ⟨N,rfl,_,_,hb1⟩
 have hx : atoiOK s.data.toList = false ∧ atoiV s.data.toList = 0:=by
  unfold atoiOK atoiV
  rw [hr]
  cases r
  ·exact absurd ⟨_,rfl⟩ hok
  ·exact ⟨rfl,rfl⟩
  ·exact absurd rfl hra
 exact ⟨.iface 273 (.pointer (some ⟨N,0,none⟩)),by rw [hx.2],.inr ⟨hx.1,_,rfl⟩,hb1⟩
set_option maxHeartbeats 2000000 in
theorem abs_any (n : Int) (w : World) : Calls Tryz.prog 324 #[.int .i64 n] w fun e w' => e = .returned (.int .i64 (max n (IntKind.i64.wrap (-n)))) ∧ w' = w:=by
 obtain ⟨m,hm⟩ : ∃ m,m = IntKind.i64.wrap (-n):=⟨_,rfl⟩
 rw [← hm]
 have h:=hm.symm
 clear hm
 go_enter Tryz.func324,Tryz.ntmps324
 go_wp2
 go_ret
 exact ⟨rfl,rfl⟩
set_option maxHeartbeats 4000000 in
theorem decCheckB_call (n : Int) (s : Nat) (hn : -9223372036854775808 ≤ n ∧ n ≤ 9223372036854775807) (hs : s ≤ 1000) (hbad : 999999999999999 < n.natAbs ∨ 12 < s) (w : World) : Calls Tryz.prog 323 #[.agg #[.int .i64 n,.int .i64 (s : Int)]] w fun e w' => e = .returned (.int .i64 2) ∧ Below w.heap.size w w':=by
 have hA:=fun w => abs_any n w
 obtain ⟨m,hm⟩ : ∃ m,m = max n (IntKind.i64.wrap (-n)):=⟨_,rfl⟩
 rw [← hm] at hA
 have HA:=hid hA
 clear hA
 have hcase : 999999999999999 < m ∨ (m ≤ 999999999999999 ∧ n < -999999999999999) ∨ (m ≤ 999999999999999 ∧ ¬ n < -999999999999999 ∧ (12 : Int) < (s : Int)):=by
  by_cases hmin : n = -9223372036854775808
  ·subst hmin
   have : m = -9223372036854775808:=by rw [hm]; decide
   omega
  ·rw [IntWalk.i64_in (-n) (by omega)] at hm
   omega
 have k3 : ¬ (s : Int) < 0:=by omega
 clear hm hbad hn hs
 rcases hcase with h | ⟨h1,h2⟩ | ⟨h1,h2,h3⟩
 ·go_enter Tryz.func323,Tryz.ntmps323
  go_wp2_with (go_at_call 324; refine (HA.out _).mono ?_; rintro e w' ⟨rfl,rfl⟩)
  go_ret
  exact ⟨rfl,(Below.refl _ w).alloc (Nat.le_refl _) _⟩
 ·have k1 : ¬ 999999999999999 < m:=by omega
  go_enter Tryz.func323,Tryz.ntmps323
  go_wp2_with (go_at_call 324; refine (HA.out _).mono ?_; rintro e w' ⟨rfl,rfl⟩)
  go_ret
  exact ⟨rfl,(Below.refl _ w).alloc (Nat.le_refl _) _⟩
 ·have k1 : ¬ 999999999999999 < m:=by omega
  go_enter Tryz.func323,Tryz.ntmps323
  go_wp2_with (go_at_call 324; refine (HA.out _).mono ?_; rintro e w' ⟨rfl,rfl⟩)
  go_ret
  exact ⟨rfl,(Below.refl _ w).alloc (Nat.le_refl _) _⟩
set_option maxHeartbeats 4000000 in
theorem decTextG_call (n : Int) (s : Nat) (hn : -9223372036854775808 ≤ n ∧ n ≤ 9223372036854775807) (hs : s ≤ 1000) (w : World) (hT : Tabs w) : Calls Tryz.prog 252 #[.agg #[.int .i64 n,.int .i64 (s : Int)]] w fun e w' => e = .returned (.tuple #[.string ⟨(decTextF n s).1.toArray⟩,.int .i64 (decTextF n s).2]) ∧ Below w.heap.size w w':=by
 by_cases hbad : 999999999999999 < n.natAbs ∨ 12 < s
 ·rw [show decTextF n s = ([],2) by unfold decTextF; rw [if_pos hbad]]
  have HCK:=hid (decCheckB_call n s hn hs hbad (w.alloc (.cells #[.int .i64 n,.int .i64 (s : Int)] 201)))
  have HB0:=hid (show Below w.heap.size w (w.alloc (.cells #[.int .i64 n,.int .i64 (s : Int)] 201)) from (Below.refl _ w).alloc (Nat.le_refl _) _)
  clear hn hs hbad hT
  go_enter Tryz.func252,Tryz.ntmps252
  go_wp2_with (go_at_call 323; refine HCK.out.mono ?_; rintro e w1 ⟨rfl,hb1⟩)
  refine bodyPost_ret (v:=.tuple #[.string ⟨#[]⟩,.int .i64 2]) (by simp [results,Tryz.results252,go_sem]) rfl ?_
  exact ⟨rfl,HB0.out.trans (hb1.mono HB0.out.size)⟩
 ·rw [show decTextF n s = (decL n s,0) by unfold decTextF; rw [if_neg hbad]]
  exact textD_call n s (by omega) (by omega) w hT
theorem frozenOf {w : World} {b : Nat} {c : Array Value} {t : TypeId} (h : w.heap[b]? = some (.cells c t)) (i : Nat) : w.frozen? ⟨b,i,none⟩ = false:=by
 unfold World.frozen?
 simp only [h]
 simp
theorem heap_alloc_old (w : World) (o : Obj) (i : Nat) (h : i < w.heap.size) : (w.alloc o).heap[i]? = w.heap[i]?:=by
 unfold World.alloc
 simp [Array.getElem?_push,Nat.ne_of_lt h]
theorem cut_len (l sep : List UInt8) : (Lib.cut l sep).1.length + (Lib.cut l sep).2.1.length ≤ l.length:=by
 unfold Lib.cut
 split
 ·simp only [List.length_take,List.length_drop]; omega
 ·simp
set_option maxRecDepth 100000 in
set_option maxHeartbeats 8000000 in
theorem decP_call (s : ByteArray) (hs : s.size ≤ 100000) (w : World) (hT : Tabs w) (hN : NumVars w) :
 Calls Tryz.prog 347 #[.string s] w fun e w' => e = .returned (.tuple #[.agg #[.int .i64 (decP s.data.toList).1,.int .i64 ((decP s.data.toList).2.1 : Int)],.int .i64 (decP s.data.toList).2.2]) ∧ Below w.heap.size w w':=by
 have hsl : s.data.toList.length = s.size:=rfl
 have HB0:=hid (show Below w.heap.size w (w.alloc (.cells #[.int .i64 0,.int .i64 0] 201)) from (Below.refl _ w).alloc (Nat.le_refl _) _)
 by_cases hE : s = ⟨#[]⟩
 ·subst hE
  rw [show decP (⟨#[]⟩ : ByteArray).data.toList = (0,0,4) from rfl]
  clear hT hN
  go_enter Tryz.func347,Tryz.ntmps347
  go_wp2
  refine bodyPost_ret (v:=.tuple #[.agg #[.int .i64 0,.int .i64 0],.int .i64 4]) (by simp [results,Tryz.results347,go_sem]) rfl ?_
  exact ⟨rfl,HB0.out⟩
 have hne : s.data.toList ≠ []:=fun h => hE (ByteArray.ext (Array.ext' h))
 have hse : s.toList.isEmpty = false:=by
  rw [ByteArray.toList_eq]
  cases hx : s.data.toList with
  | nil => exact absurd hx hne
  | cons c l => rfl
 have HNE:=hid hne
 clear hne hE
 by_cases hL : 17 < s.size
 ·have HD:=hid (show decP s.data.toList = (0,0,5) by unfold decP; rw [if_neg HNE.out,if_pos (by omega)])
  have hL' : (17 : Int) < (s.size : Int):=by omega
  clear hT hN
  go_enter Tryz.func347,Tryz.ntmps347
  go_wp2
  refine bodyPost_ret (v:=.tuple #[.agg #[.int .i64 0,.int .i64 0],.int .i64 5]) (by simp [results,Tryz.results347,go_sem]) rfl ?_
  exact ⟨by rw [HD.out]; rfl,HB0.out⟩
 have hL' : ¬ (17 : Int) < (s.size : Int):=by omega
 obtain ⟨m,hm⟩:=hN.2.2
 have hcu:=Tryz.strings_Cut s ⟨#[46]⟩ m (w.alloc (.cells #[.int .i64 0,.int .i64 0] 201)) (by omega) (cell_below HB0.out hm)
 obtain ⟨a,ha⟩ : ∃ a,a = (Lib.cut s.data.toList [46]).1:=⟨_,rfl⟩
 obtain ⟨b,hb⟩ : ∃ b,b = (Lib.cut s.data.toList [46]).2.1:=⟨_,rfl⟩
 obtain ⟨pt,hpt⟩ : ∃ pt,pt = (Lib.cut s.data.toList [46]).2.2:=⟨_,rfl⟩
 have hlen : a.length + b.length ≤ 17:=by
  have:=cut_len s.data.toList [46]
  rw [← ha,← hb] at this
  omega
 have hat:=fun w' hN' => atoi_call ⟨(a ++ b).toArray⟩ (by rw [bSize]; simp; omega) w' hN'
 obtain ⟨n,hn⟩ : ∃ n,n = atoiV (a ++ b):=⟨_,rfl⟩
 obtain ⟨ok,hok⟩ : ∃ ok,ok = atoiOK (a ++ b):=⟨_,rfl⟩
 have hnb:=atoiV_bounds (a ++ b)
 rw [← hn] at hnb
 have htx:=fun w' hT' => decTextG_call n b.length hnb (by omega) w' hT'
 obtain ⟨t,ht⟩ : ∃ t : ByteArray,t = ⟨(decTextF n b.length).1.toArray⟩:=⟨_,rfl⟩
 obtain ⟨te,hte⟩ : ∃ te,te = (decTextF n b.length).2:=⟨_,rfl⟩
 have hD : decP s.data.toList = if ok = false ∨ te ≠ 0 ∨ t.data.toList ≠ s.data.toList ∨ (pt = true ∧ b = []) then (0,0,13) else (n,b.length,0):=by
  unfold decP
  rw [if_neg HNE.out,if_neg (by omega)]
  dsimp only
  rw [← ha,← hb,← hpt,← hn,← hok,← hte,ht]
 rw [show (⟨#[46]⟩ : ByteArray).data.toList = [46] from rfl,← ha,← hb,← hpt] at hcu
 rw [show (⟨(a ++ b).toArray⟩ : ByteArray).data.toList = a ++ b from rfl,← hn,← hok] at hat
 rw [← ht,← hte] at htx
 have HCU:=hid hcu
 have hbz : (⟨b.toArray⟩ : ByteArray).size = b.length:=bSize b
 have hadd : (⟨a.toArray⟩ : ByteArray) ++ ⟨b.toArray⟩ = ⟨(a ++ b).toArray⟩:=bAppend a b
 obtain ⟨sa,hsa⟩ : ∃ sa : ByteArray,sa = ⟨a.toArray⟩:=⟨_,rfl⟩
 obtain ⟨sb,hsb⟩ : ∃ sb : ByteArray,sb = ⟨b.toArray⟩:=⟨_,rfl⟩
 obtain ⟨sab,hsab⟩ : ∃ sab : ByteArray,sab = ⟨(a ++ b).toArray⟩:=⟨_,rfl⟩
 obtain ⟨qt,hqt⟩ : ∃ qt,(t.toList == s.toList) = qt:=⟨_,rfl⟩
 have hqn : (t.toList != s.toList) = !qt:=by rw [bne,hqt]
 have hqt':=hqt
 rw [strEq] at hqt'
 obtain ⟨qb,hqb⟩ : ∃ qb,sb.toList.isEmpty = qb:=⟨_,rfl⟩
 have hqb' : decide (b = []) = qb:=by
  rw [← hqb,ByteArray.toList_eq,hsb]
  cases b <;> rfl
 have HD:=hid (show decP s.data.toList = if (ok && (decide (te = 0) && (qt && !(pt && qb)))) = true then (n,b.length,0) else (0,0,13) by
  rw [hD,← hqt',← hqb']
  cases ok <;> cases pt <;> by_cases h1 : te = 0 <;> by_cases h2 : t.data.toList = s.data.toList <;> by_cases h3 : b = [] <;> simp [h1,h2,h3])
 rw [← hsa,← hsb] at HCU hadd
 rw [← hsab] at hadd hat
 have hsz : sa.size + sb.size ≤ 17:=by rw [hsa,hsb,bSize,bSize]; exact hlen
 rw [← hsb] at hbz
 have HAT:=hid hat
 have HTX:=hid htx
 clear hcu hat htx hD ha hb hpt hn hok ht hte hsa hsb hsab hqt' hqb' hlen hnb hm hL HNE hsl hs
 have HTT:=hid (hT.below HB0.out)
 have HR3:=hid (fun (w1 w2 w3 : World) (b1 : Below (w.alloc (.cells #[.int .i64 0,.int .i64 0] 201)).heap.size (w.alloc (.cells #[.int .i64 0,.int .i64 0] 201)) w1) (b2 : Below w1.heap.size w1 w2) (b3 : Below (w2.alloc (.cells #[.int .i64 n,.int .i64 (b.length : Int)] 201)).heap.size (w2.alloc (.cells #[.int .i64 n,.int .i64 (b.length : Int)] 201)) w3) => (show w3.heap[w.heap.size]? = some (.cells #[.int .i64 0,.int .i64 0] 201) from by
  have z0 : w.heap.size < (w.alloc (.cells #[.int .i64 0,.int .i64 0] 201)).heap.size:=by simp
  have z1:=b1.size
  have z2:=b2.size
  rw [b3.block _ (by simp; simp at z0 z1; omega),heap_alloc_old _ _ _ (by simp at z0 z1; omega),b2.block _ (by simp at z0 z1; omega),b1.block _ z0]
  exact heap_alloc_new _ _))
 have HO:=hid (fun (w2 w3 : World) (b3 : Below (w2.alloc (.cells #[.int .i64 n,.int .i64 (b.length : Int)] 201)).heap.size (w2.alloc (.cells #[.int .i64 n,.int .i64 (b.length : Int)] 201)) w3) => (show w3.heap[w2.heap.size]? = some (.cells #[.int .i64 n,.int .i64 (b.length : Int)] 201) from by
  rw [b3.block _ (by simp)]
  exact heap_alloc_new _ _))
 have HNN:=hid (hN.below HB0.out)
 clear hT hN
 cases ok
 ·skip
  go_enter Tryz.func347,Tryz.ntmps347
  go_wp2_with (first
   | (go_at_call 252; refine (HTX.out _ (HTT.out.below ((HB1.out.trans (HB2.out.mono HB1.out.size)).alloc (Nat.le_trans HB1.out.size HB2.out.size) _))).mono ?_; rintro e w3 ⟨rfl,hb3⟩; have HB3:=hid hb3; clear hb3; have hr3:=HR3.out w1 w2 w3 HB1.out HB2.out HB3.out; have c0 : w3.cell? ⟨w.heap.size,0,none⟩ = some (.int .i64 0):=cellOf hr3 0; have c1 : w3.cell? ⟨w.heap.size,1,none⟩ = some (.int .i64 0):=cellOf hr3 1; have f0:=frozenOf hr3 0; have f1:=frozenOf hr3 1; have HO3:=hid (HO.out w2 w3 HB3.out); have d0 : w3.cell? ⟨w2.heap.size,0,none⟩ = some (.int .i64 n):=cellOf HO3.out 0; have d1 : w3.cell? ⟨w2.heap.size,1,none⟩ = some (.int .i64 (b.length : Int)):=cellOf HO3.out 1; have HH:=hid hr3; clear hr3)
   | (go_at_call 84; refine (HAT.out w1 (HNN.out.below HB1.out)).mono ?_; rintro e w2 ⟨ev,rfl,hev,hb2⟩; have HB2:=hid hb2; clear hb2; obtain ⟨p,rfl⟩ : ∃ p,ev = .iface 273 p:=hev.elim (fun h => nomatch h.1) (fun h => h.2); clear hev)
   | (go_at_call 61; refine HCU.out.mono ?_; rintro e w1 ⟨rfl,nn,hw1⟩; have HB1:=hid (show Below (w.alloc (.cells #[.int .i64 0,.int .i64 0] 201)).heap.size (w.alloc (.cells #[.int .i64 0,.int .i64 0] 201)) w1 from hw1 ▸ below_drewN _ nn); clear hw1))
  refine bodyPost_ret (v:=.tuple #[.agg #[.int .i64 0,.int .i64 0],.int .i64 13]) ?_ ?_ ?_
  ·simp [results,Tryz.results347,go_sem, *]
  ·rfl
  exact ⟨by rw [HD.out]; simp,(((HB0.out.trans ((((HB1.out.trans (HB2.out.mono HB1.out.size)).alloc (Nat.le_trans HB1.out.size HB2.out.size) _).trans (HB3.out.mono (by have:=HB1.out.size; have:=HB2.out.size; simp at *; omega))).mono HB0.out.size)).setCell (p:=⟨w.heap.size,0,none⟩) (Nat.le_refl _) _).setCell (p:=⟨w.heap.size,1,none⟩) (Nat.le_refl _) _)⟩
 by_cases hte : te = 0
 rotate_left
 ·skip
  go_enter Tryz.func347,Tryz.ntmps347
  go_wp2_with (first
   | (go_at_call 252; refine (HTX.out _ (HTT.out.below ((HB1.out.trans (HB2.out.mono HB1.out.size)).alloc (Nat.le_trans HB1.out.size HB2.out.size) _))).mono ?_; rintro e w3 ⟨rfl,hb3⟩; have HB3:=hid hb3; clear hb3; have hr3:=HR3.out w1 w2 w3 HB1.out HB2.out HB3.out; have c0 : w3.cell? ⟨w.heap.size,0,none⟩ = some (.int .i64 0):=cellOf hr3 0; have c1 : w3.cell? ⟨w.heap.size,1,none⟩ = some (.int .i64 0):=cellOf hr3 1; have f0:=frozenOf hr3 0; have f1:=frozenOf hr3 1; have HO3:=hid (HO.out w2 w3 HB3.out); have d0 : w3.cell? ⟨w2.heap.size,0,none⟩ = some (.int .i64 n):=cellOf HO3.out 0; have d1 : w3.cell? ⟨w2.heap.size,1,none⟩ = some (.int .i64 (b.length : Int)):=cellOf HO3.out 1; have HH:=hid hr3; clear hr3)
   | (go_at_call 84; refine (HAT.out w1 (HNN.out.below HB1.out)).mono ?_; rintro e w2 ⟨ev,rfl,hev,hb2⟩; have HB2:=hid hb2; clear hb2; obtain rfl : ev = .nilIface:=hev.elim (fun h => h.2) (fun h => nomatch h.1); clear hev)
   | (go_at_call 61; refine HCU.out.mono ?_; rintro e w1 ⟨rfl,nn,hw1⟩; have HB1:=hid (show Below (w.alloc (.cells #[.int .i64 0,.int .i64 0] 201)).heap.size (w.alloc (.cells #[.int .i64 0,.int .i64 0] 201)) w1 from hw1 ▸ below_drewN _ nn); clear hw1))
  refine bodyPost_ret (v:=.tuple #[.agg #[.int .i64 0,.int .i64 0],.int .i64 13]) ?_ ?_ ?_
  ·simp [results,Tryz.results347,go_sem, *]
  ·rfl
  exact ⟨by rw [HD.out]; simp [hte],(((HB0.out.trans ((((HB1.out.trans (HB2.out.mono HB1.out.size)).alloc (Nat.le_trans HB1.out.size HB2.out.size) _).trans (HB3.out.mono (by have:=HB1.out.size; have:=HB2.out.size; simp at *; omega))).mono HB0.out.size)).setCell (p:=⟨w.heap.size,0,none⟩) (Nat.le_refl _) _).setCell (p:=⟨w.heap.size,1,none⟩) (Nat.le_refl _) _)⟩
 subst hte
 cases qt
 ·simp only [Bool.not_false] at hqn
  go_enter Tryz.func347,Tryz.ntmps347
  go_wp2_with (first
   | (go_at_call 252; refine (HTX.out _ (HTT.out.below ((HB1.out.trans (HB2.out.mono HB1.out.size)).alloc (Nat.le_trans HB1.out.size HB2.out.size) _))).mono ?_; rintro e w3 ⟨rfl,hb3⟩; have HB3:=hid hb3; clear hb3; have hr3:=HR3.out w1 w2 w3 HB1.out HB2.out HB3.out; have c0 : w3.cell? ⟨w.heap.size,0,none⟩ = some (.int .i64 0):=cellOf hr3 0; have c1 : w3.cell? ⟨w.heap.size,1,none⟩ = some (.int .i64 0):=cellOf hr3 1; have f0:=frozenOf hr3 0; have f1:=frozenOf hr3 1; have HO3:=hid (HO.out w2 w3 HB3.out); have d0 : w3.cell? ⟨w2.heap.size,0,none⟩ = some (.int .i64 n):=cellOf HO3.out 0; have d1 : w3.cell? ⟨w2.heap.size,1,none⟩ = some (.int .i64 (b.length : Int)):=cellOf HO3.out 1; have HH:=hid hr3; clear hr3)
   | (go_at_call 84; refine (HAT.out w1 (HNN.out.below HB1.out)).mono ?_; rintro e w2 ⟨ev,rfl,hev,hb2⟩; have HB2:=hid hb2; clear hb2; obtain rfl : ev = .nilIface:=hev.elim (fun h => h.2) (fun h => nomatch h.1); clear hev)
   | (go_at_call 61; refine HCU.out.mono ?_; rintro e w1 ⟨rfl,nn,hw1⟩; have HB1:=hid (show Below (w.alloc (.cells #[.int .i64 0,.int .i64 0] 201)).heap.size (w.alloc (.cells #[.int .i64 0,.int .i64 0] 201)) w1 from hw1 ▸ below_drewN _ nn); clear hw1))
  refine bodyPost_ret (v:=.tuple #[.agg #[.int .i64 0,.int .i64 0],.int .i64 13]) ?_ ?_ ?_
  ·simp [results,Tryz.results347,go_sem, *]
  ·rfl
  exact ⟨by rw [HD.out]; simp,(((HB0.out.trans ((((HB1.out.trans (HB2.out.mono HB1.out.size)).alloc (Nat.le_trans HB1.out.size HB2.out.size) _).trans (HB3.out.mono (by have:=HB1.out.size; have:=HB2.out.size; simp at *; omega))).mono HB0.out.size)).setCell (p:=⟨w.heap.size,0,none⟩) (Nat.le_refl _) _).setCell (p:=⟨w.heap.size,1,none⟩) (Nat.le_refl _) _)⟩
 simp only [Bool.not_true] at hqn
 cases pt
 ·skip
  go_enter Tryz.func347,Tryz.ntmps347
  go_wp2_with (first
   | (go_at_call 252; refine (HTX.out _ (HTT.out.below ((HB1.out.trans (HB2.out.mono HB1.out.size)).alloc (Nat.le_trans HB1.out.size HB2.out.size) _))).mono ?_; rintro e w3 ⟨rfl,hb3⟩; have HB3:=hid hb3; clear hb3; have hr3:=HR3.out w1 w2 w3 HB1.out HB2.out HB3.out; have c0 : w3.cell? ⟨w.heap.size,0,none⟩ = some (.int .i64 0):=cellOf hr3 0; have c1 : w3.cell? ⟨w.heap.size,1,none⟩ = some (.int .i64 0):=cellOf hr3 1; have f0:=frozenOf hr3 0; have f1:=frozenOf hr3 1; have HO3:=hid (HO.out w2 w3 HB3.out); have d0 : w3.cell? ⟨w2.heap.size,0,none⟩ = some (.int .i64 n):=cellOf HO3.out 0; have d1 : w3.cell? ⟨w2.heap.size,1,none⟩ = some (.int .i64 (b.length : Int)):=cellOf HO3.out 1; have HH:=hid hr3; clear hr3)
   | (go_at_call 84; refine (HAT.out w1 (HNN.out.below HB1.out)).mono ?_; rintro e w2 ⟨ev,rfl,hev,hb2⟩; have HB2:=hid hb2; clear hb2; obtain rfl : ev = .nilIface:=hev.elim (fun h => h.2) (fun h => nomatch h.1); clear hev)
   | (go_at_call 61; refine HCU.out.mono ?_; rintro e w1 ⟨rfl,nn,hw1⟩; have HB1:=hid (show Below (w.alloc (.cells #[.int .i64 0,.int .i64 0] 201)).heap.size (w.alloc (.cells #[.int .i64 0,.int .i64 0] 201)) w1 from hw1 ▸ below_drewN _ nn); clear hw1))
  refine bodyPost_ret (v:=.tuple #[.agg #[.int .i64 n,.int .i64 (b.length : Int)],.int .i64 0]) ?_ ?_ ?_
  ·simp [results,Tryz.results347,go_sem, *]
  ·rfl
  exact ⟨by rw [HD.out]; simp,(((HB0.out.trans ((((HB1.out.trans (HB2.out.mono HB1.out.size)).alloc (Nat.le_trans HB1.out.size HB2.out.size) _).trans (HB3.out.mono (by have:=HB1.out.size; have:=HB2.out.size; simp at *; omega))).mono HB0.out.size)).setCell (p:=⟨w.heap.size,0,none⟩) (Nat.le_refl _) _).setCell (p:=⟨w.heap.size,1,none⟩) (Nat.le_refl _) _)⟩
 cases qb
 ·skip
  go_enter Tryz.func347,Tryz.ntmps347
  go_wp2_with (first
   | (go_at_call 252; refine (HTX.out _ (HTT.out.below ((HB1.out.trans (HB2.out.mono HB1.out.size)).alloc (Nat.le_trans HB1.out.size HB2.out.size) _))).mono ?_; rintro e w3 ⟨rfl,hb3⟩; have HB3:=hid hb3; clear hb3; have hr3:=HR3.out w1 w2 w3 HB1.out HB2.out HB3.out; have c0 : w3.cell? ⟨w.heap.size,0,none⟩ = some (.int .i64 0):=cellOf hr3 0; have c1 : w3.cell? ⟨w.heap.size,1,none⟩ = some (.int .i64 0):=cellOf hr3 1; have f0:=frozenOf hr3 0; have f1:=frozenOf hr3 1; have HO3:=hid (HO.out w2 w3 HB3.out); have d0 : w3.cell? ⟨w2.heap.size,0,none⟩ = some (.int .i64 n):=cellOf HO3.out 0; have d1 : w3.cell? ⟨w2.heap.size,1,none⟩ = some (.int .i64 (b.length : Int)):=cellOf HO3.out 1; have HH:=hid hr3; clear hr3)
   | (go_at_call 84; refine (HAT.out w1 (HNN.out.below HB1.out)).mono ?_; rintro e w2 ⟨ev,rfl,hev,hb2⟩; have HB2:=hid hb2; clear hb2; obtain rfl : ev = .nilIface:=hev.elim (fun h => h.2) (fun h => nomatch h.1); clear hev)
   | (go_at_call 61; refine HCU.out.mono ?_; rintro e w1 ⟨rfl,nn,hw1⟩; have HB1:=hid (show Below (w.alloc (.cells #[.int .i64 0,.int .i64 0] 201)).heap.size (w.alloc (.cells #[.int .i64 0,.int .i64 0] 201)) w1 from hw1 ▸ below_drewN _ nn); clear hw1))
  refine bodyPost_ret (v:=.tuple #[.agg #[.int .i64 n,.int .i64 (b.length : Int)],.int .i64 0]) ?_ ?_ ?_
  ·simp [results,Tryz.results347,go_sem, *]
  ·rfl
  exact ⟨by rw [HD.out]; simp,(((HB0.out.trans ((((HB1.out.trans (HB2.out.mono HB1.out.size)).alloc (Nat.le_trans HB1.out.size HB2.out.size) _).trans (HB3.out.mono (by have:=HB1.out.size; have:=HB2.out.size; simp at *; omega))).mono HB0.out.size)).setCell (p:=⟨w.heap.size,0,none⟩) (Nat.le_refl _) _).setCell (p:=⟨w.heap.size,1,none⟩) (Nat.le_refl _) _)⟩
 ·skip
  go_enter Tryz.func347,Tryz.ntmps347
  go_wp2_with (first
   | (go_at_call 252; refine (HTX.out _ (HTT.out.below ((HB1.out.trans (HB2.out.mono HB1.out.size)).alloc (Nat.le_trans HB1.out.size HB2.out.size) _))).mono ?_; rintro e w3 ⟨rfl,hb3⟩; have HB3:=hid hb3; clear hb3; have hr3:=HR3.out w1 w2 w3 HB1.out HB2.out HB3.out; have c0 : w3.cell? ⟨w.heap.size,0,none⟩ = some (.int .i64 0):=cellOf hr3 0; have c1 : w3.cell? ⟨w.heap.size,1,none⟩ = some (.int .i64 0):=cellOf hr3 1; have f0:=frozenOf hr3 0; have f1:=frozenOf hr3 1; have HO3:=hid (HO.out w2 w3 HB3.out); have d0 : w3.cell? ⟨w2.heap.size,0,none⟩ = some (.int .i64 n):=cellOf HO3.out 0; have d1 : w3.cell? ⟨w2.heap.size,1,none⟩ = some (.int .i64 (b.length : Int)):=cellOf HO3.out 1; have HH:=hid hr3; clear hr3)
   | (go_at_call 84; refine (HAT.out w1 (HNN.out.below HB1.out)).mono ?_; rintro e w2 ⟨ev,rfl,hev,hb2⟩; have HB2:=hid hb2; clear hb2; obtain rfl : ev = .nilIface:=hev.elim (fun h => h.2) (fun h => nomatch h.1); clear hev)
   | (go_at_call 61; refine HCU.out.mono ?_; rintro e w1 ⟨rfl,nn,hw1⟩; have HB1:=hid (show Below (w.alloc (.cells #[.int .i64 0,.int .i64 0] 201)).heap.size (w.alloc (.cells #[.int .i64 0,.int .i64 0] 201)) w1 from hw1 ▸ below_drewN _ nn); clear hw1))
  refine bodyPost_ret (v:=.tuple #[.agg #[.int .i64 0,.int .i64 0],.int .i64 13]) ?_ ?_ ?_
  ·simp [results,Tryz.results347,go_sem, *]
  ·rfl
  exact ⟨by rw [HD.out]; simp,(((HB0.out.trans ((((HB1.out.trans (HB2.out.mono HB1.out.size)).alloc (Nat.le_trans HB1.out.size HB2.out.size) _).trans (HB3.out.mono (by have:=HB1.out.size; have:=HB2.out.size; simp at *; omega))).mono HB0.out.size)).setCell (p:=⟨w.heap.size,0,none⟩) (Nat.le_refl _) _).setCell (p:=⟨w.heap.size,1,none⟩) (Nat.le_refl _) _)⟩
end Go.Proofs.YtkljbfaemahchaaGreatDoor
