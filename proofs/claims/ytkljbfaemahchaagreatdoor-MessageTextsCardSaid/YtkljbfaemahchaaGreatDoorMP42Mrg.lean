/-
  manifoldlaw29.small says whether a message is small. Condition: the message can be read as data.
-/
import Derived.Test.YtkljbfaemahchaaGreatDoorMP9Mrg
import Derived.Test.YtkljbfaemahchaaGreatDoorMP3Mrg
import Derived.Sort.CutIn
import Derived.Test.YtkljbfaemahchaaGreatDoorMP4Mrg
namespace Go.Proofs.YtkljbfaemahchaaGreatDoor
set_option linter.unusedVariables false
set_option linter.unusedSimpArgs false
section
open Go Go.RowKit Go.Shelf
def SmallPost (w : World) (c : MC) (e : Ending) (w' : World) : Prop:=(∃ b : Bool,e = .returned (.bool b) ∧ (b = true → c.st.n ≤ 40 ∧ c.n ≤ 300)) ∧ Below w.heap.size w w'
set_option maxRecDepth 100000 in
set_option maxHeartbeats 4000000 in
theorem small_call (c : MC) (d : Msg) (w : World) (hd : IsMsg (· < w.heap.size) w c d) : Calls Tryz.prog 40 #[c.v] w (SmallPost w c):=by
 have hb0 : Below w.heap.size w (w.alloc (mObj c)):=(Below.refl _ w).alloc (Nat.le_refl _) _
 have later : ∀ w2,Below (w.alloc (mObj c)).heap.size (w.alloc (mObj c)) w2 → Ten w2 w.heap.size c ∧ Below w.heap.size w w2 ∧ IsVal (· < w2.heap.size) w2 c.b d.b:=fun w2 h => by
  have hb:=hb0.trans (h.mono hb0.size)
  exact ⟨tenOf (heapExt h (heap_alloc_new w _)),hb,hd.b.same fun b q => ⟨Nat.lt_of_lt_of_le q hb.size,hb.block b q⟩⟩
 have HL:=hid later
 have HD : Hid (∀ w2,Below (w.alloc (mObj c)).heap.size (w.alloc (mObj c)) w2 → Calls Tryz.prog 91 #[c.b.v] w2 (SomeInt w2)):=hid fun w2 h => depth_call c.b d.b w2 (later w2 h).2.2
 have HS : Hid (∀ w2,Below (w.alloc (mObj c)).heap.size (w.alloc (mObj c)) w2 → Calls Tryz.prog 92 #[c.b.v] w2 (SomeInt w2)):=hid fun w2 h => size_call' c.b d.b w2 (later w2 h).2.2
 have h00:=(later _ (Below.refl _ _)).1
 have HB0:=hid hb0
 clear later hd hb0
 obtain ⟨⟨ce,sa,sn,sc⟩,m,a,n,cap,⟨k,i',s,t,la,ll,lc,fa,fl,fc⟩⟩:=c
 dsimp only [mObj,VC.v,MC.v,Ten] at HL HD HS HB0 h00 ⊢
 obtain ⟨e0,e1,e2,e3,e4,e5,e6,e7,e8,e9⟩:=h00
 go_enter Tryz.func40,Tryz.ntmps40
 by_cases q1 : sn ≤ 40
 ·have q1' : (sn : Int) ≤ 40:=by omega
  by_cases q2 : n ≤ 300
  ·have q2' : (n : Int) ≤ 300:=by omega
   go_wp2_with (first
    | (go_at_call 91; refine (HD.out _ (Below.refl _ _)).mono ?_; rintro e w3 ⟨⟨n1,rfl⟩,hb3⟩; clear e0 e1 e2 e3 e4 e5 e6 e7 e8 e9; have t0:=(HL.out _ hb3).1; obtain ⟨k0,k1,k2,k3,k4,k5,k6,k7,k8,k9⟩:=t0; have hbz:=(HL.out _ hb3).2.1; rcases Int.lt_or_le 12 n1 with hn1 | hn1)
    | (go_at_call 92; refine (HS.out _ hb3).mono ?_; rintro e w4 ⟨⟨n2,rfl⟩,hb4⟩; have hbz4:=hbz.trans (hb4.mono hbz.size)))
   ·go_ret
    exact ⟨⟨_,rfl,fun _ => ⟨q1,q2⟩⟩,hbz⟩
   ·go_ret
    exact ⟨⟨_,rfl,fun _ => ⟨q1,q2⟩⟩,hbz4⟩
  ·have q2' : ¬ (n : Int) ≤ 300:=by omega
   go_wp2
   go_ret
   exact ⟨⟨false,rfl,fun h => by cases h⟩,HB0.out⟩
 ·have q1' : ¬ (sn : Int) ≤ 40:=by omega
  go_wp2
  go_ret
  exact ⟨⟨false,rfl,fun h => by cases h⟩,HB0.out⟩
end
section
open Go Go.RowKit Go.Shelf
set_option maxRecDepth 100000 in
set_option maxHeartbeats 2000000 in
theorem bodyError_call (c : VC) (d : Val) (w : World) (hd : IsVal (· < w.heap.size) w c d) (hT : Tabs w) : Calls Tryz.prog 94 #[c.v] w fun e w' => e = .returned (.int .i64 (bodyE d)) ∧ Below w.heap.size w w':=by
 have HC:=hid (check_later c d w hd hT)
 have e1:=isNullV_of hd
 have e2:=kindV_of hd
 have HE:=hid (show bodyE d = if isNullB c.k c.i c.s c.t c.ll c.fl = true then 0 else if c.k ≠ 9 then 18 else chkVal d by rw [bodyE,e1,e2])
 clear e1 e2 hd hT
 obtain ⟨k,i,s,t,la,ll,lc,fa,fl,fc⟩:=c
 dsimp only at HE HC ⊢
 obtain ⟨w1,hw1⟩ : ∃ w1,w1 = w.alloc (.cells #[.int .i64 k,.int .i64 i,.int .i64 s,.string t,.slice la ll lc,.slice fa fl fc] 43):=⟨_,rfl⟩
 have hb1 : Below w.heap.size w w1:=by rw [hw1]; exact (Below.refl _ w).alloc (Nat.le_refl _) _
 have hbox : w1.heap[w.heap.size]? = some (vObj ⟨k,i,s,t,la,ll,lc,fa,fl,fc⟩):=by rw [hw1]; exact heap_alloc_new w _
 have six : ∀ w2,Below w1.heap.size w1 w2 → Six w2 w.heap.size ⟨k,i,s,t,la,ll,lc,fa,fl,fc⟩ ∧ Below w.heap.size w w2:=fun w2 h => ⟨sixOf (heapExt h hbox),hb1.trans (h.mono hb1.size)⟩
 rw [hw1] at six
 have SIX:=hid six
 clear six hbox hb1 hw1
 go_enter Tryz.func94,Tryz.ntmps94
 cases q1 : isNullB k i s t ll fl with
 | true =>
   have HE1:=hid (show bodyE d = 0 by rw [HE.out,q1,if_pos rfl])
   go_wp2_with (go_at_call 96; refine (isNull_call k i s t la ll lc fa fl fc _).mono ?_; rintro e w2 ⟨he,hb2⟩; rw [q1] at he; subst he; obtain ⟨⟨j1,j2,j3,j4,j5,j6⟩,hb3⟩:=SIX.out _ hb2)
   go_ret
   exact ⟨by rw [HE1.out]; rfl,hb3⟩
 | false =>
 by_cases q2 : k = 9
 ·have HE1:=hid (show bodyE d = chkVal d by rw [HE.out,q1,if_neg (by decide),if_neg (by simpa using q2)])
  subst q2
  go_wp2_with (first
   | (go_at_call 96; refine (isNull_call 9 i s t la ll lc fa fl fc _).mono ?_; rintro e w2 ⟨he,hb2⟩; rw [q1] at he; subst he; obtain ⟨⟨j1,j2,j3,j4,j5,j6⟩,hb3⟩:=SIX.out _ hb2)
   | (go_at_call 95; refine (HC.out _ hb3).mono ?_; rintro e w4 ⟨rfl,hb4⟩))
  go_ret
  exact ⟨by rw [HE1.out]; rfl,hb3.trans (hb4.mono hb3.size)⟩
 ·have HE1:=hid (show bodyE d = 18 by rw [HE.out,q1,if_neg (by decide),if_pos q2])
  go_wp2_with (go_at_call 96; refine (isNull_call k i s t la ll lc fa fl fc _).mono ?_; rintro e w2 ⟨he,hb2⟩; rw [q1] at he; subst he; obtain ⟨⟨j1,j2,j3,j4,j5,j6⟩,hb3⟩:=SIX.out _ hb2)
  go_ret
  exact ⟨by rw [HE1.out]; rfl,hb3⟩
end
section
open Go Go.RowKit Go.Shelf
set_option maxRecDepth 100000 in
set_option maxHeartbeats 4000000 in
theorem lawCheck_call (c : MC) (d : Msg) (w : World) (hd : IsMsg (· < w.heap.size) w c d) (hT : Tabs w) : Calls Tryz.prog 41 #[c.v] w fun e w' => e = .returned (.int .i64 (msgE d)) ∧ Below w.heap.size w w':=by
 have HM:=hid (msgAt c d w hd hT)
 have hm:=hd.m
 have HL:=hid hd.es.len
 clear hd hT
 obtain ⟨⟨ce,sa,sn,sc⟩,m,a,n,cap,⟨k,i',s,t,la,ll,lc,fa,fl,fc⟩⟩:=c
 dsimp only at hm HM HL ⊢
 have HE:=hid (show msgE d = if stampE d.st ≠ 0 then stampE d.st else if heavyB m = true then 38 else if n = 0 then 4 else if 4096 < n then 9 else if entAt d.es 0 ≠ 0 then entAt d.es 0 else bodyE d.b by
  have e1 : (d.es = []) = (n = 0):=by rw [HL.out]; simp
  rw [msgE,hm,HL.out]
  simp)
 clear hm
 obtain ⟨u,hu⟩ : ∃ u,u = stampE d.st:=⟨_,rfl⟩
 rw [← hu] at HE
 have hm' : ∀ w1,Below (w.alloc (mObj ⟨⟨ce,sa,sn,sc⟩,m,a,n,cap,⟨k,i',s,t,la,ll,lc,fa,fl,fc⟩⟩)).heap.size (w.alloc (mObj ⟨⟨ce,sa,sn,sc⟩,m,a,n,cap,⟨k,i',s,t,la,ll,lc,fa,fl,fc⟩⟩)) w1 →
  MsgAt w w1 ⟨⟨ce,sa,sn,sc⟩,m,a,n,cap,⟨k,i',s,t,la,ll,lc,fa,fl,fc⟩⟩ d ∧ Calls Tryz.prog 93 #[SC.v ⟨ce,sa,sn,sc⟩] w1 fun e w' => e = .returned (.int .i64 u) ∧ Below w1.heap.size w1 w':=fun w1 h => ⟨HM.out w1 h,by rw [hu]; exact (HM.out w1 h).st⟩
 dsimp only [mObj,SC.v,VC.v] at hm'
 have h0:=hm' _ (Below.refl _ _)
 have HM':=hid hm'
 clear HM hu hm'
 obtain ⟨h0,hst⟩:=h0
 have h0t:=h0.ten
 dsimp only [Ten] at h0t
 obtain ⟨e0,e1,e2,e3,e4,e5,e6,e7,e8,e9⟩:=h0t
 clear h0
 have HST:=hid hst
 clear hst
 dsimp only [MC.v,SC.v,VC.v]
 go_enter Tryz.func41,Tryz.ntmps41
 by_cases q1 : u = 0
 ·subst q1
  by_cases q2 : m < 0
  ·have r:=hid (show msgE d = 38 by rw [HE.out,if_neg (by decide),if_pos (by simp [heavyB,q2])])
   go_wp2_with (go_at_call 93; refine HST.out.mono ?_; rintro e w2 ⟨rfl,hb2⟩; obtain ⟨⟨⟨j0,j1,j2,j3,j4,j5,j6,j7,j8,j9⟩,hbw,_,_,_,_⟩,_⟩:=HM'.out _ hb2; clear e0 e1 e2 e3 e4 e5 e6 e7 e8 e9)
   go_ret
   exact ⟨by rw [r.out]; rfl,hbw⟩
  by_cases q2' : 1099511627776 < m
  ·have r:=hid (show msgE d = 38 by rw [HE.out,if_neg (by decide),if_pos (by simp [heavyB,q2'])])
   go_wp2_with (go_at_call 93; refine HST.out.mono ?_; rintro e w2 ⟨rfl,hb2⟩; obtain ⟨⟨⟨j0,j1,j2,j3,j4,j5,j6,j7,j8,j9⟩,hbw,_,_,_,_⟩,_⟩:=HM'.out _ hb2; clear e0 e1 e2 e3 e4 e5 e6 e7 e8 e9)
   go_ret
   exact ⟨by rw [r.out]; rfl,hbw⟩
  have hhv : heavyB m = false:=by simp [heavyB]; omega
  have HV:=hid hhv
  clear hhv
  by_cases q3 : n = 0
  ·have r:=hid (show msgE d = 4 by rw [HE.out,if_neg (by decide),HV.out,if_neg (by decide),if_pos q3])
   subst q3
   go_wp2_with (go_at_call 93; refine HST.out.mono ?_; rintro e w2 ⟨rfl,hb2⟩; obtain ⟨⟨⟨j0,j1,j2,j3,j4,j5,j6,j7,j8,j9⟩,hbw,_,_,_,_⟩,_⟩:=HM'.out _ hb2; clear e0 e1 e2 e3 e4 e5 e6 e7 e8 e9)
   go_ret
   exact ⟨by rw [r.out]; rfl,hbw⟩
  have q3' : (0 : Int) < (n : Int):=by omega
  by_cases q4 : 4096 < n
  ·have r:=hid (show msgE d = 9 by rw [HE.out,if_neg (by decide),HV.out,if_neg (by decide),if_neg q3,if_pos q4])
   have q4' : (4096 : Int) < (n : Int):=by omega
   go_wp2_with (go_at_call 93; refine HST.out.mono ?_; rintro e w2 ⟨rfl,hb2⟩; obtain ⟨⟨⟨j0,j1,j2,j3,j4,j5,j6,j7,j8,j9⟩,hbw,_,_,_,_⟩,_⟩:=HM'.out _ hb2; clear e0 e1 e2 e3 e4 e5 e6 e7 e8 e9)
   go_ret
   exact ⟨by rw [r.out]; rfl,hbw⟩
  have q4' : (n : Int) ≤ 4096:=by omega
  have q5' : ((n : Int) == 0) = false:=by simp; omega
  have q6' : decide ((4096 : Int) < (n : Int)) = false:=by simp; omega
  have q7' : decide (m < 0) = false:=by simp; omega
  have q8' : decide (1099511627776 < m) = false:=by simp; omega
  have R:=hid (show msgE d = if entAt d.es 0 ≠ 0 then entAt d.es 0 else bodyE d.b by rw [HE.out,if_neg (by decide),HV.out,if_neg (by decide),if_neg q3,if_neg q4])
  go_wp2_with (go_at_call 93; refine HST.out.mono ?_; rintro e w2 ⟨rfl,hb2⟩; obtain ⟨⟨⟨j0,j1,j2,j3,j4,j5,j6,j7,j8,j9⟩,hbw,_,_,_,_⟩,_⟩:=HM'.out _ hb2; clear e0 e1 e2 e3 e4 e5 e6 e7 e8 e9)
  go_loopw [4] (fun i wr => ∃ q : Nat,q ≤ n ∧ i = .int .i64 q ∧ entAt d.es 0 = entAt d.es q ∧ Below (w.alloc (mObj ⟨⟨ce,sa,sn,sc⟩,m,a,n,cap,⟨k,i',s,t,la,ll,lc,fa,fl,fc⟩⟩)).heap.size (w.alloc (mObj ⟨⟨ce,sa,sn,sc⟩,m,a,n,cap,⟨k,i',s,t,la,ll,lc,fa,fl,fc⟩⟩)) wr) (fun i _ => n - (intOf i).toNat)
  case atStart => exact ⟨0,Nat.zero_le _,rfl,rfl,hb2⟩
  case round =>
   clear j0 j1 j2 j3 j4 j5 j6 j7 j8 j9 hb2 hbw
   obtain ⟨q,hq,rfl,hent,hbr⟩:=hrel
   have HN:=hid hent
   clear hent
   obtain ⟨⟨⟨j0,j1,j2,j3,j4,j5,j6,j7,j8,j9⟩,_,_,_,hbody,hes⟩,_⟩:=HM'.out _ hbr
   have HB:=hid (bodyError_call _ _ _ hbody.1 hbody.2)
   dsimp only [VC.v] at HB
   have HX:=hid hes
   clear hbody hes
   by_cases hlt : q < n
   ·have hql : q < d.es.length:=by have:=HL.out; omega
    obtain ⟨b,o,rfl,hb,hc⟩:=HX.out.slot (show 0 < n by omega)
    have hc0:=hc q hql
    obtain ⟨z,hz⟩ : ∃ z,z = d.es[q]:=⟨_,rfl⟩
    rw [← hz] at hc0
    have HZ:=hid hz
    clear hz
    have hlt' : (q : Int) < (n : Int):=by omega
    have hq0 : (0 : Int) ≤ (q : Int):=by omega
    by_cases hz1 : z < 1
    ·clear hc
     have r:=hid (show msgE d = 2 by rw [R.out,HN.out,entAt_bad _ q hql (by rw [← HZ.out]; simp [entryB]; omega),if_pos (by decide)])
     go_wp2
     go_ret
     exact ⟨by rw [r.out]; rfl,(HM'.out _ (by first | exact hbr | exact below_drewN hbr _ | exact below_drewN (below_drewN hbr _) _)).1.bel⟩
    by_cases hz2 : 1048576 < z
    ·clear hc
     have r:=hid (show msgE d = 2 by rw [R.out,HN.out,entAt_bad _ q hql (by rw [← HZ.out]; simp [entryB]; omega),if_pos (by decide)])
     go_wp2
     go_ret
     exact ⟨by rw [r.out]; rfl,(HM'.out _ (by first | exact hbr | exact below_drewN hbr _ | exact below_drewN (below_drewN hbr _) _)).1.bel⟩
    have HZE:=hid (show entryB z = true by simp [entryB]; omega)
    by_cases hk0 : q = 0
    ·have hk0' : ¬ (0 : Int) < (q : Int):=by omega
     have hk0d : decide ((0 : Int) < (q : Int)) = false:=decide_eq_false hk0'
     have hk0n : decide (0 < q) = false:=by simp; omega
     clear hc
     have r:=hid (entAt_step d.es q hql (by rw [← HZ.out]; exact HZE.out) (.inl hk0))
     have HK:=hid hk0
     clear hk0
     go_upto_region 15 with (fail)
     go_quiet (fail)
     go_wp2
     go_roundw
     case rel => exact ⟨q + 1,by omega,by go_num,HN.out.trans r.out,by first | exact hbr | exact below_drewN hbr _⟩
     case measure => simp [intOf]; omega
    ·have hc1:=hc (q - 1) (by omega)
     clear hc
     obtain ⟨y,hy⟩ : ∃ y,y = d.es[q - 1]:=⟨_,rfl⟩
     rw [← hy] at hc1
     have HY:=hid hy
     clear hy
     have hk0' : (0 : Int) < (q : Int):=by omega
     have hk0d : decide ((0 : Int) < (q : Int)) = true:=decide_eq_true hk0'
     have hk0n : decide (0 < q) = true:=by simp; omega
     have hk1' : (0 : Int) ≤ (q : Int) - 1:=by omega
     have hk2' : (q : Int) - 1 < (n : Int):=by omega
     have hc2 : wr.cell? ⟨b,o + ((q : Int) - 1).toNat,none⟩ = some (.int .i64 y):=by rw [show ((q : Int) - 1).toNat = q - 1 by omega]; exact hc1
     have hwr : IntKind.i64.wrap ((q : Int) - 1) = (q : Int) - 1:=IntWalk.i64_in _ (by omega)
     have HK:=hid hk0
     clear hk0
     by_cases hle : z ≤ y
     ·have r:=hid (show msgE d = 24 by rw [R.out,HN.out,entAt_late _ q hql (by rw [← HZ.out]; exact HZE.out) (by have:=HK.out; omega) (by rw [← HZ.out,← HY.out]; exact hle),if_pos (by decide)])
      go_upto_region 15 with (fail)
      go_quiet (fail)
      go_wp2
      go_ret
      exact ⟨by rw [r.out]; rfl,(HM'.out _ (by first | exact hbr | exact below_drewN hbr _ | exact below_drewN (below_drewN hbr _) _)).1.bel⟩
     ·have r:=hid (entAt_step d.es q hql (by rw [← HZ.out]; exact HZE.out) (.inr (by rw [← HZ.out,← HY.out]; omega)))
      go_upto_region 15 with (fail)
      go_quiet (fail)
      go_wp2
      go_roundw
      case rel => exact ⟨q + 1,by omega,by go_num,HN.out.trans r.out,by first | exact hbr | exact below_drewN hbr _⟩
      case measure => simp [intOf]; omega
   ·obtain rfl : q = n:=by omega
    have r:=hid (show msgE d = bodyE d.b by rw [R.out,HN.out,show q = d.es.length from HL.out,entAt_end,if_neg (by decide)])
    have hbwr:=(HM'.out _ hbr).1.bel
    go_wp2_with (go_at_call 94; refine HB.out.mono ?_; rintro e w4 ⟨rfl,hb4⟩)
    go_ret
    exact ⟨by rw [r.out]; rfl,hbwr.trans (hb4.mono hbwr.size)⟩
 ·have q1':=hid (show msgE d = u by rw [HE.out,if_pos q1])
  go_wp2_with (go_at_call 93; refine HST.out.mono ?_; rintro e w2 ⟨rfl,hb2⟩; have hbw:=(HM'.out _ hb2).1.bel)
  go_ret
  exact ⟨by rw [q1'.out]; rfl,hbw⟩
end
end Go.Proofs.YtkljbfaemahchaaGreatDoor
