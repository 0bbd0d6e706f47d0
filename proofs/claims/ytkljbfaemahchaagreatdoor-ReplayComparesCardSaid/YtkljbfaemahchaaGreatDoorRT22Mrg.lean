/-
  replay.text of an effect. Conditions: the effect can be read as data; Tabs, ZTab.
-/
import Derived.Test.YtkljbfaemahchaaGreatDoorRT19Mrg
import Derived.Test.YtkljbfaemahchaaGreatDoorRT21Mrg
import Derived.Test.YtkljbfaemahchaaGreatDoorRT8Mrg
import Derived.Test.YtkljbfaemahchaaGreatDoorRT16Mrg
namespace Go.Proofs.YtkljbfaemahchaaGreatDoor
set_option linter.unusedVariables false
set_option linter.unusedSimpArgs false
section
open Go Go.RowKit Go.Shelf
def effT (x : Ef) : ByteArray:=if x.k = 2 then (fldF x.nd x.ca x.bd [if x.un then ⟨#[117,110,100,111]⟩ else ⟨#[100,111]⟩]).1 else x.tx
theorem fldF_bad (node : ByteArray) (call : Int) (d : Val) (ws : List ByteArray) (h : (fldF node call d ws).2 ≠ 0) : (fldF node call d ws).1 = ⟨#[]⟩:=by
 unfold fldF at h ⊢
 repeat' split
 all_goals first
  | rfl
  | (exfalso; simp_all)
def efObj (c : EfC) : Obj:=.cells #[.int .i64 c.k,.string c.nm,.int .i64 c.nu,.string c.tx,.int .i64 c.st.e,.slice c.st.a c.st.n c.st.c,.int .i64 c.rs.e,.slice c.rs.a c.rs.n c.rs.c,.string c.sv,.int .i64 c.ca,.bool c.un,.int .i64 c.bd.k,.int .i64 c.bd.i,.int .i64 c.bd.s,.string c.bd.t,.slice c.bd.la c.bd.ll c.bd.lc,.slice c.bd.fa c.bd.fl c.bd.fc,.string c.nd] 105
set_option maxRecDepth 100000 in
set_option maxHeartbeats 4000000 in
theorem rText_other (c : EfC) (w : World) (hk : c.k ≠ 2) :
 Calls Tryz.prog 73 #[c.v] w fun e w' => e = .returned (.string c.tx) ∧ Below w.heap.size w w':=by
 have HB0:=hid (show Below w.heap.size w (w.alloc (efObj c)) from (Below.refl _ w).alloc (Nat.le_refl _) _)
 have k1 : (c.k != 2) = true:=by simp; exact hk
 have k2 : (c.k == 2) = false:=by simp; exact hk
 clear hk
 obtain ⟨k,nm,nu,tx,⟨e1,a1,n1,c1⟩,⟨e2,a2,n2,c2⟩,sv,ca,un,⟨bk,bi,bs,bt,la,ll,lc,fa,fl,fc⟩,nd⟩:=c
 dsimp only [efObj,EfC.v] at HB0 k1 k2 ⊢
 go_enter Tryz.func73,Tryz.ntmps73
 go_wp2
 go_ret
 exact ⟨rfl,HB0.out⟩
set_option maxRecDepth 100000 in
set_option maxHeartbeats 4000000 in
theorem rText_req (c : EfC) (d : Val) (w : World) (hd : IsVal (· < w.heap.size) w c.bd d) (hT : Tabs w) (hZ : ZTab w) (hk : c.k = 2) :
 Calls Tryz.prog 73 #[c.v] w fun e w' => e = .returned (.string (fldF c.nd c.ca d [if c.un then ⟨#[117,110,100,111]⟩ else ⟨#[100,111]⟩]).1) ∧ Below w.heap.size w w':=by
 have hb0 : Below w.heap.size w (w.alloc (efObj c)):=(Below.refl _ w).alloc (Nat.le_refl _) _
 have HB0:=hid hb0
 have HQ:=hid (reqT_call c.nd c.ca c.un c.bd d (w.alloc (efObj c)) (hd.same fun b q => ⟨Nat.lt_of_lt_of_le q hb0.size,hb0.block b q⟩) (hT.below hb0) (hZ.below hb0))
 have hbad:=fldF_bad c.nd c.ca d [if c.un then ⟨#[117,110,100,111]⟩ else ⟨#[100,111]⟩]
 obtain ⟨q,hq⟩ : ∃ q,q = fldF c.nd c.ca d [if c.un then ⟨#[117,110,100,111]⟩ else ⟨#[100,111]⟩]:=⟨_,rfl⟩
 rw [← hq] at HQ hbad ⊢
 obtain ⟨t,e⟩:=q
 dsimp only at HQ hbad ⊢
 clear hd hT hZ hb0 hq
 obtain ⟨k,nm,nu,tx,⟨e1,a1,n1,c1⟩,⟨e2,a2,n2,c2⟩,sv,ca,un,⟨bk,bi,bs,bt,la,ll,lc,fa,fl,fc⟩,nd⟩:=c
 dsimp only [efObj,EfC.v,VC.v] at HB0 HQ hk ⊢
 subst hk
 by_cases h0 : e = 0
 ·subst h0
  clear hbad
  go_enter Tryz.func73,Tryz.ntmps73
  go_wp2_with (go_at_call 27; refine HQ.out.mono ?_; rintro e w1 ⟨rfl,hb1⟩)
  go_ret
  exact ⟨rfl,HB0.out.trans (hb1.mono HB0.out.size)⟩
 ·have ht : t = ⟨#[]⟩:=hbad h0
  subst ht
  have h1 : (e != 0) = true:=by simp; exact h0
  have h2 : (e == 0) = false:=by simp; exact h0
  clear hbad h0
  go_enter Tryz.func73,Tryz.ntmps73
  go_wp2_with (go_at_call 27; refine HQ.out.mono ?_; rintro e w1 ⟨rfl,hb1⟩)
  go_ret
  exact ⟨rfl,HB0.out.trans (hb1.mono HB0.out.size)⟩
theorem rText_call (c : EfC) (x : Ef) (w : World) (hd : IsEf (· < w.heap.size) w c x) (hT : Tabs w) (hZ : ZTab w) :
 Calls Tryz.prog 73 #[c.v] w fun e w' => e = .returned (.string (effT x)) ∧ Below w.heap.size w w':=by
 unfold effT
 by_cases hk : x.k = 2
 ·rw [if_pos hk,← hd.nd,← hd.ca,← hd.un]
  exact rText_req c x.bd w hd.bd hT hZ (hd.k.trans hk)
 ·rw [if_neg hk,← hd.tx]
  exact rText_other c w (by rw [hd.k]; exact hk)
end
section
open Go Go.RowKit Go.Shelf
attribute [local go_sem ↓] Go.wp_at_zero Go.wp_at_succ
def txtsL (l : List Ef) (name : ByteArray) : List ByteArray:=(l.filter fun x => decide (x.nm.data.toList = name.data.toList)).map effT
theorem txtsL_append (a b : List Ef) (name : ByteArray) : txtsL (a ++ b) name = txtsL a name ++ txtsL b name:=by simp [txtsL]
theorem txtsL_one (x : Ef) (name : ByteArray) : txtsL [x] name = if x.nm.data.toList = name.data.toList then [effT x] else []:=by
 unfold txtsL
 split <;> rename_i h
 ·rw [List.filter_cons_of_pos (by simpa using h)]; rfl
 ·rw [List.filter_cons_of_neg (by simpa using h)]; rfl
theorem txtsL_le (l : List Ef) (name : ByteArray) : (txtsL l name).length ≤ l.length:=by
 unfold txtsL
 rw [List.length_map]
 exact List.length_filter_le _ _
theorem one_new1 (w : World) (n : Nat) (v : Value) (t : TypeId) (hn : n = w.heap.size) : ∀ j u,[v][j]? = some u → (w.alloc (.cells #[v] t)).cell? ((⟨n,0,none⟩ : Addr).add j) = some u:=by subst hn; exact cell_one_new _ _ _
section
attribute [-go_sem] loadCellsFrom storeCells
attribute [local go_sem] lcf0 lcf1 lcf2 lcf3 lcf4 lcf5 lcf6 lcf7 stc0 stc1
set_option maxRecDepth 100000 in
set_option maxHeartbeats 8000000 in
theorem pTexts_call (a : Option Addr) (n c : Nat) (l : List Ef) (name : ByteArray) (w : World) (hl : IsRow efK (· < w.heap.size) w a n c l) (hT : Tabs w) (hZ : ZTab w) :
 Calls Tryz.prog 24 #[.slice a n c,.string name] w fun e w' => ∃ v,e = .returned v ∧ w'.ownsRow w.heap.size 9 1 v (txtsL l name).length ((txtsL l name).map Value.string) ∧ Below w.heap.size w w':=by
 obtain ⟨ti,hi,hz0,hz1,hz2⟩:=info_parts infoStr
 have hbig : n * 248 ≤ 140737488351232:=hl.big
 have HL:=hid hl.len
 have HD:=hid hl
 have HT:=hid hT
 have HZ:=hid hZ
 clear hl hT hZ
 go_enter Tryz.func24,Tryz.ntmps24
 go_wp2
 go_loopw [5,10] (fun vv i wr => ∃ (k : Nat) (v : Value),v = vv ∧ k ≤ n ∧ i = .int .i64 k ∧ wr.ownsRow w.heap.size 9 1 v (txtsL (l.take k) name).length ((txtsL (l.take k) name).map Value.string) ∧ Below w.heap.size w wr) (fun _ i _ => n - (intOf i).toNat)
 case atStart => exact ⟨0,_,rfl,Nat.zero_le _,rfl,World.ownsRow_nil _ _ _ _,Below.refl _ _⟩
 case round =>
  obtain ⟨k,v,rfl,hk,rfl,hown,hbr⟩:=hrel
  have HBR:=hid hbr
  by_cases hlt : k < n
  ·have hkl : k < l.length:=by have:=HL.out; omega
   obtain ⟨b,o,rfl,hb,hx⟩:=HD.out.slot (show 0 < n by omega)
   obtain ⟨x,hxa,hxi⟩:=hx k hkl
   have hld:=ld_ef (o:=o + k * 18) (hxa.same (hbr.block b hb))
   have hst:=fun z hz => st_ef wr z hz x
   have hln:=ldn_ef wr x
   dsimp only [EfC.cs] at hld hst hln
   have hlt' : (k : Int) < (n : Int):=by omega
   have hk0 : (0 : Int) ≤ (k : Int):=by omega
   have HXI:=hid (show IsEf (· < wr.heap.size) wr x l[k] from hxi.same fun b' q => ⟨Nat.lt_of_lt_of_le q hbr.size,hbr.block b' q⟩)
   have HBE:=hid (show Below wr.heap.size wr (wr.alloc (efObj x)) from (Below.refl _ wr).alloc (Nat.le_refl _) _)
   have hyl:=txtsL_le (l.take k) name
   have hcap1 : (txtsL (l.take k) name).length + 1 ≤ maxLen:=by unfold maxLen; rw [List.length_take] at hyl; omega
   have hcap2 : ((txtsL (l.take k) name).length + 1) * 16 ≤ 140737488355328:=by rw [List.length_take] at hyl; omega
   have HOWN:=hid hown
   obtain ⟨bq,hbq⟩ : ∃ bq,(x.nm.toList == name.toList) = bq:=⟨_,rfl⟩
   have HYS:=hid (show txtsL (l.take (k + 1)) name = txtsL (l.take k) name ++ (if bq = true then [effT l[k]] else []) by
    rw [List.take_succ_eq_append_getElem hkl,txtsL_append,← hbq,strEq,HXI.out.nm,txtsL_one]
    simp)
   obtain ⟨ys,hys⟩ : ∃ ys,ys = txtsL (l.take k) name:=⟨_,rfl⟩
   rw [← hys] at HYS HOWN hcap1 hcap2
   clear hx hxa hxi hbr hown hb hyl hys
   cases bq
   ·dsimp only [efObj] at HBE
    simp only [Bool.false_eq_true,if_false,List.append_nil] at HYS
    have hbn : (x.nm.toList != name.toList) = true:=by rw [bne,hbq]; rfl
    go_wp2
    refine ⟨⟨k + 1,_,rfl,by omega,by go_num,?_,HBR.out.trans ((HBE.out).mono HBR.out.size)⟩,by simp [intOf]; omega⟩
    rw [HYS.out]
    exact ownExt HOWN.out HBE.out
   ·simp only [if_true] at HYS
    have hbn : (x.nm.toList != name.toList) = false:=by rw [bne,hbq]; rfl
    obtain ⟨tz,htz⟩ : ∃ tz,tz = effT l[k]:=⟨_,rfl⟩
    rw [← htz] at HYS
    have HTX:=hid (show Calls Tryz.prog 73 #[x.v] (wr.alloc (efObj x)) fun e w' => e = .returned (.string tz) ∧ Below (wr.alloc (efObj x)).heap.size (wr.alloc (efObj x)) w' from htz ▸ rText_call x l[k] (wr.alloc (efObj x)) (HXI.out.same fun b q => ⟨Nat.lt_of_lt_of_le q HBE.out.size,HBE.out.block b q⟩) (HT.out.below (HBR.out.trans (HBE.out.mono HBR.out.size))) (HZ.out.below (HBR.out.trans (HBE.out.mono HBR.out.size))))
    clear htz HXI
    dsimp only [efObj,EfC.v] at HBE HTX
    go_wp2_with (first
     | (go_at_call 73; refine HTX.out.mono ?_; rintro e w1 ⟨rfl,hb1⟩)
     | (at_builtin; refine wpList_append_own_at _ (by rfl) _ _ 37 (by rfl) w.heap.size 9 ti _ 1 16 Tryz.underlying37 hi hz0 hz1 hz2 rfl (by omega) _ _ _ (by rfl) ((ownExt HOWN.out (HBE.out.trans (hb1.mono HBE.out.size))).alloc _) ⟨w1.heap.size,0,none⟩ 1 1 [.string tz] (by rfl) (by rfl) (cell_one_new _ _ _) (by simp [Value.oneCell']) hcap1 hcap2 (by have:=HBR.out.size; have:=(HBE.out.trans (hb1.mono HBE.out.size)).size; simp at *; omega) ?_; intro v' w5 hown' hgrow hnil hloc; have HO2:=hid hown'; have HG:=hid hgrow; clear hown' hgrow hnil hloc))
    have hst : Below w.heap.size w w1:=HBR.out.trans ((HBE.out.trans (hb1.mono HBE.out.size)).mono HBR.out.size)
    refine ⟨⟨k + 1,_,rfl,by omega,by go_num,?_,(hst.alloc hst.size _).grown HG.out (by have:=hst.size; simp at this ⊢; omega) (fun r e => own_ge2 HOWN.out r e)⟩,by simp [intOf]; omega⟩
    rw [HYS.out]
    have h:=HO2.out
    simp only [List.map_append,List.map_cons,List.map_nil,List.length_append,List.length_cons,List.length_nil] at h ⊢
    exact h
  ·obtain rfl : k = n:=by omega
   clear hlt
   rw [List.take_of_length_le (by have:=HL.out; omega)] at hown
   have HOWN:=hid hown
   clear hown hbr
   go_wp2
   go_ret
   exact ⟨_,rfl,HOWN.out,HBR.out⟩
end
section
attribute [-go_sem] loadCellsFrom storeCells
attribute [local go_sem] lcf0 lcf1 lcf2 lcf3 lcf4 lcf5 lcf6 lcf7 stc0 stc1
set_option maxRecDepth 100000 in
set_option maxHeartbeats 8000000 in
theorem lTexts_call (a : Option Addr) (n c : Nat) (l : List Ef) (name : ByteArray) (w : World) (hl : IsRow efK (· < w.heap.size) w a n c l) (hT : Tabs w) (hZ : ZTab w) :
 Calls Tryz.prog 25 #[.slice a n c,.string name] w fun e w' => ∃ v,e = .returned v ∧ w'.ownsRow w.heap.size 9 1 v (txtsL l name).length ((txtsL l name).map Value.string) ∧ Below w.heap.size w w':=by
 obtain ⟨ti,hi,hz0,hz1,hz2⟩:=info_parts infoStr
 have hbig : n * 248 ≤ 140737488351232:=hl.big
 have HL:=hid hl.len
 have HD:=hid hl
 have HT:=hid hT
 have HZ:=hid hZ
 clear hl hT hZ
 go_enter Tryz.func25,Tryz.ntmps25
 go_wp2
 go_loopw [5,6] (fun vv i wr => ∃ (k : Nat) (v : Value),v = vv ∧ k ≤ n ∧ i = .int .i64 k ∧ wr.ownsRow w.heap.size 9 1 v (txtsL (l.take k) name).length ((txtsL (l.take k) name).map Value.string) ∧ Below w.heap.size w wr) (fun _ i _ => n - (intOf i).toNat)
 case atStart => exact ⟨0,_,rfl,Nat.zero_le _,rfl,World.ownsRow_nil _ _ _ _,Below.refl _ _⟩
 case round =>
  obtain ⟨k,v,rfl,hk,rfl,hown,hbr⟩:=hrel
  have HBR:=hid hbr
  by_cases hlt : k < n
  ·have hkl : k < l.length:=by have:=HL.out; omega
   obtain ⟨b,o,rfl,hb,hx⟩:=HD.out.slot (show 0 < n by omega)
   obtain ⟨x,hxa,hxi⟩:=hx k hkl
   have hld:=ld_ef (o:=o + k * 18) (hxa.same (hbr.block b hb))
   have hst:=fun z hz => st_ef wr z hz x
   have hln:=ldn_ef wr x
   dsimp only [EfC.cs] at hld hst hln
   have hlt' : (k : Int) < (n : Int):=by omega
   have hk0 : (0 : Int) ≤ (k : Int):=by omega
   have HXI:=hid (show IsEf (· < wr.heap.size) wr x l[k] from hxi.same fun b' q => ⟨Nat.lt_of_lt_of_le q hbr.size,hbr.block b' q⟩)
   have HBE:=hid (show Below wr.heap.size wr (wr.alloc (efObj x)) from (Below.refl _ wr).alloc (Nat.le_refl _) _)
   have hyl:=txtsL_le (l.take k) name
   have hcap1 : (txtsL (l.take k) name).length + 1 ≤ maxLen:=by unfold maxLen; rw [List.length_take] at hyl; omega
   have hcap2 : ((txtsL (l.take k) name).length + 1) * 16 ≤ 140737488355328:=by rw [List.length_take] at hyl; omega
   have HOWN:=hid hown
   obtain ⟨bq,hbq⟩ : ∃ bq,(x.nm.toList == name.toList) = bq:=⟨_,rfl⟩
   have HYS:=hid (show txtsL (l.take (k + 1)) name = txtsL (l.take k) name ++ (if bq = true then [effT l[k]] else []) by
    rw [List.take_succ_eq_append_getElem hkl,txtsL_append,← hbq,strEq,HXI.out.nm,txtsL_one]
    simp)
   obtain ⟨ys,hys⟩ : ∃ ys,ys = txtsL (l.take k) name:=⟨_,rfl⟩
   rw [← hys] at HYS HOWN hcap1 hcap2
   clear hx hxa hxi hbr hown hb hyl hys
   cases bq
   ·dsimp only [efObj] at HBE
    simp only [Bool.false_eq_true,if_false,List.append_nil] at HYS
    have hbn : (x.nm.toList != name.toList) = true:=by rw [bne,hbq]; rfl
    go_wp2
    refine ⟨⟨k + 1,_,rfl,by omega,by go_num,?_,HBR.out.trans ((HBE.out).mono HBR.out.size)⟩,by simp [intOf]; omega⟩
    rw [HYS.out]
    exact ownExt HOWN.out HBE.out
   ·simp only [if_true] at HYS
    have hbn : (x.nm.toList != name.toList) = false:=by rw [bne,hbq]; rfl
    obtain ⟨tz,htz⟩ : ∃ tz,tz = effT l[k]:=⟨_,rfl⟩
    rw [← htz] at HYS
    have HQ:=hid (reqT_call x.nd x.ca x.un x.bd l[k].bd (wr.alloc (efObj x)) (HXI.out.bd.same fun b q => ⟨Nat.lt_of_lt_of_le q HBE.out.size,HBE.out.block b q⟩) (HT.out.below (HBR.out.trans (HBE.out.mono HBR.out.size))) (HZ.out.below (HBR.out.trans (HBE.out.mono HBR.out.size))))
    have HI:=hid HXI.out
    clear HXI
    dsimp only [efObj,EfC.v,VC.v] at HBE HQ
    by_cases hk2 : x.k = 2
    ·have k1 : (x.k == 2) = true:=by simp; exact hk2
     have HTZ:=hid (show tz = (fldF x.nd x.ca l[k].bd [if x.un then ⟨#[117,110,100,111]⟩ else ⟨#[100,111]⟩]).1 by rw [htz,effT,if_pos (HI.out.k ▸ hk2),HI.out.nd,HI.out.ca,HI.out.un])
     clear hk2 htz HI
     obtain ⟨q,hq⟩ : ∃ q,q = fldF x.nd x.ca l[k].bd [if x.un then ⟨#[117,110,100,111]⟩ else ⟨#[100,111]⟩]:=⟨_,rfl⟩
     rw [← hq] at HQ HTZ
     obtain ⟨q1,q2⟩:=q
     dsimp only at HQ HTZ
     clear hq
     have hq1:=HTZ.out
     subst hq1
     clear HTZ
     go_wp2_with (first
      | (go_at_call 27; refine HQ.out.mono ?_; rintro e w1 ⟨rfl,hb1⟩)
      | (at_builtin; refine wpList_append_own_at _ (by rfl) _ _ 37 (by rfl) w.heap.size 9 ti _ 1 16 Tryz.underlying37 hi hz0 hz1 hz2 rfl (by omega) _ _ _ (by rfl) ((ownExt HOWN.out (HBE.out.trans (hb1.mono HBE.out.size))).alloc _) ⟨w1.heap.size,0,none⟩ 1 1 [.string tz] (by rfl) (by rfl) (cell_one_new _ _ _) (by simp [Value.oneCell']) hcap1 hcap2 (by have:=HBR.out.size; have:=(HBE.out.trans (hb1.mono HBE.out.size)).size; simp at *; omega) ?_; intro v' w5 hown' hgrow hnil hloc; have HO2:=hid hown'; have HG:=hid hgrow; clear hown' hgrow hnil hloc))
     have hst : Below w.heap.size w w1:=HBR.out.trans ((HBE.out.trans (hb1.mono HBE.out.size)).mono HBR.out.size)
     refine ⟨⟨k + 1,_,rfl,by omega,by go_num,?_,(hst.alloc hst.size _).grown HG.out (by have:=hst.size; simp at this ⊢; omega) (fun r e => own_ge2 HOWN.out r e)⟩,by simp [intOf]; omega⟩
     rw [HYS.out]
     have h:=HO2.out
     simp only [List.map_append,List.map_cons,List.map_nil,List.length_append,List.length_cons,List.length_nil] at h ⊢
     exact h
    ·have k1 : (x.k == 2) = false:=by simp; exact hk2
     have HTZ:=hid (show tz = x.tx by rw [htz,effT,if_neg (fun h => hk2 (HI.out.k.trans h)),HI.out.tx])
     have hq1:=HTZ.out
     subst hq1
     clear hk2 htz HTZ HI HQ
     go_wp2_with (at_builtin; refine wpList_append_own_at _ (by rfl) _ _ 37 (by rfl) w.heap.size 9 ti _ 1 16 Tryz.underlying37 hi hz0 hz1 hz2 rfl (by omega) _ _ _ (by rfl) ((ownExt HOWN.out (HBE.out)).alloc _) ⟨wr.heap.size + 1,0,none⟩ 1 1 [.string x.tx] (by rfl) (by rfl) (one_new1 _ _ _ _ (by simp)) (by simp [Value.oneCell']) hcap1 hcap2 (by have:=HBR.out.size; have:=(HBE.out).size; simp at *; omega) ?_; intro v' w5 hown' hgrow hnil hloc; have HO2:=hid hown'; have HG:=hid hgrow; clear hown' hgrow hnil hloc)
     have hst : Below w.heap.size w (wr.alloc (.cells #[.int .i64 x.k,.string x.nm,.int .i64 x.nu,.string x.tx,.int .i64 x.st.e,.slice x.st.a x.st.n x.st.c,.int .i64 x.rs.e,.slice x.rs.a x.rs.n x.rs.c,.string x.sv,.int .i64 x.ca,.bool x.un,.int .i64 x.bd.k,.int .i64 x.bd.i,.int .i64 x.bd.s,.string x.bd.t,.slice x.bd.la x.bd.ll x.bd.lc,.slice x.bd.fa x.bd.fl x.bd.fc,.string x.nd] 105)):=HBR.out.trans ((HBE.out).mono HBR.out.size)
     refine ⟨⟨k + 1,_,rfl,by omega,by go_num,?_,(hst.alloc hst.size _).grown HG.out (by have:=hst.size; simp at this ⊢; omega) (fun r e => own_ge2 HOWN.out r e)⟩,by simp [intOf]; omega⟩
     rw [HYS.out]
     have h:=HO2.out
     simp only [List.map_append,List.map_cons,List.map_nil,List.length_append,List.length_cons,List.length_nil] at h ⊢
     exact h
  ·obtain rfl : k = n:=by omega
   clear hlt
   rw [List.take_of_length_le (by have:=HL.out; omega)] at hown
   have HOWN:=hid hown
   clear hown hbr
   go_wp2
   go_ret
   exact ⟨_,rfl,HOWN.out,HBR.out⟩
end
end
end Go.Proofs.YtkljbfaemahchaaGreatDoor
