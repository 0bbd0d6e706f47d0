/-
  engine.fields at whatever arguments: the text of words and a value, or the first error. Conditions: the value can be read as data; the words' slice lies in a block of its own; Tabs, ZTab.
-/
import Derived.Test.YtkljbfaemahchaaGreatDoorRT15Mrg
import Derived.Test.YtkljbfaemahchaaGreatDoorRT18Mrg
namespace Go.Proofs.YtkljbfaemahchaaGreatDoor
set_option linter.unusedVariables false
set_option linter.unusedSimpArgs false
section
open Go Go.RowKit Go.Shelf
attribute [local go_sem ↓] Go.wp_at_zero Go.wp_at_succ
def fldJ (node : ByteArray) (call : Int) (t : ByteArray) (ws : List ByteArray) : ByteArray:=joinB ([node,itoaB call] ++ ws ++ [t]) ⟨#[32]⟩
def fldF (node : ByteArray) (call : Int) (d : Val) (ws : List ByteArray) : ByteArray × Int :=
 if isNameB node = false then (⟨#[]⟩,12) else if call < 1 ∨ 999999999999999 < call then (⟨#[]⟩,2) else if isNullV d = false ∧ kindV d ≠ 9 then (⟨#[]⟩,18) else
 if (litF d).2 ≠ 0 then (⟨#[]⟩,(litF d).2) else if 65536 < (fldJ node call (litF d).1 ws).size then (⟨#[]⟩,5) else (fldJ node call (litF d).1 ws,0)
set_option maxRecDepth 100000 in
set_option maxHeartbeats 8000000 in
theorem fldG_name (node : ByteArray) (call : Int) (c : VC) (v : Value) (w : World) (hnm : isNameB node = false) :
 Calls Tryz.prog 75 #[.string node,.int .i64 call,c.v,v] w fun e w' => e = .returned (.tuple #[.string ⟨#[]⟩,.int .i64 12]) ∧ Below w.heap.size w w':=by
 have HB0:=hid (show Below w.heap.size w (w.alloc (vObj c)) from (Below.refl _ w).alloc (Nat.le_refl _) _)
 have HNM:=hid (fun w => cName_call node w)
 rw [hnm] at HNM
 clear hnm
 obtain ⟨k,i,s,tt,la,ll,lc,fa,fl,fc⟩:=c
 dsimp only [vObj,VC.v] at HB0 ⊢
 go_enter Tryz.func75,Tryz.ntmps75
 go_wp2_with (go_at_call 132; refine (HNM.out _).mono ?_; rintro e w' ⟨rfl,rfl⟩)
 exact bodyPost_ret (v:=.tuple #[.string ⟨#[]⟩,.int .i64 12]) (by simp [results,Tryz.results75,go_sem]) rfl ⟨rfl,HB0.out⟩
set_option maxRecDepth 100000 in
set_option maxHeartbeats 8000000 in
theorem fldG_low (node : ByteArray) (call : Int) (c : VC) (v : Value) (w : World) (hnm : isNameB node = true) (hc : call < 1) :
 Calls Tryz.prog 75 #[.string node,.int .i64 call,c.v,v] w fun e w' => e = .returned (.tuple #[.string ⟨#[]⟩,.int .i64 2]) ∧ Below w.heap.size w w':=by
 have HB0:=hid (show Below w.heap.size w (w.alloc (vObj c)) from (Below.refl _ w).alloc (Nat.le_refl _) _)
 have HNM:=hid (fun w => cName_call node w)
 rw [hnm] at HNM
 clear hnm
 obtain ⟨k,i,s,tt,la,ll,lc,fa,fl,fc⟩:=c
 dsimp only [vObj,VC.v] at HB0 ⊢
 go_enter Tryz.func75,Tryz.ntmps75
 go_wp2_with (go_at_call 132; refine (HNM.out _).mono ?_; rintro e w' ⟨rfl,rfl⟩)
 exact bodyPost_ret (v:=.tuple #[.string ⟨#[]⟩,.int .i64 2]) (by simp [results,Tryz.results75,go_sem]) rfl ⟨rfl,HB0.out⟩
set_option maxRecDepth 100000 in
set_option maxHeartbeats 8000000 in
theorem fldG_high (node : ByteArray) (call : Int) (c : VC) (v : Value) (w : World) (hnm : isNameB node = true) (hc : ¬ call < 1) (hc2 : 999999999999999 < call) :
 Calls Tryz.prog 75 #[.string node,.int .i64 call,c.v,v] w fun e w' => e = .returned (.tuple #[.string ⟨#[]⟩,.int .i64 2]) ∧ Below w.heap.size w w':=by
 have HB0:=hid (show Below w.heap.size w (w.alloc (vObj c)) from (Below.refl _ w).alloc (Nat.le_refl _) _)
 have HNM:=hid (fun w => cName_call node w)
 rw [hnm] at HNM
 clear hnm
 obtain ⟨k,i,s,tt,la,ll,lc,fa,fl,fc⟩:=c
 dsimp only [vObj,VC.v] at HB0 ⊢
 go_enter Tryz.func75,Tryz.ntmps75
 go_wp2_with (go_at_call 132; refine (HNM.out _).mono ?_; rintro e w' ⟨rfl,rfl⟩)
 exact bodyPost_ret (v:=.tuple #[.string ⟨#[]⟩,.int .i64 2]) (by simp [results,Tryz.results75,go_sem]) rfl ⟨rfl,HB0.out⟩
set_option maxRecDepth 100000 in
set_option maxHeartbeats 8000000 in
theorem fldG_type (node : ByteArray) (call : Int) (c : VC) (v : Value) (w : World) (hnm : isNameB node = true) (hc : ¬ call < 1) (hc2 : ¬ 999999999999999 < call) (hnn : isNullB c.k c.i c.s c.t c.ll c.fl = false) (hk : ¬ c.k = 9) :
 Calls Tryz.prog 75 #[.string node,.int .i64 call,c.v,v] w fun e w' => e = .returned (.tuple #[.string ⟨#[]⟩,.int .i64 18]) ∧ Below w.heap.size w w':=by
 have HB0:=hid (show Below w.heap.size w (w.alloc (vObj c)) from (Below.refl _ w).alloc (Nat.le_refl _) _)
 have HNM:=hid (fun w => cName_call node w)
 rw [hnm] at HNM
 have HIN:=hid (fun w => isNull_call c.k c.i c.s c.t c.la c.ll c.lc c.fa c.fl c.fc w)
 rw [hnn] at HIN
 have hk9 : (c.k == 9) = false:=by simp; exact hk
 have HX0:=hid (heap_alloc_new w (vObj c))
 have HSIX:=hid (fun (w' : World) (h : w'.heap[w.heap.size]? = some (vObj c)) => sixOf h)
 clear hnm hnn hk
 obtain ⟨k,i,s,tt,la,ll,lc,fa,fl,fc⟩:=c
 dsimp only [vObj,VC.v] at HIN HSIX HX0 HB0 hk9 ⊢
 obtain ⟨j1,j2,j3,j4,j5,j6⟩:=HSIX.out _ HX0.out
 go_enter Tryz.func75,Tryz.ntmps75
 go_wp2_with (first
  | (go_at_call 132; refine (HNM.out _).mono ?_; rintro e w' ⟨rfl,rfl⟩)
  | (go_at_call 96; refine (HIN.out _).mono ?_; rintro e wn ⟨rfl,hbn⟩; have HBN:=hid (HB0.out.trans (hbn.mono HB0.out.size)); obtain ⟨m1,m2,m3,m4,m5,m6⟩:=HSIX.out _ (heapExt hbn HX0.out); clear hbn))
 exact bodyPost_ret (v:=.tuple #[.string ⟨#[]⟩,.int .i64 18]) (by simp [results,Tryz.results75,go_sem]) rfl ⟨rfl,HBN.out⟩
set_option maxRecDepth 100000 in
set_option maxHeartbeats 8000000 in
theorem fldG_lit_null (node : ByteArray) (call : Int) (c : VC) (d : Val) (v : Value) (w : World) (hd : IsVal (· < w.heap.size) w c d) (hT : Tabs w) (hZ : ZTab w) (hnm : isNameB node = true) (hc : ¬ call < 1) (hc2 : ¬ 999999999999999 < call) (hnn : isNullB c.k c.i c.s c.t c.ll c.fl = true) (hl : (litF d).2 ≠ 0) :
 Calls Tryz.prog 75 #[.string node,.int .i64 call,c.v,v] w fun e w' => e = .returned (.tuple #[.string ⟨#[]⟩,.int .i64 (litF d).2]) ∧ Below w.heap.size w w':=by
 have hb0 : Below w.heap.size w (w.alloc (vObj c)):=(Below.refl _ w).alloc (Nat.le_refl _) _
 have HB0:=hid hb0
 have HNM:=hid (fun w => cName_call node w)
 rw [hnm] at HNM
 have HIN:=hid (fun w => isNull_call c.k c.i c.s c.t c.la c.ll c.lc c.fa c.fl c.fc w)
 rw [hnn] at HIN
 have HX0:=hid (heap_alloc_new w (vObj c))
 have HSIX:=hid (fun (w' : World) (h : w'.heap[w.heap.size]? = some (vObj c)) => sixOf h)
 have HL:=hid (fun (w' : World) (h : Below w.heap.size w w') => litG_call c d w' (hd.same fun b q => ⟨Nat.lt_of_lt_of_le q h.size,h.block b q⟩) (hT.below h) (hZ.below h))
 obtain ⟨q,hq⟩ : ∃ q,q = litF d:=⟨_,rfl⟩
 rw [← hq] at HL hl ⊢
 obtain ⟨t,x⟩:=q
 dsimp only at HL hl ⊢
 have hx0 : (x == 0) = false:=by simp; exact hl
 have hx1 : (x != 0) = true:=by simp; exact hl
 clear hd hT hZ hb0 hnm hnn hq hl
 obtain ⟨k,i,s,tt,la,ll,lc,fa,fl,fc⟩:=c
 dsimp only [vObj,VC.v] at HL HIN HSIX HX0 HB0 ⊢
 obtain ⟨j1,j2,j3,j4,j5,j6⟩:=HSIX.out _ HX0.out
 go_enter Tryz.func75,Tryz.ntmps75
 go_wp2_with (first
  | (go_at_call 42; refine (HL.out _ HBN.out).mono ?_; rintro e w1 ⟨rfl,hb1⟩; have HB1:=hid (HBN.out.trans (hb1.mono HBN.out.size)); clear hb1)
  | (go_at_call 132; refine (HNM.out _).mono ?_; rintro e w' ⟨rfl,rfl⟩)
  | (go_at_call 96; refine (HIN.out _).mono ?_; rintro e wn ⟨rfl,hbn⟩; have HBN:=hid (HB0.out.trans (hbn.mono HB0.out.size)); have HHN:=hid hbn; obtain ⟨m1,m2,m3,m4,m5,m6⟩:=HSIX.out _ (heapExt hbn HX0.out); clear hbn))
 exact bodyPost_ret (v:=.tuple #[.string ⟨#[]⟩,.int .i64 x]) (by simp [results,Tryz.results75,go_sem]) rfl ⟨rfl,HB1.out⟩
set_option maxRecDepth 100000 in
set_option maxHeartbeats 8000000 in
theorem fldG_ok_null1 (node : ByteArray) (call : Int) (c : VC) (d : Val) (x : ByteArray) (hx : x.size ≤ 20) (g : Nat) (w : World) (hg : w.heap[g]? = some (.cells #[.string x] 9)) (hd : IsVal (· < w.heap.size) w c d) (hT : Tabs w) (hZ : ZTab w) (hnm : isNameB node = true) (hc : ¬ call < 1) (hc2 : ¬ 999999999999999 < call) (hnn : isNullB c.k c.i c.s c.t c.ll c.fl = true) (hl : (litF d).2 = 0) :
 Calls Tryz.prog 75 #[.string node,.int .i64 call,c.v,.slice (some ⟨g,0,none⟩) 1 1] w fun e w' => e = .returned (.tuple #[.string (if 65536 < (fldJ node call (litF d).1 [x]).size then ⟨#[]⟩ else fldJ node call (litF d).1 [x]),.int .i64 (if 65536 < (fldJ node call (litF d).1 [x]).size then 5 else 0)]) ∧ Below w.heap.size w w':=by
 obtain ⟨ti,hif,hz0,hz1,hz2⟩:=info_parts infoStr
 have hb0 : Below w.heap.size w (w.alloc (vObj c)):=(Below.refl _ w).alloc (Nat.le_refl _) _
 have HB0:=hid hb0
 have HNM:=hid (fun w => cName_call node w)
 rw [hnm] at HNM
 have HIN:=hid (fun w => isNull_call c.k c.i c.s c.t c.la c.ll c.lc c.fa c.fl c.fc w)
 rw [hnn] at HIN
 have HX0:=hid (heap_alloc_new w (vObj c))
 have HSIX:=hid (fun (w' : World) (h : w'.heap[w.heap.size]? = some (vObj c)) => sixOf h)
 have HL:=hid (fun (w' : World) (h : Below w.heap.size w w') => litG_call c d w' (hd.same fun b q => ⟨Nat.lt_of_lt_of_le q h.size,h.block b q⟩) (hT.below h) (hZ.below h))
 have htz:=litF_size d
 obtain ⟨q,hq⟩ : ∃ q,q = litF d:=⟨_,rfl⟩
 rw [← hq] at HL hl htz ⊢
 obtain ⟨t,z⟩:=q
 dsimp only at HL hl htz ⊢
 subst hl
 have hnz : node.size ≤ 32:=isName_len hnm
 have HI:=hid (fun (w' : World) (h : Below w.heap.size w w') => itoa_call call ⟨by omega,by omega⟩ w' (hT.below h))
 have hiz:=itoaB_size call ⟨by omega,by omega⟩
 have HG:=hid hg
 have HGL:=hid (ltOf hg)
 obtain ⟨ic,hic⟩ : ∃ ic,ic = itoaB call:=⟨_,rfl⟩
 rw [← hic] at HI hiz
 have hJ : fldJ node call t [x] = joinB [node,ic,x,t] ⟨#[32]⟩:=by rw [hic]; rfl
 rw [hJ]
 have HXL:=hid (show ∀ a ∈ [node,ic,x,t],a.data.toList.length ≤ 65536 by
  intro a ha
  simp only [List.mem_cons,List.not_mem_nil,or_false] at ha
  rw [blen]
  rcases ha with rfl | rfl | rfl | rfl <;> omega)
 obtain ⟨J,hJd⟩ : ∃ J,J = joinB [node,ic,x,t] ⟨#[32]⟩:=⟨_,rfl⟩
 have HJD:=hid hJd
 rw [← hJd]
 clear hd hT hZ hb0 hnm hnn hg hq hic hJ hJd htz hnz hiz hx
 by_cases hlong : 65536 < J.size
 ·rw [if_pos hlong,if_pos hlong]
  have hlong' : (65536 : Int) < (J.size : Int):=by omega
  clear hlong
  obtain ⟨k,i,s,tt,la,ll,lc,fa,fl,fc⟩:=c
  dsimp only [vObj,VC.v] at HL HIN HSIX HX0 HB0 ⊢
  obtain ⟨j1,j2,j3,j4,j5,j6⟩:=HSIX.out _ HX0.out
  go_enter Tryz.func75,Tryz.ntmps75
  go_wp2_with (first
   | (go_at_call 90; refine (HJ.out _ (Below.refl _ _)).mono ?_; rintro e w4 ⟨rfl,hb4⟩; rw [← HJD.out])
   | (at_builtin; refine wpList_append_lies _ (by rfl) _ _ 37 (by rfl) w.heap.size 9 ti _ 1 16 Tryz.underlying37 hif hz0 hz1 hz2 rfl (by omega) (.slice (some ⟨g1,0,none⟩) (2 + 1) cap1) (2 + 1) _ (by rfl) (hown1.alloc _) ⟨w2.heap.size,0,none⟩ 1 1 [.string t] (by rfl) (by rfl) (World.news_of_block (heap_alloc_new w2 _)) (by simp [Value.oneCell']) (by omega) (by decide) (by decide) (by have:=HB2.out.size; have:=hgrow1.size; simp at *; omega) _ rfl ?_; intro g2 cap2 w3 hown2 hgrow2 hloc2 hlt2; have HJ:=hid (strRow_join (xs:=[node,ic,x,t]) hown2 rfl (by omega) 65536 HXL.out ⟨#[32]⟩ (by decide)).choose_spec.choose_spec.2)
   | (at_builtin; refine wpList_append_lies _ (by rfl) _ _ 37 (by rfl) w.heap.size 9 ti _ 1 16 Tryz.underlying37 hif hz0 hz1 hz2 rfl (by omega) (.slice (some ⟨w5.heap.size,0,none⟩) 2 2) 2 [.string node,.string ic] (by rfl) (own_two (heap_alloc_new w5 _) HB2.out.size) ⟨g,0,none⟩ 1 1 [.string x] (by rfl) (by rfl) (World.news_of_block (heapAlloc _ HG2.out)) (by simp [Value.oneCell']) (by omega) (by decide) (by decide) (by have:=HB2.out.size; simp; omega) _ rfl ?_; intro g1 cap1 w2 hown1 hgrow1 hloc1 hlt1)
   | (go_at_call 64; refine (HI.out _ HB1.out).mono ?_; rintro e w5 ⟨rfl,hb5⟩; have HG2:=hid (heapExt hb5 HG1.out); have HB2:=hid (HB1.out.trans (hb5.mono HB1.out.size)); clear hb5)
   | (go_at_call 42; refine (HL.out _ HBN.out).mono ?_; rintro e w1 ⟨rfl,hb1⟩; have HG1:=hid (heapExt hb1 (heapExt HHN.out (heapAlloc _ HG.out))); have HB1:=hid (HBN.out.trans (hb1.mono HBN.out.size)); clear hb1)
   | (go_at_call 132; refine (HNM.out _).mono ?_; rintro e w' ⟨rfl,rfl⟩)
   | (go_at_call 96; refine (HIN.out _).mono ?_; rintro e wn ⟨rfl,hbn⟩; have HBN:=hid (HB0.out.trans (hbn.mono HB0.out.size)); have HHN:=hid hbn; obtain ⟨m1,m2,m3,m4,m5,m6⟩:=HSIX.out _ (heapExt hbn HX0.out); clear hbn))
  refine bodyPost_ret (v:=.tuple #[.string ⟨#[]⟩,.int .i64 5]) (by simp [results,Tryz.results75,go_sem]) rfl ⟨rfl,?_⟩
  have a2:=HB2.out.alloc HB2.out.size (.cells #[.string node,.string ic] 9)
  have a3:=a2.grown hgrow1 (by have:=a2.size; exact this) (fun r hr => by have e:=Option.some.inj hr; have h1:=HB2.out.size; have e2 : w5.heap.size = r:=e; omega)
  have a4:=a3.alloc a3.size (.cells #[.string t] 9)
  have a5:=a4.grown hgrow2 (by have:=a4.size; exact this) (fun r hr => own_ge2 hown1 r hr)
  exact a5.trans (hb4.mono a5.size)
 ·rw [if_neg hlong,if_neg hlong]
  have hlong' : ¬ (65536 : Int) < (J.size : Int):=by omega
  clear hlong
  obtain ⟨k,i,s,tt,la,ll,lc,fa,fl,fc⟩:=c
  dsimp only [vObj,VC.v] at HL HIN HSIX HX0 HB0 ⊢
  obtain ⟨j1,j2,j3,j4,j5,j6⟩:=HSIX.out _ HX0.out
  go_enter Tryz.func75,Tryz.ntmps75
  go_wp2_with (first
   | (go_at_call 90; refine (HJ.out _ (Below.refl _ _)).mono ?_; rintro e w4 ⟨rfl,hb4⟩; rw [← HJD.out])
   | (at_builtin; refine wpList_append_lies _ (by rfl) _ _ 37 (by rfl) w.heap.size 9 ti _ 1 16 Tryz.underlying37 hif hz0 hz1 hz2 rfl (by omega) (.slice (some ⟨g1,0,none⟩) (2 + 1) cap1) (2 + 1) _ (by rfl) (hown1.alloc _) ⟨w2.heap.size,0,none⟩ 1 1 [.string t] (by rfl) (by rfl) (World.news_of_block (heap_alloc_new w2 _)) (by simp [Value.oneCell']) (by omega) (by decide) (by decide) (by have:=HB2.out.size; have:=hgrow1.size; simp at *; omega) _ rfl ?_; intro g2 cap2 w3 hown2 hgrow2 hloc2 hlt2; have HJ:=hid (strRow_join (xs:=[node,ic,x,t]) hown2 rfl (by omega) 65536 HXL.out ⟨#[32]⟩ (by decide)).choose_spec.choose_spec.2)
   | (at_builtin; refine wpList_append_lies _ (by rfl) _ _ 37 (by rfl) w.heap.size 9 ti _ 1 16 Tryz.underlying37 hif hz0 hz1 hz2 rfl (by omega) (.slice (some ⟨w5.heap.size,0,none⟩) 2 2) 2 [.string node,.string ic] (by rfl) (own_two (heap_alloc_new w5 _) HB2.out.size) ⟨g,0,none⟩ 1 1 [.string x] (by rfl) (by rfl) (World.news_of_block (heapAlloc _ HG2.out)) (by simp [Value.oneCell']) (by omega) (by decide) (by decide) (by have:=HB2.out.size; simp; omega) _ rfl ?_; intro g1 cap1 w2 hown1 hgrow1 hloc1 hlt1)
   | (go_at_call 64; refine (HI.out _ HB1.out).mono ?_; rintro e w5 ⟨rfl,hb5⟩; have HG2:=hid (heapExt hb5 HG1.out); have HB2:=hid (HB1.out.trans (hb5.mono HB1.out.size)); clear hb5)
   | (go_at_call 42; refine (HL.out _ HBN.out).mono ?_; rintro e w1 ⟨rfl,hb1⟩; have HG1:=hid (heapExt hb1 (heapExt HHN.out (heapAlloc _ HG.out))); have HB1:=hid (HBN.out.trans (hb1.mono HBN.out.size)); clear hb1)
   | (go_at_call 132; refine (HNM.out _).mono ?_; rintro e w' ⟨rfl,rfl⟩)
   | (go_at_call 96; refine (HIN.out _).mono ?_; rintro e wn ⟨rfl,hbn⟩; have HBN:=hid (HB0.out.trans (hbn.mono HB0.out.size)); have HHN:=hid hbn; obtain ⟨m1,m2,m3,m4,m5,m6⟩:=HSIX.out _ (heapExt hbn HX0.out); clear hbn))
  refine bodyPost_ret (v:=.tuple #[.string J,.int .i64 0]) (by simp [results,Tryz.results75,go_sem]) rfl ⟨rfl,?_⟩
  have a2:=HB2.out.alloc HB2.out.size (.cells #[.string node,.string ic] 9)
  have a3:=a2.grown hgrow1 (by have:=a2.size; exact this) (fun r hr => by have e:=Option.some.inj hr; have h1:=HB2.out.size; have e2 : w5.heap.size = r:=e; omega)
  have a4:=a3.alloc a3.size (.cells #[.string t] 9)
  have a5:=a4.grown hgrow2 (by have:=a4.size; exact this) (fun r hr => own_ge2 hown1 r hr)
  exact a5.trans (hb4.mono a5.size)
set_option maxRecDepth 100000 in
set_option maxHeartbeats 8000000 in
theorem fldG_lit_rec (node : ByteArray) (call : Int) (c : VC) (d : Val) (v : Value) (w : World) (hd : IsVal (· < w.heap.size) w c d) (hT : Tabs w) (hZ : ZTab w) (hnm : isNameB node = true) (hc : ¬ call < 1) (hc2 : ¬ 999999999999999 < call) (hnn : isNullB c.k c.i c.s c.t c.ll c.fl = false) (hk : c.k = 9) (hl : (litF d).2 ≠ 0) :
 Calls Tryz.prog 75 #[.string node,.int .i64 call,c.v,v] w fun e w' => e = .returned (.tuple #[.string ⟨#[]⟩,.int .i64 (litF d).2]) ∧ Below w.heap.size w w':=by
 have hb0 : Below w.heap.size w (w.alloc (vObj c)):=(Below.refl _ w).alloc (Nat.le_refl _) _
 have HB0:=hid hb0
 have HNM:=hid (fun w => cName_call node w)
 rw [hnm] at HNM
 have HIN:=hid (fun w => isNull_call c.k c.i c.s c.t c.la c.ll c.lc c.fa c.fl c.fc w)
 rw [hnn] at HIN
 have HX0:=hid (heap_alloc_new w (vObj c))
 have HSIX:=hid (fun (w' : World) (h : w'.heap[w.heap.size]? = some (vObj c)) => sixOf h)
 have HL:=hid (fun (w' : World) (h : Below w.heap.size w w') => litG_call c d w' (hd.same fun b q => ⟨Nat.lt_of_lt_of_le q h.size,h.block b q⟩) (hT.below h) (hZ.below h))
 obtain ⟨q,hq⟩ : ∃ q,q = litF d:=⟨_,rfl⟩
 rw [← hq] at HL hl ⊢
 obtain ⟨t,x⟩:=q
 dsimp only at HL hl ⊢
 have hx0 : (x == 0) = false:=by simp; exact hl
 have hx1 : (x != 0) = true:=by simp; exact hl
 clear hd hT hZ hb0 hnm hnn hq hl
 obtain ⟨k,i,s,tt,la,ll,lc,fa,fl,fc⟩:=c
 dsimp only [vObj,VC.v] at HL HIN HSIX HX0 HB0 hk ⊢
 subst hk
 obtain ⟨j1,j2,j3,j4,j5,j6⟩:=HSIX.out _ HX0.out
 go_enter Tryz.func75,Tryz.ntmps75
 go_wp2_with (first
  | (go_at_call 42; refine (HL.out _ HBN.out).mono ?_; rintro e w1 ⟨rfl,hb1⟩; have HB1:=hid (HBN.out.trans (hb1.mono HBN.out.size)); clear hb1)
  | (go_at_call 132; refine (HNM.out _).mono ?_; rintro e w' ⟨rfl,rfl⟩)
  | (go_at_call 96; refine (HIN.out _).mono ?_; rintro e wn ⟨rfl,hbn⟩; have HBN:=hid (HB0.out.trans (hbn.mono HB0.out.size)); have HHN:=hid hbn; obtain ⟨m1,m2,m3,m4,m5,m6⟩:=HSIX.out _ (heapExt hbn HX0.out); clear hbn))
 exact bodyPost_ret (v:=.tuple #[.string ⟨#[]⟩,.int .i64 x]) (by simp [results,Tryz.results75,go_sem]) rfl ⟨rfl,HB1.out⟩
set_option maxRecDepth 100000 in
set_option maxHeartbeats 8000000 in
theorem fldG_ok_rec1 (node : ByteArray) (call : Int) (c : VC) (d : Val) (x : ByteArray) (hx : x.size ≤ 20) (g : Nat) (w : World) (hg : w.heap[g]? = some (.cells #[.string x] 9)) (hd : IsVal (· < w.heap.size) w c d) (hT : Tabs w) (hZ : ZTab w) (hnm : isNameB node = true) (hc : ¬ call < 1) (hc2 : ¬ 999999999999999 < call) (hnn : isNullB c.k c.i c.s c.t c.ll c.fl = false) (hk : c.k = 9) (hl : (litF d).2 = 0) :
 Calls Tryz.prog 75 #[.string node,.int .i64 call,c.v,.slice (some ⟨g,0,none⟩) 1 1] w fun e w' => e = .returned (.tuple #[.string (if 65536 < (fldJ node call (litF d).1 [x]).size then ⟨#[]⟩ else fldJ node call (litF d).1 [x]),.int .i64 (if 65536 < (fldJ node call (litF d).1 [x]).size then 5 else 0)]) ∧ Below w.heap.size w w':=by
 obtain ⟨ti,hif,hz0,hz1,hz2⟩:=info_parts infoStr
 have hb0 : Below w.heap.size w (w.alloc (vObj c)):=(Below.refl _ w).alloc (Nat.le_refl _) _
 have HB0:=hid hb0
 have HNM:=hid (fun w => cName_call node w)
 rw [hnm] at HNM
 have HIN:=hid (fun w => isNull_call c.k c.i c.s c.t c.la c.ll c.lc c.fa c.fl c.fc w)
 rw [hnn] at HIN
 have HX0:=hid (heap_alloc_new w (vObj c))
 have HSIX:=hid (fun (w' : World) (h : w'.heap[w.heap.size]? = some (vObj c)) => sixOf h)
 have HL:=hid (fun (w' : World) (h : Below w.heap.size w w') => litG_call c d w' (hd.same fun b q => ⟨Nat.lt_of_lt_of_le q h.size,h.block b q⟩) (hT.below h) (hZ.below h))
 have htz:=litF_size d
 obtain ⟨q,hq⟩ : ∃ q,q = litF d:=⟨_,rfl⟩
 rw [← hq] at HL hl htz ⊢
 obtain ⟨t,z⟩:=q
 dsimp only at HL hl htz ⊢
 subst hl
 have hnz : node.size ≤ 32:=isName_len hnm
 have HI:=hid (fun (w' : World) (h : Below w.heap.size w w') => itoa_call call ⟨by omega,by omega⟩ w' (hT.below h))
 have hiz:=itoaB_size call ⟨by omega,by omega⟩
 have HG:=hid hg
 have HGL:=hid (ltOf hg)
 obtain ⟨ic,hic⟩ : ∃ ic,ic = itoaB call:=⟨_,rfl⟩
 rw [← hic] at HI hiz
 have hJ : fldJ node call t [x] = joinB [node,ic,x,t] ⟨#[32]⟩:=by rw [hic]; rfl
 rw [hJ]
 have HXL:=hid (show ∀ a ∈ [node,ic,x,t],a.data.toList.length ≤ 65536 by
  intro a ha
  simp only [List.mem_cons,List.not_mem_nil,or_false] at ha
  rw [blen]
  rcases ha with rfl | rfl | rfl | rfl <;> omega)
 obtain ⟨J,hJd⟩ : ∃ J,J = joinB [node,ic,x,t] ⟨#[32]⟩:=⟨_,rfl⟩
 have HJD:=hid hJd
 rw [← hJd]
 clear hd hT hZ hb0 hnm hnn hg hq hic hJ hJd htz hnz hiz hx
 by_cases hlong : 65536 < J.size
 ·rw [if_pos hlong,if_pos hlong]
  have hlong' : (65536 : Int) < (J.size : Int):=by omega
  clear hlong
  obtain ⟨k,i,s,tt,la,ll,lc,fa,fl,fc⟩:=c
  dsimp only [vObj,VC.v] at HL HIN HSIX HX0 HB0 hk ⊢
  subst hk
  obtain ⟨j1,j2,j3,j4,j5,j6⟩:=HSIX.out _ HX0.out
  go_enter Tryz.func75,Tryz.ntmps75
  go_wp2_with (first
   | (go_at_call 90; refine (HJ.out _ (Below.refl _ _)).mono ?_; rintro e w4 ⟨rfl,hb4⟩; rw [← HJD.out])
   | (at_builtin; refine wpList_append_lies _ (by rfl) _ _ 37 (by rfl) w.heap.size 9 ti _ 1 16 Tryz.underlying37 hif hz0 hz1 hz2 rfl (by omega) (.slice (some ⟨g1,0,none⟩) (2 + 1) cap1) (2 + 1) _ (by rfl) (hown1.alloc _) ⟨w2.heap.size,0,none⟩ 1 1 [.string t] (by rfl) (by rfl) (World.news_of_block (heap_alloc_new w2 _)) (by simp [Value.oneCell']) (by omega) (by decide) (by decide) (by have:=HB2.out.size; have:=hgrow1.size; simp at *; omega) _ rfl ?_; intro g2 cap2 w3 hown2 hgrow2 hloc2 hlt2; have HJ:=hid (strRow_join (xs:=[node,ic,x,t]) hown2 rfl (by omega) 65536 HXL.out ⟨#[32]⟩ (by decide)).choose_spec.choose_spec.2)
   | (at_builtin; refine wpList_append_lies _ (by rfl) _ _ 37 (by rfl) w.heap.size 9 ti _ 1 16 Tryz.underlying37 hif hz0 hz1 hz2 rfl (by omega) (.slice (some ⟨w5.heap.size,0,none⟩) 2 2) 2 [.string node,.string ic] (by rfl) (own_two (heap_alloc_new w5 _) HB2.out.size) ⟨g,0,none⟩ 1 1 [.string x] (by rfl) (by rfl) (World.news_of_block (heapAlloc _ HG2.out)) (by simp [Value.oneCell']) (by omega) (by decide) (by decide) (by have:=HB2.out.size; simp; omega) _ rfl ?_; intro g1 cap1 w2 hown1 hgrow1 hloc1 hlt1)
   | (go_at_call 64; refine (HI.out _ HB1.out).mono ?_; rintro e w5 ⟨rfl,hb5⟩; have HG2:=hid (heapExt hb5 HG1.out); have HB2:=hid (HB1.out.trans (hb5.mono HB1.out.size)); clear hb5)
   | (go_at_call 42; refine (HL.out _ HBN.out).mono ?_; rintro e w1 ⟨rfl,hb1⟩; have HG1:=hid (heapExt hb1 (heapExt HHN.out (heapAlloc _ HG.out))); have HB1:=hid (HBN.out.trans (hb1.mono HBN.out.size)); clear hb1)
   | (go_at_call 132; refine (HNM.out _).mono ?_; rintro e w' ⟨rfl,rfl⟩)
   | (go_at_call 96; refine (HIN.out _).mono ?_; rintro e wn ⟨rfl,hbn⟩; have HBN:=hid (HB0.out.trans (hbn.mono HB0.out.size)); have HHN:=hid hbn; obtain ⟨m1,m2,m3,m4,m5,m6⟩:=HSIX.out _ (heapExt hbn HX0.out); clear hbn))
  refine bodyPost_ret (v:=.tuple #[.string ⟨#[]⟩,.int .i64 5]) (by simp [results,Tryz.results75,go_sem]) rfl ⟨rfl,?_⟩
  have a2:=HB2.out.alloc HB2.out.size (.cells #[.string node,.string ic] 9)
  have a3:=a2.grown hgrow1 (by have:=a2.size; exact this) (fun r hr => by have e:=Option.some.inj hr; have h1:=HB2.out.size; have e2 : w5.heap.size = r:=e; omega)
  have a4:=a3.alloc a3.size (.cells #[.string t] 9)
  have a5:=a4.grown hgrow2 (by have:=a4.size; exact this) (fun r hr => own_ge2 hown1 r hr)
  exact a5.trans (hb4.mono a5.size)
 ·rw [if_neg hlong,if_neg hlong]
  have hlong' : ¬ (65536 : Int) < (J.size : Int):=by omega
  clear hlong
  obtain ⟨k,i,s,tt,la,ll,lc,fa,fl,fc⟩:=c
  dsimp only [vObj,VC.v] at HL HIN HSIX HX0 HB0 hk ⊢
  subst hk
  obtain ⟨j1,j2,j3,j4,j5,j6⟩:=HSIX.out _ HX0.out
  go_enter Tryz.func75,Tryz.ntmps75
  go_wp2_with (first
   | (go_at_call 90; refine (HJ.out _ (Below.refl _ _)).mono ?_; rintro e w4 ⟨rfl,hb4⟩; rw [← HJD.out])
   | (at_builtin; refine wpList_append_lies _ (by rfl) _ _ 37 (by rfl) w.heap.size 9 ti _ 1 16 Tryz.underlying37 hif hz0 hz1 hz2 rfl (by omega) (.slice (some ⟨g1,0,none⟩) (2 + 1) cap1) (2 + 1) _ (by rfl) (hown1.alloc _) ⟨w2.heap.size,0,none⟩ 1 1 [.string t] (by rfl) (by rfl) (World.news_of_block (heap_alloc_new w2 _)) (by simp [Value.oneCell']) (by omega) (by decide) (by decide) (by have:=HB2.out.size; have:=hgrow1.size; simp at *; omega) _ rfl ?_; intro g2 cap2 w3 hown2 hgrow2 hloc2 hlt2; have HJ:=hid (strRow_join (xs:=[node,ic,x,t]) hown2 rfl (by omega) 65536 HXL.out ⟨#[32]⟩ (by decide)).choose_spec.choose_spec.2)
   | (at_builtin; refine wpList_append_lies _ (by rfl) _ _ 37 (by rfl) w.heap.size 9 ti _ 1 16 Tryz.underlying37 hif hz0 hz1 hz2 rfl (by omega) (.slice (some ⟨w5.heap.size,0,none⟩) 2 2) 2 [.string node,.string ic] (by rfl) (own_two (heap_alloc_new w5 _) HB2.out.size) ⟨g,0,none⟩ 1 1 [.string x] (by rfl) (by rfl) (World.news_of_block (heapAlloc _ HG2.out)) (by simp [Value.oneCell']) (by omega) (by decide) (by decide) (by have:=HB2.out.size; simp; omega) _ rfl ?_; intro g1 cap1 w2 hown1 hgrow1 hloc1 hlt1)
   | (go_at_call 64; refine (HI.out _ HB1.out).mono ?_; rintro e w5 ⟨rfl,hb5⟩; have HG2:=hid (heapExt hb5 HG1.out); have HB2:=hid (HB1.out.trans (hb5.mono HB1.out.size)); clear hb5)
   | (go_at_call 42; refine (HL.out _ HBN.out).mono ?_; rintro e w1 ⟨rfl,hb1⟩; have HG1:=hid (heapExt hb1 (heapExt HHN.out (heapAlloc _ HG.out))); have HB1:=hid (HBN.out.trans (hb1.mono HBN.out.size)); clear hb1)
   | (go_at_call 132; refine (HNM.out _).mono ?_; rintro e w' ⟨rfl,rfl⟩)
   | (go_at_call 96; refine (HIN.out _).mono ?_; rintro e wn ⟨rfl,hbn⟩; have HBN:=hid (HB0.out.trans (hbn.mono HB0.out.size)); have HHN:=hid hbn; obtain ⟨m1,m2,m3,m4,m5,m6⟩:=HSIX.out _ (heapExt hbn HX0.out); clear hbn))
  refine bodyPost_ret (v:=.tuple #[.string J,.int .i64 0]) (by simp [results,Tryz.results75,go_sem]) rfl ⟨rfl,?_⟩
  have a2:=HB2.out.alloc HB2.out.size (.cells #[.string node,.string ic] 9)
  have a3:=a2.grown hgrow1 (by have:=a2.size; exact this) (fun r hr => by have e:=Option.some.inj hr; have h1:=HB2.out.size; have e2 : w5.heap.size = r:=e; omega)
  have a4:=a3.alloc a3.size (.cells #[.string t] 9)
  have a5:=a4.grown hgrow2 (by have:=a4.size; exact this) (fun r hr => own_ge2 hown1 r hr)
  exact a5.trans (hb4.mono a5.size)
theorem fldG1_call (node : ByteArray) (call : Int) (c : VC) (d : Val) (x : ByteArray) (hx : x.size ≤ 20) (g : Nat) (w : World) (hg : w.heap[g]? = some (.cells #[.string x] 9)) (hd : IsVal (· < w.heap.size) w c d) (hT : Tabs w) (hZ : ZTab w) :
 Calls Tryz.prog 75 #[.string node,.int .i64 call,c.v,.slice (some ⟨g,0,none⟩) 1 1] w fun e w' => e = .returned (.tuple #[.string (fldF node call d [x]).1,.int .i64 (fldF node call d [x]).2]) ∧ Below w.heap.size w w':=by
 have hnv:=isNullV_of hd
 have hkv : kindV d = c.k:=by obtain ⟨k,i,s,t,l,ns,fs⟩:=d; obtain ⟨h,_⟩:=hd; exact h.1.symm
 unfold fldF
 by_cases hnm : isNameB node = false
 ·rw [if_pos hnm]; exact fldG_name node call c _ w hnm
 rw [if_neg hnm]
 have hnm' : isNameB node = true:=by simpa using hnm
 by_cases hc : call < 1
 ·rw [if_pos (.inl hc)]; exact fldG_low node call c _ w hnm' hc
 by_cases hc2 : 999999999999999 < call
 ·rw [if_pos (.inr hc2)]; exact fldG_high node call c _ w hnm' hc hc2
 rw [if_neg (by omega)]
 by_cases hn : isNullV d = true
 ·rw [if_neg (by rw [hn]; simp)]
  have hnb : isNullB c.k c.i c.s c.t c.ll c.fl = true:=by rw [← hnv]; exact hn
  by_cases hl : (litF d).2 ≠ 0
  ·rw [if_pos hl]; exact fldG_lit_null node call c d _ w hd hT hZ hnm' hc hc2 hnb hl
  rw [if_neg hl]
  have h:=fldG_ok_null1 node call c d x hx g w hg hd hT hZ hnm' hc hc2 hnb (Decidable.not_not.1 hl)
  split <;> rename_i hlong <;> simp only [hlong,if_true,if_false] at h <;> exact h
 have hnb : isNullB c.k c.i c.s c.t c.ll c.fl = false:=by rw [← hnv]; simpa using hn
 by_cases hk : c.k = 9
 ·rw [if_neg (by rw [hkv]; exact fun h => h.2 hk)]
  by_cases hl : (litF d).2 ≠ 0
  ·rw [if_pos hl]; exact fldG_lit_rec node call c d _ w hd hT hZ hnm' hc hc2 hnb hk hl
  rw [if_neg hl]
  have h:=fldG_ok_rec1 node call c d x hx g w hg hd hT hZ hnm' hc hc2 hnb hk (Decidable.not_not.1 hl)
  split <;> rename_i hlong <;> simp only [hlong,if_true,if_false] at h <;> exact h
 ·rw [if_pos ⟨by simpa using hn,by rw [hkv]; exact hk⟩]
  exact fldG_type node call c _ w hnm' hc hc2 hnb hk
end
section
open Go Go.RowKit Go.Shelf
attribute [local go_sem ↓] Go.wp_at_zero Go.wp_at_succ
set_option maxRecDepth 100000 in
set_option maxHeartbeats 8000000 in
theorem reqT_call (node : ByteArray) (call : Int) (un : Bool) (c : VC) (d : Val) (w : World) (hd : IsVal (· < w.heap.size) w c d) (hT : Tabs w) (hZ : ZTab w) :
 Calls Tryz.prog 27 #[.agg #[.string node,.int .i64 call,.bool un,.int .i64 c.k,.int .i64 c.i,.int .i64 c.s,.string c.t,.slice c.la c.ll c.lc,.slice c.fa c.fl c.fc]] w fun e w' => e = .returned (.tuple #[.string (fldF node call d [(if un then ⟨#[117,110,100,111]⟩ else ⟨#[100,111]⟩)]).1,.int .i64 (fldF node call d [(if un then ⟨#[117,110,100,111]⟩ else ⟨#[100,111]⟩)]).2]) ∧ Below w.heap.size w w':=by
 obtain ⟨wd,hwd⟩ : ∃ wd : ByteArray,wd = (if un then ⟨#[117,110,100,111]⟩ else ⟨#[100,111]⟩):=⟨_,rfl⟩
 have hwz : wd.size ≤ 20:=by rw [hwd]; cases un <;> decide
 have HWD:=hid (fun w => word_call un ⟨#[100,111]⟩ ⟨#[117,110,100,111]⟩ w)
 rw [← hwd] at HWD ⊢
 have hb0 : Below w.heap.size w (w.alloc (.cells #[.string node,.int .i64 call,.bool un,.int .i64 c.k,.int .i64 c.i,.int .i64 c.s,.string c.t,.slice c.la c.ll c.lc,.slice c.fa c.fl c.fc] 48)):=(Below.refl _ w).alloc (Nat.le_refl _) _
 have HB0:=hid hb0
 have HF:=hid (fun (w' : World) (g : Nat) (h : Below (w.alloc (.cells #[.string node,.int .i64 call,.bool un,.int .i64 c.k,.int .i64 c.i,.int .i64 c.s,.string c.t,.slice c.la c.ll c.lc,.slice c.fa c.fl c.fc] 48)).heap.size (w.alloc (.cells #[.string node,.int .i64 call,.bool un,.int .i64 c.k,.int .i64 c.i,.int .i64 c.s,.string c.t,.slice c.la c.ll c.lc,.slice c.fa c.fl c.fc] 48)) w') (hg : w'.heap[g]? = some (.cells #[.string wd] 9)) => fldG1_call node call c d wd hwz g w' hg (hd.same fun b q => ⟨Nat.lt_of_lt_of_le q (Nat.le_trans hb0.size h.size),(h.block b (Nat.lt_of_lt_of_le q hb0.size)).trans (hb0.block b q)⟩) (hT.below (hb0.trans (h.mono hb0.size))) (hZ.below (hb0.trans (h.mono hb0.size))))
 obtain ⟨q,hq⟩ : ∃ q,q = fldF node call d [wd]:=⟨_,rfl⟩
 rw [← hq] at HF ⊢
 have HC:=hid (fun (w' : World) (h : Below (w.alloc (.cells #[.string node,.int .i64 call,.bool un,.int .i64 c.k,.int .i64 c.i,.int .i64 c.s,.string c.t,.slice c.la c.ll c.lc,.slice c.fa c.fl c.fc] 48)).heap.size (w.alloc (.cells #[.string node,.int .i64 call,.bool un,.int .i64 c.k,.int .i64 c.i,.int .i64 c.s,.string c.t,.slice c.la c.ll c.lc,.slice c.fa c.fl c.fc] 48)) w') =>
  have q:=heapExt h (heap_alloc_new w (.cells #[.string node,.int .i64 call,.bool un,.int .i64 c.k,.int .i64 c.i,.int .i64 c.s,.string c.t,.slice c.la c.ll c.lc,.slice c.fa c.fl c.fc] 48))
  (show w'.cell? ⟨w.heap.size,0,none⟩ = some (.string node) ∧ w'.cell? ⟨w.heap.size,1,none⟩ = some (.int .i64 call) ∧ w'.cell? ⟨w.heap.size,2,none⟩ = some (.bool un) ∧ w'.cell? ⟨w.heap.size,3,none⟩ = some (.int .i64 c.k) ∧ w'.cell? ⟨w.heap.size,4,none⟩ = some (.int .i64 c.i) ∧ w'.cell? ⟨w.heap.size,5,none⟩ = some (.int .i64 c.s) ∧ w'.cell? ⟨w.heap.size,6,none⟩ = some (.string c.t) ∧ w'.cell? ⟨w.heap.size,7,none⟩ = some (.slice c.la c.ll c.lc) ∧ w'.cell? ⟨w.heap.size,8,none⟩ = some (.slice c.fa c.fl c.fc) from ⟨cellOf q 0,cellOf q 1,cellOf q 2,cellOf q 3,cellOf q 4,cellOf q 5,cellOf q 6,cellOf q 7,cellOf q 8⟩))
 clear hd hT hZ hb0 hwd hwz hq 
 dsimp only [VC.v] at HF
 go_enter Tryz.func27,Tryz.ntmps27
 go_upto_region 1 with (fail)
 refine wp_region_split 14 (fun w' => Below (w.alloc (.cells #[.string node,.int .i64 call,.bool un,.int .i64 c.k,.int .i64 c.i,.int .i64 c.s,.string c.t,.slice c.la c.ll c.lc,.slice c.fa c.fl c.fc] 48)).heap.size (w.alloc (.cells #[.string node,.int .i64 call,.bool un,.int .i64 c.k,.int .i64 c.i,.int .i64 c.s,.string c.t,.slice c.la c.ll c.lc,.slice c.fa c.fl c.fc] 48)) w') (by kernel_rfl) (by kernel_rfl) (by kernel_rfl) (by decide) ((Below.refl _ _).drew) (fun hS => ?_)
 simp only [List.take_succ_cons,List.take_zero,List.drop_succ_cons,List.drop_zero]
 refine tkQ 0 (v:=?_) ?_ hS ?_; rotate_left; · intro w' hw'; have hcells:=HC.out w' hw'; go_simp; (try with_reducible rfl)
 simp only [Act.put,pt1,pt2,pt3,pt4,pt5,pt6]
 refine tkQ 1 (v:=?_) ?_ hS ?_; rotate_left; · intro w' hw'; have hcells:=HC.out w' hw'; go_simp; (try with_reducible rfl)
 simp only [Act.put,pt1,pt2,pt3,pt4,pt5,pt6]
 refine tkQ 2 (v:=?_) ?_ hS ?_; rotate_left; · intro w' hw'; have hcells:=HC.out w' hw'; go_simp; (try with_reducible rfl)
 simp only [Act.put,pt1,pt2,pt3,pt4,pt5,pt6]
 refine tkQ 3 (v:=?_) ?_ hS ?_; rotate_left; · intro w' hw'; have hcells:=HC.out w' hw'; go_simp; (try with_reducible rfl)
 simp only [Act.put,pt1,pt2,pt3,pt4,pt5,pt6]
 refine tkQ 4 (v:=?_) ?_ hS ?_; rotate_left; · intro w' hw'; have hcells:=HC.out w' hw'; go_simp; (try with_reducible rfl)
 simp only [Act.put,pt1,pt2,pt3,pt4,pt5,pt6]
 refine tkQ 5 (v:=?_) ?_ hS ?_; rotate_left; · intro w' hw'; have hcells:=HC.out w' hw'; go_simp; (try with_reducible rfl)
 simp only [Act.put,pt1,pt2,pt3,pt4,pt5,pt6]
 refine tkQ 6 (v:=?_) ?_ hS ?_; rotate_left; · intro w' hw'; have hcells:=HC.out w' hw'; go_simp; (try with_reducible rfl)
 simp only [Act.put,pt1,pt2,pt3,pt4,pt5,pt6]
 refine tkQ 7 (v:=?_) ?_ hS ?_; rotate_left; · intro w' hw'; have hcells:=HC.out w' hw'; go_simp; (try with_reducible rfl)
 simp only [Act.put,pt1,pt2,pt3,pt4,pt5,pt6]
 refine wpAnyH_ready (rs:=[8]) (by kernel_rfl) (by simp) ?_
 refine arQ fun K hK => ?_
 go_simp; go_at_call 77; refine (doWords_call _).mono ?_
 rintro e w1 ⟨rfl,hb1⟩
 refine hK.out _ _ (hS.trans (hb1.mono hS.size)) (fun hS => ?_)
 clear hK K
 (try simp only [Act.put,pt1,pt2,pt3,pt4,pt5,pt6])
 refine wpAnyH_ready (rs:=[9]) (by kernel_rfl) (by simp) ?_
 refine arQ fun K hK => ?_
 go_simp; go_at_call 76; refine (HWD.out _).mono ?_
 rintro e w2 ⟨rfl,hb2⟩
 refine hK.out _ _ (hS.trans (hb2.mono hS.size)) (fun hS => ?_)
 clear hK K
 (try simp only [Act.put,pt1,pt2,pt3,pt4,pt5,pt6])
 refine wpAnyH_ready (rs:=[10]) (by kernel_rfl) (by simp) ?_
 refine arQ fun K hK => ?_
 go_simp
 refine hK.out _ _ ((hS.alloc hS.size _)) (fun hS => ?_)
 clear hK K
 (try simp only [Act.put,pt1,pt2,pt3,pt4,pt5,pt6])
 refine wpAnyH_ready (rs:=[11]) (by kernel_rfl) (by simp) ?_
 refine arQ fun K hK => ?_
 go_simp; go_at_call 75; refine (HF.out _ _ hS (heap_alloc_new _ _)).mono ?_
 rintro e w5 ⟨rfl,hb5⟩
 refine hK.out _ _ (hS.trans (hb5.mono hS.size)) (fun hS => ?_)
 clear hK K
 (try simp only [Act.put,pt1,pt2,pt3,pt4,pt5,pt6])
 refine tkQ 12 (v:=?_) ?_ hS ?_; rotate_left; · intro w' hw'; have hcells:=HC.out w' hw'; go_simp; (try with_reducible rfl)
 simp only [Act.put,pt1,pt2,pt3,pt4,pt5,pt6]
 refine tkQ 13 (v:=?_) ?_ hS ?_; rotate_left; · intro w' hw'; have hcells:=HC.out w' hw'; go_simp; (try with_reducible rfl)
 simp only [Act.put,pt1,pt2,pt3,pt4,pt5,pt6]
 refine wpAnyH_done (by kernel_rfl) ?_ _
 (try dsimp only)
 have hb9:=hb5
 have HSS:=hid hS
 clear hS
 go_wp2
 refine bodyPost_ret (v:=.tuple #[.string q.1,.int .i64 q.2]) (by simp [results,Tryz.results27,go_sem]) rfl ⟨rfl,HB0.out.trans (HSS.out.mono HB0.out.size)⟩
end
end Go.Proofs.YtkljbfaemahchaaGreatDoor
