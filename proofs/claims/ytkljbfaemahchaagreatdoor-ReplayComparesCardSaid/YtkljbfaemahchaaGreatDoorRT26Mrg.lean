/-
  manifoldlaw54.known: it answers true. Conditions: Tabs, ZTab.
-/
import Derived.Test.YtkljbfaemahchaaGreatDoorRT25Mrg
namespace Go.Proofs.YtkljbfaemahchaaGreatDoor
set_option linter.unusedVariables false
set_option linter.unusedSimpArgs false
section
open Go Go.RowKit Go.Shelf
attribute [local go_sem ↓] Go.wp_at_zero Go.wp_at_succ
def noD : Val:=.mk 0 0 0 ⟨#[]⟩ [] [] []
def noV : VC:=⟨0,0,0,⟨#[]⟩,none,0,0,none,0,0⟩
theorem noV_is (S : Nat → Prop) (w : World) : IsVal S w noV noD:=⟨⟨rfl,rfl,rfl,rfl,⟨(show I64 0 from ⟨by decide,by decide⟩),(show I64 0 from ⟨by decide,by decide⟩),(show I64 0 from ⟨by decide,by decide⟩),(show (0:Nat) ≤ 140737488351232 by decide),(show 0 * 88 ≤ 140737488351232 by decide),(show 0 * 104 ≤ 140737488351232 by decide),Nat.le_refl 0,Nat.le_refl 0⟩,rfl,rfl,rfl⟩,.inl rfl,.inl rfl⟩
def outC (nm tx : ByteArray) : EfC:=⟨1,nm,0,tx,⟨0,none,0,0⟩,⟨0,none,0,0⟩,⟨#[]⟩,0,false,noV,⟨#[]⟩⟩
def outD (nm tx : ByteArray) : Ef:=⟨1,nm,0,tx,⟨0,[]⟩,⟨0,[]⟩,⟨#[]⟩,0,false,noD,⟨#[]⟩⟩
theorem noI (S : Nat → Prop) (w : World) : IsInts S w none 0 0 []:=⟨rfl,Nat.le_refl _,by decide,fun x h => by (cases h),.inl rfl⟩
theorem zI64 : I64 0:=⟨by decide,by decide⟩
theorem outC_is (S : Nat → Prop) (w : World) (nm tx : ByteArray) (h1 : nm.size ≤ 140737488351232) (h2 : tx.size ≤ 140737488351232) : IsEf S w (outC nm tx) (outD nm tx) :=
 ⟨rfl,rfl,h1,rfl,rfl,h2,⟨rfl,zI64,noI S w⟩,⟨rfl,zI64,noI S w⟩,rfl,rfl,zI64,rfl,noV_is S w,rfl,(show (0:Nat) ≤ 140737488351232 by decide)⟩
section
attribute [-go_sem] loadCellsFrom storeCells
attribute [local go_sem] lcf0 lcf1 lcf2 lcf3 lcf4 lcf5 lcf6 lcf7 stc0 stc1
set_option maxRecDepth 100000 in
set_option maxHeartbeats 8000000 in
theorem out_call (nm tx : ByteArray) (w : World) : Calls Tryz.prog 65 #[.string nm,.string tx] w fun e w' => e = .returned (outC nm tx).v ∧ Below w.heap.size w w':=by
 have hst:=fun z hz => st_ef w z hz (outC nm tx)
 have hln:=ldn_ef w (outC nm tx)
 have HB:=hid (show Below w.heap.size w (w.alloc (efObj (outC nm tx))) from (Below.refl _ w).alloc (Nat.le_refl _) _)
 dsimp only [EfC.cs,EfC.v,efObj,outC,noV] at hst hln HB ⊢
 go_enter Tryz.func65,Tryz.ntmps65
 go_wp2
 refine bodyPost_ret (v:=.agg #[.int .i64 1,.string nm,.int .i64 0,.string tx,.int .i64 0,.slice none 0 0,.int .i64 0,.slice none 0 0,.string ⟨#[]⟩,.int .i64 0,.bool false,.int .i64 0,.int .i64 0,.int .i64 0,.string ⟨#[]⟩,.slice none 0 0,.slice none 0 0,.string ⟨#[]⟩]) (by simp [results,Tryz.results65,go_sem,hln]) rfl ?_
 exact ⟨rfl,HB.out⟩
end
theorem rowNew (w : World) (cs : List EfC) (ds : List Ef) (hl : cs.length = ds.length) (hn : cs.length ≤ 1000) (hi : ∀ (j : Nat) (h : j < cs.length) (h' : j < ds.length) (W : World),IsEf (· < W.heap.size) W cs[j] ds[j]) :
 IsRow efK (· < (w.alloc (.cells (cs.flatMap EfC.cs).toArray 105)).heap.size) (w.alloc (.cells (cs.flatMap EfC.cs).toArray 105)) (some ⟨w.heap.size,0,none⟩) cs.length cs.length ds:=by
 have hlen : ∀ cs : List EfC,(cs.flatMap EfC.cs).length = cs.length * 18:=fun cs => by
  induction cs with
  | nil => rfl
  | cons x r ih => rw [List.flatMap_cons,List.length_append,ih,List.length_cons]; simp [EfC.cs]; omega
 have hown : (w.alloc (.cells (cs.flatMap EfC.cs).toArray 105)).ownsRow w.heap.size 105 18 (.slice (some ⟨w.heap.size,0,none⟩) cs.length cs.length) cs.length (cs.flatMap EfC.cs) :=
  ⟨hlen cs,.inr ⟨w.heap.size,cs.length,_,rfl,Nat.le_refl _,heap_alloc_new w _,Nat.le_refl _,by unfold maxLen; omega,by simp [hlen cs],List.take_of_length_le (by rw [hlen cs]; exact Nat.le_refl _)⟩⟩
 refine ⟨hl,Nat.le_refl _,(show cs.length * 248 ≤ 140737488351232 by omega),.inr ⟨w.heap.size,0,rfl,by simp,fun j hj => ⟨cs[j],?_,hi j (by omega) hj _⟩⟩⟩
 rw [Nat.zero_add]
 exact AtG.ofRow (K:=efK) hown j (by omega)
def oB : ByteArray:=⟨#[111,117,116]⟩
def xB : ByteArray:=⟨#[120]⟩
def aB' : ByteArray:=⟨#[97]⟩
def bB' : ByteArray:=⟨#[98]⟩
def cB' : ByteArray:=⟨#[99]⟩
def lA : List Ef:=[outD oB aB',outD oB bB',outD xB aB',outD oB cB']
def lB : List Ef:=[outD oB aB',outD xB aB',outD oB cB']
def objA : Obj:=.cells ([outC oB aB',outC oB bB',outC xB aB',outC oB cB'].flatMap EfC.cs).toArray 105
def objB : Obj:=.cells ([outC oB aB',outC xB aB',outC oB cB'].flatMap EfC.cs).toArray 105
theorem lA_row (w : World) : IsRow efK (· < (w.alloc objA).heap.size) (w.alloc objA) (some ⟨w.heap.size,0,none⟩) 4 4 lA :=
 rowNew w [outC oB aB',outC oB bB',outC xB aB',outC oB cB'] lA rfl (by decide) fun j h h' W => match j,h,h' with
  | 0,_,_ => outC_is _ _ _ _ (by decide) (by decide)
  | 1,_,_ => outC_is _ _ _ _ (by decide) (by decide)
  | 2,_,_ => outC_is _ _ _ _ (by decide) (by decide)
  | 3,_,_ => outC_is _ _ _ _ (by decide) (by decide)
  | n + 4,h,_ => absurd h (by simp)
theorem lB_row (w : World) : IsRow efK (· < (w.alloc objB).heap.size) (w.alloc objB) (some ⟨w.heap.size,0,none⟩) 3 3 lB :=
 rowNew w [outC oB aB',outC xB aB',outC oB cB'] lB rfl (by decide) fun j h h' W => match j,h,h' with
  | 0,_,_ => outC_is _ _ _ _ (by decide) (by decide)
  | 1,_,_ => outC_is _ _ _ _ (by decide) (by decide)
  | 2,_,_ => outC_is _ _ _ _ (by decide) (by decide)
  | n + 3,h,_ => absurd h (by simp)
theorem known_names : nmsL lA lB = [[111,117,116],[120]]:=by
 refine Inc.eq (nms_inc _ _) (by unfold Inc; simp; decide) fun x => ?_
 rw [nms_mem]
 constructor
 ·rintro (⟨e,he,rfl⟩ | ⟨e,he,rfl⟩)
  ·simp only [lA,List.mem_cons,List.not_mem_nil,or_false] at he
   rcases he with rfl | rfl | rfl | rfl <;> simp [outD,oB,xB]
  ·simp only [lB,List.mem_cons,List.not_mem_nil,or_false] at he
   rcases he with rfl | rfl | rfl <;> simp [outD,oB,xB]
 ·intro hx
  simp only [List.mem_cons,List.not_mem_nil,or_false] at hx
  rcases hx with rfl | rfl
  ·exact .inl ⟨outD oB aB',by simp [lA],rfl⟩
  ·exact .inl ⟨outD xB aB',by simp [lA],rfl⟩
theorem known_cmp : cmpL lA lB = [⟨oB,1,3,2⟩]:=by
 rw [cmpL,known_names]
 have h1 : difO lA lB [111,117,116] = some ⟨oB,1,3,2⟩:=by rfl
 have h2 : difO lA lB [120] = none:=by rfl
 rw [List.filterMap_cons_some h1,List.filterMap_cons_none h2,List.filterMap_nil]
theorem known_txt : (txtsL lA oB).length = 3:=by rfl
theorem rowShape {w : World} {base : Nat} {e : TypeId} {size : Nat} {v : Value} {n : Nat} {xs : List Value} (h : w.ownsRow base e size v n xs) : ∃ p c,v = .slice p n c:=by
 rcases h.2 with ⟨rfl,h0⟩ | ⟨g,cap,cur,rfl,_⟩
 ·exact ⟨none,0,by rw [h0]⟩
 ·exact ⟨_,_,rfl⟩
theorem one_row {w : World} {base : Nat} {v : Value} (h : w.ownsRow base 35 4 v [(⟨oB,1,3,2⟩ : Dif)].length ([(⟨oB,1,3,2⟩ : Dif)].flatMap Dif.cs)) :
 ∃ g c,v = .slice (some ⟨g,0,none⟩) 1 c ∧ w.cell? ⟨g,0,none⟩ = some (.string oB) ∧ w.cell? ⟨g,1,none⟩ = some (.int .i64 1) ∧ w.cell? ⟨g,2,none⟩ = some (.int .i64 3) ∧ w.cell? ⟨g,3,none⟩ = some (.int .i64 2):=by
 rcases h.2 with ⟨_,h0⟩ | ⟨g,cap,cur,rfl,_⟩
 ·simp at h0
 ·exact ⟨g,cap,rfl,World.ownsRow.cellAt h 0 (by decide),World.ownsRow.cellAt h 1 (by decide),World.ownsRow.cellAt h 2 (by decide),World.ownsRow.cellAt h 3 (by decide)⟩
set_option maxRecDepth 100000 in
set_option maxHeartbeats 8000000 in
theorem known54_call (w : World) (hT : Tabs w) (hZ : ZTab w) : Calls Tryz.prog 20 #[] w fun e w' => e = .returned (.bool true) ∧ Below w.heap.size w w':=by
 have HT:=hid hT
 have HZ:=hid hZ
 have HB:=hid (Below.refl w.heap.size w)
 clear hT hZ
 go_enter Tryz.func20,Tryz.ntmps20
 go_upto_region 2 with (go_at_call 65; refine (out_call _ _ _).mono ?_; rintro e wq ⟨rfl,hbq⟩; replace HB:=hid (HB.out.trans (hbq.mono HB.out.size)); clear hbq)
 have r1:=lA_row wq
 have g1 : wq.heap.size < (wq.alloc objA).heap.size:=by simp
 have hb1 : Below w.heap.size w (wq.alloc objA):=HB.out.alloc HB.out.size _
 change Code.wp _ _ _ _ (wq.alloc objA)
 obtain ⟨A,hA⟩ : ∃ A,A = wq.heap.size:=⟨_,rfl⟩
 rw [← hA] at r1 g1
 go_simp
 rw [← hA]
 generalize hW1 : wq.alloc objA = W1 at r1 hb1 g1 ⊢
 have R1:=hid r1
 have HB1:=hid hb1
 have HBA:=hid (Below.refl W1.heap.size W1)
 clear hW1 hA r1 hb1 HB
 go_upto_region 3 with (go_at_call 65; refine (out_call _ _ _).mono ?_; rintro e wq ⟨rfl,hbq⟩; replace HBA:=hid (HBA.out.trans (hbq.mono HBA.out.size)); clear hbq)
 have r2:=lB_row wq
 have b12 : Below W1.heap.size W1 (wq.alloc objB):=HBA.out.alloc HBA.out.size _
 change Code.wp _ _ _ _ (wq.alloc objB)
 obtain ⟨B,hB⟩ : ∃ B,B = wq.heap.size:=⟨_,rfl⟩
 rw [← hB] at r2
 go_simp
 rw [← hB]
 generalize hW2 : wq.alloc objB = W2 at r2 b12 ⊢
 have r1:=R1.out.same (S':=(· < W2.heap.size)) fun b hb => ⟨Nat.lt_of_lt_of_le hb b12.size,b12.block b hb⟩
 have hb2 : Below w.heap.size w W2:=HB1.out.trans (b12.mono HB1.out.size)
 have HCMP:=hid (rCompare_call (some ⟨A,0,none⟩) 4 4 lA (some ⟨B,0,none⟩) 3 3 lB W2 r1 r2 (by decide) (by decide) (HT.out.below hb2) (HZ.out.below hb2))
 have HTX:=hid (fun W (h : Below W2.heap.size W2 W) => pTexts_call (some ⟨A,0,none⟩) 4 4 lA oB W (r1.same fun b hb => ⟨Nat.lt_of_lt_of_le hb h.size,h.block b hb⟩) (HT.out.below (hb2.trans (h.mono hb2.size))) (HZ.out.below (hb2.trans (h.mono hb2.size))))
 have HB2:=hid hb2
 rw [known_cmp] at HCMP
 rw [known_txt] at HTX
 clear hW2 hB r1 r2 hb2 b12 R1 HB1 HBA g1
 go_upto_region 4 with (go_at_call 21; refine HCMP.out.mono ?_; rintro e W3 ⟨v,rfl,ho,hb⟩; have HO:=hid ho; have HB3:=hid hb; clear ho hb)
 obtain ⟨g,c1,rfl,x0,x1,x2,x3⟩:=one_row HO.out
 dsimp only [oB] at x0
 go_wp2_with (go_at_call 24; go_loud (refine (HTX.out W3 HB3.out).mono ?_); rintro e W4 ⟨v2,rfl,ho2,hb4⟩; obtain ⟨p2,c2,rfl⟩:=rowShape ho2; have HB4:=hid hb4; clear ho2 hb4)
 trace_state
 go_ret
 exact ⟨rfl,HB2.out.trans ((HB3.out.trans (HB4.out.mono HB3.out.size)).mono HB2.out.size)⟩
end
section
open Go Go.RowKit Go.Shelf
attribute [local go_sem ↓] Go.wp_at_zero Go.wp_at_succ
set_option maxRecDepth 100000 in
set_option maxHeartbeats 8000000 in
theorem rtexts_call (a : Option Addr) (n c : Nat) (l : List Ef) (name : ByteArray) (w : World) (hl : IsRow efK (· < w.heap.size) w a n c l) (hT : Tabs w) (hZ : ZTab w) :
 Calls Tryz.prog 5 #[.slice a n c,.string name] w fun e w' => e = .returned (.bool true) ∧ Below w.heap.size w w':=by
 have HK1:=hid (known54_call w hT hZ)
 have HK2 : Hid (∀ W,Below w.heap.size w W → Calls Tryz.prog 20 #[] W fun e w' => e = .returned (.bool true) ∧ Below W.heap.size W w'):=hid fun W h => known54_call W (hT.below h) (hZ.below h)
 have hrow : ∀ W,Below w.heap.size w W → IsRow efK (· < W.heap.size) W a n c l:=fun W h => hl.same fun b hb => ⟨Nat.lt_of_lt_of_le hb h.size,h.block b hb⟩
 have HP : Hid (∀ W,Below w.heap.size w W → Calls Tryz.prog 24 #[.slice a n c,.string name] W fun e w' => ∃ v,e = .returned v ∧ w'.ownsRow W.heap.size 9 1 v (txtsL l name).length ((txtsL l name).map Value.string) ∧ Below W.heap.size W w'):=hid fun W h => pTexts_call a n c l name W (hrow W h) (hT.below h) (hZ.below h)
 have HQ : Hid (∀ W,Below w.heap.size w W → Calls Tryz.prog 25 #[.slice a n c,.string name] W fun e w' => ∃ v,e = .returned v ∧ w'.ownsRow W.heap.size 9 1 v (txtsL l name).length ((txtsL l name).map Value.string) ∧ Below W.heap.size W w'):=hid fun W h => lTexts_call a n c l name W (hrow W h) (hT.below h) (hZ.below h)
 have HL:=hid (And.intro hl.len (txtsL_le l name))
 have hbig:=hl.big
 dsimp only [efK] at hbig
 clear hl hT hZ hrow
 go_enter Tryz.func5,Tryz.ntmps5
 by_cases h30 : 30 < n
 ·have h30' : (30 : Int) < (n : Int):=by omega
  go_wp2_with (first
   | (go_at_call 20; refine (HK2.out w1 HB1.out).mono ?_; rintro e w2 ⟨rfl,hb2⟩; have HB2:=hid hb2; clear hb2)
   | (go_at_call 20; refine HK1.out.mono ?_; rintro e w1 ⟨rfl,hb1⟩; have HB1:=hid hb1; clear hb1))
  go_ret
  exact ⟨rfl,HB1.out.trans (HB2.out.mono HB1.out.size)⟩
 ·have h30' : ¬ (30 : Int) < (n : Int):=by omega
  obtain ⟨zs,hzs⟩ : ∃ zs,zs = txtsL l name:=⟨_,rfl⟩
  have hzl : zs.length ≤ 30:=by rw [hzs]; have:=HL.out; omega
  rw [← hzs] at HP HQ
  clear hzs
  go_wp2_with (first
   | (go_at_call 20; refine HK1.out.mono ?_; rintro e w1 ⟨rfl,hb1⟩; have HB1:=hid hb1; clear hb1)
   | (go_at_call 24; refine (HP.out w1 HB1.out).mono ?_; rintro e w2 ⟨v1,rfl,ho1,hb2⟩; obtain ⟨p1,c1,rfl,hc1,hx1⟩:=OwnS.shape ho1; have HX1:=hid hx1; have HB2:=hid hb2; clear ho1 hx1 hb2)
   | (go_at_call 25; refine (HQ.out w2 (HB1.out.trans (HB2.out.mono HB1.out.size))).mono ?_; rintro e w3 ⟨v2,rfl,ho2,hb3⟩; obtain ⟨p2,c2,rfl,hc2,hx2⟩:=OwnS.shape ho2; have HX2:=hid hx2; have HB3:=hid hb3; clear ho2 hx2 hb3))
  go_loopw [7] (fun i wr => ∃ k : Nat,k ≤ zs.length ∧ i = .int .i64 k ∧ Below w3.heap.size w3 wr) (fun i _ => zs.length - (intOf i).toNat)
  case atStart => exact ⟨0,Nat.zero_le _,rfl,Below.refl _ _⟩
  case round =>
   obtain ⟨k,hk,rfl,hbr⟩:=hrel
   obtain ⟨wo,hwo⟩ : ∃ w1 : World,w1 = wr:=⟨_,rfl⟩
   rw [← hwo] at hbr ⊢
   clear hwo
   have HBR:=hid hbr
   clear hbr
   by_cases hlt : k < zs.length
   ·obtain ⟨g1,rfl,hg1,hz1⟩:=HX1.out k hlt
    obtain ⟨g2,rfl,hg2,hz2⟩:=HX2.out k hlt
    have hk0 : (0 : Int) ≤ (k : Int):=by omega
    have hlt' : (k : Int) < (zs.length : Int):=by omega
    obtain ⟨z,hz⟩ : ∃ z,z = zs[k]:=⟨_,rfl⟩
    rw [← hz] at hz1 hz2
    have HC9 : Hid (∀ W,Below wo.heap.size wo W → W.cell? ⟨g1,k,none⟩ = some (.string z) ∧ W.cell? ⟨g2,k,none⟩ = some (.string z)):=hid fun W h => by
     have hb : Below w3.heap.size w3 W:=HBR.out.trans (h.mono HBR.out.size)
     exact ⟨(hb.cell (p:=⟨g1,k,none⟩) (Nat.lt_of_lt_of_le hg1 HB3.out.size)).trans ((HB3.out.cell (p:=⟨g1,k,none⟩) hg1).trans hz1),(hb.cell (p:=⟨g2,k,none⟩) hg2).trans hz2⟩
    clear hz1 hz2 hz hg1 hg2
    go_upto_region 9 with (fail)
    refine wp_region_held_drew (S:=(fun W => Below wo.heap.size wo W)) (by kernel_rfl) ((Below.refl _ _).drew) (fun hS => ?_)
    refine tkQ 0 (v:=?_) ?_ hS ?_; rotate_left; · intro w' hw'; have hcells:=HC9.out w' hw'; go_simp; (try with_reducible rfl)
    simp only [Act.put,pt1,pt2,pt3,pt4,pt5,pt6]
    refine tkQ 1 (v:=?_) ?_ hS ?_; rotate_left; · intro w' hw'; have hcells:=HC9.out w' hw'; go_simp; (try with_reducible rfl)
    simp only [Act.put,pt1,pt2,pt3,pt4,pt5,pt6]
    refine tkQ 2 (v:=?_) ?_ hS ?_; rotate_left; · intro w' hw'; have hcells:=HC9.out w' hw'; go_simp; (try with_reducible rfl)
    simp only [Act.put,pt1,pt2,pt3,pt4,pt5,pt6]
    refine tkQ 3 (v:=?_) ?_ hS ?_; rotate_left; · intro w' hw'; have hcells:=HC9.out w' hw'; go_simp; (try with_reducible rfl)
    simp only [Act.put,pt1,pt2,pt3,pt4,pt5,pt6]
    refine tkQ 4 (v:=?_) ?_ hS ?_; rotate_left; · intro w' hw'; have hcells:=HC9.out w' hw'; go_simp; (try with_reducible rfl)
    simp only [Act.put,pt1,pt2,pt3,pt4,pt5,pt6]
    refine tkQ 5 (v:=?_) ?_ hS ?_; rotate_left; · intro w' hw'; have hcells:=HC9.out w' hw'; go_simp; (try with_reducible rfl)
    simp only [Act.put,pt1,pt2,pt3,pt4,pt5,pt6]
    refine tkQ 6 (v:=?_) ?_ hS ?_; rotate_left; · intro w' hw'; have hcells:=HC9.out w' hw'; go_simp; (try with_reducible rfl)
    simp only [Act.put,pt1,pt2,pt3,pt4,pt5,pt6]
    refine tkQ 7 (v:=?_) ?_ hS ?_; rotate_left; · intro w' hw'; have hcells:=HC9.out w' hw'; go_simp; (try with_reducible rfl)
    simp only [Act.put,pt1,pt2,pt3,pt4,pt5,pt6]
    refine tkQ 8 (v:=?_) ?_ hS ?_; rotate_left; · intro w' hw'; have hcells:=HC9.out w' hw'; go_simp; (try with_reducible rfl)
    simp only [Act.put,pt1,pt2,pt3,pt4,pt5,pt6]
    refine wpAnyH_done (by kernel_rfl) ?_ _
    (try dsimp only)
    have HBJ:=hid hS
    clear hS HC9
    go_wp2
    go_roundw
    case rel => exact ⟨k + 1,by omega,by go_num,HBR.out.trans (HBJ.out.mono HBR.out.size)⟩
    case measure => simp [intOf]; omega
   ·obtain rfl : k = zs.length:=by omega
    clear hlt
    have hnq : ¬ (zs.length : Int) < (zs.length : Int):=by omega
    go_wp2
    go_ret
    exact ⟨rfl,HB1.out.trans ((HB2.out.trans ((HB3.out.trans (HBR.out.mono HB3.out.size)).mono HB2.out.size)).mono HB1.out.size)⟩
end
end Go.Proofs.YtkljbfaemahchaaGreatDoor
