/-
  replay.Compare: the differences by names, in order. Conditions: the effects can be read as data, at most a hundred thousand; Tabs, ZTab.
-/
import Derived.Test.YtkljbfaemahchaaGreatDoorRT23Mrg
import Derived.Test.YtkljbfaemahchaaGreatDoorRT24Mrg
import Derived.Deep.Onto
namespace Go.Proofs.YtkljbfaemahchaaGreatDoor
set_option linter.unusedVariables false
set_option linter.unusedSimpArgs false
open Go Go.RowKit Go.Shelf Go.Sort
attribute [local go_sem ↓] Go.wp_at_zero Go.wp_at_succ
def comP : List ByteArray → List ByteArray → Nat
 | x :: r,y :: q => if x = y then comP r q + 1 else 0
 | _,_ => 0
theorem comP_eq : ∀ (k : Nat) (x y : List ByteArray),k ≤ x.length → k ≤ y.length → (∀ j,j < k → x[j]? = y[j]?) → (k = x.length ∨ k = y.length ∨ x[k]? ≠ y[k]?) → comP x y = k
 | 0,[],_,_,_,_,_ => rfl
 | 0,_ :: _,[],_,_,_,_ => rfl
 | 0,a :: r,b :: q,_,_,_,h => by
   have hne : a ≠ b:=by
    rcases h with h | h | h
    ·simp at h
    ·simp at h
    ·simpa using h
   rw [comP,if_neg hne]
 | k + 1,[],_,h,_,_,_ => by simp at h
 | k + 1,_ :: _,[],_,h,_,_ => by simp at h
 | k + 1,a :: r,b :: q,h1,h2,h3,h4 => by
   have e : a = b:=by simpa using h3 0 (by omega)
   rw [comP,if_pos e,comP_eq k r q (by simpa using h1) (by simpa using h2) (fun j hj => by simpa using h3 (j + 1) (by omega)) (by
    rcases h4 with h | h | h
    ·exact .inl (by simpa using h)
    ·exact .inr (.inl (by simpa using h))
    ·exact .inr (.inr (by simpa using h)))]
structure Dif where
 nm : ByteArray
 s : Nat
 l : Nat
 r : Nat
def Dif.cs (d : Dif) : List Value:=[.string d.nm,.int .i64 d.s,.int .i64 d.l,.int .i64 d.r]
def ofL (l : TB) : ByteArray:=⟨l.toArray⟩
def nmsL (a b : List Ef) : List TB:=Lib.compact (srtB ((a ++ b).map fun x => x.nm.data.toList))
def difO (a b : List Ef) (nm : TB) : Option Dif :=
 if comP (txtsL a (ofL nm)) (txtsL b (ofL nm)) < max (txtsL a (ofL nm)).length (txtsL b (ofL nm)).length then some ⟨ofL nm,comP (txtsL a (ofL nm)) (txtsL b (ofL nm)),(txtsL a (ofL nm)).length,(txtsL b (ofL nm)).length⟩ else none
def cmpL (a b : List Ef) : List Dif:=(nmsL a b).filterMap (difO a b)
theorem nms_inc (a b : List Ef) : Inc (nmsL a b):=(compactB_sorted (srtB_le _)).1
theorem nms_mem (a b : List Ef) (x : TB) : x ∈ nmsL a b ↔ (∃ e ∈ a,e.nm.data.toList = x) ∨ ∃ e ∈ b,e.nm.data.toList = x:=by
 rw [nmsL,(compactB_sorted (srtB_le _)).2,List.mem_mergeSort,List.map_append,List.mem_append,List.mem_map,List.mem_map]
theorem nms_of {a b : List Ef} {D1 D2 : DataW (List ByteArray)} (h1 : GrpOf D1 a) (h2 : GrpOf D2 b) {s1 s2 : List TB} (m1 : ∀ x,x ∈ s1 ↔ Maps.has D1 (.string x) = true) (m2 : ∀ x,x ∈ s2 ↔ Maps.has D2 (.string x) = true) :
 Lib.compact (srtB (s1 ++ s2)) = nmsL a b:=by
 refine Inc.eq (compactB_sorted (srtB_le _)).1 (nms_inc a b) fun x => ?_
 rw [(compactB_sorted (srtB_le _)).2,List.mem_mergeSort,List.mem_append,nms_mem,m1,m2,h1.has_,h2.has_,List.any_eq_true,List.any_eq_true]
 simp
theorem nms_name {a b : List Ef} {x : TB} (h : x ∈ nmsL a b) : ∃ e,(e ∈ a ∨ e ∈ b) ∧ e.nm.data.toList = x:=by
 rcases (nms_mem a b x).1 h with ⟨e,h1,h2⟩ | ⟨e,h1,h2⟩
 ·exact ⟨e,.inl h1,h2⟩
 ·exact ⟨e,.inr h1,h2⟩
theorem isRow_nm {a : Option Addr} {n c : Nat} {l : List Ef} {w : World} (h : IsRow efK (· < w.heap.size) w a n c l) : ∀ e ∈ l,e.nm.size ≤ maxLen:=by
 intro e he
 obtain ⟨k,hk,rfl⟩:=List.getElem_of_mem he
 obtain ⟨b,o,rfl,hb,hx⟩:=h.slot (show 0 < n by have:=h.len; omega)
 obtain ⟨x,hxa,hxi⟩:=hx k hk
 have:=hxi.nmz
 have e : x.nm = (l[k]).nm:=hxi.nm
 rw [← e]
 unfold maxLen
 omega
theorem OwnS.shape {w : World} {base : Nat} {v : Value} {zs : List ByteArray} (h : OwnS w base v zs) : ∃ p c,v = .slice p zs.length c ∧ zs.length ≤ c ∧ ∀ (j : Nat) (hj : j < zs.length),∃ g,p = some ⟨g,0,none⟩ ∧ g < w.heap.size ∧ w.cell? ⟨g,j,none⟩ = some (.string zs[j]):=by
 have hc:=fun g => World.ownsRow.cells (g:=g) h
 rcases h.2 with ⟨rfl,h0⟩ | ⟨g,cap,cur,rfl,_,hh,hcap,_⟩
 ·exact ⟨none,0,by rw [h0],by omega,fun j hj => by omega⟩
 ·refine ⟨some ⟨g,0,none⟩,cap,rfl,hcap,fun j hj => ⟨g,rfl,(Array.getElem?_eq_some_iff.1 hh).1,?_⟩⟩
  have:=hc g rfl j (.string zs[j]) (by simp [hj])
  rwa [show (⟨g,0,none⟩ : Addr).add j = ⟨g,j,none⟩ by unfold Addr.add; split <;> simp_all] at this
theorem names_shape {w : World} {base : Nat} {v : Value} {zs : List TB} (h : w.ownsRow base 9 1 v zs.length (zs.map encStr)) : ∃ p c,v = .slice p zs.length c ∧ zs.length ≤ c ∧ ∀ (j : Nat) (hj : j < zs.length),∃ g,p = some ⟨g,0,none⟩ ∧ g < w.heap.size ∧ w.cell? ⟨g,j,none⟩ = some (.string (ofL zs[j])):=by
 obtain ⟨p,c,e,hc,hx⟩:=OwnS.shape (zs:=zs.map ofL) (show OwnS w base v (zs.map ofL) by unfold OwnS; rw [List.length_map,List.map_map]; exact h)
 refine ⟨p,c,by rw [e,List.length_map],by simpa using hc,fun j hj => ?_⟩
 obtain ⟨g,h1,h2,h3⟩:=hx j (by simpa using hj)
 exact ⟨g,h1,h2,by rw [h3,List.getElem_map]⟩
theorem strEqR (a b : ByteArray) : (a.toList == b.toList) = decide (a.data.toList = b.data.toList):=by
 rw [ByteArray.toList_eq,ByteArray.toList_eq,Bool.eq_iff_iff]; simp
theorem infoDif : (Tryz.prog.info? 35).map (fun i => (i.zero,i.size,i.bytes)) = some (some (.agg #[.string ByteArray.empty,.int .i64 0,.int .i64 0,.int .i64 0]),4,40):=by kernel_rfl
set_option maxRecDepth 100000 in
set_option maxHeartbeats 16000000 in
theorem rCompare_call (a : Option Addr) (n c : Nat) (la : List Ef) (a' : Option Addr) (n' c' : Nat) (lb : List Ef) (w : World) (hla : IsRow efK (· < w.heap.size) w a n c la) (hlb : IsRow efK (· < w.heap.size) w a' n' c' lb) (hn : n ≤ 1000) (hn' : n' ≤ 1000) (hT : Tabs w) (hZ : ZTab w) :
 Calls Tryz.prog 21 #[.slice a n c,.slice a' n' c'] w fun e w' => ∃ v,e = .returned v ∧ w'.ownsRow w.heap.size 35 4 v (cmpL la lb).length ((cmpL la lb).flatMap Dif.cs) ∧ Below w.heap.size w w':=by
 obtain ⟨ti,hi,hz0,hz1,hz2⟩:=info_parts infoDif
 have HG1:=hid (grouped_call a n c la w hla hT hZ)
 have HG2 : Hid (∀ W,Below w.heap.size w W → Calls Tryz.prog 66 #[.slice a' n' c'] W fun e w' => e = .returned (.map (some W.heap.size)) ∧ ∃ D,Grp w' (W.heap.size + 1) W.heap.size n' D ∧ GrpOf D lb ∧ Below W.heap.size W w'):=hid fun W h =>
  grouped_call a' n' c' lb W (hlb.same fun b hb => ⟨Nat.lt_of_lt_of_le hb h.size,h.block b hb⟩) (hT.below h) (hZ.below h)
 have HNN:=hid (And.intro hn hn')
 have HLA:=hid (And.intro hla hlb)
 clear hla hlb hT hZ hn hn'
 obtain ⟨B1,hB1⟩ : ∃ B1,B1 = w.heap.size:=⟨_,rfl⟩
 have HB1:=hid hB1
 rw [← hB1]
 rw [← hB1] at HG1 HG2
 clear hB1
 go_enter Tryz.func21,Tryz.ntmps21
 go_upto_region 2 with (first
  | (go_at_call 66; refine (HG2.out W1 HBW1.out).mono ?_; rintro e W2 ⟨rfl,D2,hg2,ho2,hb2⟩; have HW2:=hid (And.intro hg2 (And.intro ho2 hb2)); clear hg2 ho2 hb2)
  | (go_at_call 66; refine HG1.out.mono ?_; rintro e W1 ⟨rfl,D1,hg1,ho1,hb1⟩; have HW1:=hid (And.intro hg1 ho1); have HBW1:=hid hb1; clear hg1 ho1 hb1))
 obtain ⟨B2,hB2⟩ : ∃ B2,B2 = W1.heap.size:=⟨_,rfl⟩
 obtain ⟨W3,hW3⟩ : ∃ W3,W3 = W2.alloc (.cells #[.map (some B1)] 107):=⟨_,rfl⟩
 have hb2:=HW2.out.2.2
 have g2 : Grp W2 (B1 + 1) B1 n D1:=HW1.out.1.kept (row:=none) ⟨hb2.os,hb2.tape,hb2.output,hb2.size,fun k hk _ => hb2.block k hk⟩ (fun r e => by cases e)
 have hbw2 : Below B1 w W2:=HBW1.out.trans (hb2.mono (by have:=HBW1.out.size; have:=HB1.out; omega))
 have hb3 : Below W2.heap.size W2 W3:=by rw [hW3]; exact (Below.refl _ _).alloc (Nat.le_refl _) _
 have hg3 : ∀ W,Below W2.heap.size W2 W → Grp W (B1 + 1) B1 n D1 ∧ Grp W (B2 + 1) B2 n' D2:=fun W h => by
  have hg : W2.grownBy W none:=⟨h.os,h.tape,h.output,h.size,fun k hk _ => h.block k hk⟩
  rw [hB2]
  exact ⟨g2.kept hg (fun r e => by cases e),HW2.out.1.kept hg (fun r e => by cases e)⟩
 have hm3 : W3.cell? ⟨W2.heap.size,0,none⟩ = some (.map (some B1)):=by rw [hW3]; exact cellOf (heap_alloc_new W2 _) 0
 have z1 : Maps.size D1 ≤ n:=(hg3 W3 hb3).1.owns.size_le
 have z2 : Maps.size D2 ≤ n':=(hg3 W3 hb3).2.owns.size_le
 have hlen : ∀ {D : DataW (List ByteArray)} {ss : List TB},ss.Perm (strKeys D) → Maps.IsMap D → ss.length = Maps.size D:=fun {D ss} hp hD => by
  obtain ⟨es,rfl⟩:=hD
  rw [hp.length_eq]
  exact List.length_map _
 have HK1:=hid (mKeys_call B1 W2)
 have HC1:=hid (callsIn_wide.1 (collect_call 6 (by decide) W3 _ _ keys_enters _ _ (Maps.size D1) (by have:=HNN.out; omega) (mKeys_stops 4 (by decide) W2.heap.size B1 n D1 W3 (by rw [hW3]; simp) hm3 (hg3 W3 hb3).1.owns)))
 have HK2:=hid (fun W => mKeys_call B2 W)
 have HA2 : Hid (∀ (W4 : World) (v1 : Value) (ss1 : List TB),Below W3.heap.size W3 W4 → W4.ownsRow W3.heap.size 9 1 v1 ss1.length (ss1.map encStr) → ss1.length ≤ 1000 →
  Calls Tryz.prog 67 #[v1,.func (.func 129) #[] #[.pointer (some ⟨W4.heap.size,0,none⟩)]] (W4.alloc (.cells #[.map (some B2)] 107)) fun e w' =>
   ∃ (v' : Value) (ss : List TB),e = .returned v' ∧ (ss.Perm (strKeys D2) ∧ ∀ x,x ∈ ss ↔ Maps.has D2 (.string x) = true) ∧ w'.ownsRow W3.heap.size 9 1 v' (ss1 ++ ss).length ((ss1 ++ ss).map encStr) ∧ Below W3.heap.size W3 w'):=hid fun W4 v1 ss1 h4 ho hl => by
  have h5 : Below W4.heap.size W4 (W4.alloc (.cells #[.map (some B2)] 107)):=(Below.refl _ _).alloc (Nat.le_refl _) _
  have h35:=h4.trans (h5.mono h4.size)
  exact callsIn_wide.1 (appSeq_call 6 (by decide) W3 _ h35 v1 ss1 (ho.alloc _) _ _ keys_enters _ _ (Maps.size D2) (by have:=HNN.out; omega) (mKeys_stops 5 (by decide) W4.heap.size B2 n' D2 _ (by simp) (cellOf (heap_alloc_new W4 _) 0) (hg3 _ (hb3.trans (h35.mono hb3.size))).2.owns))
 have HM:=hid (show (∀ ss : List TB,ss.Perm (strKeys D1) → ss.length ≤ 1000) ∧ ∀ ss : List TB,ss.Perm (strKeys D2) → ss.length ≤ 1000 from
  ⟨fun ss h => by have:=hlen h g2.is; have:=HNN.out; omega,fun ss h => by have:=hlen h HW2.out.1.is; have:=HNN.out; omega⟩)
 have HG3:=hid hg3
 have HW3:=hid (And.intro hW3 (And.intro hb3 hbw2))
 have HB2:=hid hB2
 have HZ:=hid (And.intro z1 z2)
 rw [← hB2]
 rw [← hW3] at HK1
 clear hB2 hW3 hb2 g2 hbw2 hb3 hg3 hm3 z1 z2 hlen
 go_upto_region 3 with (first
  | (go_at_call 67; refine (HA2.out W4 v1 ss1 HB4.out HO4.out.2.2 HO4.out.2.1).mono ?_; rintro e W6 ⟨v2,ss2,rfl,hs2,ho6,hb6⟩; have HO6:=hid (And.intro hs2 ho6); have HB6:=hid hb6; clear hs2 ho6 hb6)
  | (go_at_call 68; refine HC1.out.mono ?_; rintro e W4 ⟨v1,ss1,rfl,hs1,ho4,hb4⟩; have HO4:=hid (And.intro hs1 (And.intro (HM.out.1 ss1 hs1.1) ho4)); have HB4:=hid hb4; clear hs1 ho4 hb4)
  | (go_at_call 69; refine HK1.out.mono ?_; rintro e W3' ⟨rfl,hw⟩; obtain rfl:=hw.symm)
  | (go_at_call 69; refine (HK2.out W4).mono ?_; rintro e W5 ⟨rfl,hw⟩; obtain rfl:=hw))
 clear HC1 HK1 HK2 HA2 HB4
 have hss:=HO6.out.1
 have HL6:=hid (show (ss1 ++ ss2).length ≤ 2000 by rw [List.length_append]; have h1:=HO4.out.2.1; have h2:=HM.out.2 ss2 hss.1; omega)
 have HS6:=hid (srtS_call W3.heap.size (ss1 ++ ss2).length v2 (ss1 ++ ss2) W6 HO6.out.2 (by have:=HL6.out; omega))
 obtain ⟨NM,hNM⟩ : ∃ NM,NM = nmsL la lb:=⟨_,rfl⟩
 have HNMc:=hid (show Lib.compact (srtB (ss1 ++ ss2)) = NM from (nms_of HW1.out.2 HW2.out.2.1 HO4.out.1.2 hss.2).trans hNM.symm)
 have HNM:=hid hNM
 have HNL:=hid (show NM.length ≤ 2000 by
  rw [← HNMc.out]
  refine Nat.le_trans (compactB_len _) ?_
  rw [List.length_mergeSort]
  exact HL6.out)
 have HNZ:=hid (show ∀ x ∈ NM,(ofL x).size ≤ maxLen by
  intro x hx
  rw [hNM] at hx
  obtain ⟨e,he,hex⟩:=nms_name hx
  have hz : e.nm.size ≤ maxLen:=by
   rcases he with he | he
   ·exact isRow_nm HLA.out.1 e he
   ·exact isRow_nm HLA.out.2 e he
  rw [← hex]
  exact hz)
 clear hss hNM
 go_upto_region 5 with (go_at_call 70; refine HS6.out.mono ?_; rintro e W7 ⟨rfl,ho7,hg7⟩; have HO7:=hid (And.intro ho7 hg7); clear ho7 hg7)
 have HS7:=hid (cptS_call W3.heap.size (ss1 ++ ss2).length v2 (srtB (ss1 ++ ss2)) W7 HO7.out.1 (by have:=HL6.out; omega))
 go_wp2_with (go_at_call 71; refine HS7.out.mono ?_; rintro e W8 ⟨v3,rfl,ho8,hg8⟩; rw [HNMc.out] at ho8; obtain ⟨p3,c3,rfl,hc3,hx3⟩:=names_shape ho8; have HO8:=hid (And.intro ho8 hg8); have HX3:=hid hx3; clear ho8 hg8 hx3)
 obtain ⟨B8,hB8⟩ : ∃ B8,B8 = W8.heap.size:=⟨_,rfl⟩
 have b68 : Below W3.heap.size W3 W8:=(HB6.out.grown HO7.out.2 HB6.out.size (fun k e => (World.ownsRow.lt HO6.out.2 k e).1)).grown HO8.out.2 (by have h1:=HO7.out.2.size; have h2:=HB6.out.size; omega) (fun k e => (World.ownsRow.lt HO6.out.2 k e).1)
 have b38 : Below B1 w W8:=HW3.out.2.2.trans ((HW3.out.2.1.trans (b68.mono HW3.out.2.1.size)).mono (by have h1:=HW3.out.2.2.size; have h2:=HB1.out; omega))
 have HG8 : Hid (∀ W,Below B8 W8 W → Grp W (B1 + 1) B1 n D1 ∧ Grp W (B2 + 1) B2 n' D2):=hid fun W h => HG3.out W ((HW3.out.2.1.trans (b68.mono HW3.out.2.1.size)).trans (h.mono (by rw [hB8]; have h1:=b68.size; have h2:=HW3.out.2.1.size; omega)))
 have HB8:=hid (And.intro hB8 b38)
 have HC3:=hid hc3
 clear b68 b38 hB8 hc3
 go_wp2
 go_loopw [8,29] (fun v iv wr => ∃ k : Nat,k ≤ NM.length ∧ iv = .int .i64 k ∧ wr.ownsRow B8 35 4 v ((NM.take k).filterMap (difO la lb)).length (((NM.take k).filterMap (difO la lb)).flatMap Dif.cs) ∧ Below B8 W8 wr) (fun _ i _ => NM.length - (intOf i).toNat)
 case atStart => exact ⟨0,Nat.zero_le _,rfl,World.ownsRow_nil _ _ _ _,Below.refl _ _⟩
 case round =>
  obtain ⟨k,hk,rfl,hown,hbr⟩:=hrel
  obtain ⟨wo,hwo⟩ : ∃ w1 : World,w1 = wr:=⟨_,rfl⟩
  rw [← hwo] at hown hbr ⊢
  clear hwo
  have HBR:=hid hbr
  have HOWN:=hid hown
  clear hown hbr
  by_cases hlt : k < NM.length
  ·obtain ⟨g3,rfl,hg3,hcell⟩:=HX3.out k hlt
   have hk0 : (0 : Int) ≤ (k : Int):=by omega
   have hlt' : (k : Int) < (NM.length : Int):=by omega
   have hcell' : wo.cell? ⟨g3,k,none⟩ = some (.string (ofL NM[k])):=by rw [HBR.out.cell (p:=⟨g3,k,none⟩) (by rw [HB8.out.1]; exact hg3)]; exact hcell
   obtain ⟨nm,hnm⟩ : ∃ nm,nm = NM[k]:=⟨_,rfl⟩
   rw [← hnm] at hcell'
   have hnz : (ofL nm).size ≤ maxLen:=HNZ.out nm (by rw [hnm]; exact List.getElem_mem hlt)
   obtain ⟨vl,zl,hlk1,hat1,how1,_⟩:=(HG8.out W8 (Below.refl _ _)).1.at (by have:=HNN.out.1; unfold maxLen; omega) hnz
   obtain ⟨vr,zr,hlk2,hat2,how2,_⟩:=(HG8.out W8 (Below.refl _ _)).2.at (by have:=HNN.out.2; unfold maxLen; omega) hnz
   have hzl : zl = txtsL la (ofL nm):=by
    have:=HW1.out.2.at_ (ofL nm)
    rw [hat1] at this
    exact DataW.held.inj this
   have hzr : zr = txtsL lb (ofL nm):=by
    have:=HW2.out.2.1.at_ (ofL nm)
    rw [hat2] at this
    exact DataW.held.inj this
   obtain ⟨pl,cl,rfl,hcl,hxl⟩:=OwnS.shape how1
   obtain ⟨pr,cr,rfl,hcr,hxr⟩:=OwnS.shape how2
   have hB1 : B1 < W8.heap.size:=by obtain ⟨es,ck,h,_⟩:=(HG8.out W8 (Below.refl _ _)).1; exact (Array.getElem?_eq_some_iff.1 h).1
   have hB2 : B2 < W8.heap.size:=by obtain ⟨es,ck,h,_⟩:=(HG8.out W8 (Below.refl _ _)).2; exact (Array.getElem?_eq_some_iff.1 h).1
   have HLK : Hid (∀ W,Below wo.heap.size wo W → (Instr.lookup 107 (.map (some B1)) (.string (ofL nm)) false).run Tryz.prog W = .ok (.slice pl zl.length cl) W ∧ (Instr.lookup 107 (.map (some B2)) (.string (ofL nm)) false).run Tryz.prog W = .ok (.slice pr zr.length cr) W):=hid fun W h =>
    ⟨hlk1 W ((h.block B1 (by have:=HBR.out.size; omega)).trans (HBR.out.block B1 (by rw [HB8.out.1]; exact hB1))),hlk2 W ((h.block B2 (by have:=HBR.out.size; omega)).trans (HBR.out.block B2 (by rw [HB8.out.1]; exact hB2)))⟩
   have HXL : Hid (∀ (j : Nat) (hj : j < zl.length),∃ g,pl = some ⟨g,0,none⟩ ∧ ∀ W : World,Below B8 W8 W → W.cell? ⟨g,j,none⟩ = some (.string zl[j])):=hid fun j hj => by
    obtain ⟨g,h1,h2,h3⟩:=hxl j hj
    exact ⟨g,h1,fun W h => (h.cell (p:=⟨g,j,none⟩) (by rw [HB8.out.1]; exact h2)).trans h3⟩
   have HXR : Hid (∀ (j : Nat) (hj : j < zr.length),∃ g,pr = some ⟨g,0,none⟩ ∧ ∀ W : World,Below B8 W8 W → W.cell? ⟨g,j,none⟩ = some (.string zr[j])):=hid fun j hj => by
    obtain ⟨g,h1,h2,h3⟩:=hxr j hj
    exact ⟨g,h1,fun W h => (h.cell (p:=⟨g,j,none⟩) (by rw [HB8.out.1]; exact h2)).trans h3⟩
   have hzz : zl.length ≤ 1000 ∧ zr.length ≤ 1000:=by
    have h1:=txtsL_le la (ofL nm)
    have h2:=txtsL_le lb (ofL nm)
    have h3:=HNN.out
    have h4:=HLA.out.1.len
    have h5:=HLA.out.2.len
    rw [← hzl] at h1
    rw [← hzr] at h2
    omega
   have HZZ:=hid hzz
   have HZL:=hid (And.intro hzl hzr)
   have HNMK:=hid (show ∀ h : k < NM.length,NM[k] = nm from fun _ => hnm.symm)
   have hcl':=hcl
   clear hcell hnm hnz hlk1 hat1 how1 hlk2 hat2 how2 hxl hxr hB1 hB2 hzz hzl hzr hg3 hcl'
   go_upto_region 8 with (fail)
   refine wp_region_held_drew (S:=(fun W => Below wo.heap.size wo W)) (by kernel_rfl) ((Below.refl _ _).drew) (fun hS => ?_)
   refine tkQ 0 (v:=?_) ?_ hS ?_; rotate_left; · intro w' hw'; have hcells:=HLK.out w' hw'; go_simp; (try with_reducible rfl)
   simp only [Act.put,pt1,pt2,pt3,pt4,pt5,pt6]
   refine tkQ 1 (v:=?_) ?_ hS ?_; rotate_left; · intro w' hw'; have hcells:=HLK.out w' hw'; go_simp; (try with_reducible rfl)
   simp only [Act.put,pt1,pt2,pt3,pt4,pt5,pt6]
   refine tkQ 2 (v:=?_) ?_ hS ?_; rotate_left; · intro w' hw'; have hcells:=HLK.out w' hw'; go_simp; (try with_reducible rfl)
   simp only [Act.put,pt1,pt2,pt3,pt4,pt5,pt6]
   refine tkQ 3 (v:=?_) ?_ hS ?_; rotate_left; · intro w' hw'; have hcells:=HLK.out w' hw'; go_simp; (try with_reducible rfl)
   simp only [Act.put,pt1,pt2,pt3,pt4,pt5,pt6]
   refine tkQ 4 (v:=?_) ?_ hS ?_; rotate_left; · intro w' hw'; have hcells:=HLK.out w' hw'; go_simp; (try with_reducible rfl)
   simp only [Act.put,pt1,pt2,pt3,pt4,pt5,pt6]
   refine tkQ 5 (v:=?_) ?_ hS ?_; rotate_left; · intro w' hw'; have hcells:=HLK.out w' hw'; go_simp; (try with_reducible rfl)
   simp only [Act.put,pt1,pt2,pt3,pt4,pt5,pt6]
   refine tkQ 6 (v:=?_) ?_ hS ?_; rotate_left; · intro w' hw'; have hcells:=HLK.out w' hw'; go_simp; (try with_reducible rfl)
   simp only [Act.put,pt1,pt2,pt3,pt4,pt5,pt6]
   refine tkQ 7 (v:=?_) ?_ hS ?_; rotate_left; · intro w' hw'; have hcells:=HLK.out w' hw'; go_simp; (try with_reducible rfl)
   simp only [Act.put,pt1,pt2,pt3,pt4,pt5,pt6]
   refine wpAnyH_done (by kernel_rfl) ?_ _
   (try dsimp only)
   have HB9:=hid hS
   clear hS HLK
   go_wp2
   go_loopw [13] (fun jv wi => ∃ j : Nat,jv = .int .i64 j ∧ j ≤ zl.length ∧ j ≤ zr.length ∧ (∀ i,i < j → zl[i]? = zr[i]?) ∧ Below wo.heap.size wo wi) (fun jv _ => zl.length + 1 - (intOf jv).toNat)
   case atStart => exact ⟨0,rfl,Nat.zero_le _,Nat.zero_le _,fun i hi => absurd hi (Nat.not_lt_zero _),HB9.out⟩
   case round =>
    obtain ⟨j,rfl,hj1,hj2,heq,hbi⟩:=hrel
    obtain ⟨wi,hwi⟩ : ∃ w1 : World,w1 = wr:=⟨_,rfl⟩
    rw [← hwi] at hbi ⊢
    clear hwi
    have HBI:=hid hbi
    have HEQ:=hid heq
    clear hbi heq
    have hj0 : (0 : Int) ≤ (j : Int):=by omega
    by_cases hm : j < zl.length ∧ j < zr.length
    ·obtain ⟨gl,rfl,hl⟩:=HXL.out j hm.1
     obtain ⟨gr,rfl,hr⟩:=HXR.out j hm.2
     obtain ⟨xl,hxl⟩ : ∃ xl,xl = zl[j]'hm.1:=⟨_,rfl⟩
     obtain ⟨xr,hxr⟩ : ∃ xr,xr = zr[j]'hm.2:=⟨_,rfl⟩
     rw [← hxl] at hl
     rw [← hxr] at hr
     have HC10 : Hid (∀ W,Below wi.heap.size wi W → W.cell? ⟨gl,j,none⟩ = some (.string xl) ∧ W.cell? ⟨gr,j,none⟩ = some (.string xr)):=hid fun W h => by
      have hb : Below B8 W8 W:=HBR.out.trans ((HBI.out.trans (h.mono HBI.out.size)).mono (by have h1:=HBR.out.size; have h2:=HB8.out.1; omega))
      exact ⟨hl W hb,hr W hb⟩
     have hjl : (j : Int) < (zl.length : Int):=by omega
     have hjr : (j : Int) < (zr.length : Int):=by omega
     have HXJ:=hid (show zl[j]? = some xl ∧ zr[j]? = some xr by rw [List.getElem?_eq_getElem hm.1,List.getElem?_eq_getElem hm.2,hxl,hxr]; exact ⟨rfl,rfl⟩)
     have hmin : (j : Int) < min (zl.length : Int) (zr.length : Int):=by omega
     clear hl hr hxl hxr
     by_cases hq : xl = xr
     ·have HEQJ:=hid (show zl[j]? = zr[j]? by rw [HXJ.out.1,HXJ.out.2,hq])
      subst hq
      go_upto_region 10 with (fail)
      refine wp_region_held_drew (S:=(fun W => Below wi.heap.size wi W)) (by kernel_rfl) ((Below.refl _ _).drew) (fun hS => ?_)
      refine tkQ 0 (v:=?_) ?_ hS ?_; rotate_left; · intro w' hw'; have hcells:=HC10.out w' hw'; go_simp; (try with_reducible rfl)
      simp only [Act.put,pt1,pt2,pt3,pt4,pt5,pt6]
      refine tkQ 1 (v:=?_) ?_ hS ?_; rotate_left; · intro w' hw'; have hcells:=HC10.out w' hw'; go_simp; (try with_reducible rfl)
      simp only [Act.put,pt1,pt2,pt3,pt4,pt5,pt6]
      refine tkQ 2 (v:=?_) ?_ hS ?_; rotate_left; · intro w' hw'; have hcells:=HC10.out w' hw'; go_simp; (try with_reducible rfl)
      simp only [Act.put,pt1,pt2,pt3,pt4,pt5,pt6]
      refine tkQ 3 (v:=?_) ?_ hS ?_; rotate_left; · intro w' hw'; have hcells:=HC10.out w' hw'; go_simp; (try with_reducible rfl)
      simp only [Act.put,pt1,pt2,pt3,pt4,pt5,pt6]
      refine tkQ 4 (v:=?_) ?_ hS ?_; rotate_left; · intro w' hw'; have hcells:=HC10.out w' hw'; go_simp; (try with_reducible rfl)
      simp only [Act.put,pt1,pt2,pt3,pt4,pt5,pt6]
      refine tkQ 5 (v:=?_) ?_ hS ?_; rotate_left; · intro w' hw'; have hcells:=HC10.out w' hw'; go_simp; (try with_reducible rfl)
      simp only [Act.put,pt1,pt2,pt3,pt4,pt5,pt6]
      refine tkQ 6 (v:=?_) ?_ hS ?_; rotate_left; · intro w' hw'; have hcells:=HC10.out w' hw'; go_simp; (try with_reducible rfl)
      simp only [Act.put,pt1,pt2,pt3,pt4,pt5,pt6]
      refine tkQ 7 (v:=?_) ?_ hS ?_; rotate_left; · intro w' hw'; have hcells:=HC10.out w' hw'; go_simp; (try with_reducible rfl)
      simp only [Act.put,pt1,pt2,pt3,pt4,pt5,pt6]
      refine tkQ 8 (v:=?_) ?_ hS ?_; rotate_left; · intro w' hw'; have hcells:=HC10.out w' hw'; go_simp; (try with_reducible rfl)
      simp only [Act.put,pt1,pt2,pt3,pt4,pt5,pt6]
      refine tkQ 9 (v:=?_) ?_ hS ?_; rotate_left; · intro w' hw'; have hcells:=HC10.out w' hw'; go_simp; (try with_reducible rfl)
      simp only [Act.put,pt1,pt2,pt3,pt4,pt5,pt6]
      refine tkQ 10 (v:=?_) ?_ hS ?_; rotate_left; · intro w' hw'; have hcells:=HC10.out w' hw'; go_simp; (try with_reducible rfl)
      simp only [Act.put,pt1,pt2,pt3,pt4,pt5,pt6]
      refine tkQ 11 (v:=?_) ?_ hS ?_; rotate_left; · intro w' hw'; have hcells:=HC10.out w' hw'; go_simp; (try with_reducible rfl)
      simp only [Act.put,pt1,pt2,pt3,pt4,pt5,pt6]
      refine tkQ 12 (v:=?_) ?_ hS ?_; rotate_left; · intro w' hw'; have hcells:=HC10.out w' hw'; go_simp; (try with_reducible rfl)
      simp only [Act.put,pt1,pt2,pt3,pt4,pt5,pt6]
      refine tkQ 13 (v:=?_) ?_ hS ?_; rotate_left; · intro w' hw'; have hcells:=HC10.out w' hw'; go_simp; (try with_reducible rfl)
      simp only [Act.put,pt1,pt2,pt3,pt4,pt5,pt6]
      refine tkQ 14 (v:=?_) ?_ hS ?_; rotate_left; · intro w' hw'; have hcells:=HC10.out w' hw'; go_simp; (try with_reducible rfl)
      simp only [Act.put,pt1,pt2,pt3,pt4,pt5,pt6]
      refine tkQ 15 (v:=?_) ?_ hS ?_; rotate_left; · intro w' hw'; have hcells:=HC10.out w' hw'; go_simp; (try with_reducible rfl)
      simp only [Act.put,pt1,pt2,pt3,pt4,pt5,pt6]
      refine tkQ 16 (v:=?_) ?_ hS ?_; rotate_left; · intro w' hw'; have hcells:=HC10.out w' hw'; go_simp; (try with_reducible rfl)
      simp only [Act.put,pt1,pt2,pt3,pt4,pt5,pt6]
      refine tkQ 17 (v:=?_) ?_ hS ?_; rotate_left; · intro w' hw'; have hcells:=HC10.out w' hw'; go_simp; (try with_reducible rfl)
      simp only [Act.put,pt1,pt2,pt3,pt4,pt5,pt6]
      refine wpAnyH_done (by kernel_rfl) ?_ _
      (try dsimp only)
      have HBJ:=hid hS
      clear hS HC10
      have hy1:=HZZ.out.1
      go_wp2
      go_roundw
      case rel => exact ⟨j + 1,by go_num,by omega,by omega,fun i hi => if e : i = j then by subst e; exact HEQJ.out else HEQ.out i (by omega),HBI.out.trans (HBJ.out.mono HBI.out.size)⟩
      case measure => simp [intOf]; omega
     ·have hqb : (xl.toList == xr.toList) = false:=by rw [strEqR]; exact decide_eq_false fun h => hq (ByteArray.ext (Array.ext' h))
      have HCP:=hid (comP_eq j zl zr hj1 hj2 HEQ.out (.inr (.inr (by rw [HXJ.out.1,HXJ.out.2]; simpa using hq))))
      go_upto_region 10 with (fail)
      refine wp_region_held_drew (S:=(fun W => Below wi.heap.size wi W)) (by kernel_rfl) ((Below.refl _ _).drew) (fun hS => ?_)
      refine tkQ 0 (v:=?_) ?_ hS ?_; rotate_left; · intro w' hw'; have hcells:=HC10.out w' hw'; go_simp; (try with_reducible rfl)
      simp only [Act.put,pt1,pt2,pt3,pt4,pt5,pt6]
      refine tkQ 1 (v:=?_) ?_ hS ?_; rotate_left; · intro w' hw'; have hcells:=HC10.out w' hw'; go_simp; (try with_reducible rfl)
      simp only [Act.put,pt1,pt2,pt3,pt4,pt5,pt6]
      refine tkQ 2 (v:=?_) ?_ hS ?_; rotate_left; · intro w' hw'; have hcells:=HC10.out w' hw'; go_simp; (try with_reducible rfl)
      simp only [Act.put,pt1,pt2,pt3,pt4,pt5,pt6]
      refine tkQ 3 (v:=?_) ?_ hS ?_; rotate_left; · intro w' hw'; have hcells:=HC10.out w' hw'; go_simp; (try with_reducible rfl)
      simp only [Act.put,pt1,pt2,pt3,pt4,pt5,pt6]
      refine tkQ 4 (v:=?_) ?_ hS ?_; rotate_left; · intro w' hw'; have hcells:=HC10.out w' hw'; go_simp; (try with_reducible rfl)
      simp only [Act.put,pt1,pt2,pt3,pt4,pt5,pt6]
      refine tkQ 5 (v:=?_) ?_ hS ?_; rotate_left; · intro w' hw'; have hcells:=HC10.out w' hw'; go_simp; (try with_reducible rfl)
      simp only [Act.put,pt1,pt2,pt3,pt4,pt5,pt6]
      refine tkQ 6 (v:=?_) ?_ hS ?_; rotate_left; · intro w' hw'; have hcells:=HC10.out w' hw'; go_simp; (try with_reducible rfl)
      simp only [Act.put,pt1,pt2,pt3,pt4,pt5,pt6]
      refine tkQ 7 (v:=?_) ?_ hS ?_; rotate_left; · intro w' hw'; have hcells:=HC10.out w' hw'; go_simp; (try with_reducible rfl)
      simp only [Act.put,pt1,pt2,pt3,pt4,pt5,pt6]
      refine tkQ 8 (v:=?_) ?_ hS ?_; rotate_left; · intro w' hw'; have hcells:=HC10.out w' hw'; go_simp; (try with_reducible rfl)
      simp only [Act.put,pt1,pt2,pt3,pt4,pt5,pt6]
      refine tkQ 9 (v:=?_) ?_ hS ?_; rotate_left; · intro w' hw'; have hcells:=HC10.out w' hw'; go_simp; (try with_reducible rfl)
      simp only [Act.put,pt1,pt2,pt3,pt4,pt5,pt6]
      refine tkQ 10 (v:=?_) ?_ hS ?_; rotate_left; · intro w' hw'; have hcells:=HC10.out w' hw'; go_simp; (try with_reducible rfl)
      simp only [Act.put,pt1,pt2,pt3,pt4,pt5,pt6]
      refine tkQ 11 (v:=?_) ?_ hS ?_; rotate_left; · intro w' hw'; have hcells:=HC10.out w' hw'; go_simp; (try with_reducible rfl)
      simp only [Act.put,pt1,pt2,pt3,pt4,pt5,pt6]
      refine tkQ 12 (v:=?_) ?_ hS ?_; rotate_left; · intro w' hw'; have hcells:=HC10.out w' hw'; go_simp; (try with_reducible rfl)
      simp only [Act.put,pt1,pt2,pt3,pt4,pt5,pt6]
      refine tkQ 13 (v:=?_) ?_ hS ?_; rotate_left; · intro w' hw'; have hcells:=HC10.out w' hw'; go_simp; (try with_reducible rfl)
      simp only [Act.put,pt1,pt2,pt3,pt4,pt5,pt6]
      refine tkQ 14 (v:=?_) ?_ hS ?_; rotate_left; · intro w' hw'; have hcells:=HC10.out w' hw'; go_simp; (try with_reducible rfl)
      simp only [Act.put,pt1,pt2,pt3,pt4,pt5,pt6]
      refine tkQ 15 (v:=?_) ?_ hS ?_; rotate_left; · intro w' hw'; have hcells:=HC10.out w' hw'; go_simp; (try with_reducible rfl)
      simp only [Act.put,pt1,pt2,pt3,pt4,pt5,pt6]
      refine tkQ 16 (v:=?_) ?_ hS ?_; rotate_left; · intro w' hw'; have hcells:=HC10.out w' hw'; go_simp; (try with_reducible rfl)
      simp only [Act.put,pt1,pt2,pt3,pt4,pt5,pt6]
      refine tkQ 17 (v:=?_) ?_ hS ?_; rotate_left; · intro w' hw'; have hcells:=HC10.out w' hw'; go_simp; (try with_reducible rfl)
      simp only [Act.put,pt1,pt2,pt3,pt4,pt5,pt6]
      refine wpAnyH_done (by kernel_rfl) ?_ _
      (try dsimp only)
      have HBJ:=hid (HBI.out.trans (hS.mono HBI.out.size))
      clear hS HC10
      obtain ⟨wx,hwx⟩ : ∃ w1 : World,w1 = wi.drew:=⟨_,rfl⟩
      rw [← hwx] at HBJ ⊢
      clear hwx
      have hy1:=HZZ.out
      have hy2:=HNL.out
      have hk2 : k < NM.length:=hlt
      have HTK:=hid (show NM.take (k + 1) = NM.take k ++ [nm] by rw [List.take_succ_eq_append_getElem hlt,HNMK.out])
      by_cases hd : j < zl.length ∨ j < zr.length
      ·have hmx : (j : Int) < max (zl.length : Int) (zr.length : Int):=by omega
       have HDF:=hid (show difO la lb nm = some ⟨ofL nm,j,zl.length,zr.length⟩ by rw [difO,← HZL.out.1,← HZL.out.2,HCP.out,if_pos (by omega)])
       obtain ⟨DL,hDL⟩ : ∃ DL,DL = (NM.take k).filterMap (difO la lb):=⟨_,rfl⟩
       have HDL:=hid hDL
       have hown:=HOWN.out
       rw [← hDL] at hown
       have hdl : DL.length ≤ 2000:=by
        rw [hDL]
        refine Nat.le_trans (List.length_filterMap_le _ _) ?_
        have:=HNL.out
        rw [List.length_take]
        omega
       have hcap1 : DL.length + 1 ≤ maxLen:=by unfold maxLen; omega
       have hcap2 : (DL.length + 1) * 40 ≤ 140737488355328:=by omega
       have HOW2:=hid (ownExt hown HBJ.out)
       clear hDL hown
       go_wp2_with (at_builtin; go_loud (refine wpList_append_own_at _ (by rfl) _ _ 31 (by rfl) B8 35 ti _ 4 40 Tryz.underlying31 hi hz0 hz1 hz2 rfl (by omega) u8 DL.length _ (by rfl) (HOW2.out.alloc _) ⟨wx.heap.size,0,none⟩ 1 1 (Dif.cs ⟨ofL nm,j,zl.length,zr.length⟩) (by rfl) (by rfl) (World.news_of_block (heap_alloc_new wx _)) (by simp [Dif.cs,Value.oneCell']) hcap1 hcap2 (by have h1:=HBR.out.size; have h2:=HBJ.out.size; have h3:=HB8.out.1; simp; omega) ?_); intro v' w5 hown' hgrow hnil hloc; have HO5:=hid hown'; have HG5:=hid hgrow; clear hown' hgrow hnil hloc)
       go_roundw
       case rel =>
        refine ⟨k + 1,by omega,by go_num,?_,?_⟩
        ·rw [HTK.out,List.filterMap_append,← HDL.out,List.filterMap_cons_some HDF.out,List.filterMap_nil,List.length_append,List.flatMap_append,List.flatMap_cons,List.flatMap_nil,List.append_nil]
         exact HO5.out
        ·have h1:=HBR.out.size; have h2:=HBJ.out.size; have h3:=HB8.out.1
         exact ((HBR.out.trans (HBJ.out.mono (by omega))).alloc (by omega) _).grown HG5.out (by simp; omega) (fun j e => (World.ownsRow.lt HOW2.out j e).1)
       case measure => simp [intOf]; omega
      ·have hmx : ¬ (j : Int) < max (zl.length : Int) (zr.length : Int):=by omega
       have HDF:=hid (show difO la lb nm = none by rw [difO,← HZL.out.1,← HZL.out.2,HCP.out,if_neg (by omega)])
       go_wp2
       go_roundw
       case rel =>
        have h1:=HBR.out.size; have h3:=HB8.out.1
        refine ⟨k + 1,by omega,by go_num,?_,HBR.out.trans (HBJ.out.mono (by omega))⟩
        rw [HTK.out,List.filterMap_append,List.filterMap_cons_none HDF.out,List.filterMap_nil,List.append_nil]
        exact ownExt HOWN.out HBJ.out
       case measure => simp [intOf]; omega
    ·have HCP:=hid (comP_eq j zl zr hj1 hj2 HEQ.out (by omega))
     have hmin : ¬ (j : Int) < min (zl.length : Int) (zr.length : Int):=by omega
     go_upto_region 10 with (fail)
     refine wp_region_held_drew (S:=(fun W => Below wi.heap.size wi W)) (by kernel_rfl) ((Below.refl _ _).drew) (fun hS => ?_)
     refine tkQ 0 (v:=?_) ?_ hS ?_; rotate_left; · intro w' hw'; (try dsimp only at hw'); go_simp; (try with_reducible rfl)
     simp only [Act.put,pt1,pt2,pt3,pt4,pt5,pt6]
     refine tkQ 1 (v:=?_) ?_ hS ?_; rotate_left; · intro w' hw'; (try dsimp only at hw'); go_simp; (try with_reducible rfl)
     simp only [Act.put,pt1,pt2,pt3,pt4,pt5,pt6]
     refine tkQ 2 (v:=?_) ?_ hS ?_; rotate_left; · intro w' hw'; (try dsimp only at hw'); go_simp; (try with_reducible rfl)
     simp only [Act.put,pt1,pt2,pt3,pt4,pt5,pt6]
     refine tkQ 3 (v:=?_) ?_ hS ?_; rotate_left; · intro w' hw'; (try dsimp only at hw'); go_simp; (try with_reducible rfl)
     simp only [Act.put,pt1,pt2,pt3,pt4,pt5,pt6]
     refine tkQ 4 (v:=?_) ?_ hS ?_; rotate_left; · intro w' hw'; (try dsimp only at hw'); go_simp; (try with_reducible rfl)
     simp only [Act.put,pt1,pt2,pt3,pt4,pt5,pt6]
     refine tkQ 5 (v:=?_) ?_ hS ?_; rotate_left; · intro w' hw'; (try dsimp only at hw'); go_simp; (try with_reducible rfl)
     simp only [Act.put,pt1,pt2,pt3,pt4,pt5,pt6]
     refine tkQ 6 (v:=?_) ?_ hS ?_; rotate_left; · intro w' hw'; (try dsimp only at hw'); go_simp; (try with_reducible rfl)
     simp only [Act.put,pt1,pt2,pt3,pt4,pt5,pt6]
     refine tkQ 7 (v:=?_) ?_ hS ?_; rotate_left; · intro w' hw'; (try dsimp only at hw'); go_simp; (try with_reducible rfl)
     simp only [Act.put,pt1,pt2,pt3,pt4,pt5,pt6]
     refine wpAnyH_take (i:=8) (oi:=_) (v:=undef) rfl (by kernel_rfl) (by kernel_rfl) (by kernel_rfl) (fun _ _ _ h => h) (Or.inr ⟨by rfl,rfl⟩) hS ?_
     simp only [Act.put,pt1,pt2,pt3,pt4,pt5,pt6]
     refine wpAnyH_take (i:=9) (oi:=_) (v:=undef) rfl (by kernel_rfl) (by kernel_rfl) (by kernel_rfl) (fun _ _ _ h => h) (Or.inr ⟨by rfl,rfl⟩) hS ?_
     simp only [Act.put,pt1,pt2,pt3,pt4,pt5,pt6]
     refine wpAnyH_take (i:=10) (oi:=_) (v:=undef) rfl (by kernel_rfl) (by kernel_rfl) (by kernel_rfl) (fun _ _ _ h => h) (Or.inr ⟨by rfl,rfl⟩) hS ?_
     simp only [Act.put,pt1,pt2,pt3,pt4,pt5,pt6]
     refine wpAnyH_take (i:=11) (oi:=_) (v:=undef) rfl (by kernel_rfl) (by kernel_rfl) (by kernel_rfl) (fun _ _ _ h => h) (Or.inr ⟨by rfl,rfl⟩) hS ?_
     simp only [Act.put,pt1,pt2,pt3,pt4,pt5,pt6]
     refine wpAnyH_take (i:=12) (oi:=_) (v:=undef) rfl (by kernel_rfl) (by kernel_rfl) (by kernel_rfl) (fun _ _ _ h => h) (Or.inr ⟨by rfl,rfl⟩) hS ?_
     simp only [Act.put,pt1,pt2,pt3,pt4,pt5,pt6]
     refine wpAnyH_take (i:=13) (oi:=_) (v:=undef) rfl (by kernel_rfl) (by kernel_rfl) (by kernel_rfl) (fun _ _ _ h => h) (Or.inr ⟨by rfl,rfl⟩) hS ?_
     simp only [Act.put,pt1,pt2,pt3,pt4,pt5,pt6]
     refine wpAnyH_take (i:=14) (oi:=_) (v:=undef) rfl (by kernel_rfl) (by kernel_rfl) (by kernel_rfl) (fun _ _ _ h => h) (Or.inr ⟨by rfl,rfl⟩) hS ?_
     simp only [Act.put,pt1,pt2,pt3,pt4,pt5,pt6]
     refine wpAnyH_take (i:=15) (oi:=_) (v:=undef) rfl (by kernel_rfl) (by kernel_rfl) (by kernel_rfl) (fun _ _ _ h => h) (Or.inr ⟨by rfl,rfl⟩) hS ?_
     simp only [Act.put,pt1,pt2,pt3,pt4,pt5,pt6]
     refine wpAnyH_take (i:=16) (oi:=_) (v:=undef) rfl (by kernel_rfl) (by kernel_rfl) (by kernel_rfl) (fun _ _ _ h => h) (Or.inr ⟨by rfl,rfl⟩) hS ?_
     simp only [Act.put,pt1,pt2,pt3,pt4,pt5,pt6]
     refine tkQ 17 (v:=?_) ?_ hS ?_; rotate_left; · intro w' hw'; (try dsimp only at hw'); go_simp; (try with_reducible rfl)
     simp only [Act.put,pt1,pt2,pt3,pt4,pt5,pt6]
     refine wpAnyH_done (by kernel_rfl) ?_ _
     (try dsimp only)
     have HBJ:=hid (HBI.out.trans (hS.mono HBI.out.size))
     clear hS
     obtain ⟨wx,hwx⟩ : ∃ w1 : World,w1 = wi.drew:=⟨_,rfl⟩
     rw [← hwx] at HBJ ⊢
     clear hwx
     have hy1:=HZZ.out
     have hy2:=HNL.out
     have hk2 : k < NM.length:=hlt
     have HTK:=hid (show NM.take (k + 1) = NM.take k ++ [nm] by rw [List.take_succ_eq_append_getElem hlt,HNMK.out])
     by_cases hd : j < zl.length ∨ j < zr.length
     ·have hmx : (j : Int) < max (zl.length : Int) (zr.length : Int):=by omega
      have HDF:=hid (show difO la lb nm = some ⟨ofL nm,j,zl.length,zr.length⟩ by rw [difO,← HZL.out.1,← HZL.out.2,HCP.out,if_pos (by omega)])
      obtain ⟨DL,hDL⟩ : ∃ DL,DL = (NM.take k).filterMap (difO la lb):=⟨_,rfl⟩
      have HDL:=hid hDL
      have hown:=HOWN.out
      rw [← hDL] at hown
      have hdl : DL.length ≤ 2000:=by
       rw [hDL]
       refine Nat.le_trans (List.length_filterMap_le _ _) ?_
       have:=HNL.out
       rw [List.length_take]
       omega
      have hcap1 : DL.length + 1 ≤ maxLen:=by unfold maxLen; omega
      have hcap2 : (DL.length + 1) * 40 ≤ 140737488355328:=by omega
      have HOW2:=hid (ownExt hown HBJ.out)
      clear hDL hown
      go_wp2_with (at_builtin; go_loud (refine wpList_append_own_at _ (by rfl) _ _ 31 (by rfl) B8 35 ti _ 4 40 Tryz.underlying31 hi hz0 hz1 hz2 rfl (by omega) u8 DL.length _ (by rfl) (HOW2.out.alloc _) ⟨wx.heap.size,0,none⟩ 1 1 (Dif.cs ⟨ofL nm,j,zl.length,zr.length⟩) (by rfl) (by rfl) (World.news_of_block (heap_alloc_new wx _)) (by simp [Dif.cs,Value.oneCell']) hcap1 hcap2 (by have h1:=HBR.out.size; have h2:=HBJ.out.size; have h3:=HB8.out.1; simp; omega) ?_); intro v' w5 hown' hgrow hnil hloc; have HO5:=hid hown'; have HG5:=hid hgrow; clear hown' hgrow hnil hloc)
      go_roundw
      case rel =>
       refine ⟨k + 1,by omega,by go_num,?_,?_⟩
       ·rw [HTK.out,List.filterMap_append,← HDL.out,List.filterMap_cons_some HDF.out,List.filterMap_nil,List.length_append,List.flatMap_append,List.flatMap_cons,List.flatMap_nil,List.append_nil]
        exact HO5.out
       ·have h1:=HBR.out.size; have h2:=HBJ.out.size; have h3:=HB8.out.1
        exact ((HBR.out.trans (HBJ.out.mono (by omega))).alloc (by omega) _).grown HG5.out (by simp; omega) (fun j e => (World.ownsRow.lt HOW2.out j e).1)
      case measure => simp [intOf]; omega
     ·have hmx : ¬ (j : Int) < max (zl.length : Int) (zr.length : Int):=by omega
      have HDF:=hid (show difO la lb nm = none by rw [difO,← HZL.out.1,← HZL.out.2,HCP.out,if_neg (by omega)])
      go_wp2
      go_roundw
      case rel =>
       have h1:=HBR.out.size; have h3:=HB8.out.1
       refine ⟨k + 1,by omega,by go_num,?_,HBR.out.trans (HBJ.out.mono (by omega))⟩
       rw [HTK.out,List.filterMap_append,List.filterMap_cons_none HDF.out,List.filterMap_nil,List.append_nil]
       exact ownExt HOWN.out HBJ.out
      case measure => simp [intOf]; omega
  ·obtain rfl : k = NM.length:=by omega
   clear hlt
   rw [List.take_length] at HOWN
   have hnq : ¬ (NM.length : Int) < (NM.length : Int):=by omega
   go_wp2
   go_ret
   exact ⟨_,rfl,by rw [cmpL,← HNM.out]; exact HOWN.out.mono (by have h1:=HB8.out.2.size; have h2:=HB1.out; have h3:=HB8.out.1; omega),HB8.out.2.trans (HBR.out.mono (by have h1:=HB8.out.2.size; have h2:=HB1.out; have h3:=HB8.out.1; omega))⟩
end Go.Proofs.YtkljbfaemahchaaGreatDoor
