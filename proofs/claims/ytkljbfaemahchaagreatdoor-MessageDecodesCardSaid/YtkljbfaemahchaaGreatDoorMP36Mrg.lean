/-
  message.Encode of any message: its text, or the first error. Conditions: the message can be read as data; Tabs, ZTab.
-/
import Derived.Test.YtkljbfaemahchaaGreatDoorMP18Mrg
import Derived.Test.YtkljbfaemahchaaGreatDoorMP34Mrg
import Derived.Test.YtkljbfaemahchaaGreatDoorMP35Mrg
namespace Go.Proofs.YtkljbfaemahchaaGreatDoor
set_option linter.unusedVariables false
set_option linter.unusedSimpArgs false
section
open Go Go.RowKit Go.Shelf
def encF (d : Msg) : ByteArray × Int:=if msgE d ≠ 0 then (⟨#[]⟩,msgE d) else if (litF d.b).2 ≠ 0 then (⟨#[]⟩,(litF d.b).2) else (encT d (litF d.b).1,0)
set_option maxRecDepth 100000 in
set_option maxHeartbeats 4000000 in
theorem mEncBad1 (c : MC) (d : Msg) (w : World) (hd : IsMsg (· < w.heap.size) w c d) (hT : Tabs w) (h0 : msgE d ≠ 0) :
 Calls Tryz.prog 39 #[c.v] w fun e w' => e = .returned (.tuple #[.string ⟨#[]⟩,.int .i64 (msgE d)]) ∧ Below w.heap.size w w':=by
 have HM:=hid (encAt c d w hd hT)
 obtain ⟨x,hx⟩ : ∃ x,x = msgE d:=⟨_,rfl⟩
 have HCK : Hid (∀ w1,Below (w.alloc (mObj c)).heap.size (w.alloc (mObj c)) w1 → Calls Tryz.prog 89 #[c.v] w1 fun e w' => e = .returned (.int .i64 x) ∧ Below w1.heap.size w1 w'):=hid fun w1 h => by
  have q:=encAt c d w hd hT w1 h
  rw [hx]; exact msgCheck_call c d w1 q.msg q.tabs
 rw [← hx] at h0 ⊢
 have hx0 : (x == 0) = false:=by simp; exact h0
 have hx1 : (x != 0) = true:=by simp; exact h0
 clear hd hT h0 hx
 obtain ⟨⟨ce,sa,sn,sc⟩,m,a,n,cap,⟨k,i',s,tt,la,ll,lc,fa,fl,fc⟩⟩:=c
 have h00:=HM.out _ (Below.refl _ _)
 have h0t:=h00.ten
 dsimp only [Ten,mObj] at h0t
 obtain ⟨e0,e1,e2,e3,e4,e5,e6,e7,e8,e9⟩:=h0t
 clear h00
 have hck:=HCK.out _ (Below.refl _ _)
 have HCK0:=hid hck
 dsimp only [mObj,SC.v,VC.v,MC.v] at HM HCK0 ⊢
 clear hck HCK
 go_enter Tryz.func39,Tryz.ntmps39
 go_wp2_with (first
  | (go_at_call 89; refine HCK0.out.mono ?_; rintro e w2 ⟨rfl,hb2⟩; have HB:=hid (HM.out _ hb2).bel))
 exact bodyPost_ret (v:=.tuple #[.string ⟨#[]⟩,.int .i64 x]) (by simp [results,Tryz.results39,go_sem]) rfl ⟨rfl,HB.out⟩
set_option maxRecDepth 100000 in
set_option maxHeartbeats 4000000 in
theorem mEncBad2 (c : MC) (d : Msg) (w : World) (hd : IsMsg (· < w.heap.size) w c d) (hT : Tabs w) (hZ : ZTab w) (h0 : msgE d = 0) (h1 : (litF d.b).2 ≠ 0) :
 Calls Tryz.prog 39 #[c.v] w fun e w' => e = .returned (.tuple #[.string ⟨#[]⟩,.int .i64 (litF d.b).2]) ∧ Below w.heap.size w w':=by
 have HM:=hid (encAt c d w hd hT)
 have HCK : Hid (∀ w1,Below (w.alloc (mObj c)).heap.size (w.alloc (mObj c)) w1 → Calls Tryz.prog 89 #[c.v] w1 fun e w' => e = .returned (.int .i64 0) ∧ Below w1.heap.size w1 w'):=hid fun w1 h => by
  have q:=encAt c d w hd hT w1 h
  rw [← h0]; exact msgCheck_call c d w1 q.msg q.tabs
 obtain ⟨x,hx⟩ : ∃ x,x = (litF d.b).2:=⟨_,rfl⟩
 obtain ⟨t,ht⟩ : ∃ t,t = (litF d.b).1:=⟨_,rfl⟩
 have HLT : Hid (∀ w1,Below (w.alloc (mObj c)).heap.size (w.alloc (mObj c)) w1 → Calls Tryz.prog 42 #[c.b.v] w1 fun e w' => e = .returned (.tuple #[.string t,.int .i64 x]) ∧ Below w1.heap.size w1 w'):=hid fun w1 h => by
  have q:=encAt c d w hd hT w1 h
  rw [hx,ht]
  exact litG_call c.b d.b w1 q.msg.b q.tabs (hZ.below q.bel)
 rw [← hx] at h1 ⊢
 have hx0 : (x == 0) = false:=by simp; exact h1
 have hx1 : (x != 0) = true:=by simp; exact h1
 clear hd hT h0 h1 hx ht hZ
 obtain ⟨⟨ce,sa,sn,sc⟩,m,a,n,cap,⟨k,i',s,tt,la,ll,lc,fa,fl,fc⟩⟩:=c
 have h00:=HM.out _ (Below.refl _ _)
 have h0t:=h00.ten
 dsimp only [Ten,mObj] at h0t
 obtain ⟨e0,e1,e2,e3,e4,e5,e6,e7,e8,e9⟩:=h0t
 clear h00
 have hck:=HCK.out _ (Below.refl _ _)
 have HCK0:=hid hck
 dsimp only [mObj,SC.v,VC.v,MC.v] at HM HCK0 HLT ⊢
 clear hck HCK
 go_enter Tryz.func39,Tryz.ntmps39
 go_wp2_with (first
  | (go_at_call 89; refine HCK0.out.mono ?_; rintro e w2 ⟨rfl,hb2⟩; obtain ⟨⟨j0,j1,j2,j3,j4,j5,j6,j7,j8,j9⟩,_,_,_⟩:=HM.out _ hb2; clear e0 e1 e2 e3 e4 e5 e6 e7 e8 e9)
  | (go_at_call 42; refine (HLT.out _ hb2).mono ?_; rintro e w3 ⟨rfl,hb3⟩; have HB:=hid (HM.out _ (hb2.trans (hb3.mono hb2.size))).bel))
 exact bodyPost_ret (v:=.tuple #[.string ⟨#[]⟩,.int .i64 x]) (by simp [results,Tryz.results39,go_sem]) rfl ⟨rfl,HB.out⟩
theorem mEncG_call (c : MC) (d : Msg) (w : World) (hd : IsMsg (· < w.heap.size) w c d) (hT : Tabs w) (hZ : ZTab w) :
 Calls Tryz.prog 39 #[c.v] w fun e w' => e = .returned (.tuple #[.string (encF d).1,.int .i64 (encF d).2]) ∧ Below w.heap.size w w':=by
 unfold encF
 by_cases h0 : msgE d = 0
 ·rw [if_neg (fun h => h h0)]
  by_cases h1 : (litF d.b).2 = 0
  ·rw [if_neg (fun h => h h1)]
   refine mEncode_call c d w hd hT (litF d.b).1 h0 (litF_size d.b) fun w' h => ?_
   have q:=litG_call c.b d.b w' (hd.b.same fun b hb => ⟨Nat.lt_of_lt_of_le hb h.size,h.block b hb⟩) (hT.below h) (hZ.below h)
   rw [h1] at q
   exact q
  ·rw [if_pos h1]; exact mEncBad2 c d w hd hT hZ h0 h1
 ·rw [if_pos h0]; exact mEncBad1 c d w hd hT h0
theorem encF_ok {d : Msg} (h : (encF d).2 = 0) : msgE d = 0 ∧ (litF d.b).2 = 0 ∧ (encF d).1 = encT d (litF d.b).1:=by
 unfold encF at h ⊢
 by_cases h0 : msgE d = 0
 ·by_cases h1 : (litF d.b).2 = 0
  ·exact ⟨h0,h1,by rw [if_neg (fun h => h h0),if_neg (fun h => h h1)]⟩
  ·rw [if_neg (fun h => h h0),if_pos h1] at h; exact absurd h h1
 ·rw [if_pos h0] at h; exact absurd h h0
end
section
open Go Go.RowKit Go.Shelf
def decM (s : ByteArray) : Option Msg:=match pieces 4 s with
 | [a,b,c,e] => match parseS a.data.toList with
   | none => none
   | some st => if atoiOK b.data.toList = true ∧ (parF e).2.2 = 0 ∧ (spl 44 c.data.toList).all atoiOK = true ∧ encF ⟨st,atoiV b.data.toList,(spl 44 c.data.toList).map atoiV,(parF e).1⟩ = (s,0)
     then some ⟨st,atoiV b.data.toList,(spl 44 c.data.toList).map atoiV,(parF e).1⟩ else none
 | _ => none
theorem decM_enc {s : ByteArray} {d : Msg} (h : decM s = some d) : encF d = (s,0):=by
 unfold decM at h
 split at h
 ·split at h
  ·cases h
  ·split at h
   ·rename_i hc
    obtain rfl:=Option.some.inj h
    exact hc.2.2.2
   ·cases h
 ·cases h
theorem atoi_nat (n : Int) (h : 0 ≤ n) (h2 : n < 9223372036854775808) : atoiOK (Lib.itoa n) = true ∧ atoiV (Lib.itoa n) = n:=by
 rw [itoa_nat n h]
 unfold atoiOK atoiV
 rw [atoi_dec n.toNat (by omega)]
 exact ⟨rfl,by simp; omega⟩
theorem itoa_ne (n : Int) (h : 0 ≤ n) (c d : UInt8) (hd : d.toNat < 48) (hc : c ∈ Lib.itoa n) : c ≠ d:=fun e => itoa_no n h d hd (e ▸ hc)
theorem join_ne (d c : UInt8) (h : c ≠ d) : ∀ ls : List (List UInt8),(∀ x ∈ ls,d ∉ x) → d ∉ Lib.join ls [c]
 | [],_ => fun e => absurd e (by simp [Lib.join,List.intercalate])
 | [x],h1 => by rw [join_one]; exact h1 x (List.mem_cons_self ..)
 | x :: y :: r,h1 => by
   have ih:=join_ne d c h (y :: r) (fun z hz => h1 z (List.mem_cons_of_mem _ hz))
   rw [join_two]
   intro e
   rcases List.mem_append.1 e with e | e
   ·rcases List.mem_append.1 e with e | e
    ·exact h1 x (List.mem_cons_self ..) e
    ·exact h (List.mem_singleton.1 e).symm
   ·exact ih e
theorem entAt_all : ∀ (es : List Int) (k : Nat),k ≤ es.length → entAt es k = 0 → ∀ j (h : j < es.length),k ≤ j → entryB es[j] = true:=fun es k hk h0 => by
 obtain ⟨n,hn⟩ : ∃ n,n = es.length - k:=⟨_,rfl⟩
 induction n generalizing k with
 | zero => intro j h hj; omega
 | succ n ih =>
   intro j h hj
   have hlt : k < es.length:=by omega
   have hb : entryB es[k] = true:=by
    cases hb : entryB es[k]
    ·have:=entAt_bad es k hlt hb
     rw [h0] at this; cases this
    ·rfl
   by_cases e : j = k
   ·subst e; exact hb
   have hl : k = 0 ∨ es[k - 1] < es[k]:=by
    rcases Nat.eq_zero_or_pos k with h1 | h1
    ·exact .inl h1
    ·right
     by_cases h2 : es[k] ≤ es[k - 1]
     ·have:=entAt_late es k hlt hb h1 h2
      rw [h0] at this; cases this
     ·omega
   exact ih (k + 1) (by omega) (by rw [← entAt_step es k hlt hb hl]; exact h0) (by omega) j h (by omega)
theorem msgE_ok {d : Msg} (h : msgE d = 0) : stampE d.st = 0 ∧ 0 ≤ d.m ∧ d.m ≤ 1099511627776 ∧ d.es ≠ [] ∧ (∀ x ∈ d.es,1 ≤ x ∧ x ≤ 1048576) ∧ bodyE d.b = 0:=by
 unfold msgE at h
 split at h
 ·contradiction
 rename_i h1
 split at h
 ·simp at h
 rename_i h2
 split at h
 ·simp at h
 rename_i h3
 split at h
 ·simp at h
 split at h
 ·contradiction
 rename_i h5
 have q : heavyB d.m = false:=by
  cases hb : heavyB d.m
  ·rfl
  ·exact absurd hb h2
 unfold heavyB at q
 simp at q
 have h5' : entAt d.es 0 = 0:=by simpa using h5
 refine ⟨by simpa using h1,by omega,by omega,h3,fun x hx => ?_,h⟩
 obtain ⟨j,hj,rfl⟩:=List.mem_iff_getElem.1 hx
 have:=entAt_all d.es 0 (Nat.zero_le _) h5' j hj (Nat.zero_le _)
 unfold entryB at this
 simp at this
 exact this
theorem pieces_enc (d : Msg) (t : ByteArray) (h : msgE d = 0) : pieces 4 (encT d t) = [stampT d.st,itoaB d.m,joinB (d.es.map itoaB) ⟨#[44]⟩,t]:=by
 obtain ⟨h1,h2,h3,h4,h5,_⟩:=msgE_ok h
 obtain ⟨g1,g2,g3,g4⟩:=stampE_ok h1
 have e : encT d t = stampT d.st ++ (⟨#[32]⟩ ++ (itoaB d.m ++ (⟨#[32]⟩ ++ (joinB (d.es.map itoaB) ⟨#[44]⟩ ++ (⟨#[32]⟩ ++ t))))):=by
  unfold encT
  apply ByteArray.ext; simp [ByteArray.data_append]
 rw [e]
 unfold pieces
 have hz : min 4 ((stampT d.st ++ (⟨#[32]⟩ ++ (itoaB d.m ++ (⟨#[32]⟩ ++ (joinB (d.es.map itoaB) ⟨#[44]⟩ ++ (⟨#[32]⟩ ++ t)))))).size + 1) - 1 = 3:=by
  simp only [ByteArray.size_append]
  have e1 : (⟨#[32]⟩ : ByteArray).size = 1:=rfl
  omega
 rw [hz]
 have hj : ∀ (ls : List Int) (c : UInt8),(32 : UInt8) ≠ c → (∀ x ∈ ls,0 ≤ x) → ∀ b ∈ (joinB (ls.map itoaB) ⟨#[c]⟩).data.toList,b ≠ 32:=fun ls c hc hl b hb e => by
  subst e
  have hb' : (32 : UInt8) ∈ Lib.join ((ls.map itoaB).map fun x => x.data.toList) [c]:=by unfold joinB at hb; exact hb
  refine join_ne 32 c (fun e => hc e.symm) ((ls.map itoaB).map fun x => x.data.toList) (fun x hx => ?_) hb'
  rw [List.map_map,List.mem_map] at hx
  obtain ⟨y,hy,rfl⟩:=hx
  exact itoa_no y (hl y hy) 32 (by decide)
 have hs : ∀ b ∈ (stampT d.st).data.toList,b ≠ 32:=fun b hb => by
  unfold stampT at hb
  simp only [ByteArray.data_append,Array.toList_append] at hb
  rcases List.mem_append.1 hb with hb | hb
  ·rcases List.mem_append.1 hb with hb | hb
   ·exact itoa_ne d.st.e (by omega) b 32 (by decide) hb
   ·rintro rfl
    exact absurd hb (by decide)
  ·exact hj d.st.ps 46 (by decide) (fun x hx => (g4 x hx).1) b hb
 rw [splitB_word 2 _ _ hs,splitB_word 1 _ _ (fun b hb => itoa_ne d.m h2 b 32 (by decide) hb),splitB_word 0 _ _ (hj d.es 44 (by decide) (fun x hx => by have:=h5 x hx; omega))]
 rfl
theorem decM_text (d : Msg) (h : (encF d).2 = 0) (hn : Named d.b) : decM (encF d).1 = some d:=by
 obtain ⟨h1,h2,h3⟩:=encF_ok h
 obtain ⟨g1,g2,g3,g4,g5,g6⟩:=msgE_ok h1
 have ho : spl 44 (joinB (d.es.map itoaB) ⟨#[44]⟩).data.toList = d.es.map Lib.itoa:=by
  have e : (joinB (d.es.map itoaB) ⟨#[44]⟩).data.toList = Lib.join (d.es.map Lib.itoa) [44]:=by
   unfold joinB
   rw [List.map_map]
   rfl
  rw [e]
  refine spl_join 44 _ (by simpa using g4) fun x hx => ?_
  rw [List.mem_map] at hx
  obtain ⟨y,hy,rfl⟩:=hx
  exact itoa_no y (by have:=g5 y hy; omega) 44 (by decide)
 have ha : (d.es.map Lib.itoa).all atoiOK = true:=by
  rw [List.all_eq_true]
  intro z hz
  rw [List.mem_map] at hz
  obtain ⟨y,hy,rfl⟩:=hz
  have q:=g5 y hy
  exact (atoi_nat y (by omega) (by omega)).1
 have hv : (d.es.map Lib.itoa).map atoiV = d.es:=by
  rw [List.map_map]
  refine (List.map_congr_left fun x hx => ?_).trans (List.map_id _)
  have q:=g5 x hx
  exact (atoi_nat x (by omega) (by omega)).2
 have hm:=atoi_nat d.m g2 (by omega)
 have hp:=lit_back h2 hn
 have he : encF d = ((encF d).1,0):=by rw [← h]
 unfold decM
 rw [h3,pieces_enc d _ h1]
 dsimp only
 rw [parseS_text d.st g1]
 dsimp only
 rw [ho,ha,hv,hp,show (itoaB d.m).data.toList = Lib.itoa d.m from rfl,hm.1,hm.2]
 dsimp only
 rw [if_pos ⟨rfl,rfl,rfl,by rw [← h3]; exact he⟩]
end
end Go.Proofs.YtkljbfaemahchaaGreatDoor
