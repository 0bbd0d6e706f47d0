/-
  MessageTexts returns true for every message. Conditions: the message can be read as data; Tabs, ZTab, the variables that the library reads.
-/
import Derived.Test.YtkljbfaemahchaaGreatDoorMP41Mrg
import Derived.Test.YtkljbfaemahchaaGreatDoorMP42Mrg
import Derived.Test.YtkljbfaemahchaaGreatDoorMP6Mrg
import Derived.Test.YtkljbfaemahchaaGreatDoorMP40Mrg
namespace Go.Proofs.YtkljbfaemahchaaGreatDoor
set_option linter.unusedVariables false
set_option linter.unusedSimpArgs false
open Go Go.RowKit Go.Shelf
def orgT (l : List Int) : ByteArray:=⟨((l.map fun x => 44 :: Lib.itoa x).flatten).toArray⟩
theorem orgT_snoc (l : List Int) (x : Int) : orgT (l ++ [x]) = orgT l ++ ⟨#[44]⟩ ++ itoaB x:=by
 apply ByteArray.ext; apply Array.ext'
 simp [orgT,itoaB,ByteArray.data_append]
theorem orgT_join : ∀ l : List Int,l ≠ [] → (l.map fun x => 44 :: Lib.itoa x).flatten = 44 :: Lib.join (l.map Lib.itoa) [44]
 | [],h => absurd rfl h
 | [x],_ => by simp [Lib.join,List.intercalate]
 | x :: y :: r,_ => by
   have ih:=orgT_join (y :: r) (by simp)
   simp only [List.map_cons,List.flatten_cons] at ih ⊢
   rw [ih,join_two]
   simp
theorem orgT_ne (l : List Int) (h : l ≠ []) : orgT l = ⟨#[44]⟩ ++ joinB (l.map itoaB) ⟨#[44]⟩:=by
 apply ByteArray.ext; apply Array.ext'
 unfold orgT joinB
 rw [orgT_join l h,List.map_map]
 simp only [ByteArray.data_append,Array.toList_append]
 rfl
theorem orgT_size : ∀ l : List Int,(∀ x ∈ l,I64 x) → (orgT l).size ≤ l.length * 22:=fun l h => by
 unfold orgT
 rw [bSize]
 induction l with
 | nil => simp
 | cons x l ih =>
   have h1:=itoaB_len x (h x (List.mem_cons_self ..))
   have h2:=ih fun y hy => h y (List.mem_cons_of_mem _ hy)
   unfold itoaB at h1
   simp only [List.map_cons,List.flatten_cons,List.length_append,List.length_cons] at h1 h2 ⊢
   have h3 : (Lib.itoa x).length ≤ 21:=h1
   omega
structure MTAt (w W : World) (c : MC) (d : Msg) : Prop where
 box : W.heap[w.heap.size]? = some (mObj c)
 bel : Below w.heap.size w W
 msg : IsMsg (· < W.heap.size) W c d
 tabs : Tabs W
 ztab : ZTab W
 nums : NumVars W
section
attribute [-go_sem] loadCellsFrom storeCells
attribute [local go_sem] lcf0 lcf1 lcf2 lcf3 lcf4 lcf5 stc0 stc1 stc2
set_option maxRecDepth 100000 in
set_option maxHeartbeats 16000000 in
theorem mtexts_call (c : MC) (d : Msg) (w : World) (hd : IsMsg (· < w.heap.size) w c d) (hT : Tabs w) (hZ : ZTab w) (hNV : NumVars w) :
 Calls Tryz.prog 9 #[c.v] w fun e w' => e = .returned (.bool true) ∧ Below w.heap.size w w':=by
 obtain ⟨w1,hw1⟩ : ∃ w1,w1 = w.alloc (mObj c):=⟨_,rfl⟩
 obtain ⟨N,hN⟩ : ∃ N,N = w.heap.size:=⟨_,rfl⟩
 have hb1 : Below w.heap.size w w1:=by rw [hw1]; exact (Below.refl _ w).alloc (Nat.le_refl _) _
 have hbox : w1.heap[w.heap.size]? = some (mObj c):=by rw [hw1]; exact heap_alloc_new w _
 have later : ∀ W,Below w1.heap.size w1 W → MTAt w W c d:=fun W h => by
  have hb:=hb1.trans (h.mono hb1.size)
  exact ⟨heapExt h hbox,hb,hd.same fun b q => ⟨Nat.lt_of_lt_of_le q hb.size,hb.block b q⟩,hT.below hb,hZ.below hb,hNV.below hb⟩
 have HA:=hid later
 have HK:=hid (fun W h => known_call W (later W h).tabs)
 have HSM:=hid (fun W h => small_call c d W (later W h).msg)
 have HEN:=hid (fun W h => mEncG_call c d W (later W h).msg (later W h).tabs (later W h).ztab)
 have HCK:=hid (fun W h => lawCheck_call c d W (later W h).msg (later W h).tabs)
 have HLT:=hid (fun W h => litG_call c.b d.b W (later W h).msg.b (later W h).tabs (later W h).ztab)
 have HST:=hid (fun W h => stampText_call c.st d.st W (later W h).msg.st (later W h).tabs)
 have HD:=hid hd
 have HB1:=hid hb1
 have HL10 : Hid (∀ W,Below w1.heap.size w1 W → (loadCellsFrom ⟨N,0,none⟩ 0 10 #[]).run Tryz.prog W = .ok #[.int .i64 c.st.e,.slice c.st.a c.st.n c.st.c,.int .i64 c.m,.slice c.a c.n c.c,.int .i64 c.b.k,.int .i64 c.b.i,.int .i64 c.b.s,.string c.b.t,.slice c.b.la c.b.ll c.b.lc,.slice c.b.fa c.b.fl c.b.fc] W):=hid fun W h => by
  have h0:=(later W h).box
  rw [← hN] at h0
  exact ldAll (P:=Tryz.prog) (vs:=[.int .i64 c.st.e,.slice c.st.a c.st.n c.st.c,.int .i64 c.m,.slice c.a c.n c.c,.int .i64 c.b.k,.int .i64 c.b.i,.int .i64 c.b.s,.string c.b.t,.slice c.b.la c.b.ll c.b.lc,.slice c.b.fa c.b.fl c.b.fc]) h0
 have HL6 : Hid (∀ W,Below w1.heap.size w1 W → (loadCellsFrom ⟨N,4,none⟩ 0 6 #[]).run Tryz.prog W = .ok #[.int .i64 c.b.k,.int .i64 c.b.i,.int .i64 c.b.s,.string c.b.t,.slice c.b.la c.b.ll c.b.lc,.slice c.b.fa c.b.fl c.b.fc] W):=hid fun W h => by
  have h0:=(later W h).box
  rw [← hN] at h0
  have:=run_loadCells_list (P:=Tryz.prog) W ⟨N,4,none⟩ [.int .i64 c.b.k,.int .i64 c.b.i,.int .i64 c.b.s,.string c.b.t,.slice c.b.la c.b.ll c.b.lc,.slice c.b.fa c.b.fl c.b.fc] (fun j v hv => by
   rw [add_at,cellOf h0 (4 + j)]
   have hj : j < 6:=(List.getElem?_eq_some_iff.1 hv).1
   have : j = 0 ∨ j = 1 ∨ j = 2 ∨ j = 3 ∨ j = 4 ∨ j = 5:=by omega
   rcases this with rfl | rfl | rfl | rfl | rfl | rfl <;> simp at hv <;> subst hv <;> rfl)
  exact this
 have HW1:=hid hw1
 have HNE:=hid hN
 clear hd hT hZ hNV hw1 hb1 hbox later hN
 obtain ⟨⟨ce,sa,sn,sc⟩,m,a,n,cap,⟨k,i',s,tt,la,ll,lc,fa,fl,fc⟩⟩:=c
 dsimp only [MC.v,SC.v,VC.v] at HSM HEN HCK HLT HST HL10 HL6 ⊢
 go_enter Tryz.func9,Tryz.ntmps9
 dsimp only [mObj] at HW1
 go_upto_region 1 with (fail)
 rw [← HW1.out,← HNE.out]
 go_upto_region 3 with (first
  | (go_at_call 40; refine (HSM.out W2 hb2).mono ?_; rintro e W3 ⟨⟨b,rfl,hsm⟩,hb3'⟩; have hb3:=hb2.trans (hb3'.mono hb2.size); have HB3:=hid hb3; have HS:=hid hsm; clear hb2 hb3' hl2 hsm hb3; cases b)
  | (go_at_call 37; refine (HK.out W3 HB3.out).mono ?_; rintro e W4 ⟨rfl,hb4⟩)
  | (go_at_call 37; refine (HK.out w1 (Below.refl _ _)).mono ?_; rintro e W2 ⟨rfl,hb2⟩; have hl2:=HL10.out W2 hb2))
 ·go_ret
  exact ⟨rfl,(HA.out W3 HB3.out).bel.trans (hb4.mono (HA.out W3 HB3.out).bel.size)⟩
 obtain ⟨hsn,hnn⟩:=HS.out (by trivial)
 have HSZ:=hid (And.intro hsn hnn)
 clear hsn hnn HS
 have hl3:=HL10.out W3 HB3.out
 obtain ⟨t1,ht1⟩ : ∃ t1,t1 = (encF d).1:=⟨_,rfl⟩
 obtain ⟨e1,he1⟩ : ∃ e1,e1 = (encF d).2:=⟨_,rfl⟩
 rw [← ht1,← he1] at HEN
 obtain ⟨e2,he2⟩ : ∃ e2,e2 = msgE d:=⟨_,rfl⟩
 rw [← he2] at HCK
 obtain ⟨t3,ht3⟩ : ∃ t3,t3 = (litF d.b).1:=⟨_,rfl⟩
 obtain ⟨e3,he3⟩ : ∃ e3,e3 = (litF d.b).2:=⟨_,rfl⟩
 rw [← ht3,← he3] at HLT
 have HEQ:=hid (And.intro ht1 (And.intro he1 (And.intro he2 (And.intro ht3 he3))))
 clear ht1 he1 he2 ht3 he3
 go_upto_region 6 with (first
  | (go_at_call 39; refine (HEN.out W3 HB3.out).mono ?_; rintro e W4 ⟨rfl,hb4'⟩; have HB4:=hid (HB3.out.trans (hb4'.mono HB3.out.size)); clear hb4' hl3; have hl4:=HL10.out W4 HB4.out)
  | (go_at_call 41; refine (HCK.out W4 HB4.out).mono ?_; rintro e W5 ⟨rfl,hb5'⟩; have HB5:=hid (HB4.out.trans (hb5'.mono HB4.out.size)); clear hb5' hl4; have hl5:=HL6.out W5 HB5.out)
  | (go_at_call 42; refine (HLT.out W5 HB5.out).mono ?_; rintro e W6 ⟨rfl,hb6'⟩; have HB6:=hid (HB5.out.trans (hb6'.mono HB5.out.size)); clear hb6' hl5))
 by_cases h2 : e2 = 0
 ·by_cases h3 : e3 = 0
  ·have hC : e1 = 0 ∧ t1 = encT d t3:=by
    obtain ⟨q1,q2,q3,q4,q5⟩:=HEQ.out
    rw [q1,q2,q4]
    unfold encF
    rw [if_neg (by rw [← q3]; exact fun h => h h2),if_neg (by rw [← q5]; exact fun h => h h3)]
    exact ⟨rfl,rfl⟩
   have HC:=hid (And.intro hC.1 (And.intro hC.2 (And.intro h2 h3)))
   obtain ⟨rfl,_⟩:=hC
   subst h2
   subst h3
   go_upto_region 10 with (fail)
   have hl6 : W6.cell? ⟨N,0,none⟩ = some (.int .i64 ce) ∧ W6.cell? ⟨N,1,none⟩ = some (.slice sa sn sc):=by
    have h:=(HA.out W6 HB6.out).box
    rw [← HNE.out] at h
    exact ⟨cellOf h 0,cellOf h 1⟩
   obtain ⟨u0,u1⟩:=hl6
   have hst:=HST.out W6 HB6.out
   rw [show stampR d.st = .tuple #[.string (stampT d.st),.int .i64 0] by
    unfold stampR; rw [if_pos (msgE_ok (by have:=HC.out.2.2.1; have q:=HEQ.out.2.2.1; omega)).1]] at hst
   have HST2:=hid hst
   clear hst HST
   go_upto_region 11 with (go_at_call 43; refine HST2.out.mono ?_; rintro e W7 ⟨rfl,hb7⟩; have HB7:=hid (HB6.out.trans (hb7.mono HB6.out.size)); clear hb7)
   clear u0 u1
   obtain ⟨hok1,hm0,hm1,hne,hent,_⟩:=msgE_ok (d:=d) (by have q:=HEQ.out.2.2.1; have:=HC.out.2.2.1; omega)
   obtain ⟨TE,hTE⟩ : ∃ TE,TE = encT d t3:=⟨_,rfl⟩
   obtain ⟨ST,hSTe⟩ : ∃ ST,ST = stampT d.st:=⟨_,rfl⟩
   rw [← hTE,← hSTe]
   have HTE:=hid hTE
   have HSTe:=hid hSTe
   have hnl : n = d.es.length:=HD.out.es.len
   have HNL:=hid hnl
   have hn0 : 0 < n:=by rw [hnl]; exact List.length_pos_iff.2 hne
   have HOKS:=hid (And.intro hok1 (And.intro hm0 (And.intro hm1 (And.intro hne hent))))
   obtain ⟨eb,eo,rfl,heb,hec⟩:=HD.out.es.slot hn0
   have HEC:=hid hec
   have hn300:=HSZ.out.2
   clear hTE hSTe hnl hok1 hm0 hm1 hne hent hec
   go_wp2
   go_loopw [10,11] (fun ov iv wr => ∃ k : Nat,k ≤ n ∧ iv = .int .i64 k ∧ ov = .string (orgT (d.es.take k)) ∧ Below w1.heap.size w1 wr) (fun _ iv _ => n - (intOf iv).toNat)
   case atStart => exact ⟨0,Nat.zero_le _,rfl,rfl,HB7.out⟩
   case round =>
    obtain ⟨q,hk,rfl,rfl,hbr⟩:=hrel
    have HBR:=hid hbr
    have u3 : wr.cell? ⟨N,3,none⟩ = some (.slice (some ⟨eb,eo,none⟩) n cap):=by
     have h:=(HA.out wr HBR.out).box
     rw [← HNE.out] at h
     exact cellOf h 3
    by_cases hlt : q < n
    ·have hql : q < d.es.length:=by have:=HNL.out; omega
     obtain ⟨z,hz⟩ : ∃ z,z = d.es[q]:=⟨_,rfl⟩
     have hzr:=HOKS.out.2.2.2.2 z (by rw [hz]; exact List.getElem_mem _)
     have hc0 : wr.cell? ⟨eb,eo + q,none⟩ = some (.int .i64 z):=by
      rw [hz]
      exact (World.cell?_of_block (w:=w) (a:=⟨eb,eo + q,none⟩) ((HA.out wr HBR.out).bel.block eb heb)).trans (HEC.out q hql)
     have hdc:=dec_call z.toNat (by omega) wr
     rw [show ((z.toNat : Nat) : Int) = z by omega] at hdc
     have hds:=dec_size z.toNat (by omega)
     obtain ⟨dz,hdz⟩ : ∃ dz,dz = decB z.toNat:=⟨_,rfl⟩
     rw [← hdz] at hdc hds
     have HDC:=hid hdc
     have HDZ:=hid (show itoaB z = dz by rw [hdz,← decB_itoa]; congr 1; omega)
     have hos:=orgT_size (d.es.take q) (fun x hx => HD.out.es.rng x (List.mem_of_mem_take hx))
     rw [List.length_take] at hos
     obtain ⟨og,hog⟩ : ∃ og,og = orgT (d.es.take q):=⟨_,rfl⟩
     rw [← hog] at hos
     rw [← hog]
     have HOG:=hid hog
     have HZ:=hid (show ∀ h : q < d.es.length,d.es[q] = z from fun _ => hz.symm)
     have HQL:=hid hql
     have hs1 : og.size + 1 ≤ 9223372036854775807:=by omega
     have hs2 : og.size + 1 + dz.size ≤ 9223372036854775807:=by omega
     have hlt' : (q : Int) < (n : Int):=by omega
     have hq0 : (0 : Int) ≤ (q : Int):=by omega
     clear hz hzr hdc hdz hos hog hql hbr hds
     go_wp2_with (go_at_call 44; refine HDC.out.mono ?_; rintro e W9 ⟨rfl,hb9⟩)
     refine ⟨⟨q + 1,by omega,by go_num,?_,HBR.out.trans (hb9.mono HBR.out.size)⟩,by simp [intOf]; omega⟩
     rw [List.take_succ_eq_append_getElem HQL.out,orgT_snoc,← HOG.out,HZ.out,HDZ.out]
    ·obtain rfl : n = q:=by omega
     clear hlt u3
     rw [show d.es.take n = d.es by rw [HNL.out,List.take_length]]
     have hnq : ¬ (n : Int) < (n : Int):=by omega
     obtain ⟨OG,hOG⟩ : ∃ OG,OG = orgT d.es:=⟨_,rfl⟩
     rw [← hOG]
     obtain ⟨JO,hJO⟩ : ∃ JO,JO = joinB (d.es.map itoaB) ⟨#[44]⟩:=⟨_,rfl⟩
     obtain ⟨DM,hDM⟩ : ∃ DM,DM = decB m.toNat:=⟨_,rfl⟩
     have hmd : m = d.m:=HD.out.m
     have hDM2 : itoaB d.m = DM:=by rw [hDM,← decB_itoa,show ((m.toNat : Nat) : Int) = d.m by have:=HOKS.out.2.1; omega]
     have hOG2 : OG = ⟨#[44]⟩ ++ JO:=by rw [hOG,hJO]; exact orgT_ne d.es HOKS.out.2.2.2.1
     have hTE2 : TE = ST ++ ⟨#[32]⟩ ++ DM ++ ⟨#[32]⟩ ++ JO ++ ⟨#[32]⟩ ++ t3:=by
      rw [HTE.out,HSTe.out,hJO,← hDM2]; rfl
     have zST : ST.size ≤ 20000:=by
      rw [HSTe.out]
      exact stampT_size d.st HD.out.st.re HD.out.st.ps.rng (stampE_len HOKS.out.1)
     have zDM : DM.size ≤ 21:=by rw [hDM]; exact dec_size m.toNat (by have:=HOKS.out.2.1; have:=HOKS.out.2.2.1; omega)
     have zOG : OG.size ≤ 6600:=by
      have h:=orgT_size d.es HD.out.es.rng
      rw [← hOG,← HNL.out] at h
      omega
     have zJO : JO.size + 1 = OG.size:=by rw [hOG2,ByteArray.size_append]; have : (⟨#[44]⟩ : ByteArray).size = 1:=rfl; omega
     have zt3 : t3.size ≤ 65536:=by rw [HEQ.out.2.2.2.1]; exact litF_size d.b
     have z1 : (⟨#[32]⟩ : ByteArray).size = 1:=rfl
     have zTE : TE.size ≤ 100000:=by
      rw [hTE2]
      simp only [ByteArray.size_append]
      omega
     have hpc : pieces 4 TE = [stampT d.st,itoaB d.m,joinB (d.es.map itoaB) ⟨#[44]⟩,t3]:=by
      rw [HTE.out]
      exact pieces_enc d t3 (by have q:=HEQ.out.2.2.1; have:=HC.out.2.2.1; omega)
     have hdM : decM TE = some d:=by
      have h:=decM_text d HEQ.out.2.1.symm (IsVal.named HD.out.b)
      rw [← HEQ.out.1,HC.out.2.1,← HTE.out] at h
      exact h
     have hdec : Calls Tryz.prog 36 #[.string TE] wr fun x w' => ∃ c2 : MC,x = .returned (.tuple #[c2.v,.int .i64 0]) ∧ IsMsg (fun b => wr.heap.size ≤ b ∧ b < w'.heap.size) w' c2 d ∧ Below wr.heap.size wr w':=by
      have hA:=HA.out wr HBR.out
      refine (mDecode_u TE wr zTE (fun a b c e h => by rw [hpc] at h; cases h; exact zt3) hA.tabs hA.ztab hA.nums).mono fun x w' h => ?_
      obtain ⟨c2,d2,E,h1,h2,h3,h4⟩:=h
      rcases h3 with ⟨rfl,h3⟩ | ⟨_,h3,_⟩
      ·rw [hdM] at h3
       cases h3
       exact ⟨c2,h1,h2,h4⟩
      ·rw [hdM] at h3; cases h3
     have HDEC:=hid hdec
     have HTX:=hid (And.intro hOG2 (And.intro hTE2 (And.intro zJO z1)))
     have HZZ:=hid (And.intro zST (And.intro zDM (And.intro zOG zt3)))
     have HDMH:=hid (And.intro hDM hmd)
     have hst:=fun (w0 : World) (c2 : MC) => stNew w0 66 #[.int .i64 0,.slice none 0 0,.int .i64 0,.slice none 0 0,.int .i64 0,.int .i64 0,.int .i64 0,.string ⟨#[]⟩,.slice none 0 0,.slice none 0 0] [.int .i64 c2.st.e,.slice c2.st.a c2.st.n c2.st.c,.int .i64 c2.m,.slice c2.a c2.n c2.c,.int .i64 c2.b.k,.int .i64 c2.b.i,.int .i64 c2.b.s,.string c2.b.t,.slice c2.b.la c2.b.ll c2.b.lc,.slice c2.b.fa c2.b.fl c2.b.fc] infoMs rfl (by simp [Value.oneCell'])
     clear hOG hJO hDM hmd hDM2 hOG2 hTE2 zST zDM zOG zJO zt3 z1 zTE hpc hdM hdec hbr
     have u3 : wr.cell? ⟨N,3,none⟩ = some (.slice (some ⟨eb,eo,none⟩) n cap):=by
      have h:=(HA.out wr HBR.out).box
      rw [← HNE.out] at h
      exact cellOf h 3
     go_upto_region 17 with (go_at_call 36; refine HDEC.out.mono ?_; rintro e W9 ⟨c2,rfl,hi9,hb9⟩; have HI9:=hid hi9; have HB9:=hid (HBR.out.trans (hb9.mono HBR.out.size)); clear hi9 hb9)
     clear hst u3 hnq
     obtain ⟨T,hT⟩ : ∃ T,T = W9.heap.size:=⟨_,rfl⟩
     obtain ⟨V,hV⟩ : ∃ V,V = W9.alloc (.cells #[.int .i64 c2.st.e,.slice c2.st.a c2.st.n c2.st.c,.int .i64 c2.m,.slice c2.a c2.n c2.c,.int .i64 c2.b.k,.int .i64 c2.b.i,.int .i64 c2.b.s,.string c2.b.t,.slice c2.b.la c2.b.ll c2.b.lc,.slice c2.b.fa c2.b.fl c2.b.fc] 66):=⟨_,rfl⟩
     rw [← hV,← hT]
     have bV : Below w1.heap.size w1 V:=by rw [hV]; exact HB9.out.alloc HB9.out.size _
     have tV : V.heap[T]? = some (.cells #[.int .i64 c2.st.e,.slice c2.st.a c2.st.n c2.st.c,.int .i64 c2.m,.slice c2.a c2.n c2.c,.int .i64 c2.b.k,.int .i64 c2.b.i,.int .i64 c2.b.s,.string c2.b.t,.slice c2.b.la c2.b.ll c2.b.lc,.slice c2.b.fa c2.b.fl c2.b.fc] 66):=by rw [hV,hT]; exact heap_alloc_new W9 _
     have iV : IsMsg (· < V.heap.size) V c2 d:=by
      rw [hV]
      exact HI9.out.same fun b hb => ⟨by rw [World.size_alloc]; omega,heap_alloc_old W9 _ _ hb.2⟩
     have HCL : Hid (∀ W,Below V.heap.size V W → W.cell? ⟨N,2,none⟩ = some (.int .i64 m) ∧ (loadCellsFrom ⟨N,0,none⟩ 0 10 #[]).run Tryz.prog W = .ok #[.int .i64 ce,.slice sa sn sc,.int .i64 m,.slice (some ⟨eb,eo,none⟩) n cap,.int .i64 k,.int .i64 i',.int .i64 s,.string tt,.slice la ll lc,.slice fa fl fc] W ∧ (loadCellsFrom ⟨T,0,none⟩ 0 10 #[]).run Tryz.prog W = .ok #[.int .i64 c2.st.e,.slice c2.st.a c2.st.n c2.st.c,.int .i64 c2.m,.slice c2.a c2.n c2.c,.int .i64 c2.b.k,.int .i64 c2.b.i,.int .i64 c2.b.s,.string c2.b.t,.slice c2.b.la c2.b.ll c2.b.lc,.slice c2.b.fa c2.b.fl c2.b.fc] W):=hid fun W h => by
      have hb:=bV.trans (h.mono bV.size)
      have h0:=(HA.out W hb).box
      rw [← HNE.out] at h0
      have hl:=ldAll (P:=Tryz.prog) (vs:=[.int .i64 c2.st.e,.slice c2.st.a c2.st.n c2.st.c,.int .i64 c2.m,.slice c2.a c2.n c2.c,.int .i64 c2.b.k,.int .i64 c2.b.i,.int .i64 c2.b.s,.string c2.b.t,.slice c2.b.la c2.b.ll c2.b.lc,.slice c2.b.fa c2.b.fl c2.b.fc]) (heapExt h tV)
      exact ⟨cellOf h0 2,HL10.out W hb,hl⟩
     have HDCM : Hid (∀ W,Calls Tryz.prog 44 #[.int .i64 m] W fun e w' => e = .returned (.string DM) ∧ Below W.heap.size W w'):=hid fun W => by
      have h:=dec_call m.toNat (by have:=HOKS.out.2.1; have:=HOKS.out.2.2.1; have:=HDMH.out.2; omega) W
      rw [show ((m.toNat : Nat) : Int) = m by have:=HOKS.out.2.1; have:=HDMH.out.2; omega,← HDMH.out.1] at h
      exact h
     have HSAME : Hid (∀ W,Below V.heap.size V W → Calls Tryz.prog 38 #[.agg #[.int .i64 c2.st.e,.slice c2.st.a c2.st.n c2.st.c,.int .i64 c2.m,.slice c2.a c2.n c2.c,.int .i64 c2.b.k,.int .i64 c2.b.i,.int .i64 c2.b.s,.string c2.b.t,.slice c2.b.la c2.b.ll c2.b.lc,.slice c2.b.fa c2.b.fl c2.b.fc],.agg #[.int .i64 ce,.slice sa sn sc,.int .i64 m,.slice (some ⟨eb,eo,none⟩) n cap,.int .i64 k,.int .i64 i',.int .i64 s,.string tt,.slice la ll lc,.slice fa fl fc]] W fun e w' => e = .returned (.bool true) ∧ Below W.heap.size W w'):=hid fun W h => by
      have hb:=bV.trans (h.mono bV.size)
      rw [← msgEqB_refl d]
      exact same_call c2 ⟨⟨ce,sa,sn,sc⟩,m,some ⟨eb,eo,none⟩,n,cap,⟨k,i',s,tt,la,ll,lc,fa,fl,fc⟩⟩ d d W (iV.same fun b hb => ⟨Nat.lt_of_lt_of_le hb h.size,h.block b hb⟩) (HA.out W hb).msg
     have HBV:=hid bV
     clear hT hV bV tV iV HDEC HI9
     have k0 : OG.extract 1 OG.size = JO:=by
      rw [HTX.out.1]
      apply ByteArray.ext; apply Array.ext'
      rw [ByteArray.data_extract,Array.toList_extract,List.extract_eq_take_drop]
      simp only [ByteArray.data_append,Array.toList_append,ByteArray.size_append]
      have e1 : (⟨#[44]⟩ : ByteArray).size = 1:=rfl
      rw [e1]
      show List.take (1 + JO.size - 1) (List.drop 1 (44 :: JO.data.toList)) = _
      rw [List.drop_succ_cons,List.drop_zero,List.take_of_length_le (by rw [lenS]; omega)]
     have k9 : (1 : Int) ≤ (OG.size : Int):=by have:=HTX.out.2.2.1; omega
     have k1 : (9223372036854775807 < ST.size + 1) = False:=eq_false (by have:=HZZ.out; omega)
     have k2 : (9223372036854775807 < ST.size + 1 + DM.size) = False:=eq_false (by have:=HZZ.out; omega)
     have k3 : (9223372036854775807 < ST.size + 1 + DM.size + 1) = False:=eq_false (by have:=HZZ.out; omega)
     have k4 : (9223372036854775807 < ST.size + 1 + DM.size + 1 + JO.size) = False:=eq_false (by have:=HZZ.out; have:=HTX.out.2.2.1; omega)
     have k5 : (9223372036854775807 < ST.size + 1 + DM.size + 1 + JO.size + 1) = False:=eq_false (by have:=HZZ.out; have:=HTX.out.2.2.1; omega)
     have k6 : (9223372036854775807 < ST.size + 1 + DM.size + 1 + JO.size + 1 + t3.size) = False:=eq_false (by have:=HZZ.out; have:=HTX.out.2.2.1; omega)
     have k7 : (TE.toList == (ST ++ ⟨#[32]⟩ ++ DM ++ ⟨#[32]⟩ ++ JO ++ ⟨#[32]⟩ ++ t3).toList) = true:=by rw [← HTX.out.2.1]; simp
     refine wp_region_split 29 (fun W => Below V.heap.size V W) (by kernel_rfl) (by kernel_rfl) (by kernel_rfl) (by decide) ((Below.refl _ _).drew) (fun hS => ?_)
     simp only [List.take_succ_cons,List.take_zero,List.drop_succ_cons,List.drop_zero]
     refine tkQ 0 (v:=?_) ?_ hS ?_; rotate_left; · intro w' hw'; have hcells:=HCL.out w' hw'; go_simp; (try with_reducible rfl)
     simp only [Act.put,pt1,pt2,pt3,pt4,pt5,pt6]
     refine tkQ 1 (v:=?_) ?_ hS ?_; rotate_left; · intro w' hw'; have hcells:=HCL.out w' hw'; go_simp; (try with_reducible rfl)
     simp only [Act.put,pt1,pt2,pt3,pt4,pt5,pt6]
     refine tkQ 2 (v:=?_) ?_ hS ?_; rotate_left; · intro w' hw'; have hcells:=HCL.out w' hw'; go_simp; (try with_reducible rfl)
     simp only [Act.put,pt1,pt2,pt3,pt4,pt5,pt6]
     refine tkQ 3 (v:=?_) ?_ hS ?_; rotate_left; · intro w' hw'; have hcells:=HCL.out w' hw'; go_simp; (try with_reducible rfl)
     simp only [Act.put,pt1,pt2,pt3,pt4,pt5,pt6]
     refine tkQ 4 (v:=?_) ?_ hS ?_; rotate_left; · intro w' hw'; have hcells:=HCL.out w' hw'; go_simp; (try with_reducible rfl)
     simp only [Act.put,pt1,pt2,pt3,pt4,pt5,pt6]
     refine tkQ 8 (v:=?_) ?_ hS ?_; rotate_left; · intro w' hw'; have hcells:=HCL.out w' hw'; go_simp; (try with_reducible rfl)
     simp only [Act.put,pt1,pt2,pt3,pt4,pt5,pt6]
     refine tkQ 9 (v:=?_) ?_ hS ?_; rotate_left; · intro w' hw'; have hcells:=HCL.out w' hw'; go_simp; (try with_reducible rfl)
     simp only [Act.put,pt1,pt2,pt3,pt4,pt5,pt6]
     refine tkQ 12 (v:=?_) ?_ hS ?_; rotate_left; · intro w' hw'; have hcells:=HCL.out w' hw'; go_simp; (try with_reducible rfl)
     simp only [Act.put,pt1,pt2,pt3,pt4,pt5,pt6]
     refine wpAnyH_ready (rs:=[5]) (by kernel_rfl) (by simp) ?_
     refine arQ fun K hK => ?_
     go_simp; go_at_call 44; refine (HDCM.out _).mono ?_
     rintro e W10 ⟨rfl,hb10⟩
     refine hK.out _ _ (hS.trans (hb10.mono hS.size)) (fun hS => ?_)
     clear hK K
     (try simp only [Act.put,pt1,pt2,pt3,pt4,pt5,pt6])
     refine tkQ 6 (v:=?_) ?_ hS ?_; rotate_left; · intro w' hw'; have hcells:=HCL.out w' hw'; go_simp; (try with_reducible rfl)
     simp only [Act.put,pt1,pt2,pt3,pt4,pt5,pt6]
     refine tkQ 7 (v:=?_) ?_ hS ?_; rotate_left; · intro w' hw'; have hcells:=HCL.out w' hw'; go_simp; (try with_reducible rfl)
     simp only [Act.put,pt1,pt2,pt3,pt4,pt5,pt6]
     refine tkQ 10 (v:=?_) ?_ hS ?_; rotate_left; · intro w' hw'; have hcells:=HCL.out w' hw'; go_simp; (try with_reducible rfl)
     simp only [Act.put,pt1,pt2,pt3,pt4,pt5,pt6]
     refine tkQ 11 (v:=?_) ?_ hS ?_; rotate_left; · intro w' hw'; have hcells:=HCL.out w' hw'; go_simp; (try with_reducible rfl)
     simp only [Act.put,pt1,pt2,pt3,pt4,pt5,pt6]
     refine tkQ 13 (v:=?_) ?_ hS ?_; rotate_left; · intro w' hw'; have hcells:=HCL.out w' hw'; go_simp; (try with_reducible rfl)
     simp only [Act.put,pt1,pt2,pt3,pt4,pt5,pt6]
     refine tkQ 14 (v:=?_) ?_ hS ?_; rotate_left; · intro w' hw'; have hcells:=HCL.out w' hw'; go_simp; (try with_reducible rfl)
     simp only [Act.put,pt1,pt2,pt3,pt4,pt5,pt6]
     refine tkQ 15 (v:=?_) ?_ hS ?_; rotate_left; · intro w' hw'; have hcells:=HCL.out w' hw'; go_simp; (try with_reducible rfl)
     simp only [Act.put,pt1,pt2,pt3,pt4,pt5,pt6]
     refine tkQ 16 (v:=?_) ?_ hS ?_; rotate_left; · intro w' hw'; have hcells:=HCL.out w' hw'; go_simp; (try with_reducible rfl)
     simp only [Act.put,pt1,pt2,pt3,pt4,pt5,pt6]
     refine tkQ 17 (v:=?_) ?_ hS ?_; rotate_left; · intro w' hw'; have hcells:=HCL.out w' hw'; go_simp; (try with_reducible rfl)
     simp only [Act.put,pt1,pt2,pt3,pt4,pt5,pt6]
     refine tkQ 18 (v:=?_) ?_ hS ?_; rotate_left; · intro w' hw'; have hcells:=HCL.out w' hw'; go_simp; (try with_reducible rfl)
     simp only [Act.put,pt1,pt2,pt3,pt4,pt5,pt6]
     refine tkQ 19 (v:=?_) ?_ hS ?_; rotate_left; · intro w' hw'; have hcells:=HCL.out w' hw'; go_simp; (try with_reducible rfl)
     simp only [Act.put,pt1,pt2,pt3,pt4,pt5,pt6]
     refine tkQ 20 (v:=?_) ?_ hS ?_; rotate_left; · intro w' hw'; have hcells:=HCL.out w' hw'; go_simp; (try with_reducible rfl)
     simp only [Act.put,pt1,pt2,pt3,pt4,pt5,pt6]
     refine tkQ 21 (v:=?_) ?_ hS ?_; rotate_left; · intro w' hw'; have hcells:=HCL.out w' hw'; go_simp; (try with_reducible rfl)
     simp only [Act.put,pt1,pt2,pt3,pt4,pt5,pt6]
     refine wpAnyH_ready (rs:=[22]) (by kernel_rfl) (by simp) ?_
     refine arQ fun K hK => ?_
     go_simp; go_at_call 38; refine (HSAME.out _ hS).mono ?_
     rintro e W11 ⟨rfl,hb11⟩
     refine hK.out _ _ (hS.trans (hb11.mono hS.size)) (fun hS => ?_)
     clear hK K
     (try simp only [Act.put,pt1,pt2,pt3,pt4,pt5,pt6])
     refine tkQ 23 (v:=?_) ?_ hS ?_; rotate_left; · intro w' hw'; have hcells:=HCL.out w' hw'; go_simp; (try with_reducible rfl)
     simp only [Act.put,pt1,pt2,pt3,pt4,pt5,pt6]
     refine tkQ 24 (v:=?_) ?_ hS ?_; rotate_left; · intro w' hw'; have hcells:=HCL.out w' hw'; go_simp; (try with_reducible rfl)
     simp only [Act.put,pt1,pt2,pt3,pt4,pt5,pt6]
     refine tkQ 25 (v:=?_) ?_ hS ?_; rotate_left; · intro w' hw'; have hcells:=HCL.out w' hw'; go_simp; (try with_reducible rfl)
     simp only [Act.put,pt1,pt2,pt3,pt4,pt5,pt6]
     refine tkQ 26 (v:=?_) ?_ hS ?_; rotate_left; · intro w' hw'; have hcells:=HCL.out w' hw'; go_simp; (try with_reducible rfl)
     simp only [Act.put,pt1,pt2,pt3,pt4,pt5,pt6]
     refine tkQ 27 (v:=?_) ?_ hS ?_; rotate_left; · intro w' hw'; have hcells:=HCL.out w' hw'; go_simp; (try with_reducible rfl)
     simp only [Act.put,pt1,pt2,pt3,pt4,pt5,pt6]
     refine tkQ 28 (v:=?_) ?_ hS ?_; rotate_left; · intro w' hw'; have hcells:=HCL.out w' hw'; go_simp; (try with_reducible rfl)
     simp only [Act.put,pt1,pt2,pt3,pt4,pt5,pt6]
     refine wpAnyH_done (by kernel_rfl) ?_ _
     (try dsimp only)
     go_wp2
     go_ret
     exact ⟨rfl,(HA.out _ (HBV.out.trans (hS.mono HBV.out.size))).bel⟩
  ·have hC : e1 = e3 ∧ t1 = ⟨#[]⟩:=by
    obtain ⟨q1,q2,q3,q4,q5⟩:=HEQ.out
    rw [q1,q2,q5]
    unfold encF
    rw [if_neg (by rw [← q3]; exact fun h => h h2),if_pos (by rw [← q5]; exact h3)]
    exact ⟨rfl,rfl⟩
   obtain ⟨rfl,rfl⟩:=hC
   subst h2
   have x0 : (e1 == 0) = false:=by simp; exact h3
   have x1 : (e1 != 0) = true:=by simp; exact h3
   clear h3
   go_wp2
   go_ret
   exact ⟨rfl,(HA.out W6 HB6.out).bel⟩
 ·have hC : e1 = e2 ∧ t1 = ⟨#[]⟩:=by
   obtain ⟨q1,q2,q3,q4,q5⟩:=HEQ.out
   rw [q1,q2,q3]
   unfold encF
   rw [if_pos (by rw [← q3]; exact h2)]
   exact ⟨rfl,rfl⟩
  obtain ⟨rfl,rfl⟩:=hC
  have x0 : (e1 == 0) = false:=by simp; exact h2
  have x1 : (e1 != 0) = true:=by simp; exact h2
  clear h2
  go_wp2
  go_ret
  exact ⟨rfl,(HA.out W6 HB6.out).bel⟩
end
end Go.Proofs.YtkljbfaemahchaaGreatDoor
