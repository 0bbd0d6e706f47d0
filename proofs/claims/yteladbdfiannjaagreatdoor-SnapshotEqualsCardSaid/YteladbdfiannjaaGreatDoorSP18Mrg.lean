/-
  manifoldlaw30.sameSlot and slots.EqualSlot say whether two slots are equal; slices.EqualFunc over messages and values. Condition: both can be read as data.
-/
import Derived.Test.YteladbdfiannjaaGreatDoorSP14Mrg
namespace Go.Proofs.YteladbdfiannjaaGreatDoor
set_option linter.unusedVariables false
set_option maxRecDepth 100000
set_option maxHeartbeats 64000000
set_option linter.unusedSimpArgs false
section
open Go Go.RowKit Go.Shelf
abbrev valEqB (d d2:Val):Bool:=cmpV d d2==0
def slEqB (d d2:Slot):Bool:=(cmpV d.k d2.k==0)&&(decide (d.n=d2.n)&&(decide (d.t=d2.t)&&(eqL msgEqB d.items d2.items&&eqL valEqB d.vals d2.vals)))
theorem eqFnM_call (a a2:Option Addr) (n c n2 c2:Nat) (l l2:List Msg) (w:World) (hd:IsRow msgK (· < w.heap.size) w a n c l) (hd2:IsRow msgK (· < w.heap.size) w a2 n2 c2 l2) :
 Calls Tryz.prog 184 #[.slice a n c,.slice a2 n2 c2,.func (.func 43) #[] #[]] w fun e w'=>e=.returned (.bool (eqL msgEqB l l2))∧Below w.heap.size w w':=by
 have hen:∀args w,(callFunc 43 args).run Tryz.prog w=.ok (.enter 43 args) w:=enters_of Tryz.func43 (by kernel_rfl) rfl
 have hbig:=hd.big
 have hbig2:=hd2.big
 have HL:=hid hd.len
 have HL2:=hid hd2.len
 have HD:=hid hd
 have HD2:=hid hd2
 clear hd hd2
 go_enter Tryz.func184,Tryz.ntmps184
 by_cases q2:n=n2
 ·subst q2
  go_wp2
  go_loopw [17] (fun i wr=>∃k:Nat,k≤n∧i=.int .i64 k∧(∀j (h1:j<l.length) (h2:j<l2.length),j<k→msgEqB l[j] l2[j]=true)∧Below w.heap.size w wr) (fun i _=>n-(intOf i).toNat)
  case atStart=>exact⟨0,Nat.zero_le _,rfl,fun j _ _ h=>absurd h (Nat.not_lt_zero j),Below.refl _ _⟩
  case round =>
   obtain⟨k,hk,rfl,hall,hbr⟩:=hrel
   have HA:=hid hall
   clear hall
   obtain⟨wp,rfl⟩:∃w1:World,w1=wr:=⟨_,rfl⟩
   have HBR:=hid hbr
   have hn63:(n:Int)≤9223372036854775807:=by omega
   by_cases hlt:k<n
   ·have hkl:k<l.length:=by have:=HL.out;omega
    have hkl2:k<l2.length:=by have:=HL2.out;omega
    obtain⟨b,o,rfl,hb,hx⟩:=HD.out.slot (show 0<n by omega)
    obtain⟨b2,o2,rfl,hb2,hy⟩:=HD2.out.slot (show 0<n by omega)
    obtain⟨x,hxa,hxi⟩:=hx k hkl
    obtain⟨y,hya,hyi⟩:=hy k hkl2
    clear hx hy
    obtain⟨x0,x1,x2,x3,x4,x5,x6,x7,x8,x9⟩:=AtG.m (hxa.same (hbr.block b hb))
    obtain⟨y0,y1,y2,y3,y4,y5,y6,y7,y8,y9⟩:=AtG.m (w:=wp.alloc (.cells #[.int .i64 x.st.e,.slice x.st.a x.st.n x.st.c,.int .i64 x.m,.slice x.a x.n x.c,.int .i64 x.b.k,.int .i64 x.b.i,.int .i64 x.b.s,.string x.b.t,.slice x.b.la x.b.ll x.b.lc,.slice x.b.fa x.b.fl x.b.fc] 68)) (hya.same ((Below.heap_alloc _ _ _ (by have:=hbr.size;omega)).trans (hbr.block b2 hb2)))
    have hlt':(k:Int)<(n:Int):=by omega
    have hk0:(0:Int)≤(k:Int):=by omega
    obtain⟨u,hu⟩:∃u,u=msgEqB l[k] l2[k]:=⟨_,rfl⟩
    have hba:Below w.heap.size w ((wp.alloc (.cells #[.int .i64 x.st.e,.slice x.st.a x.st.n x.st.c,.int .i64 x.m,.slice x.a x.n x.c,.int .i64 x.b.k,.int .i64 x.b.i,.int .i64 x.b.s,.string x.b.t,.slice x.b.la x.b.ll x.b.lc,.slice x.b.fa x.b.fl x.b.fc] 68)).alloc (.cells #[.int .i64 y.st.e,.slice y.st.a y.st.n y.st.c,.int .i64 y.m,.slice y.a y.n y.c,.int .i64 y.b.k,.int .i64 y.b.i,.int .i64 y.b.s,.string y.b.t,.slice y.b.la y.b.ll y.b.lc,.slice y.b.fa y.b.fl y.b.fc] 68)):=(hbr.alloc hbr.size _).alloc (by have:=hbr.size;simp;omega) _
    have HC:Hid (Calls Tryz.prog 43 #[.agg #[.int .i64 x.st.e,.slice x.st.a x.st.n x.st.c,.int .i64 x.m,.slice x.a x.n x.c,.int .i64 x.b.k,.int .i64 x.b.i,.int .i64 x.b.s,.string x.b.t,.slice x.b.la x.b.ll x.b.lc,.slice x.b.fa x.b.fl x.b.fc],.agg #[.int .i64 y.st.e,.slice y.st.a y.st.n y.st.c,.int .i64 y.m,.slice y.a y.n y.c,.int .i64 y.b.k,.int .i64 y.b.i,.int .i64 y.b.s,.string y.b.t,.slice y.b.la y.b.ll y.b.lc,.slice y.b.fa y.b.fl y.b.fc]] ((wp.alloc (.cells #[.int .i64 x.st.e,.slice x.st.a x.st.n x.st.c,.int .i64 x.m,.slice x.a x.n x.c,.int .i64 x.b.k,.int .i64 x.b.i,.int .i64 x.b.s,.string x.b.t,.slice x.b.la x.b.ll x.b.lc,.slice x.b.fa x.b.fl x.b.fc] 68)).alloc (.cells #[.int .i64 y.st.e,.slice y.st.a y.st.n y.st.c,.int .i64 y.m,.slice y.a y.n y.c,.int .i64 y.b.k,.int .i64 y.b.i,.int .i64 y.b.s,.string y.b.t,.slice y.b.la y.b.ll y.b.lc,.slice y.b.fa y.b.fl y.b.fc] 68)) fun e w'=>e=.returned (.bool u)∧Below ((wp.alloc (.cells #[.int .i64 x.st.e,.slice x.st.a x.st.n x.st.c,.int .i64 x.m,.slice x.a x.n x.c,.int .i64 x.b.k,.int .i64 x.b.i,.int .i64 x.b.s,.string x.b.t,.slice x.b.la x.b.ll x.b.lc,.slice x.b.fa x.b.fl x.b.fc] 68)).alloc (.cells #[.int .i64 y.st.e,.slice y.st.a y.st.n y.st.c,.int .i64 y.m,.slice y.a y.n y.c,.int .i64 y.b.k,.int .i64 y.b.i,.int .i64 y.b.s,.string y.b.t,.slice y.b.la y.b.ll y.b.lc,.slice y.b.fa y.b.fl y.b.fc] 68)).heap.size ((wp.alloc (.cells #[.int .i64 x.st.e,.slice x.st.a x.st.n x.st.c,.int .i64 x.m,.slice x.a x.n x.c,.int .i64 x.b.k,.int .i64 x.b.i,.int .i64 x.b.s,.string x.b.t,.slice x.b.la x.b.ll x.b.lc,.slice x.b.fa x.b.fl x.b.fc] 68)).alloc (.cells #[.int .i64 y.st.e,.slice y.st.a y.st.n y.st.c,.int .i64 y.m,.slice y.a y.n y.c,.int .i64 y.b.k,.int .i64 y.b.i,.int .i64 y.b.s,.string y.b.t,.slice y.b.la y.b.ll y.b.lc,.slice y.b.fa y.b.fl y.b.fc] 68)) w'):=hid (by
     rw[hu]
     have hs:=hba.size
     exact msgEqual_call x y l[k] l2[k] ((wp.alloc (.cells #[.int .i64 x.st.e,.slice x.st.a x.st.n x.st.c,.int .i64 x.m,.slice x.a x.n x.c,.int .i64 x.b.k,.int .i64 x.b.i,.int .i64 x.b.s,.string x.b.t,.slice x.b.la x.b.ll x.b.lc,.slice x.b.fa x.b.fl x.b.fc] 68)).alloc (.cells #[.int .i64 y.st.e,.slice y.st.a y.st.n y.st.c,.int .i64 y.m,.slice y.a y.n y.c,.int .i64 y.b.k,.int .i64 y.b.i,.int .i64 y.b.s,.string y.b.t,.slice y.b.la y.b.ll y.b.lc,.slice y.b.fa y.b.fl y.b.fc] 68)) (msgK.same (fun b q=>⟨by omega,hba.block b q⟩) hxi) (msgK.same (fun b q=>⟨by omega,hba.block b q⟩) hyi))
    have HBA:=hid hba
    have HU:=hid hu
    clear hu hba hxa hya hxi hyi hbr hb hb2
    cases u with
    | false =>
      go_wp2_with (go_at_call 43;refine HC.out.mono ?_;rintro e w3 ⟨rfl,hb3⟩)
      go_ret
      exact⟨retB (eqL_ne k hkl hkl2 HU.out.symm).symm,HBA.out.trans (hb3.mono HBA.out.size)⟩
    | true =>
      go_wp2_with (go_at_call 43;refine HC.out.mono ?_;rintro e w3 ⟨rfl,hb3⟩)
      go_roundw
      case rel=>exact⟨k+1,by omega,by go_num,fun j h1 h2 h=>by
       by_cases hjk:j<k
       ·exact HA.out j h1 h2 hjk
       ·obtain rfl:j=k:=by omega
        exact HU.out.symm,HBA.out.trans (hb3.mono HBA.out.size)⟩
      case measure=>simp[intOf];omega
   ·obtain rfl:k=n:=by omega
    have r:=hid (eqL_of (f:=msgEqB) (HL.out.symm.trans HL2.out) fun j h1 h2=>HA.out j h1 h2 (by have:=HL.out;omega))
    go_wp2
    go_ret
    exact⟨retB r.out.symm,HBR.out⟩
 ·have q2':¬ (n:Int)=(n2:Int):=by omega
  go_wp2
  go_ret
  exact⟨retB (eqL_len (by rw[←HL.out,←HL2.out];exact q2)).symm,Below.refl _ _⟩
theorem eqFnV_call (a a2:Option Addr) (n c n2 c2:Nat) (l l2:List Val) (w:World) (hd:IsRow valK (· < w.heap.size) w a n c l) (hd2:IsRow valK (· < w.heap.size) w a2 n2 c2 l2) :
 Calls Tryz.prog 185 #[.slice a n c,.slice a2 n2 c2,.func (.func 115) #[] #[]] w fun e w'=>e=.returned (.bool (eqL valEqB l l2))∧Below w.heap.size w w':=by
 have hen:∀args w,(callFunc 115 args).run Tryz.prog w=.ok (.enter 115 args) w:=enters_of Tryz.func115 (by kernel_rfl) rfl
 have hbig:=hd.big
 have hbig2:=hd2.big
 have HL:=hid hd.len
 have HL2:=hid hd2.len
 have HD:=hid hd
 have HD2:=hid hd2
 clear hd hd2
 go_enter Tryz.func185,Tryz.ntmps185
 by_cases q2:n=n2
 ·subst q2
  go_wp2
  go_loopw [17] (fun i wr=>∃k:Nat,k≤n∧i=.int .i64 k∧(∀j (h1:j<l.length) (h2:j<l2.length),j<k→valEqB l[j] l2[j]=true)∧Below w.heap.size w wr) (fun i _=>n-(intOf i).toNat)
  case atStart=>exact⟨0,Nat.zero_le _,rfl,fun j _ _ h=>absurd h (Nat.not_lt_zero j),Below.refl _ _⟩
  case round =>
   obtain⟨k,hk,rfl,hall,hbr⟩:=hrel
   have HA:=hid hall
   clear hall
   obtain⟨wp,rfl⟩:∃w1:World,w1=wr:=⟨_,rfl⟩
   have HBR:=hid hbr
   have hn63:(n:Int)≤9223372036854775807:=by omega
   by_cases hlt:k<n
   ·have hkl:k<l.length:=by have:=HL.out;omega
    have hkl2:k<l2.length:=by have:=HL2.out;omega
    obtain⟨b,o,rfl,hb,hx⟩:=HD.out.slot (show 0<n by omega)
    obtain⟨b2,o2,rfl,hb2,hy⟩:=HD2.out.slot (show 0<n by omega)
    obtain⟨x,hxa,hxi⟩:=hx k hkl
    obtain⟨y,hya,hyi⟩:=hy k hkl2
    clear hx hy
    obtain⟨x0,x1,x2,x3,x4,x5⟩:=AtG.val (hxa.same (hbr.block b hb))
    obtain⟨y0,y1,y2,y3,y4,y5⟩:=AtG.val (w:=wp.alloc (.cells #[.int .i64 x.k,.int .i64 x.i,.int .i64 x.s,.string x.t,.slice x.la x.ll x.lc,.slice x.fa x.fl x.fc] 66)) (hya.same ((Below.heap_alloc _ _ _ (by have:=hbr.size;omega)).trans (hbr.block b2 hb2)))
    have hlt':(k:Int)<(n:Int):=by omega
    have hk0:(0:Int)≤(k:Int):=by omega
    obtain⟨u,hu⟩:∃u,u=valEqB l[k] l2[k]:=⟨_,rfl⟩
    have hba:Below w.heap.size w ((wp.alloc (.cells #[.int .i64 x.k,.int .i64 x.i,.int .i64 x.s,.string x.t,.slice x.la x.ll x.lc,.slice x.fa x.fl x.fc] 66)).alloc (.cells #[.int .i64 y.k,.int .i64 y.i,.int .i64 y.s,.string y.t,.slice y.la y.ll y.lc,.slice y.fa y.fl y.fc] 66)):=(hbr.alloc hbr.size _).alloc (by have:=hbr.size;simp;omega) _
    have HC:Hid (Calls Tryz.prog 115 #[.agg #[.int .i64 x.k,.int .i64 x.i,.int .i64 x.s,.string x.t,.slice x.la x.ll x.lc,.slice x.fa x.fl x.fc],.agg #[.int .i64 y.k,.int .i64 y.i,.int .i64 y.s,.string y.t,.slice y.la y.ll y.lc,.slice y.fa y.fl y.fc]] ((wp.alloc (.cells #[.int .i64 x.k,.int .i64 x.i,.int .i64 x.s,.string x.t,.slice x.la x.ll x.lc,.slice x.fa x.fl x.fc] 66)).alloc (.cells #[.int .i64 y.k,.int .i64 y.i,.int .i64 y.s,.string y.t,.slice y.la y.ll y.lc,.slice y.fa y.fl y.fc] 66)) fun e w'=>e=.returned (.bool u)∧Below ((wp.alloc (.cells #[.int .i64 x.k,.int .i64 x.i,.int .i64 x.s,.string x.t,.slice x.la x.ll x.lc,.slice x.fa x.fl x.fc] 66)).alloc (.cells #[.int .i64 y.k,.int .i64 y.i,.int .i64 y.s,.string y.t,.slice y.la y.ll y.lc,.slice y.fa y.fl y.fc] 66)).heap.size ((wp.alloc (.cells #[.int .i64 x.k,.int .i64 x.i,.int .i64 x.s,.string x.t,.slice x.la x.ll x.lc,.slice x.fa x.fl x.fc] 66)).alloc (.cells #[.int .i64 y.k,.int .i64 y.i,.int .i64 y.s,.string y.t,.slice y.la y.ll y.lc,.slice y.fa y.fl y.fc] 66)) w'):=hid (by
     rw[hu]
     have hs:=hba.size
     exact valEqual_call x y l[k] l2[k] ((wp.alloc (.cells #[.int .i64 x.k,.int .i64 x.i,.int .i64 x.s,.string x.t,.slice x.la x.ll x.lc,.slice x.fa x.fl x.fc] 66)).alloc (.cells #[.int .i64 y.k,.int .i64 y.i,.int .i64 y.s,.string y.t,.slice y.la y.ll y.lc,.slice y.fa y.fl y.fc] 66)) (valK.same (fun b q=>⟨by omega,hba.block b q⟩) hxi) (valK.same (fun b q=>⟨by omega,hba.block b q⟩) hyi))
    have HBA:=hid hba
    have HU:=hid hu
    clear hu hba hxa hya hxi hyi hbr hb hb2
    cases u with
    | false =>
      go_wp2_with (go_at_call 115;refine HC.out.mono ?_;rintro e w3 ⟨rfl,hb3⟩)
      go_ret
      exact⟨retB (eqL_ne k hkl hkl2 HU.out.symm).symm,HBA.out.trans (hb3.mono HBA.out.size)⟩
    | true =>
      go_wp2_with (go_at_call 115;refine HC.out.mono ?_;rintro e w3 ⟨rfl,hb3⟩)
      go_roundw
      case rel=>exact⟨k+1,by omega,by go_num,fun j h1 h2 h=>by
       by_cases hjk:j<k
       ·exact HA.out j h1 h2 hjk
       ·obtain rfl:j=k:=by omega
        exact HU.out.symm,HBA.out.trans (hb3.mono HBA.out.size)⟩
      case measure=>simp[intOf];omega
   ·obtain rfl:k=n:=by omega
    have r:=hid (eqL_of (f:=valEqB) (HL.out.symm.trans HL2.out) fun j h1 h2=>HA.out j h1 h2 (by have:=HL.out;omega))
    go_wp2
    go_ret
    exact⟨retB r.out.symm,HBR.out⟩
 ·have q2':¬ (n:Int)=(n2:Int):=by omega
  go_wp2
  go_ret
  exact⟨retB (eqL_len (by rw[←HL.out,←HL2.out];exact q2)).symm,Below.refl _ _⟩
theorem equalSlot_call (c c2:SlC) (d d2:Slot) (w:World) (hd:IsSl (· < w.heap.size) w c d) (hd2:IsSl (· < w.heap.size) w c2 d2):Calls Tryz.prog 118 #[c.v,c2.v] w fun e w'=>e=.returned (.bool (slEqB d d2))∧Below w.heap.size w w':=by
 obtain⟨⟨kk,ki,ks,kt,kla,kll,klc,kfa,kfl,kfc⟩,n,t,ia,il,ic,va,vl,vc⟩:=c
 obtain⟨⟨kk2,ki2,ks2,kt2,kla2,kll2,klc2,kfa2,kfl2,kfc2⟩,n2,t2,ia2,il2,ic2,va2,vl2,vc2⟩:=c2
 obtain⟨wb,hwb⟩:∃wb,wb=((w.alloc (.cells #[.int .i64 kk,.int .i64 ki,.int .i64 ks,.string kt,.slice kla kll klc,.slice kfa kfl kfc,.int .i64 n,.int .i64 t,.slice ia il ic,.slice va vl vc] 133)).alloc (.cells #[.int .i64 kk2,.int .i64 ki2,.int .i64 ks2,.string kt2,.slice kla2 kll2 klc2,.slice kfa2 kfl2 kfc2,.int .i64 n2,.int .i64 t2,.slice ia2 il2 ic2,.slice va2 vl2 vc2] 133)):=⟨_,rfl⟩
 have hb0:Below w.heap.size w wb:=by rw[hwb];exact((Below.refl _ w).alloc (Nat.le_refl _) _).alloc (by simp) _
 have g1:wb.heap[w.heap.size]?=some (.cells #[.int .i64 kk,.int .i64 ki,.int .i64 ks,.string kt,.slice kla kll klc,.slice kfa kfl kfc,.int .i64 n,.int .i64 t,.slice ia il ic,.slice va vl vc] 133):=by rw[hwb];exact heapAlloc _ (heap_alloc_new w _)
 have g2:wb.heap[w.heap.size+1]?=some (.cells #[.int .i64 kk2,.int .i64 ki2,.int .i64 ks2,.string kt2,.slice kla2 kll2 klc2,.slice kfa2 kfl2 kfc2,.int .i64 n2,.int .i64 t2,.slice ia2 il2 ic2,.slice va2 vl2 vc2] 133):=by rw[hwb];exact heapNewAt _ _ _ (by simp)
 have hbig:=hd.items.big
 have hbig2:=hd2.items.big
 have hbigv:=hd.vals.big
 have hbigv2:=hd2.vals.big
 have HL:=hid hd.items.len
 have HL2:=hid hd2.items.len
 have HLV:=hid hd.vals.len
 have HLV2:=hid hd2.vals.len
 have hq:=hid (show slEqB d d2=((cmpV d.k d2.k==0)&&(decide (n=n2)&&(decide (t=t2)&&(eqL msgEqB d.items d2.items&&eqL valEqB d.vals d2.vals)))) by rw[slEqB,←hd.n,←hd2.n,←hd.t,←hd2.t])
 dsimp only at HL HL2 HLV HLV2 hbig hbig2 hbigv hbigv2
 obtain⟨u,hu⟩:∃u,u=(cmpV d.k d2.k==0):=⟨_,rfl⟩
 rw[←hu] at hq
 have HC:Hid (∀w',Below wb.heap.size wb w'→(w'.cell? ⟨w.heap.size,0,none⟩=some (.int .i64 kk)∧w'.cell? ⟨w.heap.size,1,none⟩=some (.int .i64 ki)∧w'.cell? ⟨w.heap.size,2,none⟩=some (.int .i64 ks)∧w'.cell? ⟨w.heap.size,3,none⟩=some (.string kt)∧w'.cell? ⟨w.heap.size,4,none⟩=some (.slice kla kll klc)∧w'.cell? ⟨w.heap.size,5,none⟩=some (.slice kfa kfl kfc)∧w'.cell? ⟨w.heap.size,6,none⟩=some (.int .i64 n)∧w'.cell? ⟨w.heap.size,7,none⟩=some (.int .i64 t)∧w'.cell? ⟨w.heap.size,8,none⟩=some (.slice ia il ic)∧w'.cell? ⟨w.heap.size,9,none⟩=some (.slice va vl vc))∧(w'.cell? ⟨w.heap.size+1,0,none⟩=some (.int .i64 kk2)∧w'.cell? ⟨w.heap.size+1,1,none⟩=some (.int .i64 ki2)∧w'.cell? ⟨w.heap.size+1,2,none⟩=some (.int .i64 ks2)∧w'.cell? ⟨w.heap.size+1,3,none⟩=some (.string kt2)∧w'.cell? ⟨w.heap.size+1,4,none⟩=some (.slice kla2 kll2 klc2)∧w'.cell? ⟨w.heap.size+1,5,none⟩=some (.slice kfa2 kfl2 kfc2)∧w'.cell? ⟨w.heap.size+1,6,none⟩=some (.int .i64 n2)∧w'.cell? ⟨w.heap.size+1,7,none⟩=some (.int .i64 t2)∧w'.cell? ⟨w.heap.size+1,8,none⟩=some (.slice ia2 il2 ic2)∧w'.cell? ⟨w.heap.size+1,9,none⟩=some (.slice va2 vl2 vc2))∧Below w.heap.size w w'∧(IsRow msgK (· < w.heap.size) w' ia il ic d.items∧IsRow msgK (· < w.heap.size) w' ia2 il2 ic2 d2.items)∧(IsRow valK (· < w.heap.size) w' va vl vc d.vals∧IsRow valK (· < w.heap.size) w' va2 vl2 vc2 d2.vals)):=hid fun w' h=>by
  have hb:=hb0.trans (h.mono hb0.size)
  have h1:=heapExt h g1
  have h2:=heapExt h g2
  exact⟨⟨cellOf h1 0,cellOf h1 1,cellOf h1 2,cellOf h1 3,cellOf h1 4,cellOf h1 5,cellOf h1 6,cellOf h1 7,cellOf h1 8,cellOf h1 9⟩,⟨cellOf h2 0,cellOf h2 1,cellOf h2 2,cellOf h2 3,cellOf h2 4,cellOf h2 5,cellOf h2 6,cellOf h2 7,cellOf h2 8,cellOf h2 9⟩,hb,⟨hd.items.same fun b q=>⟨q,hb.block b q⟩,hd2.items.same fun b q=>⟨q,hb.block b q⟩⟩,⟨hd.vals.same fun b q=>⟨q,hb.block b q⟩,hd2.vals.same fun b q=>⟨q,hb.block b q⟩⟩⟩
 have HST:Hid (Calls Tryz.prog 115 #[.agg #[.int .i64 kk,.int .i64 ki,.int .i64 ks,.string kt,.slice kla kll klc,.slice kfa kfl kfc],.agg #[.int .i64 kk2,.int .i64 ki2,.int .i64 ks2,.string kt2,.slice kla2 kll2 klc2,.slice kfa2 kfl2 kfc2]] wb fun e w'=>e=.returned (.bool u)∧Below wb.heap.size wb w'):=hid (by
  rw[hu]
  have hs:=hb0.size
  exact valEqual_call ⟨kk,ki,ks,kt,kla,kll,klc,kfa,kfl,kfc⟩ ⟨kk2,ki2,ks2,kt2,kla2,kll2,klc2,kfa2,kfl2,kfc2⟩ d.k d2.k wb (hd.k.same fun b q=>⟨by omega,hb0.block b q⟩) (hd2.k.same fun b q=>⟨by omega,hb0.block b q⟩))
 have h0:=HC.out _ (Below.refl _ _)
 rw[hwb] at HST h0
 obtain⟨⟨e0,e1,e2,e3,e4,e5,e6,e7,e8,e9⟩,⟨f0,f1,f2,f3,f4,f5,f6,f7,f8,f9⟩,_⟩:=h0
 clear hd hd2 hu g1 g2 hb0
 dsimp only[SlC.v]
 go_enter Tryz.func118,Tryz.ntmps118
 cases u with
 | false =>
   have r:=hid (show slEqB d d2=false by rw[hq.out];simp[*])
   go_wp2_with (go_at_call 115;refine HST.out.mono ?_;rintro e w1 ⟨rfl,hb1⟩;rw[←hwb] at hb1;obtain⟨c1,c2,hbw,_,_⟩:=HC.out w1 hb1;clear e0 e1 e2 e3 e4 e5 e6 e7 e8 e9 f0 f1 f2 f3 f4 f5 f6 f7 f8 f9;obtain⟨j0,j1,j2,j3,j4,j5,j6,j7,j8,j9⟩:=c1;obtain⟨l0,l1,l2,l3,l4,l5,l6,l7,l8,l9⟩:=c2)
   go_ret
   exact⟨retB r.out.symm,hbw⟩
 | true =>
 by_cases q1:n=n2
 ·subst q1
  by_cases q2:t=t2
  ·subst q2
   obtain⟨v,hv⟩:∃v,v=eqL msgEqB d.items d2.items:=⟨_,rfl⟩
   obtain⟨z,hz⟩:∃z,z=eqL valEqB d.vals d2.vals:=⟨_,rfl⟩
   have r:=hid (show slEqB d d2=(v&&z) by rw[hq.out,←hv,←hz];simp[*])
   have HEV:Hid (∀w',Below wb.heap.size wb w'→Calls Tryz.prog 184 #[.slice ia il ic,.slice ia2 il2 ic2,.func (.func 43) #[] #[]] w' fun e w2=>e=.returned (.bool v)∧Below w'.heap.size w' w2):=hid fun w' h=>by
    rw[hv]
    obtain⟨_,_,hb,⟨h1,h2⟩,_⟩:=HC.out w' h
    have hs:=hb.size
    exact eqFnM_call ia ia2 il ic il2 ic2 d.items d2.items w' (h1.same fun b q=>⟨by omega,rfl⟩) (h2.same fun b q=>⟨by omega,rfl⟩)
   have HEZ:Hid (∀w',Below wb.heap.size wb w'→Calls Tryz.prog 185 #[.slice va vl vc,.slice va2 vl2 vc2,.func (.func 115) #[] #[]] w' fun e w2=>e=.returned (.bool z)∧Below w'.heap.size w' w2):=hid fun w' h=>by
    rw[hz]
    obtain⟨_,_,hb,_,⟨h1,h2⟩⟩:=HC.out w' h
    have hs:=hb.size
    exact eqFnV_call va va2 vl vc vl2 vc2 d.vals d2.vals w' (h1.same fun b q=>⟨by omega,rfl⟩) (h2.same fun b q=>⟨by omega,rfl⟩)
   clear hv hz
   cases v with
   | false =>
     go_wp2_with (first
      | (go_at_call 184;refine(HEV.out _ hb1).mono ?_;rintro e w2 ⟨rfl,hb2⟩)
      | (go_at_call 115;refine HST.out.mono ?_;rintro e w1 ⟨rfl,hb1⟩;rw[←hwb] at hb1;obtain⟨c1,c2,hbw,_,_⟩:=HC.out w1 hb1;clear e0 e1 e2 e3 e4 e5 e6 e7 e8 e9 f0 f1 f2 f3 f4 f5 f6 f7 f8 f9;obtain⟨j0,j1,j2,j3,j4,j5,j6,j7,j8,j9⟩:=c1;obtain⟨l0,l1,l2,l3,l4,l5,l6,l7,l8,l9⟩:=c2))
     go_ret
     exact⟨retB r.out.symm,hbw.trans (hb2.mono hbw.size)⟩
   | true =>
     go_wp2_with (first
      | (go_at_call 185;refine(HEZ.out _ (hb1.trans (hb2.mono hb1.size))).mono ?_;rintro e w3 ⟨rfl,hb3⟩)
      | (go_at_call 184;refine(HEV.out _ hb1).mono ?_;rintro e w2 ⟨rfl,hb2⟩;obtain⟨c1,c2,hbw2,_,_⟩:=HC.out w2 (hb1.trans (hb2.mono hb1.size));clear j0 j1 j2 j3 j4 j5 j6 j7 j8 j9 l0 l1 l2 l3 l4 l5 l6 l7 l8 l9;obtain⟨j0,j1,j2,j3,j4,j5,j6,j7,j8,j9⟩:=c1;obtain⟨l0,l1,l2,l3,l4,l5,l6,l7,l8,l9⟩:=c2)
      | (go_at_call 115;refine HST.out.mono ?_;rintro e w1 ⟨rfl,hb1⟩;rw[←hwb] at hb1;obtain⟨c1,c2,hbw,_,_⟩:=HC.out w1 hb1;clear e0 e1 e2 e3 e4 e5 e6 e7 e8 e9 f0 f1 f2 f3 f4 f5 f6 f7 f8 f9;obtain⟨j0,j1,j2,j3,j4,j5,j6,j7,j8,j9⟩:=c1;obtain⟨l0,l1,l2,l3,l4,l5,l6,l7,l8,l9⟩:=c2))
     go_ret
     exact⟨retB r.out.symm,hbw2.trans (hb3.mono hbw2.size)⟩
  ·have r:=hid (show slEqB d d2=false by rw[hq.out];simp[*])
   go_wp2_with (go_at_call 115;refine HST.out.mono ?_;rintro e w1 ⟨rfl,hb1⟩;rw[←hwb] at hb1;obtain⟨c1,c2,hbw,_,_⟩:=HC.out w1 hb1;clear e0 e1 e2 e3 e4 e5 e6 e7 e8 e9 f0 f1 f2 f3 f4 f5 f6 f7 f8 f9;obtain⟨j0,j1,j2,j3,j4,j5,j6,j7,j8,j9⟩:=c1;obtain⟨l0,l1,l2,l3,l4,l5,l6,l7,l8,l9⟩:=c2)
   go_ret
   exact⟨retB r.out.symm,hbw⟩
 ·have r:=hid (show slEqB d d2=false by rw[hq.out];simp[*])
  go_wp2_with (go_at_call 115;refine HST.out.mono ?_;rintro e w1 ⟨rfl,hb1⟩;rw[←hwb] at hb1;obtain⟨c1,c2,hbw,_,_⟩:=HC.out w1 hb1;clear e0 e1 e2 e3 e4 e5 e6 e7 e8 e9 f0 f1 f2 f3 f4 f5 f6 f7 f8 f9;obtain⟨j0,j1,j2,j3,j4,j5,j6,j7,j8,j9⟩:=c1;obtain⟨l0,l1,l2,l3,l4,l5,l6,l7,l8,l9⟩:=c2)
  go_ret
  exact⟨retB r.out.symm,hbw⟩
end
section
open Go Go.RowKit Go.Shelf
def staEqB (d d2:Sta):Bool:=decide (d.n=d2.n)&&(decide (d.t=d2.t)&&eqL slEqB d.l d2.l)
theorem eqFnS_call (a a2:Option Addr) (n c n2 c2:Nat) (l l2:List Slot) (w:World) (hd:IsRow slK (· < w.heap.size) w a n c l) (hd2:IsRow slK (· < w.heap.size) w a2 n2 c2 l2) :
 Calls Tryz.prog 117 #[.slice a n c,.slice a2 n2 c2,.func (.func 118) #[] #[]] w fun e w'=>e=.returned (.bool (eqL slEqB l l2))∧Below w.heap.size w w':=by
 have hen:∀args w,(callFunc 118 args).run Tryz.prog w=.ok (.enter 118 args) w:=enters_of Tryz.func118 (by kernel_rfl) rfl
 have hbig:=hd.big
 have hbig2:=hd2.big
 have HL:=hid hd.len
 have HL2:=hid hd2.len
 have HD:=hid hd
 have HD2:=hid hd2
 clear hd hd2
 go_enter Tryz.func117,Tryz.ntmps117
 by_cases q2:n=n2
 ·subst q2
  go_wp2
  go_loopw [17] (fun i wr=>∃k:Nat,k≤n∧i=.int .i64 k∧(∀j (h1:j<l.length) (h2:j<l2.length),j<k→slEqB l[j] l2[j]=true)∧Below w.heap.size w wr) (fun i _=>n-(intOf i).toNat)
  case atStart=>exact⟨0,Nat.zero_le _,rfl,fun j _ _ h=>absurd h (Nat.not_lt_zero j),Below.refl _ _⟩
  case round =>
   obtain⟨k,hk,rfl,hall,hbr⟩:=hrel
   have HA:=hid hall
   clear hall
   obtain⟨wp,rfl⟩:∃w1:World,w1=wr:=⟨_,rfl⟩
   have HBR:=hid hbr
   have hn63:(n:Int)≤9223372036854775807:=by omega
   by_cases hlt:k<n
   ·have hkl:k<l.length:=by have:=HL.out;omega
    have hkl2:k<l2.length:=by have:=HL2.out;omega
    obtain⟨b,o,rfl,hb,hx⟩:=HD.out.slot (show 0<n by omega)
    obtain⟨b2,o2,rfl,hb2,hy⟩:=HD2.out.slot (show 0<n by omega)
    obtain⟨x,hxa,hxi⟩:=hx k hkl
    obtain⟨y,hya,hyi⟩:=hy k hkl2
    clear hx hy
    obtain⟨x0,x1,x2,x3,x4,x5,x6,x7,x8,x9⟩:=AtG.slot (hxa.same (hbr.block b hb))
    obtain⟨y0,y1,y2,y3,y4,y5,y6,y7,y8,y9⟩:=AtG.slot (w:=wp.alloc (.cells #[.int .i64 x.k.k,.int .i64 x.k.i,.int .i64 x.k.s,.string x.k.t,.slice x.k.la x.k.ll x.k.lc,.slice x.k.fa x.k.fl x.k.fc,.int .i64 x.n,.int .i64 x.t,.slice x.ia x.il x.ic,.slice x.va x.vl x.vc] 133)) (hya.same ((Below.heap_alloc _ _ _ (by have:=hbr.size;omega)).trans (hbr.block b2 hb2)))
    have hlt':(k:Int)<(n:Int):=by omega
    have hk0:(0:Int)≤(k:Int):=by omega
    obtain⟨u,hu⟩:∃u,u=slEqB l[k] l2[k]:=⟨_,rfl⟩
    have hba:Below w.heap.size w ((wp.alloc (.cells #[.int .i64 x.k.k,.int .i64 x.k.i,.int .i64 x.k.s,.string x.k.t,.slice x.k.la x.k.ll x.k.lc,.slice x.k.fa x.k.fl x.k.fc,.int .i64 x.n,.int .i64 x.t,.slice x.ia x.il x.ic,.slice x.va x.vl x.vc] 133)).alloc (.cells #[.int .i64 y.k.k,.int .i64 y.k.i,.int .i64 y.k.s,.string y.k.t,.slice y.k.la y.k.ll y.k.lc,.slice y.k.fa y.k.fl y.k.fc,.int .i64 y.n,.int .i64 y.t,.slice y.ia y.il y.ic,.slice y.va y.vl y.vc] 133)):=(hbr.alloc hbr.size _).alloc (by have:=hbr.size;simp;omega) _
    have HC:Hid (Calls Tryz.prog 118 #[.agg #[.int .i64 x.k.k,.int .i64 x.k.i,.int .i64 x.k.s,.string x.k.t,.slice x.k.la x.k.ll x.k.lc,.slice x.k.fa x.k.fl x.k.fc,.int .i64 x.n,.int .i64 x.t,.slice x.ia x.il x.ic,.slice x.va x.vl x.vc],.agg #[.int .i64 y.k.k,.int .i64 y.k.i,.int .i64 y.k.s,.string y.k.t,.slice y.k.la y.k.ll y.k.lc,.slice y.k.fa y.k.fl y.k.fc,.int .i64 y.n,.int .i64 y.t,.slice y.ia y.il y.ic,.slice y.va y.vl y.vc]] ((wp.alloc (.cells #[.int .i64 x.k.k,.int .i64 x.k.i,.int .i64 x.k.s,.string x.k.t,.slice x.k.la x.k.ll x.k.lc,.slice x.k.fa x.k.fl x.k.fc,.int .i64 x.n,.int .i64 x.t,.slice x.ia x.il x.ic,.slice x.va x.vl x.vc] 133)).alloc (.cells #[.int .i64 y.k.k,.int .i64 y.k.i,.int .i64 y.k.s,.string y.k.t,.slice y.k.la y.k.ll y.k.lc,.slice y.k.fa y.k.fl y.k.fc,.int .i64 y.n,.int .i64 y.t,.slice y.ia y.il y.ic,.slice y.va y.vl y.vc] 133)) fun e w'=>e=.returned (.bool u)∧Below ((wp.alloc (.cells #[.int .i64 x.k.k,.int .i64 x.k.i,.int .i64 x.k.s,.string x.k.t,.slice x.k.la x.k.ll x.k.lc,.slice x.k.fa x.k.fl x.k.fc,.int .i64 x.n,.int .i64 x.t,.slice x.ia x.il x.ic,.slice x.va x.vl x.vc] 133)).alloc (.cells #[.int .i64 y.k.k,.int .i64 y.k.i,.int .i64 y.k.s,.string y.k.t,.slice y.k.la y.k.ll y.k.lc,.slice y.k.fa y.k.fl y.k.fc,.int .i64 y.n,.int .i64 y.t,.slice y.ia y.il y.ic,.slice y.va y.vl y.vc] 133)).heap.size ((wp.alloc (.cells #[.int .i64 x.k.k,.int .i64 x.k.i,.int .i64 x.k.s,.string x.k.t,.slice x.k.la x.k.ll x.k.lc,.slice x.k.fa x.k.fl x.k.fc,.int .i64 x.n,.int .i64 x.t,.slice x.ia x.il x.ic,.slice x.va x.vl x.vc] 133)).alloc (.cells #[.int .i64 y.k.k,.int .i64 y.k.i,.int .i64 y.k.s,.string y.k.t,.slice y.k.la y.k.ll y.k.lc,.slice y.k.fa y.k.fl y.k.fc,.int .i64 y.n,.int .i64 y.t,.slice y.ia y.il y.ic,.slice y.va y.vl y.vc] 133)) w'):=hid (by
     rw[hu]
     have hs:=hba.size
     exact equalSlot_call x y l[k] l2[k] ((wp.alloc (.cells #[.int .i64 x.k.k,.int .i64 x.k.i,.int .i64 x.k.s,.string x.k.t,.slice x.k.la x.k.ll x.k.lc,.slice x.k.fa x.k.fl x.k.fc,.int .i64 x.n,.int .i64 x.t,.slice x.ia x.il x.ic,.slice x.va x.vl x.vc] 133)).alloc (.cells #[.int .i64 y.k.k,.int .i64 y.k.i,.int .i64 y.k.s,.string y.k.t,.slice y.k.la y.k.ll y.k.lc,.slice y.k.fa y.k.fl y.k.fc,.int .i64 y.n,.int .i64 y.t,.slice y.ia y.il y.ic,.slice y.va y.vl y.vc] 133)) (slK.same (fun b q=>⟨by omega,hba.block b q⟩) hxi) (slK.same (fun b q=>⟨by omega,hba.block b q⟩) hyi))
    have HBA:=hid hba
    have HU:=hid hu
    clear hu hba hxa hya hxi hyi hbr hb hb2
    cases u with
    | false =>
      go_wp2_with (go_at_call 118;refine HC.out.mono ?_;rintro e w3 ⟨rfl,hb3⟩)
      go_ret
      exact⟨retB (eqL_ne k hkl hkl2 HU.out.symm).symm,HBA.out.trans (hb3.mono HBA.out.size)⟩
    | true =>
      go_wp2_with (go_at_call 118;refine HC.out.mono ?_;rintro e w3 ⟨rfl,hb3⟩)
      go_roundw
      case rel=>exact⟨k+1,by omega,by go_num,fun j h1 h2 h=>by
       by_cases hjk:j<k
       ·exact HA.out j h1 h2 hjk
       ·obtain rfl:j=k:=by omega
        exact HU.out.symm,HBA.out.trans (hb3.mono HBA.out.size)⟩
      case measure=>simp[intOf];omega
   ·obtain rfl:k=n:=by omega
    have r:=hid (eqL_of (f:=slEqB) (HL.out.symm.trans HL2.out) fun j h1 h2=>HA.out j h1 h2 (by have:=HL.out;omega))
    go_wp2
    go_ret
    exact⟨retB r.out.symm,HBR.out⟩
 ·have q2':¬ (n:Int)=(n2:Int):=by omega
  go_wp2
  go_ret
  exact⟨retB (eqL_len (by rw[←HL.out,←HL2.out];exact q2)).symm,Below.refl _ _⟩
theorem equalSta_call (c c2:StC) (d d2:Sta) (w:World) (hd:IsSta (· < w.heap.size) w c d) (hd2:IsSta (· < w.heap.size) w c2 d2):Calls Tryz.prog 48 #[c.v,c2.v] w fun e w'=>e=.returned (.bool (staEqB d d2))∧Below w.heap.size w w':=by
 obtain⟨n,t,a,l,c⟩:=c
 obtain⟨n2,t2,a2,l2,c2⟩:=c2
 obtain⟨wb,hwb⟩:∃wb,wb=((w.alloc (.cells #[.int .i64 n,.int .i64 t,.slice a l c] 55)).alloc (.cells #[.int .i64 n2,.int .i64 t2,.slice a2 l2 c2] 55)):=⟨_,rfl⟩
 have hb0:Below w.heap.size w wb:=by rw[hwb];exact((Below.refl _ w).alloc (Nat.le_refl _) _).alloc (by simp) _
 have g1:wb.heap[w.heap.size]?=some (.cells #[.int .i64 n,.int .i64 t,.slice a l c] 55):=by rw[hwb];exact heapAlloc _ (heap_alloc_new w _)
 have g2:wb.heap[w.heap.size+1]?=some (.cells #[.int .i64 n2,.int .i64 t2,.slice a2 l2 c2] 55):=by rw[hwb];exact heapNewAt _ _ _ (by simp)
 obtain⟨u,hu⟩:∃u,u=eqL slEqB d.l d2.l:=⟨_,rfl⟩
 have hq:=hid (show staEqB d d2=(decide (n=n2)&&(decide (t=t2)&&u)) by rw[staEqB,←hd.n,←hd2.n,←hd.t,←hd2.t,hu])
 have HCA:Hid (Calls Tryz.prog 117 #[.slice a l c,.slice a2 l2 c2,.func (.func 118) #[] #[]] wb fun e w'=>e=.returned (.bool u)∧Below wb.heap.size wb w'):=hid (by
  rw[hu]
  have hs:=hb0.size
  exact eqFnS_call a a2 l c l2 c2 d.l d2.l wb (hd.l.same fun b q=>⟨by omega,hb0.block b q⟩) (hd2.l.same fun b q=>⟨by omega,hb0.block b q⟩))
 have x0:=cellOf g1 0
 have x1:=cellOf g1 1
 have x2:=cellOf g1 2
 have y0:=cellOf g2 0
 have y1:=cellOf g2 1
 have y2:=cellOf g2 2
 (try dsimp only at x0 x1 x2 y0 y1 y2)
 rw[hwb] at x0 x1 x2 y0 y1 y2 HCA
 have HB0:=hid hb0
 have HWB:=hid hwb
 clear hd hd2 hu g1 g2 hb0 hwb
 dsimp only[StC.v]
 go_enter Tryz.func48,Tryz.ntmps48
 by_cases q1:n=n2
 ·subst q1
  by_cases q2:t=t2
  ·subst q2
   have r:=hid (show staEqB d d2=u by rw[hq.out];simp)
   go_wp2_with (go_at_call 117;refine HCA.out.mono ?_;rintro e w3 ⟨rfl,hb3⟩)
   go_ret
   rw[←HWB.out] at hb3
   exact⟨retB r.out.symm,HB0.out.trans (hb3.mono HB0.out.size)⟩
  ·have r:=hid (show staEqB d d2=false by rw[hq.out];simp[*])
   go_wp2
   go_ret
   exact⟨retB r.out.symm,by rw[←HWB.out];exact HB0.out⟩
 ·have r:=hid (show staEqB d d2=false by rw[hq.out];simp[*])
  go_wp2
  go_ret
  exact⟨retB r.out.symm,by rw[←HWB.out];exact HB0.out⟩
end
section
open Go Go.RowKit
theorem orL_cons (x:Int) (r:List Int):orL (x :: r)=0 ↔ x=0∧orL r=0:=by
 rw[orL]
 by_cases h:x=0
 ·simp[h]
 ·simp[h]
theorem cmpB_zero:∀{xs ys:List UInt8},Lib.compareBytes xs ys=0→xs=ys
 | [],[],_=>rfl
 | [],_ :: _,h=>by simp[Lib.compareBytes] at h
 | _ :: _,[],h=>by simp[Lib.compareBytes] at h
 | a :: r,b :: q,h=>by
   rw[Lib.compareBytes] at h
   split at h
   ·simp at h
   ·rename_i h1
    split at h
    ·simp at h
    ·rename_i h2
     have hab:a=b:=UInt8.le_antisymm (UInt8.not_lt.1 h2) (UInt8.not_lt.1 h1)
     rw[hab,cmpB_zero h]
mutual
theorem cmpV_symm:∀(d d2:Val),cmpV d d2=0→cmpV d2 d=0
 | .mk k i s t l ns fs,.mk k' i' s' t' l' ns' fs',h=>by
   rw[cmpV] at h ⊢
   simp only[orL_cons] at h ⊢
   obtain⟨h1,h2,h3,h4,h5,h6,h7⟩:=h
   refine⟨?_,?_,?_,?_,cmpVs_symm l l' h5,cmpFs_symm fs ns ns' fs' h6,h7⟩
   ·rw[cmpInt_zero h1,cmpInt_refl]
   ·rw[cmpInt_zero h2,cmpInt_refl]
   ·rw[cmpInt_zero h3,cmpInt_refl]
   ·rw[cmpB_zero h4,cmpB_refl]
theorem cmpVs_symm:∀(l l':List Val),cmpVs l l'=0→cmpVs l' l=0
 | [],[],_=>rfl
 | [],_ :: _,h=>by rw[cmpVs] at h;cases h
 | _ :: _,[],h=>by rw[cmpVs] at h;cases h
 | d :: l,d' :: l',h=>by
   rw[cmpVs] at h ⊢
   by_cases h1:cmpV d d'=0
   ·rw[if_neg (by simpa using h1)] at h
    rw[if_neg (by simpa using cmpV_symm d d' h1)]
    exact cmpVs_symm l l' h
   ·rw[if_pos h1] at h
    exact absurd h h1
theorem cmpFs_symm:∀(l:List Val) (ns ns':List ByteArray) (l':List Val),cmpFs ns l ns' l'=0→cmpFs ns' l' ns l=0
 | [],ns,ns',[],_=>by rw[cmpFs]
 | [],ns,ns',_ :: _,h=>by rw[cmpFs] at h;cases h
 | _ :: _,ns,ns',[],h=>by rw[cmpFs] at h;cases h
 | d :: l,ns,ns',d' :: l',h=>by
   rw[cmpFs] at h ⊢
   by_cases h1:orL [Lib.compareBytes (ns.headD ByteArray.empty).data.toList (ns'.headD ByteArray.empty).data.toList,cmpV d d']=0
   ·rw[if_neg (by simpa using h1)] at h
    simp only[orL_cons] at h1
    obtain⟨h2,h3,h4⟩:=h1
    have h5:orL [Lib.compareBytes (ns'.headD ByteArray.empty).data.toList (ns.headD ByteArray.empty).data.toList,cmpV d' d]=0:=by
     simp only[orL_cons]
     exact⟨by rw[cmpB_zero h2,cmpB_refl],cmpV_symm d d' h3,h4⟩
    rw[if_neg (fun h=>h h5)]
    exact cmpFs_symm l ns.tail ns'.tail l' h
   ·rw[if_pos h1] at h
    exact absurd h h1
end
end
end Go.Proofs.YteladbdfiannjaaGreatDoor
