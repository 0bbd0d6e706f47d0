/- A part. -/
import Derived.Test.YteladbdfiannjaaGreatDoorSX28Mrg
namespace Go.Proofs.YteladbdfiannjaaGreatDoor
set_option linter.unusedVariables false
set_option maxRecDepth 100000
set_option maxHeartbeats 64000000
set_option linter.unusedSimpArgs false
section
open Go Go.RowKit Go.Shelf
theorem rU (n a b:Int) (p:Bool) (hp:p=(decide (a≤n)&&decide (n≤b))) (w:World):Calls Tryz.prog 37 #[.int .i64 n,.int .i64 a,.int .i64 b] w fun e w'=>e=.returned (.bool p)∧w'=w:=by
 by_cases h1:a≤n
 ·by_cases h2:n≤b
  ·have hq:p=true:=by rw[hp,decide_eq_true h1,decide_eq_true h2];rfl
   clear hp
   subst hq
   go_enter Tryz.func37,Tryz.ntmps37
   go_wp2
   go_ret
   exact⟨rfl,rfl⟩
  ·have hq:p=false:=by rw[hp,decide_eq_true h1,decide_eq_false h2];rfl
   clear hp
   subst hq
   go_enter Tryz.func37,Tryz.ntmps37
   go_wp2
   go_ret
   exact⟨rfl,rfl⟩
 ·have hq:p=false:=by rw[hp,decide_eq_false h1];rfl
  clear hp
  subst hq
  go_enter Tryz.func37,Tryz.ntmps37
  go_wp2
  go_ret
  exact⟨rfl,rfl⟩
theorem aO (n a b:Int) (w:World):Calls Tryz.prog 37 #[.int .i64 n,.int .i64 a,.int .i64 b] w fun e w'=>e=.returned (.bool (inQ n a b))∧w'=w:=rU n a b _ rfl w
theorem lW (x:LetC) (d:Let) (w:World) (hd:IsLet (· < w.heap.size) w x d) (hT:Tabs w):Calls Tryz.prog 40 #[.agg #[.int .i64 x.m.st.e,.slice x.m.st.a x.m.st.n x.m.st.c,.int .i64 x.m.m,.slice x.m.a x.m.n x.m.c,.int .i64 x.m.b.k,.int .i64 x.m.b.i,.int .i64 x.m.b.s,.string x.m.b.t,.slice x.m.b.la x.m.b.ll x.m.b.lc,.slice x.m.b.fa x.m.b.fl x.m.b.fc,.string x.nd,.string x.tx,.int .i64 x.vr]] w fun e w'=>e=.returned (.int .i64 (kL d))∧Below w.heap.size w w':=by
 have hba:Below w.heap.size w (w.alloc (letO x)):=(Below.refl _ _).alloc lr _
 have HB:=hid hba
 have HV:=hid (kA x.tx hd.txz (w.alloc (letO x)) (hT.below hba))
 have HM:=hid (fun (w':World) (hb:Below (w.alloc (letO x)).heap.size (w.alloc (letO x)) w')=>by
  have hs:=hb.size
  have hz:(w.alloc (letO x)).heap.size=w.heap.size+1:=by simp
  exact cQ x.m d.m w' (hd.m.same fun b hb'=>⟨by omega,(hb.block b (by omega)).trans (hba.block b hb')⟩) ((hT.below hba).below hb))
 have hE:kL d=if inQ x.vr 1 999=false then 2 else if aI x.nd=false then 12 else if Lib.validD x.tx.data.toList=false then 16 else dB d.m:=by unfold kL;rw[hd.vr,hd.nd,hd.tx]
 obtain⟨me,hme⟩:∃me,me=dB d.m:=⟨_,rfl⟩
 rw[←hme] at hE
 simp only[←hme] at HM
 dsimp only[MC.v] at HM
 have HE:=hid hE
 clear hE hba hd hT hme
 obtain⟨xm,nd,tx,vr⟩:=x
 dsimp only at HV HM HE HB ⊢
 cases h0:inQ vr 1 999
 ·go_enter Tryz.func40,Tryz.ntmps40
  go_wp2_with (go_at_call 37;refine(aO _ _ _ _).mono ?_;rintro e w3 ⟨rfl,hw3⟩;obtain rfl:=hw3)
  go_ret
  exact⟨by rw[HE.out,if_pos h0];rfl,HB.out⟩
 ·cases h1:aI nd
  ·go_enter Tryz.func40,Tryz.ntmps40
   go_wp2_with (first | (go_at_call 37;refine(aO _ _ _ _).mono ?_;rintro e w3 ⟨rfl,hw3⟩;obtain rfl:=hw3) | (go_at_call 39;refine(aG _ _).mono ?_;rintro e w3 ⟨rfl,hw3⟩;obtain rfl:=hw3))
   go_ret
   exact⟨by rw[HE.out,h0,h1];rfl,HB.out⟩
  ·cases h2:Lib.validD tx.data.toList
   ·go_enter Tryz.func40,Tryz.ntmps40
    go_wp2_with (first | (go_at_call 37;refine(aO _ _ _ _).mono ?_;rintro e w3 ⟨rfl,hw3⟩;obtain rfl:=hw3) | (go_at_call 39;refine(aG _ _).mono ?_;rintro e w3 ⟨rfl,hw3⟩;obtain rfl:=hw3) | (go_at_call 110;refine HV.out.mono ?_;rintro e w3 ⟨rfl,hb3⟩;have HB3:=hid hb3;clear hb3))
    go_ret
    exact⟨by rw[HE.out,h0,h1,h2];rfl,HB.out.trans (HB3.out.mono HB.out.size)⟩
   ·go_enter Tryz.func40,Tryz.ntmps40
    have HG:=hid (heap_alloc_new w (letO ⟨xm,nd,tx,vr⟩))
    go_wp2_with (first | (go_at_call 37;refine(aO _ _ _ _).mono ?_;rintro e w3 ⟨rfl,hw3⟩;obtain rfl:=hw3) | (go_at_call 39;refine(aG _ _).mono ?_;rintro e w3 ⟨rfl,hw3⟩;obtain rfl:=hw3) | (go_at_call 110;refine HV.out.mono ?_;rintro e w3 ⟨rfl,hb3⟩;have HB3:=hid hb3;have hg3:=aB hb3 HG.out;have q0:=aA hg3 0;have q1:=aA hg3 1;have q2:=aA hg3 2;have q3:=aA hg3 3;have q4:=aA hg3 4;have q5:=aA hg3 5;have q6:=aA hg3 6;have q7:=aA hg3 7;have q8:=aA hg3 8;have q9:=aA hg3 9;(try dsimp only at q0 q1 q2 q3 q4 q5 q6 q7 q8 q9);clear hb3 hg3) | (go_at_call 111;refine(HM.out _ HB3.out).mono ?_;rintro e w5 ⟨rfl,hb5⟩;have HB5:=hid hb5;clear hb5))
    go_ret
    exact⟨by rw[HE.out,h0,h1,h2];rfl,HB.out.trans ((HB3.out.mono HB.out.size).trans (HB5.out.mono (Nat.le_trans HB.out.size HB3.out.size)))⟩
theorem iB (a:Option Addr) (n c:Nat) (l:List Cnt) (w:World) (hd:IsRow cntK (· < w.heap.size) w a n c l):Calls Tryz.prog 38 #[.slice a n c] w fun e w'=>e=.returned (.int .i64 (aP (eG l) 0 l))∧Below w.heap.size w w':=by
 have hbig:=hd.big
 have HL:=hid hd.len
 have HD:=hid hd
 clear hd
 go_enter Tryz.func38,Tryz.ntmps38
 go_wp2
 go_loopw [3] (fun i wr=>∃k:Nat,k≤n∧i=.int .i64 k∧(∀j (h1:j<l.length),j<k→eG l j l[j]=0)∧Below w.heap.size w wr) (fun i _=>n-(intOf i).toNat)
 case atStart=>exact⟨0,Nat.zero_le _,rfl,fun j _ h=>absurd h (Nat.not_lt_zero j),Below.refl _ _⟩
 case round =>
  obtain⟨k,hk,rfl,hall,hbr⟩:=hrel
  obtain⟨wp,rfl⟩:∃w1:World,w1=wr:=⟨_,rfl⟩
  have HBR:=hid hbr
  have hn63:(n:Int)≤9223372036854775807:=by have:n * 24≤140737488351232:=hbig;omega
  by_cases hlt:k<n
  ·have hkl:k<l.length:=by have:=HL.out;omega
   obtain⟨b,o,rfl,hb,hx⟩:=HD.out.slot (show 0<n by omega)
   obtain⟨x,hxa,hxi⟩:=hx k hkl
   have hxe:l[k]=x:=hxi.e.symm
   have HNE:Hid (∀v,eG l k x=v→v≠0→aP (eG l) 0 l=v):=hid (fun v hv hne=>by
    have h0:=dV (f:=eG l) (m:=0) k hkl (fun j h1 h2=>by rw[Nat.zero_add];exact hall j h1 h2) (by rw[Nat.zero_add,hxe,hv];exact hne)
    rw[Nat.zero_add,hxe,hv] at h0
    exact h0)
   have HZ:Hid (eG l k x=0→∀j (h1:j<l.length),j<k+1→eG l j l[j]=0):=hid (fun hv j h1 h=>by
    by_cases hjk:j<k
    ·exact hall j h1 hjk
    ·obtain rfl:j=k:=by omega
     rw[hxe];exact hv)
   obtain⟨x0,x1⟩:=(hxa.same (hbr.block b hb)).cnt
   have hlt':(k:Int)<(n:Int):=by omega
   have hk0:(0:Int)≤(k:Int):=by omega
   have HX:=hid hx;have HB:=hid hb;have HXA:=hid hxa
   have HKL:=hid hkl
   clear hall hbr hx hb hxa hxi hxe hkl
   cases h0:aI x.nm
   ·go_wp2_with (go_at_call 39;refine(aG _ _).mono ?_;rintro e w3 ⟨rfl,hw3⟩;obtain rfl:=hw3)
    go_ret
    exact⟨by rw[HNE.out 12 (by simp[eG,h0]) (by decide)];rfl,HBR.out⟩
   ·by_cases hk1:k=0
    ·subst hk1
     simp only[Nat.zero_mul,Nat.add_zero] at x0 x1
     have HE:Hid (eG l 0 x=if inQ x.nu 0 999999999999999=false then 2 else 0):=hid (by simp[eG,h0])
     go_upto_region 6 with (go_at_call 39;refine(aG _ _).mono ?_;rintro e w3 ⟨rfl,hw3⟩;obtain rfl:=hw3)
     refine wp_region_held_drew (S:=(fun _=>True)) (by kernel_rfl) (trivial) (fun hS=>?_)
     refine tkQ 0 (v:=?_) ?_ hS ?_;rotate_left;· intro w' hw';(try dsimp only at hw');go_simp;(try rfl)
     simp only[Act.put,pq]
     refine tkQ 1 (v:=?_) ?_ hS ?_;rotate_left;· intro w' hw';(try dsimp only at hw');go_simp;(try rfl)
     simp only[Act.put,pq]
     refine tkQ 2 (v:=?_) ?_ hS ?_;rotate_left;· intro w' hw';(try dsimp only at hw');go_simp;(try rfl)
     simp only[Act.put,pq]
     refine wpAnyH_take (i:=3) (oi:=_) (v:=undef) rfl (by kernel_rfl) (by kernel_rfl) (by kernel_rfl) (fun _ _ _ h=>h) (Or.inr ⟨by rfl,rfl⟩) hS ?_
     simp only[Act.put,pq]
     refine wpAnyH_take (i:=4) (oi:=_) (v:=undef) rfl (by kernel_rfl) (by kernel_rfl) (by kernel_rfl) (fun _ _ _ h=>h) (Or.inr ⟨by rfl,rfl⟩) hS ?_
     simp only[Act.put,pq]
     refine wpAnyH_take (i:=5) (oi:=_) (v:=undef) rfl (by kernel_rfl) (by kernel_rfl) (by kernel_rfl) (fun _ _ _ h=>h) (Or.inr ⟨by rfl,rfl⟩) hS ?_
     simp only[Act.put,pq]
     refine wpAnyH_take (i:=6) (oi:=_) (v:=undef) rfl (by kernel_rfl) (by kernel_rfl) (by kernel_rfl) (fun _ _ _ h=>h) (Or.inr ⟨by rfl,rfl⟩) hS ?_
     simp only[Act.put,pq]
     refine wpAnyH_take (i:=7) (oi:=_) (v:=undef) rfl (by kernel_rfl) (by kernel_rfl) (by kernel_rfl) (fun _ _ _ h=>h) (Or.inr ⟨by rfl,rfl⟩) hS ?_
     simp only[Act.put,pq]
     refine wpAnyH_take (i:=8) (oi:=_) (v:=undef) rfl (by kernel_rfl) (by kernel_rfl) (by kernel_rfl) (fun _ _ _ h=>h) (Or.inr ⟨by rfl,rfl⟩) hS ?_
     simp only[Act.put,pq]
     refine wpAnyH_take (i:=9) (oi:=_) (v:=undef) rfl (by kernel_rfl) (by kernel_rfl) (by kernel_rfl) (fun _ _ _ h=>h) (Or.inr ⟨by rfl,rfl⟩) hS ?_
     simp only[Act.put,pq]
     refine wpAnyH_take (i:=10) (oi:=_) (v:=undef) rfl (by kernel_rfl) (by kernel_rfl) (by kernel_rfl) (fun _ _ _ h=>h) (Or.inr ⟨by rfl,rfl⟩) hS ?_
     simp only[Act.put,pq]
     refine wpAnyH_take (i:=11) (oi:=_) (v:=undef) rfl (by kernel_rfl) (by kernel_rfl) (by kernel_rfl) (fun _ _ _ h=>h) (Or.inr ⟨by rfl,rfl⟩) hS ?_
     simp only[Act.put,pq]
     refine wpAnyH_take (i:=12) (oi:=_) (v:=undef) rfl (by kernel_rfl) (by kernel_rfl) (by kernel_rfl) (fun _ _ _ h=>h) (Or.inr ⟨by rfl,rfl⟩) hS ?_
     simp only[Act.put,pq]
     refine wpAnyH_take (i:=13) (oi:=_) (v:=undef) rfl (by kernel_rfl) (by kernel_rfl) (by kernel_rfl) (fun _ _ _ h=>h) (Or.inr ⟨by rfl,rfl⟩) hS ?_
     simp only[Act.put,pq]
     refine wpAnyH_take (i:=14) (oi:=_) (v:=undef) rfl (by kernel_rfl) (by kernel_rfl) (by kernel_rfl) (fun _ _ _ h=>h) (Or.inr ⟨by rfl,rfl⟩) hS ?_
     simp only[Act.put,pq]
     refine tkQ 15 (v:=?_) ?_ hS ?_;rotate_left;· intro w' hw';(try dsimp only at hw');go_simp;(try rfl)
     simp only[Act.put,pq]
     refine tkQ 16 (v:=?_) ?_ hS ?_;rotate_left;· intro w' hw';(try dsimp only at hw');go_simp;(try rfl)
     simp only[Act.put,pq]
     refine wpAnyH_done (by kernel_rfl) ?_ _
     (try dsimp only)
     skip
     cases h2:inQ x.nu 0 999999999999999
     ·go_wp2_with (go_at_call 37;refine(aO _ _ _ _).mono ?_;rintro e w3 ⟨rfl,hw3⟩;obtain rfl:=hw3)
      go_ret
      exact⟨by rw[HNE.out 2 (by rw[HE.out,h2];rfl) (by decide)];rfl,HBR.out.drew⟩
     ·have HEZ:=hid (HZ.out (by rw[HE.out,h2];rfl))
      go_wp2_with (go_at_call 37;refine(aO _ _ _ _).mono ?_;rintro e w3 ⟨rfl,hw3⟩;obtain rfl:=hw3)
      go_roundw
      case rel=>exact⟨0+1,by omega,by go_num,HEZ.out,HBR.out.drew⟩
      case measure=>simp[intOf];omega
    ·obtain⟨y,hya,hyi⟩:=HX.out (k-1) (by have:=HKL.out;omega)
     have hye:l.getD (k-1) x=y:=by rw[List.getD_eq_getElem?_getD,List.getElem?_eq_getElem (by have:=HKL.out;omega:k-1<l.length)];exact hyi.e.symm
     have hyc:=(hya.same (HBR.out.block b HB.out)).cnt
     obtain⟨q,hq⟩:∃q,q=leS x.nm y.nm:=⟨_,rfl⟩
     have hq':(Op.bytesLess x.nm.toList y.nm.toList||x.nm.toList==y.nm.toList)=q:=hq.symm
     have HE:Hid (eG l k x=if q=true then 24 else if inQ x.nu 0 999999999999999=false then 2 else 0):=hid (by unfold eG;rw[hye,hq];simp[h0,show 0<k by omega])
     have hk2:(0:Nat)<k:=by omega
     have hk3:IntKind.i64.wrap ((k:Int)-1)=((k-1:Nat):Int):=by rw[IntWalk.i64_in _ (by have:n * 24≤140737488351232:=hbig;omega)];omega
     have hk4:((k-1:Nat):Int)<(n:Int):=by omega
     have hk5:(0:Int)≤((k-1:Nat):Int):=by omega
     have HCC:=hid (fun (w':World) (h:w'.heap[b]?=wp.heap[b]?)=>(show w'.cell? ⟨b,o+k * 2,none⟩=some (.string x.nm)∧w'.cell? ⟨b,o+(k-1) * 2,none⟩=some (.string y.nm) from⟨(World.cell?_of_block (w:=wp) (a:=⟨b,o+k * 2,none⟩) h).trans x0,(World.cell?_of_block (w:=wp) (a:=⟨b,o+(k-1) * 2,none⟩) h).trans hyc.1⟩))
     clear hya hyi hye hyc hq
     go_upto_region 6 with (go_at_call 39;refine(aG _ _).mono ?_;rintro e w3 ⟨rfl,hw3⟩;obtain rfl:=hw3)
     refine wp_region_held_drew (S:=(fun w'=>w'.heap[b]?=wp.heap[b]?)) (by kernel_rfl) (rfl) (fun hS=>?_)
     refine tkQ 0 (v:=?_) ?_ hS ?_;rotate_left;· intro w' hw';have hcells:=HCC.out w' hw';go_simp;(try rfl)
     simp only[Act.put,pq]
     refine tkQ 1 (v:=?_) ?_ hS ?_;rotate_left;· intro w' hw';have hcells:=HCC.out w' hw';go_simp;(try rfl)
     simp only[Act.put,pq]
     refine tkQ 2 (v:=?_) ?_ hS ?_;rotate_left;· intro w' hw';have hcells:=HCC.out w' hw';go_simp;(try rfl)
     simp only[Act.put,pq]
     refine tkQ 3 (v:=?_) ?_ hS ?_;rotate_left;· intro w' hw';have hcells:=HCC.out w' hw';go_simp;(try rfl)
     simp only[Act.put,pq]
     refine tkQ 4 (v:=?_) ?_ hS ?_;rotate_left;· intro w' hw';have hcells:=HCC.out w' hw';go_simp;(try rfl)
     simp only[Act.put,pq]
     refine tkQ 5 (v:=?_) ?_ hS ?_;rotate_left;· intro w' hw';have hcells:=HCC.out w' hw';go_simp;(try rfl)
     simp only[Act.put,pq]
     refine tkQ 6 (v:=?_) ?_ hS ?_;rotate_left;· intro w' hw';have hcells:=HCC.out w' hw';go_simp;(try rfl)
     simp only[Act.put,pq]
     refine tkQ 7 (v:=?_) ?_ hS ?_;rotate_left;· intro w' hw';have hcells:=HCC.out w' hw';go_simp;(try rfl)
     simp only[Act.put,pq]
     refine tkQ 8 (v:=?_) ?_ hS ?_;rotate_left;· intro w' hw';have hcells:=HCC.out w' hw';go_simp;(try rfl)
     simp only[Act.put,pq]
     refine tkQ 9 (v:=?_) ?_ hS ?_;rotate_left;· intro w' hw';have hcells:=HCC.out w' hw';go_simp;(try rfl)
     simp only[Act.put,pq]
     refine tkQ 10 (v:=?_) ?_ hS ?_;rotate_left;· intro w' hw';have hcells:=HCC.out w' hw';go_simp;(try rfl)
     simp only[Act.put,pq]
     refine tkQ 11 (v:=?_) ?_ hS ?_;rotate_left;· intro w' hw';have hcells:=HCC.out w' hw';go_simp;(try rfl)
     simp only[Act.put,pq]
     refine tkQ 12 (v:=?_) ?_ hS ?_;rotate_left;· intro w' hw';have hcells:=HCC.out w' hw';go_simp;(try rfl)
     simp only[Act.put,pq]
     refine tkQ 13 (v:=?_) ?_ hS ?_;rotate_left;· intro w' hw';have hcells:=HCC.out w' hw';go_simp;(try rfl)
     simp only[Act.put,pq]
     refine tkQ 14 (v:=?_) ?_ hS ?_;rotate_left;· intro w' hw';have hcells:=HCC.out w' hw';go_simp;(try rfl)
     simp only[Act.put,pq]
     refine tkQ 15 (v:=?_) ?_ hS ?_;rotate_left;· intro w' hw';have hcells:=HCC.out w' hw';go_simp;(try rfl)
     simp only[Act.put,pq]
     refine tkQ 16 (v:=?_) ?_ hS ?_;rotate_left;· intro w' hw';have hcells:=HCC.out w' hw';go_simp;(try rfl)
     simp only[Act.put,pq]
     refine wpAnyH_done (by kernel_rfl) ?_ _
     (try dsimp only)
     skip
     cases q
     ·cases h2:inQ x.nu 0 999999999999999
      ·go_wp2_with (go_at_call 37;refine(aO _ _ _ _).mono ?_;rintro e w3 ⟨rfl,hw3⟩;obtain rfl:=hw3)
       go_ret
       exact⟨by rw[HNE.out 2 (by rw[HE.out,h2];rfl) (by decide)];rfl,HBR.out.drew⟩
      ·have HEZ:=hid (HZ.out (by rw[HE.out,h2];rfl))
       go_wp2_with (go_at_call 37;refine(aO _ _ _ _).mono ?_;rintro e w3 ⟨rfl,hw3⟩;obtain rfl:=hw3)
       go_roundw
       case rel=>exact⟨k+1,by omega,by go_num,HEZ.out,HBR.out.drew⟩
       case measure=>simp[intOf];omega
     ·go_wp2
      go_ret
      exact⟨by rw[HNE.out 24 (by rw[HE.out];rfl) (by decide)];rfl,HBR.out.drew⟩
  ·obtain rfl:k=n:=by omega
   have r:=hid (cX (f:=eG l) (m:=0) (l:=l) fun j h1=>by rw[Nat.zero_add];exact hall j h1 (by have:=HL.out;omega))
   clear hall hbr
   go_wp2
   go_ret
   exact⟨retI r.out.symm,HBR.out⟩
end
section
open Go Go.RowKit Go.Shelf
theorem xO (x:EfC) (d:Ef) (w:World) (hd:IsEf (· < w.heap.size) w x d):Calls Tryz.prog 113 #[.agg #[.int .i64 x.rs.e,.slice x.rs.a x.rs.n x.rs.c,.string x.sv,.int .i64 x.ca,.bool x.un,.int .i64 x.bd.k,.int .i64 x.bd.i,.int .i64 x.bd.s,.string x.bd.t,.slice x.bd.la x.bd.ll x.bd.lc,.slice x.bd.fa x.bd.fl x.bd.fc]] w fun e w'=>e=.returned (.bool (jC d))∧Below w.heap.size w w':=by
 have hba:Below w.heap.size w (w.alloc (rqO x)):=(bR w).alloc lr _
 obtain⟨z,hz⟩:∃z,z=dM d.bd:=⟨_,rfl⟩
 have HE:=hid (show jC d=(decide (x.rs.e=0)&&(decide ((x.rs.n:Int)=0)&&(x.sv.toList.isEmpty&&(decide (x.ca=0)&&(!x.un&&z))))) by
  unfold jC;rw[←hd.rs.e,←hd.rs.ps.len,←hd.sv,←hd.ca,←hd.un,←hz]
  rw[show decide (x.rs.n=0)=decide ((x.rs.n:Int)=0) from by simp])
 have HZ:=hid (show dC x.bd.k x.bd.i x.bd.s x.bd.t x.bd.ll x.bd.fl=z by rw[hz];exact(gD hd.bd).symm)
 obtain⟨w0,hw0⟩:∃w0,w0=w.alloc (rqO x):=⟨_,rfl⟩
 have hx:w0.heap[w.heap.size]?=some (rqO x):=by rw[hw0];exact heap_alloc_new w _
 rw[←hw0] at hba
 have HB:=hid hba;have HW:=hid hw0
 have a0:=aA hx 0;have a1:=aA hx 1;have a2:=aA hx 2;have a3:=aA hx 3;have a4:=aA hx 4;have a5:=aA hx 5;have a6:=aA hx 6;have a7:=aA hx 7;have a8:=aA hx 8;have a9:=aA hx 9;have a10:=aA hx 10;(try dsimp only at a0 a1 a2 a3 a4 a5 a6 a7 a8 a9 a10)
 clear hba hd hz hx hw0
 obtain⟨xk,nm,nu,tx,st,rs,sv,ca,un,bd,nd⟩:=x
 dsimp only[rqO] at HE HZ HW a0 a1 a2 a3 a4 a5 a6 a7 a8 a9 a10 ⊢
 go_enter Tryz.func113,Tryz.ntmps113
 go_upto_region 1 with (fail)
 rw[←HW.out]
 by_cases q1:rs.e=0
 ·by_cases q2:(rs.n:Int)=0
  ·cases q3:sv.toList.isEmpty
   ·go_wp2
    go_ret
    exact⟨by rw[HE.out];simp[q1,q2,q3],HB.out⟩
   ·by_cases q4:ca=0
    ·cases un
     ·have HNU:=hid (bM bd.k bd.i bd.s bd.t bd.la bd.ll bd.lc bd.fa bd.fl bd.fc w0)
      rw[HZ.out] at HNU
      go_wp2_with (go_at_call 105;refine HNU.out.mono ?_;rintro e w3 ⟨rfl,hb3⟩;have HB3:=hid hb3;clear hb3)
      go_ret
      exact⟨by rw[HE.out];simp[q1,q2,q3,q4],HB.out.trans (HB3.out.mono HB.out.size)⟩
     ·go_wp2
      go_ret
      exact⟨by rw[HE.out];simp[q1,q2,q3,q4],HB.out⟩
    ·go_wp2
     go_ret
     exact⟨by rw[HE.out];simp[q1,q2,q3,q4],HB.out⟩
  ·go_wp2
   go_ret
   exact⟨by rw[HE.out];simp[q1,show ¬ rs.n=0 by omega],HB.out⟩
 ·go_wp2
  go_ret
  exact⟨by rw[HE.out];simp[q1],HB.out⟩
theorem uF (x:EfC) (d:Ef) (w:World) (hd:IsEf (· < w.heap.size) w x d) (hT:Tabs w) (hn:(x.k≠1∧x.k≠2)∨aI x.nm=false∨inQ x.nu 1 999999999999999=false∨aS d.st≠0) :
 Calls Tryz.prog 41 #[.agg #[.int .i64 x.k,.string x.nm,.int .i64 x.nu,.string x.tx,.int .i64 x.st.e,.slice x.st.a x.st.n x.st.c,.int .i64 x.rs.e,.slice x.rs.a x.rs.n x.rs.c,.string x.sv,.int .i64 x.ca,.bool x.un,.int .i64 x.bd.k,.int .i64 x.bd.i,.int .i64 x.bd.s,.string x.bd.t,.slice x.bd.la x.bd.ll x.bd.lc,.slice x.bd.fa x.bd.fl x.bd.fc,.string x.nd]] w fun e w'=>e=.returned (.int .i64 (efE d))∧Below w.heap.size w w':=by
 obtain⟨se,hse⟩:∃se,se=aS d.st:=⟨_,rfl⟩
 have HE0:=hid (show x.k≠1→x.k≠2→efE d=11 from fun h1 h2=>qO d (hd.k▸h1) (hd.k▸h2))
 have hkk:∀{P:Prop},(x.k=1∨x.k=2)→(d.k≠1∧d.k≠2)→P:=fun h h'=>absurd h (by rw[hd.k];omega)
 have HE1:=hid (show(x.k=1∨x.k=2)→aI x.nm=false→efE d=12 from fun h h1=>by unfold efE;rw[if_neg (fun h'=>hkk h h'),if_pos (hd.nm▸h1)])
 have HE2:=hid (show(x.k=1∨x.k=2)→aI x.nm=true→inQ x.nu 1 999999999999999=false→efE d=2 from fun h h1 h2=>by unfold efE;rw[if_neg (fun h'=>hkk h h'),if_neg (by rw[←hd.nm,h1];decide),if_pos (hd.nu▸h2)])
 have HE3:=hid (show(x.k=1∨x.k=2)→aI x.nm=true→inQ x.nu 1 999999999999999=true→se≠0→efE d=se from fun h h1 h2 h3=>by unfold efE;rw[if_neg (fun h'=>hkk h h'),if_neg (by rw[←hd.nm,h1];decide),if_neg (by rw[←hd.nu,h2];decide),if_pos (hse▸h3),hse])
 have hba:Below w.heap.size w (w.alloc (efO x)):=(bR w).alloc lr _
 have HSC:Hid (Calls Tryz.prog 112 #[x.st.v] (w.alloc (efO x)) fun e w'=>e=.returned (.int .i64 se)∧Below (w.alloc (efO x)).heap.size (w.alloc (efO x)) w'):=hid (by rw[hse];exact bK (· < w.heap.size) x.st d.st w _ hd.st fun b hb=>⟨by simp;omega,hba.block b hb⟩)
 have HX:=hid (heap_alloc_new w (efO x))
 have HB:=hid hba
 rw[←hse] at hn
 clear hba hd hT hse hkk
 obtain⟨xk,nm,nu,tx,st,rs,sv,ca,un,bd,nd⟩:=x
 dsimp only[SC.v] at HSC HE0 HE1 HE2 HE3 hn ⊢
 by_cases q1:xk=1
 ·subst q1
  cases h1:aI nm
  ·go_enter Tryz.func41,Tryz.ntmps41
   go_wp2_with (first | (go_at_call 39;refine(aG _ _).mono ?_;rintro e w3 ⟨rfl,hw3⟩;obtain rfl:=hw3))
   go_ret
   exact⟨by rw[HE1.out (by simp) h1];rfl,HB.out⟩
  ·cases h2:inQ nu 1 999999999999999
   ·go_enter Tryz.func41,Tryz.ntmps41
    go_wp2_with (first | (go_at_call 39;refine(aG _ _).mono ?_;rintro e w3 ⟨rfl,hw3⟩;obtain rfl:=hw3) | (go_at_call 37;refine(aO _ _ _ _).mono ?_;rintro e w3 ⟨rfl,hw3⟩;obtain rfl:=hw3))
    go_ret
    exact⟨by rw[HE2.out (by simp) h1 h2];rfl,HB.out⟩
   ·have h3:se≠0:=by rcases hn with h | h | h | h;exact absurd rfl h.1;simp[h1] at h;simp[h2] at h;exact h
    have h3a:(se != 0)=true:=by simp[h3]
    have h3b:(se==0)=false:=by simp[h3]
    go_enter Tryz.func41,Tryz.ntmps41
    go_wp2_with (first | (go_at_call 39;refine(aG _ _).mono ?_;rintro e w3 ⟨rfl,hw3⟩;obtain rfl:=hw3) | (go_at_call 37;refine(aO _ _ _ _).mono ?_;rintro e w3 ⟨rfl,hw3⟩;obtain rfl:=hw3) | (go_at_call 112;refine HSC.out.mono ?_;rintro e w1 ⟨rfl,hb1⟩;have HB1:=hid hb1;have hx1:=aB hb1 HX.out;have a0:=aA hx1 0;have a1:=aA hx1 1;have a2:=aA hx1 2;have a3:=aA hx1 3;have a4:=aA hx1 4;have a5:=aA hx1 5;have a6:=aA hx1 6;have a7:=aA hx1 7;have a8:=aA hx1 8;have a9:=aA hx1 9;have a10:=aA hx1 10;have a11:=aA hx1 11;have a12:=aA hx1 12;have a13:=aA hx1 13;have a14:=aA hx1 14;have a15:=aA hx1 15;have a16:=aA hx1 16;have a17:=aA hx1 17;(try dsimp only at a0 a1 a2 a3 a4 a5 a6 a7 a8 a9 a10 a11 a12 a13 a14 a15 a16 a17);clear hx1 hb1))
    go_ret
    exact⟨by rw[HE3.out (by simp) h1 h2 h3];rfl,HB.out.trans (HB1.out.mono HB.out.size)⟩
 ·by_cases q2:xk=2
  ·subst q2
   cases h1:aI nm
   ·go_enter Tryz.func41,Tryz.ntmps41
    go_wp2_with (first | (go_at_call 39;refine(aG _ _).mono ?_;rintro e w3 ⟨rfl,hw3⟩;obtain rfl:=hw3))
    go_ret
    exact⟨by rw[HE1.out (by simp) h1];rfl,HB.out⟩
   ·cases h2:inQ nu 1 999999999999999
    ·go_enter Tryz.func41,Tryz.ntmps41
     go_wp2_with (first | (go_at_call 39;refine(aG _ _).mono ?_;rintro e w3 ⟨rfl,hw3⟩;obtain rfl:=hw3) | (go_at_call 37;refine(aO _ _ _ _).mono ?_;rintro e w3 ⟨rfl,hw3⟩;obtain rfl:=hw3))
     go_ret
     exact⟨by rw[HE2.out (by simp) h1 h2];rfl,HB.out⟩
    ·have h3:se≠0:=by rcases hn with h | h | h | h;exact absurd rfl h.2;simp[h1] at h;simp[h2] at h;exact h
     have h3a:(se != 0)=true:=by simp[h3]
     have h3b:(se==0)=false:=by simp[h3]
     go_enter Tryz.func41,Tryz.ntmps41
     go_wp2_with (first | (go_at_call 39;refine(aG _ _).mono ?_;rintro e w3 ⟨rfl,hw3⟩;obtain rfl:=hw3) | (go_at_call 37;refine(aO _ _ _ _).mono ?_;rintro e w3 ⟨rfl,hw3⟩;obtain rfl:=hw3) | (go_at_call 112;refine HSC.out.mono ?_;rintro e w1 ⟨rfl,hb1⟩;have HB1:=hid hb1;have hx1:=aB hb1 HX.out;have a0:=aA hx1 0;have a1:=aA hx1 1;have a2:=aA hx1 2;have a3:=aA hx1 3;have a4:=aA hx1 4;have a5:=aA hx1 5;have a6:=aA hx1 6;have a7:=aA hx1 7;have a8:=aA hx1 8;have a9:=aA hx1 9;have a10:=aA hx1 10;have a11:=aA hx1 11;have a12:=aA hx1 12;have a13:=aA hx1 13;have a14:=aA hx1 14;have a15:=aA hx1 15;have a16:=aA hx1 16;have a17:=aA hx1 17;(try dsimp only at a0 a1 a2 a3 a4 a5 a6 a7 a8 a9 a10 a11 a12 a13 a14 a15 a16 a17);clear hx1 hb1))
     go_ret
     exact⟨by rw[HE3.out (by simp) h1 h2 h3];rfl,HB.out.trans (HB1.out.mono HB.out.size)⟩
  ·have p1:(xk != 1)=true:=by simp[q1]
   have p2:(xk != 2)=true:=by simp[q2]
   go_enter Tryz.func41,Tryz.ntmps41
   go_wp2
   go_ret
   exact⟨by rw[HE0.out q1 q2];rfl,HB.out⟩
theorem uE (x:EfC) (d:Ef) (w:World) (hd:IsEf (· < w.heap.size) w x d) (hT:Tabs w) (hk:x.k=1) (h1:aI x.nm=true) (h2:inQ x.nu 1 999999999999999=true) (h3:aS d.st=0) :
 Calls Tryz.prog 41 #[.agg #[.int .i64 x.k,.string x.nm,.int .i64 x.nu,.string x.tx,.int .i64 x.st.e,.slice x.st.a x.st.n x.st.c,.int .i64 x.rs.e,.slice x.rs.a x.rs.n x.rs.c,.string x.sv,.int .i64 x.ca,.bool x.un,.int .i64 x.bd.k,.int .i64 x.bd.i,.int .i64 x.bd.s,.string x.bd.t,.slice x.bd.la x.bd.ll x.bd.lc,.slice x.bd.fa x.bd.fl x.bd.fc,.string x.nd]] w fun e w'=>e=.returned (.int .i64 (efE d))∧Below w.heap.size w w':=by
 have hba:Below w.heap.size w (w.alloc (efO x)):=(bR w).alloc lr _
 have HSC:Hid (Calls Tryz.prog 112 #[x.st.v] (w.alloc (efO x)) fun e w'=>e=.returned (.int .i64 0)∧Below (w.alloc (efO x)).heap.size (w.alloc (efO x)) w'):=hid (by rw[←h3];exact bK (· < w.heap.size) x.st d.st w _ hd.st fun b hb=>⟨by simp;omega,hba.block b hb⟩)
 obtain⟨z,hz⟩:∃z,z=jC d:=⟨_,rfl⟩
 have HRQ:=hid (fun (w1:World) (hb:Below (w.alloc (efO x)).heap.size (w.alloc (efO x)) w1)=>(show Calls Tryz.prog 113 #[.agg #[.int .i64 x.rs.e,.slice x.rs.a x.rs.n x.rs.c,.string x.sv,.int .i64 x.ca,.bool x.un,.int .i64 x.bd.k,.int .i64 x.bd.i,.int .i64 x.bd.s,.string x.bd.t,.slice x.bd.la x.bd.ll x.bd.lc,.slice x.bd.fa x.bd.fl x.bd.fc]] w1 fun e w'=>e=.returned (.bool z)∧Below w1.heap.size w1 w' from by
  rw[hz]
  have hs:=hb.size
  have hs0:(w.alloc (efO x)).heap.size=w.heap.size+1:=by simp
  exact xO x d w1 (hd.same fun b hb'=>⟨by omega,(hb.block b (by omega)).trans (hba.block b hb')⟩)))
 have HE:=hid (show efE d=if 65536<x.tx.size then 5 else if z=false∨x.nd.toList.isEmpty=false then 3 else 0 by
  unfold efE;rw[if_neg (fun h=>h.1 (hd.k▸hk)),if_neg (by rw[←hd.nm,h1];decide),if_neg (by rw[←hd.nu,h2];decide),if_neg (by rw[h3];simp),if_pos (hd.k▸hk),hd.tx,hz,hd.nd])
 have HX:=hid (heap_alloc_new w (efO x))
 have HB:=hid hba
 clear hba hd hT hz h3
 obtain⟨xk,nm,nu,tx,st,rs,sv,ca,un,bd,nd⟩:=x
 dsimp only[SC.v] at HSC HE HRQ hk h1 h2 ⊢
 subst hk
 by_cases h4:(65536:Int)<(tx.size:Int)
 ·have h4':65536<tx.size:=by omega
  go_enter Tryz.func41,Tryz.ntmps41
  go_wp2_with (first | (go_at_call 39;refine(aG _ _).mono ?_;rintro e w3 ⟨rfl,hw3⟩;obtain rfl:=hw3) | (go_at_call 37;refine(aO _ _ _ _).mono ?_;rintro e w3 ⟨rfl,hw3⟩;obtain rfl:=hw3) | (go_at_call 112;refine HSC.out.mono ?_;rintro e w1 ⟨rfl,hb1⟩;have HB1:=hid hb1;have hx1:=aB hb1 HX.out;have a0:=aA hx1 0;have a1:=aA hx1 1;have a2:=aA hx1 2;have a3:=aA hx1 3;have a4:=aA hx1 4;have a5:=aA hx1 5;have a6:=aA hx1 6;have a7:=aA hx1 7;have a8:=aA hx1 8;have a9:=aA hx1 9;have a10:=aA hx1 10;have a11:=aA hx1 11;have a12:=aA hx1 12;have a13:=aA hx1 13;have a14:=aA hx1 14;have a15:=aA hx1 15;have a16:=aA hx1 16;have a17:=aA hx1 17;(try dsimp only at a0 a1 a2 a3 a4 a5 a6 a7 a8 a9 a10 a11 a12 a13 a14 a15 a16 a17);clear hx1 hb1))
  go_ret
  exact⟨by rw[HE.out,if_pos h4'];rfl,HB.out.trans (HB1.out.mono HB.out.size)⟩
 ·have h4':¬ 65536<tx.size:=by omega
  cases z
  ·go_enter Tryz.func41,Tryz.ntmps41
   go_wp2_with (first | (go_at_call 39;refine(aG _ _).mono ?_;rintro e w3 ⟨rfl,hw3⟩;obtain rfl:=hw3) | (go_at_call 37;refine(aO _ _ _ _).mono ?_;rintro e w3 ⟨rfl,hw3⟩;obtain rfl:=hw3) | (go_at_call 112;refine HSC.out.mono ?_;rintro e w1 ⟨rfl,hb1⟩;have HB1:=hid hb1;have hx1:=aB hb1 HX.out;have a0:=aA hx1 0;have a1:=aA hx1 1;have a2:=aA hx1 2;have a3:=aA hx1 3;have a4:=aA hx1 4;have a5:=aA hx1 5;have a6:=aA hx1 6;have a7:=aA hx1 7;have a8:=aA hx1 8;have a9:=aA hx1 9;have a10:=aA hx1 10;have a11:=aA hx1 11;have a12:=aA hx1 12;have a13:=aA hx1 13;have a14:=aA hx1 14;have a15:=aA hx1 15;have a16:=aA hx1 16;have a17:=aA hx1 17;(try dsimp only at a0 a1 a2 a3 a4 a5 a6 a7 a8 a9 a10 a11 a12 a13 a14 a15 a16 a17);clear hx1 hb1) | (go_at_call 113;refine(HRQ.out _ HB1.out).mono ?_;rintro e w4 ⟨rfl,hb4⟩;have HB4:=hid hb4;have hx4:=aB hb4 (aB HB1.out HX.out);have c17:=aA hx4 17;(try dsimp only at c17);clear hx4 hb4))
   go_ret
   exact⟨by rw[HE.out,if_neg h4',if_pos (by simp)];rfl,HB.out.trans ((HB1.out.trans (HB4.out.mono HB1.out.size)).mono HB.out.size)⟩
  ·cases h5:nd.toList.isEmpty
   ·go_enter Tryz.func41,Tryz.ntmps41
    go_wp2_with (first | (go_at_call 39;refine(aG _ _).mono ?_;rintro e w3 ⟨rfl,hw3⟩;obtain rfl:=hw3) | (go_at_call 37;refine(aO _ _ _ _).mono ?_;rintro e w3 ⟨rfl,hw3⟩;obtain rfl:=hw3) | (go_at_call 112;refine HSC.out.mono ?_;rintro e w1 ⟨rfl,hb1⟩;have HB1:=hid hb1;have hx1:=aB hb1 HX.out;have a0:=aA hx1 0;have a1:=aA hx1 1;have a2:=aA hx1 2;have a3:=aA hx1 3;have a4:=aA hx1 4;have a5:=aA hx1 5;have a6:=aA hx1 6;have a7:=aA hx1 7;have a8:=aA hx1 8;have a9:=aA hx1 9;have a10:=aA hx1 10;have a11:=aA hx1 11;have a12:=aA hx1 12;have a13:=aA hx1 13;have a14:=aA hx1 14;have a15:=aA hx1 15;have a16:=aA hx1 16;have a17:=aA hx1 17;(try dsimp only at a0 a1 a2 a3 a4 a5 a6 a7 a8 a9 a10 a11 a12 a13 a14 a15 a16 a17);clear hx1 hb1) | (go_at_call 113;refine(HRQ.out _ HB1.out).mono ?_;rintro e w4 ⟨rfl,hb4⟩;have HB4:=hid hb4;have hx4:=aB hb4 (aB HB1.out HX.out);have c17:=aA hx4 17;(try dsimp only at c17);clear hx4 hb4))
    go_ret
    exact⟨by rw[HE.out,if_neg h4',if_pos (by simp[h5])];rfl,HB.out.trans ((HB1.out.trans (HB4.out.mono HB1.out.size)).mono HB.out.size)⟩
   ·go_enter Tryz.func41,Tryz.ntmps41
    go_wp2_with (first | (go_at_call 39;refine(aG _ _).mono ?_;rintro e w3 ⟨rfl,hw3⟩;obtain rfl:=hw3) | (go_at_call 37;refine(aO _ _ _ _).mono ?_;rintro e w3 ⟨rfl,hw3⟩;obtain rfl:=hw3) | (go_at_call 112;refine HSC.out.mono ?_;rintro e w1 ⟨rfl,hb1⟩;have HB1:=hid hb1;have hx1:=aB hb1 HX.out;have a0:=aA hx1 0;have a1:=aA hx1 1;have a2:=aA hx1 2;have a3:=aA hx1 3;have a4:=aA hx1 4;have a5:=aA hx1 5;have a6:=aA hx1 6;have a7:=aA hx1 7;have a8:=aA hx1 8;have a9:=aA hx1 9;have a10:=aA hx1 10;have a11:=aA hx1 11;have a12:=aA hx1 12;have a13:=aA hx1 13;have a14:=aA hx1 14;have a15:=aA hx1 15;have a16:=aA hx1 16;have a17:=aA hx1 17;(try dsimp only at a0 a1 a2 a3 a4 a5 a6 a7 a8 a9 a10 a11 a12 a13 a14 a15 a16 a17);clear hx1 hb1) | (go_at_call 113;refine(HRQ.out _ HB1.out).mono ?_;rintro e w4 ⟨rfl,hb4⟩;have HB4:=hid hb4;have hx4:=aB hb4 (aB HB1.out HX.out);have c17:=aA hx4 17;(try dsimp only at c17);clear hx4 hb4))
    go_ret
    exact⟨by rw[HE.out,if_neg h4',if_neg (by simp[h5])];rfl,HB.out.trans ((HB1.out.trans (HB4.out.mono HB1.out.size)).mono HB.out.size)⟩
theorem uD (x:EfC) (d:Ef) (w:World) (hd:IsEf (· < w.heap.size) w x d) (hT:Tabs w) (hk:x.k=2) (h1:aI x.nm=true) (h2:inQ x.nu 1 999999999999999=true) (h3:aS d.st=0) :
 Calls Tryz.prog 41 #[.agg #[.int .i64 x.k,.string x.nm,.int .i64 x.nu,.string x.tx,.int .i64 x.st.e,.slice x.st.a x.st.n x.st.c,.int .i64 x.rs.e,.slice x.rs.a x.rs.n x.rs.c,.string x.sv,.int .i64 x.ca,.bool x.un,.int .i64 x.bd.k,.int .i64 x.bd.i,.int .i64 x.bd.s,.string x.bd.t,.slice x.bd.la x.bd.ll x.bd.lc,.slice x.bd.fa x.bd.fl x.bd.fc,.string x.nd]] w fun e w'=>e=.returned (.int .i64 (efE d))∧Below w.heap.size w w':=by
 have hba:Below w.heap.size w (w.alloc (efO x)):=(bR w).alloc lr _
 have HSC:Hid (Calls Tryz.prog 112 #[x.st.v] (w.alloc (efO x)) fun e w'=>e=.returned (.int .i64 0)∧Below (w.alloc (efO x)).heap.size (w.alloc (efO x)) w'):=hid (by rw[←h3];exact bK (· < w.heap.size) x.st d.st w _ hd.st fun b hb=>⟨by simp;omega,hba.block b hb⟩)
 obtain⟨z,hz⟩:∃z,z=hU d.rs d.st:=⟨_,rfl⟩
 obtain⟨ce,hce⟩:∃ce,ce=bP d.bd:=⟨_,rfl⟩
 have HSE:=hid (fun (w1:World) (hb:Below (w.alloc (efO x)).heap.size (w.alloc (efO x)) w1)=>(show Calls Tryz.prog 45 #[x.rs.v,x.st.v] w1 fun e w'=>e=.returned (.bool z)∧Below w1.heap.size w1 w' from by
  rw[hz]
  have hs:=hb.size
  have hs0:(w.alloc (efO x)).heap.size=w.heap.size+1:=by simp
  have hq:∀b,b<w.heap.size→b<w1.heap.size∧w1.heap[b]?=w.heap[b]?:=fun b hb'=>⟨by omega,(hb.block b (by omega)).trans (hba.block b hb')⟩
  exact fN _ _ _ _ w1 (hd.rs.same hq) (hd.st.same hq)))
 have HVC:=hid (fun (w':World) (hb:Below w.heap.size w w')=>(show Calls Tryz.prog 104 #[x.bd.v] w' fun e w2=>e=.returned (.int .i64 ce)∧Below w'.heap.size w' w2 from by
  rw[hce]
  exact gH x.bd d.bd w' (hd.bd.same fun b hb'=>⟨by have:=hb.size;omega,hb.block b hb'⟩) (hT.below hb)))
 have HE:=hid (show efE d=if x.tx.toList.isEmpty=false∨(x.sv.toList==x.nm.toList)=false∨z=false then 3 else if aI x.nd=false then 12 else if inQ x.ca 0 999999999999999=false then 2 else ce by
  unfold efE;rw[if_neg (fun h=>h.2 (hd.k▸hk)),if_neg (by rw[←hd.nm,h1];decide),if_neg (by rw[←hd.nu,h2];decide),if_neg (by rw[h3];simp),if_neg (by rw[←hd.k,hk];decide),hd.tx,hz,hd.nd,hd.sv,hd.nm,hd.ca,hce])
 have HX:=hid (heap_alloc_new w (efO x))
 have HB:=hid hba
 clear hba hd hT hz h3 hce
 obtain⟨xk,nm,nu,tx,st,rs,sv,ca,un,bd,nd⟩:=x
 dsimp only[SC.v,VC.v] at HSC HE HSE HVC hk h1 h2 ⊢
 subst hk
 cases h4:tx.toList.isEmpty
 ·go_enter Tryz.func41,Tryz.ntmps41
  go_wp2_with (first | (go_at_call 39;refine(aG _ _).mono ?_;rintro e w3 ⟨rfl,hw3⟩;obtain rfl:=hw3) | (go_at_call 37;refine(aO _ _ _ _).mono ?_;rintro e w3 ⟨rfl,hw3⟩;obtain rfl:=hw3) | (go_at_call 112;refine HSC.out.mono ?_;rintro e w1 ⟨rfl,hb1⟩;have HB1:=hid hb1;have hx1:=aB hb1 HX.out;have a0:=aA hx1 0;have a1:=aA hx1 1;have a2:=aA hx1 2;have a3:=aA hx1 3;have a4:=aA hx1 4;have a5:=aA hx1 5;have a6:=aA hx1 6;have a7:=aA hx1 7;have a8:=aA hx1 8;have a9:=aA hx1 9;have a10:=aA hx1 10;have a11:=aA hx1 11;have a12:=aA hx1 12;have a13:=aA hx1 13;have a14:=aA hx1 14;have a15:=aA hx1 15;have a16:=aA hx1 16;have a17:=aA hx1 17;(try dsimp only at a0 a1 a2 a3 a4 a5 a6 a7 a8 a9 a10 a11 a12 a13 a14 a15 a16 a17);clear hx1 hb1))
  go_ret
  exact⟨by rw[HE.out,if_pos (by simp[h4])];rfl,HB.out.trans (HB1.out.mono HB.out.size)⟩
 ·cases h5:(sv.toList==nm.toList)
  ·go_enter Tryz.func41,Tryz.ntmps41
   go_wp2_with (first | (go_at_call 39;refine(aG _ _).mono ?_;rintro e w3 ⟨rfl,hw3⟩;obtain rfl:=hw3) | (go_at_call 37;refine(aO _ _ _ _).mono ?_;rintro e w3 ⟨rfl,hw3⟩;obtain rfl:=hw3) | (go_at_call 112;refine HSC.out.mono ?_;rintro e w1 ⟨rfl,hb1⟩;have HB1:=hid hb1;have hx1:=aB hb1 HX.out;have a0:=aA hx1 0;have a1:=aA hx1 1;have a2:=aA hx1 2;have a3:=aA hx1 3;have a4:=aA hx1 4;have a5:=aA hx1 5;have a6:=aA hx1 6;have a7:=aA hx1 7;have a8:=aA hx1 8;have a9:=aA hx1 9;have a10:=aA hx1 10;have a11:=aA hx1 11;have a12:=aA hx1 12;have a13:=aA hx1 13;have a14:=aA hx1 14;have a15:=aA hx1 15;have a16:=aA hx1 16;have a17:=aA hx1 17;(try dsimp only at a0 a1 a2 a3 a4 a5 a6 a7 a8 a9 a10 a11 a12 a13 a14 a15 a16 a17);clear hx1 hb1))
   go_ret
   exact⟨by rw[HE.out,if_pos (by simp[h5])];rfl,HB.out.trans (HB1.out.mono HB.out.size)⟩
  ·cases z
   ·go_enter Tryz.func41,Tryz.ntmps41
    go_wp2_with (first | (go_at_call 39;refine(aG _ _).mono ?_;rintro e w3 ⟨rfl,hw3⟩;obtain rfl:=hw3) | (go_at_call 37;refine(aO _ _ _ _).mono ?_;rintro e w3 ⟨rfl,hw3⟩;obtain rfl:=hw3) | (go_at_call 112;refine HSC.out.mono ?_;rintro e w1 ⟨rfl,hb1⟩;have HB1:=hid hb1;have hx1:=aB hb1 HX.out;have a0:=aA hx1 0;have a1:=aA hx1 1;have a2:=aA hx1 2;have a3:=aA hx1 3;have a4:=aA hx1 4;have a5:=aA hx1 5;have a6:=aA hx1 6;have a7:=aA hx1 7;have a8:=aA hx1 8;have a9:=aA hx1 9;have a10:=aA hx1 10;have a11:=aA hx1 11;have a12:=aA hx1 12;have a13:=aA hx1 13;have a14:=aA hx1 14;have a15:=aA hx1 15;have a16:=aA hx1 16;have a17:=aA hx1 17;(try dsimp only at a0 a1 a2 a3 a4 a5 a6 a7 a8 a9 a10 a11 a12 a13 a14 a15 a16 a17);clear hx1 hb1) | (go_at_call 45;refine(HSE.out _ HB1.out).mono ?_;rintro e w4 ⟨rfl,hb4⟩;have HB4:=hid hb4;have hx4:=aB hb4 (aB HB1.out HX.out);have c9:=aA hx4 9;have c11:=aA hx4 11;have c12:=aA hx4 12;have c13:=aA hx4 13;have c14:=aA hx4 14;have c15:=aA hx4 15;have c16:=aA hx4 16;have c17:=aA hx4 17;(try dsimp only at c9 c11 c12 c13 c14 c15 c16 c17);clear hx4 hb4))
    go_ret
    exact⟨by rw[HE.out,if_pos (by simp)];rfl,HB.out.trans ((HB1.out.trans (HB4.out.mono HB1.out.size)).mono HB.out.size)⟩
   ·cases h6:aI nd
    ·go_enter Tryz.func41,Tryz.ntmps41
     go_wp2_with (first | (go_at_call 39;refine(aG _ _).mono ?_;rintro e w3 ⟨rfl,hw3⟩;obtain rfl:=hw3) | (go_at_call 37;refine(aO _ _ _ _).mono ?_;rintro e w3 ⟨rfl,hw3⟩;obtain rfl:=hw3) | (go_at_call 112;refine HSC.out.mono ?_;rintro e w1 ⟨rfl,hb1⟩;have HB1:=hid hb1;have hx1:=aB hb1 HX.out;have a0:=aA hx1 0;have a1:=aA hx1 1;have a2:=aA hx1 2;have a3:=aA hx1 3;have a4:=aA hx1 4;have a5:=aA hx1 5;have a6:=aA hx1 6;have a7:=aA hx1 7;have a8:=aA hx1 8;have a9:=aA hx1 9;have a10:=aA hx1 10;have a11:=aA hx1 11;have a12:=aA hx1 12;have a13:=aA hx1 13;have a14:=aA hx1 14;have a15:=aA hx1 15;have a16:=aA hx1 16;have a17:=aA hx1 17;(try dsimp only at a0 a1 a2 a3 a4 a5 a6 a7 a8 a9 a10 a11 a12 a13 a14 a15 a16 a17);clear hx1 hb1) | (go_at_call 45;refine(HSE.out _ HB1.out).mono ?_;rintro e w4 ⟨rfl,hb4⟩;have HB4:=hid hb4;have hx4:=aB hb4 (aB HB1.out HX.out);have c9:=aA hx4 9;have c11:=aA hx4 11;have c12:=aA hx4 12;have c13:=aA hx4 13;have c14:=aA hx4 14;have c15:=aA hx4 15;have c16:=aA hx4 16;have c17:=aA hx4 17;(try dsimp only at c9 c11 c12 c13 c14 c15 c16 c17);clear hx4 hb4))
     go_ret
     exact⟨by rw[HE.out,if_neg (by simp[h4,h5]),if_pos h6];rfl,HB.out.trans ((HB1.out.trans (HB4.out.mono HB1.out.size)).mono HB.out.size)⟩
    ·cases h7:inQ ca 0 999999999999999
     ·go_enter Tryz.func41,Tryz.ntmps41
      go_wp2_with (first | (go_at_call 39;refine(aG _ _).mono ?_;rintro e w3 ⟨rfl,hw3⟩;obtain rfl:=hw3) | (go_at_call 37;refine(aO _ _ _ _).mono ?_;rintro e w3 ⟨rfl,hw3⟩;obtain rfl:=hw3) | (go_at_call 112;refine HSC.out.mono ?_;rintro e w1 ⟨rfl,hb1⟩;have HB1:=hid hb1;have hx1:=aB hb1 HX.out;have a0:=aA hx1 0;have a1:=aA hx1 1;have a2:=aA hx1 2;have a3:=aA hx1 3;have a4:=aA hx1 4;have a5:=aA hx1 5;have a6:=aA hx1 6;have a7:=aA hx1 7;have a8:=aA hx1 8;have a9:=aA hx1 9;have a10:=aA hx1 10;have a11:=aA hx1 11;have a12:=aA hx1 12;have a13:=aA hx1 13;have a14:=aA hx1 14;have a15:=aA hx1 15;have a16:=aA hx1 16;have a17:=aA hx1 17;(try dsimp only at a0 a1 a2 a3 a4 a5 a6 a7 a8 a9 a10 a11 a12 a13 a14 a15 a16 a17);clear hx1 hb1) | (go_at_call 45;refine(HSE.out _ HB1.out).mono ?_;rintro e w4 ⟨rfl,hb4⟩;have HB4:=hid hb4;have hx4:=aB hb4 (aB HB1.out HX.out);have c9:=aA hx4 9;have c11:=aA hx4 11;have c12:=aA hx4 12;have c13:=aA hx4 13;have c14:=aA hx4 14;have c15:=aA hx4 15;have c16:=aA hx4 16;have c17:=aA hx4 17;(try dsimp only at c9 c11 c12 c13 c14 c15 c16 c17);clear hx4 hb4))
      go_ret
      exact⟨by rw[HE.out,if_neg (by simp[h4,h5]),if_neg (by simp[h6]),if_pos h7];rfl,HB.out.trans ((HB1.out.trans (HB4.out.mono HB1.out.size)).mono HB.out.size)⟩
     ·go_enter Tryz.func41,Tryz.ntmps41
      go_wp2_with (first | (go_at_call 39;refine(aG _ _).mono ?_;rintro e w3 ⟨rfl,hw3⟩;obtain rfl:=hw3) | (go_at_call 37;refine(aO _ _ _ _).mono ?_;rintro e w3 ⟨rfl,hw3⟩;obtain rfl:=hw3) | (go_at_call 112;refine HSC.out.mono ?_;rintro e w1 ⟨rfl,hb1⟩;have HB1:=hid hb1;have hx1:=aB hb1 HX.out;have a0:=aA hx1 0;have a1:=aA hx1 1;have a2:=aA hx1 2;have a3:=aA hx1 3;have a4:=aA hx1 4;have a5:=aA hx1 5;have a6:=aA hx1 6;have a7:=aA hx1 7;have a8:=aA hx1 8;have a9:=aA hx1 9;have a10:=aA hx1 10;have a11:=aA hx1 11;have a12:=aA hx1 12;have a13:=aA hx1 13;have a14:=aA hx1 14;have a15:=aA hx1 15;have a16:=aA hx1 16;have a17:=aA hx1 17;(try dsimp only at a0 a1 a2 a3 a4 a5 a6 a7 a8 a9 a10 a11 a12 a13 a14 a15 a16 a17);clear hx1 hb1) | (go_at_call 45;refine(HSE.out _ HB1.out).mono ?_;rintro e w4 ⟨rfl,hb4⟩;have HB4:=hid hb4;have hx4:=aB hb4 (aB HB1.out HX.out);have c9:=aA hx4 9;have c11:=aA hx4 11;have c12:=aA hx4 12;have c13:=aA hx4 13;have c14:=aA hx4 14;have c15:=aA hx4 15;have c16:=aA hx4 16;have c17:=aA hx4 17;(try dsimp only at c9 c11 c12 c13 c14 c15 c16 c17);clear hx4 hb4) | (go_at_call 104;refine(HVC.out _ (HB.out.trans ((HB1.out.trans (HB4.out.mono HB1.out.size)).mono HB.out.size))).mono ?_;rintro e w6 ⟨rfl,hb6⟩;have HB6:=hid hb6;clear hb6))
      go_ret
      exact⟨by rw[HE.out,if_neg (by simp[h4,h5]),if_neg (by simp[h6]),if_neg (by simp[h7])];rfl,(HB.out.trans ((HB1.out.trans (HB4.out.mono HB1.out.size)).mono HB.out.size)).trans (HB6.out.mono (HB.out.trans ((HB1.out.trans (HB4.out.mono HB1.out.size)).mono HB.out.size)).size)⟩
theorem lY (x:EfC) (d:Ef) (w:World) (hd:IsEf (· < w.heap.size) w x d) (hT:Tabs w):Calls Tryz.prog 41 #[.agg #[.int .i64 x.k,.string x.nm,.int .i64 x.nu,.string x.tx,.int .i64 x.st.e,.slice x.st.a x.st.n x.st.c,.int .i64 x.rs.e,.slice x.rs.a x.rs.n x.rs.c,.string x.sv,.int .i64 x.ca,.bool x.un,.int .i64 x.bd.k,.int .i64 x.bd.i,.int .i64 x.bd.s,.string x.bd.t,.slice x.bd.la x.bd.ll x.bd.lc,.slice x.bd.fa x.bd.fl x.bd.fc,.string x.nd]] w fun e w'=>e=.returned (.int .i64 (efE d))∧Below w.heap.size w w':=by
 by_cases hn:(x.k≠1∧x.k≠2)∨aI x.nm=false∨inQ x.nu 1 999999999999999=false∨aS d.st≠0
 ·exact uF x d w hd hT hn
 ·have h1:aI x.nm=true:=by cases h:aI x.nm;exact absurd (.inr (.inl h)) hn;rfl
  have h2:inQ x.nu 1 999999999999999=true:=by cases h:inQ x.nu 1 999999999999999;exact absurd (.inr (.inr (.inl h))) hn;rfl
  have h3:aS d.st=0:=Decidable.byContradiction fun h=>hn (.inr (.inr (.inr h)))
  by_cases hk:x.k=1
  ·exact uE x d w hd hT hk h1 h2 h3
  ·exact uD x d w hd hT (Decidable.byContradiction fun h=>hn (.inl ⟨hk,h⟩)) h1 h2 h3
end
section
open Go Go.RowKit Go.Shelf
theorem eS {D:Type} (f:Nat→D→Int) (l:List D) (k:Nat) (h:k<l.length) (hz:∀j (h1:j<l.length),j<k→f j l[j]=0) (v:Int) (hv:f k l[k]=v) (hne:v≠0):aP f 0 l=v:=by
 have h0:=dV (f:=f) (m:=0) k h (fun j h1 h2=>by rw[Nat.zero_add];exact hz j h1 h2) (by rw[Nat.zero_add,hv];exact hne)
 rw[Nat.zero_add,hv] at h0
 exact h0
theorem dR {D:Type} (f:Nat→D→Int) (l:List D) (hz:∀j (h1:j<l.length),f j l[j]=0):aP f 0 l=0 :=
 cX (m:=0) fun j h1=>by rw[Nat.zero_add];exact hz j h1
section
attribute [-go_sem] loadCellsFrom storeCells
attribute [local go_sem] aAf aAe aAd aAc aAb aAa aA9 aA8 aCs aCr yY yX yW yV zI zH aBy aBx aBw aBv aBu aBt aBs
theorem mN (c:SnC) (d:Snp) (w:World) (hd:IsSn (· < w.heap.size) w c d) (hT:Tabs w):Calls Tryz.prog 9 #[c.w] w fun e w'=>e=.returned (.int .i64 (snE d))∧Below w.heap.size w w':=by
 obtain⟨cv,ce,ct,na,nl,nc,aa,al,ac,sa,sl,sc,qa,ql,qc,la,ll,lc,pa,pl,pc⟩:=c
 dsimp only[SnC.w]
 have HIN:=hid (fun (n a b:Int) (w:World)=>aO n a b w)
 obtain⟨r1,hr1⟩:∃r,r=aP (fun _ s=>bB s) 0 d.ns:=⟨_,rfl⟩
 obtain⟨r2,hr2⟩:∃r,r=aP (eG d.ar) 0 d.ar:=⟨_,rfl⟩
 obtain⟨r3,hr3⟩:∃r,r=aP (eG d.se) 0 d.se:=⟨_,rfl⟩
 obtain⟨r4,hr4⟩:∃r,r=aP (fun _ q=>fP q) 0 d.qs:=⟨_,rfl⟩
 obtain⟨r5,hr5⟩:∃r,r=aP (fun _ s=>kL s) 0 d.ls:=⟨_,rfl⟩
 obtain⟨r6,hr6⟩:∃r,r=aP (fun _ s=>efE s) 0 d.ps:=⟨_,rfl⟩
 obtain⟨WB,hWB⟩:∃WB,WB=((w.alloc (.cells #[.int .i64 cv,.int .i64 ce,.int .i64 ct,.slice na nl nc,.slice aa al ac,.slice sa sl sc,.slice qa ql qc,.slice la ll lc,.slice pa pl pc] 30)).alloc (.cells #[.int .i64 cv,.int .i64 ce,.int .i64 ct,.slice na nl nc,.slice aa al ac,.slice sa sl sc,.slice qa ql qc,.slice la ll lc] 27)):=⟨_,rfl⟩
 have hbW:Below w.heap.size w WB:=by rw[hWB];exact((bR w).alloc lr _).alloc (by simp) _
 have g1:WB.heap[w.heap.size]?=some (.cells #[.int .i64 cv,.int .i64 ce,.int .i64 ct,.slice na nl nc,.slice aa al ac,.slice sa sl sc,.slice qa ql qc,.slice la ll lc,.slice pa pl pc] 30):=by rw[hWB];exact aC _ (heap_alloc_new w _)
 have g2:WB.heap[w.heap.size+1]?=some (.cells #[.int .i64 cv,.int .i64 ce,.int .i64 ct,.slice na nl nc,.slice aa al ac,.slice sa sl sc,.slice qa ql qc,.slice la ll lc] 27):=by rw[hWB];exact aM _ _ _ (by simp)
 have hq:∀w',Below WB.heap.size WB w'→∀b,b<w.heap.size→b<w'.heap.size∧w'.heap[b]?=w.heap[b]?:=fun w' h b hb=>⟨by have h1:=h.size;have h2:=hbW.size;omega,(h.block b (by have h2:=hbW.size;omega)).trans (hbW.block b hb)⟩
 have HR2:=hid (fun (w':World) (h:Below WB.heap.size WB w')=>(show Calls Tryz.prog 38 #[.slice aa al ac] w' fun e w2=>e=.returned (.int .i64 r2)∧Below w'.heap.size w' w2 from by
  rw[hr2]
  exact iB _ _ _ _ w' (hd.ar.same fun b hb=>hq w' h b hb)))
 have HR3:=hid (fun (w':World) (h:Below WB.heap.size WB w')=>(show Calls Tryz.prog 38 #[.slice sa sl sc] w' fun e w2=>e=.returned (.int .i64 r3)∧Below w'.heap.size w' w2 from by
  rw[hr3]
  exact iB _ _ _ _ w' (hd.se.same fun b hb=>hq w' h b hb)))
 have HE:=hid (show snE d=if inQ cv 0 999=false∨inQ ce 0 1048576=false∨inQ ct 0 17592186044416=false then 2 else if 128<nl then 9 else orL [r1,r2,r3,r4,r5,r6] by
  unfold snE;rw[←hr1,←hr2,←hr3,←hr4,←hr5,←hr6,←hd.v,←hd.e,←hd.t,←hd.ns.len])
 have HWB:=hid hbW;have HEQ:=hid hWB;have G1:=hid g1;have G2:=hid g2;have HQ:=hid hq;have HD:=hid hd;have HT:=hid hT
 have HR1E:=hid hr1
 have HR4E:=hid hr4
 have HR5E:=hid hr5
 have HR6E:=hid hr6
 have m0:=aA g2 0
 have m1:=aA g2 1
 have m2:=aA g2 2
 have m3:=aA g2 3
 (try dsimp only at m0 m1 m2 m3)
 clear hd hT hbW g1 g2 hWB hq hr1 hr2 hr3 hr4 hr5 hr6
 cases b1:inQ cv 0 999
 ·skip
  go_enter Tryz.func9,Tryz.ntmps9
  go_upto_region 2 with (fail)
  rw[←HEQ.out]
  go_wp2_with (go_at_call 37;refine(HIN.out _ _ _ _).mono ?_;rintro q w3 ⟨rfl,hw3⟩;rw[hw3];clear hw3)
  go_ret
  exact⟨by rw[HE.out,if_pos (by simp[b1])];rfl,HWB.out⟩
 ·cases b2:inQ ce 0 1048576
  ·skip
   go_enter Tryz.func9,Tryz.ntmps9
   go_upto_region 2 with (fail)
   rw[←HEQ.out]
   go_wp2_with (go_at_call 37;refine(HIN.out _ _ _ _).mono ?_;rintro q w3 ⟨rfl,hw3⟩;rw[hw3];clear hw3)
   go_ret
   exact⟨by rw[HE.out,if_pos (by simp[b2])];rfl,HWB.out⟩
  ·cases b3:inQ ct 0 17592186044416
   ·skip
    go_enter Tryz.func9,Tryz.ntmps9
    go_upto_region 2 with (fail)
    rw[←HEQ.out]
    go_wp2_with (go_at_call 37;refine(HIN.out _ _ _ _).mono ?_;rintro q w3 ⟨rfl,hw3⟩;rw[hw3];clear hw3)
    go_ret
    exact⟨by rw[HE.out,if_pos (by simp[b3])];rfl,HWB.out⟩
   ·by_cases b4:(128:Int)<(nl:Int)
    ·have b4':128<nl:=by omega
     go_enter Tryz.func9,Tryz.ntmps9
     go_upto_region 2 with (fail)
     rw[←HEQ.out]
     go_wp2_with (go_at_call 37;refine(HIN.out _ _ _ _).mono ?_;rintro q w3 ⟨rfl,hw3⟩;rw[hw3];clear hw3)
     go_ret
     exact⟨by rw[HE.out,if_neg (by simp[b1,b2,b3]),if_pos b4'];rfl,HWB.out⟩
    ·have b4':¬ 128<nl:=by omega
     have HF:Hid (snE d=orL [r1,r2,r3,r4,r5,r6]):=hid (by rw[HE.out,if_neg (by simp[b1,b2,b3]),if_neg b4'])
     go_enter Tryz.func9,Tryz.ntmps9
     go_upto_region 2 with (fail)
     rw[←HEQ.out]
     go_wp2_with (go_at_call 37;refine(HIN.out _ _ _ _).mono ?_;rintro q w3 ⟨rfl,hw3⟩;rw[hw3];clear hw3)
     clear m0 m1 m2 m3 b4
     go_loopw [4] (fun i wr=>∃k:Nat,k≤nl∧i=.int .i64 k∧(∀j (h1:j<d.ns.length),j<k→bB d.ns[j]=0)∧Below WB.heap.size WB wr) (fun i _=>nl-(intOf i).toNat)
     case atStart=>exact⟨0,Nat.zero_le _,rfl,fun j _ h=>absurd h (Nat.not_lt_zero j),Below.refl _ _⟩
     case round =>
      obtain⟨k,hk,rfl,hall,hbr⟩:=hrel
      obtain⟨wp,rfl⟩:∃w1:World,w1=wr:=⟨_,rfl⟩
      have HB1:=hid hbr
      have e1:=aA (aB hbr G2.out) 3
      (try dsimp only at e1)
      have hn63:(nl:Int)≤9223372036854775807:=by have h:=HD.out.ns.big;dsimp only at h;omega
      by_cases hlt:k<nl
      ·have hkl:k<d.ns.length:=by have:=HD.out.ns.len;dsimp only at this;omega
       obtain⟨b,o,hna,hb,hx⟩:=HD.out.ns.slot (show 0<nl by omega)
       dsimp only at hna hx
       rw[hna] at e1
       obtain⟨x,hxa,hxi⟩:=hx k hkl
       obtain⟨dx,hdx⟩:∃dx,dx=d.ns[k]:=⟨_,rfl⟩
       rw[←hdx] at hxi
       have HNE:Hid (∀v,bB dx=v→v≠0→r1=v):=hid (fun v hv hne=>by
        rw[HR1E.out];exact eS _ _ k hkl hall v (by rw[←hv,hdx]) hne)
       have HZ:Hid (bB dx=0→∀j (h1:j<d.ns.length),j<k+1→bB d.ns[j]=0):=hid (fun hv j h1 h=>by
        by_cases hjk:j<k
        ·exact hall j h1 hjk
        ·obtain rfl:j=k:=by omega
         rw[←hdx];exact hv)
       obtain⟨x0,x1,x2⟩:=AtG.sta (hxa.same (HQ.out wp hbr b hb).2)
       have hlt':(k:Int)<(nl:Int):=by omega
       have hk0:(0:Int)≤(k:Int):=by omega
       obtain⟨u,hu⟩:∃u,u=bB dx:=⟨_,rfl⟩
       have HC:Hid (Calls Tryz.prog 27 #[.agg #[.int .i64 x.n,.int .i64 x.t,.slice x.a x.l x.c]] wp fun e w'=>e=.returned (.int .i64 u)∧Below wp.heap.size wp w'):=hid (by
        rw[hu]
        exact dK x dx wp (staK.same (fun b hb=>HQ.out wp hbr b hb) hxi) (((HT.out.below HWB.out).below hbr)))
       have HU:=hid hu
       clear hu hna hdx hxa hxi hx hb hall hbr hkl
       by_cases hz:u=0
       ·subst hz
        have HEZ:=hid (HZ.out HU.out.symm)
        go_wp2_with (go_at_call 27;refine HC.out.mono ?_;rintro e w3 ⟨rfl,hb3⟩)
        go_roundw
        case rel=>exact⟨k+1,by omega,by go_num,HEZ.out,HB1.out.trans (hb3.mono HB1.out.size)⟩
        case measure=>simp[intOf];omega
       ·have hz1:(u==0)=false:=by simp[hz]
        have hz2:(u != 0)=true:=by simp[hz]
        have hru:=hid (HNE.out u HU.out.symm hz)
        have HZN:=hid hz
        clear hz
        go_wp2_with (go_at_call 27;refine HC.out.mono ?_;rintro e w3 ⟨rfl,hb3⟩)
        go_ret
        exact⟨retI (by rw[HF.out];simp only[orL,ne_eq,not_true_eq_false,ite_false,ite_true];simp[hru.out,HZN.out]),HWB.out.trans ((HB1.out.trans (hb3.mono HB1.out.size)).mono HWB.out.size)⟩
      ·obtain rfl:k=nl:=by omega
       have Z1:Hid (r1=0):=hid (by rw[HR1E.out];exact dR _ _ fun j h1=>hall j h1 (by have h:=HD.out.ns.len;dsimp only at h;omega))
       clear hall hbr hlt hk
       have e2:=aA (aB HB1.out G2.out) 4
       (try dsimp only at e2)
       by_cases z2:r2=0
       ·subst z2
        go_upto_region 15 with (go_at_call 38;refine(HR2.out _ HB1.out).mono ?_;rintro e w3 ⟨rfl,hb3⟩;have HB2:=hid ((HB1.out).trans (hb3.mono (HB1.out).size));clear hb3)
        clear e2
        have e3:=aA (aB HB2.out G2.out) 5
        (try dsimp only at e3)
        by_cases z3:r3=0
        ·subst z3
         go_wp2_with (go_at_call 38;refine(HR3.out _ HB2.out).mono ?_;rintro e w3 ⟨rfl,hb3⟩;have HB3:=hid ((HB2.out).trans (hb3.mono (HB2.out).size));clear hb3)
         clear e3
         go_loopw [8] (fun i wr=>∃k:Nat,k≤ql∧i=.int .i64 k∧(∀j (h1:j<d.qs.length),j<k→fP d.qs[j]=0)∧Below WB.heap.size WB wr) (fun i _=>ql-(intOf i).toNat)
         case atStart=>exact⟨0,Nat.zero_le _,rfl,fun j _ h=>absurd h (Nat.not_lt_zero j),HB3.out⟩
         case round =>
          obtain⟨k,hk,rfl,hall,hbr⟩:=hrel
          obtain⟨wp,rfl⟩:∃w1:World,w1=wr:=⟨_,rfl⟩
          have HB4:=hid hbr
          have e4:=aA (aB hbr G2.out) 6
          (try dsimp only at e4)
          have hn63:(ql:Int)≤9223372036854775807:=by have h:=HD.out.qs.big;dsimp only at h;omega
          by_cases hlt:k<ql
          ·have hkl:k<d.qs.length:=by have:=HD.out.qs.len;dsimp only at this;omega
           obtain⟨b,o,hna,hb,hx⟩:=HD.out.qs.slot (show 0<ql by omega)
           dsimp only at hna hx
           rw[hna] at e4
           obtain⟨x,hxa,hxi⟩:=hx k hkl
           obtain⟨dx,hdx⟩:∃dx,dx=d.qs[k]:=⟨_,rfl⟩
           rw[←hdx] at hxi
           have HNE:Hid (∀v,fP dx=v→v≠0→r4=v):=hid (fun v hv hne=>by
            rw[HR4E.out];exact eS _ _ k hkl hall v (by rw[←hv,hdx]) hne)
           have HZ:Hid (fP dx=0→∀j (h1:j<d.qs.length),j<k+1→fP d.qs[j]=0):=hid (fun hv j h1 h=>by
            by_cases hjk:j<k
            ·exact hall j h1 hjk
            ·obtain rfl:j=k:=by omega
             rw[←hdx];exact hv)
           obtain⟨x0,x1,x2,x3⟩:=AtG.que (hxa.same (HQ.out wp hbr b hb).2)
           have hlt':(k:Int)<(ql:Int):=by omega
           have hk0:(0:Int)≤(k:Int):=by omega
           have hxe:dx=x:=hxi.e.symm
           have HXE:=hid hxe
           clear hna hdx hxa hxi hx hb hall hbr hkl hxe
           cases h0:aI x.nm
           ·skip
            have hru:=hid (HNE.out 12 (by rw[HXE.out];simp[fP,h0]) (by decide))
            go_wp2_with (first | (go_at_call 39;refine(aG _ _).mono ?_;rintro e w3 ⟨rfl,hw3⟩;rw[←hw3];clear hw3))
            go_ret
            exact⟨retI (by rw[HF.out];simp only[orL,Z1.out,ne_eq,not_true_eq_false,ite_false,ite_true];simp[hru.out]),HWB.out.trans (((HB4.out.alloc HB4.out.size _)).mono HWB.out.size)⟩
           ·cases h1:inQ x.nu 1 999999999999999
            ·skip
             have hru:=hid (HNE.out 2 (by rw[HXE.out];simp[fP,h0,h1]) (by decide))
             go_wp2_with (first | (go_at_call 39;refine(aG _ _).mono ?_;rintro e w3 ⟨rfl,hw3⟩;rw[←hw3];clear hw3) | (go_at_call 37;refine(HIN.out _ _ _ _).mono ?_;rintro q w3 ⟨rfl,hw3⟩;rw[hw3];clear hw3))
             go_ret
             exact⟨retI (by rw[HF.out];simp only[orL,Z1.out,ne_eq,not_true_eq_false,ite_false,ite_true];simp[hru.out]),HWB.out.trans (((HB4.out.alloc HB4.out.size _)).mono HWB.out.size)⟩
            ·cases h2:inQ x.vr 1 999
             ·skip
              have hru:=hid (HNE.out 2 (by rw[HXE.out];simp[fP,h0,h1,h2]) (by decide))
              go_wp2_with (first | (go_at_call 39;refine(aG _ _).mono ?_;rintro e w3 ⟨rfl,hw3⟩;rw[←hw3];clear hw3) | (go_at_call 37;refine(HIN.out _ _ _ _).mono ?_;rintro q w3 ⟨rfl,hw3⟩;rw[hw3];clear hw3))
              go_ret
              exact⟨retI (by rw[HF.out];simp only[orL,Z1.out,ne_eq,not_true_eq_false,ite_false,ite_true];simp[hru.out]),HWB.out.trans (((HB4.out.alloc HB4.out.size _)).mono HWB.out.size)⟩
             ·by_cases h3:(65536:Int)<(x.tx.size:Int)
              ·have h3':65536<x.tx.size:=by omega
               have hru:=hid (HNE.out 5 (by rw[HXE.out];simp[fP,h0,h1,h2,h3']) (by decide))
               go_wp2_with (first | (go_at_call 39;refine(aG _ _).mono ?_;rintro e w3 ⟨rfl,hw3⟩;rw[←hw3];clear hw3) | (go_at_call 37;refine(HIN.out _ _ _ _).mono ?_;rintro q w3 ⟨rfl,hw3⟩;rw[hw3];clear hw3))
               go_ret
               exact⟨retI (by rw[HF.out];simp only[orL,Z1.out,ne_eq,not_true_eq_false,ite_false,ite_true];simp[hru.out]),HWB.out.trans (((HB4.out.alloc HB4.out.size _)).mono HWB.out.size)⟩
              ·have h3':¬ 65536<x.tx.size:=by omega
               have HEZ:=hid (HZ.out (by rw[HXE.out];simp[fP,h0,h1,h2,h3']))
               go_wp2_with (first | (go_at_call 39;refine(aG _ _).mono ?_;rintro e w3 ⟨rfl,hw3⟩;rw[←hw3];clear hw3) | (go_at_call 37;refine(HIN.out _ _ _ _).mono ?_;rintro q w3 ⟨rfl,hw3⟩;rw[hw3];clear hw3))
               go_roundw
               case rel=>exact⟨k+1,by omega,by go_num,HEZ.out,(HB4.out.alloc HB4.out.size _)⟩
               case measure=>simp[intOf];omega
          ·obtain rfl:k=ql:=by omega
           have Z4:Hid (r4=0):=hid (by rw[HR4E.out];exact dR _ _ fun j h1=>hall j h1 (by have h:=HD.out.qs.len;dsimp only at h;omega))
           clear hall hbr hlt hk
           go_wp2
           go_loopw [10] (fun i wr=>∃k:Nat,k≤ll∧i=.int .i64 k∧(∀j (h1:j<d.ls.length),j<k→kL d.ls[j]=0)∧Below WB.heap.size WB wr) (fun i _=>ll-(intOf i).toNat)
           case atStart=>exact⟨0,Nat.zero_le _,rfl,fun j _ h=>absurd h (Nat.not_lt_zero j),HB4.out⟩
           case round =>
            obtain⟨k,hk,rfl,hall,hbr⟩:=hrel
            obtain⟨wp,rfl⟩:∃w1:World,w1=wr:=⟨_,rfl⟩
            have HB5:=hid hbr
            have e5:=aA (aB hbr G2.out) 7
            (try dsimp only at e5)
            have hn63:(ll:Int)≤9223372036854775807:=by have h:=HD.out.ls.big;dsimp only at h;omega
            by_cases hlt:k<ll
            ·have hkl:k<d.ls.length:=by have:=HD.out.ls.len;dsimp only at this;omega
             obtain⟨b,o,hna,hb,hx⟩:=HD.out.ls.slot (show 0<ll by omega)
             dsimp only at hna hx
             rw[hna] at e5
             obtain⟨x,hxa,hxi⟩:=hx k hkl
             obtain⟨dx,hdx⟩:∃dx,dx=d.ls[k]:=⟨_,rfl⟩
             rw[←hdx] at hxi
             have HNE:Hid (∀v,kL dx=v→v≠0→r5=v):=hid (fun v hv hne=>by
              rw[HR5E.out];exact eS _ _ k hkl hall v (by rw[←hv,hdx]) hne)
             have HZ:Hid (kL dx=0→∀j (h1:j<d.ls.length),j<k+1→kL d.ls[j]=0):=hid (fun hv j h1 h=>by
              by_cases hjk:j<k
              ·exact hall j h1 hjk
              ·obtain rfl:j=k:=by omega
               rw[←hdx];exact hv)
             obtain⟨x0,x1,x2,x3,x4,x5,x6,x7,x8,x9,x10,x11,x12⟩:=AtG.let' (hxa.same (HQ.out wp hbr b hb).2)
             have hlt':(k:Int)<(ll:Int):=by omega
             have hk0:(0:Int)≤(k:Int):=by omega
             obtain⟨u,hu⟩:∃u,u=kL dx:=⟨_,rfl⟩
             have HC:Hid (Calls Tryz.prog 40 #[.agg #[.int .i64 x.m.st.e,.slice x.m.st.a x.m.st.n x.m.st.c,.int .i64 x.m.m,.slice x.m.a x.m.n x.m.c,.int .i64 x.m.b.k,.int .i64 x.m.b.i,.int .i64 x.m.b.s,.string x.m.b.t,.slice x.m.b.la x.m.b.ll x.m.b.lc,.slice x.m.b.fa x.m.b.fl x.m.b.fc,.string x.nd,.string x.tx,.int .i64 x.vr]] wp fun e w'=>e=.returned (.int .i64 u)∧Below wp.heap.size wp w'):=hid (by
              rw[hu]
              exact lW x dx wp (letK.same (fun b hb=>HQ.out wp hbr b hb) hxi) (((HT.out.below HWB.out).below hbr)))
             have HU:=hid hu
             clear hu hna hdx hxa hxi hx hb hall hbr hkl
             by_cases hz:u=0
             ·subst hz
              have HEZ:=hid (HZ.out HU.out.symm)
              go_wp2_with (go_at_call 40;refine HC.out.mono ?_;rintro e w3 ⟨rfl,hb3⟩)
              go_roundw
              case rel=>exact⟨k+1,by omega,by go_num,HEZ.out,HB5.out.trans (hb3.mono HB5.out.size)⟩
              case measure=>simp[intOf];omega
             ·have hz1:(u==0)=false:=by simp[hz]
              have hz2:(u != 0)=true:=by simp[hz]
              have hru:=hid (HNE.out u HU.out.symm hz)
              have HZN:=hid hz
              clear hz
              go_wp2_with (go_at_call 40;refine HC.out.mono ?_;rintro e w3 ⟨rfl,hb3⟩)
              go_ret
              exact⟨retI (by rw[HF.out];simp only[orL,Z1.out,Z4.out,ne_eq,not_true_eq_false,ite_false,ite_true];simp[hru.out,HZN.out]),HWB.out.trans ((HB5.out.trans (hb3.mono HB5.out.size)).mono HWB.out.size)⟩
            ·obtain rfl:k=ll:=by omega
             have Z5:Hid (r5=0):=hid (by rw[HR5E.out];exact dR _ _ fun j h1=>hall j h1 (by have h:=HD.out.ls.len;dsimp only at h;omega))
             clear hall hbr hlt hk
             go_wp2
             go_loopw [12] (fun i wr=>∃k:Nat,k≤pl∧i=.int .i64 k∧(∀j (h1:j<d.ps.length),j<k→efE d.ps[j]=0)∧Below WB.heap.size WB wr) (fun i _=>pl-(intOf i).toNat)
             case atStart=>exact⟨0,Nat.zero_le _,rfl,fun j _ h=>absurd h (Nat.not_lt_zero j),HB5.out⟩
             case round =>
              obtain⟨k,hk,rfl,hall,hbr⟩:=hrel
              obtain⟨wp,rfl⟩:∃w1:World,w1=wr:=⟨_,rfl⟩
              have HB6:=hid hbr
              have e6:=aA (aB hbr G1.out) 8
              (try dsimp only at e6)
              have hn63:(pl:Int)≤9223372036854775807:=by have h:=HD.out.ps.big;dsimp only at h;omega
              by_cases hlt:k<pl
              ·have hkl:k<d.ps.length:=by have:=HD.out.ps.len;dsimp only at this;omega
               obtain⟨b,o,hna,hb,hx⟩:=HD.out.ps.slot (show 0<pl by omega)
               dsimp only at hna hx
               rw[hna] at e6
               obtain⟨x,hxa,hxi⟩:=hx k hkl
               obtain⟨dx,hdx⟩:∃dx,dx=d.ps[k]:=⟨_,rfl⟩
               rw[←hdx] at hxi
               have HNE:Hid (∀v,efE dx=v→v≠0→r6=v):=hid (fun v hv hne=>by
                rw[HR6E.out];exact eS _ _ k hkl hall v (by rw[←hv,hdx]) hne)
               have HZ:Hid (efE dx=0→∀j (h1:j<d.ps.length),j<k+1→efE d.ps[j]=0):=hid (fun hv j h1 h=>by
                by_cases hjk:j<k
                ·exact hall j h1 hjk
                ·obtain rfl:j=k:=by omega
                 rw[←hdx];exact hv)
               have hld:=qG (o:=o+k * 18) (hxa.same (HQ.out wp hbr b hb).2)
               dsimp only[EfC.cs] at hld
               have hlt':(k:Int)<(pl:Int):=by omega
               have hk0:(0:Int)≤(k:Int):=by omega
               obtain⟨u,hu⟩:∃u,u=efE dx:=⟨_,rfl⟩
               have HC:Hid (Calls Tryz.prog 41 #[.agg #[.int .i64 x.k,.string x.nm,.int .i64 x.nu,.string x.tx,.int .i64 x.st.e,.slice x.st.a x.st.n x.st.c,.int .i64 x.rs.e,.slice x.rs.a x.rs.n x.rs.c,.string x.sv,.int .i64 x.ca,.bool x.un,.int .i64 x.bd.k,.int .i64 x.bd.i,.int .i64 x.bd.s,.string x.bd.t,.slice x.bd.la x.bd.ll x.bd.lc,.slice x.bd.fa x.bd.fl x.bd.fc,.string x.nd]] wp fun e w'=>e=.returned (.int .i64 u)∧Below wp.heap.size wp w'):=hid (by
                rw[hu]
                exact lY x dx wp (efK.same (fun b hb=>HQ.out wp hbr b hb) hxi) (((HT.out.below HWB.out).below hbr)))
               have HU:=hid hu
               clear hu hna hdx hxa hxi hx hb hall hbr hkl
               by_cases hz:u=0
               ·subst hz
                have HEZ:=hid (HZ.out HU.out.symm)
                go_wp2_with (go_at_call 41;refine HC.out.mono ?_;rintro e w3 ⟨rfl,hb3⟩)
                go_roundw
                case rel=>exact⟨k+1,by omega,by go_num,HEZ.out,HB6.out.trans (hb3.mono HB6.out.size)⟩
                case measure=>simp[intOf];omega
               ·have hz1:(u==0)=false:=by simp[hz]
                have hz2:(u != 0)=true:=by simp[hz]
                have hru:=hid (HNE.out u HU.out.symm hz)
                have HZN:=hid hz
                clear hz
                go_wp2_with (go_at_call 41;refine HC.out.mono ?_;rintro e w3 ⟨rfl,hb3⟩)
                go_ret
                exact⟨retI (by rw[HF.out];simp only[orL,Z1.out,Z4.out,Z5.out,ne_eq,not_true_eq_false,ite_false,ite_true];simp[hru.out,HZN.out]),HWB.out.trans ((HB6.out.trans (hb3.mono HB6.out.size)).mono HWB.out.size)⟩
              ·obtain rfl:k=pl:=by omega
               have Z6:Hid (r6=0):=hid (by rw[HR6E.out];exact dR _ _ fun j h1=>hall j h1 (by have h:=HD.out.ps.len;dsimp only at h;omega))
               clear hall hbr hlt hk
               go_wp2
               go_ret
               exact⟨retI (by rw[HF.out];simp[orL,Z1.out,Z4.out,Z5.out,Z6.out]),HWB.out.trans (HB6.out.mono HWB.out.size)⟩
        ·have hz1:(r3==0)=false:=by simp[z3]
         have hz2:(r3 != 0)=true:=by simp[z3]
         have HZN:=hid z3
         clear z3
         go_wp2_with (go_at_call 38;refine(HR3.out _ HB2.out).mono ?_;rintro e w3 ⟨rfl,hb3⟩;have HB3:=hid ((HB2.out).trans (hb3.mono (HB2.out).size));clear hb3)
         go_ret
         exact⟨retI (by rw[HF.out];simp only[orL,Z1.out,ne_eq,not_true_eq_false,ite_false,ite_true];simp[HZN.out]),HWB.out.trans ((HB3.out).mono HWB.out.size)⟩
       ·have hz1:(r2==0)=false:=by simp[z2]
        have hz2:(r2 != 0)=true:=by simp[z2]
        have HZN:=hid z2
        clear z2
        go_wp2_with (go_at_call 38;refine(HR2.out _ HB1.out).mono ?_;rintro e w3 ⟨rfl,hb3⟩;have HB2:=hid ((HB1.out).trans (hb3.mono (HB1.out).size));clear hb3)
        go_ret
        exact⟨retI (by rw[HF.out];simp only[orL,Z1.out,ne_eq,not_true_eq_false,ite_false,ite_true];simp[HZN.out]),HWB.out.trans ((HB2.out).mono HWB.out.size)⟩
end
end
end Go.Proofs.YteladbdfiannjaaGreatDoor
