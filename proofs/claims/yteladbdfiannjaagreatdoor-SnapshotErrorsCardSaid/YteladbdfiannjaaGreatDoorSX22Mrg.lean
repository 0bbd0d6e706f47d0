/- A part. -/
import Derived.Test.YteladbdfiannjaaGreatDoorSX20Mrg
import Derived.Test.YteladbdfiannjaaGreatDoorSX14Mrg
import Derived.Lib.Split
import Derived.Lib.Join
import Derived.Lib.IndexBytes
namespace Go.Proofs.YteladbdfiannjaaGreatDoor
set_option linter.unusedVariables false
set_option maxRecDepth 100000
set_option maxHeartbeats 64000000
set_option linter.unusedSimpArgs false
section
open Go Go.RowKit Go.Shelf
def eE (d:Msg):ByteArray × Int:=if dB d≠0 then (⟨#[]⟩,dB d) else if (cM d.b).2≠0 then (⟨#[]⟩,(cM d.b).2) else (aD8 d (cM d.b).1,0)
theorem aCm (c:MC) (d:Msg) (w:World) (hd:IsMsg (· < w.heap.size) w c d) (hT:Tabs w) (h0:dB d≠0) :
 Calls Tryz.prog 75 #[c.v] w fun e w'=>e=.returned (.tuple #[.string ⟨#[]⟩,.int .i64 (dB d)])∧Below w.heap.size w w':=by
 have HM:=hid (lI c d w hd hT)
 obtain⟨x,hx⟩:∃x,x=dB d:=⟨_,rfl⟩
 have HCK:Hid (∀w1,Below (w.alloc (mObj c)).heap.size (w.alloc (mObj c)) w1→Calls Tryz.prog 111 #[c.v] w1 fun e w'=>e=.returned (.int .i64 x)∧Below w1.heap.size w1 w'):=hid fun w1 h=>by
  have q:=lI c d w hd hT w1 h
  rw[hx];exact cQ c d w1 q.msg q.tabs
 rw[←hx] at h0 ⊢
 have hx0:(x==0)=false:=by simp;exact h0
 have hx1:(x != 0)=true:=by simp;exact h0
 clear hd hT h0 hx
 obtain⟨⟨ce,sa,sn,sc⟩,m,a,n,cap,⟨k,i',s,tt,la,ll,lc,fa,fl,fc⟩⟩:=c
 have h00:=HM.out _ (Below.refl _ _)
 have h0t:=h00.ten
 dsimp only[Ten,mObj] at h0t
 obtain⟨e0,e1,e2,e3,e4,e5,e6,e7,e8,e9⟩:=h0t
 clear h00
 have hck:=HCK.out _ (Below.refl _ _)
 have HCK0:=hid hck
 dsimp only[mObj,SC.v,VC.v,MC.v] at HM HCK0 ⊢
 clear hck HCK
 go_enter Tryz.func75,Tryz.ntmps75
 go_wp2_with (first
  | (go_at_call 111;refine HCK0.out.mono ?_;rintro e w2 ⟨rfl,hb2⟩;have HB:=hid (HM.out _ hb2).bel))
 exact bodyPost_ret (v:=.tuple #[.string ⟨#[]⟩,.int .i64 x]) (by simp[results,Tryz.results75,go_sem]) rfl ⟨rfl,HB.out⟩
theorem aCl (c:MC) (d:Msg) (w:World) (hd:IsMsg (· < w.heap.size) w c d) (hT:Tabs w) (hZ:ZTab w) (h0:dB d=0) (h1:(cM d.b).2≠0) :
 Calls Tryz.prog 75 #[c.v] w fun e w'=>e=.returned (.tuple #[.string ⟨#[]⟩,.int .i64 (cM d.b).2])∧Below w.heap.size w w':=by
 have HM:=hid (lI c d w hd hT)
 have HCK:Hid (∀w1,Below (w.alloc (mObj c)).heap.size (w.alloc (mObj c)) w1→Calls Tryz.prog 111 #[c.v] w1 fun e w'=>e=.returned (.int .i64 0)∧Below w1.heap.size w1 w'):=hid fun w1 h=>by
  have q:=lI c d w hd hT w1 h
  rw[←h0];exact cQ c d w1 q.msg q.tabs
 obtain⟨x,hx⟩:∃x,x=(cM d.b).2:=⟨_,rfl⟩
 obtain⟨t,ht⟩:∃t,t=(cM d.b).1:=⟨_,rfl⟩
 have HLT:Hid (∀w1,Below (w.alloc (mObj c)).heap.size (w.alloc (mObj c)) w1→Calls Tryz.prog 142 #[c.b.v] w1 fun e w'=>e=.returned (.tuple #[.string t,.int .i64 x])∧Below w1.heap.size w1 w'):=hid fun w1 h=>by
  have q:=lI c d w hd hT w1 h
  rw[hx,ht]
  exact fV c.b d.b w1 q.msg.b q.tabs (hZ.below q.bel)
 rw[←hx] at h1 ⊢
 have hx0:(x==0)=false:=by simp;exact h1
 have hx1:(x != 0)=true:=by simp;exact h1
 clear hd hT h0 h1 hx ht hZ
 obtain⟨⟨ce,sa,sn,sc⟩,m,a,n,cap,⟨k,i',s,tt,la,ll,lc,fa,fl,fc⟩⟩:=c
 have h00:=HM.out _ (Below.refl _ _)
 have h0t:=h00.ten
 dsimp only[Ten,mObj] at h0t
 obtain⟨e0,e1,e2,e3,e4,e5,e6,e7,e8,e9⟩:=h0t
 clear h00
 have hck:=HCK.out _ (Below.refl _ _)
 have HCK0:=hid hck
 dsimp only[mObj,SC.v,VC.v,MC.v] at HM HCK0 HLT ⊢
 clear hck HCK
 go_enter Tryz.func75,Tryz.ntmps75
 go_wp2_with (first
  | (go_at_call 111;refine HCK0.out.mono ?_;rintro e w2 ⟨rfl,hb2⟩;obtain⟨⟨j0,j1,j2,j3,j4,j5,j6,j7,j8,j9⟩,_,_,_⟩:=HM.out _ hb2;clear e0 e1 e2 e3 e4 e5 e6 e7 e8 e9)
  | (go_at_call 142;refine(HLT.out _ hb2).mono ?_;rintro e w3 ⟨rfl,hb3⟩;have HB:=hid (HM.out _ (hb2.trans (hb3.mono hb2.size))).bel))
 exact bodyPost_ret (v:=.tuple #[.string ⟨#[]⟩,.int .i64 x]) (by simp[results,Tryz.results75,go_sem]) rfl ⟨rfl,HB.out⟩
theorem kK (c:MC) (d:Msg) (w:World) (hd:IsMsg (· < w.heap.size) w c d) (hT:Tabs w) (hZ:ZTab w) :
 Calls Tryz.prog 75 #[c.v] w fun e w'=>e=.returned (.tuple #[.string (eE d).1,.int .i64 (eE d).2])∧Below w.heap.size w w':=by
 unfold eE
 by_cases h0:dB d=0
 ·rw[if_neg (fun h=>h h0)]
  by_cases h1:(cM d.b).2=0
  ·rw[if_neg (fun h=>h h1)]
   refine rQ c d w hd hT (cM d.b).1 h0 (dT d.b) fun w' h=>?_
   have q:=fV c.b d.b w' (hd.b.same fun b hb=>⟨Nat.lt_of_lt_of_le hb h.size,h.block b hb⟩) (hT.below h) (hZ.below h)
   rw[h1] at q
   exact q
  ·rw[if_pos h1];exact aCl c d w hd hT hZ h0 h1
 ·rw[if_pos h0];exact aCm c d w hd hT h0
end
section
open Go Go.RowKit
end
section
open Go Go.RowKit Go.Shelf
/-! ### valid values -/
mutual
def Fine:Nat→Val→Prop
 | f,.mk k i s t l ns fs=>(∃g,f=g+1)∧iK (.mk k i s t l ns fs)∧aBp (.mk k i s t l ns fs)=true∧ns.length=fs.length∧FineL (f-1) l∧FineL (f-1) fs
def FineL:Nat→List Val→Prop
 | _,[]=>True
 | f,d :: l=>Fine f d∧FineL f l
end
mutual
def Named:Val→Prop
 | .mk k i s t l ns fs=>ns.length=fs.length∧NamedL l∧NamedL fs
def NamedL:List Val→Prop
 | []=>True
 | d :: l=>Named d∧NamedL l
end
end
section
open Go Go.RowKit Go.Shelf
end
section
open Go Go.RowKit Go.Shelf
end
section
open Go Go.RowKit Go.Shelf
end
section
open Go Go.RowKit
end
section
open Go Go.RowKit
theorem aCv (n:Int) (h:0≤n):Lib.itoa n=Lib.decDigits n.toNat:=by rw[Lib.itoa,if_neg (by omega)]
theorem zL {d:St} (h:aS d=0):1≤d.e∧d.e≤1048576∧d.ps≠[]∧(∀x∈d.ps,0≤x∧x≤65535):=by
 unfold aS at h
 split at h
 ·simp at h
 rename_i h1
 split at h
 ·simp at h
 rename_i h2
 split at h
 ·simp at h
 split at h
 ·simp at h
 rename_i h4
 refine⟨by omega,by omega,h2,fun x hx=>?_⟩
 have q:oO x=false:=by
  cases hb:oO x
  ·rfl
  ·exact absurd (List.any_eq_true.2 ⟨x,hx,hb⟩) h4
 unfold oO at q
 simp at q
 omega
end
section
open Go Go.RowKit Go.Shelf
theorem aAt:∀(es:List Int) (k:Nat),k≤es.length→eD es k=0→∀j (h:j<es.length),k≤j→gF es[j]=true:=fun es k hk h0=>by
 obtain⟨n,hn⟩:∃n,n=es.length-k:=⟨_,rfl⟩
 induction n generalizing k with
 | zero=>intro j h hj;omega
 | succ n ih =>
   intro j h hj
   have hlt:k<es.length:=by omega
   have hb:gF es[k]=true:=by
    cases hb:gF es[k]
    ·have:=qL es k hlt hb
     rw[h0] at this;cases this
    ·rfl
   by_cases e:j=k
   ·subst e;exact hb
   have hl:k=0∨es[k-1]<es[k]:=by
    rcases Nat.eq_zero_or_pos k with h1 | h1
    ·exact .inl h1
    ·right
     by_cases h2:es[k]≤es[k-1]
     ·have:=oF es k hlt hb h1 h2
      rw[h0] at this;cases this
     ·omega
   exact ih (k+1) (by omega) (by rw[←oE es k hlt hb hl];exact h0) (by omega) j h (by omega)
theorem msgE_ok {d:Msg} (h:dB d=0):aS d.st=0∧0≤d.m∧d.m≤1099511627776∧d.es≠[]∧(∀x∈d.es,1≤x∧x≤1048576)∧jI d.b=0:=by
 unfold dB at h
 split at h
 ·contradiction
 rename_i h1
 split at h
 ·simp at h
 rename_i h2
 split at h
 ·simp at h
 rename_i h3
 split at h
 ·simp at h
 split at h
 ·contradiction
 rename_i h5
 have q:jE d.m=false:=by
  cases hb:jE d.m
  ·rfl
  ·exact absurd hb h2
 unfold jE at q
 simp at q
 have h5':eD d.es 0=0:=by simpa using h5
 refine⟨by simpa using h1,by omega,by omega,h3,fun x hx=>?_,h⟩
 obtain⟨j,hj,rfl⟩:=List.mem_iff_getElem.1 hx
 have:=aAt d.es 0 (Nat.zero_le _) h5' j hj (Nat.zero_le _)
 unfold gF at this
 simp at this
 exact this
end
end Go.Proofs.YteladbdfiannjaaGreatDoor
