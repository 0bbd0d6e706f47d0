/- A part. -/
import Derived.Test.YtaofolgaiipcjaaGreatDoorSD16Mrg
import Derived.Test.YtaofolgaiipcjaaGreatDoorSD25Mrg
import Derived.Test.YtaofolgaiipcjaaGreatDoorSD26Mrg
namespace Go.Proofs.YtaofolgaiipcjaaGreatDoor
set_option linter.unusedVariables false
set_option maxRecDepth 100000
set_option maxHeartbeats 16000000
set_option linter.unusedSimpArgs false
section
open Go Go.RowKit Go.Shelf
def encF (d:Msg):ByteArray × Int:=if msgE d≠0 then (⟨#[]⟩,msgE d) else if (litF d.b).2≠0 then (⟨#[]⟩,(litF d.b).2) else (encT d (litF d.b).1,0)
theorem mEncBad1 (c:MC) (d:Msg) (w:World) (hd:IsMsg (· < w.heap.size) w c d) (hT:Tabs w) (h0:msgE d≠0) :
 Calls Tryz.prog 65 #[c.v] w fun e w'=>e=.returned (.tuple #[.string ⟨#[]⟩,.int .i64 (msgE d)])∧Below w.heap.size w w':=by
 have HM:=hid (jDr c d w hd hT);obtain⟨x,hx⟩:∃x,x=msgE d:=⟨_,rfl⟩
 have HCK:Hid (∀w1,Below (w.alloc (mObj c)).heap.size (w.alloc (mObj c)) w1→Calls Tryz.prog 166 #[c.v] w1 fun e w'=>e=.returned (.int .i64 x)∧Below w1.heap.size w1 w'):=hid fun w1 h=>by
  have q:=jDr c d w hd hT w1 h;rw[hx];exact nD c d w1 q.msg q.tabs
 rw[←hx] at h0 ⊢;have hx0:(x==0)=false:=by simp;exact h0
 have hx1:(x != 0)=true:=by simp;exact h0
 clear hd hT h0 hx;obtain⟨⟨ce,sa,sn,sc⟩,m,a,n,cap,⟨k,i',s,tt,la,ll,lc,fa,fl,fc⟩⟩:=c;have h00:=HM.out _ (Below.refl _ _);have h0t:=h00.ten;dsimp only[Ten,mObj] at h0t;obtain⟨e0,e1,e2,e3,e4,e5,e6,e7,e8,e9⟩:=h0t;clear h00;have hck:=HCK.out _ (Below.refl _ _);have HCK0:=hid hck;dsimp only[mObj,SC.v,VC.v,MC.v] at HM HCK0 ⊢;clear hck HCK;go_enter Tryz.func65,Tryz.ntmps65
 go_wp2_with (first
  | (go_at_call 166;refine HCK0.out.mono ?_;rintro e w2 ⟨rfl,hb2⟩;have HB:=hid (HM.out _ hb2).bel))
 exact bodyPost_ret (v:=.tuple #[.string ⟨#[]⟩,.int .i64 x]) (by simp[results,Tryz.results65,go_sem]) rfl ⟨rfl,HB.out⟩
theorem mEncBad2 (c:MC) (d:Msg) (w:World) (hd:IsMsg (· < w.heap.size) w c d) (hT:Tabs w) (hZ:ZTab w) (h0:msgE d=0) (h1:(litF d.b).2≠0) :
 Calls Tryz.prog 65 #[c.v] w fun e w'=>e=.returned (.tuple #[.string ⟨#[]⟩,.int .i64 (litF d.b).2])∧Below w.heap.size w w':=by
 have HM:=hid (jDr c d w hd hT);have HCK:Hid (∀w1,Below (w.alloc (mObj c)).heap.size (w.alloc (mObj c)) w1→Calls Tryz.prog 166 #[c.v] w1 fun e w'=>e=.returned (.int .i64 0)∧Below w1.heap.size w1 w'):=hid fun w1 h=>by
  have q:=jDr c d w hd hT w1 h;rw[←h0];exact nD c d w1 q.msg q.tabs
 obtain⟨x,hx⟩:∃x,x=(litF d.b).2:=⟨_,rfl⟩
 obtain⟨t,ht⟩:∃t,t=(litF d.b).1:=⟨_,rfl⟩
 have HLT:Hid (∀w1,Below (w.alloc (mObj c)).heap.size (w.alloc (mObj c)) w1→Calls Tryz.prog 47 #[c.b.v] w1 fun e w'=>e=.returned (.tuple #[.string t,.int .i64 x])∧Below w1.heap.size w1 w'):=hid fun w1 h=>by
  have q:=jDr c d w hd hT w1 h;rw[hx,ht];exact yK c.b d.b w1 q.msg.b q.tabs (hZ.below q.bel)
 rw[←hx] at h1 ⊢;have hx0:(x==0)=false:=by simp;exact h1
 have hx1:(x != 0)=true:=by simp;exact h1
 clear hd hT h0 h1 hx ht hZ;obtain⟨⟨ce,sa,sn,sc⟩,m,a,n,cap,⟨k,i',s,tt,la,ll,lc,fa,fl,fc⟩⟩:=c;have h00:=HM.out _ (Below.refl _ _);have h0t:=h00.ten;dsimp only[Ten,mObj] at h0t;obtain⟨e0,e1,e2,e3,e4,e5,e6,e7,e8,e9⟩:=h0t;clear h00;have hck:=HCK.out _ (Below.refl _ _);have HCK0:=hid hck;dsimp only[mObj,SC.v,VC.v,MC.v] at HM HCK0 HLT ⊢;clear hck HCK;go_enter Tryz.func65,Tryz.ntmps65
 go_wp2_with (first
  | (go_at_call 166;refine HCK0.out.mono ?_;rintro e w2 ⟨rfl,hb2⟩;obtain⟨⟨j0,j1,j2,j3,j4,j5,j6,j7,j8,j9⟩,_,_,_⟩:=HM.out _ hb2;clear e0 e1 e2 e3 e4 e5 e6 e7 e8 e9)
  | (go_at_call 47;refine(HLT.out _ hb2).mono ?_;rintro e w3 ⟨rfl,hb3⟩;have HB:=hid (HM.out _ (hb2.trans (hb3.mono hb2.size))).bel))
 exact bodyPost_ret (v:=.tuple #[.string ⟨#[]⟩,.int .i64 x]) (by simp[results,Tryz.results65,go_sem]) rfl ⟨rfl,HB.out⟩
theorem jCi (c:MC) (d:Msg) (w:World) (hd:IsMsg (· < w.heap.size) w c d) (hT:Tabs w) (hZ:ZTab w) :
 Calls Tryz.prog 65 #[c.v] w fun e w'=>e=.returned (.tuple #[.string (encF d).1,.int .i64 (encF d).2])∧Below w.heap.size w w':=by
 unfold encF;by_cases h0:msgE d=0
 ·rw[if_neg (fun h=>h h0)];by_cases h1:(litF d.b).2=0
  ·rw[if_neg (fun h=>h h1)];refine jF7 c d w hd hT (litF d.b).1 h0 (qU d.b) fun w' h=>?_;have q:=yK c.b d.b w' (hd.b.same fun b hb=>⟨Nat.lt_of_lt_of_le hb h.size,h.block b hb⟩) (hT.below h) (hZ.below h);rw[h1] at q;exact q
  ·rw[if_pos h1];exact mEncBad2 c d w hd hT hZ h0 h1
 ·rw[if_pos h0];exact mEncBad1 c d w hd hT h0
end
section
open Go Go.RowKit Go.Shelf
def decM (s:ByteArray):Option Msg:=match vC 4 s with
 | [a,b,c,e]=>match xF a.data.toList with
   | none=>none
   | some st=>if nB b.data.toList=true∧(parF e).2.2=0∧(spl 44 c.data.toList).all nB=true∧encF ⟨st,qJ b.data.toList,(spl 44 c.data.toList).map qJ,(parF e).1⟩=(s,0)
     then some ⟨st,qJ b.data.toList,(spl 44 c.data.toList).map qJ,(parF e).1⟩ else none
 | _=>none
theorem jMs:∀(es:List Int) (k:Nat),k≤es.length→uP es k=0→∀j (h:j<es.length),k≤j→vH es[j]=true:=fun es k hk h0=>by
 obtain⟨n,hn⟩:∃n,n=es.length-k:=⟨_,rfl⟩
 induction n generalizing k with
 | zero=>intro j h hj;omega
 | succ n ih =>
   intro j h hj;have hlt:k<es.length:=by omega
   have hb:vH es[k]=true:=by
    cases hb:vH es[k]
    ·have:=jFr es k hlt hb;rw[h0] at this;cases this
    ·rfl
   by_cases e:j=k
   ·subst e;exact hb
   have hl:k=0∨es[k-1]<es[k]:=by
    rcases Nat.eq_zero_or_pos k with h1 | h1
    ·exact .inl h1
    ·right;by_cases h2:es[k]≤es[k-1]
     ·have:=jCr es k hlt hb h1 h2;rw[h0] at this;cases this
     ·omega
   exact ih (k+1) (by omega) (by rw[←jCq es k hlt hb hl];exact h0) (by omega) j h (by omega)
theorem msgE_ok {d:Msg} (h:msgE d=0):kG d.st=0∧0≤d.m∧d.m≤1099511627776∧d.es≠[]∧(∀x∈d.es,1≤x∧x≤1048576)∧jBf d.b=0:=by
 unfold msgE at h;split at h
 ·contradiction
 rename_i h1;split at h
 ·simp at h
 rename_i h2;split at h
 ·simp at h
 rename_i h3;split at h
 ·simp at h
 split at h
 ·contradiction
 rename_i h5;have q:jA6 d.m=false:=by
  cases hb:jA6 d.m
  ·rfl
  ·exact absurd hb h2
 unfold jA6 at q;simp at q;have h5':uP d.es 0=0:=by simpa using h5
 refine⟨by simpa using h1,by omega,by omega,h3,fun x hx=>?_,h⟩;obtain⟨j,hj,rfl⟩:=List.mem_iff_getElem.1 hx;have:=jMs d.es 0 (Nat.zero_le _) h5' j hj (Nat.zero_le _);unfold vH at this;simp at this;exact this
end
end Go.Proofs.YtaofolgaiipcjaaGreatDoor
