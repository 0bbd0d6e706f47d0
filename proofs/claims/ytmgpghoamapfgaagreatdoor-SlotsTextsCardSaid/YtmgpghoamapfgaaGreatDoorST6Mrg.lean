/- A part. -/
import Derived.Test.YtmgpghoamapfgaaGreatDoorST5Mrg
import Derived.Lib.ItoaNum
import Derived.Lib.AtoiAll
import Derived.Lib.IndexMore
import Derived.Lib.Bytealg
import Derived.Lib.ValidU
import Derived.Lib.RuneBytes
import Derived.Lib.ValidLaws
import Derived.Lib.ItoaMem
import Derived.Lib.AtoiErrMem
namespace Go.Proofs.YtmgpghoamapfgaaGreatDoor
set_option linter.unusedVariables false
set_option linter.unusedSimpArgs false
section
open Go
def sM (y:Nat):Bool:=(y % 4==0)&&(!(y % 100==0)||(y % 400==0))
def pC (m:Nat):Nat:=[31,28,31,30,31,30,31,31,30,31,30,31].getD (m-1) 0
def bE (y m:Nat):Nat:=if m=2/\sM y=true then 29 else pC m
def eA (y:Nat):Nat:=365 * (y-1)+(y-1) / 4-(y-1) / 100+(y-1) / 400
def eJ (n:Nat):Nat->Nat
 | 0=>0
 | y+1=>if n<eA (y+1) then eJ n y else y+1
def cA (y:Nat):Nat->Nat->Nat->Nat × Nat
 | 0,m,n=>(m,n)
 | f+1,m,n=>if bE y m<=n then cA y f (m+1) (n-bE y m) else (m,n)
def aZ (y:Nat):Nat->Nat->Nat
 | 0,_=>0
 | f+1,m=>bE y m+aZ y f (m+1)
def rB (n:Nat):Nat:=min (n / 365+1) 9999
def iF (n:Nat):Nat:=eJ n (rB n)
def sQ (n:Nat):Nat × Nat:=cA (iF n) 12 1 (n-eA (iF n))
def tA (n:Nat):Nat:=(sQ n).1
def tB (n:Nat):Nat:=(sQ n).2+1
def dS (k n:Nat):List UInt8:=List.replicate (k-(Lib.decDigits n).length) 48++Lib.decDigits n
def bY (n:Nat):List UInt8:=dS 4 (iF n)++45 :: (dS 2 (tA n)++45 :: dS 2 (tB n))
def rV (r:Nat):List UInt8:=84 :: (dS 2 (r / 1000 / 3600)++58 :: (dS 2 (r / 1000 / 60 % 60)++58 :: dS 2 (r / 1000 % 60)))++(if r % 1000=0 then [] else 46 :: dS 3 (r % 1000))++[90]
def cH (n:Nat):List UInt8:=bY (n / 86400000)++rV (n % 86400000)
theorem wP (n:Nat) (h:n<=3652058):n<eA (rB n+1):=by
 unfold rB eA;simp only[Nat.add_sub_cancel];by_cases h1:n / 365+1<=9999
 ·rw[Nat.min_eq_left h1];have h2:(n / 365+1) / 100<=(n / 365+1) / 4:=Nat.div_le_div_left gc gc;have h3:n<365 * (n / 365+1):=by omega
  generalize n / 365+1=y at h2 h3 ⊢;omega
 ·rw[Nat.min_eq_right ga];simp;omega
theorem xY (n:Nat):1<=rB n/\rB n<=9999:=by unfold rB;omega
theorem wQ:eA 1=0:=rfl
theorem aCh (n y:Nat) (h:n<eA y) (h1:1<=y):eJ n (y-1)=eJ n y:=by
 obtain⟨z,rfl⟩:∃z,y=z+1:=⟨y-1,by omega⟩
 simp only[Nat.add_sub_cancel,eJ,h,if_true]
theorem aCg (n y:Nat) (h:¬ n<eA y) (h1:1<=y):eJ n y=y:=by
 obtain⟨z,rfl⟩:∃z,y=z+1:=⟨y-1,by omega⟩
 simp only[eJ,h,if_false]
theorem d4 (x:Nat):(x+1) / 4=x / 4+if (x+1) % 4=0 then 1 else 0:=by split<;>omega
theorem d100 (x:Nat):(x+1) / 100=x / 100+if (x+1) % 100=0 then 1 else 0:=by split<;>omega
theorem d400 (x:Nat):(x+1) / 400=x / 400+if (x+1) % 400=0 then 1 else 0:=by split<;>omega
theorem pN (y:Nat) (h:1<=y):eA (y+1)=eA y+aZ y 12 1:=by
 have e:aZ y 12 1=if sM y=true then 366 else 365:=by
  by_cases hl:sM y=true<;>simp[aZ,bE,pC,hl]
 rw[e];obtain⟨x,rfl⟩:∃x,y=x+1:=⟨y-1,by omega⟩
 unfold eA;simp only[Nat.add_sub_cancel];have hl:sM (x+1)=true ↔ ((x+1) % 4=0/\(¬ (x+1) % 100=0\/(x+1) % 400=0)):=by unfold sM;simp
 have h1:(x+1) % 400=0->(x+1) % 100=0:=fun h=>by omega
 have h2:(x+1) % 100=0->(x+1) % 4=0:=fun h=>by omega
 have h3:x / 100<=x / 4:=Nat.div_le_div_left gc gc;rw[d4,d100,d400];generalize x / 4=a at *;generalize x / 100=b at *;generalize x / 400=c at *;simp only[hl];by_cases k4:(x+1) % 4=0<;>by_cases k100:(x+1) % 100=0<;>by_cases k400:(x+1) % 400=0<;>simp only[k4,k100,k400] at h1 h2 ⊢ <;> simp at h1 h2 ⊢ <;> omega
theorem uX (y m:Nat):bE y m<=31:=by
 unfold bE pC;split
 ·decide
 ·rcases m with _ | _ | _ | _ | _ | _ | _ | _ | _ | _ | _ | _ | _ | m<;>simp
theorem nB (y:Nat):∀(f m n:Nat),n<aZ y f m->m<=(cA y f m n).1/\(cA y f m n).1<m+f/\(cA y f m n).2<31
 | 0,m,n,h=>by simp[aZ] at h
 | f+1,m,n,h=>by
   simp only[cA];simp only[aZ] at h;by_cases hm:bE y m<=n
   ·rw[if_pos hm];have:=nB y f (m+1) (n-bE y m) ga;omega
   ·rw[if_neg hm];have:=uX y m;simp;omega
theorem bU (n k:Nat) (h:n<10 ^ k) (hk:0<k):(Lib.decDigits n).length<=k:=by
 induction k generalizing n with
 | zero=>omega
 | succ k ih =>
   rw[Lib.decDigits];split
   ·simp
   ·rename_i h10;have hk':0<k:=by rcases k with _ | k;(· simp at h;omega);omega
    have:=ih (n / 10) (by rw[Nat.pow_succ] at h;omega) hk';simp;omega
theorem cV (k n:Nat) (h:n<10 ^ k) (hk:0<k):(dS k n).length=k:=by
 have:=bU n k h hk;unfold dS;simp;omega
theorem aHo (n:Nat) (h:n<=3652058) (hy:1<=iF n/\iF n<=9999) (h1:eA (iF n)<=n) (h2:n<eA (iF n+1)):1<=tA n/\tA n<=12/\1<=tB n/\tB n<=31:=by
 rw[pN _ hy.1] at h2;have:=nB (iF n) 12 1 (n-eA (iF n)) ga;unfold tA tB sQ;omega
end
section
open Go Go.RowKit Go.Shelf
def jF (c:Nat):UInt8:=if c<10 then UInt8.ofNat (48+c) else UInt8.ofNat (87+c)
def jG (n:Nat):List UInt8:=if n<16 then [jF n] else [jF (n / 16),jF (n % 16)]
def dB (c:UInt8):List UInt8 :=
 if c.toNat=34\/c.toNat=92 then [92,c] else if c.toNat=10 then [92,110] else if c.toNat=13 then [92,114] else if c.toNat=9 then [92,116]
 else if c.toNat<32\/c.toNat=127 then 92 :: 117 :: 123 :: (jG c.toNat++[125]) else [c]
def aP (s:List UInt8):List UInt8:=34 :: (s.flatMap dB++[34])
def eD (c:UInt8):List UInt8:=[jF (c.toNat / 16),jF (c.toNat % 16)]
def gL (s:List UInt8):List UInt8:=120 :: 34 :: (s.flatMap eD++[34])
def fO (m s:Nat):List UInt8 :=
 if s=0 then Lib.decDigits m else
  (List.replicate (s+1-(Lib.decDigits m).length) 48++Lib.decDigits m).take ((s+1-(Lib.decDigits m).length)+(Lib.decDigits m).length-s)++46 ::
  (List.replicate (s+1-(Lib.decDigits m).length) 48++Lib.decDigits m).drop ((s+1-(Lib.decDigits m).length)+(Lib.decDigits m).length-s)
def cM (n:Int) (s:Nat):List UInt8:=if n<0 then 45 :: fO n.natAbs s else fO n.natAbs s
def dU (k i s:Int) (t:List UInt8):List UInt8 :=
 if k=0 then [110,117,108,108] else if k=1 then (if i=1 then [116,114,117,101] else [102,97,108,115,101]) else if k=2 then Lib.itoa i
 else if k=3 then (if s=0 then cM i s.toNat++[100] else cM i s.toNat) else if k=4 then aP t else if k=5 then gL t
 else if k=6 then 100 :: 97 :: 116 :: 101 :: 32 :: aP (bY (i+719162).toNat) else 116 :: 105 :: 109 :: 101 :: 32 :: aP (cH (i+62135596800000).toNat)
def dN:List ByteArray->List (List UInt8)->List (List UInt8)
 | n :: ns,x :: xs=>(n.data.toList++58 :: 32 :: x) :: dN ns xs
 | _,_=>[]
mutual
def txt:Val->List UInt8
 | .mk k i s t l ns fs=>if k=8 then 91 :: (Lib.join (aW l) [44,32]++[93]) else if k=9 then 123 :: (Lib.join (dN ns (aW fs)) [44,32]++[125])
    else if k=10 then t.data.toList++40 :: ((aW l).headD []++[41]) else dU k i s t.data.toList
def aW:List Val->List (List UInt8)
 | []=>[]
 | d :: l=>txt d :: aW l
end
theorem iL:∀l:List Val,aW l=l.map txt
 | []=>rfl
 | d :: l=>by rw[aW,iL l];rfl
def eS (d:Val):Prop:=1<=zK d/\zK d<=10/\kK d=0
theorem wK {p:Nat} {x:Int × Val} (h:cX p x=0):eS x.2:=by
 unfold cX at h;split at h
 ·cases h
 split at h
 ·cases h
 split at h
 ·cases h
 split at h
 ·cases h
 split at h
 ·cases h
 rename_i hk _;exact⟨by omega,by omega,h⟩
theorem aF2:∀(xs:List (Int × Val)) (p:Nat),eF p xs=0->∀x∈xs,eS x.2
 | y :: ys,p,h,x,hx=>by
   simp only[eF] at h;by_cases h1:cX (p+1) y≠0
   ·rw[if_pos h1] at h;exact absurd h h1
   ·rw[if_neg h1] at h;rcases List.mem_cons.1 hx with rfl | hx
    ·exact wK (Decidable.not_not.1 h1)
    ·exact aF2 ys (p+1) h x hx
def Good (n:Nat) (d:Val):Prop:=∃lvl,(iX lvl d).length<=n/\∀x∈iX lvl d,eS x.2
theorem aIe {d:Val} (h:aR d=0):Good 4096 d:=⟨1,aA7 _ h,aF2 _ _ h⟩
theorem Good.self {n:Nat} {d:Val} (h:Good n d):eS d:=by
 obtain⟨lvl,_,h⟩:=h;rw[kM] at h;exact h _ (List.mem_cons_self ..)
theorem aJi {lvl:Int} {l:List Val} {d:Val} (h:d∈l):(∀x∈iX lvl d,x∈bQ lvl l)/\(iX lvl d).length<=(bQ lvl l).length:=by
 induction l with
 | nil=>cases h
 | cons e l ih =>
   rcases List.mem_cons.1 h with rfl | h
   ·exact⟨fun x hx=>by rw[bQ];exact List.mem_append_left _ hx,by rw[bQ,List.length_append];omega⟩
   ·exact⟨fun x hx=>by rw[bQ];exact List.mem_append_right _ ((ih h).1 x hx),by rw[bQ,List.length_append];have:=(ih h).2;omega⟩
theorem Good.kid {n:Nat} {d d':Val} (h:Good n d) (hd:d'∈fA d):Good n d':=by
 obtain⟨lvl,hn,h⟩:=h;rw[kM] at h hn;have:=aJi (lvl:=wrap64 (lvl+1)) hd;simp only[List.length_cons] at hn;exact⟨wrap64 (lvl+1),by omega,fun x hx=>h x (List.mem_cons_of_mem _ (this.1 x hx))⟩
theorem vJ (n:Nat):(jG n).length<=2:=by unfold jG;split<;>simp
theorem aEk (c:UInt8):(dB c).length<=6:=by
 have:=vJ c.toNat
 unfold dB
 repeat' split
 all_goals simp
 omega
theorem iQ (f:UInt8->List UInt8) (k:Nat) (hf:∀c,(f c).length<=k):∀l:List UInt8,(l.flatMap f).length<=k * l.length
 | []=>by simp
 | c :: l=>by
   have:=iQ f k hf l;have:=hf c;simp only[List.flatMap_cons,List.length_append,List.length_cons,Nat.mul_add];omega
theorem jX (l:List UInt8):(aP l).length<=6 * l.length+2:=by
 have:=iQ dB 6 aEk l;simp only[aP,List.length_cons,List.length_append,List.length_nil];omega
theorem aKt (l:List UInt8):(gL l).length<=2 * l.length+3:=by
 have:=iQ eD 2 (fun c=>by simp[eD]) l;simp only[gL,List.length_cons,List.length_append,List.length_nil];omega
theorem aHb (m s:Nat) (hs:s<=12) (hm:m<10 ^ 15):(fO m s).length<=40:=by
 have:=bU m 15 hm gc;unfold fO;split
 ·omega
 ·simp only[List.length_append,List.length_cons,List.length_take,List.length_drop,List.length_replicate];omega
theorem aEr (n:Int) (s:Nat) (hs:s<=12) (hm:n.natAbs<10 ^ 15):(cM n s).length<=41:=by
 have:=aHb n.natAbs s hs hm;unfold cM;split
 ·simp;omega
 ·omega
theorem aH1 (n:Int) (hm:n.natAbs<10 ^ 15):(Lib.itoa n).length<=16:=by
 have h1:=bU n.natAbs 15 hm gc;have h2:=bU n.toNat 15 ga gc;unfold Lib.itoa;split
 ·simp;omega
 ·omega
theorem oP (n:Nat):∀y,eJ n y<=y
 | 0=>Nat.le_refl _
 | y+1=>by
   simp only[eJ];split
   ·have:=oP n y;omega
   ·exact Nat.le_refl _
theorem aFg (n:Nat):∀y,1<=y->1<=eJ n y
 | 1,_=>by simp[eJ,wQ]
 | y+2,_=>by
   simp only[eJ];split
   ·exact aFg n (y+1) ga
   ·omega
theorem rZ (n:Nat):∀y,1<=y->n<eA (y+1)->eA (eJ n y)<=n/\n<eA (eJ n y+1)
 | 1,_,h=>by
   have h1:¬ n<eA 1:=by rw[wQ];omega
   simp only[eJ,h1,if_false];exact⟨Nat.not_lt.1 h1,h⟩
 | y+2,_,h=>by
   by_cases h1:n<eA (y+2)
   ·have:=rZ n (y+1) ga h1;rw[eJ,if_pos h1];exact this
   ·rw[eJ,if_neg h1];exact⟨Nat.not_lt.1 h1,h⟩
theorem aA6 (n:Nat) (h:n<=3652058):(1<=iF n/\iF n<=9999)/\eA (iF n)<=n/\n<eA (iF n+1):=by
 have h1:=xY n;exact⟨⟨aFg n _ h1.1,Nat.le_trans (oP n _) h1.2⟩,rZ n _ h1.1 (wP n h)⟩
theorem qV (n:Nat) (h:n<=3652058):(1<=iF n/\iF n<=9999)/\(1<=tA n/\tA n<=12)/\1<=tB n/\tB n<=31:=by
 obtain⟨h1,h2,h3⟩:=aA6 n h;obtain⟨a,b,c,d⟩:=aHo n h h1 h2 h3;exact⟨h1,⟨a,b⟩,c,d⟩
theorem oD (n:Nat) (h:n<=3652058):(bY n).length=10:=by
 obtain⟨h1,h2,h3⟩:=qV n h;unfold bY;simp only[List.length_append,List.length_cons];rw[cV 4 _ ga gc,cV 2 _ ga gc,cV 2 _ ga gc]
theorem aHm (r:Nat) (h:r<86400000):(rV r).length<=15:=by
 unfold rV;simp only[List.length_append,List.length_cons,List.length_nil];rw[cV 2 _ ga gc,cV 2 _ ga gc,cV 2 _ ga gc];split
 ·simp only[List.length_nil];omega
 ·simp only[List.length_cons];rw[cV 3 _ ga gc];omega
theorem yF (n:Nat) (h:n<=315537897599999):(cH n).length<=25:=by
 have h1:=oD (n / 86400000) ga;have h2:=aHm (n % 86400000) ga;unfold cH;rw[List.length_append];omega
theorem aX {n lo hi:Int} (h:cI n lo hi=0):lo<=n/\n<=hi:=by
 unfold cI at h;split at h
 ·cases h
 ·omega
theorem fK {n m e:Int} (he:e≠0) (h:fE n m e=0):n<=m:=by
 unfold fE at h;split at h
 ·exact absurd h he
 ·omega
theorem nI {a b:Int} (h:nJ a b=0):a=0/\b=0:=by
 unfold nJ at h;split at h
 ·rename_i h1;exact absurd h h1
 ·rename_i h1;exact⟨Decidable.not_not.1 h1,h⟩
theorem tR {t:ByteArray} (h:mS t=0):t.size<=1024:=by
 unfold mS at h;split at h
 ·rename_i h1;have:=fK gc h1.1;omega
 ·have:=fK gc h;omega
theorem pH {s:ByteArray} (h:aL s=true):s.data.toList.length<=32:=by
 unfold aL iJ at h;split at h
 ·cases h
 ·rename_i e;rw[e];simp only[Bool.and_eq_true,decide_eq_true_eq] at h;exact h.1
theorem kY:∀(ns:List ByteArray) (p:Option ByteArray),eN p ns=0->∀n∈ns,n.data.toList.length<=32
 | m :: ns,p,h,n,hn=>by
   rw[dI] at h;by_cases hm:aL m=false
   ·rw[if_pos hm] at h;cases h
   rw[if_neg hm] at h;have hr:eN (some m) ns=0:=by
    cases p with
    | none=>exact h
    | some q =>
      dsimp only at h;split at h
      ·cases h
      split at h
      ·cases h
      exact h
   rcases List.mem_cons.1 hn with rfl | hn
   ·exact pH (by simpa using hm)
   ·exact kY ns _ hr n hn
theorem aK5 {k i s:Int} {t:ByteArray} {l:List Val} {ns:List ByteArray} {fs:List Val} (h:eS (.mk k i s t l ns fs)) (hk:k<=7):(dU k i s t.data.toList).length<=8000:=by
 obtain⟨h1,h2,h3⟩:=h;have h1:1<=k:=h1;simp only[kK] at h3;unfold dU;have:k=1\/k=2\/k=3\/k=4\/k=5\/k=6\/k=7:=by omega
 rcases this with rfl | rfl | rfl | rfl | rfl | rfl | rfl
 ·simp;split<;>simp
 ·simp at h3 ⊢;have:=aX h3;have:=aH1 i ga;omega
 ·simp at h3 ⊢;obtain⟨a,b⟩:=nI h3;have:=aX a;have:=aX b;have:=aEr i s.toNat ga ga
  split
  ·rw[List.length_append];simp;omega
  ·omega
 ·simp at h3 ⊢;have:=tR h3;have:=jX t.data.toList;rw[qZ] at this;omega
 ·simp at h3 ⊢;have:=fK gc h3;have:=aKt t.data.toList;rw[qZ] at this;omega
 ·simp at h3 ⊢;have:=aX h3;have:=oD (i+719162).toNat ga
  have:=jX (bY (i+719162).toNat);omega
 ·simp at h3 ⊢;have:=aX h3;have:=yF (i+62135596800000).toNat ga
  have:=jX (cH (i+62135596800000).toNat);omega
def lens (l:List (List UInt8)):Nat:=(l.map (fun x=>x.length+2)).sum
theorem zN:∀l:List (List UInt8),(Lib.join l [44,32]).length<=lens l
 | []=>by simp[Lib.join_nil]
 | x :: r=>by
   rw[Lib.join_cons];have:∀r:List (List UInt8),(Lib.joinTail [44,32] r).length=lens r:=by
    intro r
    induction r with
    | nil=>rfl
    | cons y r ih =>
      simp only[Lib.joinTail,List.map_cons,List.flatten_cons,List.length_append,lens,List.sum_cons] at ih ⊢;rw[ih];simp;omega
   rw[List.length_append,this r];simp only[lens,List.map_cons,List.sum_cons];omega
theorem aEg:∀(ns:List ByteArray) (xs:List (List UInt8)),(∀n∈ns,n.data.toList.length<=32)->lens (dN ns xs)<=lens xs+34 * xs.length
 | [],xs,_=>by simp[dN,lens]
 | n :: ns,[],_=>by simp[dN,lens]
 | n :: ns,x :: xs,h=>by
   have h1:=aEg ns xs (fun m hm=>h m (List.mem_cons_of_mem _ hm));have h2:=h n (List.mem_cons_self ..);simp only[dN,lens,List.map_cons,List.sum_cons,List.length_append,List.length_cons] at h1 ⊢;omega
mutual
theorem aHw (lvl:Int):∀d:Val,(∀x∈iX lvl d,eS x.2)->(txt d).length<=8192 * (iX lvl d).length-100
 | .mk k i s t l ns fs,h=>by
   have h0:eS (.mk k i s t l ns fs):=h _ (by rw[iX];exact List.mem_cons_self ..);have hc:(iX lvl (.mk k i s t l ns fs)).length=1+(bQ (wrap64 (lvl+1)) (fA (.mk k i s t l ns fs))).length:=by rw[kM];simp;omega
   have hk:∀x∈bQ (wrap64 (lvl+1)) (fA (.mk k i s t l ns fs)),eS x.2:=fun x hx=>h x (by rw[kM];exact List.mem_cons_of_mem _ hx);rw[hc,txt];by_cases h8:k=8
   ·rw[if_pos h8];simp only[fA,h8,true_or,if_true] at hk ⊢;have h1:=pP (wrap64 (lvl+1)) l hk;have h2:=zN (aW l);simp only[List.length_cons,List.length_append,List.length_nil];omega
   rw[if_neg h8];by_cases h9:k=9
   ·rw[if_pos h9];have hr:dY ns=0:=by have:=h0.2.2;simpa [kK,h9] using this
    have hn:∀n∈ns,n.data.toList.length<=32:=by
     unfold dY at hr;split at hr
     ·cases hr
     ·exact kY _ _ hr
    simp only[fA,h9] at hk ⊢;simp at hk ⊢;have h1:=pP (wrap64 (lvl+1)) fs (fun x hx=>hk x.1 x.2 hx);have h2:=zN (dN ns (aW fs));have h3:=aEg ns (aW fs) hn;omega
   rw[if_neg h9];by_cases h10:k=10
   ·rw[if_pos h10];have hr:cS t l.length=0:=by have:=h0.2.2;simpa [kK,h10] using this
    have hn:t.data.toList.length<=32:=by
     unfold cS at hr;split at hr
     ·cases hr
     ·rename_i hx;exact pH (by simpa using hx)
    simp only[fA,h10,or_true,if_true] at hk ⊢;have h1:=pP (wrap64 (lvl+1)) l hk;have h2:((aW l).headD []).length<=lens (aW l):=by
     cases aW l with
     | nil=>simp
     | cons x r=>simp only[List.headD_cons,lens,List.map_cons,List.sum_cons];omega
    simp only[List.length_cons,List.length_append,List.length_nil];omega
   rw[if_neg h10];have:=aK5 h0 (by have:=h0.2.1;simp only[zK] at this;omega);omega
theorem pP (lvl:Int):∀l:List Val,(∀x∈bQ lvl l,eS x.2)->lens (aW l)+34 * (aW l).length<=8192 * (bQ lvl l).length
 | [],_=>by simp[aW,lens]
 | d :: l,h=>by
   have h1:=aHw lvl d (fun x hx=>h x (by rw[bQ];exact List.mem_append_left _ hx));have h2:=pP lvl l (fun x hx=>h x (by rw[bQ];exact List.mem_append_right _ hx));have h3:1<=(iX lvl d).length:=by rw[kM];simp
   rw[bQ,List.length_append,aW];simp only[lens,List.map_cons,List.sum_cons,List.length_cons] at h2 ⊢;omega
end
theorem Good.len {n:Nat} {d:Val} (h:Good n d) (hn:n<=4096):(txt d).length<=33554432:=by
 obtain⟨lvl,h1,h2⟩:=h;have:=aHw lvl d h2;omega
end
section
open Go
theorem bA (a b:List UInt8):(⟨a.toArray⟩:ByteArray)++⟨b.toArray⟩=⟨(a++b).toArray⟩:=by
 apply ByteArray.ext;simp[ByteArray.data_append]
theorem aU (a:List UInt8):(⟨a.toArray⟩:ByteArray).size=a.length:=by simp[ByteArray.size]
theorem kQ (k:Nat) (h:k<10):(UInt8.ofNat (48+k)).toNat=48+k:=by simp[UInt8.toNat_ofNat'];omega
theorem jH (n:Nat):Lib.decDigits n≠[]:=by
 rw[Lib.decDigits];split<;>simp
theorem cQ (n:Nat):∀c∈Lib.decDigits n,48<=c.toNat/\c.toNat<=57:=by
 induction n using Nat.strongRecOn with
 | _ n ih =>
   intro c hc;rw[Lib.decDigits] at hc;split at hc
   ·rename_i h;simp only[List.mem_singleton] at hc;subst hc;rw[kQ n h];omega
   ·rename_i h;rcases List.mem_append.1 hc with hc | hc
    ·exact ih (n / 10) ga c hc
    ·simp only[List.mem_singleton] at hc;subst hc;rw[kQ _ ga];omega
theorem sE (c:UInt8) (hc:48<=c.toNat/\c.toNat<=57):∀(l:List UInt8) (a u:Nat),Lib.parseUint10 a l=.ok u->u * 10+(c.toNat-48)<18446744073709551616->Lib.parseUint10 a (l++[c])=.ok (u * 10+(c.toNat-48))
 | [],a,u,h,hb=>by
   simp only[Lib.parseUint10] at h;injection h with h;subst h;simp only[List.nil_append,Lib.parseUint10];rw[if_pos hc,if_neg ga,if_neg ga]
 | d :: l,a,u,h,hb=>by
   simp only[List.cons_append,Lib.parseUint10] at h ⊢;split at h
   ·rename_i h1;rw[if_pos h1];split at h
    ·cases h
    ·rename_i h2;rw[if_neg h2];split at h
     ·cases h
     ·rename_i h3;rw[if_neg h3];exact sE c hc l _ u h hb
   ·cases h
theorem aCs (n:Nat) (h:n<18446744073709551616):Lib.parseUint10 0 (Lib.decDigits n)=.ok n:=by
 induction n using Nat.strongRecOn with
 | _ n ih =>
   rw[Lib.decDigits];split
   ·rename_i h10;simp only[Lib.parseUint10,kQ n h10];rw[if_pos ga,if_neg ga,if_neg ga];congr 1;omega
   ·rename_i h10;have e:=sE (UInt8.ofNat (48+n % 10)) (by rw[kQ _ ga];omega) _ 0 _ (ih (n / 10) ga ga) (by rw[kQ _ ga];omega);rw[e,kQ _ ga];congr 1;omega
theorem aFa (n:Nat) (h:n<9223372036854775808):Lib.atoiAll (Lib.decDigits n)=.ok (n:Int):=by
 have hp:=aCs n ga;have ha:=cQ n;have hne:=jH n;obtain⟨l,hl⟩:=ez (Lib.decDigits n)
 rw[<-hl] at hp ha hne ⊢;cases l with
 | nil=>exact absurd rfl hne
 | cons c r =>
   have hc:=ha c (List.mem_cons_self ..);unfold Lib.atoiAll Lib.parseMag;dsimp only;rw[if_neg (show ¬ (c.toNat=43\/c.toNat=45) by omega),if_neg gd,hp];dsimp only;rw[if_neg ga,if_neg ga,if_neg ga]
def aC4 (s:List UInt8):Int × Bool :=
 match Lib.atoiAll s with
 | .ok v=>(v,decide (Lib.itoa v=s))
 | .range=>(Lib.atoiSat s,false)
 | _=>(0,false)
theorem aC6 (n k:Nat) (h:n<10 ^ k) (hk:0<k):(Lib.decDigits n).length<=k:=by
 induction k generalizing n with
 | zero=>omega
 | succ k ih =>
   rw[Lib.decDigits];split
   ·simp
   ·rename_i h10;have hk':0<k:=by rcases k with _ | k;(· simp at h;omega);omega
    have:=ih (n / 10) (by rw[Nat.pow_succ] at h;omega) hk';simp;omega
theorem aN8 (n:Nat) (h:n<9223372036854775808):aC4 (Lib.decDigits n)=((n:Int),true):=by
 unfold aC4;rw[aFa n h];simp[Lib.itoa]
end
section
open Go Go.RowKit Go.Shelf
structure Rd where
 nx:Nat
 k:Nat
 p:Nat
 t:ByteArray
 b:ByteArray
 n:Int
 sc:Int
 d:Bool
 x:Bool
 e:Int
 o:Nat
def Rd.fail (r:Rd) (p:Nat) (e:Int):Rd:=if r.e=0 then { r with o:=p,e:=e } else r
def uY (c:Nat):Nat:=if 65<=c/\c<=70 then c+32 else c
def iA (c:UInt8):Int:=if 48<=c.toNat/\c.toNat<=57 then (c.toNat-48:Nat) else if 97<=uY c.toNat/\uY c.toNat<=102 then (uY c.toNat-87:Nat) else -1
def spC (c:UInt8):Bool:=c.toNat==32||(c.toNat==9||(c.toNat==13||c.toNat==10))
def mP (c:UInt8):Bool:=(decide (97<=c.toNat)&&decide (c.toNat<=122))||(decide (65<=c.toNat)&&decide (c.toNat<=90))
def bD (c:UInt8):Bool:=decide (48<=c.toNat)&&decide (c.toNat<=57)
def lN (c:UInt8):Bool:=mP c||(bD c||c.toNat==95)
def symL:List UInt8:=[91,93,123,125,40,41,58,44,61,63,124]
def bL (l:List UInt8) (i:Nat) (p:UInt8->Bool):Nat:=i+((l.drop i).takeWhile p).length
/-! ### decimal.Parse -/
def eU (n:Int) (s:Nat):List UInt8 × Int:=if 999999999999999<n.natAbs\/12<s then ([],2) else (cM n s,0)
def dO (l:List UInt8):Int:=match Lib.atoiAll l with | .ok v=>v | .range=>Lib.atoiSat l | _=>0
def cG (l:List UInt8):Bool:=match Lib.atoiAll l with | .ok _=>true | _=>false
def kF (l:List UInt8):Int × Nat × Int :=
 if l=[] then (0,0,4) else if 17<l.length then (0,0,5) else
 let c:=Lib.cut l [46]
 let n:=dO (c.1++c.2.1)
 let t:=eU n c.2.1.length
 if cG (c.1++c.2.1)=false\/t.2≠0\/t.1≠l\/(c.2.2=true/\c.2.1=[]) then (0,0,13) else (n,c.2.1.length,0)
/-! ### the calendar's texts -/
def gU:Nat->Nat->List UInt8->Option (Nat × List UInt8)
 | 0,n,l=>some (n,l)
 | k+1,n,c :: l=>if bD c then gU k (10 * n+(c.toNat-48)) l else none
 | _+1,_,[]=>none
def bF:List (List UInt8 × Nat)->List UInt8->Option (List Nat × List UInt8)
 | [],l=>some ([],l)
 | (m,k) :: ms,l=>if Lib.hasPrefix l m=false then none else match gU k 0 (l.drop m.length) with
   | none=>none
   | some (n,l)=>match bF ms l with
     | none=>none
     | some (ns,l)=>some (n :: ns,l)
def cY (y m d:Nat):Int × Int:=if ¬ (1<=y/\y<=9999)\/¬ (1<=m/\m<=12)\/¬ (1<=d/\d<=bE y m) then (0,17) else (-719162+eA y+d-1+aZ y (m-1) 1,0)
def gM (l:List UInt8):Int × Int:=match bF [([],4),([45],2),([45],2)] l with
 | some ([y,m,d],[])=>cY y m d
 | _=>(0,13)
def iV (l:List UInt8):Int × Int:=match bF [([],4),([45],2),([45],2),([84],2),([58],2),([58],2)] l with
 | some ([y,m,d,h,i,s],r) =>
   let q:Option (Nat × List UInt8):=if Lib.hasPrefix r [46] then (match gU 3 0 (r.drop 1) with | some (n,r)=>if n=0 then none else some (n,r) | none=>none) else some (0,r)
   match q with
   | none=>(0,13)
   | some (z,r)=>if r≠[90] then (0,13) else if (cY y m d).2≠0\/23<h\/59<i\/59<s then (0,17) else ((cY y m d).1 * 86400000+(((60 * h+i) * 60+s) * 1000+z:Nat),0)
 | _=>(0,13)
/-! ### tokens -/
def iN (l:List UInt8) (s:ByteArray) (at_:Nat) (r:Rd):Rd :=
 let f:=if l[at_]?=some 45 then at_+1 else at_
 let tq:=bL l f bD
 if tq=f then r.fail at_ 13 else
 let q:Nat × Bool × Bool:=if l[tq]?=some 46/\(l[tq+1]?.any bD)=true then (bL l (tq+1) bD,true,false) else if l[tq]?=some 100 then (tq+1,true,true) else (tq,false,false)
 let z:=kF (Lib.trimSuffix (s.extract at_ q.1).data.toList [100])
 let r1:={ r with nx:=q.1,d:=q.2.1,x:=q.2.2 }
 let r2:=if z.2.2≠0 then r1.fail at_ z.2.2 else r1
 { r2 with k:=2,n:=z.1,sc:=z.2.1 }
def eG:List UInt8->Nat->Int->List UInt8->(Nat × List UInt8) ⊕ Option Nat
 | [],_,_,_=>.inr none
 | c :: l,i,odd,acc=>if c.toNat=34/\odd<0 then .inl (i+1,acc) else if iA c<0 then .inr (some i) else if odd<0 then eG l (i+1) (iA c) acc
   else eG l (i+1) (-1) (acc++[UInt8.ofNat (16 * odd+iA c).toNat])
def iZ (l:List UInt8) (at_:Nat) (r:Rd):Rd:=match eG (l.drop (at_+2)) (at_+2) (-1) [] with
 | .inl (i,a)=>{ r with k:=4,b:=⟨a.toArray⟩,nx:=i }
 | .inr (some i)=>r.fail i 13
 | .inr none=>r.fail at_ 4
def kB:List UInt8->Nat->Option Nat
 | [],n=>some n
 | c :: l,n=>if iA c<0 then none else kB l (16 * n+(iA c).toNat)
def jE (n:Nat):Bool:=decide (n<=1114111)&&(decide (n<55296)||decide (57343<n))
def fC (l:List UInt8):List UInt8 × Nat × Int:=match l with
 | []=>([],0,13)
 | c :: _ =>
   if c.toNat=34 then ([34],1,0) else if c.toNat=92 then ([92],1,0) else if c.toNat=110 then ([10],1,0) else if c.toNat=114 then ([13],1,0) else if c.toNat=116 then ([9],1,0) else
   let q:=Lib.cut (Lib.trimPrefix l [117,123]) [125]
   if Lib.hasPrefix l [117,123]=false\/q.2.2=false\/q.1.length<1\/6<q.1.length then ([],0,13) else
   match kB q.1 0 with
   | none=>([],0,13)
   | some n=>if jE n=false then ([],0,16) else ((Utf8.encode (n:Int)).data.toList,q.1.length+3,0)
def cE:Nat->List UInt8->Nat->List UInt8->(Nat × List UInt8) ⊕ Option (Nat × Int)
 | 0,_,_,_=>.inr none
 | _+1,[],_,_=>.inr none
 | f+1,c :: l,i,acc=>if c.toNat=34 then .inl (i+1,acc) else if c.toNat<32\/c.toNat=127 then .inr (some (i,6)) else if c.toNat≠92 then cE f l (i+1) (acc++[c])
   else if l=[] then .inr none else let q:=fC l
    if q.2.2≠0 then .inr (some (i,q.2.2)) else cE f (l.drop q.2.1) (i+1+q.2.1) (acc++q.1)
def gQ (l:List UInt8) (at_:Nat) (r:Rd):Rd:=match cE (l.length+1) (l.drop (at_+1)) (at_+1) [] with
 | .inl (i,a)=>{ (if Lib.validD a=false then r.fail at_ 16 else r) with k:=3,b:=⟨a.toArray⟩,nx:=i }
 | .inr (some (i,e))=>r.fail i e
 | .inr none=>r.fail at_ 4
def Rd.adv (s:ByteArray) (r:Rd):Rd:=if r.e≠0 then r else
 let l:=s.data.toList
 let a:=bL l r.nx spC
 let r1:Rd:=⟨a,0,a,⟨#[]⟩,⟨#[]⟩,0,0,false,false,0,r.o⟩
 match l[a]? with
 | none=>r1
 | some c =>
   let r2:Rd:=if c.toNat=34 then gQ l a r1 else if c.toNat=120/\Lib.hasPrefix (l.drop a) [120,34]=true then iZ l a r1 else if mP c then { r1 with nx:=bL l a lN,k:=1 }
    else if bD c||c.toNat==45 then iN l s a r1 else if Lib.hasPrefix (l.drop a) [46,46] then { r1 with nx:=a+2,k:=5 } else if symL.contains c then { r1 with nx:=a+1,k:=5 } else r1.fail a 13
   if r2.e=0 then { r2 with t:=s.extract a r2.nx } else r2
def Rd.is (r:Rd) (t:ByteArray):Bool:=decide (r.e=0)&&((decide (r.k=5)||decide (r.k=1))&&decide (r.t=t))
def Rd.expect (s:ByteArray) (r:Rd) (t:ByteArray):Rd:=if r.e≠0 then r else if r.is t then r.adv s else r.fail r.p 13
def Rd.take (s:ByteArray) (r:Rd) (k:Nat):Rd:=if r.e≠0 then r else if r.k≠k then r.fail r.p 13 else r.adv s
def Rd.name (s:ByteArray) (r:Rd):Rd:=let r1:=r.take s 1;if r1.e=0/\aL r.t=false then r1.fail r.p 12 else r1
def Rd.moment (s:ByteArray) (r:Rd) (f:List UInt8->Int × Int):Int × Rd:=let r1:=r.take s 3
 if r1.e≠0 then (0,r1) else ((f r.b.data.toList).1,if (f r.b.data.toList).2≠0 then r1.fail r.p (f r.b.data.toList).2 else r1)
/-! ### values -/
def dA:Val:=.mk 0 0 0 ⟨#[]⟩ [] [] []
def Rd.mu (s:ByteArray) (r:Rd):Nat:=if r.e≠0 then 0 else 1+2 * (s.size-r.nx)+(if r.k=0 then 0 else 1)
def dL (s:ByteArray) (rd:Rd->Val × Rd):Nat->Bool->Rd->List Val->List Val × Rd
 | 0,_,r,acc=>(acc,r)
 | f+1,first,r,acc=>if r.e≠0\/r.is ⟨#[93]⟩=true then (acc,r) else
   let q:=rd (if first then r else r.expect s ⟨#[44]⟩)
   dL s rd f false q.2 (acc++[q.1])
def fW (s:ByteArray) (rd:Rd->Val × Rd):Nat->Bool->Rd->List (ByteArray × Val)->List (ByteArray × Val) × Rd
 | 0,_,r,acc=>(acc,r)
 | f+1,first,r,acc=>if r.e≠0\/r.is ⟨#[125]⟩=true then (acc,r) else
   let r1:=if first then r else r.expect s ⟨#[44]⟩
   let r2:=r1.name s
   let nm:ByteArray:=if r1.e=0/\r1.k=1 then r1.t else ⟨#[]⟩
   let r3:=if r2.e=0/\acc.any (fun x=>decide (x.1=nm))=true then r2.fail r1.p 7 else r2
   let q:=rd (r3.expect s ⟨#[58]⟩)
   fW s rd f false q.2 (acc++[(nm,q.1)])
def leN (a b:ByteArray):Bool:=decide (Lib.compareBytes a.data.toList b.data.toList<=0)
def aGh (l:List (ByteArray × Val)):Val:=let m:=l.mergeSort (fun a b=>leN a.1 b.1);.mk 9 0 0 ⟨#[]⟩ [] (m.map (·.1)) (m.map (·.2))
def rdV (s:ByteArray):Nat->Rd->Val × Rd
 | f,r=>if r.e≠0 then (dA,r) else
   if (r.k=0\/r.k=5)/\r.t≠⟨#[91]⟩/\r.t≠⟨#[123]⟩ then (dA,r.fail r.p 13) else
   match f with
   | 0=>(dA,r.fail r.p 23)
   | f+1 =>
     let r1:=r.adv s
     if r.k=2 then (if r.d then .mk 3 r.n r.sc ⟨#[]⟩ [] [] [] else .mk 2 r.n 0 ⟨#[]⟩ [] [] [],r1)
     else if r.k=3 then (.mk 4 0 0 r.b [] [] [],r1)
     else if r.k=4 then (.mk 5 0 0 r.b [] [] [],r1)
     else if r.t=⟨#[91]⟩ then let q:=dL s (rdV s f) (r1.mu s+1) true r1 [];(.mk 8 0 0 ⟨#[]⟩ q.1 [] [],q.2.expect s ⟨#[93]⟩)
     else if r.t=⟨#[123]⟩ then let q:=fW s (rdV s f) (r1.mu s+1) true r1 [];(aGh q.1,q.2.expect s ⟨#[125]⟩)
     else if r1.e≠0 then (dA,r1)
     else if r1.is ⟨#[40]⟩ then (if aL r.t=false then (dA,r1.fail r.p 12) else let q:=rdV s f (r1.adv s);(.mk 10 0 0 r.t [q.1] [] [],q.2.expect s ⟨#[41]⟩))
     else if r.t=⟨#[116,114,117,101]⟩ then (.mk 1 1 0 ⟨#[]⟩ [] [] [],r1)
     else if r.t=⟨#[102,97,108,115,101]⟩ then (.mk 1 0 0 ⟨#[]⟩ [] [] [],r1)
     else if r.t=⟨#[100,97,116,101]⟩ then let q:=r1.moment s gM;(.mk 6 q.1 0 ⟨#[]⟩ [] [] [],q.2)
     else if r.t=⟨#[116,105,109,101]⟩ then let q:=r1.moment s iV;(.mk 7 q.1 0 ⟨#[]⟩ [] [] [],q.2)
     else if r.t=⟨#[110,117,108,108]⟩/\f=7 then (dA,r1)
     else (dA,r1.fail r.p 13)
def kL (s:ByteArray):Rd:=((⟨0,0,0,⟨#[]⟩,⟨#[]⟩,0,0,false,false,if 65536<s.size then 5 else 0,0⟩:Rd)).adv s
def yW (q:Val × Rd):Val × Rd:=(q.1,if q.2.e=0/\q.2.k≠0 then q.2.fail q.2.p 13 else q.2)
def eX (s:ByteArray):Val × Nat × Int:=let q:=yW (rdV s 8 (kL s))
 let e:=if q.2.e=0/\cF q.1=false then aR q.1 else q.2.e
 if e≠0 then (dA,q.2.o,e) else (q.1,0,0)
end
section
open Go Go.RowKit Go.Shelf
structure Rd.Ok (s:ByteArray) (r:Rd):Prop where
 t0:r.k=0->r.t=⟨#[]⟩
 nx:r.nx<=s.size
 p:r.p<=s.size
theorem jD (l:List UInt8) (i:Nat) (p:UInt8->Bool):i<=bL l i p:=Nat.le_add_right _ _
theorem oQ {α:Type} (p:α->Bool):∀l:List α,(l.takeWhile p).length<=l.length
 | []=>Nat.le_refl _
 | a :: l=>by
   rw[List.takeWhile_cons];split
   ·simp only[List.length_cons];have:=oQ p l;omega
   ·simp
theorem aB6 (l:List UInt8) (i:Nat) (p:UInt8->Bool) (h:i<=l.length):bL l i p<=l.length:=by
 have:=oQ p (l.drop i);rw[List.length_drop] at this;unfold bL;omega
theorem runI_gt (l:List UInt8) (i:Nat) (p:UInt8->Bool) (c:UInt8) (h:l[i]?=some c) (hp:p c=true):i<bL l i p:=by
 obtain⟨hi,rfl⟩:=List.getElem?_eq_some_iff.1 h;have:l.drop i=l[i] :: l.drop (i+1):=List.drop_eq_getElem_cons hi;unfold bL;rw[this,List.takeWhile_cons,hp];simp
theorem nW (l:List UInt8) (i:Nat) (p:UInt8->Bool) (c:UInt8) (h:l[i]?=some c) (hp:p c=true):bL l i p=bL l (i+1) p:=by
 obtain⟨hi,rfl⟩:=List.getElem?_eq_some_iff.1 h;have:l.drop i=l[i] :: l.drop (i+1):=List.drop_eq_getElem_cons hi;unfold bL;rw[this,List.takeWhile_cons,hp];simp;omega
theorem fV (l:List UInt8) (i:Nat) (p:UInt8->Bool) (h:∀c,l[i]?=some c->p c=false):bL l i p=i:=by
 unfold bL;by_cases hi:i<l.length
 ·have:l.drop i=l[i] :: l.drop (i+1):=List.drop_eq_getElem_cons hi;rw[this,List.takeWhile_cons,h l[i] (List.getElem?_eq_getElem hi)];simp
 ·rw[List.drop_eq_nil_of_le ga];rfl
theorem Rd.fail_e (r:Rd) (p:Nat) (e:Int) (he:e≠0):(r.fail p e).e≠0:=by
 unfold Rd.fail;split
 ·exact he
 ·assumption
theorem Rd.fail_ok {s:ByteArray} {r:Rd} (h:r.Ok s) (p:Nat) (e:Int):(r.fail p e).Ok s:=by
 unfold Rd.fail;split
 ·exact⟨h.t0,h.nx,h.p⟩
 ·exact h
theorem Rd.mu_bad {s:ByteArray} {r:Rd} (h:r.e≠0):r.mu s=0:=by rw[Rd.mu,if_pos h]
theorem Rd.mu_pos {s:ByteArray} {r:Rd} (h:r.e=0):0<r.mu s:=by rw[Rd.mu,if_neg (by simp[h])];omega
theorem Rd.fail_mu {s:ByteArray} (r:Rd) (p:Nat) (e:Int) (he:e≠0):(r.fail p e).mu s=0:=Rd.mu_bad (r.fail_e p e he)
theorem qX:∀(l:List UInt8) (i:Nat) (odd:Int) (acc:List UInt8) (j:Nat) (a:List UInt8),eG l i odd acc=.inl (j,a)->i<j/\j<=i+l.length
 | [],_,_,_,_,_,h=>by simp[eG] at h
 | c :: l,i,odd,acc,j,a,h=>by
   unfold eG at h;split at h
   ·simp only[Sum.inl.injEq,Prod.mk.injEq] at h;simp;omega
   ·split at h
    ·cases h
    ·split at h
     ·have:=qX l _ _ _ _ _ h;simp;omega
     ·have:=qX l _ _ _ _ _ h;simp;omega
theorem pS:∀(f:Nat) (l:List UInt8) (i:Nat) (acc:List UInt8) (j:Nat) (a:List UInt8),cE f l i acc=.inl (j,a)->i<j
 | 0,_,_,_,_,_,h=>by simp[cE] at h
 | _+1,[],_,_,_,_,h=>by simp[cE] at h
 | f+1,c :: l,i,acc,j,a,h=>by
   unfold cE at h;split at h
   ·simp only[Sum.inl.injEq,Prod.mk.injEq] at h;omega
   ·split at h
    ·cases h
    ·split at h
     ·have:=pS f _ _ _ _ _ h;omega
     ·split at h
      ·cases h
      ·dsimp only at h;split at h
       ·cases h
       ·have:=pS f _ _ _ _ _ h;omega
end
section
open Go Go.RowKit Go.Shelf
def rd0 (i:Nat):Rd:=⟨i,0,0,⟨#[]⟩,⟨#[]⟩,0,0,false,false,0,0⟩
def tok (s:ByteArray) (i:Nat):Rd:=(rd0 i).adv s
theorem dK {s:ByteArray} {r:Rd} (he:r.e=0) (ho:r.o=0):r.adv s=tok s r.nx:=by
 obtain⟨nx,k,p,t,b,n,sc,d,x,e,o⟩:=r;dsimp only at he ho;subst he ho;unfold tok rd0 Rd.adv;rw[if_neg gd,if_neg gd]
theorem aN {α:Type} {L a b:List α} {i:Nat} (h:L.drop i=a++b):L.drop (i+a.length)=b:=by
 rw[<-List.drop_drop,h,List.drop_left]
theorem eT {α:Type} (L:List α) (i:Nat):L[i]?=(L.drop i).head?:=by
 rw[List.head?_drop]
theorem oR {α:Type} (p:α->Bool) (post:List α) (hp:∀c,post.head?=some c->p c=false):∀w:List α,(∀x∈w,p x=true)->(w++post).takeWhile p=w
 | [],_=>by
   cases post with
   | nil=>rfl
   | cons c r=>rw[List.nil_append,List.takeWhile_cons,hp c rfl];rfl
 | x :: w,h=>by
   rw[List.cons_append,List.takeWhile_cons,h x (List.mem_cons_self ..),oR p post hp w (fun y hy=>h y (List.mem_cons_of_mem _ hy))];rfl
theorem uF {L w post:List UInt8} {i:Nat} {p:UInt8->Bool} (hL:L.drop i=w++post) (hw:∀x∈w,p x=true) (hp:∀c,post.head?=some c->p c=false):bL L i p=i+w.length:=by
 unfold bL;rw[hL,oR p post hp w hw]
theorem gB {s:ByteArray} {z post:List UInt8} {i:Nat} (hL:s.data.toList.drop i=z++post):s.extract i (i+z.length)=⟨z.toArray⟩:=by
 rw[Lib.extract_eq,hL,show i+z.length-i=z.length by omega,List.take_left]
theorem rP (l p:List UInt8):Lib.hasPrefix l p=p.isPrefixOf l:=rfl
theorem tQ {s:ByteArray} {i:Nat} {c:UInt8} {r:List UInt8} (hL:s.data.toList.drop i=c :: r) (hs:spC c=false) :
 tok s i=(let r1:Rd:=⟨i,0,i,⟨#[]⟩,⟨#[]⟩,0,0,false,false,0,0⟩
  let l:=s.data.toList
  let r2:Rd:=if c.toNat=34 then gQ l i r1 else if c.toNat=120/\Lib.hasPrefix (c :: r) [120,34]=true then iZ l i r1 else if mP c then { r1 with nx:=bL l i lN,k:=1 }
   else if bD c||c.toNat==45 then iN l s i r1 else if Lib.hasPrefix (c :: r) [46,46] then { r1 with nx:=i+2,k:=5 } else if symL.contains c then { r1 with nx:=i+1,k:=5 } else r1.fail i 13
  if r2.e=0 then { r2 with t:=s.extract i r2.nx } else r2):=by
 have hg:s.data.toList[i]?=some c:=by rw[eT,hL];rfl
 have ha:bL s.data.toList i spC=i:=fV _ _ _ (fun c' hc'=>by rw[hg] at hc';cases hc';exact hs);unfold tok rd0 Rd.adv;rw[if_neg gd];dsimp only;rw[ha,hg,hL]
theorem jL {s:ByteArray} {i:Nat} {r:List UInt8} (hL:s.data.toList.drop i=32 :: r):tok s i=tok s (i+1):=by
 have hg:s.data.toList[i]?=some 32:=by rw[eT,hL];rfl
 have ha:=nW s.data.toList i spC 32 hg gc;unfold tok rd0 Rd.adv;rw[if_neg gd,if_neg gd];dsimp only;rw[ha]
def nK (i:Nat):Rd:=⟨i,0,i,⟨#[]⟩,⟨#[]⟩,0,0,false,false,0,0⟩
theorem aAk {s:ByteArray} {i:Nat} (hL:s.data.toList.drop i=[]):tok s i=nK i:=by
 have hg:s.data.toList[i]?=none:=by rw[eT,hL];rfl
 have ha:bL s.data.toList i spC=i:=fV _ _ _ (fun c' hc'=>by rw[hg] at hc';cases hc');unfold tok rd0 Rd.adv nK;rw[if_neg gd];dsimp only;rw[ha,hg]
def eK (i:Nat) (c:UInt8):Rd:=⟨i+1,5,i,⟨#[c]⟩,⟨#[]⟩,0,0,false,false,0,0⟩
theorem aJ3 {c:UInt8} (h:symL.contains c=true):spC c=false/\c.toNat≠34/\c.toNat≠120/\mP c=false/\bD c=false/\c.toNat≠45/\c≠46:=by
 simp only[symL,List.contains_cons,List.contains_nil,Bool.or_false,Bool.or_eq_true,beq_iff_eq] at h;rcases h with rfl | rfl | rfl | rfl | rfl | rfl | rfl | rfl | rfl | rfl | rfl<;>decide
theorem fG {s:ByteArray} {i:Nat} {c:UInt8} {r:List UInt8} (hL:s.data.toList.drop i=c :: r) (h:symL.contains c=true):tok s i=eK i c:=by
 obtain⟨h1,h2,h3,h4,h5,h6,h7⟩:=aJ3 h;have h8:Lib.hasPrefix (c :: r) [46,46]=false:=by
  rw[rP,List.isPrefixOf];rw[show((46:UInt8)==c)=false by rw[beq_eq_false_iff_ne];exact fun e=>h7 e.symm];rfl
 have hx:s.extract i (i+1)=⟨#[c]⟩:=gB (z:=[c]) hL;rw[tQ hL h1];simp only[h2,h3,h4,h5,h6,h8,h,hx,if_false,if_true,false_and,Bool.false_eq_true,Bool.or_self,beq_iff_eq,Bool.or_eq_true,or_self,eK]
def aJ (i:Nat) (w:List UInt8):Rd:=⟨i+w.length,1,i,⟨w.toArray⟩,⟨#[]⟩,0,0,false,false,0,0⟩
theorem aK3 {c:UInt8} (h:mP c=true):spC c=false/\c.toNat≠34/\bD c=false/\c.toNat≠45:=by
 unfold mP at h;simp only[Bool.or_eq_true,Bool.and_eq_true,decide_eq_true_eq] at h;have:65<=c.toNat:=by omega
 refine⟨?_,by omega,?_,by omega⟩
 ·unfold spC;simp;omega
 ·unfold bD;simp;omega
theorem jU {s:ByteArray} {i:Nat} {w post:List UInt8} {c:UInt8} {w':List UInt8} (hw:w=c :: w') (hL:s.data.toList.drop i=w++post) (hc:mP c=true) (hall:∀x∈w,lN x=true)
 (hp:∀c,post.head?=some c->lN c=false) (hx:w=[120]->post.head?≠some 34):tok s i=aJ i w:=by
 obtain⟨h1,h2,h3,h4⟩:=aK3 hc;have hr:=uF hL hall hp;have hxx:=gB hL;have h5:¬ (c.toNat=120/\Lib.hasPrefix (c :: (w'++post)) [120,34]=true):=by
  rintro⟨e,hh⟩;have e':c=120:=UInt8.toNat_inj.1 e;rw[rP] at hh;cases w' with
  | nil =>
    cases post with
    | nil=>simp[List.isPrefixOf] at hh
    | cons y r =>
      simp only[List.nil_append,List.isPrefixOf,Bool.and_eq_true,beq_iff_eq] at hh;exact hx (by rw[hw,e']) (by rw[hh.2.1];rfl)
  | cons y r =>
    simp only[List.cons_append,List.isPrefixOf,Bool.and_eq_true,beq_iff_eq] at hh;have:=hall y (by rw[hw];simp);rw[<-hh.2.1] at this;exact absurd this gc
 rw[hw,List.cons_append] at hL;rw[tQ hL h1];simp only[h2,h5,hc,if_false,if_true,hr,hxx,aJ]
/-! ### strings -/
theorem aMv:∀k:Fin 16,iA (jF k.val)=(k.val:Int)/\(jF k.val).toNat≠34:=by decide +kernel
theorem aEa {k:Nat} (h:k<16):iA (jF k)=(k:Int)/\(jF k).toNat≠34:=aMv ⟨k,h⟩
theorem esc_low:∀n:Fin 128,kB (jG n.val) 0=some n.val/\(jG n.val).contains 125=false/\(Utf8.encode (n.val:Int)).data.toList=[UInt8.ofNat n.val]/\jE n.val=true/\1<=(jG n.val).length/\(jG n.val).length<=2:=by decide +kernel
theorem aNa {l r:List UInt8} {c:UInt8} (h:l.contains c=false):Lib.cut (l++c :: r) [c]=(l,r,true):=by
 have hi:Lib.index (l++c :: r) [c]=l.length:=by
  refine Lib.index_first gd ?_ ?_
  ·simp[Lib.occAt,List.isPrefixOf]
  ·intro j hj;unfold Lib.occAt;have hd:(l++c :: r).drop j=l[j] :: (l.drop (j+1)++c :: r):=by
    rw[List.drop_append_of_le_length ga,List.drop_eq_getElem_cons hj];rfl
   rw[hd,List.isPrefixOf];have:(c==l[j])=false:=by
    rw[beq_eq_false_iff_ne];intro e;have hm:l.contains c=true:=by rw[List.contains_iff_mem,e];exact List.getElem_mem _
    rw[h] at hm;cases hm
   rw[this];rfl
 unfold Lib.cut;rw[hi,if_pos ga];simp
theorem cut_no {l:List UInt8} {c:UInt8} (h:l.contains c=false):Lib.cut l [c]=(l,[],false):=by
 have hi:Lib.index l [c] = -1:=by
  refine Lib.index_none ?_;intro j hj;unfold Lib.occAt;rcases Nat.lt_or_ge j l.length with q | q
  ·rw[List.drop_eq_getElem_cons q,List.isPrefixOf];have:(c==l[j])=false:=by
    rw[beq_eq_false_iff_ne];intro e;have hm:l.contains c=true:=by rw[List.contains_iff_mem,e];exact List.getElem_mem _
    rw[h] at hm;cases hm
   rw[this];rfl
  ·rw[List.drop_eq_nil_of_le q];rfl
 unfold Lib.cut;rw[hi,if_neg gc]
theorem escF_u {n:Nat} (h:n<128) (r:List UInt8):fC (117 :: 123 :: (jG n++125 :: r))=([UInt8.ofNat n],(jG n).length+3,0):=by
 obtain⟨h1,h2,h3,h4,h5,h6⟩:=esc_low ⟨n,h⟩;dsimp only at h1 h2 h3 h4 h5 h6;have hp:Lib.hasPrefix (117 :: 123 :: (jG n++125 :: r)) [117,123]=true:=by simp[rP,List.isPrefixOf]
 have ht:Lib.trimPrefix (117 :: 123 :: (jG n++125 :: r)) [117,123]=jG n++125 :: r:=by rw[Lib.trimPrefix,if_pos hp];rfl
 have hc:Lib.cut (jG n++125 :: r) [125]=(jG n,r,true):=aNa h2;unfold fC;simp only[ht,hc,hp,h1,h4,h3];rw[if_neg gc,if_neg gc,if_neg gc,if_neg gc,if_neg gc,if_neg (by intro h;rcases h with h | h | h | h<;>first | cases h | omega)]
 try rw[if_neg gd]
theorem yG (post:List UInt8):∀(t:List UInt8) (f i:Nat) (acc:List UInt8),t.length<f->cE f (t.flatMap dB++34 :: post) i acc=.inl (i+(t.flatMap dB).length+1,acc++t)
 | [],f+1,i,acc,_=>by
   rw[List.flatMap_nil,List.nil_append,cE,if_pos gc];simp
 | c :: t,f+1,i,acc,h=>by
   have ih:=fun j a=>yG post t f j a (by simp at h;omega);rw[List.flatMap_cons,List.append_assoc];have esc:∀(e:List UInt8) (x:List UInt8),dB c=92 :: e->e≠[]->(∀r,fC (e++r)=(x,e.length,0))->x=[c]->cE (f+1) (dB c++(t.flatMap dB++34 :: post)) i acc=.inl (i+(dB c++t.flatMap dB).length+1,acc++c :: t):=by
    intro e x he hne hf hx;rw[he,List.cons_append,cE,if_neg gc,if_neg gc,if_neg gc,if_neg (by simp[hne])];dsimp only;rw[hf,if_neg gd];dsimp only;rw[List.drop_left,ih,hx];simp only[List.append_assoc,List.cons_append,List.nil_append,List.length_append,List.length_cons];congr 2;omega
   by_cases h1:c.toNat=34\/c.toNat=92
   ·refine esc [c] [c] (by rw[dB,if_pos h1]) gd (fun r=>?_) rfl;rcases h1 with h1 | h1
    ·have:c=34:=UInt8.toNat_inj.1 h1;subst this;rfl
    ·have:c=92:=UInt8.toNat_inj.1 h1;subst this;rfl
   by_cases h2:c.toNat=10
   ·have:c=10:=UInt8.toNat_inj.1 h2;subst this;exact esc [110] [10] rfl gd (fun r=>rfl) rfl
   by_cases h3:c.toNat=13
   ·have:c=13:=UInt8.toNat_inj.1 h3;subst this;exact esc [114] [13] rfl gd (fun r=>rfl) rfl
   by_cases h4:c.toNat=9
   ·have:c=9:=UInt8.toNat_inj.1 h4;subst this;exact esc [116] [9] rfl gd (fun r=>rfl) rfl
   by_cases h5:c.toNat<32\/c.toNat=127
   ·refine esc (117 :: 123 :: (jG c.toNat++[125])) [UInt8.ofNat c.toNat] (by rw[dB,if_neg h1,if_neg h2,if_neg h3,if_neg h4,if_pos h5]) gd (fun r=>?_) gd;have:=escF_u (n:=c.toNat) ga r;simp only[List.cons_append,List.append_assoc,List.nil_append];rw[this];simp
   ·have e:dB c=[c]:=by rw[dB,if_neg h1,if_neg h2,if_neg h3,if_neg h4,if_neg h5]
    rw[e,List.singleton_append,cE,if_neg ga,if_neg ga,if_pos ga,ih];simp only[List.append_assoc,List.cons_append,List.nil_append,List.length_append,List.length_cons,List.length_nil];congr 2;omega
theorem aN4 (c:UInt8):1<=(dB c).length:=by
 unfold dB
 repeat' split
 all_goals simp
theorem aIi:∀t:List UInt8,t.length<=(t.flatMap dB).length
 | []=>by simp
 | c :: t=>by
   have:=aIi t;have:=aN4 c;rw[List.flatMap_cons,List.length_append,List.length_cons];omega
def gO (i:Nat) (t:List UInt8):Rd:=⟨i+(aP t).length,3,i,⟨(aP t).toArray⟩,⟨t.toArray⟩,0,0,false,false,0,0⟩
theorem aAi {s:ByteArray} {i:Nat} {t post:List UInt8} (hL:s.data.toList.drop i=aP t++post) (hv:Lib.validD t=true):tok s i=gO i t:=by
 have hx:=gB hL;have hq:aP t++post=34 :: (t.flatMap dB++34 :: post):=by simp[aP]
 have hl:(aP t).length=1+(t.flatMap dB).length+1:=by simp[aP];omega
 have hd:s.data.toList.drop (i+1)=t.flatMap dB++34 :: post:=by
  have:=aN (L:=s.data.toList) (i:=i) (a:=[34]) (b:=t.flatMap dB++34 :: post) (by rw[hL,hq];rfl)
  simpa using this
 have hlen:t.length<s.data.toList.length+1:=by
  have h1:=congrArg List.length hd;have h2:=aIi t;rw[List.length_drop,List.length_append] at h1;omega
 have hr:gQ s.data.toList i (⟨i,0,i,⟨#[]⟩,⟨#[]⟩,0,0,false,false,0,0⟩:Rd)=⟨i+(aP t).length,3,i,⟨#[]⟩,⟨t.toArray⟩,0,0,false,false,0,0⟩:=by
  unfold gQ;rw[hd,yG post t _ _ _ hlen];simp only[List.nil_append,hv,Bool.true_eq_false,if_false];rw[show i+1+(t.flatMap dB).length+1=i+(aP t).length by omega]
 rw[hq] at hL;rw[tQ hL gc];simp only[show(34:UInt8).toNat=34 from rfl,if_true,hr,hx,gO]
/-! ### bytes -/
theorem aNb:∀n:Fin 256,UInt8.ofNat (16 * ((n.val / 16:Nat):Int)+((n.val % 16:Nat):Int)).toNat=UInt8.ofNat n.val:=by decide +kernel
theorem wN (post:List UInt8):∀(t:List UInt8) (i:Nat) (acc:List UInt8),eG (t.flatMap eD++34 :: post) i (-1) acc=.inl (i+(t.flatMap eD).length+1,acc++t)
 | [],i,acc=>by
   rw[List.flatMap_nil,List.nil_append,eG,if_pos gc];simp
 | c :: t,i,acc=>by
   have ih:=fun j a=>wN post t j a;have hc:=c.toNat_lt;obtain⟨a1,a2⟩:=aEa (k:=c.toNat / 16) ga;obtain⟨b1,b2⟩:=aEa (k:=c.toNat % 16) ga;have hcc:=aNb ⟨c.toNat,hc⟩;dsimp only at hcc;rw[UInt8.ofNat_toNat] at hcc;rw[List.flatMap_cons,eD];simp only[List.cons_append,List.nil_append];rw[eG,if_neg (by intro h;exact a2 h.1),a1,if_neg ga,if_pos gc,eG,if_neg (by intro h;exact b2 h.1),b1,if_neg ga,if_neg ga,hcc,ih];simp only[List.append_assoc,List.cons_append,List.nil_append,List.length_append,List.length_cons];congr 2;omega
def wM (i:Nat) (t:List UInt8):Rd:=⟨i+(gL t).length,4,i,⟨(gL t).toArray⟩,⟨t.toArray⟩,0,0,false,false,0,0⟩
theorem tok_byt {s:ByteArray} {i:Nat} {t post:List UInt8} (hL:s.data.toList.drop i=gL t++post):tok s i=wM i t:=by
 have hx:=gB hL;have hq:gL t++post=120 :: 34 :: (t.flatMap eD++34 :: post):=by simp[gL]
 have hl:(gL t).length=2+(t.flatMap eD).length+1:=by simp[gL];omega
 have hd:s.data.toList.drop (i+2)=t.flatMap eD++34 :: post:=by
  have:=aN (L:=s.data.toList) (i:=i) (a:=[120,34]) (b:=t.flatMap eD++34 :: post) (by rw[hL,hq];rfl)
  simpa using this
 have hr:iZ s.data.toList i (⟨i,0,i,⟨#[]⟩,⟨#[]⟩,0,0,false,false,0,0⟩:Rd)=⟨i+(gL t).length,4,i,⟨#[]⟩,⟨t.toArray⟩,0,0,false,false,0,0⟩:=by
  unfold iZ;rw[hd,wN post t _ _];simp only[List.nil_append];rw[show i+2+(t.flatMap eD).length+1=i+(gL t).length by omega]
 rw[hq] at hL;rw[tQ hL gc];have hp:Lib.hasPrefix (120 :: 34 :: (t.flatMap eD++34 :: post)) [120,34]=true:=by simp[rP,List.isPrefixOf]
 simp only[show(120:UInt8).toNat=120 from rfl,show ¬ (120:Nat)=34 by decide,if_false,hp,and_self,if_true,hr,hx,wM]
/-! ### numbers -/
def pB (i:Nat) (z:List UInt8) (n sc:Int) (q:Bool × Bool):Rd:=⟨i+z.length,2,i,⟨z.toArray⟩,⟨#[]⟩,n,sc,q.1,q.2,0,0⟩
theorem aKn {c:UInt8} (h:bD c=true\/c=45):spC c=false/\c.toNat≠34/\c.toNat≠120/\mP c=false/\(bD c||c.toNat==45)=true:=by
 rcases h with h | rfl
 ·have h':=h;unfold bD at h';simp only[Bool.and_eq_true,decide_eq_true_eq] at h';refine⟨by unfold spC;simp;omega,by omega,by omega,by unfold mP;simp;omega,by rw[h];rfl⟩
 ·decide
theorem aM2 {s:ByteArray} {i:Nat} {sg ds tl post:List UInt8} {q:Bool × Bool} {n:Int} {sc:Nat} (hL:s.data.toList.drop i=sg++(ds++(tl++post))) (hsg:sg=[]\/sg=[45]) (hne:ds≠[]) (hds:∀x∈ds,bD x=true)
 (htl:(tl=[]/\q=(false,false))\/(tl=[100]/\q=(true,true))\/∃d2,tl=46 :: d2/\d2≠[]/\(∀x∈d2,bD x=true)/\q=(true,false))
 (hpost:∀c,post.head?=some c->bD c=false/\c≠46/\c≠100) (hp:kF (Lib.trimSuffix (sg++(ds++tl)) [100])=(n,sc,0)) (r:Rd) (hr:r.e=0) :
 iN s.data.toList s i r={ r with nx:=i+(sg++(ds++tl)).length,d:=q.1,x:=q.2,k:=2,n:=n,sc:=sc }:=by
 have h0:(sg=[45]/\s.data.toList[i]?=some 45)\/(sg=[]/\s.data.toList[i]?≠some 45):=by
  rcases hsg with e | e
  ·right;refine⟨e,?_⟩;rw[eT,hL,e];cases ds with
   | nil=>exact absurd rfl hne
   | cons c ds =>
     intro h;simp only[List.nil_append,List.cons_append,List.head?_cons,Option.some.injEq] at h;have:=hds c (List.mem_cons_self ..);rw[h] at this;exact absurd this gc
  ·left;refine⟨e,?_⟩;rw[eT,hL,e];rfl
 have hf:(if s.data.toList[i]?=some 45 then i+1 else i)=i+sg.length:=by
  rcases h0 with ⟨e,h⟩ | ⟨e,h⟩
  ·rw[if_pos h,e];rfl
  ·rw[if_neg h,e];rfl
 have hd1:=aN hL;have hhd:∀c,(tl++post).head?=some c->bD c=false:=by
  intro c hc;rcases htl with ⟨e,_⟩ | ⟨e,_⟩ | ⟨d2,e,_⟩
  ·rw[e,List.nil_append] at hc;exact(hpost c hc).1
  ·rw[e] at hc;simp at hc;subst hc;decide
  ·rw[e] at hc;simp at hc;subst hc;decide
 have htq:=uF hd1 hds hhd;have hd2:=aN hd1;have hnz:0<ds.length:=by cases ds with | nil=>exact absurd rfl hne | cons c l=>simp
 have hz:s.data.toList.drop i=(sg++(ds++tl))++post:=by rw[hL];simp
 have hx:=gB hz;unfold iN;dsimp only;rw[hf,htq,if_neg ga];have key:(if s.data.toList[i+sg.length+ds.length]?=some 46/\(s.data.toList[i+sg.length+ds.length+1]?.any bD)=true then (bL s.data.toList (i+sg.length+ds.length+1) bD,true,false) else if s.data.toList[i+sg.length+ds.length]?=some 100 then (i+sg.length+ds.length+1,true,true) else (i+sg.length+ds.length,false,false))=(i+(sg++(ds++tl)).length,q.1,q.2):=by
  rcases htl with ⟨e,hq⟩ | ⟨e,hq⟩ | ⟨d2,e,hn2,hd2',hq⟩
  ·rw[e,List.nil_append] at hd2;rw[if_neg (by rw[eT,hd2];intro h;exact(hpost _ h.1).2.1 rfl),if_neg (by rw[eT,hd2];intro h;exact(hpost _ h).2.2 rfl),e,hq];simp;omega
  ·rw[e] at hd2;rw[if_neg (by rw[eT,hd2];intro h;simp at h),if_pos (by rw[eT,hd2];rfl),e,hq];simp;omega
  ·rw[e] at hd2;have hd3:s.data.toList.drop (i+sg.length+ds.length+1)=d2++post:=aN (a:=[46]) (by rw[hd2];rfl);have hr2:=uF hd3 hd2' (fun c hc=>(hpost c hc).1);have hany:(s.data.toList[i+sg.length+ds.length+1]?.any bD)=true:=by
    rw[eT,hd3];cases d2 with
    | nil=>exact absurd rfl hn2
    | cons c l=>simp only[List.cons_append,List.head?_cons,Option.any_some];exact hd2' c (List.mem_cons_self ..)
   rw[if_pos ⟨by rw[eT,hd2];rfl,hany⟩,hr2,e,hq];simp;omega
 rw[key];dsimp only;rw[hx];dsimp only;rw[hp];simp
theorem aAj {s:ByteArray} {i:Nat} {sg ds tl post:List UInt8} {q:Bool × Bool} {n:Int} {sc:Nat} (hL:s.data.toList.drop i=sg++(ds++(tl++post))) (hsg:sg=[]\/sg=[45]) (hne:ds≠[]) (hds:∀x∈ds,bD x=true)
 (htl:(tl=[]/\q=(false,false))\/(tl=[100]/\q=(true,true))\/∃d2,tl=46 :: d2/\d2≠[]/\(∀x∈d2,bD x=true)/\q=(true,false))
 (hpost:∀c,post.head?=some c->bD c=false/\c≠46/\c≠100) (hp:kF (Lib.trimSuffix (sg++(ds++tl)) [100])=(n,sc,0)):tok s i=pB i (sg++(ds++tl)) n sc q:=by
 have hz:s.data.toList.drop i=(sg++(ds++tl))++post:=by rw[hL];simp
 have hx:=gB hz;obtain⟨c,r,hc,hcd⟩:∃c r,sg++(ds++(tl++post))=c :: r/\(bD c=true\/c=45):=by
  rcases hsg with e | e
  ·cases ds with
   | nil=>exact absurd rfl hne
   | cons c ds=>exact⟨c,_,by rw[e];rfl,.inl (hds c (List.mem_cons_self ..))⟩
  ·exact⟨45,_,by rw[e];rfl,.inr rfl⟩
 obtain⟨h1,h2,h3,h4,h5⟩:=aKn hcd;have hr:=aM2 hL hsg hne hds htl hpost hp (⟨i,0,i,⟨#[]⟩,⟨#[]⟩,0,0,false,false,0,0⟩:Rd) rfl;rw[hc] at hL;rw[tQ hL h1];simp only[h2,h3,h4,h5,if_false,if_true,false_and,Bool.false_eq_true,hr,hx,pB]
end
section
open Go Go.RowKit Go.Shelf
/-! ### decimals -/
theorem tN (l:List UInt8):∀k:Nat,Lib.parseUint10 0 (List.replicate k 48++l)=Lib.parseUint10 0 l
 | 0=>rfl
 | k+1=>by
   rw[List.replicate_succ,List.cons_append,Lib.parseUint10,if_pos gc,if_neg gc,if_neg gc];exact tN l k
theorem vX (c:UInt8):bD c=true ↔ 48<=c.toNat/\c.toNat<=57:=by unfold bD;simp
def kG (n:Int):List UInt8:=if n<0 then [45] else []
def dW (m s:Nat):List UInt8:=List.replicate (s+1-(Lib.decDigits m).length) 48++Lib.decDigits m
theorem nL (m s:Nat):∀x∈dW m s,bD x=true:=by
 intro x hx;rcases List.mem_append.1 hx with h | h
 ·rw[(List.mem_replicate.1 h).2];decide
 ·exact(vX x).2 (cQ m x h)
theorem lG (m:Nat):dW m 0=Lib.decDigits m:=by
 have:=jH m;have h:0<(Lib.decDigits m).length:=List.length_pos_iff.2 this;unfold dW;rw[show 0+1-(Lib.decDigits m).length=0 by omega];rfl
theorem qS (m s:Nat):s+1<=(dW m s).length/\(dW m s).length=(s+1-(Lib.decDigits m).length)+(Lib.decDigits m).length:=by
 unfold dW;rw[List.length_append,List.length_replicate];exact⟨by omega,rfl⟩
theorem dV (n:Int):cM n 0=kG n++dW n.natAbs 0:=by
 unfold cM kG fO;rw[lG];simp only[if_true];split<;>rfl
theorem aEq (n:Int) {s:Nat} (h:0<s):cM n s=(kG n++(dW n.natAbs s).take ((dW n.natAbs s).length-s))++46 :: (dW n.natAbs s).drop ((dW n.natAbs s).length-s):=by
 have hl:=(qS n.natAbs s).2;have:fO n.natAbs s=(dW n.natAbs s).take ((dW n.natAbs s).length-s)++46 :: (dW n.natAbs s).drop ((dW n.natAbs s).length-s):=by
  rw[hl];unfold fO;rw[if_neg ga];rfl
 unfold cM kG;rw[this];split<;>simp
theorem aF9 (n:Int) (s:Nat) (h:n.natAbs<9223372036854775808):Lib.atoiAll (kG n++dW n.natAbs s)=.ok n:=by
 have hu:Lib.parseUint10 0 (dW n.natAbs s)=.ok n.natAbs:=by
  unfold dW;rw[tN];exact aCs _ ga
 have hne:dW n.natAbs s≠[]:=by
  intro e;have:=(qS n.natAbs s).1;rw[e] at this;simp at this
 have ha:=nL n.natAbs s;obtain⟨z,hz⟩:=ez (dW n.natAbs s)
 rw[<-hz] at hu hne ha ⊢;unfold kG;by_cases hn:n<0
 ·rw[if_pos hn,List.singleton_append];unfold Lib.atoiAll Lib.parseMag;dsimp only;rw[if_pos (show UInt8.toNat 45=43\/UInt8.toNat 45=45 from .inr rfl),if_neg hne,hu];dsimp only;rw[if_neg (fun h=>h.1 rfl),if_neg ga,if_pos (show UInt8.toNat 45=45 from rfl)];congr 1;omega
 ·rw[if_neg hn,List.nil_append];cases z with
  | nil=>exact absurd rfl hne
  | cons c r =>
    have hc:=(vX c).1 (ha c (List.mem_cons_self ..));unfold Lib.atoiAll Lib.parseMag;dsimp only;rw[if_neg (show ¬ (c.toNat=43\/c.toNat=45) by omega),if_neg gd,hu];dsimp only;rw[if_neg ga,if_neg ga,if_neg ga];congr 1;omega
theorem aB0 {n:Int} {l:List UInt8} (h:∀x∈l,bD x=true) (c:UInt8) (hc:bD c=false) (h45:c≠45):(kG n++l).contains c=false:=by
 rw[<-Bool.not_eq_true,List.contains_iff_mem];intro hm;rcases List.mem_append.1 hm with h1 | h1
 ·unfold kG at h1;split at h1
  ·exact h45 (by simpa using h1)
  ·cases h1
 ·rw[h c h1] at hc;cases hc
theorem aIn {l a b:List UInt8} {f:Bool} {n:Int} {s:Nat} (h0:l≠[]) (hl:l.length<=17) (hc:Lib.cut l [46]=(a,b,f)) (ha:Lib.atoiAll (a++b)=.ok n) (hb:b.length=s) (hn:n.natAbs<=999999999999999) (hs:s<=12) (hd:cM n s=l) (hf:f=true->b≠[]):kF l=(n,s,0):=by
 have h1:dO (a++b)=n:=by unfold dO;rw[ha]
 have h2:cG (a++b)=true:=by unfold cG;rw[ha]
 have h3:eU n s=(l,0):=by unfold eU;rw[if_neg ga,hd]
 unfold kF;rw[if_neg h0,if_neg ga,hc];dsimp only;rw[h1,h2,hb,h3,if_neg];simp;exact hf
theorem vY (n:Int) (s:Nat) (hn:n.natAbs<=999999999999999) (hs:s<=12):kF (cM n s)=(n,s,0):=by
 have hz:=qS n.natAbs s;have h15:=bU n.natAbs 15 ga gc;have ha:=nL n.natAbs s;have hat:=aF9 n s ga;have hsg:(kG n).length<=1:=by unfold kG;split<;>simp
 by_cases h:s=0
 ·subst h;refine aIn (a:=cM n 0) (b:=[]) (f:=false) ?_ ?_ ?_ ?_ rfl hn hs rfl (fun h=>by cases h)
  ·rw[dV];intro e;have:=congrArg List.length e;rw[List.length_append,List.length_nil] at this;omega
  ·rw[dV,List.length_append];omega
  ·rw[dV];exact cut_no (aB0 ha 46 gc gc)
  ·rw[List.append_nil,dV];exact hat
 ·have hp:=aEq n (s:=s) ga;refine aIn (a:=kG n++(dW n.natAbs s).take ((dW n.natAbs s).length-s)) (b:=(dW n.natAbs s).drop ((dW n.natAbs s).length-s)) (f:=true) ?_ ?_ ?_ ?_ ?_ hn hs rfl ?_
  ·rw[hp];intro e;have:=congrArg List.length e;simp at this
  ·rw[hp];simp only[List.length_append,List.length_cons,List.length_take,List.length_drop];omega
  ·rw[hp];exact aNa (aB0 (fun x hx=>ha x (List.mem_of_mem_take hx)) 46 gc gc)
  ·rw[List.append_assoc,List.take_append_drop];exact hat
  ·rw[List.length_drop];omega
  ·intro _ e;have:=congrArg List.length e;rw[List.length_drop,List.length_nil] at this;omega
theorem aHx {l:List UInt8} (h:l.contains 100=false):Lib.trimSuffix l [100]=l:=by
 unfold Lib.trimSuffix;rw[if_neg];intro hs;unfold Lib.hasSuffix at hs;rw[List.isSuffixOf_iff_suffix] at hs;have hm:(100:UInt8)∈l:=hs.subset (List.mem_singleton.2 rfl);rw[<-List.contains_iff_mem,h] at hm;cases hm
theorem trim_d (l:List UInt8):Lib.trimSuffix (l++[100]) [100]=l:=by
 unfold Lib.trimSuffix;have hs:Lib.hasSuffix (l++[100]) [100]=true:=by
  unfold Lib.hasSuffix;rw[List.isSuffixOf_iff_suffix];exact List.suffix_append _ _
 rw[if_pos hs];simp
theorem aG5 (n:Int):kG n=[]\/kG n=[45]:=by unfold kG;split<;>simp
theorem zO (n:Int):Lib.itoa n=cM n 0:=by
 rw[dV,lG];unfold Lib.itoa kG;split
 ·rfl
 ·rw[List.nil_append,show n.toNat=n.natAbs by omega]
def aIt (post:List UInt8):Prop:=∀c,post.head?=some c->bD c=false/\c≠46/\c≠100
theorem tok_int {s:ByteArray} {i:Nat} {v:Int} {post:List UInt8} (hL:s.data.toList.drop i=Lib.itoa v++post) (hv:v.natAbs<=999999999999999) (hp:aIt post):tok s i=pB i (Lib.itoa v) v 0 (false,false):=by
 have hd:=vY v 0 hv gc;have hne:dW v.natAbs 0≠[]:=by rw[lG];exact jH _
 have ha:=nL v.natAbs 0;have ht:Lib.trimSuffix (kG v++(dW v.natAbs 0++[])) [100]=cM v 0:=by
  rw[List.append_nil,aHx (aB0 ha 100 gc gc),dV]
 have:=aAj (s:=s) (i:=i) (sg:=kG v) (ds:=dW v.natAbs 0) (tl:=[]) (post:=post) (q:=(false,false)) (n:=v) (sc:=0) (by rw[hL,zO,dV];simp) (aG5 v) hne ha (.inl ⟨rfl,rfl⟩) hp (by rw[ht,hd]);rw[this,zO,dV,List.append_nil];rfl
theorem aLm {s:ByteArray} {i:Nat} {v:Int} {post:List UInt8} (hL:s.data.toList.drop i=(cM v 0++[100])++post) (hv:v.natAbs<=999999999999999) (hp:aIt post):tok s i=pB i (cM v 0++[100]) v 0 (true,true):=by
 have hd:=vY v 0 hv gc;have hne:dW v.natAbs 0≠[]:=by rw[lG];exact jH _
 have ha:=nL v.natAbs 0;have ht:Lib.trimSuffix (kG v++(dW v.natAbs 0++[100])) [100]=cM v 0:=by
  rw[<-List.append_assoc,trim_d,dV]
 have:=aAj (s:=s) (i:=i) (sg:=kG v) (ds:=dW v.natAbs 0) (tl:=[100]) (post:=post) (q:=(true,true)) (n:=v) (sc:=0) (by rw[hL,dV];simp) (aG5 v) hne ha (.inr (.inl ⟨rfl,rfl⟩)) hp (by rw[ht,hd]);rw[this,dV,List.append_assoc];rfl
theorem tok_dec {s:ByteArray} {i:Nat} {v:Int} {sc:Nat} {post:List UInt8} (hL:s.data.toList.drop i=cM v sc++post) (hv:v.natAbs<=999999999999999) (h0:0<sc) (h12:sc<=12) (hp:aIt post):tok s i=pB i (cM v sc) v sc (true,false):=by
 have hd:=vY v sc hv h12;have hz:=qS v.natAbs sc;have ha:=nL v.natAbs sc;have hpos:=aEq v h0;have e:kG v++((dW v.natAbs sc).take ((dW v.natAbs sc).length-sc)++46 :: (dW v.natAbs sc).drop ((dW v.natAbs sc).length-sc))=cM v sc:=by rw[hpos,List.append_assoc]
 have h100:(cM v sc).contains 100=false:=by
  rw[hpos,<-Bool.not_eq_true,List.contains_iff_mem];intro hm;rcases List.mem_append.1 hm with h1 | h1
  ·have:=aB0 (n:=v) (fun x hx=>ha x (List.mem_of_mem_take hx):∀x∈(dW v.natAbs sc).take ((dW v.natAbs sc).length-sc),bD x=true) 100 gc gc;rw[<-List.contains_iff_mem,this] at h1;cases h1
  ·rcases List.mem_cons.1 h1 with h2 | h2
   ·exact absurd h2 gc
   ·have:=ha 100 (List.mem_of_mem_drop h2);exact absurd this gc
 have:=aAj (s:=s) (i:=i) (sg:=kG v) (ds:=(dW v.natAbs sc).take ((dW v.natAbs sc).length-sc)) (tl:=46 :: (dW v.natAbs sc).drop ((dW v.natAbs sc).length-sc)) (post:=post) (q:=(true,false)) (n:=v) (sc:=sc) (by rw[hL,<-e];simp) (aG5 v)
  (by intro h;have:=congrArg List.length h;rw[List.length_take,List.length_nil] at this;omega) (fun x hx=>ha x (List.mem_of_mem_take hx))
  (.inr (.inr ⟨_,rfl,by intro h;have:=congrArg List.length h;rw[List.length_drop,List.length_nil] at this;omega,fun x hx=>ha x (List.mem_of_mem_drop hx),rfl⟩)) hp (by rw[e,aHx h100,hd])
 rw[this,e]
/-! ### the calendar -/
def aJ0 (n:Nat) (l:List UInt8):Nat:=l.foldl (fun n c=>10 * n+(c.toNat-48)) n
theorem aDb (r:List UInt8):∀(l:List UInt8) (n:Nat),(∀x∈l,bD x=true)->gU l.length n (l++r)=some (aJ0 n l,r)
 | [],n,_=>rfl
 | c :: l,n,h=>by
   rw[List.length_cons,List.cons_append,gU,if_pos (h c (List.mem_cons_self ..)),aDb r l _ (fun x hx=>h x (List.mem_cons_of_mem _ hx))];rfl
theorem aLg (v:Nat):aJ0 0 (Lib.decDigits v)=v:=by
 induction v using Nat.strongRecOn with
 | _ v ih =>
   rw[Lib.decDigits];split
   ·rename_i h;simp only[aJ0,List.foldl_cons,List.foldl_nil,kQ v h];omega
   ·rename_i h;have:=ih (v / 10) ga;unfold aJ0 at this ⊢;rw[List.foldl_append,this];simp only[List.foldl_cons,List.foldl_nil,kQ _ (show v % 10<10 by omega)];omega
theorem tL (l:List UInt8):∀k:Nat,aJ0 0 (List.replicate k 48++l)=aJ0 0 l
 | 0=>rfl
 | k+1=>by
   rw[List.replicate_succ,List.cons_append];exact tL l k
theorem aDc (k v:Nat) (r:List UInt8) (hk:0<k) (hv:v<10 ^ k):gU k 0 (dS k v++r)=some (v,r):=by
 have hl:=cV k v hv hk;have ha:∀x∈dS k v,bD x=true:=by
  intro x hx;rcases List.mem_append.1 hx with h | h
  ·rw[(List.mem_replicate.1 h).2];decide
  ·exact(vX x).2 (cQ v x h)
 have:=aDb r (dS k v) 0 ha;rw[hl] at this;rw[this];unfold dS;rw[tL,aLg]
theorem dZ (m:List UInt8) (k v:Nat) (ms:List (List UInt8 × Nat)) (r:List UInt8) (hk:0<k) (hv:v<10 ^ k):bF ((m,k) :: ms) (m++(dS k v++r))=(bF ms r).map (fun q=>(v :: q.1,q.2)):=by
 have hp:Lib.hasPrefix (m++(dS k v++r)) m=true:=by
  rw[rP,List.isPrefixOf_iff_prefix];exact List.prefix_append _ _
 rw[bF,hp,List.drop_left,aDc k v r hk hv];dsimp only;rw[if_neg gc];cases bF ms r with
 | none=>rfl
 | some q=>rfl
theorem qD (y:Nat):∀(f m n:Nat),n<aZ y f m->m<=(cA y f m n).1/\(cA y f m n).2<bE y (cA y f m n).1/\aZ y ((cA y f m n).1-m) m+(cA y f m n).2=n
 | 0,m,n,h=>by simp[aZ] at h
 | f+1,m,n,h=>by
   simp only[cA];simp only[aZ] at h;by_cases hm:bE y m<=n
   ·rw[if_pos hm];have ih:=qD y f (m+1) (n-bE y m) ga;obtain⟨h1,h2,h3⟩:=ih;refine⟨by omega,h2,?_⟩;obtain⟨j,hj⟩:∃j,(cA y f (m+1) (n-bE y m)).1-m=j+1:=⟨(cA y f (m+1) (n-bE y m)).1-m-1,by omega⟩
    rw[hj,aZ];rw[show(cA y f (m+1) (n-bE y m)).1-(m+1)=j by omega] at h3;omega
   ·rw[if_neg hm];dsimp only;rw[show m-m=0 by omega,aZ];exact⟨Nat.le_refl _,by omega,by omega⟩
theorem aA1 (n:Nat) (h:n<=3652058):cY (iF n) (tA n) (tB n)=((n:Int)-719162,0):=by
 obtain⟨h1,h2,h3⟩:=aA6 n h;have hall:=qV n h;rw[pN _ h1.1] at h3;have hs:=qD (iF n) 12 1 (n-eA (iF n)) ga;have em:tA n=(cA (iF n) 12 1 (n-eA (iF n))).1:=rfl;have ed:tB n=(cA (iF n) 12 1 (n-eA (iF n))).2+1:=rfl;rw[<-em] at hs;unfold cY;rw[if_neg ga];congr 1;omega
theorem aL5 (n:Nat) (h:n<=3652058):gM (bY n)=((n:Int)-719162,0):=by
 have hall:=qV n h;have e:bY n=[]++(dS 4 (iF n)++([45]++(dS 2 (tA n)++([45]++(dS 2 (tB n)++[]))))):=by simp[bY]
 unfold gM;rw[e,dZ _ _ _ _ _ gc ga,dZ _ _ _ _ _ gc ga,dZ _ _ _ _ _ gc ga];exact aA1 n h
theorem aL3 (n:Nat) (h:n<=315537897599999):iV (cH n)=((n:Int)-62135596800000,0):=by
 have hd:n / 86400000<=3652058:=by omega
 have hall:=qV _ hd;obtain⟨r,hr⟩:=ez (n % 86400000)
 have hr':r<86400000:=by omega
 have e:cH n=[]++(dS 4 (iF (n / 86400000))++([45]++(dS 2 (tA (n / 86400000))++([45]++(dS 2 (tB (n / 86400000))++([84]++(dS 2 (r / 1000 / 3600)++([58]++(dS 2 (r / 1000 / 60 % 60)++([58]++(dS 2 (r / 1000 % 60)++((if r % 1000=0 then [] else 46 :: dS 3 (r % 1000))++[90])))))))))))):=by
  unfold cH bY rV;rw[<-hr];simp
 unfold iV;rw[e,dZ _ _ _ _ _ gc ga,dZ _ _ _ _ _ gc ga,dZ _ _ _ _ _ gc ga,dZ _ _ _ _ _ gc ga,dZ _ _ _ _ _ gc ga,dZ _ _ _ _ _ gc ga];simp only[bF,Option.map_some]
 have fin:∀z:Nat,z=r % 1000->(if (cY (iF (n / 86400000)) (tA (n / 86400000)) (tB (n / 86400000))).2≠0\/23<r / 1000 / 3600\/59<r / 1000 / 60 % 60\/59<r / 1000 % 60 then ((0:Int),(17:Int)) else ((cY (iF (n / 86400000)) (tA (n / 86400000)) (tB (n / 86400000))).1 * 86400000+(((60 * (r / 1000 / 3600)+r / 1000 / 60 % 60) * 60+r / 1000 % 60) * 1000+z:Nat),0))=((n:Int)-62135596800000,0):=by
  intro z hz;rw[aA1 _ hd];dsimp only;rw[if_neg ga];congr 1;omega
 by_cases h0:r % 1000=0
 ·rw[if_pos h0,List.nil_append,if_neg gc];dsimp only;rw[if_neg gd];exact fin 0 h0.symm
 ·rw[if_neg h0,List.cons_append,if_pos (by simp[rP,List.isPrefixOf]),List.drop_succ_cons,List.drop_zero,aDc 3 (r % 1000) [90] gc ga];dsimp only;rw[if_neg h0];dsimp only;rw[if_neg gd];exact fin _ rfl
/-! ### digits and marks are ASCII -/
theorem sT {l:List UInt8} (h:∀x∈l,x.toNat<128):Lib.validD l=true:=by
 rw[Lib.validD_ascii l.length l (fun b hb=>h b (List.mem_of_mem_take hb)),List.drop_length];rfl
theorem iH (k v:Nat):∀x∈dS k v,x.toNat<128:=by
 intro x hx;rcases List.mem_append.1 hx with h | h
 ·rw[(List.mem_replicate.1 h).2];decide
 ·have:=cQ v x h;omega
theorem fP {c:UInt8} {l:List UInt8} (hc:c.toNat<128) (h:∀x∈l,x.toNat<128):∀x∈c :: l,x.toNat<128:=by
 intro x hx;rcases List.mem_cons.1 hx with rfl | hx
 ·exact hc
 ·exact h x hx
theorem iI {a b:List UInt8} (ha:∀x∈a,x.toNat<128) (hb:∀x∈b,x.toNat<128):∀x∈a++b,x.toNat<128:=by
 intro x hx;rcases List.mem_append.1 hx with h | h
 ·exact ha x h
 ·exact hb x h
theorem aAc:∀x∈([]:List UInt8),x.toNat<128:=fun x h=>by cases h
theorem wV (n:Nat):∀x∈bY n,x.toNat<128 :=
 iI (iH _ _) (fP gc (iI (iH _ _) (fP gc (iH _ _))))
theorem aHs (n:Nat):∀x∈cH n,x.toNat<128:=by
 unfold cH rV;refine iI (wV _) (iI (iI (fP gc (iI (iH _ _) (fP gc (iI (iH _ _) (fP gc (iH _ _)))))) ?_) (fP gc aAc));split
 ·exact aAc
 ·exact fP gc (iH _ _)
end
section
open Go Go.RowKit
def oN (n:Nat):ByteArray:=⟨(Lib.decDigits n).toArray⟩
theorem decB_itoa (n:Nat):aF (n:Int)=oN n:=by unfold aF oN;rw[Lib.itoa_nonneg]
theorem aEo (n:Nat) (h:(n:Int)<=9223372036854775807):(oN n).size<=21:=by
 have:=Lib.itoa_length_le (n:Int) ga h;rw[Lib.itoa_nonneg] at this;exact this
theorem tH (w:World) (g:Nat) (x:Int) (h:w.heap[g]?=some (.cells #[.int .u8 x] 5)):(convert 72 9 (.slice (some ⟨g,0,none⟩) 1 1)).run Tryz.prog w=.ok (.string ⟨#[UInt8.ofNat x.toNat]⟩) w :=
 run_convert_bytes_arg (P:=Tryz.prog) w 72 5 Tryz.underlying72 Tryz.underlying5 g 0 1 1 [x] rfl (fun i hi=>by
  obtain rfl:i=0:=by omega
  exact aA h 0) 9 Tryz.underlying9
theorem aIp (w:World) (x:Int):(convert 72 9 (.slice (some ⟨w.heap.size,0,none⟩) 1 1)).run Tryz.prog (w.alloc (.cells #[.int .u8 x] 5))=.ok (.string ⟨#[UInt8.ofNat x.toNat]⟩) (w.alloc (.cells #[.int .u8 x] 5)) :=
 tH _ _ x (heap_alloc_new w _)
end
section
open Go Go.RowKit
end
section
open Go Go.RowKit Go.Shelf
def IfCell (g:Nat) (w:World):Prop:=∃ev,w.cell? ⟨g,0,none⟩=some ev/\(ev=.nilIface\/∃te pe,ev=.iface te pe)
def NumVars (w:World):Prop:=IfCell 4 w/\IfCell 5 w/\∃m,w.cell? ⟨2,0,none⟩=some (I6 m)
theorem pK {w w':World} {g:Nat} {v:Value} (hb:BB w w') (h:w.cell? ⟨g,0,none⟩=some v):w'.cell? ⟨g,0,none⟩=some v:=by
 have hlt:g<w.heap.size:=by
  rcases Nat.lt_or_ge g w.heap.size with h1 | h1
  ·exact h1
  ·exfalso;unfold World.cell? at h;simp only[Array.getElem?_eq_none h1] at h;cases h
 exact(World.cell?_of_block (w:=w) (a:=⟨g,0,none⟩) (hb.block g hlt)).trans h
theorem IfCell.below {g:Nat} {w w':World} (h:IfCell g w) (hb:BB w w'):IfCell g w':=h.elim fun ev h=>⟨ev,pK hb h.1,h.2⟩
theorem NumVars.below {w w':World} (h:NumVars w) (hb:BB w w'):NumVars w':=⟨h.1.below hb,h.2.1.below hb,h.2.2.elim fun m h=>⟨m,pK hb h⟩⟩
theorem below_drewN (w:World) (n:Nat):BB w (w.drewN n):=⟨rfl,rfl,rfl,Nat.le_refl _,fun _ _=>rfl⟩
theorem aI0 (a b:ByteArray):(a.toList==b.toList)=decide (a.data.toList=b.data.toList):=by
 rw[ByteArray.toList_eq,ByteArray.toList_eq,Bool.eq_iff_iff];simp
theorem aFb (s:ByteArray) (hlim:s.size<=281474976710656) (h1:∀v,Lib.atoiAll s.data.toList≠.ok v) (h2:Lib.atoiAll s.data.toList≠.range) (ev:Value) (w:World) (hv:w.cell? ⟨4,0,none⟩=some ev) (hev:ev=.nilIface\/∃te pe,ev=.iface te pe) :
 CP 148 #[.string s] w fun e w'=>∃N,e=.returned (.tuple #[I6 (0),.iface 311 (.pointer (some ⟨N,0,none⟩))])/\w.heap.size<=N/\w'.heap[N]?=some (.cells #[.string ⟨#[65,116,111,105]⟩,.string s,ev] 337 (0,0))/\BB w w':=by
 cases hx:Lib.atoiAll s.data.toList
 ·exact absurd hx (h1 _)
 ·exact Any.strconv_Atoi_syntax Tryz.laysC172 s hlim hx ev w hv hev
 ·exact absurd hx h2
theorem oC (s:ByteArray) (k:Nat) (h:k<s.size):s.data.toList.drop k=s[k] :: s.data.toList.drop (k+1):=by
 have h':k<s.data.toList.length:=h;rw[List.drop_eq_getElem_cons h'];rfl
end
end Go.Proofs.YtmgpghoamapfgaaGreatDoor
