/- A part. -/
import Derived.Test.YtoodnaghjpkjfaaGreatDoorSE5Mrg
import Derived.Lib.Bytealg
import Derived.Lib.ValidU
import Derived.Lib.RuneBytes
import Derived.Lib.ValidLaws
namespace Go.Proofs.YtoodnaghjpkjfaaGreatDoor
set_option linter.unusedVariables false
set_option linter.unusedSimpArgs false
open Go Go.RowKit Go.Shelf
def uG (y:Nat):Bool:=(y % 4==0)&&(!(y % 100==0)||(y % 400==0))
def qM (m:Nat):Nat:=[31,28,31,30,31,30,31,31,30,31,30,31].getD (m-1) 0
def bJ (y m:Nat):Nat:=if m=2/\uG y=true then 29 else qM m
def eB (y:Nat):Nat:=365 * (y-1)+(y-1) / 4-(y-1) / 100+(y-1) / 400
def eM (n:Nat):Nat->Nat
 | 0=>0
 | y+1=>if n<eB (y+1) then eM n y else y+1
def cK (y:Nat):Nat->Nat->Nat->Nat × Nat
 | 0,m,n=>(m,n)
 | f+1,m,n=>if bJ y m<=n then cK y f (m+1) (n-bJ y m) else (m,n)
def bC (y:Nat):Nat->Nat->Nat
 | 0,_=>0
 | f+1,m=>bJ y m+bC y f (m+1)
def sN (n:Nat):Nat:=min (n / 365+1) 9999
def iU (n:Nat):Nat:=eM n (sN n)
def uM (n:Nat):Nat × Nat:=cK (iU n) 12 1 (n-eB (iU n))
def uW (n:Nat):Nat:=(uM n).1
def uX (n:Nat):Nat:=(uM n).2+1
def dS (k n:Nat):List UInt8:=List.replicate (k-(Lib.decDigits n).length) 48++Lib.decDigits n
def cF (n:Nat):List UInt8:=dS 4 (iU n)++45 :: (dS 2 (uW n)++45 :: dS 2 (uX n))
def tP (r:Nat):List UInt8:=84 :: (dS 2 (r / 1000 / 3600)++58 :: (dS 2 (r / 1000 / 60 % 60)++58 :: dS 2 (r / 1000 % 60)))++(if r % 1000=0 then [] else 46 :: dS 3 (r % 1000))++[90]
def cO (n:Nat):List UInt8:=cF (n / 86400000)++tP (n % 86400000)
theorem yH (n:Nat) (h:n<=3652058):n<eB (sN n+1):=by
 unfold sN eB;simp only[Nat.add_sub_cancel];by_cases h1:n / 365+1<=9999
 ·rw[Nat.min_eq_left h1];have h2:(n / 365+1) / 100<=(n / 365+1) / 4:=Nat.div_le_div_left gb gb;have h3:n<365 * (n / 365+1):=ga
  generalize n / 365+1=y at h2 h3 ⊢;omega
 ·rw[Nat.min_eq_right ga];simp;omega
theorem zX (n:Nat):1<=sN n/\sN n<=9999:=by unfold sN;omega
theorem yI:eB 1=0:=rfl
theorem aDb (n y:Nat) (h:n<eB y) (h1:1<=y):eM n (y-1)=eM n y:=by
 obtain⟨z,rfl⟩:∃z,y=z+1:=⟨y-1,by omega⟩
 simp only[Nat.add_sub_cancel,eM,h,je]
theorem aDa (n y:Nat) (h:¬ n<eB y) (h1:1<=y):eM n y=y:=by
 obtain⟨z,rfl⟩:∃z,y=z+1:=⟨y-1,by omega⟩
 simp only[eM,h,kz]
theorem d4 (x:Nat):(x+1) / 4=x / 4+if (x+1) % 4=0 then 1 else 0:=by split<;>omega
theorem d100 (x:Nat):(x+1) / 100=x / 100+if (x+1) % 100=0 then 1 else 0:=by split<;>omega
theorem d400 (x:Nat):(x+1) / 400=x / 400+if (x+1) % 400=0 then 1 else 0:=by split<;>omega
theorem rA (y:Nat) (h:1<=y):eB (y+1)=eB y+bC y 12 1:=by
 have e:bC y 12 1=if uG y=true then 366 else 365:=by
  by_cases hl:uG y=true<;>simp[bC,bJ,qM,hl]
 rw[e];obtain⟨x,rfl⟩:∃x,y=x+1:=⟨y-1,by omega⟩
 unfold eB;simp only[Nat.add_sub_cancel];have hl:uG (x+1)=true ↔ ((x+1) % 4=0/\(¬ (x+1) % 100=0\/(x+1) % 400=0)):=by unfold uG;simp
 have h1:(x+1) % 400=0->(x+1) % 100=0:=λh=>by omega
 have h2:(x+1) % 100=0->(x+1) % 4=0:=λh=>by omega
 have h3:x / 100<=x / 4:=Nat.div_le_div_left gb gb;rw[d4,d100,d400];generalize x / 4=a at *;generalize x / 100=b at *;generalize x / 400=c at *;simp only[hl];by_cases k4:(x+1) % 4=0<;>by_cases aa:(x+1) % 100=0<;>by_cases ab:(x+1) % 400=0<;>simp only[k4,aa,ab] at h1 h2 ⊢ <;> simp at h1 h2 ⊢ <;> omega
theorem wU (y m:Nat):bJ y m<=31:=by
 unfold bJ qM;split
 ·decide
 ·rcases m with _|_|_|_|_|_|_|_|_|_|_|_|_|m<;>simp
theorem oA (y:Nat):∀(f m n:Nat),n<bC y f m->m<=(cK y f m n).1/\(cK y f m n).1<m+f/\(cK y f m n).2<31
 | 0,m,n,h=>by simp[bC] at h
 | f+1,m,n,h=>by
   simp only[cK];simp only[bC] at h;by_cases hm:bJ y m<=n
   ·rw[gw hm];have:=oA y f (m+1) (n-bJ y m) ga;omega
   ·rw[f9 hm];have:=wU y m;simp;omega
theorem bY (n k:Nat) (h:n<10 ^ k) (hk:0<k):(Lib.decDigits n).length<=k:=by
 induction k generalizing n with
 | zero=>omega
 | succ k ih =>
   rw[Lib.decDigits];split
   ·simp
   ·rename_i h10;have aa:0<k:=by rcases k with _|k;(· simp at h;omega);omega
    have:=ih (n / 10) (by rw[Nat.pow_succ] at h;omega) aa;simp;omega
theorem cZ (k n:Nat) (h:n<10 ^ k) (hk:0<k):(dS k n).length=k:=by
 have:=bY n k h hk;unfold dS;simp;omega
theorem aIg (n:Nat) (h:n<=3652058) (hy:1<=iU n/\iU n<=9999) (h1:eB (iU n)<=n) (h2:n<eB (iU n+1)):1<=uW n/\uW n<=12/\1<=uX n/\uX n<=31:=by
 rw[rA _ hy.1] at h2;have:=oA (iU n) 12 1 (n-eB (iU n)) ga;unfold uW uX uM;omega
section
def kT (c:Nat):UInt8:=if c<10 then UInt8.ofNat (48+c) else UInt8.ofNat (87+c)
def kZ (n:Nat):List UInt8:=if n<16 then [kT n] else [kT (n / 16),kT (n % 16)]
def dP (c:UInt8):List UInt8 :=
 if c.toNat=34\/c.toNat=92 then [92,c] else if c.toNat=10 then [92,110] else if c.toNat=13 then [92,114] else if c.toNat=9 then [92,116]
 else if c.toNat<32\/c.toNat=127 then 92 :: 117 :: 123 :: (kZ c.toNat++[125]) else [c]
def aQ (s:List UInt8):List UInt8:=34 :: (s.flatMap dP++[34])
def fA (c:UInt8):List UInt8:=[kT (c.toNat / 16),kT (c.toNat % 16)]
def gV (s:List UInt8):List UInt8:=120 :: 34 :: (s.flatMap fA++[34])
def iS (m s:Nat):List UInt8 :=
 if s=0 then Lib.decDigits m else
  (List.replicate (s+1-(Lib.decDigits m).length) 48++Lib.decDigits m).take ((s+1-(Lib.decDigits m).length)+(Lib.decDigits m).length-s)++46 ::
  (List.replicate (s+1-(Lib.decDigits m).length) 48++Lib.decDigits m).drop ((s+1-(Lib.decDigits m).length)+(Lib.decDigits m).length-s)
def dB (n:Int) (s:Nat):List UInt8:=if n<0 then 45 :: iS n.natAbs s else iS n.natAbs s
def eF (k i s:Int) (t:List UInt8):List UInt8 :=
 if k=0 then [110,117,108,108] else if k=1 then (if i=1 then [116,114,117,101] else [102,97,108,115,101]) else if k=2 then Lib.itoa i
 else if k=3 then (if s=0 then dB i s.toNat++[100] else dB i s.toNat) else if k=4 then aQ t else if k=5 then gV t
 else if k=6 then 100 :: 97 :: 116 :: 101 :: 32 :: aQ (cF (i+719162).toNat) else 116 :: 105 :: 109 :: 101 :: 32 :: aQ (cO (i+62135596800000).toNat)
def dZ:List BA->List (List UInt8)->List (List UInt8)
 | n :: ns,x :: xs=>(n.data.toList++58 :: 32 :: x) :: dZ ns xs
 | _,_=>[]
mutual
def txt:Val->List UInt8
 | .mk k i s t l ns fs=>if k=8 then 91 :: (Lib.join (bF l) [44,32]++[93]) else if k=9 then 123 :: (Lib.join (dZ ns (bF fs)) [44,32]++[125])
    else if k=10 then t.data.toList++40 :: ((bF l).headD []++[41]) else eF k i s t.data.toList
def bF:List Val->List (List UInt8)
 | []=>[]
 | d :: l=>txt d :: bF l
end
theorem jB:∀l:List Val,bF l=l.map txt
 | []=>rfl
 | d :: l=>by rw[bF,jB l];rfl
def jO (d:Val):Prop:=1<=aAz d/\aAz d<=10/\nM d=0
theorem aIh {p:Nat} {x:Int × Val} (h:eP p x=0):jO x.2:=by
 unfold eP at h;split at h
 ·cases h
 split at h
 ·cases h
 split at h
 ·cases h
 split at h
 ·cases h
 split at h
 ·cases h
 rename_i hk _;exact⟨by omega,by omega,h⟩
theorem aFm:∀(xs:List (Int × Val)) (p:Nat),fB p xs=0->∀x∈xs,jO x.2
 | y :: ys,p,h,x,hx=>by
   simp only[fB] at h;by_cases h1:eP (p+1) y≠0
   ·rw[gw h1] at h;exact absurd h h1
   ·rw[f9 h1] at h;rcases List.mem_cons.1 hx with rfl|hx
    ·exact aIh (Decidable.not_not.1 h1)
    ·exact aFm ys (p+1) h x hx
def Good (n:Nat) (d:Val):Prop:=∃lvl,(jY lvl d).length<=n/\∀x∈jY lvl d,jO x.2
theorem good_of {d:Val} (h:bG d=0):Good 4096 d:=⟨1,aBj _ h,aFm _ _ h⟩
theorem Good.self {n:Nat} {d:Val} (h:Good n d):jO d:=by
 obtain⟨lvl,_,h⟩:=h;rw[mX] at h;exact h _ (iw ..)
theorem aKc {lvl:Int} {l:List Val} {d:Val} (h:d∈l):(∀x∈jY lvl d,x∈cD lvl l)/\(jY lvl d).length<=(cD lvl l).length:=by
 induction l with
 | nil=>cases h
 | cons e l ih =>
   rcases List.mem_cons.1 h with rfl|h
   ·exact⟨λx hx=>by rw[cD];exact List.mem_append_left _ hx,by rw[cD,ik];omega⟩
   ·exact⟨λx hx=>by rw[cD];exact List.mem_append_right _ ((ih h).1 x hx),by rw[cD,ik];have:=(ih h).2;omega⟩
theorem Good.kid {n:Nat} {d d':Val} (h:Good n d) (hd:d'∈gH d):Good n d':=by
 obtain⟨lvl,hn,h⟩:=h;rw[mX] at h hn;have:=aKc (lvl:=wrap64 (lvl+1)) hd;simp only[im] at hn;exact⟨wrap64 (lvl+1),by omega,λx hx=>h x (ja _ (this.1 x hx))⟩
theorem xG (n:Nat):(kZ n).length<=2:=by unfold kZ;split<;>simp
theorem aF8 (c:UInt8):(dP c).length<=6:=by
 have:=xG c.toNat
 unfold dP
 repeat' split
 all_goals simp
 omega
theorem jJ (f:UInt8->List UInt8) (k:Nat) (hf:∀c,(f c).length<=k):∀l:List UInt8,(l.flatMap f).length<=k * l.length
 | []=>by simp
 | c :: l=>by
   have:=jJ f k hf l;have:=hf c;simp only[nh,ik,im,Nat.mul_add];omega
theorem iK (l:List UInt8):(aQ l).length<=6 * l.length+2:=by
 have:=jJ dP 6 aF8 l;simp only[aQ,im,ik,i7];omega
theorem pL (l:List UInt8):(gV l).length<=2 * l.length+3:=by
 have:=jJ fA 2 (λc=>by simp[fA]) l;simp only[gV,im,ik,i7];omega
theorem aHz (m s:Nat) (hs:s<=12) (hm:m<10 ^ 15):(iS m s).length<=40:=by
 have:=bY m 15 hm gb;unfold iS;split
 ·omega
 ·simp only[ik,im,ma,ju,List.length_replicate];omega
theorem aFe (n:Int) (s:Nat) (hs:s<=12) (hm:n.natAbs<10 ^ 15):(dB n s).length<=41:=by
 have:=aHz n.natAbs s hs hm;unfold dB;split
 ·simp;omega
 ·omega
theorem aHo (n:Int) (hm:n.natAbs<10 ^ 15):(Lib.itoa n).length<=16:=by
 have h1:=bY n.natAbs 15 hm gb;have h2:=bY n.toNat 15 ga gb;unfold Lib.itoa;split
 ·simp;omega
 ·omega
theorem pU (n:Nat):∀y,eM n y<=y
 | 0=>gy _
 | y+1=>by
   simp only[eM];split
   ·have:=pU n y;omega
   ·exact gy _
theorem aFw (n:Nat):∀y,1<=y->1<=eM n y
 | 1,_=>by simp[eM,yI]
 | y+2,_=>by
   simp only[eM];split
   ·exact aFw n (y+1) ga
   ·omega
theorem tU (n:Nat):∀y,1<=y->n<eB (y+1)->eB (eM n y)<=n/\n<eB (eM n y+1)
 | 1,_,h=>by
   have h1:¬ n<eB 1:=by rw[yI];omega
   simp only[eM,h1,kz];exact⟨Nat.not_lt.1 h1,h⟩
 | y+2,_,h=>by
   by_cases h1:n<eB (y+2)
   ·have:=tU n (y+1) ga h1;rw[eM,gw h1];exact this
   ·rw[eM,f9 h1];exact⟨Nat.not_lt.1 h1,h⟩
theorem aBi (n:Nat) (h:n<=3652058):(1<=iU n/\iU n<=9999)/\eB (iU n)<=n/\n<eB (iU n+1):=by
 have h1:=zX n;exact⟨⟨aFw n _ h1.1,io (pU n _) h1.2⟩,tU n _ h1.1 (yH n h)⟩
theorem sG (n:Nat) (h:n<=3652058):(1<=iU n/\iU n<=9999)/\(1<=uW n/\uW n<=12)/\1<=uX n/\uX n<=31:=by
 obtain⟨h1,h2,h3⟩:=aBi n h;obtain⟨a,b,c,d⟩:=aIg n h h1 h2 h3;exact⟨h1,⟨a,b⟩,c,d⟩
theorem pK (n:Nat) (h:n<=3652058):(cF n).length=10:=by
 obtain⟨h1,h2,h3⟩:=sG n h;unfold cF;simp only[ik,im];rw[cZ 4 _ ga gb,cZ 2 _ ga gb,cZ 2 _ ga gb]
theorem aIe (r:Nat) (h:r<86400000):(tP r).length<=15:=by
 unfold tP;simp only[ik,im,i7];rw[cZ 2 _ ga gb,cZ 2 _ ga gb,cZ 2 _ ga gb];split
 ·simp only[i7];omega
 ·simp only[im];rw[cZ 3 _ ga gb];omega
theorem aA5 (n:Nat) (h:n<=315537897599999):(cO n).length<=25:=by
 have h1:=pK (n / 86400000) ga;have h2:=aIe (n % 86400000) ga;unfold cO;rw[ik];omega
theorem bA {n lo hi:Int} (h:cP n lo hi=0):lo<=n/\n<=hi:=by
 unfold cP at h;split at h
 ·cases h
 ·omega
theorem fQ {n m e:Int} (he:e≠0) (h:fJ n m e=0):n<=m:=by
 unfold fJ at h;split at h
 ·exact absurd h he
 ·omega
theorem oH {a b:Int} (h:oI a b=0):a=0/\b=0:=by
 unfold oI at h;split at h
 ·rename_i h1;exact absurd h h1
 ·rename_i h1;exact⟨Decidable.not_not.1 h1,h⟩
theorem vO {t:BA} (h:nT t=0):t.size<=1024:=by
 unfold nT at h;split at h
 ·rename_i h1;have:=fQ gb h1.1;omega
 ·have:=fQ gb h;omega
theorem qR {s:BA} (h:aH s=true):s.data.toList.length<=32:=by
 unfold aH kA at h;split at h
 ·cases h
 ·rename_i e;rw[e];simp only[kg,jw] at h;exact h.1
theorem lV:∀(ns:List BA) (p:Option BA),fN p ns=0->∀n∈ns,n.data.toList.length<=32
 | m :: ns,p,h,n,hn=>by
   rw[eA] at h;by_cases hm:aH m=false
   ·rw[gw hm] at h;cases h
   rw[f9 hm] at h;have hr:fN (some m) ns=0:=by
    cases p with
    | none=>exact h
    | some q =>
      dsimp only at h;split at h
      ·cases h
      split at h
      ·cases h
      exact h
   rcases List.mem_cons.1 hn with rfl|hn
   ·exact qR (by simpa using hm)
   ·exact lV ns _ hr n hn
theorem aL0 {k i s:Int} {t:ByteArray} {l:List Val} {ns:List ByteArray} {fs:List Val} (h:jO (.mk k i s t l ns fs)) (hk:k<=7):(eF k i s t.data.toList).length<=8000:=by
 obtain⟨h1,h2,h3⟩:=h;have h1:1<=k:=h1;simp only[nM] at h3;unfold eF;have:k=1\/k=2\/k=3\/k=4\/k=5\/k=6\/k=7:=ga
 rcases this with rfl|rfl|rfl|rfl|rfl|rfl|rfl
 ·simp;split<;>simp
 ·simp at h3 ⊢;have:=bA h3;have:=aHo i ga;omega
 ·simp at h3 ⊢;obtain⟨a,b⟩:=oH h3;have:=bA a;have:=bA b;have:=aFe i s.toNat ga ga
  split
  ·rw[ik];simp;omega
  ·omega
 ·simp at h3 ⊢;have:=vO h3;have:=iK t.data.toList;rw[tQ] at this;omega
 ·simp at h3 ⊢;have:=fQ gb h3;have:=pL t.data.toList;rw[tQ] at this;omega
 ·simp at h3 ⊢;have:=bA h3;have:=pK (i+719162).toNat ga
  have:=iK (cF (i+719162).toNat);omega
 ·simp at h3 ⊢;have:=bA h3;have:=aA5 (i+62135596800000).toNat ga
  have:=iK (cO (i+62135596800000).toNat);omega
def lens (l:List (List UInt8)):Nat:=(l.map (λx=>x.length+2)).sum
theorem aB0:∀l:List (List UInt8),(Lib.join l [44,32]).length<=lens l
 | []=>by simp[Lib.join_nil]
 | x :: r=>by
   rw[Lib.join_cons];have:∀r:List (List UInt8),(Lib.joinTail [44,32] r).length=lens r:=by
    intro r
    induction r with
    | nil=>rfl
    | cons y r ih =>
      simp only[Lib.joinTail,jv,List.flatten_cons,ik,lens,mz] at ih ⊢;rw[ih];simp;omega
   rw[ik,this r];simp only[lens,jv,mz];omega
theorem aF5:∀(ns:List BA) (xs:List (List UInt8)),(∀n∈ns,n.data.toList.length<=32)->lens (dZ ns xs)<=lens xs+34 * xs.length
 | [],xs,_=>by simp[dZ,lens]
 | n :: ns,[],_=>by simp[dZ,lens]
 | n :: ns,x :: xs,h=>by
   have h1:=aF5 ns xs (λm hm=>h m (ja _ hm));have h2:=h n (iw ..);simp only[dZ,lens,jv,mz,ik,im] at h1 ⊢;omega
mutual
theorem aIm (lvl:Int):∀d:Val,(∀x∈jY lvl d,jO x.2)->(txt d).length<=8192 * (jY lvl d).length-100
 | .mk k i s t l ns fs,h=>by
   have h0:jO (.mk k i s t l ns fs):=h _ (by rw[jY];exact iw ..);have hc:(jY lvl (.mk k i s t l ns fs)).length=1+(cD (wrap64 (lvl+1)) (gH (.mk k i s t l ns fs))).length:=by rw[mX];simp;omega
   have hk:∀x∈cD (wrap64 (lvl+1)) (gH (.mk k i s t l ns fs)),jO x.2:=λx hx=>h x (by rw[mX];exact ja _ hx);rw[hc,txt];by_cases h8:k=8
   ·rw[gw h8];simp only[gH,h8,true_or,je] at hk ⊢;have h1:=rC (wrap64 (lvl+1)) l hk;have h2:=aB0 (bF l);simp only[im,ik,i7];omega
   rw[f9 h8];by_cases h9:k=9
   ·rw[gw h9];have hr:fD ns=0:=by have:=h0.2.2;simpa [nM,h9] using this
    have hn:∀n∈ns,n.data.toList.length<=32:=by
     unfold fD at hr;split at hr
     ·cases hr
     ·exact lV _ _ hr
    simp only[gH,h9] at hk ⊢;simp at hk ⊢;have h1:=rC (wrap64 (lvl+1)) fs (λx hx=>hk x.1 x.2 hx);have h2:=aB0 (dZ ns (bF fs));have h3:=aF5 ns (bF fs) hn;omega
   rw[f9 h9];by_cases aa:k=10
   ·rw[gw aa];have hr:dG t l.length=0:=by have:=h0.2.2;simpa [nM,aa] using this
    have hn:t.data.toList.length<=32:=by
     unfold dG at hr;split at hr
     ·cases hr
     ·rename_i hx;exact qR (by simpa using hx)
    simp only[gH,aa,or_true,je] at hk ⊢;have h1:=rC (wrap64 (lvl+1)) l hk;have h2:((bF l).headD []).length<=lens (bF l):=by
     cases bF l with
     | nil=>simp
     | cons x r=>simp only[List.headD_cons,lens,jv,mz];omega
    simp only[im,ik,i7];omega
   rw[f9 aa];have:=aL0 h0 (by have:=h0.2.1;simp only[aAz] at this;omega);omega
theorem rC (lvl:Int):∀l:List Val,(∀x∈cD lvl l,jO x.2)->lens (bF l)+34 * (bF l).length<=8192 * (cD lvl l).length
 | [],_=>by simp[bF,lens]
 | d :: l,h=>by
   have h1:=aIm lvl d (λx hx=>h x (by rw[cD];exact List.mem_append_left _ hx));have h2:=rC lvl l (λx hx=>h x (by rw[cD];exact List.mem_append_right _ hx));have h3:1<=(jY lvl d).length:=by rw[mX];simp
   rw[cD,ik,bF];simp only[lens,jv,mz,im] at h2 ⊢;omega
end
theorem Good.len {n:Nat} {d:Val} (h:Good n d) (hn:n<=4096):(txt d).length<=33554432:=by
 obtain⟨lvl,h1,h2⟩:=h;have:=aIm lvl d h2;omega
end
structure Rd where
 nx:Nat
 k:Nat
 p:Nat
 t:ByteArray
 b:ByteArray
 n:Int
 sc:Int
 d:Bool
 x:Bool
 e:Int
 o:Nat
def Rd.fail (r:Rd) (p:Nat) (e:Int):Rd:=if r.e=0 then { r with o:=p,e:=e } else r
def wV (c:Nat):Nat:=if 65<=c/\c<=70 then c+32 else c
def iO (c:UInt8):Int:=if 48<=c.toNat/\c.toNat<=57 then (c.toNat-48:Nat) else if 97<=wV c.toNat/\wV c.toNat<=102 then (wV c.toNat-87:Nat) else -1
def spC (c:UInt8):Bool:=c.toNat==32||(c.toNat==9||(c.toNat==13||c.toNat==10))
def nQ (c:UInt8):Bool:=(decide (97<=c.toNat)&&decide (c.toNat<=122))||(decide (65<=c.toNat)&&decide (c.toNat<=90))
def bI (c:UInt8):Bool:=decide (48<=c.toNat)&&decide (c.toNat<=57)
def mN (c:UInt8):Bool:=nQ c||(bI c||c.toNat==95)
def symL:List UInt8:=[91,93,123,125,40,41,58,44,61,63,124]
def bP (l:List UInt8) (i:Nat) (p:UInt8->Bool):Nat:=i+((l.drop i).takeWhile p).length
/-! ### decimal.Parse -/
def eZ (n:Int) (s:Nat):List UInt8 × Int:=if 999999999999999<n.natAbs\/12<s then ([],2) else (dB n s,0)
def dD (l:List UInt8):Int:=match Lib.atoiAll l with | .ok v=>v | .range=>Lib.atoiSat l|_=>0
def dE (l:List UInt8):Bool:=match Lib.atoiAll l with | .ok _=>true|_=>false
def jM (l:List UInt8):Int × Nat × Int :=
 if l=[] then (0,0,4) else if 17<l.length then (0,0,5) else
 let c:=Lib.cut l [46]
 let n:=dD (c.1++c.2.1)
 let t:=eZ n c.2.1.length
 if dE (c.1++c.2.1)=false\/t.2≠0\/t.1≠l\/(c.2.2=true/\c.2.1=[]) then (0,0,13) else (n,c.2.1.length,0)
/-! ### the calendar's texts -/
def iL:Nat->Nat->List UInt8->Option (Nat × List UInt8)
 | 0,n,l=>some (n,l)
 | k+1,n,c :: l=>if bI c then iL k (10 * n+(c.toNat-48)) l else none
 | _+1,_,[]=>none
def bL:List (List UInt8 × Nat)->List UInt8->Option (List Nat × List UInt8)
 | [],l=>some ([],l)
 | (m,k) :: ms,l=>if Lib.hasPrefix l m=false then none else match iL k 0 (l.drop m.length) with
   | none=>none
   | some (n,l)=>match bL ms l with
     | none=>none
     | some (ns,l)=>some (n :: ns,l)
def dC (y m d:Nat):Int × Int:=if ¬ (1<=y/\y<=9999)\/¬ (1<=m/\m<=12)\/¬ (1<=d/\d<=bJ y m) then (0,17) else (-719162+eB y+d-1+bC y (m-1) 1,0)
def gX (l:List UInt8):Int × Int:=match bL [([],4),([45],2),([45],2)] l with
 | some ([y,m,d],[])=>dC y m d
 | _=>(0,13)
def jN (l:List UInt8):Int × Int:=match bL [([],4),([45],2),([45],2),([84],2),([58],2),([58],2)] l with
 | some ([y,m,d,h,i,s],r) =>
   let q:Option (Nat × List UInt8):=if Lib.hasPrefix r [46] then (match iL 3 0 (r.drop 1) with|some (n,r)=>if n=0 then none else some (n,r)|none=>none) else some (0,r)
   match q with
   | none=>(0,13)
   | some (z,r)=>if r≠[90] then (0,13) else if (dC y m d).2≠0\/23<h\/59<i\/59<s then (0,17) else ((dC y m d).1 * 86400000+(((60 * h+i) * 60+s) * 1000+z:Nat),0)
 | _=>(0,13)
/-! ### tokens -/
def jE (l:List UInt8) (s:ByteArray) (at_:Nat) (r:Rd):Rd :=
 let f:=if l[at_]?=some 45 then at_+1 else at_
 let tq:=bP l f bI
 if tq=f then r.fail at_ 13 else
 let q:Nat × Bool × Bool:=if l[tq]?=some 46/\(l[tq+1]?.any bI)=true then (bP l (tq+1) bI,true,false) else if l[tq]?=some 100 then (tq+1,true,true) else (tq,false,false)
 let z:=jM (Lib.trimSuffix (s.extract at_ q.1).data.toList [100])
 let r1:={ r with nx:=q.1,d:=q.2.1,x:=q.2.2 }
 let r2:=if z.2.2≠0 then r1.fail at_ z.2.2 else r1
 { r2 with k:=2,n:=z.1,sc:=z.2.1 }
def eG:List UInt8->Nat->Int->List UInt8->(Nat × List UInt8) ⊕ Option Nat
 | [],_,_,_=>.inr none
 | c :: l,i,odd,acc=>if c.toNat=34/\odd<0 then .inl (i+1,acc) else if iO c<0 then .inr (some i) else if odd<0 then eG l (i+1) (iO c) acc
   else eG l (i+1) (-1) (acc++[UInt8.ofNat (16 * odd+iO c).toNat])
def jS (l:List UInt8) (at_:Nat) (r:Rd):Rd:=match eG (l.drop (at_+2)) (at_+2) (-1) [] with
 | .inl (i,a)=>{ r with k:=4,b:=⟨a.toArray⟩,nx:=i }
 | .inr (some i)=>r.fail i 13
 | .inr none=>r.fail at_ 4
def kU:List UInt8->Nat->Option Nat
 | [],n=>some n
 | c :: l,n=>if iO c<0 then none else kU l (16 * n+(iO c).toNat)
def jZ (n:Nat):Bool:=decide (n<=1114111)&&(decide (n<55296)||decide (57343<n))
def fI (l:List UInt8):List UInt8 × Nat × Int:=match l with
 | []=>([],0,13)
 | c :: _ =>
   if c.toNat=34 then ([34],1,0) else if c.toNat=92 then ([92],1,0) else if c.toNat=110 then ([10],1,0) else if c.toNat=114 then ([13],1,0) else if c.toNat=116 then ([9],1,0) else
   let q:=Lib.cut (Lib.trimPrefix l [117,123]) [125]
   if Lib.hasPrefix l [117,123]=false\/q.2.2=false\/q.1.length<1\/6<q.1.length then ([],0,13) else
   match kU q.1 0 with
   | none=>([],0,13)
   | some n=>if jZ n=false then ([],0,16) else ((Utf8.encode (n:Int)).data.toList,q.1.length+3,0)
def cN:Nat->List UInt8->Nat->List UInt8->(Nat × List UInt8) ⊕ Option (Nat × Int)
 | 0,_,_,_=>.inr none
 | _+1,[],_,_=>.inr none
 | f+1,c :: l,i,acc=>if c.toNat=34 then .inl (i+1,acc) else if c.toNat<32\/c.toNat=127 then .inr (some (i,6)) else if c.toNat≠92 then cN f l (i+1) (acc++[c])
   else if l=[] then .inr none else let q:=fI l
    if q.2.2≠0 then .inr (some (i,q.2.2)) else cN f (l.drop q.2.1) (i+1+q.2.1) (acc++q.1)
def iD (l:List UInt8) (at_:Nat) (r:Rd):Rd:=match cN (l.length+1) (l.drop (at_+1)) (at_+1) [] with
 | .inl (i,a)=>{ (if Lib.validD a=false then r.fail at_ 16 else r) with k:=3,b:=⟨a.toArray⟩,nx:=i }
 | .inr (some (i,e))=>r.fail i e
 | .inr none=>r.fail at_ 4
def Rd.adv (s:ByteArray) (r:Rd):Rd:=if r.e≠0 then r else
 let l:=s.data.toList
 let a:=bP l r.nx spC
 let r1:Rd:=⟨a,0,a,⟨#[]⟩,⟨#[]⟩,0,0,false,false,0,r.o⟩
 match l[a]? with
 | none=>r1
 | some c =>
   let r2:Rd:=if c.toNat=34 then iD l a r1 else if c.toNat=120/\Lib.hasPrefix (l.drop a) [120,34]=true then jS l a r1 else if nQ c then { r1 with nx:=bP l a mN,k:=1 }
    else if bI c||c.toNat==45 then jE l s a r1 else if Lib.hasPrefix (l.drop a) [46,46] then { r1 with nx:=a+2,k:=5 } else if symL.contains c then { r1 with nx:=a+1,k:=5 } else r1.fail a 13
   if r2.e=0 then { r2 with t:=s.extract a r2.nx } else r2
def Rd.is (r:Rd) (t:ByteArray):Bool:=decide (r.e=0)&&((decide (r.k=5)||decide (r.k=1))&&decide (r.t=t))
def Rd.expect (s:ByteArray) (r:Rd) (t:ByteArray):Rd:=if r.e≠0 then r else if r.is t then r.adv s else r.fail r.p 13
def Rd.take (s:ByteArray) (r:Rd) (k:Nat):Rd:=if r.e≠0 then r else if r.k≠k then r.fail r.p 13 else r.adv s
def Rd.name (s:ByteArray) (r:Rd):Rd:=let r1:=r.take s 1;if r1.e=0/\aH r.t=false then r1.fail r.p 12 else r1
def Rd.moment (s:ByteArray) (r:Rd) (f:List UInt8->Int × Int):Int × Rd:=let r1:=r.take s 3
 if r1.e≠0 then (0,r1) else ((f r.b.data.toList).1,if (f r.b.data.toList).2≠0 then r1.fail r.p (f r.b.data.toList).2 else r1)
/-! ### values -/
def eS:Val:=.mk 0 0 0 ⟨#[]⟩ [] [] []
def Rd.mu (s:ByteArray) (r:Rd):Nat:=if r.e≠0 then 0 else 1+2 * (s.size-r.nx)+(if r.k=0 then 0 else 1)
def dN (s:ByteArray) (rd:Rd->Val × Rd):Nat->Bool->Rd->List Val->List Val × Rd
 | 0,_,r,acc=>(acc,r)
 | f+1,first,r,acc=>if r.e≠0\/r.is ⟨#[93]⟩=true then (acc,r) else
   let q:=rd (if first then r else r.expect s ⟨#[44]⟩)
   dN s rd f false q.2 (acc++[q.1])
def fY (s:ByteArray) (rd:Rd->Val × Rd):Nat->Bool->Rd->List (ByteArray × Val)->List (ByteArray × Val) × Rd
 | 0,_,r,acc=>(acc,r)
 | f+1,first,r,acc=>if r.e≠0\/r.is ⟨#[125]⟩=true then (acc,r) else
   let r1:=if first then r else r.expect s ⟨#[44]⟩
   let r2:=r1.name s
   let nm:ByteArray:=if r1.e=0/\r1.k=1 then r1.t else ⟨#[]⟩
   let r3:=if r2.e=0/\acc.any (λx=>decide (x.1=nm))=true then r2.fail r1.p 7 else r2
   let q:=rd (r3.expect s ⟨#[58]⟩)
   fY s rd f false q.2 (acc++[(nm,q.1)])
def leN (a b:ByteArray):Bool:=decide (Lib.compareBytes a.data.toList b.data.toList<=0)
def aH1 (l:List (ByteArray × Val)):Val:=let m:=l.mergeSort (λa b=>leN a.1 b.1);.mk 9 0 0 ⟨#[]⟩ [] (m.map (·.1)) (m.map (·.2))
def rdV (s:ByteArray):Nat->Rd->Val × Rd
 | f,r=>if r.e≠0 then (eS,r) else
   if (r.k=0\/r.k=5)/\r.t≠⟨#[91]⟩/\r.t≠⟨#[123]⟩ then (eS,r.fail r.p 13) else
   match f with
   | 0=>(eS,r.fail r.p 23)
   | f+1 =>
     let r1:=r.adv s
     if r.k=2 then (if r.d then .mk 3 r.n r.sc ⟨#[]⟩ [] [] [] else .mk 2 r.n 0 ⟨#[]⟩ [] [] [],r1)
     else if r.k=3 then (.mk 4 0 0 r.b [] [] [],r1)
     else if r.k=4 then (.mk 5 0 0 r.b [] [] [],r1)
     else if r.t=⟨#[91]⟩ then let q:=dN s (rdV s f) (r1.mu s+1) true r1 [];(.mk 8 0 0 ⟨#[]⟩ q.1 [] [],q.2.expect s ⟨#[93]⟩)
     else if r.t=⟨#[123]⟩ then let q:=fY s (rdV s f) (r1.mu s+1) true r1 [];(aH1 q.1,q.2.expect s ⟨#[125]⟩)
     else if r1.e≠0 then (eS,r1)
     else if r1.is ⟨#[40]⟩ then (if aH r.t=false then (eS,r1.fail r.p 12) else let q:=rdV s f (r1.adv s);(.mk 10 0 0 r.t [q.1] [] [],q.2.expect s ⟨#[41]⟩))
     else if r.t=⟨#[116,114,117,101]⟩ then (.mk 1 1 0 ⟨#[]⟩ [] [] [],r1)
     else if r.t=⟨#[102,97,108,115,101]⟩ then (.mk 1 0 0 ⟨#[]⟩ [] [] [],r1)
     else if r.t=⟨#[100,97,116,101]⟩ then let q:=r1.moment s gX;(.mk 6 q.1 0 ⟨#[]⟩ [] [] [],q.2)
     else if r.t=⟨#[116,105,109,101]⟩ then let q:=r1.moment s jN;(.mk 7 q.1 0 ⟨#[]⟩ [] [] [],q.2)
     else if r.t=⟨#[110,117,108,108]⟩/\f=7 then (eS,r1)
     else (eS,r1.fail r.p 13)
def pB (s:ByteArray):Rd:=((⟨0,0,0,⟨#[]⟩,⟨#[]⟩,0,0,false,false,if 65536<s.size then 5 else 0,0⟩:Rd)).adv s
def rdEnd (q:Val × Rd):Val × Rd:=(q.1,if q.2.e=0/\q.2.k≠0 then q.2.fail q.2.p 13 else q.2)
def fK (s:ByteArray):Val × Nat × Int:=let q:=rdEnd (rdV s 8 (pB s))
 let e:=if q.2.e=0/\fH q.1=false then bG q.1 else q.2.e
 if e≠0 then (eS,q.2.o,e) else (q.1,0,0)
structure Rd.Ok (s:ByteArray) (r:Rd):Prop where
 t0:r.k=0->r.t=⟨#[]⟩
 nx:r.nx<=s.size
 p:r.p<=s.size
theorem jW (l:List UInt8) (i:Nat) (p:UInt8->Bool):i<=bP l i p:=Nat.le_add_right _ _
theorem pV {α:Type} (p:α->Bool):∀l:List α,(l.takeWhile p).length<=l.length
 | []=>gy _
 | a :: l=>by
   rw[qh];split
   ·simp only[im];have:=pV p l;omega
   ·simp
theorem aCb (l:List UInt8) (i:Nat) (p:UInt8->Bool) (h:i<=l.length):bP l i p<=l.length:=by
 have:=pV p (l.drop i);rw[ju] at this;unfold bP;omega
theorem runI_gt (l:List UInt8) (i:Nat) (p:UInt8->Bool) (c:UInt8) (h:l[i]?=some c) (hp:p c=true):i<bP l i p:=by
 obtain⟨hi,rfl⟩:=List.getElem?_eq_some_iff.1 h;have:l.drop i=l[i] :: l.drop (i+1):=i8 hi;unfold bP;rw[this,qh,hp];simp
theorem oY (l:List UInt8) (i:Nat) (p:UInt8->Bool) (c:UInt8) (h:l[i]?=some c) (hp:p c=true):bP l i p=bP l (i+1) p:=by
 obtain⟨hi,rfl⟩:=List.getElem?_eq_some_iff.1 h;have:l.drop i=l[i] :: l.drop (i+1):=i8 hi;unfold bP;rw[this,qh,hp];simp;omega
theorem fX (l:List UInt8) (i:Nat) (p:UInt8->Bool) (h:∀c,l[i]?=some c->p c=false):bP l i p=i:=by
 unfold bP;by_cases hi:i<l.length
 ·have:l.drop i=l[i] :: l.drop (i+1):=i8 hi;rw[this,qh,h l[i] (n3 hi)];simp
 ·rw[ph ga];rfl
theorem Rd.fail_e (r:Rd) (p:Nat) (e:Int) (he:e≠0):(r.fail p e).e≠0:=by
 unfold Rd.fail;split
 ·exact he
 ·assumption
theorem Rd.fail_ok {s:BA} {r:Rd} (h:r.Ok s) (p:Nat) (e:Int):(r.fail p e).Ok s:=by
 unfold Rd.fail;split
 ·exact⟨h.t0,h.nx,h.p⟩
 ·exact h
theorem Rd.mu_bad {s:BA} {r:Rd} (h:r.e≠0):r.mu s=0:=by rw[Rd.mu,gw h]
theorem Rd.mu_pos {s:BA} {r:Rd} (h:r.e=0):0<r.mu s:=by rw[Rd.mu,f9 (by simp[h])];omega
theorem Rd.fail_mu {s:BA} (r:Rd) (p:Nat) (e:Int) (he:e≠0):(r.fail p e).mu s=0:=Rd.mu_bad (r.fail_e p e he)
theorem sI:∀(l:List UInt8) (i:Nat) (odd:Int) (acc:List UInt8) (j:Nat) (a:List UInt8),eG l i odd acc=.inl (j,a)->i<j/\j<=i+l.length
 | [],_,_,_,_,_,h=>by simp[eG] at h
 | c :: l,i,odd,acc,j,a,h=>by
   unfold eG at h;split at h
   ·simp only[Sum.inl.injEq,oq] at h;simp;omega
   ·split at h
    ·cases h
    ·split at h
     ·have:=sI l _ _ _ _ _ h;simp;omega
     ·have:=sI l _ _ _ _ _ h;simp;omega
theorem rF:∀(f:Nat) (l:List UInt8) (i:Nat) (acc:List UInt8) (j:Nat) (a:List UInt8),cN f l i acc=.inl (j,a)->i<j
 | 0,_,_,_,_,_,h=>by simp[cN] at h
 | _+1,[],_,_,_,_,h=>by simp[cN] at h
 | f+1,c :: l,i,acc,j,a,h=>by
   unfold cN at h;split at h
   ·simp only[Sum.inl.injEq,oq] at h;omega
   ·split at h
    ·cases h
    ·split at h
     ·have:=rF f _ _ _ _ _ h;omega
     ·split at h
      ·cases h
      ·dsimp only at h;split at h
       ·cases h
       ·have:=rF f _ _ _ _ _ h;omega
def eN (i:Nat) (c:UInt8):Rd:=⟨i+1,5,i,⟨#[c]⟩,⟨#[]⟩,0,0,false,false,0,0⟩
def aO (i:Nat) (w:List UInt8):Rd:=⟨i+w.length,1,i,⟨w.toArray⟩,⟨#[]⟩,0,0,false,false,0,0⟩
def dO (m s:Nat):List UInt8:=List.replicate (s+1-(Lib.decDigits m).length) 48++Lib.decDigits m
theorem oJ (m s:Nat):s+1<=(dO m s).length/\(dO m s).length=(s+1-(Lib.decDigits m).length)+(Lib.decDigits m).length:=by
 unfold dO;rw[ik,List.length_replicate];exact⟨by omega,rfl⟩
def aJg (post:List UInt8):Prop:=∀c,post.head?=some c->bI c=false/\c≠46/\c≠100
end Go.Proofs.YtoodnaghjpkjfaaGreatDoor
