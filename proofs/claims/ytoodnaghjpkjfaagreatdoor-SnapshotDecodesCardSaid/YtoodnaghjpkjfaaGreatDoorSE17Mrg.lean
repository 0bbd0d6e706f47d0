/- A part. -/
import Derived.Test.YtoodnaghjpkjfaaGreatDoorSE16Mrg
import Derived.Test.YtoodnaghjpkjfaaGreatDoorSE12Mrg
import Derived.Lib.Split
import Derived.Lib.Join
import Derived.Lib.IndexBytes
namespace Go.Proofs.YtoodnaghjpkjfaaGreatDoor
open Tryz
set_option linter.unusedVariables false
set_option maxRecDepth 100000
set_option maxHeartbeats 64000000
set_option linter.unusedSimpArgs false
open Go Go.RowKit Go.Shelf
section
def lex (x y:Int):Int:=if x≠0 then x else y
theorem gM {x y x' y':Int} (h:x' = -x) (h':y' = -y):lex x' y' = -lex x y:=by
 subst h;subst h';unfold lex;split<;>split<;>omega
def Tri (x y z:Int):Prop:=(x<=0->y<=0->z<=0)/\(z<=0->0<=y->x<=0)/\(0<=x->z<=0->y<=0)/\(y<=0->0<=z->0<=x)/\(0<=z->x<=0->0<=y)/\(0<=y->0<=x->0<=z)
theorem gK {x y z x' y' z':Int} (h:Tri x y z) (h':Tri x' y' z'):Tri (lex x x') (lex y y') (lex z z'):=by
 unfold Tri at *;unfold lex;by_cases hx:x=0<;>by_cases hy:y=0<;>by_cases hz:z=0<;>simp only[hx,hy,hz,ne_eq,n7,not_false_eq_true,je,kz]<;>first|exact h'|omega
def Sg (x:Int):Prop:=x = -1\/x=0\/x=1
theorem kR {x y:Int} (h:Sg x) (h':Sg y):Sg (lex x y):=by unfold lex;split<;>assumption
theorem aMh:Tri 0 0 0:=by unfold Tri;omega
theorem lN (x y:Int):Lib.compareInt y x = -Lib.compareInt x y:=by unfold Lib.compareInt;split<;>split<;>(try split)<;>omega
theorem pM (x y:Int):Sg (Lib.compareInt x y):=by unfold Lib.compareInt Sg;split<;>(try split)<;>omega
theorem nJ (x y z:Int):Tri (Lib.compareInt x y) (Lib.compareInt y z) (Lib.compareInt x z):=by
 unfold Lib.compareInt Tri;by_cases h1:x<y<;>by_cases h2:y<z<;>by_cases h3:x<z<;>by_cases h4:x > y<;>by_cases h5:y > z<;>by_cases h6:x > z<;>simp[h1,h2,h3,h4,h5,h6]<;>omega
theorem mL (a b:UInt8) (r q:List UInt8):Lib.compareBytes (a :: r) (b :: q)=lex (Lib.compareInt a.toNat b.toNat) (Lib.compareBytes r q):=by
 rw[Lib.compareBytes,lex,Lib.compareInt];by_cases h1:a<b
 ·have:(a.toNat:Int)<b.toNat:=by have:=UInt8.lt_iff_toNat_lt.1 h1;omega
  simp[h1,this]
 ·by_cases h2:b<a
  ·have h3:(b.toNat:Int)<a.toNat:=by have:=UInt8.lt_iff_toNat_lt.1 h2;omega
   have h4:¬ (a.toNat:Int)<b.toNat:=ga
   simp[h1,h2,h3,h4]
  ·have h3:¬ (b.toNat:Int)<a.toNat:=λh=>h2 (UInt8.lt_iff_toNat_lt.2 ga);have h4:¬ (a.toNat:Int)<b.toNat:=λh=>h1 (UInt8.lt_iff_toNat_lt.2 ga);simp[h1,h2,h3,h4]
theorem iT:∀(xs ys:List UInt8),Lib.compareBytes ys xs = -Lib.compareBytes xs ys
 | [],[]=>rfl
 | [],_ :: _=>rfl
 | _ :: _,[]=>rfl
 | a :: r,b :: q=>by rw[mL,mL];exact gM (lN _ _) (iT r q)
theorem gW:∀(xs ys:List UInt8),Sg (Lib.compareBytes xs ys)
 | [],[]=>.inr (.inl rfl)
 | [],_ :: _=>.inl rfl
 | _ :: _,[]=>.inr (.inr rfl)
 | a :: r,b :: q=>by rw[mL];exact kR (pM _ _) (gW r q)
theorem kY:∀(xs ys zs:List UInt8),Tri (Lib.compareBytes xs ys) (Lib.compareBytes ys zs) (Lib.compareBytes xs zs)
 | [],[],[]=>aMh
 | [],[],_ :: _=>by simp only[Lib.compareBytes,Tri];omega
 | [],_ :: _,[]=>by simp only[Lib.compareBytes,Tri];omega
 | _ :: _,[],[]=>by simp only[Lib.compareBytes,Tri];omega
 | [],b :: q,c :: t=>by
   have h:=gW (b :: q) (c :: t);rw[show Lib.compareBytes [] (b :: q) = -1 from rfl,show Lib.compareBytes [] (c :: t) = -1 from rfl];simp only[Tri,Sg] at *;omega
 | a :: r,[],c :: t=>by
   have h:=gW (a :: r) (c :: t);rw[show Lib.compareBytes [] (c :: t) = -1 from rfl,show Lib.compareBytes (a :: r) []=1 from rfl];simp only[Tri,Sg] at *;omega
 | a :: r,b :: q,[]=>by
   have h:=gW (a :: r) (b :: q);rw[show Lib.compareBytes (a :: r) []=1 from rfl,show Lib.compareBytes (b :: q) []=1 from rfl];simp only[Tri,Sg] at *;omega
 | a :: r,b :: q,c :: t=>by rw[mL,mL,mL];exact gK (nJ _ _ _) (kY r q t)
end
section
/-! ### what may follow a value -/
def PostV (post:List UInt8):Prop:=∀c,post.head?=some c->c=44\/c=93\/c=125\/c=41
theorem PostV.n {post:List UInt8} (h:PostV post):aJg post:=λc hc=>by
 rcases h c hc with rfl|rfl|rfl|rfl<;>decide
theorem PostV.w {post:List UInt8} (h:PostV post):∀c,post.head?=some c->mN c=false:=λc hc=>by
 rcases h c hc with rfl|rfl|rfl|rfl<;>decide
theorem PostV.q {post:List UInt8} (h:PostV post):post.head?≠some 34:=λe=>by
 rcases h _ e with h|h|h|h<;>exact absurd h gb
end
theorem nO {P:Program} {w:World} {N:Nat} {vs:List Value} {t:TypeId} {fr:Nat × Nat} (h:w.heap[N]?=some (.cells vs.toArray t fr)):(loadCellsFrom ⟨N,0,none⟩ 0 vs.length #[]).run P w=.ok vs.toArray w:=by
 have:=qj (P:=P) w ⟨N,0,none⟩ vs (λj v hv=>by
  rw[yM,ir,aA h j];simpa using hv)
 exact this
theorem aMo {P:Program} {w:World} {N:Nat} {aa:Array Value} {t:TypeId} (vs:List Value) (h:w.heap[N]?=some (.cells aa t (0,0))) (hc:aa.size=vs.length) (h1:∀v∈vs,v.oneCell'=true) :
 (storeCells ⟨N,0,none⟩ vs 0).run P w=.ok () (w.setRow N vs.toArray):=by
 have:=run_storeCells_from (P:=P) N t vs 0 aa w h ga h1;have e:aa.toList.take 0++vs=vs:=rfl
 simpa [hc] using this
theorem vR (w:World) (t:TypeId) (z:Array Value) (vs:List Value) (hi:(prog.info? t).map (·.size)=some vs.length) (hz:z.size=vs.length) (h1:∀v∈vs,v.oneCell'=true) :
 (storeCells ⟨w.heap.size,0,none⟩ vs 0).run prog (w.alloc (.cells z t))=.ok () (w.alloc (.cells vs.toArray t)):=by
 have:=run_storeCells_new (P:=prog) w t z vs.toArray (by rw[hi];rfl) (by rw[hz];rfl) (by
  rw[qo];intro v hv;exact h1 v (by simpa using hv))
 exact this
theorem aOm (a b:BA):(a.toList==b.toList)=decide (a=b):=by
 rw[aIr];by_cases h:a=b
 ·subst h;simp
 ·rw[mc h,mc];intro e;exact h (kn (lk e))
def kO (k:Nat) (s:BA):List BA:=Lib.splitB ⟨#[32]⟩ 0 (min k (s.size+1)-1) s
theorem vW (sep:BA) (v:Nat):∀(k:Nat) (s:BA),(Lib.splitB sep v k s).length<=k+1
 | 0,s=>by simp[Lib.splitB]
 | k+1,s=>by
   unfold Lib.splitB;split
   ·simp
   ·have:=vW sep v k (s.extract ((Lib.indexB s sep).toNat+sep.size) s.size);simp only[im];omega
theorem tY (sep:BA):∀(k:Nat) (s x:BA),x∈Lib.splitB sep 0 k s->x.size<=s.size
 | 0,s,x,h=>by simp[Lib.splitB] at h;subst h;exact gy _
 | k+1,s,x,h=>by
   unfold Lib.splitB at h;split at h
   ·simp at h;subst h;exact gy _
   ·rcases List.mem_cons.1 h with rfl|h
    ·rw[k9];omega
    ·have:=tY sep k _ x h;rw[k9] at this;omega
theorem aH4 (k:Nat) (s:BA) (hk:1<=k):(kO k s).length<=min k (s.size+1):=by
 have:=vW ⟨#[32]⟩ 0 (min k (s.size+1)-1) s;unfold kO;omega
theorem lH (k:Nat) (s x:BA) (h:x∈kO k s):x.size<=s.size:=tY _ _ _ _ h
theorem split4 (s:BA) (w:World) (hs:s.size<=120000) (hN:NumVars w) :
 (∃a b c e,kO 4 s=[a,b,c,e]/\CP 56 #[Sv s,Sv ⟨#[32]⟩,I6 4] w λx w'=>x=.returned (Sl (So w.heap.size 0) 4 4)/\w'=w.alloc (.cells #[Sv a,Sv b,Sv c,Sv e] 9)) \/
 ((kO 4 s).length<4/\CP 56 #[Sv s,Sv ⟨#[32]⟩,I6 4] w λx w'=>∃n k,n<4/\x=.returned (Sl (So w.heap.size 0) n k)/\BB w w'):=by
 obtain⟨m,hm⟩:=hN.2.2;have hc:=Tryz.strings_SplitN s ⟨#[32]⟩ 4 m w ga hm gb gb gb;have ac:=aH4 4 s gb;by_cases h:(kO 4 s).length<4
 ·refine .inr ⟨h,hc.mono ?_⟩;rintro x w' ⟨rfl,rfl⟩;exact⟨_,_,h,rfl,(bR w).alloc lr _⟩
 ·have hl:(kO 4 s).length=4:=ga
  have aa:min 4 (s.size+1)=4:=ga
  left
  match hp:kO 4 s,hl with
  | [a,b,c,e],_ =>
    refine⟨a,b,c,e,rfl,?_⟩;have ab:Lib.splitB ⟨#[32]⟩ 0 (min 4 (s.size+1)-1) s=[a,b,c,e]:=hp;rw[ab,aa] at hc;exact hc
def spl (c:UInt8):List UInt8->List (List UInt8)
 | []=>[[]]
 | x :: r=>if x=c then [] :: spl c r else match spl c r with
   | []=>[[x]]
   | h :: t=>(x :: h) :: t
theorem aDq (c:UInt8):∀l:List UInt8,c ∉ l->spl c l=[l]
 | [],_=>rfl
 | x :: r,h=>by
   have hx:¬ x=c:=λe=>h (by rw[e];exact iw ..);rw[spl,f9 hx,aDq c r (λe=>h (ja _ e))]
theorem aIt (c:UInt8) (r:List UInt8):∀l:List UInt8,c ∉ l->spl c (l++c :: r)=l :: spl c r
 | [],_=>by rw[ji,spl,gw rfl]
 | x :: l,h=>by
   have hx:¬ x=c:=λe=>h (by rw[e];exact iw ..);rw[jh,spl,f9 hx,aIt c r l (λe=>h (ja _ e))]
theorem aA9 (c:UInt8):∀l:List UInt8,∀x∈spl c l,c ∉ x/\x.length<=l.length
 | [],x,h=>by
   have:x=[]:=by simpa [spl] using h
   subst this;exact⟨jt,gy _⟩
 | y :: r,x,h=>by
   have ih:=aA9 c r;rw[spl] at h;split at h
   ·rcases List.mem_cons.1 h with rfl|h
    ·exact⟨jt,ii _⟩
    ·have q:=ih x h;exact⟨q.1,by simp;omega⟩
   ·rename_i hy;split at h
    ·rcases List.mem_cons.1 h with rfl|h
     ·exact⟨λe=>hy (List.mem_singleton.1 e).symm,by simp⟩
     ·exact absurd h jt
    ·rename_i a t he;rcases List.mem_cons.1 h with rfl|h
     ·have q:=ih a (by rw[he];exact iw ..);exact⟨λe=>(List.mem_cons.1 e).elim (λe=>hy e.symm) q.1,by simp;exact q.2⟩
     ·have q:=ih x (by rw[he];exact ja _ h);exact⟨q.1,by simp;omega⟩
theorem aAa (c:UInt8):∀l:List UInt8,(spl c l).length<=l.length+1
 | []=>gy _
 | x :: r=>by
   have ih:=aAa c r;rw[spl];split
   ·simp only[im];omega
   ·split
    ·simp
    ·rename_i a t he;rw[he] at ih;simp only[im] at ih ⊢;omega
theorem spl_ne (c:UInt8):∀l:List UInt8,spl c l≠[]
 | []=>by simp[spl]
 | x :: r=>by
   rw[spl];split
   ·simp
   ·split<;>simp
theorem yK (c:UInt8) (l:List UInt8):c ∉ l\/∃a r,c ∉ a/\l=a++c :: r:=by
 induction l with
 | nil=>exact .inl jt
 | cons x l ih =>
   by_cases hx:x=c
   ·exact .inr ⟨[],l,jt,by rw[hx];rfl⟩
   rcases ih with h|⟨a,r,h,rfl⟩
   ·exact .inl λe=>(List.mem_cons.1 e).elim (λe=>hx e.symm) h
   ·exact .inr ⟨x :: a,r,λe=>(List.mem_cons.1 e).elim (λe=>hx e.symm) h,rfl⟩
theorem nD (c:UInt8) (r:List UInt8):∀l:List UInt8,c ∉ l->Lib.index (l++c :: r) [c]=l.length
 | [],_=>by simp[Lib.index]
 | d :: l,h=>by
   have:=nD c r l (λe=>h (ja _ e));have hc:¬ d=c:=λe=>h (by rw[e];exact iw ..);simp only[jh,Lib.index];rw[this];simp[hc];intro e;exact absurd e.symm hc
theorem uK (c:UInt8):∀l:List UInt8,c ∉ l->Lib.index l [c] = -1
 | [],_=>by simp[Lib.index]
 | d :: l,h=>by
   have:=uK c l (λe=>h (ja _ e));have hc:¬ d=c:=λe=>h (by rw[e];exact iw ..);simp only[Lib.index];rw[this];simp[hc];intro e;exact absurd e.symm hc
theorem sS (c:UInt8) (l:List UInt8):(Lib.index l [c] = -1/\spl c l=[l])\/∃i:Nat,Lib.index l [c]=i/\i<l.length/\spl c l=l.take i :: spl c (l.drop (i+1)):=by
 rcases yK c l with h|⟨a,r,h,rfl⟩
 ·exact .inl ⟨uK c l h,aDq c l h⟩
 ·refine .inr ⟨a.length,nD c r a h,by simp,?_⟩;rw[aIt c r a h,List.take_left' rfl];congr 1;rw[show a++c :: r=(a++[c])++r by simp,List.drop_left' ge]
def dW (s:List UInt8):Int × Bool:=((aHw s).1,(aHw s).2&&decide (s.length<=7))
def lS (s:List UInt8):Option St :=
 if (dW (Lib.cut s [47]).1).2=true/\(spl 46 (Lib.cut s [47]).2.1).all (λx=>(dW x).2)=true/\aZ ⟨(dW (Lib.cut s [47]).1).1,(spl 46 (Lib.cut s [47]).2.1).map λx=>(dW x).1⟩=0
 then some ⟨(dW (Lib.cut s [47]).1).1,(spl 46 (Lib.cut s [47]).2.1).map λx=>(dW x).1⟩ else none
theorem aNm (n:Int) (h:0<=n):Lib.itoa n=Lib.decDigits n.toNat:=by rw[Lib.itoa,f9 ga]
theorem aJu {d:St} (h:aZ d=0):1<=d.e/\d.e<=1048576/\d.ps≠[]/\(∀x∈d.ps,0<=x/\x<=65535):=by
 unfold aZ at h;split at h
 ·simp at h
 rename_i h1;split at h
 ·simp at h
 rename_i h2;split at h
 ·simp at h
 split at h
 ·simp at h
 rename_i h4;refine⟨by omega,by omega,h2,λx hx=>?_⟩;have q:yJ x=false:=by
  cases hb:yJ x
  ·rfl
  ·exact absurd (List.any_eq_true.2 ⟨x,hx,hb⟩) h4
 unfold yJ at q;simp at q;omega
def iB (d:Msg):BA × Int:=if fF d≠0 then (⟨#[]⟩,fF d) else if (eE d.b).2≠0 then (⟨#[]⟩,(eE d.b).2) else (aO3 d (eE d.b).1,0)
theorem aN7 (c:MC) (d:Msg) (w:World) (hd:IsMsg (· < w.heap.size) w c d) (hT:Tabs w) (h0:fF d≠0) :
 CP 37 #[c.v] w (Rt (.tuple #[Sv ⟨#[]⟩,I6 (fF d)]) w):=by
 have HM:=f8 (sA c d w hd hT);obtain⟨x,hx⟩:=xe (fF d)
 have ae:f7 (∀w1,BB (w.alloc (mObj c)) w1->CP 84 #[c.v] w1 (Rt (I6 x) w1)):=f8 λw1 h=>by
  have q:=sA c d w hd hT w1 h;rw[hx];exact eK c d w1 q.msg q.tabs
 rw[<-hx] at h0 ⊢;have ah:(x==0)=false:=by simp;exact h0
 have ag:(x != 0)=true:=by simp;exact h0
 clear hd hT h0 hx;obtain⟨⟨ce,sa,sn,sc⟩,m,a,n,cap,⟨k,i',s,tt,la,ll,lc,fa,fl,fc⟩⟩:=c;have ab:=HM.o _ (gx _ _);have ac:=ab.ten;dsimp only[Ten,mObj] at ac;obtain⟨e0,e1,e2,e3,e4,e5,e6,e7,e8,e9⟩:=ac;clear ab;have ad:=ae.o _ (gx _ _);have aa:=f8 ad;dsimp only[mObj,SC.v,VC.v,MC.v] at HM aa ⊢;clear ad ae;go_enter func37,ntmps37
 go_wp2_with (first
  | (go_at_call 84;refine aa.mono ?_;rintro e w2 ⟨rfl,af⟩;have HB:=f8 (HM.o _ af).bel))
 exact ig (v:=.tuple #[Sv ⟨#[]⟩,I6 x]) (by simp[results,results37,go_sem]) rfl ⟨rfl,HB.o⟩
theorem aN6 (c:MC) (d:Msg) (w:World) (hd:IsMsg (· < w.heap.size) w c d) (hT:Tabs w) (hZ:ZTab w) (h0:fF d=0) (h1:(eE d.b).2≠0) :
 CP 37 #[c.v] w (Rt (.tuple #[Sv ⟨#[]⟩,I6 (eE d.b).2]) w):=by
 have HM:=f8 (sA c d w hd hT);have ag:f7 (∀w1,BB (w.alloc (mObj c)) w1->CP 84 #[c.v] w1 (Rt (I6 0) w1)):=f8 λw1 h=>by
  have q:=sA c d w hd hT w1 h;rw[<-h0];exact eK c d w1 q.msg q.tabs
 obtain⟨x,hx⟩:=xe ((eE d.b).2)
 obtain⟨t,ht⟩:=xe ((eE d.b).1)
 have ad:f7 (∀w1,BB (w.alloc (mObj c)) w1->CP 83 #[c.b.v] w1 (Rt (.tuple #[Sv t,I6 x]) w1)):=f8 λw1 h=>by
  have q:=sA c d w hd hT w1 h;rw[hx,ht];exact kF c.b d.b w1 q.msg.b q.tabs (hZ.below q.bel)
 rw[<-hx] at h1 ⊢;have aj:(x==0)=false:=by simp;exact h1
 have ai:(x != 0)=true:=by simp;exact h1
 clear hd hT h0 h1 hx ht hZ;obtain⟨⟨ce,sa,sn,sc⟩,m,a,n,cap,⟨k,i',s,tt,la,ll,lc,fa,fl,fc⟩⟩:=c;have ac:=HM.o _ (gx _ _);have ae:=ac.ten;dsimp only[Ten,mObj] at ae;obtain⟨e0,e1,e2,e3,e4,e5,e6,e7,e8,e9⟩:=ae;clear ac;have af:=ag.o _ (gx _ _);have aa:=f8 af;dsimp only[mObj,SC.v,VC.v,MC.v] at HM aa ad ⊢;clear af ag;go_enter func37,ntmps37
 go_wp2_with (first
  | (go_at_call 84;refine aa.mono ?_;rintro e w2 ⟨rfl,ab⟩;obtain⟨⟨j0,j1,j2,j3,j4,j5,j6,j7,j8,j9⟩,_,_,_⟩:=HM.o _ ab;clear e0 e1 e2 e3 e4 e5 e6 e7 e8 e9)
  | (go_at_call 83;refine(ad.o _ ab).mono ?_;rintro e w3 ⟨rfl,ah⟩;have HB:=f8 (HM.o _ (ab.trans (ah.mono ab.size))).bel))
 exact ig (v:=.tuple #[Sv ⟨#[]⟩,I6 x]) (by simp[results,results37,go_sem]) rfl ⟨rfl,HB.o⟩
theorem mZ (c:MC) (d:Msg) (w:World) (hd:IsMsg (· < w.heap.size) w c d) (hT:Tabs w) (hZ:ZTab w) :
 CP 37 #[c.v] w (Rt (.tuple #[Sv (iB d).1,I6 (iB d).2]) w):=by
 unfold iB;by_cases h0:fF d=0
 ·rw[f9 (λh=>h h0)];by_cases h1:(eE d.b).2=0
  ·rw[f9 (λh=>h h1)];refine aCo c d w hd hT (eE d.b).1 h0 (gA d.b) λw' h=>?_;have q:=kF c.b d.b w' (hd.b.same λb hb=>⟨ix hb h.size,h.block b hb⟩) (hT.below h) (hZ.below h);rw[h1] at q;exact q
  ·rw[gw h1];exact aN6 c d w hd hT hZ h0 h1
 ·rw[gw h0];exact aN7 c d w hd hT h0
def uV (s:BA):Option Msg:=match kO 4 s with
 | [a,b,c,e]=>match lS a.data.toList with
   | none=>none
   | some st=>if dE b.data.toList=true/\(fK e).2.2=0/\(spl 44 c.data.toList).all dE=true/\iB ⟨st,dD b.data.toList,(spl 44 c.data.toList).map dD,(fK e).1⟩=(s,0)
     then some ⟨st,dD b.data.toList,(spl 44 c.data.toList).map dD,(fK e).1⟩ else none
 | _=>none
theorem aLg:∀(es:List Int) (k:Nat),k<=es.length->gS es k=0->∀j (h:j<es.length),k<=j->kX es[j]=true:=λes k hk h0=>by
 obtain⟨n,hn⟩:=xe (es.length-k)
 induction n generalizing k with
 | zero=>intro j h hj;omega
 | succ n ih =>
   intro j h hj;have aa:k<es.length:=ga
   have hb:kX es[k]=true:=by
    cases hb:kX es[k]
    ·have:=aB7 es k aa hb;rw[h0] at this;cases this
    ·rfl
   by_cases e:j=k
   ·subst e;exact hb
   have hl:k=0\/es[k-1]<es[k]:=by
    rcases pi k with h1|h1
    ·exact .inl h1
    ·right;by_cases h2:es[k]<=es[k-1]
     ·have:=xT es k aa hb h1 h2;rw[h0] at this;cases this
     ·omega
   exact ih (k+1) ga (by rw[<-xS es k aa hb hl];exact h0) ga j h ga
theorem msgE_ok {d:Msg} (h:fF d=0):aZ d.st=0/\0<=d.m/\d.m<=1099511627776/\d.es≠[]/\(∀x∈d.es,1<=x/\x<=1048576)/\oP d.b=0:=by
 unfold fF at h;split at h
 ·contradiction
 rename_i h1;split at h
 ·simp at h
 rename_i h2;split at h
 ·simp at h
 rename_i h3;split at h
 ·simp at h
 split at h
 ·contradiction
 rename_i h5;have q:oG d.m=false:=by
  cases hb:oG d.m
  ·rfl
  ·exact absurd hb h2
 unfold oG at q;simp at q;have aa:gS d.es 0=0:=by simpa using h5
 refine⟨by simpa using h1,by omega,by omega,h3,λx hx=>?_,h⟩;obtain⟨j,hj,rfl⟩:=List.mem_iff_getElem.1 hx;have:=aLg d.es 0 (ii _) aa j hj (ii _);unfold kX at this;simp at this;exact this
end Go.Proofs.YtoodnaghjpkjfaaGreatDoor
