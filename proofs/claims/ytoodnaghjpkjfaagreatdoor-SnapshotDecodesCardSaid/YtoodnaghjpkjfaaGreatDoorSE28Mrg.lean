/- A part. -/
import Derived.Test.YtoodnaghjpkjfaaGreatDoorSE12Mrg
namespace Go.Proofs.YtoodnaghjpkjfaaGreatDoor
open Tryz
set_option linter.unusedVariables false
set_option maxRecDepth 100000
set_option maxHeartbeats 64000000
set_option linter.unusedSimpArgs false
open Go Go.RowKit Go.Shelf
theorem oF (a x y:Int) (w:World):CP 279 #[I6 a,I6 x,I6 y] w λe w'=>e=.returned (.bool (decide (x<=a)&&decide (a<=y)))/\w'=w:=by
 by_cases h1:x<=a<;>by_cases h2:a<=y <;>
  (go_enter func279,ntmps279;go_wp2;go_ret;exact⟨by simp[h1,h2],rfl⟩)
theorem aEd:∀(k n:Nat) (l:List UInt8),l.length<k->iL k n l=none
 | 0,_,_,h=>absurd h ga
 | k+1,_,[],_=>rfl
 | k+1,n,c :: l,h=>by
   rw[iL];split
   ·exact aEd k _ l (by simp at h;omega)
   ·rfl
theorem aKh (k n:Nat) (c:UInt8) (l:List UInt8) (h:bI c=true):iL (k+1) n (c :: l)=iL k (10 * n+(c.toNat-48)) l:=by rw[iL,gw h]
theorem aKi (k n:Nat) (c:UInt8) (l:List UInt8) (h:bI c=false):iL (k+1) n (c :: l)=none:=by rw[iL,f9 (by rw[h];decide)]
def NumRes (o:Option (Nat × List UInt8)) (v:Value):Prop:=match o with
 | some (n,r)=>v=.tuple #[I6 n,.string ⟨r.toArray⟩,.bool true]
 | none=>∃t:BA,v=.tuple #[I6 0,.string t,.bool false]
theorem oO (s:BA) (hs:s.size<=1000000) (k:Nat) (hk:k<=9) (w:World) :
 CP 273 #[Sv s,I6 k] w λx w'=>(∃v,x=.returned v/\NumRes (iL k 0 s.data.toList) v)/\BB w w':=by
 have an:s.data.toList.length=s.size:=rfl;by_cases ap:s.size<k
 ·have ae:(s.size:Int)<(k:Int):=ga
  have HE:=f8 (aEd k 0 s.data.toList ga);go_enter func273,ntmps273
  go_wp2;refine ig (v:=.tuple #[I6 0,Sv s,.bool false]) (by simp[results,results273,go_sem]) rfl ?_;exact⟨⟨_,rfl,by rw[HE.o];exact⟨_,rfl⟩⟩,gx _ _⟩
 have ae:¬ (s.size:Int)<(k:Int):=ga
 go_enter func273,ntmps273
 go_wp2
 go_loopw [4,14] (λnv iv wr=>∃n i:Nat,nv=I6 n/\iv=I6 i/\i<=k/\n<10 ^ i/\iL k 0 s.data.toList=iL (k-i) n (s.data.toList.drop i)/\wr=w) (λ_ iv _=>k-(intOf iv).toNat)
 case atStart=>exact⟨0,0,rfl,rfl,ii _,by decide,rfl,rfl⟩
 case round =>
  obtain⟨n,i,rfl,rfl,hi,hn,af,ah⟩:=hrel;obtain rfl:=ah.symm;have ab:=f8 af;clear af;by_cases au:i<k
  ·have ak:(i:Int)<(k:Int):=ga
   have ar:(i:Int)<(s.size:Int):=ga
   have av:(0:Int)<=(i:Int):=ga
   have hd:=pI s i ga;obtain⟨j,hj⟩:∃j,k-i=j+1:=⟨k-i-1,by omega⟩
   have h1:=aKh j n s[i] (s.data.toList.drop (i+1));have h2:=aKi j n s[i] (s.data.toList.drop (i+1));rw[<-hd,<-hj,<-ab.o] at h1 h2;have aj:n<1000000000 / 10:=ix hn (by have:10 ^ i<=10 ^ 8:=Nat.pow_le_pow_right gb ga;omega);have aa:=oF (s[i].toNat:Int) 48 57 w;have ad:bI s[i]=(decide ((48:Int)<=s[i].toNat)&&decide ((s[i].toNat:Int)<=57)):=by
    unfold bI;congr 2<;>simp<;>omega
   rw[<-ad] at aa;have am:=s[i].toNat_lt;have ai:10 * n+10<=10 ^ (i+1):=by rw[Nat.pow_succ];omega
   obtain⟨q,hq⟩:=xe (bI s[i])
   rw[<-hq] at aa h1 h2;have al:q=true->48<=s[i].toNat/\s[i].toNat<=57:=by
    intro h;rw[hq,ad,kg,jw,jw] at h;omega
   obtain⟨ag,H1,H2,HJ⟩:=h_4 aa h1 h2 hj;clear h1 h2 aa ad hq hd hj hn ab;cases q
   ·go_wp2_with (go_at_call 279;refine ag.mono ?_;rintro e w2 ⟨rfl,ac⟩;obtain rfl:=ac.symm)
    refine ig (v:=.tuple #[I6 0,Sv s,.bool false]) (by simp[results,results273,go_sem]) rfl ?_;exact⟨⟨_,rfl,by rw[H2.o trivial];exact⟨_,rfl⟩⟩,gx _ _⟩
   ·obtain⟨c1,c2⟩:=al rfl;have e1:IntKind.i64.wrap (10 * (n:Int))=10 * n:=ip _ ⟨by omega,by omega⟩;have e2:IntKind.u8.wrap ((s[i].toNat:Int)-48)=(s[i].toNat:Int)-48:=o7 _ ⟨by omega,by omega⟩;have e3:IntKind.i64.wrap ((s[i].toNat:Int)-48)=(s[i].toNat:Int)-48:=ip _ ⟨by omega,by omega⟩;have e4:IntKind.i64.wrap (10 * (n:Int)+((s[i].toNat:Int)-48))=10 * (n:Int)+((s[i].toNat:Int)-48):=ip _ ⟨by omega,by omega⟩;go_wp2_with (go_at_call 279;refine ag.mono ?_;rintro e w2 ⟨rfl,ac⟩;obtain rfl:=ac.symm)
    refine⟨⟨10 * n+(s[i].toNat-48),i+1,by congr 1;omega,by go_num,by omega,by omega,?_,trivial⟩,by simp[intOf];omega⟩;rw[H1.o trivial,show k-(i+1)=k-i-1 by omega,HJ.o];rfl
  ·obtain rfl:i=k:=ga
   have HE:=f8 (show iL i 0 s.data.toList=some (n,s.data.toList.drop i) by rw[ab.o,np];rfl);clear ab;have ao:(i:Int)<=(s.size:Int):=ga
   have aq:(0:Int)<=(i:Int):=ga
   go_upto_region 10 with (fail)
   go_quiet (fail)
   go_wp2;refine ig (v:=.tuple #[I6 (n:Int),Sv (s.extract i s.size),.bool true]) (by simp[results,results273,go_sem]) rfl ?_;refine⟨⟨_,rfl,?_⟩,⟨rfl,rfl,rfl,gy _,λ_ _=>rfl⟩⟩;rw[HE.o];show _=_;rw[<-rY]
def aBn (y m:Nat):Bool:=(decide (1<=y)&&decide (y<=9999))&&(decide (1<=m)&&decide (m<=12))
theorem uT (y m:Nat) (w:World):CP 295 #[I6 y,I6 m] w λe w'=>e=.returned (if aBn y m=true then .tuple #[I6 (bJ y m),I6 0] else .tuple #[I6 0,I6 17])/\w'=w:=by
 obtain⟨V,hV⟩:=xe (if aBn y m=true then .tuple #[I6 (bJ y m),I6 0] else .tuple #[I6 0,I6 17]:Value)
 rw[<-hV];have HV:=f8 hV;clear hV;by_cases hy:1<=y/\y<=9999<;>by_cases hm:1<=m/\m<=12
 ·have ab:=f8 (qN y m hy.1 hy.2 hm.1 hm.2 w);have HO:=f8 (show aBn y m=true by unfold aBn;simp[hy,hm]);have a1:(1:Int)<=(y:Int):=ga
  have a2:(y:Int)<=9999:=ga
  have a3:(1:Int)<=(m:Int):=ga
  have a4:(m:Int)<=12:=ga
  clear hy hm;go_enter func295,ntmps295
  go_wp2_with (first
   | (go_at_call 281;refine ab.mono ?_;rintro e w2 ⟨rfl,aa⟩;obtain rfl:=aa)
   | (go_at_call 279;refine(oF _ _ _ _).mono ?_;rintro e w2 ⟨rfl,aa⟩;obtain rfl:=aa.symm))
  refine ig (v:=.tuple #[I6 (bJ y m),I6 0]) (by simp[results,results295,go_sem]) rfl ?_;exact⟨by rw[HV.o,HO.o];simp,rfl⟩
 all_goals
  have HO:=f8 (show aBn y m=false by unfold aBn;simp;omega);have hc:(¬ (1:Int)<=(y:Int)\/¬ (y:Int)<=9999)\/((1:Int)<=(y:Int)/\(y:Int)<=9999/\(m=0\/¬ (m:Int)<=12)):=ga
  clear hy hm;rcases hc with (h1|h1)|⟨h1,h2,rfl|h3⟩
  all_goals
   (try have ac:(1:Int)<=(m:Int):=by omega)
   go_enter func295,ntmps295
   go_wp2_with (go_at_call 279;refine(oF _ _ _ _).mono ?_;rintro e w2 ⟨rfl,aa⟩;obtain rfl:=aa.symm)
   all_goals first
    | (exfalso;simp_all<;>omega)
    | (refine ig (v:=.tuple #[I6 0,I6 17]) (by simp[results,results295,go_sem]) rfl ?_;exact⟨by rw[HV.o,HO.o];simp,rfl⟩)
theorem jU (y:Nat):∀(j m:Nat),bC y (j+1) m=bC y j m+bJ y (m+j)
 | 0,m=>by simp[bC]
 | j+1,m=>by
   rw[bC,jU y j (m+1),bC];rw[show m+1+j=m+(j+1) by omega];omega
theorem vQ (y:Nat):∀(j m:Nat),bC y j m<=31 * j
 | 0,m=>by simp[bC]
 | j+1,m=>by
   have:=vQ y j (m+1);have:=wU y m;rw[bC];omega
theorem befY_le (y:Nat) (h:y<=10000):eB y<=4000000:=by unfold eB;omega
theorem aB8 (y m d:Nat) (hy:y<=99999) (hm:m<=99999) (hd:d<=99999) (w:World):CP 272 #[I6 y,I6 m,I6 d] w λe w'=>e=.returned (.tuple #[I6 (dC y m d).1,I6 (dC y m d).2])/\w'=w:=by
 obtain⟨z1,ai⟩:=xe ((dC y m d).1)
 obtain⟨z2,aj⟩:=xe ((dC y m d).2)
 rw[<-ai,<-aj];have HZ:=f8 (show dC y m d=(z1,z2) by rw[ai,aj]);clear ai aj;have ab:=uT y m w;obtain⟨q,hq⟩:=xe (aBn y m)
 rw[<-hq] at ab;have HQ:=f8 hq;clear hq;cases q
 ·have ac:f7 (CP 295 #[I6 y,I6 m] w λe w'=>e=.returned (.tuple #[I6 0,I6 17])/\w'=w):=f8 (ab.mono λe w' ⟨h1,h2⟩=>⟨by rw[h1];rfl,h2⟩);clear ab;go_enter func272,ntmps272
  go_wp2_with (go_at_call 295;refine ac.mono ?_;rintro e w2 ⟨rfl,aa⟩;obtain rfl:=aa.symm)
  go_ret2
  refine⟨?_,rfl⟩;have hn:=HQ.symm;have hz:=HZ.o;unfold dC at hz;rw[gw (by unfold aBn at hn;simp only[p9,decide_eq_false_iff_not] at hn;omega)] at hz;cases hz;rfl
 ·have hn:=HQ.symm;unfold aBn at hn;simp only[kg,jw] at hn;obtain⟨⟨y1,y2⟩,m1,m2⟩:=hn;have ac:f7 (CP 295 #[I6 y,I6 m] w λe w'=>e=.returned (.tuple #[I6 (bJ y m),I6 0])/\w'=w):=f8 (ab.mono λe w' ⟨h1,h2⟩=>⟨by rw[h1];rfl,h2⟩);clear ab;have ad:=f8 (oF d 1 (bJ y m) w);obtain⟨mx,ak⟩:=xe (bJ y m:Nat)
  rw[<-ak] at ac ad;have ao:=f8 ak;clear ak;by_cases ae:1<=d/\d<=mx
  ·have am:=f8 ae;have q1:(decide ((1:Int)<=(d:Int))&&decide ((d:Int)<=(mx:Int)))=true:=by simp;omega
   rw[q1] at ad;have ap:=f8 (uN y y1 ga w);have aw:=befY_le y ga;obtain⟨bf,af⟩:=xe (eB y)
   rw[<-af] at ap aw;have HB:=f8 af;have av:=f8 (λ(k:Nat) (h1:1<=k) (h2:k<=12)=>qN y k y1 y2 h1 h2 w);have ax:=f8 (λ(k:Nat)=>(vQ y k 1));have al:=f8 (λk=>wU y k);have e1:IntKind.i64.wrap (-719162+(bf:Int)) = -719162+bf:=ip _ ⟨by omega,by omega⟩;have e2:IntKind.i64.wrap (-719162+(bf:Int)+d) = -719162+bf+d:=ip _ ⟨by omega,by omega⟩;have e3:IntKind.i64.wrap (-719162+(bf:Int)+d-1) = -719162+bf+d-1:=ip _ ⟨by omega,by omega⟩;clear ae q1 af;go_enter func272,ntmps272
   go_wp2_with (first
    | (go_at_call 280;refine ap.mono ?_;rintro e w2 ⟨rfl,rfl⟩)
    | (go_at_call 279;refine ad.mono ?_;rintro e w2 ⟨rfl,aa⟩;obtain rfl:=aa.symm)
    | (go_at_call 295;refine ac.mono ?_;rintro e w2 ⟨rfl,aa⟩;obtain rfl:=aa.symm))
   go_loop [10,11] (λa i=>∃k S:Nat,1<=k/\k<=m/\i=I6 k/\S=bC y (k-1) 1/\S<=31 * (k-1)/\a=I6 (-719162+bf+d-1+S)) (λ_ i=>m-(intOf i).toNat)
   case atStart=>exact⟨1,0,gy _,m1,rfl,rfl,by omega,by simp⟩
   case round =>
    obtain⟨k,S,k1,k2,rfl,hS,ay,rfl⟩:=hrel;have HS:=f8 hS;clear hS e1 e2 e3;by_cases az:k<m
    ·have ag:(k:Int)<(m:Int):=ga
     have ah:=av.o k k1 ga;have au:=al.o k;have aq:=f8 (show bC y k 1=S+bJ y k by
      have:=jU y (k-1) 1;rw[show k-1+1=k by omega,show 1+(k-1)=k by omega] at this;rw[this,HS.o])
     obtain⟨mk,an⟩:=xe (bJ y k)
     rw[<-an] at ah au aq;have ar:=f8 ah;have e4:IntKind.i64.wrap (-719162+(bf:Int)+d-1+S+mk) = -719162+bf+d-1+S+mk:=ip _ ⟨by omega,by omega⟩;clear ah an;go_wp2_with (go_at_call 281;refine ar.mono ?_;rintro e w2 ⟨rfl,rfl⟩)
     go_round
     case rel=>exact⟨k+1,S+mk,by omega,by omega,by go_num,by rw[show k+1-1=k by omega];exact aq.symm,by omega,by congr 1;omega⟩
     case measure=>simp[intOf];omega
    ·have ag:¬ (k:Int)<(m:Int):=ga
     obtain rfl:k=m:=ga
     go_wp2
     go_ret2
     refine⟨?_,rfl⟩;have hz:=HZ.o;unfold dC at hz;rw[f9 (by have:=am.o;have:=ao.o;omega),<-HB.o,<-HS.o] at hz;cases hz;rfl
  ·have am:=f8 ae;have q1:(decide ((1:Int)<=(d:Int))&&decide ((d:Int)<=(mx:Int)))=false:=by
    rw[p9];simp only[decide_eq_false_iff_not];omega
   rw[q1] at ad;clear ae q1;go_enter func272,ntmps272
   go_wp2_with (first
    | (go_at_call 279;refine ad.mono ?_;rintro e w2 ⟨rfl,aa⟩;obtain rfl:=aa.symm)
    | (go_at_call 295;refine ac.mono ?_;rintro e w2 ⟨rfl,aa⟩;obtain rfl:=aa.symm))
   go_ret2
   refine⟨?_,rfl⟩;have hz:=HZ.o;unfold dC at hz;rw[gw (by have:=am.o;have:=ao.o;omega)] at hz;cases hz;rfl
theorem aHn (a b:Int) (h1 : -719162<=a) (h2:a<=2932896) (h3:0<=b) (h4:b<=86399999) (w:World):CP 274 #[I6 a,I6 b] w λe w'=>e=.returned (.tuple #[I6 (a * 86400000+b),I6 0])/\w'=w:=by
 have e1:IntKind.i64.wrap (a * 86400000)=a * 86400000:=ip _ ⟨by omega,by omega⟩;have e2:IntKind.i64.wrap (a * 86400000+b)=a * 86400000+b:=ip _ ⟨by omega,by omega⟩;go_enter func274,ntmps274
 go_wp2_with (go_at_call 279;refine(oF _ _ _ _).mono ?_;rintro e w2 ⟨rfl,aa⟩;obtain rfl:=aa.symm)
 go_ret2
 exact⟨rfl,rfl⟩
theorem aNr:(prog.info? 3).map (λi=>(i.zero,i.size,i.bytes))=some (some (I6 0),1,8):=by kernel_rfl
def NumsRes (o:Option (List Nat × List UInt8)) (B:Nat) (w':World) (v:Value):Prop:=match o with
 | some (ns,r)=>∃row,v=.tuple #[row,.string ⟨r.toArray⟩,.bool true]/\w'.ownsRow B 3 1 row ns.length (ns.map λ(n:Nat)=>I6 n)
 | none=>∃t:BA,v=.tuple #[Z0,.string t,.bool false]
theorem aHe (m:List UInt8) (k:Nat) (ms:List (List UInt8 × Nat)) (l:List UInt8) (h:Lib.hasPrefix l m=false):bL ((m,k) :: ms) l=none:=by rw[bL,gw h]
theorem aKo (m:List UInt8) (k:Nat) (ms:List (List UInt8 × Nat)) (l:List UInt8) (h:Lib.hasPrefix l m=true):bL ((m,k) :: ms) l=match iL k 0 (Lib.trimPrefix l m) with
 | none=>none
 | some (n,l)=>(bL ms l).map (λ(q:List Nat × List UInt8)=>(n :: q.1,q.2)):=by
 rw[bL,f9 (by simp[h]),Lib.trimPrefix,gw h];cases iL k 0 (l.drop m.length) with
 | none=>rfl
 | some q=>dsimp only;cases bL ms q.2<;>rfl
theorem map_pre (o:Option (List Nat × List UInt8)) (aa:List Nat) (n:Nat):(o.map (λ(q:List Nat × List UInt8)=>(n :: q.1,q.2))).map (λ(q:List Nat × List UInt8)=>(aa++q.1,q.2))=o.map (λ(q:List Nat × List UInt8)=>((aa++[n])++q.1,q.2)):=by cases o<;>simp
theorem aA4 (l p:List UInt8):(Lib.trimPrefix l p).length<=l.length:=by
 unfold Lib.trimPrefix;split
 ·rw[ju];omega
 ·exact gy _
theorem rR:∀(k n:Nat) (l:List UInt8) (v:Nat) (r:List UInt8),iL k n l=some (v,r)->r.length<=l.length/\v<(n+1) * 10 ^ k
 | 0,n,l,v,r,h=>by
   simp only[iL,lw,oq] at h;obtain⟨rfl,rfl⟩:=h;simp
 | k+1,n,[],v,r,h=>by simp[iL] at h
 | k+1,n,c :: l,v,r,h=>by
   rw[iL] at h;split at h
   ·rename_i hc;have hd:48<=c.toNat/\c.toNat<=57:=by unfold bI at hc;simpa using hc
    have:=rR k _ l v r h;refine⟨by simp only[im];omega,ix this.2 ?_⟩;rw[Nat.pow_succ,<-Nat.mul_assoc,Nat.mul_comm ((n+1) * 10 ^ k) 10,<-Nat.mul_assoc];exact oe _ ga
   ·cases h
theorem nP (s:ByteArray) (hs:s.size<=500000) (L:List (List UInt8 × Nat)) (n:Nat) (hn:n=L.length) (bo:n<=20) (bm bd:Nat) (w:World) (hm:∀j (h:j<L.length),w.cell? ⟨bm,j,none⟩=some (Sv ⟨L[j].1.toArray⟩)) (hd:∀j (h:j<L.length),w.cell? ⟨bd,j,none⟩=some (I6 (L[j].2:Nat)))
 (hk:∀j (h:j<L.length),L[j].2<=9) (a9:bm<w.heap.size) (a7:bd<w.heap.size) :
 CP 271 #[Sv s,Sl (So bm 0) n n,Sl (So bd 0) n n] w λx w'=>(∃v,x=.returned v/\NumsRes (bL L s.data.toList) w.heap.size w' v)/\BB w w':=by
 obtain⟨ti,hi,bf,bb,be⟩:=jr aNr;obtain⟨HM,HD,HK,HN⟩:=h_4 hm hd hk hn;clear hm hd hk hn;go_enter func271,ntmps271
 go_wp2
 go_loopw [6,7,15] (λvv rv iv wr=>∃(k:Nat) (aa:List Nat) (v:Value) (rest:ByteArray),v=vv/\rv=Sv rest/\iv=I6 k/\k<=n/\aa.length=k/\rest.size<=500000/\wr.ownsRow w.heap.size 3 1 v aa.length (aa.map λ(n:Nat)=>I6 n)/\bL L s.data.toList=(bL (L.drop k) rest.data.toList).map (λ(q:List Nat × List UInt8)=>(aa++q.1,q.2))/\BB w wr) (λ_ _ iv _=>n-(intOf iv).toNat)
 case atStart=>exact⟨0,[],_,s,rfl,rfl,rfl,ii _,rfl,hs,lf _ _ _ _,by rw[List.drop_zero];cases bL L s.data.toList<;>rfl,gx _ _⟩
 case round =>
  obtain⟨k,aa,v,rest,rfl,rfl,rfl,bi,a4,bg,al,a3,a2⟩:=hrel;obtain⟨ae,az,ab,aw⟩:=h_4 al a3 a2 a4;clear al a3 a2 a4;by_cases bl:k<n
  ·have au:(k:Int)<(n:Int):=ga
   have bh:(0:Int)<=(k:Int):=ga
   have an:k<L.length:=by have:=HN.o;omega
   obtain⟨m,d,ak⟩:∃m d,(m,d)=L[k]:=⟨_,_,rfl⟩
   have ba:d<=9:=by have:=HK.o k an;rw[<-ak] at this;exact this
   have bn:wr.cell? ⟨bm,k,none⟩=some (Sv ⟨m.toArray⟩):=by
    have:=HM.o k an;rw[<-ak] at this;exact(ab.cell (p:=⟨bm,k,none⟩) a9).trans this
   have bk:wr.cell? ⟨bd,k,none⟩=some (I6 (d:Nat)):=by
    have:=HD.o k an;rw[<-ak] at this;exact(ab.cell (p:=⟨bd,k,none⟩) a7).trans this
   have a1:=f8 (show L.drop k=(m,d) :: L.drop (k+1) by rw[ak];exact i8 an);have ao:=Tryz.strings_CutPrefix rest ⟨m.toArray⟩ wr;rw[show(⟨m.toArray⟩:ByteArray).data.toList=m from rfl] at ao;have bc:=f8 (aA4 rest.data.toList m);have a6:rest.data.toList.length=rest.size:=rfl;obtain⟨t,ht⟩:∃t:List UInt8,t=Lib.trimPrefix rest.data.toList m:=⟨_,rfl⟩
   obtain⟨p,hp⟩:=xe (Lib.hasPrefix rest.data.toList m:Bool)
   rw[<-ht,<-hp] at ao;have bj:t.length<=rest.size:=by have:=bc.o;rw[<-ht,a6] at this;exact this
   obtain⟨aq,HT,HP⟩:=h_3 ao ht hp;clear ao ht hp ak;cases p
   ·have HF:=f8 (show bL L s.data.toList=none by rw[az.o,a1.o,aHe _ _ _ _ HP.symm];rfl);go_wp2_with (go_at_call 44;refine aq.mono ?_;rintro e w2 ⟨rfl,ai⟩;obtain rfl:=ai.symm)
    refine ig (v:=.tuple #[Z0,Sv s,.bool false]) (by simp[results,results271,go_sem]) rfl ?_;exact⟨⟨_,rfl,by rw[HF.o];exact⟨_,rfl⟩⟩,ab.o⟩
   ·have ap:=f8 (oO ⟨t.toArray⟩ (by rw[bE];omega) d ba wr);rw[show(⟨t.toArray⟩:ByteArray).data.toList=t from rfl] at ap;have am:=f8 (show bL L s.data.toList=(match iL d 0 t with
     | none=>none
     | some (n,l)=>(bL (L.drop (k+1)) l).map (λ(q:List Nat × List UInt8)=>(n :: q.1,q.2))).map (λ(q:List Nat × List UInt8)=>(aa++q.1,q.2)) by
     rw[az.o,a1.o,aKo _ _ _ _ HP.symm,<-HT.o])
    have av:=f8 (λv r=>rR d 0 t v r);obtain⟨o,ho⟩:=xe (iL d 0 t)
    rw[<-ho] at ap am;rw[<-ho] at av;clear ho;cases o with
    | none =>
      have HF:=f8 (show bL L s.data.toList=none by rw[am.o];rfl);go_wp2_with (first
       | (go_at_call 273;refine ap.mono ?_;rintro e w2 ⟨⟨v2,rfl,tz,rfl⟩,ah⟩;have af:=f8 ah;clear ah)
       | (go_at_call 44;refine aq.mono ?_;rintro e w2 ⟨rfl,ai⟩;obtain rfl:=ai.symm))
      refine ig (v:=.tuple #[Z0,Sv s,.bool false]) (by simp[results,results271,go_sem]) rfl ?_;exact⟨⟨_,rfl,by rw[HF.o];exact⟨_,rfl⟩⟩,ab.trans (af.mono ab.size)⟩
    | some nr =>
      obtain⟨nv,nr⟩:=nr;have a8:=(av.o nv nr rfl).1;have a0:=f8 (am.trans (map_pre _ _ _));have aj:aa.length+1<=maxLen:=by unfold maxLen;have:=aw.o;omega
      have ag:(aa.length+1) * 8<=140737488355328:=by have:=aw.o;omega
      clear av am;go_wp2_with (first
       | (at_builtin;refine qq _ gh _ _ 61 gh w.heap.size 3 ti _ 1 8 underlying61 hi bf bb be rfl ga _ _ _ gh ((fS ae.o af.o).alloc _) ⟨w2.heap.size,0,none⟩ 1 1 [I6 (nv:Nat)] gh gh (cell_one_new _ _ _) gj aj ag (by have:=ab.size;have:=af.size;simp at *;omega) ?_;intro v' w5 ad ac ay ax;obtain⟨a5,HG⟩:=h_2 ad ac;clear ad ac ay ax)
       | (go_at_call 273;refine ap.mono ?_;rintro e w2 ⟨⟨v2,rfl,rfl⟩,ah⟩;have af:=f8 ah;clear ah)
       | (go_at_call 44;refine aq.mono ?_;rintro e w2 ⟨rfl,ai⟩;obtain rfl:=ai.symm))
      have ar:BB w w2:=ab.trans (af.mono ab.size);refine⟨⟨k+1,aa++[nv],_,⟨nr.toArray⟩,rfl,rfl,by go_num,by omega,by rw[ik,aw.o];rfl,by rw[bE];omega,?_,a0.o,(ar.alloc ar.size _).grown HG.o (by have:=ar.size;simp at this ⊢;omega) (λr e=>rO ae.o r e)⟩,by simp[intOf];omega⟩;have h:=a5.o;simp only[kh,jv,List.map_nil,ik,im,i7] at h ⊢;exact h
  ·obtain rfl:k=n:=ga
   have au:¬ (k:Int)<(k:Int):=ga
   have HF:=f8 (show bL L s.data.toList=some (aa,rest.data.toList) by
    rw[az.o,ph (by have:=HN.o;omega)];simp[bL])
   go_wp2;refine ig (v:=.tuple #[v,Sv rest,.bool true]) (by simp[results,results271,go_sem]) rfl ?_;exact⟨⟨_,rfl,by rw[HF.o];exact⟨v,rfl,ae.o⟩⟩,ab.o⟩
theorem aAl {w:World} {aa:Nat} {e:TypeId} {size n:Nat} {v:Value} {xs:List Value} (h:w.ownsRow aa e size v (n+1) xs):∃g cap,v=Sl (So g 0) (n+1) cap:=by
 rcases h.2 with ⟨_,h0⟩|⟨g,cap,cur,hv,_⟩
 ·omega
 ·exact⟨g,cap,hv⟩
theorem ltOf' {w:World} {aa:Nat} {e:TypeId} {size n g cap:Nat} {xs:List Value} (h:w.ownsRow aa e size (Sl (So g 0) n cap) n xs):g<w.heap.size:=by
 rcases h.2 with ⟨h0,_⟩|⟨g',cap',cur,hv,_,hg,_⟩
 ·cases h0
 ·cases hv;exact ltOf hg
theorem rT:∀(L:List (List UInt8 × Nat)) (l:List UInt8) (ns:List Nat) (r:List UInt8),(∀x∈L,x.2<=4)->bL L l=some (ns,r)->ns.length=L.length/\(∀n∈ns,n<=9999)/\r.length<=l.length
 | [],l,ns,r,_,h=>by
   simp only[bL,lw,oq] at h;obtain⟨rfl,rfl⟩:=h;exact⟨rfl,λn hn=>(by cases hn),gy _⟩
 | (m,k) :: L,l,ns,r,hL,h=>by
   rw[bL] at h;split at h
   ·cases h
   cases hd:iL k 0 (l.drop m.length) with
   | none=>rw[hd] at h;cases h
   | some q =>
     rw[hd] at h;dsimp only at h;cases hm:bL L q.2 with
     | none=>rw[hm] at h;cases h
     | some p =>
       rw[hm] at h;simp only[lw,oq] at h;obtain⟨rfl,rfl⟩:=h;obtain⟨h1,h2,h3⟩:=rT L q.2 p.1 p.2 (λx hx=>hL x (ja _ hx)) hm;obtain⟨h4,h5⟩:=rR k 0 _ q.1 q.2 hd;have hk:k<=4:=hL (m,k) (iw ..);have hp:(10:Nat) ^ k<=10 ^ 4:=Nat.pow_le_pow_right gb hk;refine⟨by rw[im,im,h1],?_,by rw[ju] at h4;omega⟩;intro n hn;rcases List.mem_cons.1 hn with rfl|hn
       ·omega
       ·exact h2 n hn
theorem aOk {l:List UInt8} (h:bL [([],4),([45],2),([45],2)] l=none):gX l=(0,13):=by unfold gX;rw[h]
theorem aM1 {l:List UInt8} {y m d:Nat} {r:List UInt8} (h:bL [([],4),([45],2),([45],2)] l=some ([y,m,d],r)) (hr:r≠[]):gX l=(0,13):=by
 unfold gX;rw[h];cases r with
 | nil=>exact absurd rfl hr
 | cons c r=>rfl
theorem calP_good {l:List UInt8} {y m d:Nat} (h:bL [([],4),([45],2),([45],2)] l=some ([y,m,d],[])):gX l=dC y m d:=by unfold gX;rw[h]
theorem aMk {ns:List Nat} (h:ns.length=3):∃y m d,ns=[y,m,d]:=by
 match ns,h with
 | [y,m,d],_=>exact⟨y,m,d,rfl⟩
theorem zT (s:BA) (hs:s.size<=500000) (w:World):CP 230 #[Sv s] w λx w'=>x=.returned (.tuple #[I6 (gX s.data.toList).1,I6 (gX s.data.toList).2])/\BB w w':=by
 obtain⟨z1,aj⟩:=xe ((gX s.data.toList).1)
 obtain⟨z2,ag⟩:=xe ((gX s.data.toList).2)
 rw[<-aj,<-ag];have HZ:=f8 (show gX s.data.toList=(z1,z2) by rw[aj,ag]);clear aj ag;have af:=f8 (nP s hs [([],4),([45],2),([45],2)] 3 rfl gb w.heap.size (w.heap.size+1) ((w.alloc (.cells #[Sv ⟨#[]⟩,Sv ⟨#[45]⟩,Sv ⟨#[45]⟩] 9)).alloc (.cells #[I6 4,I6 2,I6 2] 3))
  (by intro j h;match j,h with|0,_=>simp|1,_=>simp|2,_=>simp) (by intro j h;match j,h with|0,_=>simp|1,_=>simp|2,_=>simp) (by intro j h;match j,h with|0,_=>exact(by decide:4<=9)|1,_=>exact(by decide:2<=9)|2,_=>exact(by decide:2<=9)) gi ge)
 have ad:=f8 (show BB w ((w.alloc (.cells #[Sv ⟨#[]⟩,Sv ⟨#[45]⟩,Sv ⟨#[45]⟩] 9)).alloc (.cells #[I6 4,I6 2,I6 2] 3)) from((bR w).alloc lr _).alloc ge _);have ai:=f8 (λns r=>rT [([],4),([45],2),([45],2)] s.data.toList ns r gb);obtain⟨o,ho⟩:=xe (bL [([],4),([45],2),([45],2)] s.data.toList)
 rw[<-ho] at af ai;have HO:=f8 ho;clear ho;cases o with
 | none =>
   go_enter func230,ntmps230
   go_wp2_with (go_at_call 271;refine af.mono ?_;rintro e w2 ⟨⟨v2,rfl,tz,rfl⟩,ac⟩;have ae:=f8 ac;clear ac)
   go_ret2
   refine⟨?_,ad.trans (ae.mono ad.size)⟩;have hz:=HZ.o;rw[aOk HO.symm] at hz;cases hz;rfl
 | some q =>
   obtain⟨ns,r⟩:=q;obtain⟨hl,h9,ak⟩:=ai.o ns r rfl;obtain⟨y,m,d,rfl⟩:=aMk hl;have hy:y<=9999:=h9 y ge;have hm:m<=9999:=h9 m ge;have hd:d<=9999:=h9 d ge;clear ai hl h9 ak;by_cases hr:r=[]
   ·subst hr;have ah:=f8 (λw'=>aB8 y m d ga ga ga w');rw[<-calP_good HO.symm,HZ.o] at ah;dsimp only at ah;go_enter func230,ntmps230
    go_upto_region 4 with (go_at_call 271;refine af.mono ?_;rintro e w2 ⟨⟨v2,rfl,row,rfl,aa⟩,ac⟩;obtain⟨ae,ab⟩:=h_2 ac aa;clear ac aa)
    obtain⟨g,cap,rfl⟩:=aAl ab.o;have an:w2.cell? ⟨g,0,none⟩=some (I6 (y:Nat)):=ab.cellAt 0 ge;have ao:w2.cell? ⟨g,1,none⟩=some (I6 (m:Nat)):=ab.cellAt 1 ge;have am:w2.cell? ⟨g,2,none⟩=some (I6 (d:Nat)):=ab.cellAt 2 ge
    go_quiet ((go_at_call 272;exact Calls.quiet_of_same (ah.o _)))
    go_wp2
    go_ret2
    exact⟨rfl,ad.trans ((ae.mono ad.size).trans ⟨rfl,rfl,rfl,gy _,λ_ _=>rfl⟩)⟩
   ·have ap:r.isEmpty=false:=by cases r with|nil=>exact absurd rfl hr|cons a b=>rfl
    have al:=f8 hr;clear hr;go_enter func230,ntmps230
    go_wp2_with (go_at_call 271;refine af.mono ?_;rintro e w2 ⟨⟨v2,rfl,row,rfl,aa⟩,ac⟩;obtain⟨ae,ab⟩:=h_2 ac aa;clear ac aa)
    go_ret2
    refine⟨?_,ad.trans (ae.mono ad.size)⟩;have hz:=HZ.o;rw[aM1 HO.symm al.o] at hz;cases hz;rfl
def aB3 (r:List UInt8):Option (Nat × List UInt8):=if Lib.hasPrefix r [46] then (match iL 3 0 (r.drop 1) with|some (n,r)=>if n=0 then none else some (n,r)|none=>none) else some (0,r)
theorem aFp {l:List UInt8} (h:bL [([],4),([45],2),([45],2),([84],2),([58],2),([58],2)] l=none):jN l=(0,13):=by unfold jN;rw[h]
theorem aFo {l:List UInt8} {y m d h i s:Nat} {r:List UInt8} (hm:bL [([],4),([45],2),([45],2),([84],2),([58],2),([58],2)] l=some ([y,m,d,h,i,s],r)):jN l=(match aB3 r with
 | none=>(0,13)
 | some (z,r)=>if r≠[90] then (0,13) else if (dC y m d).2≠0\/23<h\/59<i\/59<s then (0,17) else ((dC y m d).1 * 86400000+(((60 * h+i) * 60+s) * 1000+z:Nat),0)):=by
 unfold jN;rw[hm];rfl
theorem aMt {ns:List Nat} (h:ns.length=6):∃y m d h i s,ns=[y,m,d,h,i,s]:=by
 match ns,h with
 | [y,m,d,h,i,s],_=>exact⟨y,m,d,h,i,s,rfl⟩
theorem rE (y:Nat):∀(j k m:Nat),bC y j m<=bC y (j+k) m
 | j,0,m=>gy _
 | j,k+1,m=>by
   have:=rE y j k m;rw[show j+(k+1)=(j+k)+1 by omega,jU];omega
theorem aOl (y:Nat) (h:y<=10000):eB y<=3652059:=by unfold eB;omega
theorem aFg {y m d:Nat} (h:(dC y m d).2=0) : -719162<=(dC y m d).1/\(dC y m d).1<=2932896:=by
 unfold dC at h ⊢;split at h
 ·cases h
 ·rename_i hn;rw[f9 hn];have hy:1<=y/\y<=9999:=ga
  have hm:1<=m/\m<=12:=ga
  have hd:1<=d/\d<=bJ y m:=ga
  have h1:=rA y hy.1;have h2:=aOl (y+1) ga;have h3:=jU y (m-1) 1;rw[show 1+(m-1)=m by omega,show m-1+1=m by omega] at h3;have h4:=rE y m (12-m) 1;rw[show m+(12-m)=12 by omega] at h4;dsimp only;omega
def FracRel (r:List UInt8) (w:World) (v5 v7:Value) (wz:World):Prop:=∃z rr,v7=I6 (z:Nat)/\v5=.string ⟨rr.toArray⟩/\aB3 r=some (z,rr)/\z<=999/\BB w wz
theorem aD7 (s:BA) (hs:s.size<=500000) (w:World):CP 232 #[Sv s] w λx w'=>x=.returned (.tuple #[I6 (jN s.data.toList).1,I6 (jN s.data.toList).2])/\BB w w':=by
 have bu:s.data.toList.length=s.size:=rfl;obtain⟨z1,ax⟩:=xe ((jN s.data.toList).1)
 obtain⟨z2,az⟩:=xe ((jN s.data.toList).2)
 rw[<-ax,<-az];have HZ:=f8 (show jN s.data.toList=(z1,z2) by rw[ax,az]);clear ax az;have av:=f8 (nP s hs [([],4),([45],2),([45],2),([84],2),([58],2),([58],2)] 6 rfl gb w.heap.size (w.heap.size+1) ((w.alloc (.cells #[Sv ⟨#[]⟩,Sv ⟨#[45]⟩,Sv ⟨#[45]⟩,Sv ⟨#[84]⟩,Sv ⟨#[58]⟩,Sv ⟨#[58]⟩] 9)).alloc (.cells #[I6 4,I6 2,I6 2,I6 2,I6 2,I6 2] 3))
  (by intro j h;match j,h with|0,_=>simp|1,_=>simp|2,_=>simp|3,_=>simp|4,_=>simp|5,_=>simp) (by intro j h;match j,h with|0,_=>simp|1,_=>simp|2,_=>simp|3,_=>simp|4,_=>simp|5,_=>simp)
  (by intro j h;match j,h with|0,_=>exact(by decide:4<=9)|1,_=>exact(by decide:2<=9)|2,_=>exact(by decide:2<=9)|3,_=>exact(by decide:2<=9)|4,_=>exact(by decide:2<=9)|5,_=>exact(by decide:2<=9)) gi ge)
 have ar:=f8 (show BB w ((w.alloc (.cells #[Sv ⟨#[]⟩,Sv ⟨#[45]⟩,Sv ⟨#[45]⟩,Sv ⟨#[84]⟩,Sv ⟨#[58]⟩,Sv ⟨#[58]⟩] 9)).alloc (.cells #[I6 4,I6 2,I6 2,I6 2,I6 2,I6 2] 3)) from((bR w).alloc lr _).alloc ge _);have ak:=f8 (λns r=>rT [([],4),([45],2),([45],2),([84],2),([58],2),([58],2)] s.data.toList ns r gb);obtain⟨o,ho⟩:=xe (bL [([],4),([45],2),([45],2),([84],2),([58],2),([58],2)] s.data.toList)
 rw[<-ho] at av ak;have HO:=f8 ho;clear ho;cases o with
 | none =>
   go_enter func232,ntmps232
   go_wp2_with (go_at_call 271;refine av.mono ?_;rintro e w2 ⟨⟨v2,rfl,tz,rfl⟩,ao⟩;have ad:=f8 ao;clear ao)
   go_ret2
   refine⟨?_,ar.trans (ad.mono ar.size)⟩;have hz:=HZ.o;rw[aFp HO.symm] at hz;cases hz;rfl
 | some q =>
   obtain⟨ns,r⟩:=q;obtain⟨hl,h9,bp⟩:=ak.o ns r rfl;obtain⟨y,m,d,h,i,s6,rfl⟩:=aMt hl;have hy:y<=9999:=h9 y ge;have hm:m<=9999:=h9 m ge;have hd:d<=9999:=h9 d ge;have hh:h<=9999:=h9 h ge;have hi:i<=9999:=h9 i ge;have b0:s6<=9999:=h9 s6 ge;have a4:=f8 ((aFo HO.symm).symm.trans HZ.o);have au:=λw'=>Tryz.strings_CutPrefix ⟨r.toArray⟩ ⟨#[46]⟩ w';rw[show(⟨r.toArray⟩:BA).data.toList=r from rfl,show(⟨#[46]⟩:BA).data.toList=[46] from rfl] at au;obtain⟨p,hp⟩:=xe (Lib.hasPrefix r [46]:Bool)
   obtain⟨t,ht⟩:∃t:List UInt8,t=Lib.trimPrefix r [46]:=⟨_,rfl⟩
   rw[<-hp,<-ht] at au;have a6:=f8 au;have bz:t.length<=s.size:=by have:=aA4 r [46];rw[<-ht] at this;omega
   have am:=f8 (show aB3 r=if p=true then (match iL 3 0 t with|some (n,r)=>if n=0 then none else some (n,r)|none=>none) else some (0,r) by
    unfold aB3;rw[<-hp];cases p
    ·rfl
    ·rw[ht,Lib.trimPrefix,gw hp.symm];rfl)
   clear ak hl h9 bp au hp ht;go_enter func232,ntmps232
   go_upto_if 27 with (first
    | (go_at_call 271;refine av.mono ?_;rintro e w2 ⟨⟨v2,rfl,row,rfl,ap⟩,ao⟩;have ad:=f8 (ar.trans (ao.mono ar.size));have aa:=f8 ap;clear ao ap)
    | (go_at_call 44;refine(a6.o _).mono ?_;rintro e w3 ⟨rfl,bs⟩;obtain rfl:=bs.symm))
   obtain⟨g,cap,rfl⟩:=aAl aa.o;have bg:w2.cell? ⟨g,0,none⟩=some (I6 (y:Nat)):=aa.cellAt 0 ge;have be:w2.cell? ⟨g,1,none⟩=some (I6 (m:Nat)):=aa.cellAt 1 ge;have a8:w2.cell? ⟨g,2,none⟩=some (I6 (d:Nat)):=aa.cellAt 2 ge;have bh:w2.cell? ⟨g,3,none⟩=some (I6 (h:Nat)):=aa.cellAt 3 ge;have ba:w2.cell? ⟨g,4,none⟩=some (I6 (i:Nat)):=aa.cellAt 4 ge;have a5:w2.cell? ⟨g,5,none⟩=some (I6 (s6:Nat)):=aa.cellAt 5 ge
   have a9:=f8 (show(w2.cell? ⟨g,0,none⟩=_/\w2.cell? ⟨g,1,none⟩=_/\w2.cell? ⟨g,2,none⟩=_/\w2.cell? ⟨g,3,none⟩=_/\w2.cell? ⟨g,4,none⟩=_/\w2.cell? ⟨g,5,none⟩=_) from⟨bg,be,a8,bh,ba,a5⟩);clear bg be a8 bh ba a5
   go_cut [5,7] (λv5 v7 wz=>FracRel r w v5 v7 wz/\BB w2 wz)
   case first =>
    cases p
    ·go_wp2
     go_meet
     exact⟨⟨0,r,rfl,rfl,by rw[am.o];rfl,by decide,ad.o⟩,gx _ _⟩
    ·have aq:=f8 (oO ⟨t.toArray⟩ (by rw[bE];omega) 3 gb w2);rw[show(⟨t.toArray⟩:BA).data.toList=t from rfl] at aq;have ak:=f8 (λv r=>rR 3 0 t v r);obtain⟨o,ho⟩:=xe (iL 3 0 t)
     rw[<-ho] at aq am;rw[<-ho] at ak;clear ho;cases o with
     | none =>
       go_wp2_with (go_at_call 273;refine aq.mono ?_;rintro e w4 ⟨⟨v2,rfl,tz,rfl⟩,ag⟩;have ai:=f8 ag;clear ag)
       go_ret2
       refine⟨?_,ad.trans (ai.mono ad.size)⟩;have hz:=a4.o;rw[am.o] at hz;cases hz;rfl
     | some nr =>
       obtain⟨nv,nr⟩:=nr;have bm:=(ak.o nv nr rfl).2;by_cases a1:nv=0
       ·subst a1;go_wp2_with (go_at_call 273;refine aq.mono ?_;rintro e w4 ⟨⟨v2,rfl,rfl⟩,ag⟩;have ai:=f8 ag;clear ag)
        go_ret2
        refine⟨?_,ad.trans (ai.mono ad.size)⟩;have hz:=a4.o;rw[am.o] at hz;cases hz;rfl
       ·have qz:((nv:Int)==0)=false:=by simp;omega
        have bl:=f8 a1;clear a1;go_wp2_with (go_at_call 273;refine aq.mono ?_;rintro e w4 ⟨⟨v2,rfl,rfl⟩,ag⟩;have ai:=f8 ag;clear ag)
        go_meet
        refine⟨⟨nv,nr,rfl,rfl,?_,by omega,ad.trans (ai.mono ad.size)⟩,ai.o⟩;rw[am.o];exact f9 bl.o
   case rest =>
   obtain⟨⟨z,rr,rfl,rfl,bc,bt,ay⟩,af⟩:=hcut;obtain⟨wb,bd⟩:=xe wc
   rw[<-bd] at ay af ⊢;clear bd am a6 av ar;have aj:g<w2.heap.size:=ltOf' aa.o;obtain⟨k0,k1,k2,k3,k4,k5⟩:=a9.o;have c0:=(af.cell (p:=⟨g,0,none⟩) aj).trans k0;have c1:=(af.cell (p:=⟨g,1,none⟩) aj).trans k1;have c2:=(af.cell (p:=⟨g,2,none⟩) aj).trans k2;have c3:=(af.cell (p:=⟨g,3,none⟩) aj).trans k3;have c4:=(af.cell (p:=⟨g,4,none⟩) aj).trans k4;have c5:=(af.cell (p:=⟨g,5,none⟩) aj).trans k5
   have ae:=f8 (show(if rr≠[90] then ((0:Int),(13:Int)) else if (dC y m d).2≠0\/23<h\/59<i\/59<s6 then (0,17) else ((dC y m d).1 * 86400000+(((60 * h+i) * 60+s6) * 1000+z:Nat),0))=(z1,z2) by
    have:=a4.o;rw[bc] at this;exact this)
   have bb:=f8 ay;clear k0 k1 k2 k3 k4 k5 bc ay af a9;by_cases hr:rr=[90]
   ·subst hr;have bi:=f8 (λw'=>aB8 y m d ga ga ga w');have bf:=f8 (aFg (y:=y) (m:=m) (d:=d));rw[f9 ge] at ae;obtain⟨d1,a0⟩:=xe ((dC y m d).1)
    obtain⟨d2,aw⟩:=xe ((dC y m d).2)
    rw[<-a0,<-aw] at bf ae;have a2:f7 (∀w',CP 272 #[I6 y,I6 m,I6 d] w' λe w2=>e=.returned (.tuple #[I6 d1,I6 d2])/\w2=w'):=f8 (by rw[a0,aw];exact bi.o);clear a0 aw bi;go_upto_region 12 with (fail)
    go_quiet ((go_at_call 272;exact Calls.quiet_of_same (a2.o _)))
    rename_i nq;obtain⟨wq,al⟩:=xe (wb.drewN nq)
    rw[<-al];have d3:wq.cell? ⟨g,3,none⟩=some (I6 (h:Nat)):=by rw[al];exact c3
    have d4:wq.cell? ⟨g,4,none⟩=some (I6 (i:Nat)):=by rw[al];exact c4
    have d5:wq.cell? ⟨g,5,none⟩=some (I6 (s6:Nat)):=by rw[al];exact c5
    have an:=f8 (show BB w wq from bb.trans (by rw[al];exact⟨rfl,rfl,rfl,gy _,λ_ _=>rfl⟩));clear al c0 c1 c2 c3 c4 c5;by_cases he:d2=0
    ·have qe:(d2==0)=true:=by simp[he]
     have br:(d2 != 0)=false:=by simp[he]
     have ah:=bf.o he;have HE:=f8 he;clear he;by_cases ab:23<h\/59<i\/59<s6
     ·have ac:=f8 ab;by_cases bk:23<h
      ·have a3:(23:Int)<(h:Int):=ga
       clear ab;go_wp2
       go_ret2
       refine⟨?_,an.trans ⟨rfl,rfl,rfl,gy _,λ_ _=>rfl⟩⟩;have hz:=ae.o;rw[gw (.inr ac.o)] at hz;cases hz;rfl
      ·by_cases bw:59<i
       ·have a3:¬ (23:Int)<(h:Int):=ga
        have a7:(59:Int)<(i:Int):=ga
        clear ab;go_wp2
        go_ret2
        refine⟨?_,an.trans ⟨rfl,rfl,rfl,gy _,λ_ _=>rfl⟩⟩;have hz:=ae.o;rw[gw (.inr ac.o)] at hz;cases hz;rfl
       ·have a3:¬ (23:Int)<(h:Int):=ga
        have a7:¬ (59:Int)<(i:Int):=ga
        have bj:(59:Int)<(s6:Int):=ga
        clear ab;go_wp2
        go_ret2
        refine⟨?_,an.trans ⟨rfl,rfl,rfl,gy _,λ_ _=>rfl⟩⟩;have hz:=ae.o;rw[gw (.inr ac.o)] at hz;cases hz;rfl
     ·have ac:=f8 ab;have a3:¬ (23:Int)<(h:Int):=ga
      have a7:¬ (59:Int)<(i:Int):=ga
      have bj:¬ (59:Int)<(s6:Int):=ga
      have bk:h<=23:=ga
      have bx:i<=59:=ga
      have b1:s6<=59:=ga
      clear ab;have e1:IntKind.i64.wrap (60 * (h:Int))=60 * h:=ip _ ⟨by omega,by omega⟩;have e2:IntKind.i64.wrap (60 * (h:Int)+i)=60 * h+i:=ip _ ⟨by omega,by omega⟩;have e3:IntKind.i64.wrap ((60 * (h:Int)+i) * 60)=(60 * h+i) * 60:=ip _ ⟨by omega,by omega⟩;have e4:IntKind.i64.wrap ((60 * (h:Int)+i) * 60+s6)=(60 * h+i) * 60+s6:=ip _ ⟨by omega,by omega⟩;have e5:IntKind.i64.wrap (((60 * (h:Int)+i) * 60+s6) * 1000)=((60 * h+i) * 60+s6) * 1000:=ip _ ⟨by omega,by omega⟩
      have e6:IntKind.i64.wrap (((60 * (h:Int)+i) * 60+s6) * 1000+z)=((60 * h+i) * 60+s6) * 1000+z:=ip _ ⟨by omega,by omega⟩;have bn:=f8 (λw'=>aHn d1 (((60 * (h:Int)+i) * 60+s6) * 1000+z) ah.1 ah.2 ga ga w');clear ah;go_upto_region 15 with (fail)
      go_quiet ((go_at_call 274;exact Calls.quiet_of_same (bn.o _)))
      go_wp2
      go_ret2
      refine⟨?_,an.trans ⟨rfl,rfl,rfl,gy _,λ_ _=>rfl⟩⟩;have hz:=ae.o;rw[f9 (by rw[HE.o];intro h;rcases h with h|h;exact h rfl;exact ac.o h)] at hz;cases hz
      congr 3
    ·have qe:(d2==0)=false:=by simp[he]
     have br:(d2 != 0)=true:=by simp[he]
     have HE:=f8 he;clear he;go_wp2
     go_ret2
     refine⟨?_,an.trans ⟨rfl,rfl,rfl,gy _,λ_ _=>rfl⟩⟩;have hz:=ae.o;rw[gw (.inl HE.o)] at hz;cases hz;rfl
   ·have bq:(rr==([90]:List UInt8))=false:=by rw[qg];exact hr
    have bv:(rr != ([90]:List UInt8))=true:=by rw[bne,bq];rfl
    have bo:=f8 hr;clear hr;go_wp2
    go_ret2
    refine⟨?_,bb.o⟩;have hz:=ae.o;rw[gw bo.o] at hz;cases hz;rfl
end Go.Proofs.YtoodnaghjpkjfaaGreatDoor
