/- A part. -/
import Derived.Test.YtoodnaghjpkjfaaGreatDoorSE17Mrg
import Derived.Test.YtoodnaghjpkjfaaGreatDoorSE21Mrg
namespace Go.Proofs.YtoodnaghjpkjfaaGreatDoor
open Tryz
set_option linter.unusedVariables false
set_option maxRecDepth 100000
set_option maxHeartbeats 64000000
set_option linter.unusedSimpArgs false
open Go Go.RowKit Go.Shelf
def wState:BA:=⟨#[115,116,97,116,101]⟩
def wSlot:BA:=⟨#[115,108,111,116]⟩
def wItem:BA:=⟨#[105,116,101,109]⟩
def wValue:BA:=⟨#[118,97,108,117,101]⟩
/-! ### the text -/
def xH (n t:Int):List UInt8:=jH [wState,aE n,aE t]
def sU (x:Slot):List UInt8:=jH [wSlot,aE x.n,aE x.t,(eE x.k).1]
def jP (m:Msg):List UInt8:=jH [wItem,(iB m).1]
def nS (v:Val):List UInt8:=jH [wValue,(eE v).1]
def mQ (x:Slot):List UInt8:=sU x++(x.items.flatMap jP++x.vals.flatMap nS)
def aGf (d:Sta):List UInt8:=xH d.n d.t++d.l.flatMap mQ
def qW (f e:Int):Int:=if f=0 then e else f
def nC (f:Int) (l:List Msg):Int:=l.foldl (λf m=>qW f (iB m).2) f
def qF (f:Int) (l:List Val):Int:=l.foldl (λf v=>qW f (eE v).2) f
def aGj (f:Int) (x:Slot):Int:=qF (nC (qW f (eE x.k).2) x.items) x.vals
def nX (d:Sta):Int:=d.l.foldl aGj 0
def jQ (d:Sta):BA × Int:=if bZ d≠0 then (⟨#[]⟩,bZ d) else if nX d≠0 then (⟨#[]⟩,nX d) else (⟨(aGf d).toArray⟩,0)
/-! ### lines -/
def lns:List UInt8->List (List UInt8)
 | []=>[]
 | x :: r=>if x=10 then [10] :: lns r else match lns r with
   | []=>[[x]]
   | h :: t=>(x :: h) :: t
theorem aEn:∀l:List UInt8,l≠[]->10 ∉ l->lns l=[l]
 | [],h,_=>absurd rfl h
 | [x],_,h=>by
   have hx:¬ x=10:=λe=>h (by rw[e];exact iw ..);rw[lns,f9 hx];rfl
 | x :: y :: r,_,h=>by
   have hx:¬ x=10:=λe=>h (by rw[e];exact iw ..);rw[lns,f9 hx,aEn (y :: r) ge (λe=>h (ja _ e))]
theorem aJ1 (r:List UInt8):∀l:List UInt8,10 ∉ l->lns (l++10 :: r)=(l++[10]) :: lns r
 | [],_=>by rw[ji,lns,gw rfl];rfl
 | x :: l,h=>by
   have hx:¬ x=10:=λe=>h (by rw[e];exact iw ..);rw[jh,lns,f9 hx,aJ1 r l (λe=>h (ja _ e))];rfl
theorem aKq (l:List UInt8) (h0:l≠[]):(Lib.index l [10] = -1/\lns l=[l])\/∃i:Nat,Lib.index l [10]=i/\i<l.length/\lns l=l.take (i+1) :: lns (l.drop (i+1)):=by
 rcases yK 10 l with h|⟨a,r,h,rfl⟩
 ·exact .inl ⟨uK 10 l h,aEn l h0 h⟩
 ·refine .inr ⟨a.length,nD 10 r a h,by simp,?_⟩;rw[aJ1 r a h,show a++10 :: r=(a++[10])++r by simp,List.take_left' ge,List.drop_left' ge]
theorem aHg:∀l:List UInt8,(∀x∈lns l,x.length<=l.length)/\(lns l).length<=l.length
 | []=>⟨λx hx=>absurd hx (by simp[lns]),gy _⟩
 | y :: r=>by
   have ih:=aHg r;rw[lns];split
   ·refine⟨λx hx=>?_,by simp;exact ih.2⟩;rcases List.mem_cons.1 hx with rfl|hx
    ·simp
    ·have:=ih.1 x hx;simp;omega
   ·split
    ·refine⟨λx hx=>?_,by simp⟩;obtain rfl:=List.mem_singleton.1 hx;simp
    ·rename_i h t he;rw[he] at ih;refine⟨λx hx=>?_,by simp at ih ⊢;omega⟩;rcases List.mem_cons.1 hx with rfl|hx
     ·have:=ih.1 h (iw ..);simp;omega
     ·have:=ih.1 x (ja _ hx);simp;omega
/-! ### the way back -/
def cI (s:BA):BA × BA:=(⟨(Lib.cut s.data.toList [32]).1.toArray⟩,⟨(Lib.cut s.data.toList [32]).2.1.toArray⟩)
theorem aLp (x:BA) (h:(32:UInt8) ∉ x.data.toList):cI x=(x,⟨#[]⟩):=by
 have c:Lib.cut x.data.toList [32]=(x.data.toList,[],false):=by
  unfold Lib.cut;rw[uK 32 _ h,f9 ga]
 unfold cI;rw[c]
theorem aM (s:BA):(cI s).1.size<=s.size/\(cI s).2.size<=s.size:=by
 have e:s.size=s.data.toList.length:=by rw[ByteArray.size,lu]
 rcases yK 32 s.data.toList with h|⟨a,r,h,h2⟩
 ·rw[aLp s h];exact⟨gy _,ii _⟩
 ·have hc:cI s=(⟨a.toArray⟩,⟨r.toArray⟩):=by
   unfold cI Lib.cut;rw[h2,nD 32 _ _ h,gw ga];simp
  rw[hc,e,h2];simp[ByteArray.size];omega
def eR (s:BA):Int × BA × Bool:=(dD (cI s).1.data.toList,(cI s).2,dE (cI s).1.data.toList)
def fG (f:Slot->Slot):List Slot->List Slot
 | []=>[]
 | [x]=>[f x]
 | x :: y :: r=>x :: fG f (y :: r)
theorem lI (f:Slot->Slot) (x:Slot):∀l:List Slot,fG f (l++[x])=l++[f x]
 | []=>rfl
 | [y]=>rfl
 | y :: z :: r=>by
   have ih:=lI f x (z :: r);simp only[jh] at ih ⊢;rw[fG,ih]
def jA (m:Msg) (x:Slot):Slot:=⟨x.k,x.n,x.t,x.items++[m],x.vals⟩
def iY (v:Val) (x:Slot):Slot:=⟨x.k,x.n,x.t,x.items,x.vals++[v]⟩
def eV (d:Sta) (word rest:BA):Option Sta :=
 if word=wState then
  if (eR rest).2.2=true/\(eR (eR rest).2.1).2.2=true then some ⟨(eR rest).1,(eR (eR rest).2.1).1,d.l⟩ else none
 else if word=wSlot then
  if (eR rest).2.2=true/\(eR (eR rest).2.1).2.2=true/\(fK (eR (eR rest).2.1).2.1).2.2=0 then
   some ⟨d.n,d.t,d.l++[⟨(fK (eR (eR rest).2.1).2.1).1,(eR rest).1,(eR (eR rest).2.1).1,[],[]⟩]⟩ else none
 else if d.l=[] then none
 else if word=wItem then match uV rest with
  | some m=>some ⟨d.n,d.t,fG (jA m) d.l⟩
  | none=>none
 else if (fK rest).2.2=0/\word=wValue then some ⟨d.n,d.t,fG (iY (fK rest).1) d.l⟩ else none
def eU:Sta->List (ByteArray × BA)->Option Sta
 | d,[]=>some d
 | d,(a,b) :: l=>match eV d a b with
   | some d'=>eU d' l
   | none=>none
theorem qJ:∀(l r:List (ByteArray × BA)) (d d':Sta),eU d l=some d'->eU d (l++r)=eU d' r
 | [],r,d,d',h=>by
   obtain rfl:=jp h;rfl
 | (a,b) :: l,r,d,d',h=>by
   rw[jh,eU];rw[eU] at h;cases hq:eV d a b with
   | none=>rw[hq] at h;cases h
   | some e =>
     rw[hq] at h;exact qJ l r e d' h
theorem uC:∀(l r:List (ByteArray × BA)) (d:Sta),eU d l=none->eU d (l++r)=none
 | [],r,d,h=>by cases h
 | (a,b) :: l,r,d,h=>by
   rw[jh,eU];rw[eU] at h;cases hq:eV d a b with
   | none=>rfl
   | some e =>
     rw[hq] at h;exact uC l r e h
def aDi (x:List UInt8):BA × BA:=cI ⟨(Lib.trimSuffix x [10]).toArray⟩
def fR (s:BA):List (ByteArray × BA):=(lns s.data.toList).map aDi
def aLl (s:BA):Option Sta:=match eU ⟨0,0,[]⟩ (fR s) with
 | some d=>if jQ d=(s,0) then some d else none
 | none=>none
theorem aIo (l:List UInt8):(Lib.trimSuffix l [10]).length<=l.length:=by
 unfold Lib.trimSuffix;split
 ·rw[ma];omega
 ·exact gy _
theorem vE (x:List UInt8):(aDi x).1.size<=x.length/\(aDi x).2.size<=x.length:=by
 have h1:=aIo x;have h2:=aM ⟨(Lib.trimSuffix x [10]).toArray⟩;rw[bE] at h2;exact⟨io h2.1 h1,io h2.2 h1⟩
theorem aE6 (s:BA) (x:BA × BA) (h:x∈fR s):x.2.size<=s.size:=by
 unfold fR at h;obtain⟨l,hl,rfl⟩:=List.mem_map.1 h;have h1:=(aHg s.data.toList).1 l hl;have h2:=vE l;rw[tQ] at h1;omega
structure LnOK (word rest:BA):Prop where
 z:rest.size<=120000
 slot:word=wSlot->(eR (eR rest).2.1).2.1.size<=65536
 item:word=wItem->∀a b c e,kO 4 rest=[a,b,c,e]->e.size<=65536
 other:word≠wState->word≠wSlot->word≠wItem->rest.size<=65536
theorem pD (s:BA):(eR s).2.1.size<=s.size:=(aM s).2
theorem LnOK.small {word rest:BA} (h:rest.size<=65536):LnOK word rest :=
 ⟨by omega,λ_=>by have a:=pD rest;have b:=pD (eR rest).2.1;omega,λ_ a b c e he=>by have:=lH 4 rest e (by rw[he];simp);omega,λ_ _ _=>h⟩
def jl (xs:List BA) (k:Nat):List UInt8:=Lib.join ((xs.take k).map (·.data.toList)) [32]
def lnB (xs:List BA):List UInt8:=(cE xs ⟨#[32]⟩).data.toList++[10]
theorem aCr (xs:List BA):jl xs 0=[]:=rfl
theorem jl_one (xs:List BA) (h:0<xs.length):jl xs 1=xs[0].data.toList:=by
 unfold jl;obtain⟨a,r,rfl⟩:∃a r,xs=a :: r:=by cases xs with|nil=>simp at h|cons a r=>exact⟨a,r,rfl⟩
 simp[Lib.join_one]
theorem aJ3 (xs:List BA) (k:Nat) (h0:0<k) (h:k<xs.length):jl xs (k+1)=jl xs k++[32]++xs[k].data.toList:=by
 unfold jl;rw[mh h,kh];obtain⟨a,r,hr⟩:∃a r,xs.take k=a :: r:=by
  cases hx:xs.take k with
  | nil =>
    have h3:(xs.take k).length=0:=by rw[hx];rfl
    rw[ma] at h3;omega
  | cons a r=>exact⟨a,r,rfl⟩
 rw[hr,jv,jh,Lib.join_cons,Lib.join_cons];simp[Lib.joinTail]
theorem aNl (xs:List BA):jl xs xs.length=(cE xs ⟨#[32]⟩).data.toList:=by
 unfold jl cE;simp
theorem jl_le (xs:List BA):∀(m k:Nat),k+m<=xs.length->(jl xs k).length<=(jl xs (k+m)).length
 | 0,k,_=>gy _
 | m+1,k,h=>by
   refine io (jl_le xs m k ga) ?_;rw[show k+(m+1)=(k+m)+1 by omega];by_cases h0:0<k+m
   ·rw[aJ3 xs (k+m) h0 ga];simp only[ik];omega
   ·rw[show k+m=0 by omega,aCr];exact ii _
theorem aEu (xs:List BA) (k:Nat) (h:k<=xs.length):(jl xs k).length+1<=(lnB xs).length:=by
 have:=jl_le xs (xs.length-k) k ga;rw[show k+(xs.length-k)=xs.length by omega,aNl] at this;unfold lnB;simp only[ik,im,i7];omega
def qxT (s:BA):BA:=⟨(gV s.data.toList).toArray⟩
def wSnap:BA:=⟨#[115,110,97,112,115,104,111,116]⟩
def pS:BA:=⟨#[97,114,114,105,118,101,100]⟩
def jR:BA:=⟨#[115,101,110,116]⟩
def wQue:BA:=⟨#[113,117,101,117,101,100]⟩
def wLet:BA:=⟨#[108,101,116,116,101,114]⟩
def aJm:BA:=⟨#[100,101,108,105,118,101,114]⟩
def aJl:BA:=⟨#[114,101,113,117,101,115,116]⟩
def aG0:BA:=⟨#[101,110,100]⟩
def wDo (u:Bool):BA:=if u then ⟨#[117,110,100,111]⟩ else ⟨#[100,111]⟩
def aHp (d:Snp):List UInt8:=lnB [wSnap,aE d.v,aE d.e,aE d.t]
def cC (w:BA) (c:Cnt):List UInt8:=lnB [w,c.nm,aE c.nu]
def iE (q:Que):List UInt8:=lnB [wQue,q.nm,aE q.nu,aE q.vr,qxT q.tx]
def iF (l:Let):List UInt8:=lnB [wLet,aE l.vr,l.nd,⟨(aQ l.tx.data.toList).toArray⟩,(iB l.m).1]
def lA (x:Ef):List UInt8:=if x.k=1 then lnB [aJm,x.nm,aE x.nu,dL x.st,qxT x.tx] else lnB [aJl,x.nm,aE x.nu,dL x.st,x.nd,aE x.ca,wDo x.un,(eE x.bd).1]
def jD (s:Sta):List UInt8:=(jQ s).1.data.toList
def lW (x:Ef):Int:=if x.k=1 then 0 else (eE x.bd).2
def lF (d:Snp):List UInt8:=aHp d++d.ns.flatMap jD++d.ar.flatMap (cC pS)++d.se.flatMap (cC jR)++d.qs.flatMap iE++d.ls.flatMap iF++d.ps.flatMap lA++lnB [aG0]
def aJz (d:Snp):Int:=orL [aR (λ_ s=>(jQ s).2) 0 d.ns,aR (λ_ l=>(iB l.m).2) 0 d.ls,aR (λ_ x=>lW x) 0 d.ps]
def jL (d:Snp):BA × Int:=if snE d≠0 then (⟨#[]⟩,snE d) else if aJz d≠0 then (⟨#[]⟩,aJz d) else (⟨(lF d).toArray⟩,0)
theorem dI (B b:Nat) (j:JW) (g c:Nat) (xs:List ByteArray) (w:World) (hx:∀(k:Nat) x,xs[k]?=some x->w.cell? ⟨g,0+k,none⟩=some (Sv x)) (hg:g<w.heap.size) (hl:xs.length<=10) (hc:xs.length<=c) (ab:j.b.length+(lnB xs).length<=140737488355328) (h:IsJw 126 B b j w) (hB:B<=w.heap.size) :
 CP 63 #[Pt b 0,Sl (So g 0) xs.length c] w λe w'=>e=.returned (.tuple #[])/\IsJw 126 B b ⟨j.b++lnB xs,j.e⟩ w'/\Below B w w'/\Lib.OthersKept 5 (some b) w w':=by
 obtain⟨s,hs⟩:∃s,cE xs ⟨#[32]⟩=s:=⟨_,rfl⟩
 have hz:j.b.length+s.size+1<=140737488355328:=by
  unfold lnB at ab;rw[ik,lu,hs] at ab;have h2:s.data.size=s.size:=rfl;rw[h2] at ab
  simpa [Nat.add_assoc] using ab
 have HJ:=f8 (Tryz.strings_Join g 0 c xs ⟨#[32]⟩ w.drew hx hg ga hc (by
  have:(Lib.join (xs.map (·.data.toList)) (⟨#[32]⟩:ByteArray).data.toList).length=s.size:=by rw[<-hs];simp[cE,ByteArray.size]
  rw[this];omega))
 have ag:(⟨(Lib.join (xs.map (·.data.toList)) (⟨#[32]⟩:ByteArray).data.toList).toArray⟩:ByteArray)=s:=hs;rw[ag] at HJ;have HL:f7 (lnW j s=⟨j.b++lnB xs,j.e⟩):=f8 (by unfold lnW lnB;rw[hs,ka]);clear hs ag ab;obtain⟨HI,HZ,ad⟩:=h_3 h hz hB;clear h hx hg hl hc hz hB;go_enter func63,ntmps63
 go_upto_region 0 with (fail)
 refine iz (S:=(λ_=>True)) gd (trivial) (λhS=>?_);refine tA 0 ?_;refine tA 1 ?_;refine tA 2 ?_;refine tA 3 ?_;refine yr 4 λK hK=>?_;go_simp
 go_at_call 48
 refine HJ.mono ?_;rintro e w1 ⟨rfl,aa⟩;have ai:BB w w1:=(bR w).drew.trans aa;clear aa;have ac:=f8 ai;clear ai;refine kOQ hK (trivial) λhS=>?_;clear hK K
 refine yr 5 λK hK=>?_;have HW:=f8 (vC 126 snwT B b j s w1 (HI.ext (ac.o)) (by have:=HZ.o;omega) (by have:=ac.size;have:=ad.o;omega));go_simp
 go_at_call 65
 refine HW.mono ?_;rintro e w2 ⟨rfl,af,ah,ak⟩;obtain⟨am,ae,an⟩:=h_3 af ah ak;clear af ah ak;refine kOQ hK (trivial) λhS=>?_;clear hK K
 refine iq gd ?_ _
 (try dsimp only)
 skip
 have aj:(j.b++s.data.toList).length=j.b.length+s.size:=by rw[ik,lu];rfl
 have HY:f7 (CP 53 #[Pt b 0,.int .u8 10] w2 (aJh 126 B b (lnW j s) .nilIface w2)):=f8 (aDj 126 snwT B b ⟨j.b++s.data.toList,j.e⟩ 10 w2 am.o (by dsimp only;rw[aj];have:=HZ.o;omega) (by have:=ac.size;have:=ae.size;have:=ad.o;omega));clear hS aj;go_wp2_with (go_at_call 53;refine HY.mono ?_;rintro e w3 ⟨rfl,ap,al,ao⟩)
 exact jj (iu rfl _ _ _) rfl ⟨rfl,by rw[<-HL.o];exact ap,(ac.mono ad.o).trans (ae.trans al),(cV ac.o).trans (an.trans ao)⟩
theorem lG (B b:Nat) (j:JW) (s:BA) (e:Int) (w:World) (h:IsJw 126 B b j w) (hB:B<=w.heap.size) :
 CP 66 #[Pt b 0,Sv s,I6 e] w λr w'=>r=.returned (Sv s)/\IsJw 126 B b ⟨j.b,orL [j.e,e]⟩ w'/\Below B w w'/\Lib.OthersKept 5 (some b) w w':=by
 obtain⟨t,ht⟩:=xe (31:TypeId)
 obtain⟨c2,f2⟩:=h.eCell;obtain⟨w1,aa⟩:=xe (w.alloc (.cells #[I6 j.e,I6 e] 31))
 have ab:BB w w1:=by rw[aa];exact(bR w).alloc lr _
 have h1:=h.ext ab;obtain⟨d2,g2⟩:=h1.eCell;have HO:f7 (CP 112 #[Sl (So w.heap.size 0) 2 2] w1 λr w'=>r=.returned (I6 (orL [j.e,e]))/\w1=w'):=f8 (by rw[aa];exact aIw [j.e,e] w 31 ge);obtain⟨o,ho⟩:=xe (orL [j.e,e])
 rw[<-ho] at HO;rw[<-ho];obtain⟨H1,ad,ae⟩:=h_3 h1 ab hB;have af:=f8 h.1;have HW:=f8 aa;clear h h1 ab hB aa ho ht t;go_enter func66,ntmps66
 go_wp2_with (go_at_call 112;rw[<-HW.o];refine HO.mono ?_;rintro r w4 ⟨rfl,ac⟩;rw[<-ac];clear ac c2 f2)
 go_ret;refine⟨rfl,H1.setE o,(ad.mono ae.o).setCell (by exact af.o) _,?_⟩;refine(cV ad.o).trans ?_;exact λk o h hk _=>aD _ _ h (λe=>hk (by rw[e]))
theorem bW (g c:Nat) (xs:List BA) (w:World) (hx:∀(k:Nat) x,xs[k]?=some x->w.cell? ⟨g,0+k,none⟩=some (Sv x)) (hl:xs.length<=1000) (hz:(lnB xs).length<=4611686018427387903) :
 CP 33 #[Sl (So g 0) xs.length c] w λe w'=>e=.returned (Sv ⟨(lnB xs).toArray⟩)/\w'=w:=by
 obtain⟨n,hn⟩:=xe xs.length
 have HN:=f8 hn;have an:n<=1000:=ga
 obtain⟨HX,HZ⟩:=h_2 hx hz;rw[<-hn];clear hx hz hl hn;go_enter func33,ntmps33
 go_wp2
 go_loop [3,4] (λsv iv=>∃k:Nat,k<=n/\sv=Sv ⟨(jl xs k).toArray⟩/\iv=I6 k) (λ_ iv=>n-(intOf iv).toNat)
 case atStart=>exact⟨0,ii _,rfl,rfl⟩
 case round =>
  obtain⟨k,hk,rfl,rfl⟩:=hrel;obtain⟨S,hS⟩:=xe (⟨(jl xs k).toArray⟩:BA)
  have ab:S.size=(jl xs k).length:=by rw[hS];simp[ByteArray.size]
  have HS:=f8 hS;rw[<-hS];clear hS;by_cases au:k<n
  ·have ae:k<xs.length:=by have:=HN.o;omega
   obtain⟨x,aa⟩:=xe (xs[k])
   have hc:=HX.o k x (by rw[n3 ae,aa]);rw[ir] at hc;have ag:(k:Int)<(n:Int):=ga
   have al:(n:Int)<=9223372036854775807:=ga
   have ad:=aEu xs (k+1) (by have:=HN.o;omega);have ac:=HZ.o;have aq:=f8 aa;by_cases ah:k=0
   ·subst ah;have hj:=jl_one xs ae;have af:(jl xs (0+1)).length=x.size:=by rw[ir,hj,<-aa,lu];rfl
    have am:S.size=0:=by rw[ab,aCr];rfl
    have ao:¬ 9223372036854775807<S.size+x.size:=ga
    have HR:f7 (S++x=⟨(jl xs (0+1)).toArray⟩):=f8 (by
     rw[ir,hj,<-aa,HS.o,aCr];apply kn;apply lk;simp)
    obtain⟨T,hT⟩:=xe (S++x)
    have HT:=f8 hT;clear af am ad ac aa hj ab hT;go_wp2
    go_round
    case rel=>exact⟨0+1,by omega,by rw[HR.o],by go_num⟩
    case measure=>simp[intOf];omega
   ·have ai:0<k:=ga
    have ar:(0:Int)<(k:Int):=ga
    have hj:=aJ3 xs k ai ae;have af:(jl xs (k+1)).length=S.size+1+x.size:=by rw[hj,<-aa,ab];simp only[ik,im,i7,lu];rfl
    have ak:¬ 9223372036854775807<S.size+1:=ga
    obtain⟨M,hM⟩:=xe (S++⟨#[32]⟩:BA)
    have aj:M.size=S.size+1:=by rw[hM];simp[ly];rfl
    have ap:¬ 9223372036854775807<M.size+x.size:=ga
    have HR:f7 (M++x=⟨(jl xs (k+1)).toArray⟩):=f8 (by
     rw[hM,hj,<-aa,HS.o];apply kn;apply lk;simp)
    have HM:=f8 hM.symm;clear af ad ac aa hj ab hM aj;go_upto_region 7 with (fail)
    rw[HM.o];go_wp2
    go_round
    case rel=>exact⟨k+1,by omega,by rw[HR.o],by go_num⟩
    case measure=>simp[intOf];omega
  ·obtain rfl:k=n:=ga
   have ad:=aEu xs k (by have:=HN.o;omega);have ac:=HZ.o;have ak:¬ 9223372036854775807<S.size+1:=ga
   have HR:f7 (S++⟨#[10]⟩=(⟨(lnB xs).toArray⟩:BA)):=f8 (by
    have h:=aNl xs;rw[HS.o,HN.o,h];apply kn;apply lk;simp[lnB])
   clear ad ac ab;go_wp2;go_ret;exact⟨by rw[<-HR.o];rfl,rfl⟩
theorem dig10 (r:Nat) (h:r<10):(⟨#[48,49,50,51,52,53,54,55,56,57]⟩:BA).extract r (r+1)=⟨#[UInt8.ofNat (48+r)]⟩:=by
 have:∀r:Fin 10,(⟨#[48,49,50,51,52,53,54,55,56,57]⟩:BA).extract r.val (r.val+1)=⟨#[UInt8.ofNat (48+r.val)]⟩:=by decide +kernel
 exact this ⟨r,h⟩
theorem aLn (n:Nat) (h:9<n):aV n=aV (n / 10)++⟨#[UInt8.ofNat (48+n % 10)]⟩:=by
 unfold aV;rw[Lib.decDigits,dif_neg ga];apply kn;simp[p8]
theorem cH (n:Nat) (hn:n<=1000000000000000) (w:World):CP 34 #[I6 n] w λe w'=>e=.returned (Sv (aV n))/\w'=w:=by
 induction n using Nat.strongRecOn generalizing w with
 | _ n ih =>
   have hq:(n:Int).tdiv 10=((n / 10:Nat):Int):=by rw[od ga];omega
   have hr:(n:Int).tmod 10=((n % 10:Nat):Int):=by rw[nw ga];omega
   have hE:=dig10 (n % 10) ga;by_cases h:9<n
   ·have HI:=f8 (ih (n / 10) ga ga w);have hs:=aLn n h;have ag:=xV (n / 10) ga;obtain⟨z,hz⟩:=xe (aV (n / 10))
    rw[<-hz] at HI hs ag;have h9:(9:Int)<(n:Int):=ga
    have af:¬ 9223372036854775807<z.size+1:=ga
    have HS:=f8 hs;obtain⟨r,ab⟩:∃r,r=n % 10:=⟨_,rfl⟩
    obtain⟨q,ae⟩:∃q,q=n / 10:=⟨_,rfl⟩
    rw[<-ab] at hr hE HS;rw[<-ae] at hq HI;have ak:q<=1000000000000000:=ga
    have am:(q:Int)<=1000000000000000:=ga
    have aj:(0:Int)<=(q:Int):=ga
    have aa:r<10:=ga
    have ac:(r:Int)<10:=ga
    have ad:(0:Int)<=(r:Int):=ga
    obtain⟨y,hy⟩:=xe (⟨#[UInt8.ofNat (48+r)]⟩:BA)
    have ai:y.size=1:=by rw[hy];rfl
    rw[<-hy] at hE HS;have al:¬ 9223372036854775807<z.size+y.size:=ga
    clear hz hs ih ab ae hy af ai;go_enter func34,ntmps34
    go_upto_region 3 with (fail)
    clear hE hr aa ac ad;go_wp2_with (go_at_call 34;refine HI.mono ?_;rintro e w3 ⟨rfl,ah⟩;obtain rfl:=ah.symm)
    go_ret;exact⟨by first|(rw[HS.o];done)|(rw[HS.o];rfl),rfl⟩
   ·have h9:¬ (9:Int)<(n:Int):=ga
    have hs:aV n=⟨#[UInt8.ofNat (48+n % 10)]⟩:=by
     unfold aV;rw[Lib.decDigits,dif_pos ga,show n % 10=n by omega]
    obtain⟨r,ab⟩:∃r,r=n % 10:=⟨_,rfl⟩
    rw[<-ab] at hr hE hs;have aa:r<10:=ga
    have ac:(r:Int)<10:=ga
    have ad:(0:Int)<=(r:Int):=ga
    have HS:=f8 hs;obtain⟨u,hu⟩:=xe (UInt8.ofNat (48+r):UInt8)
    rw[<-hu] at hE HS;clear ih ab hq hs hu;go_enter func34,ntmps34
    go_wp2;go_ret;exact⟨by first|(rw[HS.o];done)|(rw[HS.o];rfl),rfl⟩
end Go.Proofs.YtoodnaghjpkjfaaGreatDoor
