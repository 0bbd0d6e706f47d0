/- A part. -/
import Derived.Test.YteladbdfiannjaaGreatDoorSX22Mrg
import Derived.Test.YteladbdfiannjaaGreatDoorSX21Mrg
namespace Go.Proofs.YteladbdfiannjaaGreatDoor
set_option linter.unusedVariables false
set_option maxRecDepth 100000
set_option maxHeartbeats 64000000
set_option linter.unusedSimpArgs false
section
open Go Go.RowKit Go.Shelf
def wState:ByteArray:=⟨#[115,116,97,116,101]⟩
def wSlot:ByteArray:=⟨#[115,108,111,116]⟩
def wItem:ByteArray:=⟨#[105,116,101,109]⟩
def wValue:ByteArray:=⟨#[118,97,108,117,101]⟩
/-! ### the text -/
def nU (n t:Int):List UInt8:=fF [wState,aF n,aF t]
def lU (x:Slot):List UInt8:=fF [wSlot,aF x.n,aF x.t,(cM x.k).1]
def fJ (m:Msg):List UInt8:=fF [wItem,(eE m).1]
def iV (v:Val):List UInt8:=fF [wValue,(cM v).1]
def iE (x:Slot):List UInt8:=lU x++(x.items.flatMap fJ++x.vals.flatMap iV)
def wL (d:Sta):List UInt8:=nU d.n d.t++d.l.flatMap iE
def kQ (f e:Int):Int:=if f=0 then e else f
def iJ (f:Int) (l:List Msg):Int:=l.foldl (fun f m=>kQ f (eE m).2) f
def kF (f:Int) (l:List Val):Int:=l.foldl (fun f v=>kQ f (cM v).2) f
def wO (f:Int) (x:Slot):Int:=kF (iJ (kQ f (cM x.k).2) x.items) x.vals
def iZ (d:Sta):Int:=d.l.foldl wO 0
def fQ (d:Sta):ByteArray × Int:=if bB d≠0 then (⟨#[]⟩,bB d) else if iZ d≠0 then (⟨#[]⟩,iZ d) else (⟨(wL d).toArray⟩,0)
end
section
open Go Go.RowKit
def jl (xs:List ByteArray) (k:Nat):List UInt8:=Lib.join ((xs.take k).map (·.data.toList)) [32]
def lnB (xs:List ByteArray):List UInt8:=(bG xs ⟨#[32]⟩).data.toList++[10]
theorem rW (xs:List ByteArray):jl xs 0=[]:=rfl
theorem jl_one (xs:List ByteArray) (h:0<xs.length):jl xs 1=xs[0].data.toList:=by
 unfold jl
 obtain⟨a,r,rfl⟩:∃a r,xs=a :: r:=by cases xs with | nil=>simp at h | cons a r=>exact⟨a,r,rfl⟩
 simp[Lib.join_one]
theorem yZ (xs:List ByteArray) (k:Nat) (h0:0<k) (h:k<xs.length):jl xs (k+1)=jl xs k++[32]++xs[k].data.toList:=by
 unfold jl
 rw[List.take_succ_eq_append_getElem h,List.map_append]
 obtain⟨a,r,hr⟩:∃a r,xs.take k=a :: r:=by
  cases hx:xs.take k with
  | nil =>
    have h3:(xs.take k).length=0:=by rw[hx];rfl
    rw[List.length_take] at h3
    omega
  | cons a r=>exact⟨a,r,rfl⟩
 rw[hr,List.map_cons,List.cons_append,Lib.join_cons,Lib.join_cons]
 simp[Lib.joinTail]
theorem aCu (xs:List ByteArray):jl xs xs.length=(bG xs ⟨#[32]⟩).data.toList:=by
 unfold jl bG;simp
theorem jl_le (xs:List ByteArray):∀(m k:Nat),k+m≤xs.length→(jl xs k).length≤(jl xs (k+m)).length
 | 0,k,_=>Nat.le_refl _
 | m+1,k,h=>by
   refine Nat.le_trans (jl_le xs m k (by omega)) ?_
   rw[show k+(m+1)=(k+m)+1 by omega]
   by_cases h0:0<k+m
   ·rw[yZ xs (k+m) h0 (by omega)];simp only[List.length_append];omega
   ·rw[show k+m=0 by omega,rW];exact Nat.zero_le _
theorem uJ (xs:List ByteArray) (k:Nat) (h:k≤xs.length):(jl xs k).length+1≤(lnB xs).length:=by
 have:=jl_le xs (xs.length-k) k (by omega)
 rw[show k+(xs.length-k)=xs.length by omega,aCu] at this
 unfold lnB;simp only[List.length_append,List.length_cons,List.length_nil];omega
def qxT (s:ByteArray):ByteArray:=⟨(lM s.data.toList).toArray⟩
def wSnap:ByteArray:=⟨#[115,110,97,112,115,104,111,116]⟩
def dY:ByteArray:=⟨#[97,114,114,105,118,101,100]⟩
def cF:ByteArray:=⟨#[115,101,110,116]⟩
def wQue:ByteArray:=⟨#[113,117,101,117,101,100]⟩
def wLet:ByteArray:=⟨#[108,101,116,116,101,114]⟩
def zF:ByteArray:=⟨#[100,101,108,105,118,101,114]⟩
def zE:ByteArray:=⟨#[114,101,113,117,101,115,116]⟩
def vW:ByteArray:=⟨#[101,110,100]⟩
def wDo (u:Bool):ByteArray:=if u then ⟨#[117,110,100,111]⟩ else ⟨#[100,111]⟩
def aAl (d:Snp):List UInt8:=lnB [wSnap,aF d.v,aF d.e,aF d.t]
def aR (w:ByteArray) (c:Cnt):List UInt8:=lnB [w,c.nm,aF c.nu]
def cA (q:Que):List UInt8:=lnB [wQue,q.nm,aF q.nu,aF q.vr,qxT q.tx]
def cC (l:Let):List UInt8:=lnB [wLet,aF l.vr,l.nd,⟨(bZ l.tx.data.toList).toArray⟩,(eE l.m).1]
def cY (x:Ef):List UInt8:=if x.k=1 then lnB [zF,x.nm,aF x.nu,cI x.st,qxT x.tx] else lnB [zE,x.nm,aF x.nu,cI x.st,x.nd,aF x.ca,wDo x.un,(cM x.bd).1]
def cE (s:Sta):List UInt8:=(fQ s).1.data.toList
def fR (x:Ef):Int:=if x.k=1 then 0 else (cM x.bd).2
def iS (d:Snp):List UInt8:=aAl d++d.ns.flatMap cE++d.ar.flatMap (aR dY)++d.se.flatMap (aR cF)++d.qs.flatMap cA++d.ls.flatMap cC++d.ps.flatMap cY++lnB [vW]
def snEr (d:Snp):Int:=orL [aP (fun _ s=>(fQ s).2) 0 d.ns,aP (fun _ l=>(eE l.m).2) 0 d.ls,aP (fun _ x=>fR x) 0 d.ps]
def gT (d:Snp):ByteArray × Int:=if snE d≠0 then (⟨#[]⟩,snE d) else if snEr d≠0 then (⟨#[]⟩,snEr d) else (⟨(iS d).toArray⟩,0)
end
section
open Go Go.RowKit Go.Shelf
theorem bV (B b:Nat) (j:JW) (g c:Nat) (xs:List ByteArray) (w:World) (hx:∀(k:Nat) x,xs[k]?=some x→w.cell? ⟨g,0+k,none⟩=some (.string x)) (hg:g<w.heap.size) (hl:xs.length≤10) (hc:xs.length≤c) (hz0:j.b.length+(lnB xs).length≤140737488355328) (h:IsJw 141 B b j w) (hB:B≤w.heap.size) :
 Calls Tryz.prog 79 #[.pointer (some ⟨b,0,none⟩),.slice (some ⟨g,0,none⟩) xs.length c] w fun e w'=>e=.returned (.tuple #[])∧IsJw 141 B b ⟨j.b++lnB xs,j.e⟩ w'∧Below B w w'∧Lib.OthersKept 5 (some b) w w':=by
 obtain⟨s,hs⟩:∃s,bG xs ⟨#[32]⟩=s:=⟨_,rfl⟩
 have hz:j.b.length+s.size+1≤140737488355328:=by
  unfold lnB at hz0
  rw[List.length_append,Array.length_toList,hs] at hz0
  have h2:s.data.size=s.size:=rfl
  rw[h2] at hz0
  simpa [Nat.add_assoc] using hz0
 have HJ:=hid (Tryz.strings_Join g 0 c xs ⟨#[32]⟩ w.drew hx hg (by omega) hc (by
  have:(Lib.join (xs.map (·.data.toList)) (⟨#[32]⟩:ByteArray).data.toList).length=s.size:=by rw[←hs];simp[bG,ByteArray.size]
  rw[this];omega))
 have hs':(⟨(Lib.join (xs.map (·.data.toList)) (⟨#[32]⟩:ByteArray).data.toList).toArray⟩:ByteArray)=s:=hs
 rw[hs'] at HJ
 have HL:Hid (lnW j s=⟨j.b++lnB xs,j.e⟩):=hid (by unfold lnW lnB;rw[hs,List.append_assoc])
 clear hs hs' hz0
 have HI:=hid h
 have HZ:=hid hz
 have HBW:=hid hB
 clear h hx hg hl hc hz hB
 go_enter Tryz.func79,Tryz.ntmps79
 go_upto_region 0 with (fail)
 refine wp_region_held_drew (S:=(fun _=>True)) (by kernel_rfl) (trivial) (fun hS=>?_)
 refine tkQ 0 (v:=?_) ?_ hS ?_;rotate_left;· intro w' hw';(try dsimp only at hw');go_simp;(try rfl)
 simp only[Act.put,pq]
 refine tkQ 1 (v:=?_) ?_ hS ?_;rotate_left;· intro w' hw';(try dsimp only at hw');go_simp;(try rfl)
 simp only[Act.put,pq]
 refine tkQ 2 (v:=?_) ?_ hS ?_;rotate_left;· intro w' hw';(try dsimp only at hw');go_simp;(try rfl)
 simp only[Act.put,pq]
 refine tkQ 3 (v:=?_) ?_ hS ?_;rotate_left;· intro w' hw';(try dsimp only at hw');go_simp;(try rfl)
 simp only[Act.put,pq]
 refine ry [4] ?_
 refine arQ fun K hK=>?_
 go_simp
 go_at_call 140
 refine HJ.out.mono ?_
 rintro e w1 ⟨rfl,hb1'⟩
 have hb1:Below w.heap.size w w1:=(bR w).drew.trans hb1'
 clear hb1'
 have HB1:=hid hb1
 clear hb1
 refine hK.out _ _ (trivial) (fun hS=>?_)
 clear hK K
 (try simp only[Act.put,pq])
 refine ry [5] ?_
 refine arQ fun K hK=>?_
 have HW:=hid (kE 141 aC4 B b j s w1 (HI.out.ext (HB1.out)) (by have:=HZ.out;omega) (by have:=HB1.out.size;have:=HBW.out;omega))
 go_simp
 go_at_call 81
 refine HW.out.mono ?_
 rintro e w2 ⟨rfl,hi2,hb2,ho2⟩
 have HI2:=hid hi2;have HB2:=hid hb2;have HO2:=hid ho2
 clear hi2 hb2 ho2
 refine hK.out _ _ (trivial) (fun hS=>?_)
 clear hK K
 (try simp only[Act.put,pq])
 refine wpAnyH_done (by kernel_rfl) ?_ _
 (try dsimp only)
 skip
 have hln:(j.b++s.data.toList).length=j.b.length+s.size:=by rw[List.length_append,Array.length_toList];rfl
 have HY:Hid (Calls Tryz.prog 144 #[.pointer (some ⟨b,0,none⟩),.int .u8 10] w2 (vR 141 B b (lnW j s) .nilIface w2)):=hid (mF 141 aC4 B b ⟨j.b++s.data.toList,j.e⟩ 10 w2 HI2.out (by dsimp only;rw[hln];have:=HZ.out;omega) (by have:=HB1.out.size;have:=HB2.out.size;have:=HBW.out;omega))
 clear hS hln
 go_wp2_with (go_at_call 144;refine HY.out.mono ?_;rintro e w3 ⟨rfl,hi3,hb3,ho3⟩)
 exact bodyPost_end (results_none rfl _ _ _) rfl ⟨rfl,by rw[←HL.out];exact hi3,(HB1.out.mono HBW.out).trans (HB2.out.trans hb3),(bC HB1.out).trans (HO2.out.trans ho3)⟩
theorem eZ (B b:Nat) (j:JW) (s:ByteArray) (e:Int) (w:World) (h:IsJw 141 B b j w) (hB:B≤w.heap.size) :
 Calls Tryz.prog 82 #[.pointer (some ⟨b,0,none⟩),.string s,.int .i64 e] w fun r w'=>r=.returned (.string s)∧IsJw 141 B b ⟨j.b,orL [j.e,e]⟩ w'∧Below B w w'∧Lib.OthersKept 5 (some b) w w':=by
 obtain⟨t,ht⟩:∃t:TypeId,t=33:=⟨_,rfl⟩
 obtain⟨c2,f2⟩:=h.eCell
 obtain⟨w1,hw1⟩:∃w1,w1=w.alloc (.cells #[.int .i64 j.e,.int .i64 e] 33):=⟨_,rfl⟩
 have hb1:Below w.heap.size w w1:=by rw[hw1];exact(bR w).alloc lr _
 have h1:=h.ext hb1
 obtain⟨d2,g2⟩:=h1.eCell
 have HO:Hid (Calls Tryz.prog 28 #[.slice (some ⟨w.heap.size,0,none⟩) 2 2] w1 fun r w'=>r=.returned (.int .i64 (orL [j.e,e]))∧w1=w'):=hid (by rw[hw1];exact yU [j.e,e] w 33 (by simp))
 obtain⟨o,ho⟩:∃o,o=orL [j.e,e]:=⟨_,rfl⟩
 rw[←ho] at HO
 rw[←ho]
 have H1:=hid h1
 have HB1:=hid hb1
 have HBB:=hid hB
 have HBb:=hid h.1
 have HW:=hid hw1
 clear h h1 hb1 hB hw1 ho ht t
 go_enter Tryz.func82,Tryz.ntmps82
 go_wp2_with (go_at_call 28;rw[←HW.out];refine HO.out.mono ?_;rintro r w4 ⟨rfl,hw4⟩;rw[←hw4];clear hw4 c2 f2)
 go_ret
 refine⟨rfl,H1.out.setE o,(HB1.out.mono HBB.out).setCell (by exact HBb.out) _,?_⟩
 refine(bC HB1.out).trans ?_
 exact fun k o h hk _=>aJ _ _ h (fun e=>hk (by rw[e]))
end
section
open Go Go.RowKit Go.Shelf
theorem bH (g c:Nat) (xs:List ByteArray) (w:World) (hx:∀(k:Nat) x,xs[k]?=some x→w.cell? ⟨g,0+k,none⟩=some (.string x)) (hl:xs.length≤1000) (hz:(lnB xs).length≤4611686018427387903) :
 Calls Tryz.prog 71 #[.slice (some ⟨g,0,none⟩) xs.length c] w fun e w'=>e=.returned (.string ⟨(lnB xs).toArray⟩)∧w'=w:=by
 obtain⟨n,hn⟩:∃n,n=xs.length:=⟨_,rfl⟩
 have HN:=hid hn
 have hn1:n≤1000:=by omega
 have HX:=hid hx
 have HZ:=hid hz
 rw[←hn]
 clear hx hz hl hn
 go_enter Tryz.func71,Tryz.ntmps71
 go_wp2
 go_loop [3,4] (fun sv iv=>∃k:Nat,k≤n∧sv=.string ⟨(jl xs k).toArray⟩∧iv=.int .i64 k) (fun _ iv=>n-(intOf iv).toNat)
 case atStart=>exact⟨0,Nat.zero_le _,rfl,rfl⟩
 case round =>
  obtain⟨k,hk,rfl,rfl⟩:=hrel
  obtain⟨S,hS⟩:∃S:ByteArray,S=⟨(jl xs k).toArray⟩:=⟨_,rfl⟩
  have hss:S.size=(jl xs k).length:=by rw[hS];simp[ByteArray.size]
  have HS:=hid hS
  rw[←hS]
  clear hS
  by_cases hlt:k<n
  ·have hkl:k<xs.length:=by have:=HN.out;omega
   obtain⟨x,hxk⟩:∃x,x=xs[k]:=⟨_,rfl⟩
   have hc:=HX.out k x (by rw[List.getElem?_eq_getElem hkl,hxk])
   rw[Nat.zero_add] at hc
   have hlt':(k:Int)<(n:Int):=by omega
   have hn63:(n:Int)≤9223372036854775807:=by omega
   have hto:=uJ xs (k+1) (by have:=HN.out;omega)
   have hzz:=HZ.out
   have HXK:=hid hxk
   by_cases hk0:k=0
   ·subst hk0
    have hj:=jl_one xs hkl
    have hjs:(jl xs (0+1)).length=x.size:=by rw[Nat.zero_add,hj,←hxk,Array.length_toList];rfl
    have hs0:S.size=0:=by rw[hss,rW];rfl
    have hsx:¬ 9223372036854775807<S.size+x.size:=by omega
    have HR:Hid (S++x=⟨(jl xs (0+1)).toArray⟩):=hid (by
     rw[Nat.zero_add,hj,←hxk,HS.out,rW]
     apply ByteArray.ext;apply Array.ext';simp)
    obtain⟨T,hT⟩:∃T,T=S++x:=⟨_,rfl⟩
    have HT:=hid hT
    clear hjs hs0 hto hzz hxk hj hss hT
    go_wp2
    go_round
    case rel=>exact⟨0+1,by omega,by rw[HR.out],by go_num⟩
    case measure=>simp[intOf];omega
   ·have hk1:0<k:=by omega
    have hk2:(0:Int)<(k:Int):=by omega
    have hj:=yZ xs k hk1 hkl
    have hjs:(jl xs (k+1)).length=S.size+1+x.size:=by rw[hj,←hxk,hss];simp only[List.length_append,List.length_cons,List.length_nil,Array.length_toList];rfl
    have hs1:¬ 9223372036854775807<S.size+1:=by omega
    obtain⟨M,hM⟩:∃M:ByteArray,M=S++⟨#[32]⟩:=⟨_,rfl⟩
    have hMs:M.size=S.size+1:=by rw[hM];simp[ByteArray.size_append];rfl
    have hs2:¬ 9223372036854775807<M.size+x.size:=by omega
    have HR:Hid (M++x=⟨(jl xs (k+1)).toArray⟩):=hid (by
     rw[hM,hj,←hxk,HS.out]
     apply ByteArray.ext;apply Array.ext';simp)
    have HM:=hid hM.symm
    clear hjs hto hzz hxk hj hss hM hMs
    go_upto_region 7 with (fail)
    rw[HM.out]
    go_wp2
    go_round
    case rel=>exact⟨k+1,by omega,by rw[HR.out],by go_num⟩
    case measure=>simp[intOf];omega
  ·obtain rfl:k=n:=by omega
   have hto:=uJ xs k (by have:=HN.out;omega)
   have hzz:=HZ.out
   have hs1:¬ 9223372036854775807<S.size+1:=by omega
   have HR:Hid (S++⟨#[10]⟩=(⟨(lnB xs).toArray⟩:ByteArray)):=hid (by
    have h:=aCu xs
    rw[HS.out,HN.out,h]
    apply ByteArray.ext;apply Array.ext';simp[lnB])
   clear hto hzz hss
   go_wp2
   go_ret
   exact⟨by rw[←HR.out];rfl,rfl⟩
end
section
open Go Go.RowKit Go.Shelf
theorem dig10 (r:Nat) (h:r<10):(⟨#[48,49,50,51,52,53,54,55,56,57]⟩:ByteArray).extract r (r+1)=⟨#[UInt8.ofNat (48+r)]⟩:=by
 have:∀r:Fin 10,(⟨#[48,49,50,51,52,53,54,55,56,57]⟩:ByteArray).extract r.val (r.val+1)=⟨#[UInt8.ofNat (48+r.val)]⟩:=by decide +kernel
 exact this ⟨r,h⟩
theorem aAv (n:Nat) (h:9<n):aT n=aT (n / 10)++⟨#[UInt8.ofNat (48+n % 10)]⟩:=by
 unfold aT
 rw[Lib.decDigits,dif_neg (by omega)]
 apply ByteArray.ext
 simp[ByteArray.data_append]
theorem bO (n:Nat) (hn:n≤1000000000000000) (w:World):Calls Tryz.prog 72 #[.int .i64 n] w fun e w'=>e=.returned (.string (aT n))∧w'=w:=by
 induction n using Nat.strongRecOn generalizing w with
 | _ n ih =>
   have hq:(n:Int).tdiv 10=((n / 10:Nat):Int):=by rw[Int.tdiv_eq_ediv_of_nonneg (by omega)];omega
   have hr:(n:Int).tmod 10=((n % 10:Nat):Int):=by rw[Int.tmod_eq_emod_of_nonneg (by omega)];omega
   have hE:=dig10 (n % 10) (by omega)
   by_cases h:9<n
   ·have HI:=hid (ih (n / 10) (by omega) (by omega) w)
    have hs:=aAv n h
    have hzz:=oG (n / 10) (by omega)
    obtain⟨z,hz⟩:∃z,z=aT (n / 10):=⟨_,rfl⟩
    rw[←hz] at HI hs hzz
    have h9:(9:Int)<(n:Int):=by omega
    have hsz:¬ 9223372036854775807<z.size+1:=by omega
    have HS:=hid hs
    obtain⟨r,hr'⟩:∃r,r=n % 10:=⟨_,rfl⟩
    obtain⟨q,hq'⟩:∃q,q=n / 10:=⟨_,rfl⟩
    rw[←hr'] at hr hE HS
    rw[←hq'] at hq HI
    have hq1:q≤1000000000000000:=by omega
    have hqI:(q:Int)≤1000000000000000:=by omega
    have hqJ:(0:Int)≤(q:Int):=by omega
    have hr10:r<10:=by omega
    have hrI:(r:Int)<10:=by omega
    have hr0:(0:Int)≤(r:Int):=by omega
    obtain⟨y,hy⟩:∃y:ByteArray,y=⟨#[UInt8.ofNat (48+r)]⟩:=⟨_,rfl⟩
    have hys:y.size=1:=by rw[hy];rfl
    rw[←hy] at hE HS
    have hsy:¬ 9223372036854775807<z.size+y.size:=by omega
    clear hz hs ih hr' hq' hy hsz hys
    go_enter Tryz.func72,Tryz.ntmps72
    go_upto_region 3 with (fail)
    clear hE hr hr10 hrI hr0
    go_wp2_with (go_at_call 72;refine HI.out.mono ?_;rintro e w3 ⟨rfl,hw3⟩;obtain rfl:=hw3.symm)
    go_ret
    exact⟨by first | (rw[HS.out];done) | (rw[HS.out];rfl),rfl⟩
   ·have h9:¬ (9:Int)<(n:Int):=by omega
    have hs:aT n=⟨#[UInt8.ofNat (48+n % 10)]⟩:=by
     unfold aT
     rw[Lib.decDigits,dif_pos (by omega),show n % 10=n by omega]
    obtain⟨r,hr'⟩:∃r,r=n % 10:=⟨_,rfl⟩
    rw[←hr'] at hr hE hs
    have hr10:r<10:=by omega
    have hrI:(r:Int)<10:=by omega
    have hr0:(0:Int)≤(r:Int):=by omega
    have HS:=hid hs
    obtain⟨u,hu⟩:∃u:UInt8,u=UInt8.ofNat (48+r):=⟨_,rfl⟩
    rw[←hu] at hE HS
    clear ih hr' hq hs hu
    go_enter Tryz.func72,Tryz.ntmps72
    go_wp2
    go_ret
    exact⟨by first | (rw[HS.out];done) | (rw[HS.out];rfl),rfl⟩
end
end Go.Proofs.YteladbdfiannjaaGreatDoor
