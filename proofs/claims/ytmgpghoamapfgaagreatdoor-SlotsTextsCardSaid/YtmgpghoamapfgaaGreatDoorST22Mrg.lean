/- A part. -/
import Derived.Test.YtmgpghoamapfgaaGreatDoorST19Mrg
namespace Go.Proofs.YtmgpghoamapfgaaGreatDoor
set_option linter.unusedVariables false
set_option maxRecDepth 100000
set_option maxHeartbeats 16000000
set_option linter.unusedSimpArgs false
section
open Go Go.RowKit Go.Shelf
theorem nE (a x y:Int) (w:World):CP 271 #[I6 a,I6 x,I6 y] w fun e w'=>e=.returned (.bool (decide (x<=a)&&decide (a<=y)))/\w'=w:=by
 by_cases h1:x<=a<;>by_cases h2:a<=y <;>
  (go_enter Tryz.func271,Tryz.ntmps271;go_wp2;go_ret;exact⟨by simp[h1,h2],rfl⟩)
theorem aDd:∀(k n:Nat) (l:List UInt8),l.length<k->gU k n l=none
 | 0,_,_,h=>absurd h ga
 | k+1,_,[],_=>rfl
 | k+1,n,c :: l,h=>by
   rw[gU];split
   ·exact aDd k _ l (by simp at h;omega)
   ·rfl
theorem aJm (k n:Nat) (c:UInt8) (l:List UInt8) (h:bD c=true):gU (k+1) n (c :: l)=gU k (10 * n+(c.toNat-48)) l:=by rw[gU,if_pos h]
theorem aJn (k n:Nat) (c:UInt8) (l:List UInt8) (h:bD c=false):gU (k+1) n (c :: l)=none:=by rw[gU,if_neg (by rw[h];decide)]
def NumRes (o:Option (Nat × List UInt8)) (v:Value):Prop:=match o with
 | some (n,r)=>v=.tuple #[I6 n,.string ⟨r.toArray⟩,.bool true]
 | none=>∃t:ByteArray,v=.tuple #[I6 0,.string t,.bool false]
theorem nN (s:ByteArray) (hs:s.size<=1000000) (k:Nat) (hk:k<=9) (w:World) :
 CP 337 #[.string s,I6 k] w fun x w'=>(∃v,x=.returned v/\NumRes (gU k 0 s.data.toList) v)/\BB w w':=by
 have hln:s.data.toList.length=s.size:=rfl;by_cases hsh:s.size<k
 ·have hsh':(s.size:Int)<(k:Int):=by omega
  have HE:=hid (aDd k 0 s.data.toList ga);go_enter Tryz.func337,Tryz.ntmps337
  go_wp2;refine bodyPost_ret (v:=.tuple #[I6 0,.string s,.bool false]) (by simp[results,Tryz.results337,go_sem]) rfl ?_;exact⟨⟨_,rfl,by rw[HE.out];exact⟨_,rfl⟩⟩,Below.refl _ _⟩
 have hsh':¬ (s.size:Int)<(k:Int):=by omega
 go_enter Tryz.func337,Tryz.ntmps337
 go_wp2
 go_loopw [4,14] (fun nv iv wr=>∃n i:Nat,nv=I6 n/\iv=I6 i/\i<=k/\n<10 ^ i/\gU k 0 s.data.toList=gU (k-i) n (s.data.toList.drop i)/\wr=w) (fun _ iv _=>k-(intOf iv).toNat)
 case atStart=>exact⟨0,0,rfl,rfl,Nat.zero_le _,by decide,rfl,rfl⟩
 case round =>
  obtain⟨n,i,rfl,rfl,hi,hn,heq,hwr⟩:=hrel;obtain rfl:=hwr.symm;have HEQ:=hid heq;clear heq;by_cases hlt:i<k
  ·have hlt':(i:Int)<(k:Int):=by omega
   have his:(i:Int)<(s.size:Int):=by omega
   have hi0:(0:Int)<=(i:Int):=by omega
   have hd:=oC s i ga;obtain⟨j,hj⟩:∃j,k-i=j+1:=⟨k-i-1,by omega⟩
   have h1:=aJm j n s[i] (s.data.toList.drop (i+1));have h2:=aJn j n s[i] (s.data.toList.drop (i+1));rw[<-hd,<-hj,<-HEQ.out] at h1 h2;have hd10:n<1000000000 / 10:=Nat.lt_of_lt_of_le hn (by have:10 ^ i<=10 ^ 8:=Nat.pow_le_pow_right gc ga;omega);have hin:=nE (s[i].toNat:Int) 48 57 w;have hdg:bD s[i]=(decide ((48:Int)<=s[i].toNat)&&decide ((s[i].toNat:Int)<=57)):=by
    unfold bD;congr 2<;>simp<;>omega
   rw[<-hdg] at hin;have hcv:=s[i].toNat_lt;have hpow:10 * n+10<=10 ^ (i+1):=by rw[Nat.pow_succ];omega
   obtain⟨q,hq⟩:=ez (bD s[i])
   rw[<-hq] at hin h1 h2;have hqc:q=true->48<=s[i].toNat/\s[i].toNat<=57:=by
    intro h;rw[hq,hdg,Bool.and_eq_true,decide_eq_true_eq,decide_eq_true_eq] at h;omega
   have HIN:=hid hin;have H1:=hid h1;have H2:=hid h2;have HJ:=hid hj;clear h1 h2 hin hdg hq hd hj hn HEQ;cases q
   ·go_wp2_with (go_at_call 271;refine HIN.out.mono ?_;rintro e w2 ⟨rfl,hw2⟩;obtain rfl:=hw2.symm)
    refine bodyPost_ret (v:=.tuple #[I6 0,.string s,.bool false]) (by simp[results,Tryz.results337,go_sem]) rfl ?_;exact⟨⟨_,rfl,by rw[H2.out trivial];exact⟨_,rfl⟩⟩,Below.refl _ _⟩
   ·obtain⟨c1,c2⟩:=hqc rfl;have e1:IntKind.i64.wrap (10 * (n:Int))=10 * n:=IntWalk.i64_in _ ⟨by omega,by omega⟩;have e2:IntKind.u8.wrap ((s[i].toNat:Int)-48)=(s[i].toNat:Int)-48:=IntWalk.u8_in _ ⟨by omega,by omega⟩;have e3:IntKind.i64.wrap ((s[i].toNat:Int)-48)=(s[i].toNat:Int)-48:=IntWalk.i64_in _ ⟨by omega,by omega⟩;have e4:IntKind.i64.wrap (10 * (n:Int)+((s[i].toNat:Int)-48))=10 * (n:Int)+((s[i].toNat:Int)-48):=IntWalk.i64_in _ ⟨by omega,by omega⟩;go_wp2_with (go_at_call 271;refine HIN.out.mono ?_;rintro e w2 ⟨rfl,hw2⟩;obtain rfl:=hw2.symm)
    refine⟨⟨10 * n+(s[i].toNat-48),i+1,by congr 1;omega,by go_num,by omega,by omega,?_,trivial⟩,by simp[intOf];omega⟩;rw[H1.out trivial,show k-(i+1)=k-i-1 by omega,HJ.out];rfl
  ·obtain rfl:i=k:=by omega
   have HE:=hid (show gU i 0 s.data.toList=some (n,s.data.toList.drop i) by rw[HEQ.out,Nat.sub_self];rfl);clear HEQ;have hz1:(i:Int)<=(s.size:Int):=by omega
   have hz0:(0:Int)<=(i:Int):=by omega
   go_upto_region 10 with (fail)
   go_quiet (fail)
   go_wp2;refine bodyPost_ret (v:=.tuple #[I6 (n:Int),.string (s.extract i s.size),.bool true]) (by simp[results,Tryz.results337,go_sem]) rfl ?_;refine⟨⟨_,rfl,?_⟩,⟨rfl,rfl,rfl,Nat.le_refl _,fun _ _=>rfl⟩⟩;rw[HE.out];show _=_;rw[<-qO]
end
section
open Go Go.RowKit Go.Shelf
def aAe (y m:Nat):Bool:=(decide (1<=y)&&decide (y<=9999))&&(decide (1<=m)&&decide (m<=12))
theorem sX (y m:Nat) (w:World):CP 367 #[I6 y,I6 m] w fun e w'=>e=.returned (if aAe y m=true then .tuple #[I6 (bE y m),I6 0] else .tuple #[I6 0,I6 17])/\w'=w:=by
 obtain⟨V,hV⟩:=ez (if aAe y m=true then .tuple #[I6 (bE y m),I6 0] else .tuple #[I6 0,I6 17]:Value)
 rw[<-hV];have HV:=hid hV;clear hV;by_cases hy:1<=y/\y<=9999<;>by_cases hm:1<=m/\m<=12
 ·have HMD:=hid (pD y m hy.1 hy.2 hm.1 hm.2 w);have HO:=hid (show aAe y m=true by unfold aAe;simp[hy,hm]);have a1:(1:Int)<=(y:Int):=by omega
  have a2:(y:Int)<=9999:=by omega
  have a3:(1:Int)<=(m:Int):=by omega
  have a4:(m:Int)<=12:=by omega
  clear hy hm;go_enter Tryz.func367,Tryz.ntmps367
  go_wp2_with (first
   | (go_at_call 273;refine HMD.out.mono ?_;rintro e w2 ⟨rfl,hw2⟩;obtain rfl:=hw2)
   | (go_at_call 271;refine(nE _ _ _ _).mono ?_;rintro e w2 ⟨rfl,hw2⟩;obtain rfl:=hw2.symm))
  refine bodyPost_ret (v:=.tuple #[I6 (bE y m),I6 0]) (by simp[results,Tryz.results367,go_sem]) rfl ?_;exact⟨by rw[HV.out,HO.out];simp,rfl⟩
 all_goals
  have HO:=hid (show aAe y m=false by unfold aAe;simp;omega);have hc:(¬ (1:Int)<=(y:Int)\/¬ (y:Int)<=9999)\/((1:Int)<=(y:Int)/\(y:Int)<=9999/\(m=0\/¬ (m:Int)<=12)):=by omega
  clear hy hm;rcases hc with (h1 | h1) | ⟨h1,h2,rfl | h3⟩
  all_goals
   (try have h1m:(1:Int)<=(m:Int):=by omega)
   go_enter Tryz.func367,Tryz.ntmps367
   go_wp2_with (go_at_call 271;refine(nE _ _ _ _).mono ?_;rintro e w2 ⟨rfl,hw2⟩;obtain rfl:=hw2.symm)
   all_goals first
    | (exfalso;simp_all<;>omega)
    | (refine bodyPost_ret (v:=.tuple #[I6 0,I6 17]) (by simp[results,Tryz.results367,go_sem]) rfl ?_;exact⟨by rw[HV.out,HO.out];simp,rfl⟩)
end
section
open Go Go.RowKit Go.Shelf
theorem jC (y:Nat):∀(j m:Nat),aZ y (j+1) m=aZ y j m+bE y (m+j)
 | 0,m=>by simp[aZ]
 | j+1,m=>by
   rw[aZ,jC y j (m+1),aZ];rw[show m+1+j=m+(j+1) by omega];omega
theorem tT (y:Nat):∀(j m:Nat),aZ y j m<=31 * j
 | 0,m=>by simp[aZ]
 | j+1,m=>by
   have:=tT y j (m+1);have:=uX y m;rw[aZ];omega
theorem befY_le (y:Nat) (h:y<=10000):eA y<=4000000:=by unfold eA;omega
theorem zZ (y m d:Nat) (hy:y<=99999) (hm:m<=99999) (hd:d<=99999) (w:World):CP 335 #[I6 y,I6 m,I6 d] w fun e w'=>e=.returned (.tuple #[I6 (cY y m d).1,I6 (cY y m d).2])/\w'=w:=by
 obtain⟨z1,hz1⟩:=ez ((cY y m d).1)
 obtain⟨z2,hz2⟩:=ez ((cY y m d).2)
 rw[<-hz1,<-hz2];have HZ:=hid (show cY y m d=(z1,z2) by rw[hz1,hz2]);clear hz1 hz2;have hMD:=sX y m w;obtain⟨q,hq⟩:=ez (aAe y m)
 rw[<-hq] at hMD;have HQ:=hid hq;clear hq;cases q
 ·have HMD:Hid (CP 367 #[I6 y,I6 m] w fun e w'=>e=.returned (.tuple #[I6 0,I6 17])/\w'=w):=hid (hMD.mono fun e w' ⟨h1,h2⟩=>⟨by rw[h1];rfl,h2⟩);clear hMD;go_enter Tryz.func335,Tryz.ntmps335
  go_wp2_with (go_at_call 367;refine HMD.out.mono ?_;rintro e w2 ⟨rfl,hw2⟩;obtain rfl:=hw2.symm)
  go_ret2
  refine⟨?_,rfl⟩;have hn:=HQ.out.symm;have hz:=HZ.out;unfold cY at hz;rw[if_pos (by unfold aAe at hn;simp only[Bool.and_eq_false_iff,decide_eq_false_iff_not] at hn;omega)] at hz;cases hz;rfl
 ·have hn:=HQ.out.symm;unfold aAe at hn;simp only[Bool.and_eq_true,decide_eq_true_eq] at hn;obtain⟨⟨y1,y2⟩,m1,m2⟩:=hn;have HMD:Hid (CP 367 #[I6 y,I6 m] w fun e w'=>e=.returned (.tuple #[I6 (bE y m),I6 0])/\w'=w):=hid (hMD.mono fun e w' ⟨h1,h2⟩=>⟨by rw[h1];rfl,h2⟩);clear hMD;have HIN:=hid (nE d 1 (bE y m) w);obtain⟨mx,hmx⟩:=ez (bE y m:Nat)
  rw[<-hmx] at HMD HIN;have HMX:=hid hmx;clear hmx;by_cases hd1:1<=d/\d<=mx
  ·have HD1:=hid hd1;have q1:(decide ((1:Int)<=(d:Int))&&decide ((d:Int)<=(mx:Int)))=true:=by simp;omega
   rw[q1] at HIN;have HBF:=hid (sS y y1 ga w);have hbl:=befY_le y ga;obtain⟨bf,hbf⟩:=ez (eA y)
   rw[<-hbf] at HBF hbl;have HB:=hid hbf;have HML:=hid (fun (k:Nat) (h1:1<=k) (h2:k<=12)=>pD y k y1 y2 h1 h2 w);have HSB:=hid (fun (k:Nat)=>(tT y k 1));have HMLE:=hid (fun k=>uX y k);have e1:IntKind.i64.wrap (-719162+(bf:Int)) = -719162+bf:=IntWalk.i64_in _ ⟨by omega,by omega⟩;have e2:IntKind.i64.wrap (-719162+(bf:Int)+d) = -719162+bf+d:=IntWalk.i64_in _ ⟨by omega,by omega⟩;have e3:IntKind.i64.wrap (-719162+(bf:Int)+d-1) = -719162+bf+d-1:=IntWalk.i64_in _ ⟨by omega,by omega⟩;clear hd1 q1 hbf;go_enter Tryz.func335,Tryz.ntmps335
   go_wp2_with (first
    | (go_at_call 272;refine HBF.out.mono ?_;rintro e w2 ⟨rfl,rfl⟩)
    | (go_at_call 271;refine HIN.out.mono ?_;rintro e w2 ⟨rfl,hw2⟩;obtain rfl:=hw2.symm)
    | (go_at_call 367;refine HMD.out.mono ?_;rintro e w2 ⟨rfl,hw2⟩;obtain rfl:=hw2.symm))
   go_loop [10,11] (fun a i=>∃k S:Nat,1<=k/\k<=m/\i=I6 k/\S=aZ y (k-1) 1/\S<=31 * (k-1)/\a=I6 (-719162+bf+d-1+S)) (fun _ i=>m-(intOf i).toNat)
   case atStart=>exact⟨1,0,Nat.le_refl _,m1,rfl,rfl,by omega,by simp⟩
   case round =>
    obtain⟨k,S,k1,k2,rfl,hS,hSl,rfl⟩:=hrel;have HS:=hid hS;clear hS e1 e2 e3;by_cases hlt:k<m
    ·have hlt':(k:Int)<(m:Int):=by omega
     have hMk:=HML.out k k1 ga;have hml:=HMLE.out k;have HSN:=hid (show aZ y k 1=S+bE y k by
      have:=jC y (k-1) 1;rw[show k-1+1=k by omega,show 1+(k-1)=k by omega] at this;rw[this,HS.out])
     obtain⟨mk,hmk⟩:=ez (bE y k)
     rw[<-hmk] at hMk hml HSN;have HMK:=hid hMk;have e4:IntKind.i64.wrap (-719162+(bf:Int)+d-1+S+mk) = -719162+bf+d-1+S+mk:=IntWalk.i64_in _ ⟨by omega,by omega⟩;clear hMk hmk;go_wp2_with (go_at_call 273;refine HMK.out.mono ?_;rintro e w2 ⟨rfl,rfl⟩)
     go_round
     case rel=>exact⟨k+1,S+mk,by omega,by omega,by go_num,by rw[show k+1-1=k by omega];exact HSN.out.symm,by omega,by congr 1;omega⟩
     case measure=>simp[intOf];omega
    ·have hlt':¬ (k:Int)<(m:Int):=by omega
     obtain rfl:k=m:=by omega
     go_wp2
     go_ret2
     refine⟨?_,rfl⟩;have hz:=HZ.out;unfold cY at hz;rw[if_neg (by have:=HD1.out;have:=HMX.out;omega),<-HB.out,<-HS.out] at hz;cases hz;rfl
  ·have HD1:=hid hd1;have q1:(decide ((1:Int)<=(d:Int))&&decide ((d:Int)<=(mx:Int)))=false:=by
    rw[Bool.and_eq_false_iff];simp only[decide_eq_false_iff_not];omega
   rw[q1] at HIN;clear hd1 q1;go_enter Tryz.func335,Tryz.ntmps335
   go_wp2_with (first
    | (go_at_call 271;refine HIN.out.mono ?_;rintro e w2 ⟨rfl,hw2⟩;obtain rfl:=hw2.symm)
    | (go_at_call 367;refine HMD.out.mono ?_;rintro e w2 ⟨rfl,hw2⟩;obtain rfl:=hw2.symm))
   go_ret2
   refine⟨?_,rfl⟩;have hz:=HZ.out;unfold cY at hz;rw[if_pos (by have:=HD1.out;have:=HMX.out;omega)] at hz;cases hz;rfl
theorem aH0 (a b:Int) (h1 : -719162<=a) (h2:a<=2932896) (h3:0<=b) (h4:b<=86399999) (w:World):CP 338 #[I6 a,I6 b] w fun e w'=>e=.returned (.tuple #[I6 (a * 86400000+b),I6 0])/\w'=w:=by
 have e1:IntKind.i64.wrap (a * 86400000)=a * 86400000:=IntWalk.i64_in _ ⟨by omega,by omega⟩;have e2:IntKind.i64.wrap (a * 86400000+b)=a * 86400000+b:=IntWalk.i64_in _ ⟨by omega,by omega⟩;go_enter Tryz.func338,Tryz.ntmps338
 go_wp2_with (go_at_call 271;refine(nE _ _ _ _).mono ?_;rintro e w2 ⟨rfl,hw2⟩;obtain rfl:=hw2.symm)
 go_ret2
 exact⟨rfl,rfl⟩
end
section
open Go Go.RowKit Go.Shelf
theorem aMu:(Tryz.prog.info? 3).map (fun i=>(i.zero,i.size,i.bytes))=some (some (I6 0),1,8):=by kernel_rfl
def NumsRes (o:Option (List Nat × List UInt8)) (B:Nat) (w':World) (v:Value):Prop:=match o with
 | some (ns,r)=>∃row,v=.tuple #[row,.string ⟨r.toArray⟩,.bool true]/\w'.ownsRow B 3 1 row ns.length (ns.map fun (n:Nat)=>I6 n)
 | none=>∃t:ByteArray,v=.tuple #[.slice none 0 0,.string t,.bool false]
theorem aGu (m:List UInt8) (k:Nat) (ms:List (List UInt8 × Nat)) (l:List UInt8) (h:Lib.hasPrefix l m=false):bF ((m,k) :: ms) l=none:=by rw[bF,if_pos h]
theorem aJt (m:List UInt8) (k:Nat) (ms:List (List UInt8 × Nat)) (l:List UInt8) (h:Lib.hasPrefix l m=true):bF ((m,k) :: ms) l=match gU k 0 (Lib.trimPrefix l m) with
 | none=>none
 | some (n,l)=>(bF ms l).map (fun (q:List Nat × List UInt8)=>(n :: q.1,q.2)):=by
 rw[bF,if_neg (by simp[h]),Lib.trimPrefix,if_pos h];cases gU k 0 (l.drop m.length) with
 | none=>rfl
 | some q=>dsimp only;cases bF ms q.2<;>rfl
theorem map_pre (o:Option (List Nat × List UInt8)) (pre:List Nat) (n:Nat):(o.map (fun (q:List Nat × List UInt8)=>(n :: q.1,q.2))).map (fun (q:List Nat × List UInt8)=>(pre++q.1,q.2))=o.map (fun (q:List Nat × List UInt8)=>((pre++[n])++q.1,q.2)):=by cases o<;>simp
theorem yE (l p:List UInt8):(Lib.trimPrefix l p).length<=l.length:=by
 unfold Lib.trimPrefix;split
 ·rw[List.length_drop];omega
 ·exact Nat.le_refl _
theorem qC:∀(k n:Nat) (l:List UInt8) (v:Nat) (r:List UInt8),gU k n l=some (v,r)->r.length<=l.length/\v<(n+1) * 10 ^ k
 | 0,n,l,v,r,h=>by
   simp only[gU,Option.some.injEq,Prod.mk.injEq] at h;obtain⟨rfl,rfl⟩:=h;simp
 | k+1,n,[],v,r,h=>by simp[gU] at h
 | k+1,n,c :: l,v,r,h=>by
   rw[gU] at h;split at h
   ·rename_i hc;have hd:48<=c.toNat/\c.toNat<=57:=by unfold bD at hc;simpa using hc
    have:=qC k _ l v r h;refine⟨by simp only[List.length_cons];omega,Nat.lt_of_lt_of_le this.2 ?_⟩;rw[Nat.pow_succ,<-Nat.mul_assoc,Nat.mul_comm ((n+1) * 10 ^ k) 10,<-Nat.mul_assoc];exact Nat.mul_le_mul_right _ ga
   ·cases h
theorem mN (s:ByteArray) (hs:s.size<=500000) (L:List (List UInt8 × Nat)) (n:Nat) (hn:n=L.length) (h20:n<=20) (bm bd:Nat) (w:World) (hm:∀j (h:j<L.length),w.cell? ⟨bm,j,none⟩=some (.string ⟨L[j].1.toArray⟩)) (hd:∀j (h:j<L.length),w.cell? ⟨bd,j,none⟩=some (I6 (L[j].2:Nat)))
 (hk:∀j (h:j<L.length),L[j].2<=9) (hbm:bm<w.heap.size) (hbd:bd<w.heap.size) :
 CP 334 #[.string s,.slice (some ⟨bm,0,none⟩) n n,.slice (some ⟨bd,0,none⟩) n n] w fun x w'=>(∃v,x=.returned v/\NumsRes (bF L s.data.toList) w.heap.size w' v)/\BB w w':=by
 obtain⟨ti,hi,hz0,hz1,hz2⟩:=info_parts aMu;have HM:=hid hm;have HD:=hid hd;have HK:=hid hk;have HN:=hid hn;clear hm hd hk hn;go_enter Tryz.func334,Tryz.ntmps334
 go_wp2
 go_loopw [6,7,15] (fun vv rv iv wr=>∃(k:Nat) (pre:List Nat) (v:Value) (rest:ByteArray),v=vv/\rv=.string rest/\iv=I6 k/\k<=n/\pre.length=k/\rest.size<=500000/\wr.ownsRow w.heap.size 3 1 v pre.length (pre.map fun (n:Nat)=>I6 n)/\bF L s.data.toList=(bF (L.drop k) rest.data.toList).map (fun (q:List Nat × List UInt8)=>(pre++q.1,q.2))/\BB w wr) (fun _ _ iv _=>n-(intOf iv).toNat)
 case atStart=>exact⟨0,[],_,s,rfl,rfl,rfl,Nat.zero_le _,rfl,hs,World.ownsRow_nil _ _ _ _,by rw[List.drop_zero];cases bF L s.data.toList<;>rfl,Below.refl _ _⟩
 case round =>
  obtain⟨k,pre,v,rest,rfl,rfl,rfl,hkn,hpl,hrz,hown,heq,hbr⟩:=hrel;have HOWN:=hid hown;have HEQ:=hid heq;have HBR:=hid hbr;have HPL:=hid hpl;clear hown heq hbr hpl;by_cases hlt:k<n
  ·have hlt':(k:Int)<(n:Int):=by omega
   have hk0:(0:Int)<=(k:Int):=by omega
   have hkl:k<L.length:=by have:=HN.out;omega
   obtain⟨m,d,hmd⟩:∃m d,(m,d)=L[k]:=⟨_,_,rfl⟩
   have hdk:d<=9:=by have:=HK.out k hkl;rw[<-hmd] at this;exact this
   have hcm:wr.cell? ⟨bm,k,none⟩=some (.string ⟨m.toArray⟩):=by
    have:=HM.out k hkl;rw[<-hmd] at this;exact(HBR.out.cell (p:=⟨bm,k,none⟩) hbm).trans this
   have hcd:wr.cell? ⟨bd,k,none⟩=some (I6 (d:Nat)):=by
    have:=HD.out k hkl;rw[<-hmd] at this;exact(HBR.out.cell (p:=⟨bd,k,none⟩) hbd).trans this
   have HDR:=hid (show L.drop k=(m,d) :: L.drop (k+1) by rw[hmd];exact List.drop_eq_getElem_cons hkl);have hcp:=Tryz.strings_CutPrefix rest ⟨m.toArray⟩ wr;rw[show(⟨m.toArray⟩:ByteArray).data.toList=m from rfl] at hcp;have HTL:=hid (yE rest.data.toList m);have hln:rest.data.toList.length=rest.size:=rfl;obtain⟨t,ht⟩:∃t:List UInt8,t=Lib.trimPrefix rest.data.toList m:=⟨_,rfl⟩
   obtain⟨p,hp⟩:=ez (Lib.hasPrefix rest.data.toList m:Bool)
   rw[<-ht,<-hp] at hcp;have htl:t.length<=rest.size:=by have:=HTL.out;rw[<-ht,hln] at this;exact this
   have HCP:=hid hcp;have HT:=hid ht;have HP:=hid hp;clear hcp ht hp hmd;cases p
   ·have HF:=hid (show bF L s.data.toList=none by rw[HEQ.out,HDR.out,aGu _ _ _ _ HP.out.symm];rfl);go_wp2_with (go_at_call 336;refine HCP.out.mono ?_;rintro e w2 ⟨rfl,hw2⟩;obtain rfl:=hw2.symm)
    refine bodyPost_ret (v:=.tuple #[.slice none 0 0,.string s,.bool false]) (by simp[results,Tryz.results334,go_sem]) rfl ?_;exact⟨⟨_,rfl,by rw[HF.out];exact⟨_,rfl⟩⟩,HBR.out⟩
   ·have HNB:=hid (nN ⟨t.toArray⟩ (by rw[aU];omega) d hdk wr);rw[show(⟨t.toArray⟩:ByteArray).data.toList=t from rfl] at HNB;have HMN:=hid (show bF L s.data.toList=(match gU d 0 t with
     | none=>none
     | some (n,l)=>(bF (L.drop (k+1)) l).map (fun (q:List Nat × List UInt8)=>(n :: q.1,q.2))).map (fun (q:List Nat × List UInt8)=>(pre++q.1,q.2)) by
     rw[HEQ.out,HDR.out,aJt _ _ _ _ HP.out.symm,<-HT.out])
    have HBD:=hid (fun v r=>qC d 0 t v r);obtain⟨o,ho⟩:=ez (gU d 0 t)
    rw[<-ho] at HNB HMN;rw[<-ho] at HBD;clear ho;cases o with
    | none =>
      have HF:=hid (show bF L s.data.toList=none by rw[HMN.out];rfl);go_wp2_with (first
       | (go_at_call 337;refine HNB.out.mono ?_;rintro e w2 ⟨⟨v2,rfl,tz,rfl⟩,hb2⟩;have HB2:=hid hb2;clear hb2)
       | (go_at_call 336;refine HCP.out.mono ?_;rintro e w2 ⟨rfl,hw2⟩;obtain rfl:=hw2.symm))
      refine bodyPost_ret (v:=.tuple #[.slice none 0 0,.string s,.bool false]) (by simp[results,Tryz.results334,go_sem]) rfl ?_;exact⟨⟨_,rfl,by rw[HF.out];exact⟨_,rfl⟩⟩,HBR.out.trans (HB2.out.mono HBR.out.size)⟩
    | some nr =>
      obtain⟨nv,nr⟩:=nr;have hbd2:=(HBD.out nv nr rfl).1;have HMN2:=hid (HMN.out.trans (map_pre _ _ _));have hcap1:pre.length+1<=maxLen:=by unfold maxLen;have:=HPL.out;omega
      have hcap2:(pre.length+1) * 8<=140737488355328:=by have:=HPL.out;omega
      clear HBD HMN;go_wp2_with (first
       | (at_builtin;refine wpList_append_own_at _ gh _ _ 37 gh w.heap.size 3 ti _ 1 8 Tryz.underlying37 hi hz0 hz1 hz2 rfl ga _ _ _ gh ((fM HOWN.out HB2.out).alloc _) ⟨w2.heap.size,0,none⟩ 1 1 [I6 (nv:Nat)] gh gh (cell_one_new _ _ _) gm hcap1 hcap2 (by have:=HBR.out.size;have:=HB2.out.size;simp at *;omega) ?_;intro v' w5 hown' hgrow hnil hloc;have HO2:=hid hown';have HG:=hid hgrow;clear hown' hgrow hnil hloc)
       | (go_at_call 337;refine HNB.out.mono ?_;rintro e w2 ⟨⟨v2,rfl,rfl⟩,hb2⟩;have HB2:=hid hb2;clear hb2)
       | (go_at_call 336;refine HCP.out.mono ?_;rintro e w2 ⟨rfl,hw2⟩;obtain rfl:=hw2.symm))
      have hst:BB w w2:=HBR.out.trans (HB2.out.mono HBR.out.size);refine⟨⟨k+1,pre++[nv],_,⟨nr.toArray⟩,rfl,rfl,by go_num,by omega,by rw[List.length_append,HPL.out];rfl,by rw[aU];omega,?_,HMN2.out,(hst.alloc hst.size _).grown HG.out (by have:=hst.size;simp at this ⊢;omega) (fun r e=>pZ HOWN.out r e)⟩,by simp[intOf];omega⟩;have h:=HO2.out;simp only[List.map_append,List.map_cons,List.map_nil,List.length_append,List.length_cons,List.length_nil] at h ⊢;exact h
  ·obtain rfl:k=n:=by omega
   have hlt':¬ (k:Int)<(k:Int):=by omega
   have HF:=hid (show bF L s.data.toList=some (pre,rest.data.toList) by
    rw[HEQ.out,List.drop_eq_nil_of_le (by have:=HN.out;omega)];simp[bF])
   go_wp2;refine bodyPost_ret (v:=.tuple #[v,.string rest,.bool true]) (by simp[results,Tryz.results334,go_sem]) rfl ?_;exact⟨⟨_,rfl,by rw[HF.out];exact⟨v,rfl,HOWN.out⟩⟩,HBR.out⟩
end
section
open Go Go.RowKit Go.Shelf
theorem yS {w:World} {base:Nat} {e:TypeId} {size n:Nat} {v:Value} {xs:List Value} (h:w.ownsRow base e size v (n+1) xs):∃g cap,v=.slice (some ⟨g,0,none⟩) (n+1) cap:=by
 rcases h.2 with ⟨_,h0⟩ | ⟨g,cap,cur,hv,_⟩
 ·omega
 ·exact⟨g,cap,hv⟩
theorem ltOf' {w:World} {base:Nat} {e:TypeId} {size n g cap:Nat} {xs:List Value} (h:w.ownsRow base e size (.slice (some ⟨g,0,none⟩) n cap) n xs):g<w.heap.size:=by
 rcases h.2 with ⟨h0,_⟩ | ⟨g',cap',cur,hv,_,hg,_⟩
 ·cases h0
 ·cases hv;exact ltOf hg
theorem qE:∀(L:List (List UInt8 × Nat)) (l:List UInt8) (ns:List Nat) (r:List UInt8),(∀x∈L,x.2<=4)->bF L l=some (ns,r)->ns.length=L.length/\(∀n∈ns,n<=9999)/\r.length<=l.length
 | [],l,ns,r,_,h=>by
   simp only[bF,Option.some.injEq,Prod.mk.injEq] at h;obtain⟨rfl,rfl⟩:=h;exact⟨rfl,fun n hn=>(by cases hn),Nat.le_refl _⟩
 | (m,k) :: L,l,ns,r,hL,h=>by
   rw[bF] at h;split at h
   ·cases h
   cases hd:gU k 0 (l.drop m.length) with
   | none=>rw[hd] at h;cases h
   | some q =>
     rw[hd] at h;dsimp only at h;cases hm:bF L q.2 with
     | none=>rw[hm] at h;cases h
     | some p =>
       rw[hm] at h;simp only[Option.some.injEq,Prod.mk.injEq] at h;obtain⟨rfl,rfl⟩:=h;obtain⟨h1,h2,h3⟩:=qE L q.2 p.1 p.2 (fun x hx=>hL x (List.mem_cons_of_mem _ hx)) hm;obtain⟨h4,h5⟩:=qC k 0 _ q.1 q.2 hd;have hk:k<=4:=hL (m,k) (List.mem_cons_self ..);have hp:(10:Nat) ^ k<=10 ^ 4:=Nat.pow_le_pow_right gc hk;refine⟨by rw[List.length_cons,List.length_cons,h1],?_,by rw[List.length_drop] at h4;omega⟩;intro n hn;rcases List.mem_cons.1 hn with rfl | hn
       ·omega
       ·exact h2 n hn
theorem aNp {l:List UInt8} (h:bF [([],4),([45],2),([45],2)] l=none):gM l=(0,13):=by unfold gM;rw[h]
theorem aL4 {l:List UInt8} {y m d:Nat} {r:List UInt8} (h:bF [([],4),([45],2),([45],2)] l=some ([y,m,d],r)) (hr:r≠[]):gM l=(0,13):=by
 unfold gM;rw[h];cases r with
 | nil=>exact absurd rfl hr
 | cons c r=>rfl
theorem calP_good {l:List UInt8} {y m d:Nat} (h:bF [([],4),([45],2),([45],2)] l=some ([y,m,d],[])):gM l=cY y m d:=by unfold gM;rw[h]
theorem aLn {ns:List Nat} (h:ns.length=3):∃y m d,ns=[y,m,d]:=by
 match ns,h with
 | [y,m,d],_=>exact⟨y,m,d,rfl⟩
theorem xW (s:ByteArray) (hs:s.size<=500000) (w:World):CP 302 #[.string s] w fun x w'=>x=.returned (.tuple #[I6 (gM s.data.toList).1,I6 (gM s.data.toList).2])/\BB w w':=by
 obtain⟨z1,hz1⟩:=ez ((gM s.data.toList).1)
 obtain⟨z2,hz2⟩:=ez ((gM s.data.toList).2)
 rw[<-hz1,<-hz2];have HZ:=hid (show gM s.data.toList=(z1,z2) by rw[hz1,hz2]);clear hz1 hz2;have HNS:=hid (mN s hs [([],4),([45],2),([45],2)] 3 rfl gc w.heap.size (w.heap.size+1) ((w.alloc (.cells #[.string ⟨#[]⟩,.string ⟨#[45]⟩,.string ⟨#[45]⟩] 9)).alloc (.cells #[I6 4,I6 2,I6 2] 3))
  (by intro j h;match j,h with | 0,_=>simp | 1,_=>simp | 2,_=>simp) (by intro j h;match j,h with | 0,_=>simp | 1,_=>simp | 2,_=>simp) (by intro j h;match j,h with | 0,_=>exact(by decide:4<=9) | 1,_=>exact(by decide:2<=9) | 2,_=>exact(by decide:2<=9)) gj gd)
 have HB0:=hid (show BB w ((w.alloc (.cells #[.string ⟨#[]⟩,.string ⟨#[45]⟩,.string ⟨#[45]⟩] 9)).alloc (.cells #[I6 4,I6 2,I6 2] 3)) from((bR w).alloc lr _).alloc gd _);have HBD:=hid (fun ns r=>qE [([],4),([45],2),([45],2)] s.data.toList ns r gc);obtain⟨o,ho⟩:=ez (bF [([],4),([45],2),([45],2)] s.data.toList)
 rw[<-ho] at HNS HBD;have HO:=hid ho;clear ho;cases o with
 | none =>
   go_enter Tryz.func302,Tryz.ntmps302
   go_wp2_with (go_at_call 334;refine HNS.out.mono ?_;rintro e w2 ⟨⟨v2,rfl,tz,rfl⟩,hb2⟩;have HB2:=hid hb2;clear hb2)
   go_ret2
   refine⟨?_,HB0.out.trans (HB2.out.mono HB0.out.size)⟩;have hz:=HZ.out;rw[aNp HO.out.symm] at hz;cases hz;rfl
 | some q =>
   obtain⟨ns,r⟩:=q;obtain⟨hl,h9,hrl⟩:=HBD.out ns r rfl;obtain⟨y,m,d,rfl⟩:=aLn hl;have hy:y<=9999:=h9 y gd;have hm:m<=9999:=h9 m gd;have hd:d<=9999:=h9 d gd;clear HBD hl h9 hrl;by_cases hr:r=[]
   ·subst hr;have HDY:=hid (fun w'=>zZ y m d ga ga ga w');rw[<-calP_good HO.out.symm,HZ.out] at HDY;dsimp only at HDY;go_enter Tryz.func302,Tryz.ntmps302
    go_upto_region 4 with (go_at_call 334;refine HNS.out.mono ?_;rintro e w2 ⟨⟨v2,rfl,row,rfl,hrow⟩,hb2⟩;have HB2:=hid hb2;have HROW:=hid hrow;clear hb2 hrow)
    obtain⟨g,cap,rfl⟩:=yS HROW.out;have hc0:w2.cell? ⟨g,0,none⟩=some (I6 (y:Nat)):=HROW.out.cellAt 0 gd;have hc1:w2.cell? ⟨g,1,none⟩=some (I6 (m:Nat)):=HROW.out.cellAt 1 gd;have hc2:w2.cell? ⟨g,2,none⟩=some (I6 (d:Nat)):=HROW.out.cellAt 2 gd
    go_quiet ((go_at_call 335;exact Calls.quiet_of_same (HDY.out _)))
    go_wp2
    go_ret2
    exact⟨rfl,HB0.out.trans ((HB2.out.mono HB0.out.size).trans ⟨rfl,rfl,rfl,Nat.le_refl _,fun _ _=>rfl⟩)⟩
   ·have hr3:r.isEmpty=false:=by cases r with | nil=>exact absurd rfl hr | cons a b=>rfl
    have HRR:=hid hr;clear hr;go_enter Tryz.func302,Tryz.ntmps302
    go_wp2_with (go_at_call 334;refine HNS.out.mono ?_;rintro e w2 ⟨⟨v2,rfl,row,rfl,hrow⟩,hb2⟩;have HB2:=hid hb2;have HROW:=hid hrow;clear hb2 hrow)
    go_ret2
    refine⟨?_,HB0.out.trans (HB2.out.mono HB0.out.size)⟩;have hz:=HZ.out;rw[aL4 HO.out.symm HRR.out] at hz;cases hz;rfl
def zS (r:List UInt8):Option (Nat × List UInt8):=if Lib.hasPrefix r [46] then (match gU 3 0 (r.drop 1) with | some (n,r)=>if n=0 then none else some (n,r) | none=>none) else some (0,r)
theorem aF6 {l:List UInt8} (h:bF [([],4),([45],2),([45],2),([84],2),([58],2),([58],2)] l=none):iV l=(0,13):=by unfold iV;rw[h]
theorem aF5 {l:List UInt8} {y m d h i s:Nat} {r:List UInt8} (hm:bF [([],4),([45],2),([45],2),([84],2),([58],2),([58],2)] l=some ([y,m,d,h,i,s],r)):iV l=(match zS r with
 | none=>(0,13)
 | some (z,r)=>if r≠[90] then (0,13) else if (cY y m d).2≠0\/23<h\/59<i\/59<s then (0,17) else ((cY y m d).1 * 86400000+(((60 * h+i) * 60+s) * 1000+z:Nat),0)):=by
 unfold iV;rw[hm];rfl
theorem aLv {ns:List Nat} (h:ns.length=6):∃y m d h i s,ns=[y,m,d,h,i,s]:=by
 match ns,h with
 | [y,m,d,h,i,s],_=>exact⟨y,m,d,h,i,s,rfl⟩
theorem pR (y:Nat):∀(j k m:Nat),aZ y j m<=aZ y (j+k) m
 | j,0,m=>Nat.le_refl _
 | j,k+1,m=>by
   have:=pR y j k m;rw[show j+(k+1)=(j+k)+1 by omega,jC];omega
theorem aNu (y:Nat) (h:y<=10000):eA y<=3652059:=by unfold eA;omega
theorem aEs {y m d:Nat} (h:(cY y m d).2=0) : -719162<=(cY y m d).1/\(cY y m d).1<=2932896:=by
 unfold cY at h ⊢;split at h
 ·cases h
 ·rename_i hn;rw[if_neg hn];have hy:1<=y/\y<=9999:=by omega
  have hm:1<=m/\m<=12:=by omega
  have hd:1<=d/\d<=bE y m:=by omega
  have h1:=pN y hy.1;have h2:=aNu (y+1) ga;have h3:=jC y (m-1) 1;rw[show 1+(m-1)=m by omega,show m-1+1=m by omega] at h3;have h4:=pR y m (12-m) 1;rw[show m+(12-m)=12 by omega] at h4;dsimp only;omega
def FracRel (r:List UInt8) (w:World) (v5 v7:Value) (wz:World):Prop:=∃z rr,v7=I6 (z:Nat)/\v5=.string ⟨rr.toArray⟩/\zS r=some (z,rr)/\z<=999/\BB w wz
theorem aCa (s:ByteArray) (hs:s.size<=500000) (w:World):CP 304 #[.string s] w fun x w'=>x=.returned (.tuple #[I6 (iV s.data.toList).1,I6 (iV s.data.toList).2])/\BB w w':=by
 have hln:s.data.toList.length=s.size:=rfl;obtain⟨z1,hz1⟩:=ez ((iV s.data.toList).1)
 obtain⟨z2,hz2⟩:=ez ((iV s.data.toList).2)
 rw[<-hz1,<-hz2];have HZ:=hid (show iV s.data.toList=(z1,z2) by rw[hz1,hz2]);clear hz1 hz2;have HNS:=hid (mN s hs [([],4),([45],2),([45],2),([84],2),([58],2),([58],2)] 6 rfl gc w.heap.size (w.heap.size+1) ((w.alloc (.cells #[.string ⟨#[]⟩,.string ⟨#[45]⟩,.string ⟨#[45]⟩,.string ⟨#[84]⟩,.string ⟨#[58]⟩,.string ⟨#[58]⟩] 9)).alloc (.cells #[I6 4,I6 2,I6 2,I6 2,I6 2,I6 2] 3))
  (by intro j h;match j,h with | 0,_=>simp | 1,_=>simp | 2,_=>simp | 3,_=>simp | 4,_=>simp | 5,_=>simp) (by intro j h;match j,h with | 0,_=>simp | 1,_=>simp | 2,_=>simp | 3,_=>simp | 4,_=>simp | 5,_=>simp)
  (by intro j h;match j,h with | 0,_=>exact(by decide:4<=9) | 1,_=>exact(by decide:2<=9) | 2,_=>exact(by decide:2<=9) | 3,_=>exact(by decide:2<=9) | 4,_=>exact(by decide:2<=9) | 5,_=>exact(by decide:2<=9)) gj gd)
 have HB0:=hid (show BB w ((w.alloc (.cells #[.string ⟨#[]⟩,.string ⟨#[45]⟩,.string ⟨#[45]⟩,.string ⟨#[84]⟩,.string ⟨#[58]⟩,.string ⟨#[58]⟩] 9)).alloc (.cells #[I6 4,I6 2,I6 2,I6 2,I6 2,I6 2] 3)) from((bR w).alloc lr _).alloc gd _);have HBD:=hid (fun ns r=>qE [([],4),([45],2),([45],2),([84],2),([58],2),([58],2)] s.data.toList ns r gc);obtain⟨o,ho⟩:=ez (bF [([],4),([45],2),([45],2),([84],2),([58],2),([58],2)] s.data.toList)
 rw[<-ho] at HNS HBD;have HO:=hid ho;clear ho;cases o with
 | none =>
   go_enter Tryz.func304,Tryz.ntmps304
   go_wp2_with (go_at_call 334;refine HNS.out.mono ?_;rintro e w2 ⟨⟨v2,rfl,tz,rfl⟩,hb2⟩;have HB2:=hid hb2;clear hb2)
   go_ret2
   refine⟨?_,HB0.out.trans (HB2.out.mono HB0.out.size)⟩;have hz:=HZ.out;rw[aF6 HO.out.symm] at hz;cases hz;rfl
 | some q =>
   obtain⟨ns,r⟩:=q;obtain⟨hl,h9,hrl⟩:=HBD.out ns r rfl;obtain⟨y,m,d,h,i,s6,rfl⟩:=aLv hl;have hy:y<=9999:=h9 y gd;have hm:m<=9999:=h9 m gd;have hd:d<=9999:=h9 d gd;have hh:h<=9999:=h9 h gd;have hi:i<=9999:=h9 i gd;have hs6:s6<=9999:=h9 s6 gd;have HSX:=hid ((aF5 HO.out.symm).symm.trans HZ.out);have hcp:=fun w'=>Tryz.strings_CutPrefix ⟨r.toArray⟩ ⟨#[46]⟩ w';rw[show(⟨r.toArray⟩:ByteArray).data.toList=r from rfl,show(⟨#[46]⟩:ByteArray).data.toList=[46] from rfl] at hcp;obtain⟨p,hp⟩:=ez (Lib.hasPrefix r [46]:Bool)
   obtain⟨t,ht⟩:∃t:List UInt8,t=Lib.trimPrefix r [46]:=⟨_,rfl⟩
   rw[<-hp,<-ht] at hcp;have HCP:=hid hcp;have htl:t.length<=s.size:=by have:=yE r [46];rw[<-ht] at this;omega
   have HFR:=hid (show zS r=if p=true then (match gU 3 0 t with | some (n,r)=>if n=0 then none else some (n,r) | none=>none) else some (0,r) by
    unfold zS;rw[<-hp];cases p
    ·rfl
    ·rw[ht,Lib.trimPrefix,if_pos hp.symm];rfl)
   clear HBD hl h9 hrl hcp hp ht;go_enter Tryz.func304,Tryz.ntmps304
   go_upto_if 27 with (first
    | (go_at_call 334;refine HNS.out.mono ?_;rintro e w2 ⟨⟨v2,rfl,row,rfl,hrow⟩,hb2⟩;have HB2:=hid (HB0.out.trans (hb2.mono HB0.out.size));have HROW:=hid hrow;clear hb2 hrow)
    | (go_at_call 336;refine(HCP.out _).mono ?_;rintro e w3 ⟨rfl,hw3⟩;obtain rfl:=hw3.symm))
   obtain⟨g,cap,rfl⟩:=yS HROW.out;have hc0:w2.cell? ⟨g,0,none⟩=some (I6 (y:Nat)):=HROW.out.cellAt 0 gd;have hc1:w2.cell? ⟨g,1,none⟩=some (I6 (m:Nat)):=HROW.out.cellAt 1 gd;have hc2:w2.cell? ⟨g,2,none⟩=some (I6 (d:Nat)):=HROW.out.cellAt 2 gd;have hc3:w2.cell? ⟨g,3,none⟩=some (I6 (h:Nat)):=HROW.out.cellAt 3 gd;have hc4:w2.cell? ⟨g,4,none⟩=some (I6 (i:Nat)):=HROW.out.cellAt 4 gd;have hc5:w2.cell? ⟨g,5,none⟩=some (I6 (s6:Nat)):=HROW.out.cellAt 5 gd
   have HCC:=hid (show(w2.cell? ⟨g,0,none⟩=_/\w2.cell? ⟨g,1,none⟩=_/\w2.cell? ⟨g,2,none⟩=_/\w2.cell? ⟨g,3,none⟩=_/\w2.cell? ⟨g,4,none⟩=_/\w2.cell? ⟨g,5,none⟩=_) from⟨hc0,hc1,hc2,hc3,hc4,hc5⟩);clear hc0 hc1 hc2 hc3 hc4 hc5
   go_cut [5,7] (fun v5 v7 wz=>FracRel r w v5 v7 wz/\BB w2 wz)
   case first =>
    cases p
    ·go_wp2
     go_meet
     exact⟨⟨0,r,rfl,rfl,by rw[HFR.out];rfl,by decide,HB2.out⟩,Below.refl _ _⟩
    ·have HNB:=hid (nN ⟨t.toArray⟩ (by rw[aU];omega) 3 gc w2);rw[show(⟨t.toArray⟩:ByteArray).data.toList=t from rfl] at HNB;have HBD:=hid (fun v r=>qC 3 0 t v r);obtain⟨o,ho⟩:=ez (gU 3 0 t)
     rw[<-ho] at HNB HFR;rw[<-ho] at HBD;clear ho;cases o with
     | none =>
       go_wp2_with (go_at_call 337;refine HNB.out.mono ?_;rintro e w4 ⟨⟨v2,rfl,tz,rfl⟩,hb4⟩;have HB4:=hid hb4;clear hb4)
       go_ret2
       refine⟨?_,HB2.out.trans (HB4.out.mono HB2.out.size)⟩;have hz:=HSX.out;rw[HFR.out] at hz;cases hz;rfl
     | some nr =>
       obtain⟨nv,nr⟩:=nr;have hbd2:=(HBD.out nv nr rfl).2;by_cases hz0:nv=0
       ·subst hz0;go_wp2_with (go_at_call 337;refine HNB.out.mono ?_;rintro e w4 ⟨⟨v2,rfl,rfl⟩,hb4⟩;have HB4:=hid hb4;clear hb4)
        go_ret2
        refine⟨?_,HB2.out.trans (HB4.out.mono HB2.out.size)⟩;have hz:=HSX.out;rw[HFR.out] at hz;cases hz;rfl
       ·have qz:((nv:Int)==0)=false:=by simp;omega
        have HZ0:=hid hz0;clear hz0;go_wp2_with (go_at_call 337;refine HNB.out.mono ?_;rintro e w4 ⟨⟨v2,rfl,rfl⟩,hb4⟩;have HB4:=hid hb4;clear hb4)
        go_meet
        refine⟨⟨nv,nr,rfl,rfl,?_,by omega,HB2.out.trans (HB4.out.mono HB2.out.size)⟩,HB4.out⟩;rw[HFR.out];exact if_neg HZ0.out
   case rest =>
   obtain⟨⟨z,rr,rfl,rfl,hfr,hz9,hbw⟩,hbz⟩:=hcut;obtain⟨wb,hwb⟩:=ez wc
   rw[<-hwb] at hbw hbz ⊢;clear hwb HFR HCP HNS HB0;have hgl:g<w2.heap.size:=ltOf' HROW.out;obtain⟨k0,k1,k2,k3,k4,k5⟩:=HCC.out;have c0:=(hbz.cell (p:=⟨g,0,none⟩) hgl).trans k0;have c1:=(hbz.cell (p:=⟨g,1,none⟩) hgl).trans k1;have c2:=(hbz.cell (p:=⟨g,2,none⟩) hgl).trans k2;have c3:=(hbz.cell (p:=⟨g,3,none⟩) hgl).trans k3;have c4:=(hbz.cell (p:=⟨g,4,none⟩) hgl).trans k4;have c5:=(hbz.cell (p:=⟨g,5,none⟩) hgl).trans k5
   have HS2:=hid (show(if rr≠[90] then ((0:Int),(13:Int)) else if (cY y m d).2≠0\/23<h\/59<i\/59<s6 then (0,17) else ((cY y m d).1 * 86400000+(((60 * h+i) * 60+s6) * 1000+z:Nat),0))=(z1,z2) by
    have:=HSX.out;rw[hfr] at this;exact this)
   have HBW:=hid hbw;clear k0 k1 k2 k3 k4 k5 hfr hbw hbz HCC;by_cases hr:rr=[90]
   ·subst hr;have HDY:=hid (fun w'=>zZ y m d ga ga ga w');have HDB:=hid (aEs (y:=y) (m:=m) (d:=d));rw[if_neg gd] at HS2;obtain⟨d1,hd1⟩:=ez ((cY y m d).1)
    obtain⟨d2,hd2⟩:=ez ((cY y m d).2)
    rw[<-hd1,<-hd2] at HDB HS2;have HDY2:Hid (∀w',CP 335 #[I6 y,I6 m,I6 d] w' fun e w2=>e=.returned (.tuple #[I6 d1,I6 d2])/\w2=w'):=hid (by rw[hd1,hd2];exact HDY.out);clear hd1 hd2 HDY;go_upto_region 12 with (fail)
    go_quiet ((go_at_call 335;exact Calls.quiet_of_same (HDY2.out _)))
    rename_i nq;obtain⟨wq,hwq⟩:=ez (wb.drewN nq)
    rw[<-hwq];have d3:wq.cell? ⟨g,3,none⟩=some (I6 (h:Nat)):=by rw[hwq];exact c3
    have d4:wq.cell? ⟨g,4,none⟩=some (I6 (i:Nat)):=by rw[hwq];exact c4
    have d5:wq.cell? ⟨g,5,none⟩=some (I6 (s6:Nat)):=by rw[hwq];exact c5
    have HBQ:=hid (show BB w wq from HBW.out.trans (by rw[hwq];exact⟨rfl,rfl,rfl,Nat.le_refl _,fun _ _=>rfl⟩));clear hwq c0 c1 c2 c3 c4 c5;by_cases he:d2=0
    ·have qe:(d2==0)=true:=by simp[he]
     have qe':(d2 != 0)=false:=by simp[he]
     have HDB2:=HDB.out he;have HE:=hid he;clear he;by_cases hbad:23<h\/59<i\/59<s6
     ·have HBAD:=hid hbad;by_cases h23:23<h
      ·have q23:(23:Int)<(h:Int):=by omega
       clear hbad;go_wp2
       go_ret2
       refine⟨?_,HBQ.out.trans ⟨rfl,rfl,rfl,Nat.le_refl _,fun _ _=>rfl⟩⟩;have hz:=HS2.out;rw[if_pos (.inr HBAD.out)] at hz;cases hz;rfl
      ·by_cases h59:59<i
       ·have q23:¬ (23:Int)<(h:Int):=by omega
        have q59:(59:Int)<(i:Int):=by omega
        clear hbad;go_wp2
        go_ret2
        refine⟨?_,HBQ.out.trans ⟨rfl,rfl,rfl,Nat.le_refl _,fun _ _=>rfl⟩⟩;have hz:=HS2.out;rw[if_pos (.inr HBAD.out)] at hz;cases hz;rfl
       ·have q23:¬ (23:Int)<(h:Int):=by omega
        have q59:¬ (59:Int)<(i:Int):=by omega
        have q60:(59:Int)<(s6:Int):=by omega
        clear hbad;go_wp2
        go_ret2
        refine⟨?_,HBQ.out.trans ⟨rfl,rfl,rfl,Nat.le_refl _,fun _ _=>rfl⟩⟩;have hz:=HS2.out;rw[if_pos (.inr HBAD.out)] at hz;cases hz;rfl
     ·have HBAD:=hid hbad;have q23:¬ (23:Int)<(h:Int):=by omega
      have q59:¬ (59:Int)<(i:Int):=by omega
      have q60:¬ (59:Int)<(s6:Int):=by omega
      have h23:h<=23:=by omega
      have i59:i<=59:=by omega
      have s59:s6<=59:=by omega
      clear hbad;have e1:IntKind.i64.wrap (60 * (h:Int))=60 * h:=IntWalk.i64_in _ ⟨by omega,by omega⟩;have e2:IntKind.i64.wrap (60 * (h:Int)+i)=60 * h+i:=IntWalk.i64_in _ ⟨by omega,by omega⟩;have e3:IntKind.i64.wrap ((60 * (h:Int)+i) * 60)=(60 * h+i) * 60:=IntWalk.i64_in _ ⟨by omega,by omega⟩;have e4:IntKind.i64.wrap ((60 * (h:Int)+i) * 60+s6)=(60 * h+i) * 60+s6:=IntWalk.i64_in _ ⟨by omega,by omega⟩;have e5:IntKind.i64.wrap (((60 * (h:Int)+i) * 60+s6) * 1000)=((60 * h+i) * 60+s6) * 1000:=IntWalk.i64_in _ ⟨by omega,by omega⟩
      have e6:IntKind.i64.wrap (((60 * (h:Int)+i) * 60+s6) * 1000+z)=((60 * h+i) * 60+s6) * 1000+z:=IntWalk.i64_in _ ⟨by omega,by omega⟩;have HJN:=hid (fun w'=>aH0 d1 (((60 * (h:Int)+i) * 60+s6) * 1000+z) HDB2.1 HDB2.2 ga ga w');clear HDB2;go_upto_region 15 with (fail)
      go_quiet ((go_at_call 338;exact Calls.quiet_of_same (HJN.out _)))
      go_wp2
      go_ret2
      refine⟨?_,HBQ.out.trans ⟨rfl,rfl,rfl,Nat.le_refl _,fun _ _=>rfl⟩⟩;have hz:=HS2.out;rw[if_neg (by rw[HE.out];intro h;rcases h with h | h;exact h rfl;exact HBAD.out h)] at hz;cases hz
      congr 3
    ·have qe:(d2==0)=false:=by simp[he]
     have qe':(d2 != 0)=true:=by simp[he]
     have HE:=hid he;clear he;go_wp2
     go_ret2
     refine⟨?_,HBQ.out.trans ⟨rfl,rfl,rfl,Nat.le_refl _,fun _ _=>rfl⟩⟩;have hz:=HS2.out;rw[if_pos (.inl HE.out)] at hz;cases hz;rfl
   ·have hr1:(rr==([90]:List UInt8))=false:=by rw[beq_eq_false_iff_ne];exact hr
    have hr2:(rr != ([90]:List UInt8))=true:=by rw[bne,hr1];rfl
    have HRR:=hid hr;clear hr;go_wp2
    go_ret2
    refine⟨?_,HBW.out⟩;have hz:=HS2.out;rw[if_pos HRR.out] at hz;cases hz;rfl
end
end Go.Proofs.YtmgpghoamapfgaaGreatDoor
