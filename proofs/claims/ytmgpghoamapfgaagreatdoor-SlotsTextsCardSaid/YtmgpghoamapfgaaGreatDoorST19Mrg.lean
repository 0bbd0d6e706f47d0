/- A part. -/
import Derived.Test.YtmgpghoamapfgaaGreatDoorST18Mrg
import Derived.Laws.Runes
namespace Go.Proofs.YtmgpghoamapfgaaGreatDoor
set_option linter.unusedVariables false
set_option maxRecDepth 100000
set_option maxHeartbeats 16000000
set_option linter.unusedSimpArgs false
section
open Go Go.RowKit Go.Shelf
theorem aBw (n:Nat) (w:World):CP 375 #[I6 n] w fun x w'=>x=.returned (.bool (jE n))/\w'=w:=by
 have h:jE n=(decide ((n:Int)<=1114111)&&(decide ((n:Int)<55296)||decide ((57343:Int)<n))):=by
  have a1:decide ((n:Int)<=1114111)=decide (n<=1114111):=by rw[decide_eq_decide];omega
  have a2:decide ((n:Int)<55296)=decide (n<55296):=by rw[decide_eq_decide];omega
  have a3:decide ((57343:Int)<n)=decide (57343<n):=by rw[decide_eq_decide];omega
  rw[a1,a2,a3];rfl
 rw[h];clear h;obtain⟨m,hm⟩:=ez (n:Int)
 have h0:0<=m:=by omega
 rw[<-hm];clear hm;by_cases h1:m<=1114111<;>by_cases h2:m<55296<;>by_cases h3:57343<m <;>
  (go_enter Tryz.func375,Tryz.ntmps375;go_wp2;go_ret;exact⟨by simp[h1,h2,h3],rfl⟩)
theorem aEm (n:Nat) (hn:n<=1000000000) (w:World):CP 358 #[I6 n] w fun x w'=>x=.returned (if jE n=true then .tuple #[.string (Utf8.encode (n:Int)),I6 0] else .tuple #[.string ⟨#[]⟩,I6 2])/\w'=w:=by
 have HI:=hid (aBw n w);have hw:IntKind.i32.wrap (n:Int)=n:=IntWalk.i32_in _ ⟨by omega,by omega⟩;obtain⟨q,hq⟩:=ez (jE n)
 rw[<-hq] at HI ⊢;clear hq hn;cases q
 ·go_enter Tryz.func358,Tryz.ntmps358
  go_wp2_with (go_at_call 375;refine HI.out.mono ?_;rintro e w1 ⟨rfl,rfl⟩)
  refine bodyPost_ret (v:=.tuple #[.string ⟨#[]⟩,I6 2]) (by simp[results,Tryz.results358,go_sem]) rfl ?_;exact⟨by simp,rfl⟩
 ·go_enter Tryz.func358,Tryz.ntmps358
  go_wp2_with (go_at_call 375;refine HI.out.mono ?_;rintro e w1 ⟨rfl,rfl⟩)
  refine bodyPost_ret (v:=.tuple #[.string (Utf8.encode (n:Int)),I6 0]) (by simp[results,Tryz.results358,go_sem]) rfl ?_;exact⟨by simp,rfl⟩
theorem aFl (s:ByteArray) (hs:s.size<=1000000) (w:World) (hT:Tabs w):CP 326 #[.string s] w fun x w'=>x=.returned (.bool (Lib.validD s.data.toList))/\BB w w':=by
 have HV:=hid (Tryz.utf8_ValidString s w ga hT.1);clear hT;go_enter Tryz.func326,Tryz.ntmps326
 go_wp2_with (go_at_call 198;refine HV.out.mono ?_;rintro e w1 ⟨rfl,hb⟩)
 go_ret;exact⟨rfl,hb⟩
theorem aN3:∀n:Fin 256,n.val≠34->n.val≠92->n.val≠110->n.val≠114->n.val≠116->Lib.indexByte [34,92,110,114,116] (UInt8.ofNat n.val) = -1:=by decide +kernel
theorem hexI_lt (c:UInt8):iA c<16:=by
 have:∀n:Fin 256,iA (UInt8.ofNat n.val)<16:=by decide +kernel
 have:=this ⟨c.toNat,c.toNat_lt⟩
 simpa using this
theorem aEb (c:UInt8) (l:List UInt8) (n:Nat) (h:¬ iA c<0):kB (c :: l) n=kB l (16 * n+(iA c).toNat):=by simp[kB,h]
theorem aEc (c:UInt8) (l:List UInt8) (n:Nat) (h:iA c<0):kB (c :: l) n=none:=by simp[kB,h]
theorem qP (v k:Nat) (b:UInt8) (hk:Lib.indexByte [34,92,110,114,116] (v:Int).toNat.toUInt8=(k:Int)) (hk5:k<5) (hb:(⟨#[34,92,10,13,9]⟩:ByteArray).extract k (k+1)=⟨#[b]⟩)
 (s:ByteArray) (hs:s.size<=1000000) (h0:0<s.size) (hc:s[0].toNat=v) (he:fC s.data.toList=([b],1,0)) (w:World) :
 CP 327 #[.string s] w fun x w'=>x=.returned (.tuple #[.string ⟨(fC s.data.toList).1.toArray⟩,I6 ((fC s.data.toList).2.1:Int),I6 (fC s.data.toList).2.2])/\BB w w':=by
 rw[he];have HI:=hid (Tryz.strings_IndexByte ⟨#[34,92,110,114,116]⟩ (v:Int) w);rw[show(⟨#[34,92,110,114,116]⟩:ByteArray).data.toList=[34,92,110,114,116] from rfl,hk] at HI;have HB:=hid hb;clear hk hb he;have h0':(0:Int)<(s.size:Int):=by omega
 have hk0:(0:Int)<=(k:Int):=by omega
 go_enter Tryz.func327,Tryz.ntmps327
 go_wp2_with (go_at_call 145;refine HI.out.mono ?_;rintro e w1 ⟨rfl,rfl⟩)
 refine bodyPost_ret (v:=.tuple #[.string ⟨#[b]⟩,I6 1,I6 0]) (by simp[results,Tryz.results327,go_sem,HB.out]) rfl ?_;exact⟨rfl,Below.refl _ _⟩
end
section
open Go Go.RowKit Go.Shelf
theorem esc_of (l:List UInt8) (c:UInt8) (r:List UInt8) (hl:l=c :: r) (h:c.toNat≠34/\c.toNat≠92/\c.toNat≠110/\c.toNat≠114/\c.toNat≠116) (q:List UInt8 × List UInt8 × Bool) (hq:q=Lib.cut (Lib.trimPrefix l [117,123]) [125]) :
 fC l=(if Lib.hasPrefix l [117,123]=false\/q.2.2=false\/q.1.length<1\/6<q.1.length then ([],0,13) else
  match kB q.1 0 with
  | none=>([],0,13)
  | some n=>if jE n=false then ([],0,16) else ((Utf8.encode (n:Int)).data.toList,q.1.length+3,0):List UInt8 × Nat × Int):=by
 subst hl;unfold fC;dsimp only;rw[if_neg h.1,if_neg h.2.1,if_neg h.2.2.1,if_neg h.2.2.2.1,if_neg h.2.2.2.2,<-hq];rfl
theorem escape2 (s:ByteArray) (hs:s.size<=1000000) (h0:0<s.size) (hc:s[0].toNat≠34/\s[0].toNat≠92/\s[0].toNat≠110/\s[0].toNat≠114/\s[0].toNat≠116) (w:World) (hN:NumVars w) :
 CP 327 #[.string s] w fun x w'=>x=.returned (.tuple #[.string ⟨(fC s.data.toList).1.toArray⟩,I6 ((fC s.data.toList).2.1:Int),I6 (fC s.data.toList).2.2])/\BB w w':=by
 obtain⟨m,hm⟩:=hN.2.2;have hl:s.data.toList=s[0] :: s.data.toList.drop 1:=by
  have:=oC s 0 h0
  simpa using this
 obtain⟨q,hq⟩:=ez (Lib.cut (Lib.trimPrefix s.data.toList [117,123]) [125])
 have hE:=esc_of s.data.toList s[0] _ hl hc q hq;obtain⟨v,hv⟩:=ez (s[0].toNat:Nat)
 have hi:=Tryz.strings_IndexByte ⟨#[34,92,110,114,116]⟩ (v:Int) w;have hx:Lib.indexByte (⟨#[34,92,110,114,116]⟩:ByteArray).data.toList (v:Int).toNat.toUInt8 = -1:=by
  have h:=aN3 ⟨s[0].toNat,s[0].toNat_lt⟩ hc.1 hc.2.1 hc.2.2.1 hc.2.2.2.1 hc.2.2.2.2;rw[hv];exact h
 rw[hx] at hi;have HI:=hid hi;have htp:=Tryz.strings_TrimPrefix s ⟨#[117,123]⟩ w;rw[show(⟨#[117,123]⟩:ByteArray).data.toList=[117,123] from rfl] at htp;obtain⟨st,hst⟩:=ez (⟨(Lib.trimPrefix s.data.toList [117,123]).toArray⟩:ByteArray)
 have htl:(Lib.trimPrefix s.data.toList [117,123]).length<=s.size:=by
  unfold Lib.trimPrefix;have:s.data.toList.length=s.size:=rfl;split
  ·rw[List.length_drop];omega
  ·omega
 have hcu:=Tryz.strings_Cut st ⟨#[125]⟩ m w (by rw[hst,aU];omega) hm;rw[show st.data.toList=Lib.trimPrefix s.data.toList [117,123] by rw[hst],show(⟨#[125]⟩:ByteArray).data.toList=[125] from rfl,<-hq] at hcu;rw[<-hst] at htp;have hhp:=fun w'=>Tryz.strings_HasPrefix s ⟨#[117,123]⟩ w';rw[show(⟨#[117,123]⟩:ByteArray).data.toList=[117,123] from rfl] at hhp;obtain⟨hp,hhpe⟩:=ez (Lib.hasPrefix s.data.toList [117,123])
 rw[<-hhpe] at hhp hE;obtain⟨q1,q2,q3⟩:=q;dsimp only at hcu hE;have hqz:(⟨q1.toArray⟩:ByteArray).size=q1.length:=aU q1;have hcl:=qU (Lib.trimPrefix s.data.toList [117,123]) [125];rw[<-hq] at hcl;dsimp only at hcl;obtain⟨sq,hsq⟩:=ez (⟨q1.toArray⟩:ByteArray)
 obtain⟨sr,hsr⟩:=ez (⟨q2.toArray⟩:ByteArray)
 rw[<-hsq,<-hsr] at hcu;rw[<-hsq] at hqz;have hq1:sq.data.toList=q1:=by rw[hsq]
 have hqs:sq.size<=1000000:=by omega
 have HTP:=hid htp;have HCU:=hid hcu;have HHP:=hid hhp;have HE:=hid hE;have HQ1:=hid hq1;rw[<-hqz] at hE;have hz:=hE;clear hz hE htp hcu hhp hi hx hq hl hc hst htl hhpe hm hN hcl hsq hsr hq1 hs;have h0':(0:Int)<(s.size:Int):=by omega
 have hvi:((s[0].toNat:Nat):Int)=(v:Int):=by rw[hv]
 clear hv;cases hp
 ·go_enter Tryz.func327,Tryz.ntmps327
  go_wp2_with (first
  | (go_at_call 287;refine(HHP.out _).mono ?_;rintro e w2 ⟨rfl,hw2⟩;obtain rfl:=hw2.symm)
  | (go_at_call 81;(refine HCU.out.mono ?_;rintro e w1 ⟨rfl,nn,hw1⟩;have HB1:=hid (show BB w w1 from hw1▸below_drewN w nn);clear hw1))
  | (go_at_call 357;refine HTP.out.mono ?_;rintro e w1 ⟨rfl,hw1⟩;obtain rfl:=hw1.symm)
  | (go_at_call 145;refine HI.out.mono ?_;rintro e w1 ⟨rfl,hw1⟩;obtain rfl:=hw1.symm))
  refine bodyPost_ret (v:=.tuple #[.string ⟨#[]⟩,I6 0,I6 13]) (by simp[results,Tryz.results327,go_sem]) rfl ?_;exact⟨by rw[HE.out];simp,HB1.out⟩
 cases q3
 ·go_enter Tryz.func327,Tryz.ntmps327
  go_wp2_with (first
  | (go_at_call 287;refine(HHP.out _).mono ?_;rintro e w2 ⟨rfl,hw2⟩;obtain rfl:=hw2.symm)
  | (go_at_call 81;(refine HCU.out.mono ?_;rintro e w1 ⟨rfl,nn,hw1⟩;have HB1:=hid (show BB w w1 from hw1▸below_drewN w nn);clear hw1))
  | (go_at_call 357;refine HTP.out.mono ?_;rintro e w1 ⟨rfl,hw1⟩;obtain rfl:=hw1.symm)
  | (go_at_call 145;refine HI.out.mono ?_;rintro e w1 ⟨rfl,hw1⟩;obtain rfl:=hw1.symm))
  refine bodyPost_ret (v:=.tuple #[.string ⟨#[]⟩,I6 0,I6 13]) (by simp[results,Tryz.results327,go_sem]) rfl ?_;exact⟨by rw[HE.out];simp,HB1.out⟩
 by_cases hA:q1.length<1
 ·have hA':(sq.size:Int)<1:=by omega
  go_enter Tryz.func327,Tryz.ntmps327
  go_wp2_with (first
  | (go_at_call 287;refine(HHP.out _).mono ?_;rintro e w2 ⟨rfl,hw2⟩;obtain rfl:=hw2.symm)
  | (go_at_call 81;(refine HCU.out.mono ?_;rintro e w1 ⟨rfl,nn,hw1⟩;have HB1:=hid (show BB w w1 from hw1▸below_drewN w nn);clear hw1))
  | (go_at_call 357;refine HTP.out.mono ?_;rintro e w1 ⟨rfl,hw1⟩;obtain rfl:=hw1.symm)
  | (go_at_call 145;refine HI.out.mono ?_;rintro e w1 ⟨rfl,hw1⟩;obtain rfl:=hw1.symm))
  refine bodyPost_ret (v:=.tuple #[.string ⟨#[]⟩,I6 0,I6 13]) (by simp[results,Tryz.results327,go_sem]) rfl ?_;exact⟨by rw[HE.out];simp[hA],HB1.out⟩
 by_cases hB:6<q1.length
 ·have hA':¬ (sq.size:Int)<1:=by omega
  have hB':(6:Int)<(sq.size:Int):=by omega
  go_enter Tryz.func327,Tryz.ntmps327
  go_wp2_with (first
  | (go_at_call 287;refine(HHP.out _).mono ?_;rintro e w2 ⟨rfl,hw2⟩;obtain rfl:=hw2.symm)
  | (go_at_call 81;(refine HCU.out.mono ?_;rintro e w1 ⟨rfl,nn,hw1⟩;have HB1:=hid (show BB w w1 from hw1▸below_drewN w nn);clear hw1))
  | (go_at_call 357;refine HTP.out.mono ?_;rintro e w1 ⟨rfl,hw1⟩;obtain rfl:=hw1.symm)
  | (go_at_call 145;refine HI.out.mono ?_;rintro e w1 ⟨rfl,hw1⟩;obtain rfl:=hw1.symm))
  refine bodyPost_ret (v:=.tuple #[.string ⟨#[]⟩,I6 0,I6 13]) (by simp[results,Tryz.results327,go_sem]) rfl ?_;exact⟨by rw[HE.out];simp[hB],HB1.out⟩
 have hA':¬ (sq.size:Int)<1:=by omega
 have hB':¬ (6:Int)<(sq.size:Int):=by omega
 have HE2:=hid (show fC s.data.toList=(match kB q1 0 with
  | none=>([],0,13)
  | some n=>if jE n=false then ([],0,16) else ((Utf8.encode (n:Int)).data.toList,q1.length+3,0):List UInt8 × Nat × Int) by rw[HE.out,if_neg (fun h=>h.elim (fun h=>nomatch h) fun h=>h.elim (fun h=>nomatch h) fun h=>h.elim hA hB)])
 clear HE;have hqn:sq.size<=6:=by omega
 go_enter Tryz.func327,Tryz.ntmps327
 go_wp2_with (first
  | (go_at_call 287;refine(HHP.out _).mono ?_;rintro e w2 ⟨rfl,hw2⟩;obtain rfl:=hw2.symm)
  | (go_at_call 81;(refine HCU.out.mono ?_;rintro e w1 ⟨rfl,nn,hw1⟩;have HB1:=hid (show BB w w1 from hw1▸below_drewN w nn);clear hw1))
  | (go_at_call 357;refine HTP.out.mono ?_;rintro e w1 ⟨rfl,hw1⟩;obtain rfl:=hw1.symm)
  | (go_at_call 145;refine HI.out.mono ?_;rintro e w1 ⟨rfl,hw1⟩;obtain rfl:=hw1.symm))
 go_loopw [9,47] (fun nv iv wr=>∃n k:Nat,nv=I6 n/\iv=I6 k/\k<=sq.size/\n<16 ^ k/\kB q1 0=kB (q1.drop k) n/\wr=w1) (fun _ iv _=>sq.size-(intOf iv).toNat)
 case atStart=>exact⟨0,0,rfl,rfl,Nat.zero_le _,by decide,rfl,rfl⟩
 case round =>
  obtain⟨n,k,rfl,rfl,hk,hn,heq,rfl⟩:=hrel;have HEQ:=hid heq;clear heq;by_cases hlt:k<sq.size
  ·have hlt':(k:Int)<(sq.size:Int):=by omega
   have hk0:(0:Int)<=(k:Int):=by omega
   have hd:=oC sq k hlt;rw[HQ1.out] at hd;have hH:=aE9 sq[k] wr;have hx16:=hexI_lt sq[k];have h16:n<16777216 / 16:=Nat.lt_of_lt_of_le hn (by have:16 ^ k<=16 ^ 5:=Nat.pow_le_pow_right gc ga;omega);have hpow:16 * n+16<=16 ^ (k+1):=by rw[Nat.pow_succ];omega
   obtain⟨d,hdd⟩:=ez (iA sq[k])
   have hneg:=fun h:iA sq[k]<0=>aEc sq[k] (q1.drop (k+1)) n h;have hpos:=fun h:¬ iA sq[k]<0=>aEb sq[k] (q1.drop (k+1)) n h;rw[<-hd,<-HEQ.out,<-hdd] at hneg hpos;rw[<-hdd] at hH hx16;have HH:=hid hH;have HN:=hid hneg;have HP:=hid hpos;clear hneg hpos hH hd hdd HEQ hn;by_cases hdn:d<0
   ·go_wp2_with (go_at_call 329;refine HH.out.mono ?_;rintro e w2 ⟨rfl,hw2⟩;obtain rfl:=hw2.symm)
    refine bodyPost_ret (v:=.tuple #[.string ⟨#[]⟩,I6 0,I6 13]) (by simp[results,Tryz.results327,go_sem]) rfl ?_;exact⟨by rw[HE2.out,HN.out hdn];rfl,HB1.out⟩
   ·have e1:IntKind.i64.wrap (16 * (n:Int))=16 * n:=IntWalk.i64_in _ ⟨by omega,by omega⟩;have e2:IntKind.i64.wrap (16 * (n:Int)+d)=16 * n+d:=IntWalk.i64_in _ ⟨by omega,by omega⟩;have hd0:0<=d:=by omega
    go_wp2_with (go_at_call 329;refine HH.out.mono ?_;rintro e w2 ⟨rfl,hw2⟩;obtain rfl:=hw2.symm)
    refine⟨⟨16 * n+d.toNat,k+1,by congr 1;omega,by go_num,by omega,by omega,HP.out hdn,trivial⟩,by simp[intOf];omega⟩
  ·obtain rfl:k=sq.size:=by omega
   have hn24:n<16777216:=Nat.lt_of_lt_of_le hn (Nat.pow_le_pow_right (n:=16) gc hqn);have HEN:=hid (aEm n ga wr);have HE3:=hid (show fC s.data.toList=(if jE n=false then ([],0,16) else ((Utf8.encode (n:Int)).data.toList,q1.length+3,0):List UInt8 × Nat × Int) by
    rw[HE2.out,HEQ.out,List.drop_eq_nil_of_le (Nat.le_of_eq hqz.symm)];rfl)
   clear HE2 HEQ hn;obtain⟨pp,hpp⟩:=ez (jE n)
   rw[<-hpp] at HEN HE3;clear hpp;cases pp
   ·simp only[Bool.false_eq_true,if_false] at HEN;go_wp2_with (go_at_call 358;refine HEN.out.mono ?_;rintro e w2 ⟨rfl,hw2⟩;obtain rfl:=hw2.symm)
    refine bodyPost_ret (v:=.tuple #[.string ⟨#[]⟩,I6 0,I6 16]) (by simp[results,Tryz.results327,go_sem]) rfl ?_;exact⟨by rw[HE3.out];simp,HB1.out⟩
   ·simp only[if_true] at HEN;go_wp2_with (go_at_call 358;refine HEN.out.mono ?_;rintro e w2 ⟨rfl,hw2⟩;obtain rfl:=hw2.symm)
    refine bodyPost_ret (v:=.tuple #[.string (Utf8.encode (n:Int)),I6 ((sq.size:Int)+3),I6 0]) (by simp[results,Tryz.results327,go_sem,hqz]) rfl ?_;exact⟨by rw[HE3.out,hqz];simp,HB1.out⟩
theorem aEj (s:ByteArray) (hs:s.size<=1000000) (h0:0<s.size) (w:World) (hN:NumVars w) :
 CP 327 #[.string s] w fun x w'=>x=.returned (.tuple #[.string ⟨(fC s.data.toList).1.toArray⟩,I6 ((fC s.data.toList).2.1:Int),I6 (fC s.data.toList).2.2])/\BB w w':=by
 have hl:s.data.toList=s[0] :: s.data.toList.drop 1:=by
  have:=oC s 0 h0
  simpa using this
 by_cases h1:s[0].toNat=34
 ·exact qP 34 0 34 gc gc rfl s hs h0 h1 (by rw[hl];unfold fC;dsimp only;rw[if_pos h1]) w
 by_cases h2:s[0].toNat=92
 ·exact qP 92 1 92 gc gc rfl s hs h0 h2 (by rw[hl];unfold fC;dsimp only;rw[if_neg h1,if_pos h2]) w
 by_cases h3:s[0].toNat=110
 ·exact qP 110 2 10 gc gc rfl s hs h0 h3 (by rw[hl];unfold fC;dsimp only;rw[if_neg h1,if_neg h2,if_pos h3]) w
 by_cases h4:s[0].toNat=114
 ·exact qP 114 3 13 gc gc rfl s hs h0 h4 (by rw[hl];unfold fC;dsimp only;rw[if_neg h1,if_neg h2,if_neg h3,if_pos h4]) w
 by_cases h5:s[0].toNat=116
 ·exact qP 116 4 9 gc gc rfl s hs h0 h5 (by rw[hl];unfold fC;dsimp only;rw[if_neg h1,if_neg h2,if_neg h3,if_neg h4,if_pos h5]) w
 exact escape2 s hs h0 ⟨h1,h2,h3,h4,h5⟩ w hN
end
section
open Go Go.RowKit Go.Shelf
attribute [local go_sem] cJ eW cK dF bP bW
theorem yH (f:Nat) (l:List UInt8) (i:Nat) (acc:List UInt8) (h:l=[]):cE f l i acc=.inr none:=by subst h;cases f<;>rfl
theorem strGo_q (f:Nat) (c:UInt8) (l:List UInt8) (i:Nat) (acc:List UInt8) (h:c.toNat=34):cE (f+1) (c :: l) i acc=.inl (i+1,acc):=by
 rw[cE,if_pos h]
theorem strGo_c (f:Nat) (c:UInt8) (l:List UInt8) (i:Nat) (acc:List UInt8) (h:c.toNat<32\/c.toNat=127):cE (f+1) (c :: l) i acc=.inr (some (i,6)):=by
 rw[cE,if_neg ga,if_pos h]
theorem strGo_p (f:Nat) (c:UInt8) (l:List UInt8) (i:Nat) (acc:List UInt8) (h:¬ c.toNat<32/\c.toNat≠34/\c.toNat≠127/\c.toNat≠92):cE (f+1) (c :: l) i acc=cE f l (i+1) (acc++[c]):=by
 rw[cE,if_neg ga,if_neg ga,if_pos ga]
theorem strGo_0 (f:Nat) (c:UInt8) (l:List UInt8) (i:Nat) (acc:List UInt8) (h:c.toNat=92) (hl:l=[]):cE (f+1) (c :: l) i acc=.inr none:=by
 rw[cE,if_neg ga,if_neg ga,if_neg ga,if_pos hl]
theorem strGo_f (f:Nat) (c:UInt8) (l:List UInt8) (i:Nat) (acc:List UInt8) (h:c.toNat=92) (hl:l≠[]) (he:(fC l).2.2≠0):cE (f+1) (c :: l) i acc=.inr (some (i,(fC l).2.2)):=by
 rw[cE,if_neg ga,if_neg ga,if_neg ga,if_neg hl];dsimp only;rw[if_pos he]
theorem strGo_e (f:Nat) (c:UInt8) (l:List UInt8) (i:Nat) (acc:List UInt8) (h:c.toNat=92) (hl:l≠[]) (he:(fC l).2.2=0):cE (f+1) (c :: l) i acc=cE f (l.drop (fC l).2.1) (i+1+(fC l).2.1) (acc++(fC l).1):=by
 rw[cE,if_neg ga,if_neg ga,if_neg ga,if_neg hl];dsimp only;rw[if_neg ga]
theorem aH7 (n:Int):(Utf8.encode n).data.toList.length<=4:=by
 unfold Utf8.encode;dsimp only
 repeat' split
 all_goals simp
theorem aIk (l:List UInt8):(fC l).2.1<=l.length+3/\(fC l).1.length<=4:=by
 unfold fC;cases l with
 | nil=>simp
 | cons c r =>
   dsimp only;have h:=qU (Lib.trimPrefix (c :: r) [117,123]) [125];have h2:(Lib.trimPrefix (c :: r) [117,123]).length<=(c :: r).length:=by
    unfold Lib.trimPrefix;split
    ·rw[List.length_drop];omega
    ·exact Nat.le_refl _
   have hN:∀(x:List UInt8) (k:Nat) (e:Int),x.length<=4->k<=(c :: r).length+3->((x,k,e):List UInt8 × Nat × Int).2.1<=(c :: r).length+3/\((x,k,e):List UInt8 × Nat × Int).1.length<=4:=fun x k e h1 h2=>⟨h2,h1⟩
   split;· exact hN _ _ _ gc ga
   split;· exact hN _ _ _ gc ga
   split;· exact hN _ _ _ gc ga
   split;· exact hN _ _ _ gc ga
   split;· exact hN _ _ _ gc ga
   split;· exact hN _ _ _ gc ga
   split;· exact hN _ _ _ gc ga
   split;· exact hN _ _ _ gc ga
   exact hN _ _ _ (aH7 _) ga
theorem aNt {B b:Nat} {bs:List Value} {w w':World} (h:IsBld B b bs w) (hk:∀i,B<=i->i<w.heap.size->w'.heap[i]?=w.heap[i]?):IsBld B b bs w':=by
 have hlt:∀(i:Nat) (o:Obj),w.heap[i]?=some o->i<w.heap.size:=fun i o h=>by
  rcases Nat.lt_or_ge i w.heap.size with q | q
  ·exact q
  ·rw[Array.getElem?_eq_none q] at h;cases h
 have hown:∀{e:TypeId} {n:Nat} {v:Value} {m:Nat} {xs:List Value},w.ownsRowF B e n v m xs->w'.ownsRowF B e n v m xs:=fun h=>by
  refine⟨h.1,h.2.elim .inl fun ⟨g,cap,cur,fz,e1,e2,e3,e4⟩=>.inr ⟨g,cap,cur,fz,e1,e2,(hk g e2 (hlt g _ e3)).trans e3,e4⟩⟩
 rcases h with ⟨hB,v,hbk,ho,hne⟩ | ⟨hB,v,hbk,ho,hne⟩
 ·exact .inl ⟨hB,v,(hk b hB (hlt b _ hbk)).trans hbk,hown ho,hne⟩
 ·exact .inr ⟨hB,v,(hk b hB (hlt b _ hbk)).trans hbk,hown ho,hne⟩
theorem iB {w w4 w5:World} {row:Option Nat} (h:w.grownBy w4 row) (hb:Below w.heap.size w4 w5):w.grownBy w5 row :=
 ⟨hb.os.trans h.os,hb.tape.trans h.tape,hb.output.trans h.output,Nat.le_trans h.size hb.size,fun i hi hne=>(hb.block i hi).trans (h.block i hi hne)⟩
theorem bK {w4 w5:World} {B b:Nat} {s:ByteArray} {r:Rd} (h:IsRd w4 b s r) (hb:Below B w4 w5) (hlt:b<B):IsRd w5 b s r:=⟨(hb.block b hlt).trans h.at_,h.ok⟩
theorem qO (s:ByteArray) (k:Nat):(s.extract k s.size).data.toList=s.data.toList.drop k:=by
 rw[ByteArray.data_extract,Array.toList_extract];rw[List.extract_eq_take_drop];rw[List.take_of_length_le (by rw[List.length_drop];exact Nat.le_refl _)]
theorem sV (b:Nat) (s:ByteArray) (r:Rd) (at_:Nat) (w:World) (h:IsRd w b s r) (hat:at_+1<=s.size) (hs:s.size<=100000) (hT:Tabs w) (hN:NumVars w) :
 CP 286 #[.pointer (some ⟨b,0,none⟩),I6 at_] w fun x w'=>x=.returned (.tuple #[])/\IsRd w' b s (gQ s.data.toList at_ r)/\w.grownBy w' (some b):=by
 have hln:s.data.toList.length=s.size:=rfl;have HR:=hid h;have HT:=hid hT;have HN:=hid hN;have HB0:=hid (show BB w (w.alloc (.cells #[.pointer none,.slice none 0 0] 74)) from(bR w).alloc lr _);have HBN:=hid (jK w);have HLT:=hid h.lt;clear h hT hN;go_enter Tryz.func286,Tryz.ntmps286
 go_wp2
 go_loopw [5] (fun iv wr=>∃(k f:Nat) (acc:List UInt8),iv=I6 k/\s.size-k<f/\k<=300000/\acc.length<=4 * k/\cE (s.data.toList.length+1) (s.data.toList.drop (at_+1)) (at_+1) []=cE f (s.data.toList.drop k) k acc/\IsBld w.heap.size w.heap.size (Lib.byteCells acc) wr/\BB w wr) (fun iv _=>s.size-(intOf iv).toNat)
 case atStart=>exact⟨at_+1,s.data.toList.length+1,[],rfl,by omega,by omega,Nat.zero_le _,rfl,HBN.out,HB0.out⟩
 case round =>
  obtain⟨k,f,acc,rfl,hf,hk,hac,heq,hbl,hbr⟩:=hrel;have HRW:=hid (HR.out.grown (aQ hbr none) gd);obtain⟨W,hW,hw⟩:=HRW.out.put;have HG:=hid (aQ hbr (some b));have HEQ:=hid heq;have HBL:=hid hbl;have HBR:=hid hbr;have HSZ:=hid hbr.size;clear heq hbl hbr;by_cases hlt:k<s.size
  ·obtain⟨f,rfl⟩:∃f',f=f'+1:=⟨f-1,by omega⟩
   have hlt':(k:Int)<(s.size:Int):=by omega
   have hk0:(0:Int)<=(k:Int):=by omega
   have hd:=oC s k hlt;have hacl:(Lib.byteCells acc).length<=4 * s.size:=by simp[Lib.byteCells];omega
   have HWB:=hid (fun (c:Int)=>cR w.heap.size w.heap.size (Lib.byteCells acc) c wr HBL.out ga HSZ.out);have HST:=hid (show CP 38 #[.pointer (some ⟨w.heap.size,0,none⟩)] wr fun e w2=>e=.returned (.string ⟨acc.toArray⟩)/\IsBld w.heap.size w.heap.size (Lib.byteCells acc) w2/\Below w.heap.size wr w2 from(Tryz.Builder_String_any_k _ _ _ wr HBL.out HSZ.out).mono fun e w2 ⟨he,h1,hb,_⟩=>⟨he,h1,hb⟩);have HF6:=hid (bC b s r k 6 wr HRW.out);have hQ:=strGo_q f s[k] (s.data.toList.drop (k+1)) k acc;have hC:=strGo_c f s[k] (s.data.toList.drop (k+1)) k acc
   have hP:=strGo_p f s[k] (s.data.toList.drop (k+1)) k acc;have h0:=strGo_0 f s[k] (s.data.toList.drop (k+1)) k acc;have hF:=strGo_f f s[k] (s.data.toList.drop (k+1)) k acc;have hE:=strGo_e f s[k] (s.data.toList.drop (k+1)) k acc;rw[<-hd,<-HEQ.out] at hQ hC hP h0 hF hE;have HQ:=hid hQ;have HC_:=hid hC;have HP:=hid hP;have H0:=hid h0;have HF:=hid hF;have HE:=hid hE;clear hQ hC hP h0 hF hE hd HEQ;have hcase:s[k].toNat=34\/(s[k].toNat<32\/s[k].toNat=127)\/(¬ s[k].toNat<32/\s[k].toNat≠34/\s[k].toNat≠127/\s[k].toNat≠92)\/s[k].toNat=92:=by omega
   rcases hcase with hc | hc | hc | hc
   ·have HC:=hid hc;have q34:((s[k].toNat:Int)==34)=true:=by simp;omega
    have q32:¬ (s[k].toNat:Int)<32:=by omega
    have q127:((s[k].toNat:Int)==127)=false:=by simp;omega
    have q92:((s[k].toNat:Int)==92)=false:=by simp;omega
    have p92:((s[k].toNat:Int) != 92)=true:=by simp;omega
    clear hc;obtain⟨vd,hvd⟩:=ez (Lib.validD acc)
    have hva:=fun w2 hT2=>aFl ⟨acc.toArray⟩ (by rw[aU];omega) w2 hT2;rw[show(⟨acc.toArray⟩:ByteArray).data.toList=acc from rfl,<-hvd] at hva;have HVA:=hid hva;have HVD:=hid hvd;have HSX:=hid (fun w' (h':IsBld w.heap.size w.heap.size (Lib.byteCells acc) w') (hz:w.heap.size<=w'.heap.size)=>(show CP 38 #[.pointer (some ⟨w.heap.size,0,none⟩)] w' fun e w2=>e=.returned (.string ⟨acc.toArray⟩)/\Below w.heap.size w' w2 from(Tryz.Builder_String_any_k _ _ _ w' h' hz).mono fun e w2 ⟨he,_,hb,_⟩=>⟨he,hb⟩));clear hva hvd;subst hw;have hk1:k+1<=s.size:=hlt;cases vd
    ·go_wp2_with (first
      | (go_at_call 38;refine(HSX.out w4 H4B.out H4Z.out).mono ?_;rintro e w5 ⟨rfl,hb5⟩;have HR5:=hid (bK H4R.out hb5 HLT.out);have HG5:=hid (iB HG4.out hb5);clear hb5;obtain⟨W5,hW5,hw5⟩:=HR5.out.put;subst hw5)
      | (go_at_call 232;refine(bC b s r at_ 16 w3 HR3.out).mono ?_;rintro e w4 ⟨rfl,h4,hg4⟩;have H4R:=hid h4;have HG4:=hid ((aQ HB3.out (some b)).trans hg4);have H4B:=hid (aNt H3B.out (fun i h1 h2=>hg4.block i h2 (fun e=>by cases e;exact absurd h1 (Nat.not_le.2 HLT.out))));have H4Z:=hid (Nat.le_trans HB3.out.size hg4.size);clear h4 hg4)
      | (go_at_call 326;refine(HVA.out w2 (HT.out.below HB2.out)).mono ?_;rintro e w3 ⟨rfl,hb3⟩;have HB3:=hid (HB2.out.trans (hb3.mono HB2.out.size));have H3B:=hid (IsBld.ext H2B.out hb3);have HR3:=hid (HR.out.grown (aQ HB3.out none) gd);clear hb3)
      | (go_at_call 38;refine HST.out.mono ?_;rintro e w2 ⟨rfl,h2,hb2⟩;have HB2:=hid (HBR.out.trans hb2);have H2B:=hid h2;clear hb2 h2))
     refine bodyPost_ret (results_none rfl _ _ _) rfl ?_;refine⟨rfl,?_,HG5.out.trans (bM _ _ _ _)⟩;rw[gQ,HQ.out HC.out];dsimp only;rw[if_pos HVD.out.symm];exact dH W5 b s { (r.fail at_ 16) with k:=3,b:=⟨acc.toArray⟩,nx:=k+1 } hW5 ⟨(fun e=>nomatch e),hk1,HR5.out.ok.p⟩ _ rfl
    ·go_wp2_with (first
      | (go_at_call 38;refine(HSX.out w3 H3B.out HB3.out.size).mono ?_;rintro e w5 ⟨rfl,hb5⟩;have HR5:=hid (bK HR3.out hb5 HLT.out);have HG5:=hid (iB (aQ HB3.out (some b)) hb5);clear hb5;obtain⟨W5,hW5,hw5⟩:=HR5.out.put;subst hw5)
      | (go_at_call 326;refine(HVA.out w2 (HT.out.below HB2.out)).mono ?_;rintro e w3 ⟨rfl,hb3⟩;have HB3:=hid (HB2.out.trans (hb3.mono HB2.out.size));have H3B:=hid (IsBld.ext H2B.out hb3);have HR3:=hid (HR.out.grown (aQ HB3.out none) gd);clear hb3)
      | (go_at_call 38;refine HST.out.mono ?_;rintro e w2 ⟨rfl,h2,hb2⟩;have HB2:=hid (HBR.out.trans hb2);have H2B:=hid h2;clear hb2 h2))
     refine bodyPost_ret (results_none rfl _ _ _) rfl ?_;refine⟨rfl,?_,HG5.out.trans (bM _ _ _ _)⟩;rw[gQ,HQ.out HC.out];dsimp only;rw[if_neg (by rw[<-HVD.out];decide)];exact dH W5 b s { r with k:=3,b:=⟨acc.toArray⟩,nx:=k+1 } hW5 ⟨(fun e=>nomatch e),hk1,HR5.out.ok.p⟩ _ rfl
   ·have HC:=hid hc;by_cases h32:s[k].toNat<32
    ·have q34:((s[k].toNat:Int)==34)=false:=by simp;omega
     have q32:(s[k].toNat:Int)<32:=by omega
     have q127:((s[k].toNat:Int)==127)=false:=by simp;omega
     have q92:((s[k].toNat:Int)==92)=false:=by simp;omega
     have p92:((s[k].toNat:Int) != 92)=true:=by simp;omega
     clear hc h32;subst hw;go_wp2_with (go_at_call 232;refine HF6.out.mono ?_;rintro e w2 ⟨rfl,h2,hg2⟩;have H2R:=hid h2;have HG2:=hid hg2;clear h2 hg2)
     refine bodyPost_ret (results_none rfl _ _ _) rfl ?_;exact⟨rfl,by rw[gQ,HC_.out HC.out];exact H2R.out,HG.out.trans HG2.out⟩
    ·have q34:((s[k].toNat:Int)==34)=false:=by simp;omega
     have q32:¬ (s[k].toNat:Int)<32:=by omega
     have q127:((s[k].toNat:Int)==127)=true:=by simp;omega
     have q92:((s[k].toNat:Int)==92)=false:=by simp;omega
     have p92:((s[k].toNat:Int) != 92)=true:=by simp;omega
     clear hc h32;subst hw;go_wp2_with (go_at_call 232;refine HF6.out.mono ?_;rintro e w2 ⟨rfl,h2,hg2⟩;have H2R:=hid h2;have HG2:=hid hg2;clear h2 hg2)
     refine bodyPost_ret (results_none rfl _ _ _) rfl ?_;exact⟨rfl,by rw[gQ,HC_.out HC.out];exact H2R.out,HG.out.trans HG2.out⟩
   ·have HC:=hid hc;have q34:((s[k].toNat:Int)==34)=false:=by simp;omega
    have q32:¬ (s[k].toNat:Int)<32:=by omega
    have q127:((s[k].toNat:Int)==127)=false:=by simp;omega
    have q92:((s[k].toNat:Int)==92)=false:=by simp;omega
    have p92:((s[k].toNat:Int) != 92)=true:=by simp;omega
    clear hc;subst hw;go_wp2_with (go_at_call 218;refine(HWB.out _).mono ?_;rintro e w2 ⟨rfl,h2,hb2,hk2⟩;have H2B:=hid h2;have HB2:=hid hb2;clear h2 hb2 hk2)
    refine⟨⟨k+1,f,acc++[s[k]],by go_num,by omega,by omega,by simp;omega,HP.out HC.out,?_,HBR.out.trans HB2.out⟩,by simp[intOf];omega⟩;have e4:Lib.byteCells (acc++[s[k]])=Lib.byteCells acc++[.int .u8 s[k].toNat]:=by simp[Lib.byteCells]
    rw[e4];exact .inr H2B.out
   ·have HC:=hid hc;have q34:((s[k].toNat:Int)==34)=false:=by simp;omega
    have q32:¬ (s[k].toNat:Int)<32:=by omega
    have q127:((s[k].toNat:Int)==127)=false:=by simp;omega
    have q92:((s[k].toNat:Int)==92)=true:=by simp;omega
    have p92:((s[k].toNat:Int) != 92)=false:=by simp;omega
    clear hc;by_cases hlast:k+1<s.size
    ·have hl':(k:Int)+1<(s.size:Int):=by omega
     have hlz:(k:Int)+1<=(s.size:Int):=by omega
     obtain⟨es,hes⟩:=ez (s.extract (k+1) s.size)
     have hesl:es.data.toList=s.data.toList.drop (k+1):=by
      rw[hes,qO]
     have hesz:es.size=s.size-(k+1):=by
      have h1:es.data.toList.length=es.size:=rfl;rw[<-h1,hesl,List.length_drop,hln]
     have hec:=aEj es ga ga wr (HN.out.below HBR.out);have hsz:=aIk es.data.toList;rw[hesl] at hec hsz;have hne:s.data.toList.drop (k+1)≠[]:=by
      intro h;have h1:=congrArg List.length h;rw[List.length_drop,hln] at h1;simp only[List.length_nil] at h1;omega
     rw[List.length_drop,hln] at hsz;have hF:=HF.out HC.out hne;have hE:=HE.out HC.out hne;obtain⟨q,hq⟩:=ez (fC (s.data.toList.drop (k+1)))
     rw[<-hq] at hec hsz hF hE;obtain⟨q1,q2,q3⟩:=q;dsimp only at hec hsz hF hE;obtain⟨qs,hqs⟩:=ez (⟨q1.toArray⟩:ByteArray)
     have hqz:qs.size=q1.length:=by rw[hqs,aU]
     have hqc:Lib.byteCells (acc++q1)=Lib.byteCells acc++Lib.strCells qs:=by rw[hqs];simp[Lib.byteCells,Lib.strCells]
     rw[<-hqs] at hec;have HEC:=hid hec;have HF2:=hid hF;have HE2:=hid hE;have HQC:=hid hqc;have HES:=hid hes;clear hec hF hE hq hqs hqc hesl hne hes hesz;have HWS:=hid (fun (w2:World) (h2:BB wr w2)=>kZ w.heap.size w.heap.size (Lib.byteCells acc) qs w2 (IsBld.ext HBL.out h2) ga (Nat.le_trans HSZ.out h2.size));have HFE:=hid (fun (w2:World) (h2:BB wr w2)=>bC b s r k q3 w2 (HRW.out.grown (aQ h2 none) gd));subst hw;have HXT:=hid (show(s.extract (k+1) s.size)=es from HES.out.symm);by_cases hq3:q3=0
     ·subst hq3;go_wp2_with (first
       | (go_at_call 32;refine(HWS.out w2 HB2.out).mono ?_;rintro e w3 ⟨rfl,h3,hb3,hk3⟩;have H3B:=hid h3;have HB3:=hid hb3;clear h3 hb3 hk3)
       | (go_at_call 327;rw[show(s.extract (k+1) s.size)=es from HXT.out];refine HEC.out.mono ?_;rintro e w2 ⟨rfl,hb2⟩;have HB2:=hid hb2;clear hb2))
      refine⟨⟨k+1+q2,f,acc++q1,by congr 1;omega,by omega,by omega,by rw[List.length_append];omega,?_,?_,(HBR.out.trans (HB2.out.mono HSZ.out)).trans HB3.out⟩,by simp[intOf];omega⟩
      ·rw[HE2.out trivial,List.drop_drop]
      ·rw[HQC.out];exact .inr H3B.out
     ·go_wp2_with (first
       | (go_at_call 232;refine(HFE.out w2 HB2.out).mono ?_;rintro e w3 ⟨rfl,h3,hg3⟩;have H3R:=hid h3;have HG3:=hid hg3;clear h3 hg3)
       | (go_at_call 327;rw[show(s.extract (k+1) s.size)=es from HXT.out];refine HEC.out.mono ?_;rintro e w2 ⟨rfl,hb2⟩;have HB2:=hid hb2;clear hb2))
      refine bodyPost_ret (results_none rfl _ _ _) rfl ?_;exact⟨rfl,by rw[gQ,HF2.out hq3];exact H3R.out,HG.out.trans ((aQ HB2.out (some b)).trans HG3.out)⟩
    ·have hl':¬ ((k:Int)+1<(s.size:Int)):=by omega
     subst hw;go_wp2;refine⟨⟨k+1,f,acc,by go_num,by omega,by omega,by omega,?_,HBL.out,HBR.out⟩,by simp[intOf];omega⟩;have e0:s.data.toList.drop (k+1)=[]:=List.drop_eq_nil_of_le ga;rw[H0.out HC.out e0,yH f _ _ _ e0]
  ·have HFL:=hid (bC b s r at_ 4 wr HRW.out);have hend:=yH f (s.data.toList.drop k) k acc (List.drop_eq_nil_of_le ga);rw[<-HEQ.out] at hend;have HE:=hid hend;have hlt':¬ (k:Int)<(s.size:Int):=by omega
   clear hend;subst hw;go_wp2_with (go_at_call 232;refine HFL.out.mono ?_;rintro e w2 ⟨rfl,h2,hg2⟩;have H2R:=hid h2;have HG2:=hid hg2;clear h2 hg2)
   refine bodyPost_end (results_none rfl _ _ _) rfl ?_;exact⟨rfl,by rw[gQ,HE.out];exact H2R.out,HG.out.trans HG2.out⟩
end
end Go.Proofs.YtmgpghoamapfgaaGreatDoor
