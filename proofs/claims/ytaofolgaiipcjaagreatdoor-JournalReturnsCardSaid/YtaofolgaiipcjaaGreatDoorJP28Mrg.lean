/-
  Plain: the bytes of an entry of the journal as a function of the entry, what reads them, and that the reading leads back. No program is stepped through here.
-/
import Derived.Test.YtaofolgaiipcjaaGreatDoorJP2Mrg
import Derived.Test.YtaofolgaiipcjaaGreatDoorJP5Mrg
import Derived.Test.YtaofolgaiipcjaaGreatDoorJP7Mrg
import Derived.Test.YtaofolgaiipcjaaGreatDoorJP9Mrg
import Derived.Test.YtaofolgaiipcjaaGreatDoorJP10Mrg
import Derived.Test.YtaofolgaiipcjaaGreatDoorJP11Mrg
import Derived.Test.YtaofolgaiipcjaaGreatDoorJP17Mrg
import Derived.Test.YtaofolgaiipcjaaGreatDoorJP25Mrg
import Derived.Test.YtaofolgaiipcjaaGreatDoorJP27Mrg
import Derived.Test.YtaofolgaiipcjaaGreatDoorJP1LMrg
import Derived.Lib.BufferKept
import Derived.Deep.Cut
import Derived.Laws.Tables
import Derived.Laws.CopyRow
namespace Go.Proofs.YtaofolgaiipcjaaGreatDoor
set_option linter.unusedVariables false
set_option linter.unusedSimpArgs false
section
open Go Go.RowKit Go.Shelf
structure En where
 k:Int
 ti:Int
 nu:Int
 ve:Int
 ca:Int
 nm:ByteArray
 nd:ByteArray
 tx:ByteArray
 un:Bool
 dn:Bool
 bd:Val
 st:St
def enZ:En:=⟨0,0,0,0,0,⟨#[]⟩,⟨#[]⟩,⟨#[]⟩,false,false,nulV,⟨0,[]⟩⟩
/-! ### the error of an entry -/
def usedB (d:En):Bool:=d.nu != 0||d.ve != 0||d.ca != 0||d.nm.size != 0||d.nd.size != 0||d.tx.size != 0||d.un||d.dn||cmpV d.bd nulV != 0||d.st.e != 0||d.st.ps.length != 0
def restE (d:En):En :=
 if d.k=1 then { d with nm:=⟨#[]⟩,nu:=0,ve:=0,tx:=⟨#[]⟩ }
 else if d.k=3 then { d with nm:=⟨#[]⟩,nu:=0,nd:=⟨#[]⟩,ca:=0,un:=false,dn:=false,bd:=nulV }
 else if d.k=4 then { d with ve:=0 }
 else if d.k=5∨d.k=6 then { d with st:=⟨0,[]⟩ }
 else d
def verB (d:En):Bool:=decide (1≤d.ve∧d.ve≤999)
def chkEn (d:En):Int :=
 if d.k<1∨6<d.k then 11
 else if d.ti<0∨17592186044416<d.ti then 34
 else if usedB (restE d)=true then 3
 else if d.k=1∧(d.nu<1∨verB d=false) then 2
 else if 65536<d.tx.size then 5
 else if d.k=3∧(d.nu<1∨d.ca<1) then 2
 else if d.k=3∧isNullV d.bd=false then (if kindV d.bd≠9 then 18 else chkVal d.bd)
 else if d.k=4∧verB d=false then 2
 else if d.k=5∨d.k=6 then stampE d.st
 else 0
/-! ### writing -/
structure JW where
 b:List UInt8
 e:Int
def JW.fail (w:JW) (e:Int):JW:=⟨w.b,if w.e=0 then e else w.e⟩
def JW.num (w:JW) (n:Int):JW:=⟨w.b++(putF n).1.data.toList,(w.fail (putF n).2).e⟩
def JW.nums (w:JW) (l:List Int):JW:=l.foldl JW.num w
def JW.text (w:JW) (s:ByteArray):JW:=⟨(w.num s.size).b++s.data.toList,(w.num s.size).e⟩
def flgN (un dn:Bool):Int:=(if un then 1 else 0)+(if dn then 2 else 0)
def stampTE (d:St):ByteArray × Int:=if stampE d=0 then (stampT d,0) else (⟨#[]⟩,stampE d)
def wrJ (d:En) (w:JW):JW :=
 if d.k=1 then ((w.text d.nm).nums [d.nu,d.ve]).text d.tx
 else if d.k=2 then w
 else if d.k=3 then (((((w.fail (litF d.bd).2).text d.nm).nums [d.nu]).text d.nd).nums [d.ca,flgN d.un d.dn]).text (litF d.bd).1
 else if d.k=4 then w.nums [d.ve]
 else (w.fail (stampTE d.st).2).text (stampTE d.st).1
def encW (d:En):JW:=wrJ d (JW.nums ⟨[],0⟩ [d.k,d.ti])
def encJ (d:En):ByteArray × Int:=if chkEn d≠0 then (⟨#[]⟩,chkEn d) else if (encW d).e≠0 then (⟨#[]⟩,(encW d).e) else (⟨(encW d).b.toArray⟩,0)
/-! ### reading -/
structure JR where
 i:Nat
 e:Int
def JR.num (s:ByteArray) (r:JR):Int × JR:=if r.e≠0 then (0,r) else match tkGo 9 0 0 (s.data.toList.drop r.i) with
 | .inl e=>(0,⟨r.i,e⟩)
 | .inr (n,k)=>(n,⟨r.i+k,0⟩)
def JR.text (s:ByteArray) (r:JR):ByteArray × JR :=
 if (r.num s).2.e≠0 then (⟨#[]⟩,(r.num s).2)
 else if (s.size:Int)-((r.num s).2.i:Int)<(r.num s).1 then (⟨#[]⟩,⟨(r.num s).2.i,29⟩)
 else (s.extract (r.num s).2.i ((r.num s).2.i+(r.num s).1.toNat),⟨(r.num s).2.i+(r.num s).1.toNat,0⟩)
def rdJ (s:ByteArray) (d:En) (r:JR):En × JR :=
 if d.k=1 then
  let a:=r.text s
  let b:=a.2.num s
  let c:=b.2.num s
  let t:=c.2.text s
  ({ d with nm:=a.1,nu:=b.1,ve:=c.1,tx:=t.1 },t.2)
 else if d.k=2 then (d,r)
 else if d.k=3 then
  let a:=r.text s
  let b:=a.2.num s
  let c:=b.2.text s
  let f:=c.2.num s
  let g:=f.2.num s
  let t:=g.2.text s
  ({ d with nm:=a.1,nu:=b.1,nd:=c.1,ca:=f.1,un:=g.1 % 2==1,dn:=g.1 / 2 % 2==1,bd:=if t.2.e=0 then (parF t.1).1 else d.bd },if t.2.e=0 then ⟨t.2.i,(parF t.1).2.2⟩ else t.2)
 else if d.k=4 then
  let a:=r.num s
  ({ d with ve:=a.1 },a.2)
 else
  let a:=r.text s
  if a.2.e=0 then (match parseS a.1.data.toList with
   | some x=>({ d with st:=x },a.2)
   | none=>(d,⟨a.2.i,13⟩))
  else (d,a.2)
def headJ (s:ByteArray):En × JR:=({ enZ with k:=(JR.num s ⟨0,0⟩).1,ti:=((JR.num s ⟨0,0⟩).2.num s).1 },((JR.num s ⟨0,0⟩).2.num s).2)
def bodJ (s:ByteArray):En × JR:=rdJ s (headJ s).1 (headJ s).2
def decJ (s:ByteArray):En × Int :=
 if (headJ s).2.e≠0∨(headJ s).1.k<1∨6<(headJ s).1.k then (enZ,3)
 else if (bodJ s).2.e≠0∨encJ (bodJ s).1≠(s,0) then (enZ,3)
 else ((bodJ s).1,0)
/-! ### the text leads back -/
theorem fail_0 {w:JW} {e:Int} (h:(w.fail e).e=0):w.e=0∧e=0:=by
 unfold JW.fail at h
 dsimp only at h
 split at h
 ·rename_i h1;exact⟨h1,h⟩
 ·rename_i h1;exact absurd h h1
theorem num_0 {w:JW} {n:Int} (h:(w.num n).e=0):w.e=0∧(putF n).2=0:=fail_0 (w:=w) (e:=(putF n).2) h
theorem text_0 {w:JW} {s:ByteArray} (h:(w.text s).e=0):w.e=0∧(putF s.size).2=0:=num_0 h
theorem num_back {w:JW} {n:Int} {s:ByteArray} {r:List UInt8} (h:(w.num n).e=0) (hs:s.data.toList=(w.num n).b++r):JR.num s ⟨w.b.length,0⟩=(n,⟨(w.num n).b.length,0⟩):=by
 obtain⟨h1,h2,h3⟩:=putF_ok (num_0 h).2
 have hb:(w.num n).b=w.b++viL n.toNat:=by show w.b++_=_;rw[h3]
 rw[hb] at hs ⊢
 unfold JR.num
 rw[if_neg (by simp)]
 have hd:s.data.toList.drop w.b.length=viL n.toNat++r:=by rw[hs,List.append_assoc,List.drop_left]
 rw[hd,tkGo_back _ _ (by omega)]
 dsimp only
 rw[List.length_append,Int.toNat_of_nonneg h1]
theorem text_back {w:JW} {t s:ByteArray} {r:List UInt8} (h:(w.text t).e=0) (hs:s.data.toList=(w.text t).b++r):JR.text s ⟨w.b.length,0⟩=(t,⟨(w.text t).b.length,0⟩):=by
 have hb:(w.text t).b=(w.num t.size).b++t.data.toList:=rfl
 rw[hb] at hs ⊢
 have hn:=num_back (w:=w) (n:=t.size) (s:=s) (r:=t.data.toList++r) h (by rw[hs,List.append_assoc])
 unfold JR.text
 rw[hn]
 dsimp only
 have hsz:s.size=(w.num t.size).b.length+t.size+r.length:=by
  have h2:∀x:ByteArray,x.data.toList.length=x.size:=fun x=>Array.length_toList
  rw[←h2 s,hs,List.length_append,List.length_append,h2 t]
 rw[if_neg (by simp),if_neg (by omega)]
 have hx:s.extract (w.num t.size).b.length ((w.num t.size).b.length+(t.size:Int).toNat)=t:=by
  apply ByteArray.ext
  apply Array.ext'
  have h2:t.size=t.data.toList.length:=Array.length_toList.symm
  rw[ByteArray.data_extract,Array.toList_extract,hs,List.append_assoc,List.extract_eq_take_drop,List.drop_left,Int.toNat_natCast,Nat.add_sub_cancel_left,h2,List.take_left]
 rw[hx,List.length_append,Int.toNat_natCast]
 rfl
end
section
open Go Go.RowKit Go.Shelf
mutual
theorem cmpV_eq:∀(d d2:Val),cmpV d d2=0→Named d→Named d2→d=d2
 | .mk k i s t l ns fs,.mk k' i' s' t' l' ns' fs',h,hn,hn'=>by
   rw[cmpV] at h
   simp only[orL_cons] at h
   obtain⟨h1,h2,h3,h4,h5,h6,h7⟩:=h
   obtain⟨n1,n2,n3⟩:=hn
   obtain⟨m1,m2,m3⟩:=hn'
   have e4:t=t':=ByteArray.ext (Array.ext' (cmpB_zero h4))
   obtain⟨e6,e7⟩:=cmpFs_eq fs ns ns' fs' h6 n1 m1 n3 m3
   rw[cmpInt_zero h1,cmpInt_zero h2,cmpInt_zero h3,e4,cmpVs_eq l l' h5 n2 m2,e6,e7]
theorem cmpVs_eq:∀(l l':List Val),cmpVs l l'=0→NamedL l→NamedL l'→l=l'
 | [],[],_,_,_=>rfl
 | [],_ :: _,h,_,_=>by rw[cmpVs] at h;cases h
 | _ :: _,[],h,_,_=>by rw[cmpVs] at h;cases h
 | d :: l,d' :: l',h,hn,hn'=>by
   rw[cmpVs] at h
   by_cases h1:cmpV d d'=0
   ·rw[if_neg (by simpa using h1)] at h
    rw[cmpV_eq d d' h1 hn.1 hn'.1,cmpVs_eq l l' h hn.2 hn'.2]
   ·rw[if_pos h1] at h
    exact absurd h h1
theorem cmpFs_eq:∀(l:List Val) (ns ns':List ByteArray) (l':List Val),cmpFs ns l ns' l'=0→ns.length=l.length→ns'.length=l'.length→NamedL l→NamedL l'→ns=ns'∧l=l'
 | [],ns,ns',[],_,h1,h2,_,_=>by
   rw[List.length_nil] at h1 h2
   rw[List.eq_nil_of_length_eq_zero h1,List.eq_nil_of_length_eq_zero h2]
   exact⟨rfl,rfl⟩
 | [],ns,ns',_ :: _,h,_,_,_,_=>by rw[cmpFs] at h;cases h
 | _ :: _,ns,ns',[],h,_,_,_,_=>by rw[cmpFs] at h;cases h
 | d :: l,[],ns',d' :: l',h,h1,_,_,_=>by cases h1
 | d :: l,n :: ns,[],d' :: l',h,_,h2,_,_=>by cases h2
 | d :: l,n :: ns,n' :: ns',d' :: l',h,h1,h2,hn,hn'=>by
   rw[cmpFs] at h
   by_cases hq:orL [Lib.compareBytes ((n :: ns).headD ByteArray.empty).data.toList ((n' :: ns').headD ByteArray.empty).data.toList,cmpV d d']=0
   ·rw[if_neg (by simpa using hq)] at h
    simp only[orL_cons] at hq
    have e1:n=n':=ByteArray.ext (Array.ext' (cmpB_zero hq.1))
    obtain⟨e2,e3⟩:=cmpFs_eq l ns ns' l' h (by simpa using h1) (by simpa using h2) hn.2 hn'.2
    rw[e1,e2,e3,cmpV_eq d d' hq.2.1 hn.1 hn'.1]
    exact⟨rfl,rfl⟩
   ·rw[if_pos hq] at h
    exact absurd h hq
end
theorem named_nul:Named nulV:=⟨rfl,trivial,trivial⟩
def enEqB (a b:En):Bool:=a.k==b.k&&(a.ti==b.ti&&(a.nu==b.nu&&(a.ve==b.ve&&(a.ca==b.ca&&(decide (a.nm=b.nm)&&(decide (a.nd=b.nd)&&(decide (a.tx=b.tx)&&(a.un==b.un&&(a.dn==b.dn&&(cmpV a.bd b.bd==0&&stEqB a.st b.st))))))))))
theorem enEqB_iff {a b:En} (ha:Named a.bd) (hb:Named b.bd):enEqB a b=true ↔ a=b:=by
 obtain⟨k,ti,nu,ve,ca,nm,nd,tx,un,dn,bd,se,sp⟩:=a
 obtain⟨k',ti',nu',ve',ca',nm',nd',tx',un',dn',bd',se',sp'⟩:=b
 unfold enEqB stEqB
 dsimp only at ha hb ⊢
 simp only[Bool.and_eq_true,beq_iff_eq,decide_eq_true_eq]
 constructor
 ·rintro⟨rfl,rfl,rfl,rfl,rfl,rfl,rfl,rfl,rfl,rfl,h,rfl,rfl⟩
  rw[cmpV_eq _ _ h ha hb]
 ·intro h
  injection h with h1 h2 h3 h4 h5 h6 h7 h8 h9 h10 h11 h12
  injection h12 with h12 h13
  subst h1;subst h2;subst h3;subst h4;subst h5;subst h6;subst h7;subst h8;subst h9;subst h10;subst h11;subst h12;subst h13
  exact⟨rfl,rfl,rfl,rfl,rfl,rfl,rfl,rfl,rfl,rfl,cmpV_refl _,rfl,rfl⟩
def JExt (w w':JW):Prop:=(∃r,w'.b=w.b++r)∧(w'.e=0→w.e=0)
theorem JExt.refl (w:JW):JExt w w:=⟨⟨[],by simp⟩,id⟩
theorem JExt.trans {a b c:JW} (h:JExt a b) (h2:JExt b c):JExt a c:=by
 obtain⟨⟨r,hr⟩,he⟩:=h
 obtain⟨⟨q,hq⟩,hf⟩:=h2
 exact⟨⟨r++q,by rw[hq,hr,List.append_assoc]⟩,fun h=>he (hf h)⟩
theorem JExt.num (w:JW) (n:Int):JExt w (w.num n):=⟨⟨_,rfl⟩,fun h=>(num_0 h).1⟩
theorem JExt.fail (w:JW) (e:Int):JExt w (w.fail e):=⟨⟨[],by simp[JW.fail]⟩,fun h=>(fail_0 h).1⟩
theorem JExt.text (w:JW) (s:ByteArray):JExt w (w.text s):=⟨⟨(putF s.size).1.data.toList++s.data.toList,by rw[←List.append_assoc];rfl⟩,fun h=>(text_0 h).1⟩
theorem num_b {w W:JW} {n:Int} {s:ByteArray} (h:JExt (w.num n) W) (he:W.e=0) (hs:s.data.toList=W.b):JR.num s ⟨w.b.length,0⟩=(n,⟨(w.num n).b.length,0⟩):=by
 obtain⟨⟨r,hr⟩,h2⟩:=h
 exact num_back (h2 he) (by rw[hs,hr])
theorem text_b {w W:JW} {t:ByteArray} {s:ByteArray} (h:JExt (w.text t) W) (he:W.e=0) (hs:s.data.toList=W.b):JR.text s ⟨w.b.length,0⟩=(t,⟨(w.text t).b.length,0⟩):=by
 obtain⟨⟨r,hr⟩,h2⟩:=h
 exact text_back (h2 he) (by rw[hs,hr])
theorem size_nil {x:ByteArray} (h:x.size=0):x=⟨#[]⟩:=by
 apply ByteArray.ext
 exact Array.eq_empty_of_size_eq_zero h
theorem unused {d:En} (h:usedB d=false) (hn:Named d.bd):d={ enZ with k:=d.k,ti:=d.ti }:=by
 obtain⟨k,ti,nu,ve,ca,nm,nd,tx,un,dn,bd,se,sp⟩:=d
 unfold usedB at h
 dsimp only at h hn ⊢
 simp only[Bool.or_eq_false_iff,bne_eq_false_iff_eq] at h
 obtain⟨⟨⟨⟨⟨⟨⟨⟨⟨⟨h1,h2⟩,h3⟩,h4⟩,h5⟩,h6⟩,h7⟩,h8⟩,h9⟩,h10⟩,h11⟩:=h
 rw[cmpV_eq _ _ h9 hn named_nul,size_nil h4,size_nil h5,size_nil h6,List.eq_nil_of_length_eq_zero h11,h1,h2,h3,h7,h8,h10]
 rfl
theorem chk_rest {d:En} (h:chkEn d=0) (hn:Named d.bd):(1≤d.k∧d.k≤6)∧restE d={ enZ with k:=d.k,ti:=d.ti }:=by
 unfold chkEn at h
 split at h
 ·cases h
 rename_i h1
 split at h
 ·cases h
 split at h
 ·cases h
 rename_i h3
 refine⟨by omega,?_⟩
 have hb:Named (restE d).bd:=by
  unfold restE
  split
  ·exact hn
  split
  ·exact named_nul
  split
  ·exact hn
  split
  ·exact hn
  ·exact hn
 have hk:(restE d).k=d.k∧(restE d).ti=d.ti:=by
  unfold restE
  split
  ·exact⟨rfl,rfl⟩
  split
  ·exact⟨rfl,rfl⟩
  split
  ·exact⟨rfl,rfl⟩
  split
  ·exact⟨rfl,rfl⟩
  ·exact⟨rfl,rfl⟩
 have:=unused (d:=restE d) (by simpa using h3) hb
 rw[this,hk.1,hk.2]
theorem dec_enc {d:En} {s:ByteArray} (h:encJ d=(s,0)) (hn:Named d.bd):decJ s=(d,0):=by
 have h0:=h
 unfold encJ at h
 split at h
 ·injection h with h1 h2;rename_i hc;exact absurd h2 hc
 rename_i hc
 split at h
 ·injection h with h1 h2;rename_i hc;exact absurd h2 hc
 rename_i he
 have hc:chkEn d=0:=by simpa using hc
 have he:(encW d).e=0:=by simpa using he
 injection h with h1 _
 have hs:s.data.toList=(encW d).b:=by rw[←h1]
 clear h1
 obtain⟨⟨k1,k6⟩,hr⟩:=chk_rest hc hn
 obtain⟨w1,hw1⟩:∃w1,w1=JW.num ⟨[],0⟩ d.k:=⟨_,rfl⟩
 obtain⟨w2,hw2⟩:∃w2,w2=w1.num d.ti:=⟨_,rfl⟩
 obtain⟨W,hW⟩:∃W,W=encW d:=⟨_,rfl⟩
 have hwr:W=wrJ d w2:=by rw[hW,hw2,hw1];rfl
 rw[←hW] at he hs
 suffices H:JExt w2 W∧(rdJ s { enZ with k:=d.k,ti:=d.ti } ⟨w2.b.length,0⟩).1=d∧(rdJ s { enZ with k:=d.k,ti:=d.ti } ⟨w2.b.length,0⟩).2.e=0 by
  obtain⟨hx,hd,hz⟩:=H
  have a1:JR.num s ⟨0,0⟩=(d.k,⟨w1.b.length,0⟩):=by
   rw[hw1]
   exact num_b (w:=⟨[],0⟩) (n:=d.k) (W:=W) (by rw[←hw1];exact((JExt.num w1 d.ti).trans (hw2▸hx))) he hs
  have a2:JR.num s ⟨w1.b.length,0⟩=(d.ti,⟨w2.b.length,0⟩):=by
   rw[hw2]
   exact num_b (W:=W) (hw2▸hx) he hs
  have hh:headJ s=({ enZ with k:=d.k,ti:=d.ti },⟨w2.b.length,0⟩):=by
   unfold headJ
   rw[a1]
   dsimp only
   rw[a2]
  unfold decJ bodJ
  rw[hh]
  dsimp only
  rw[if_neg (by simp;omega),hd,hz,h0,if_neg (by simp)]
 unfold wrJ at hwr
 have hk:d.k=1∨d.k=2∨d.k=3∨d.k=4∨d.k=5∨d.k=6:=by omega
 clear h0 hc hw1 hw2 hW
 obtain⟨k,ti,nu,ve,ca,nm,nd,tx,un,dn,bd,st⟩:=d
 unfold restE at hr
 dsimp only at *
 rcases hk with rfl | rfl | rfl | rfl | rfl | rfl
 ·-- arrive
  simp only[reduceIte] at hr hwr
  injection hr with _ _ _ _ e5 _ e7 _ e9 e10 e11 e12
  subst hwr
  simp only[JW.nums,List.foldl] at he hs ⊢
  have x4:=JExt.text (((w2.text nm).num nu).num ve) tx
  have x3:=(JExt.num ((w2.text nm).num nu) ve).trans x4
  have x2:=(JExt.num (w2.text nm) nu).trans x3
  have x1:=(JExt.text w2 nm).trans x2
  refine⟨x1,?_⟩
  unfold rdJ
  simp only[reduceIte]
  rw[text_b x2 he hs]
  dsimp only
  rw[num_b x3 he hs]
  dsimp only
  rw[num_b x4 he hs]
  dsimp only
  rw[text_b (JExt.refl _) he hs]
  dsimp only
  rw[e5,e7,e9,e10,e11,e12]
  exact⟨rfl,rfl⟩
 ·-- tick
  simp only[reduceIte,show ¬ (2:Int)=1 by decide,show ¬ (2:Int)=3 by decide,show ¬ (2:Int)=4 by decide,show ¬ ((2:Int)=5∨(2:Int)=6) by decide] at hr hwr
  subst hwr
  refine⟨JExt.refl _,?_⟩
  unfold rdJ
  simp only[reduceIte,show ¬ (2:Int)=1 by decide]
  exact⟨hr.symm,trivial⟩
 ·-- reply
  simp only[reduceIte,show ¬ (3:Int)=1 by decide,show ¬ (3:Int)=2 by decide] at hr hwr
  injection hr with _ _ _ e4 _ _ _ e8 _ _ _ e12
  subst hwr
  simp only[JW.nums,List.foldl] at he hs ⊢
  obtain⟨q,hq⟩:∃q,q=litF bd:=⟨_,rfl⟩
  rw[←hq] at he hs ⊢
  obtain⟨f,hf⟩:∃f,f=flgN un dn:=⟨_,rfl⟩
  rw[←hf] at he hs ⊢
  have x7:=JExt.text ((((((w2.fail q.2).text nm).num nu).text nd).num ca).num f) q.1
  have x6:=(JExt.num (((((w2.fail q.2).text nm).num nu).text nd).num ca) f).trans x7
  have x5:=(JExt.num ((((w2.fail q.2).text nm).num nu).text nd) ca).trans x6
  have x4:=(JExt.text (((w2.fail q.2).text nm).num nu) nd).trans x5
  have x3:=(JExt.num ((w2.fail q.2).text nm) nu).trans x4
  have x2:=(JExt.text (w2.fail q.2) nm).trans x3
  have x1:=(JExt.fail w2 q.2).trans x2
  refine⟨x1,?_⟩
  have hq0:q.2=0:=(fail_0 (x2.2 he)).2
  have hpb:parF q.1=(bd,0,0):=by rw[hq] at hq0 ⊢;exact lit_back hq0 hn
  unfold rdJ
  simp only[reduceIte,show ¬ (3:Int)=1 by decide,show ¬ (3:Int)=2 by decide]
  have g1:=text_b (w:=w2.fail q.2) x3 he hs
  rw[show(w2.fail q.2).b=w2.b from rfl] at g1
  rw[g1]
  dsimp only
  rw[num_b x4 he hs]
  dsimp only
  rw[text_b x5 he hs]
  dsimp only
  rw[num_b x6 he hs]
  dsimp only
  rw[num_b x7 he hs]
  dsimp only
  rw[text_b (JExt.refl _) he hs]
  dsimp only
  simp only[reduceIte]
  rw[hpb]
  dsimp only
  rw[e4,e8,e12,hf]
  refine⟨?_,rfl⟩
  cases un<;>cases dn<;>rfl
 ·-- upgrade
  simp only[reduceIte,show ¬ (4:Int)=1 by decide,show ¬ (4:Int)=2 by decide,show ¬ (4:Int)=3 by decide] at hr hwr
  injection hr with _ _ e3 _ e5 e6 e7 e8 e9 e10 e11 e12
  subst hwr
  simp only[JW.nums,List.foldl] at he hs ⊢
  refine⟨JExt.num _ _,?_⟩
  unfold rdJ
  simp only[reduceIte,show ¬ (4:Int)=1 by decide,show ¬ (4:Int)=2 by decide,show ¬ (4:Int)=3 by decide]
  rw[num_b (JExt.refl _) he hs]
  dsimp only
  rw[e3,e5,e6,e7,e8,e9,e10,e11,e12]
  exact⟨rfl,rfl⟩
 all_goals
  simp only[reduceIte,show ¬ (5:Int)=1 by decide,show ¬ (5:Int)=2 by decide,show ¬ (5:Int)=3 by decide,show ¬ (5:Int)=4 by decide,show ¬ (6:Int)=1 by decide,show ¬ (6:Int)=2 by decide,show ¬ (6:Int)=3 by decide,show ¬ (6:Int)=4 by decide,show((5:Int)=5∨(5:Int)=6) by decide,show((6:Int)=5∨(6:Int)=6) by decide] at hr hwr
  injection hr with _ _ e3 e4 e5 e6 e7 e8 e9 e10 e11 _
  subst hwr
  have x2:=JExt.text (w2.fail (stampTE st).2) (stampTE st).1
  have x1:=(JExt.fail w2 (stampTE st).2).trans x2
  refine⟨x1,?_⟩
  have hq0:(stampTE st).2=0:=(fail_0 (x2.2 he)).2
  have hst:stampE st=0:=by
   unfold stampTE at hq0
   split at hq0
   ·rename_i h;exact h
   ·exact hq0
  have hst1:(stampTE st).1=stampT st:=by unfold stampTE;rw[if_pos hst]
  have hpb:parseS (stampTE st).1.data.toList=some st:=by rw[hst1];exact parseS_text st hst
  unfold rdJ
  simp only[reduceIte,show ¬ (5:Int)=1 by decide,show ¬ (5:Int)=2 by decide,show ¬ (5:Int)=3 by decide,show ¬ (5:Int)=4 by decide,show ¬ (6:Int)=1 by decide,show ¬ (6:Int)=2 by decide,show ¬ (6:Int)=3 by decide,show ¬ (6:Int)=4 by decide]
  have g1:=text_b (w:=w2.fail (stampTE st).2) (JExt.refl _) he hs
  rw[show(w2.fail (stampTE st).2).b=w2.b from rfl] at g1
  rw[g1]
  dsimp only
  simp only[reduceIte]
  rw[hpb]
  dsimp only
  rw[e3,e4,e5,e6,e7,e8,e9,e10,e11]
  exact⟨rfl,rfl⟩
theorem dec_bad {s:ByteArray} (h:(decJ s).2≠0):decJ s=(enZ,3):=by
 unfold decJ at h ⊢
 split
 ·rfl
 ·rename_i h1
  rw[if_neg h1] at h
  split
  ·rfl
  ·rename_i h2
   rw[if_neg h2] at h
   exact absurd rfl h
theorem dec_ok {s:ByteArray} (h:(decJ s).2=0):encJ (decJ s).1=(s,0):=by
 unfold decJ at h ⊢
 split
 ·rename_i h1
  rw[if_pos h1] at h
  cases h
 ·rename_i h1
  rw[if_neg h1] at h
  split
  ·rename_i h2
   rw[if_pos h2] at h
   cases h
  ·rename_i h2
   exact Classical.byContradiction fun h3=>h2 (.inr h3)
theorem enc_chk {d:En} {s:ByteArray} (h:encJ d=(s,0)):chkEn d=0:=by
 unfold encJ at h
 split at h
 ·injection h with h1 h2
 ·rename_i hc;simpa using hc
theorem enc_bad {d:En} (h:(encJ d).2≠0):(encJ d).1=⟨#[]⟩:=by
 unfold encJ at h ⊢
 split
 ·rfl
 ·rename_i h1
  rw[if_neg h1] at h
  split
  ·rfl
  ·rename_i h2
   rw[if_neg h2] at h
   exact absurd rfl h
end
section
open Go Go.RowKit
structure EnC where
 k:Int
 ti:Int
 nu:Int
 ve:Int
 ca:Int
 nm:ByteArray
 nd:ByteArray
 tx:ByteArray
 un:Bool
 dn:Bool
 bd:VC
 st:SC
def EnC.cs (c:EnC):List Value:=[.int .i64 c.k,.int .i64 c.ti,.int .i64 c.nu,.int .i64 c.ve,.int .i64 c.ca,.string c.nm,.string c.nd,.string c.tx,.bool c.un,.bool c.dn,.int .i64 c.bd.k,.int .i64 c.bd.i,.int .i64 c.bd.s,.string c.bd.t,.slice c.bd.la c.bd.ll c.bd.lc,.slice c.bd.fa c.bd.fl c.bd.fc,.int .i64 c.st.e,.slice c.st.a c.st.n c.st.c]
abbrev EnC.v (c:EnC):Value:=.agg #[.int .i64 c.k,.int .i64 c.ti,.int .i64 c.nu,.int .i64 c.ve,.int .i64 c.ca,.string c.nm,.string c.nd,.string c.tx,.bool c.un,.bool c.dn,.int .i64 c.bd.k,.int .i64 c.bd.i,.int .i64 c.bd.s,.string c.bd.t,.slice c.bd.la c.bd.ll c.bd.lc,.slice c.bd.fa c.bd.fl c.bd.fc,.int .i64 c.st.e,.slice c.st.a c.st.n c.st.c]
abbrev EnC.ar (c:EnC):Array Value:=#[.int .i64 c.k,.int .i64 c.ti,.int .i64 c.nu,.int .i64 c.ve,.int .i64 c.ca,.string c.nm,.string c.nd,.string c.tx,.bool c.un,.bool c.dn,.int .i64 c.bd.k,.int .i64 c.bd.i,.int .i64 c.bd.s,.string c.bd.t,.slice c.bd.la c.bd.ll c.bd.lc,.slice c.bd.fa c.bd.fl c.bd.fc,.int .i64 c.st.e,.slice c.st.a c.st.n c.st.c]
structure IsEn (S:Nat→Prop) (w:World) (c:EnC) (d:En):Prop where
 k:c.k=d.k
 rk:I64 c.k
 ti:c.ti=d.ti
 rti:I64 c.ti
 nu:c.nu=d.nu
 rnu:I64 c.nu
 ve:c.ve=d.ve
 rve:I64 c.ve
 ca:c.ca=d.ca
 rca:I64 c.ca
 nm:c.nm=d.nm
 nmz:c.nm.size≤140737488351232
 nd:c.nd=d.nd
 ndz:c.nd.size≤140737488351232
 tx:c.tx=d.tx
 txz:c.tx.size≤140737488351232
 un:c.un=d.un
 dn:c.dn=d.dn
 bd:IsVal S w c.bd d.bd
 st:IsSt S w c.st d.st
theorem IsEn.same {S S':Nat→Prop} {w w':World} {c:EnC} {d:En} (hs:∀b,S b→S' b∧w'.heap[b]?=w.heap[b]?) (h:IsEn S w c d):IsEn S' w' c d :=
 ⟨h.k,h.rk,h.ti,h.rti,h.nu,h.rnu,h.ve,h.rve,h.ca,h.rca,h.nm,h.nmz,h.nd,h.ndz,h.tx,h.txz,h.un,h.dn,h.bd.same hs,h.st.same hs⟩
@[reducible] def enK:Kit EnC En:=⟨18,208,EnC.cs,fun _=>rfl,by decide,IsEn,fun hs h=>h.same hs⟩
abbrev enZC:EnC:=⟨0,0,0,0,0,⟨#[]⟩,⟨#[]⟩,⟨#[]⟩,false,false,⟨0,0,0,⟨#[]⟩,none,0,0,none,0,0⟩,⟨0,none,0,0⟩⟩
theorem EnC.one (c:EnC):∀v∈c.cs,v.oneCell'=true:=by simp[EnC.cs,Value.oneCell']
theorem ldEn {w:World} {b:Nat} {c:EnC} {t:TypeId} {fr:Nat × Nat} (h:w.heap[b]?=some (.cells c.ar t fr)):(loadCellsFrom ⟨b,0,none⟩ 0 18 #[]).run Tryz.prog w=.ok c.ar w :=
 ldAll (P:=Tryz.prog) (vs:=c.cs) h
theorem infoEn:(Tryz.prog.info? 30).map (·.size)=some 18:=by kernel_rfl
theorem stEnN (w:World) (z:Array Value) (hz:z.size=18) (c:EnC):(storeCells ⟨w.heap.size,0,none⟩ c.cs 0).run Tryz.prog (w.alloc (.cells z 30))=.ok () (w.alloc (.cells c.ar 30)) :=
 stNew w 30 z c.cs infoEn hz (EnC.one c)
end
end Go.Proofs.YtaofolgaiipcjaaGreatDoor
