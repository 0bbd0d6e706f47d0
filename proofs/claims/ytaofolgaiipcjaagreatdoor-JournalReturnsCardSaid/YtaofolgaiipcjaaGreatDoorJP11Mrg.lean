/-
  The plain law of literal.Parse, fifth part: the text of a valid value leads back to it. No program is stepped through here.
-/
import Derived.Test.YtaofolgaiipcjaaGreatDoorJP9Mrg
import Derived.Test.YtaofolgaiipcjaaGreatDoorJP10Mrg
namespace Go.Proofs.YtaofolgaiipcjaaGreatDoor
set_option linter.unusedVariables false
set_option maxRecDepth 100000
set_option maxHeartbeats 16000000
set_option linter.unusedSimpArgs false
section
open Go Go.RowKit Go.Shelf
/-! ### names in order -/
theorem less_cmp:∀(x y:List UInt8),Op.bytesLess x y=true ↔ Lib.compareBytes x y = -1
 | [],[]=>by simp[Op.bytesLess,Lib.compareBytes]
 | [],_ :: _=>by simp[Op.bytesLess,Lib.compareBytes]
 | _ :: _,[]=>by simp[Op.bytesLess,Lib.compareBytes]
 | a :: x,b :: y=>by
   have ih:=less_cmp x y
   rw[Op.bytesLess,Lib.compareBytes]
   by_cases h1:a<b
   ·simp[h1]
   ·by_cases h2:b<a
    ·have hne:(a==b)=false:=by
      rw[beq_eq_false_iff_ne];intro e;rw[e] at h2;exact UInt8.lt_irrefl _ h2
     simp[h1,h2,hne]
    ·have e:a=b:=by
      have:¬ a.toNat<b.toNat:=fun h=>h1 (UInt8.lt_iff_toNat_lt.2 h)
      have:¬ b.toNat<a.toNat:=fun h=>h2 (UInt8.lt_iff_toNat_lt.2 h)
      exact UInt8.toNat_inj.1 (by omega)
     simp[h1,h2,e,UInt8.lt_irrefl,ih]
def ltN (a b:ByteArray):Prop:=Lib.compareBytes a.data.toList b.data.toList = -1
theorem ltN_trans {a b c:ByteArray} (h1:ltN a b) (h2:ltN b c):ltN a c:=by
 have t:=cmpB_tri a.data.toList b.data.toList c.data.toList
 have g:=cmpB_sg a.data.toList c.data.toList
 unfold ltN Tri Sg at *
 omega
theorem fieldsE_sorted:∀(ns:List ByteArray) (p:Option ByteArray),fieldsE p ns=0→(∀n∈ns,isNameB n=true)∧ns.Pairwise ltN∧∀q,p=some q→∀n∈ns,ltN q n
 | [],_,_=>⟨fun _ h=>(by cases h),List.Pairwise.nil,fun _ _ _ h=>(by cases h)⟩
 | m :: ns,p,h=>by
   rw[fieldsE_cons] at h
   by_cases hm:isNameB m=false
   ·rw[if_pos hm] at h;cases h
   rw[if_neg hm] at h
   have hm':isNameB m=true:=by simpa using hm
   have key:fieldsE (some m) ns=0∧∀q,p=some q→ltN q m:=by
    cases p with
    | none=>exact⟨h,fun q e=>by cases e⟩
    | some q =>
      dsimp only at h
      split at h
      ·cases h
      rename_i h1
      split at h
      ·cases h
      rename_i h2
      refine⟨h,fun q' e=>?_⟩
      cases e
      have h3:=cmpB_sg m.data.toList q.data.toList
      have h4:=cmpB_anti m.data.toList q.data.toList
      rw[ByteArray.toList_eq,ByteArray.toList_eq,less_cmp] at h2
      have h5:Lib.compareBytes m.data.toList q.data.toList≠0:=by
       intro e
       refine h1 ?_
       rw[ByteArray.toList_eq,ByteArray.toList_eq,cmpB_zero e]
       simp
      unfold ltN Sg at *
      omega
   obtain⟨h1,h2,h3⟩:=fieldsE_sorted ns _ key.1
   have hall:=h3 m rfl
   refine⟨?_,List.pairwise_cons.2 ⟨hall,h2⟩,?_⟩
   ·intro n hn
    rcases List.mem_cons.1 hn with rfl | hn
    ·exact hm'
    ·exact h1 n hn
   ·intro q e n hn
    rcases List.mem_cons.1 hn with rfl | hn
    ·exact key.2 q e
    ·exact ltN_trans (key.2 q e) (hall n hn)
/-! ### what may follow a value -/
def PostV (post:List UInt8):Prop:=∀c,post.head?=some c→c=44∨c=93∨c=125∨c=41
theorem PostV.n {post:List UInt8} (h:PostV post):PostN post:=fun c hc=>by
 rcases h c hc with rfl | rfl | rfl | rfl<;>decide
theorem PostV.w {post:List UInt8} (h:PostV post):∀c,post.head?=some c→wrdC c=false:=fun c hc=>by
 rcases h c hc with rfl | rfl | rfl | rfl<;>decide
theorem PostV.q {post:List UInt8} (h:PostV post):post.head?≠some 34:=fun e=>by
 rcases h _ e with h | h | h | h<;>exact absurd h (by decide)
theorem tok_post {s:ByteArray} {j:Nat} {post:List UInt8} (h:PostV post) (hL:s.data.toList.drop j=post):(tok s j).e=0∧(tok s j).o=0∧(tok s j).is ⟨#[40]⟩=false:=by
 cases post with
 | nil=>rw[tok_end hL];exact⟨rfl,rfl,rfl⟩
 | cons c r =>
   have hc:=h c rfl
   have hs:symL.contains c=true:=by rcases hc with rfl | rfl | rfl | rfl<;>decide
   rw[tok_sym hL hs]
   refine⟨rfl,rfl,?_⟩
   rcases hc with rfl | rfl | rfl | rfl<;>rfl
/-! ### valid values -/
mutual
def Fine:Nat→Val→Prop
 | f,.mk k i s t l ns fs=>(∃g,f=g+1)∧itemOK (.mk k i s t l ns fs)∧usesV (.mk k i s t l ns fs)=true∧ns.length=fs.length∧FineL (f-1) l∧FineL (f-1) fs
def FineL:Nat→List Val→Prop
 | _,[]=>True
 | f,d :: l=>Fine f d∧FineL f l
end
mutual
def Named:Val→Prop
 | .mk k i s t l ns fs=>ns.length=fs.length∧NamedL l∧NamedL fs
def NamedL:List Val→Prop
 | []=>True
 | d :: l=>Named d∧NamedL l
end
mutual
theorem IsVal.named {S:Nat→Prop} {w:World}:∀{c:VC} {d:Val},IsVal S w c d→Named d
 | c,.mk k i s t l ns fs,h=>by
   obtain⟨⟨_,_,_,_,_,_,_,h1⟩,h2,h3⟩:=h
   refine⟨h1,?_,?_⟩
   ·rcases h2 with h2 | ⟨b,o,_,_,hv⟩
    ·rw[h2];trivial
    ·exact IsVals.named hv
   ·rcases h3 with h3 | ⟨b,o,_,_,hv⟩
    ·rw[h3];trivial
    ·exact IsFlds.named hv
theorem IsVals.named {S:Nat→Prop} {w:World} {b:Nat}:∀{o:Nat} {l:List Val},IsVals S w b o l→NamedL l
 | _,[],_=>trivial
 | o,d :: l,⟨⟨c,_,hv⟩,ht⟩=>⟨IsVal.named hv,IsVals.named ht⟩
theorem IsFlds.named {S:Nat→Prop} {w:World} {b:Nat}:∀{o:Nat} {ns:List ByteArray} {l:List Val},IsFlds S w b o ns l→NamedL l
 | _,_,[],_=>trivial
 | o,ns,d :: l,⟨⟨_,c,_,hv⟩,ht⟩=>⟨IsVal.named hv,IsFlds.named ht⟩
end
def chkOK (x:Int × Val):Prop:=x.1≤8∧itemOK x.2∧usesV x.2=true
theorem chkItem_all {p:Nat} {x:Int × Val} (h:chkItem p x=0):chkOK x:=by
 refine⟨?_,chkItem_ok h,?_⟩
 ·unfold chkItem at h
  split at h
  ·cases h
  split at h
  ·cases h
  omega
 ·unfold chkItem at h
  split at h
  ·cases h
  split at h
  ·cases h
  split at h
  ·cases h
  split at h
  ·cases h
  split at h
  ·cases h
  rename_i hu
  simpa using hu
theorem chkGo_all:∀(xs:List (Int × Val)) (p:Nat),chkGo p xs=0→∀x∈xs,chkOK x
 | y :: ys,p,h,x,hx=>by
   simp only[chkGo] at h
   by_cases h1:chkItem (p+1) y≠0
   ·rw[if_pos h1] at h;exact absurd h h1
   ·rw[if_neg h1] at h
    rcases List.mem_cons.1 hx with rfl | hx
    ·exact chkItem_all (Decidable.not_not.1 h1)
    ·exact chkGo_all ys (p+1) h x hx
theorem uses_kids {k i s:Int} {t:ByteArray} {l:List Val} {ns:List ByteArray} {fs:List Val} (h:usesV (.mk k i s t l ns fs)=true):(k≠8→k≠10→l=[])∧(k≠9→fs=[])∧(k≠3→s=0)∧(¬ (k=4∨k=5∨k=10)→t=⟨#[]⟩)∧(¬ (k=1∨k=2∨k=3∨k=6∨k=7)→i=0):=by
 have ht:t.toList.isEmpty=true→t=⟨#[]⟩:=by
  intro e
  rw[ByteArray.toList_eq,List.isEmpty_iff] at e
  exact ByteArray.ext (Array.ext' e)
 simp only[usesV,usesB,numK,textK,listK,Bool.and_eq_true,Bool.or_eq_true,beq_iff_eq] at h
 obtain⟨h1,h2,h3,h4,h5⟩:=h
 refine⟨fun a b=>?_,fun a=>?_,fun a=>?_,fun a=>?_,fun a=>?_⟩
 ·rcases h4 with h4 | h4
  ·omega
  ·exact List.length_eq_zero_iff.1 (by omega)
 ·rcases h5 with h5 | h5
  ·exact absurd h5 a
  ·exact List.length_eq_zero_iff.1 (by omega)
 ·rcases h2 with h2 | h2
  ·exact absurd h2 a
  ·exact h2
 ·rcases h3 with h3 | h3
  ·omega
  ·exact ht h3
 ·rcases h1 with h1 | h1
  ·omega
  ·exact h1
mutual
theorem fine_of (lvl:Nat) (h1:1≤lvl):∀d:Val,(∀x∈preL lvl d,chkOK x)→Named d→Fine (9-lvl) d
 | .mk k i s t l ns fs,h,hn=>by
   have h0:=h _ (by rw[preL];exact List.mem_cons_self ..)
   obtain⟨a1,a2,a3⟩:=h0
   dsimp only at a1
   have hl:lvl≤8:=by omega
   have hw:wrap64 ((lvl:Int)+1)=((lvl+1:Nat):Int):=by
    rw[show((lvl+1:Nat):Int)=(lvl:Int)+1 by omega]
    exact IntWalk.wrap64_in ((lvl:Int)+1) ⟨by omega,by omega⟩
   obtain⟨u1,u2,_⟩:=uses_kids a3
   have hk:∀x∈preLs ((lvl+1:Nat):Int) (kids (.mk k i s t l ns fs)),chkOK x:=fun x hx=>h x (by rw[preL_eq,hw];exact List.mem_cons_of_mem _ hx)
   refine⟨⟨8-lvl,by omega⟩,a2,a3,hn.1,?_,?_⟩
   ·rw[show 9-lvl-1=9-(lvl+1) by omega]
    by_cases hk8:k=8∨k=10
    ·rw[kids,if_pos hk8] at hk
     exact fineL_of (lvl+1) (by omega) l hk hn.2.1
    ·rw[u1 (fun e=>hk8 (.inl e)) (fun e=>hk8 (.inr e))];trivial
   ·rw[show 9-lvl-1=9-(lvl+1) by omega]
    by_cases hk9:k=9
    ·rw[kids,if_neg (by omega),if_pos hk9] at hk
     exact fineL_of (lvl+1) (by omega) fs hk hn.2.2
    ·rw[u2 hk9];trivial
theorem fineL_of (lvl:Nat) (h1:1≤lvl):∀l:List Val,(∀x∈preLs lvl l,chkOK x)→NamedL l→FineL (9-lvl) l
 | [],_,_=>trivial
 | d :: l,h,hn=>⟨fine_of lvl h1 d (fun x hx=>h x (by rw[preLs];exact List.mem_append_left _ hx)) hn.1,fineL_of lvl h1 l (fun x hx=>h x (by rw[preLs];exact List.mem_append_right _ hx)) hn.2⟩
end
/-! ### the first token of a value's text -/
def fstT (i:Nat):Val→Rd
 | .mk k v sc t l ns fs=>if k=1 then wordT i (leafT 1 v sc t.data.toList) else if k=2 then numT i (Lib.itoa v) v 0 (false,false) else if k=3 then numT i (leafT 3 v sc t.data.toList) v sc (true,decide (sc=0))
    else if k=4 then strT i t.data.toList else if k=5 then bytT i t.data.toList else if k=6 then wordT i [100,97,116,101] else if k=7 then wordT i [116,105,109,101]
    else if k=8 then symT i 91 else if k=9 then symT i 123 else wordT i t.data.toList
theorem name_word {t:ByteArray} (h:isNameB t=true):∃c r,t.data.toList=c :: r∧letC c=true∧∀x∈t.data.toList,wrdC x=true:=by
 unfold isNameB isNameL at h
 split at h
 ·cases h
 ·rename_i c r e
  simp only[Bool.and_eq_true,decide_eq_true_eq] at h
  obtain⟨_,⟨h1,h2⟩,h3⟩:=h
  refine⟨c,r,e,?_,?_⟩
  ·unfold letC;simp;omega
  ·rw[e]
   intro x hx
   have:=List.all_eq_true.1 h3 x hx
   unfold nmC at this
   unfold wrdC letC digC
   simp at this ⊢
   omega
theorem variant_name {t:ByteArray} {n:Nat} (h:variantE t n=0):isNameB t=true∧n=1:=by
 unfold variantE at h
 split at h
 ·cases h
 rename_i h1
 split at h
 ·cases h
 rename_i h2
 have:=sizeE_zero (by decide) h
 exact⟨by simpa using h1,by omega⟩
theorem decL_shape {v sc:Int} (h0:0≤sc):leafT 3 v sc []=if sc=0 then decL v 0++[100] else decL v sc.toNat:=by
 unfold leafT
 rw[if_neg (by decide),if_neg (by decide),if_neg (by decide),if_pos rfl]
 split
 ·rename_i h;rw[h];rfl
 ·rfl
theorem leafT3 (v sc:Int) (t:List UInt8):leafT 3 v sc t=leafT 3 v sc []:=rfl
theorem tok_fst {s:ByteArray} {f i:Nat} {post:List UInt8}:∀{d:Val},Fine f d→s.data.toList.drop i=txt d++post→PostV post→tok s i=fstT i d
 | .mk k v sc t l ns fs,h,hL,hp=>by
   obtain⟨_,⟨hk1,hk2,hr⟩,_⟩:=h
   have hk1:1≤k:=hk1
   have hk2:k≤10:=hk2
   rw[txt] at hL
   simp only[ruleE] at hr
   have:k=1∨k=2∨k=3∨k=4∨k=5∨k=6∨k=7∨k=8∨k=9∨k=10:=by omega
   rcases this with rfl | rfl | rfl | rfl | rfl | rfl | rfl | rfl | rfl | rfl
   ·rw[if_neg (by decide),if_neg (by decide),if_neg (by decide)] at hL
    rw[fstT,if_pos rfl]
    have hw:leafT 1 v sc t.data.toList=[116,114,117,101]∨leafT 1 v sc t.data.toList=[102,97,108,115,101]:=by
     unfold leafT
     rw[if_neg (by decide),if_pos rfl]
     split<;>simp
    rcases hw with hw | hw
    ·rw[hw] at hL ⊢
     exact tok_word (c:=116) rfl hL (by decide) (by decide) hp.w (fun e=>absurd e (by decide))
    ·rw[hw] at hL ⊢
     exact tok_word (c:=102) rfl hL (by decide) (by decide) hp.w (fun e=>absurd e (by decide))
   ·rw[if_neg (by decide),if_neg (by decide),if_neg (by decide)] at hL
    simp at hr
    have hb:=between_zero hr
    rw[fstT,if_neg (by decide),if_pos rfl]
    exact tok_int (by rw[hL];rfl) (by omega) hp.n
   ·rw[if_neg (by decide),if_neg (by decide),if_neg (by decide)] at hL
    simp at hr
    obtain⟨ha,hb⟩:=first2_zero hr
    have ha:=between_zero ha
    have hb:=between_zero hb
    rw[fstT,if_neg (by decide),if_neg (by decide),if_pos rfl]
    rw[leafT3,decL_shape hb.1] at hL ⊢
    by_cases h0:sc=0
    ·subst h0
     rw[if_pos rfl] at hL ⊢
     exact tok_dec0 hL (by omega) hp.n
    ·rw[if_neg h0] at hL ⊢
     have:=tok_dec hL (by omega) (by omega) (by omega) hp.n
     rw[this,show((sc.toNat:Nat):Int)=sc by omega]
     simp[h0]
   ·rw[if_neg (by decide),if_neg (by decide),if_neg (by decide)] at hL
    simp at hr
    rw[fstT,if_neg (by decide),if_neg (by decide),if_neg (by decide),if_pos rfl]
    refine tok_str (by rw[hL];rfl) ?_
    unfold textE at hr
    split at hr
    ·cases hr
    ·rename_i h1
     rw[hr] at h1
     simpa using h1
   ·rw[if_neg (by decide),if_neg (by decide),if_neg (by decide)] at hL
    rw[fstT,if_neg (by decide),if_neg (by decide),if_neg (by decide),if_neg (by decide),if_pos rfl]
    exact tok_byt (by rw[hL];rfl)
   ·rw[if_neg (by decide),if_neg (by decide),if_neg (by decide)] at hL
    rw[fstT,if_neg (by decide),if_neg (by decide),if_neg (by decide),if_neg (by decide),if_neg (by decide),if_pos rfl]
    exact tok_word (c:=100) (w:=[100,97,116,101]) (post:=32 :: (quoteL (dateB (v+719162).toNat)++post)) rfl (by rw[hL];rfl) (by decide) (by decide) (fun c hc=>by simp at hc;subst hc;decide) (fun e=>absurd e (by decide))
   ·rw[if_neg (by decide),if_neg (by decide),if_neg (by decide)] at hL
    rw[fstT,if_neg (by decide),if_neg (by decide),if_neg (by decide),if_neg (by decide),if_neg (by decide),if_neg (by decide),if_pos rfl]
    exact tok_word (c:=116) (w:=[116,105,109,101]) (post:=32 :: (quoteL (timeB (v+62135596800000).toNat)++post)) rfl (by rw[hL];rfl) (by decide) (by decide) (fun c hc=>by simp at hc;subst hc;decide) (fun e=>absurd e (by decide))
   ·rw[if_pos rfl] at hL
    rw[fstT,if_neg (by decide),if_neg (by decide),if_neg (by decide),if_neg (by decide),if_neg (by decide),if_neg (by decide),if_neg (by decide),if_pos rfl]
    exact tok_sym hL (by decide)
   ·rw[if_neg (by decide),if_pos rfl] at hL
    rw[fstT,if_neg (by decide),if_neg (by decide),if_neg (by decide),if_neg (by decide),if_neg (by decide),if_neg (by decide),if_neg (by decide),if_neg (by decide),if_pos rfl]
    exact tok_sym hL (by decide)
   ·rw[if_neg (by decide),if_neg (by decide),if_pos rfl] at hL
    rw[fstT,if_neg (by decide),if_neg (by decide),if_neg (by decide),if_neg (by decide),if_neg (by decide),if_neg (by decide),if_neg (by decide),if_neg (by decide),if_neg (by decide)]
    simp at hr
    obtain⟨c,r,e,hc,hall⟩:=name_word (variant_name hr).1
    refine tok_word (post:=40 :: ((txts l).headD []++[41])++post) e ?_ hc hall (fun c hc=>by simp at hc;subst hc;decide) (fun _=>by simp)
    rw[hL];simp
theorem fstT_facts (i:Nat) {d:Val} (h:itemOK d):(fstT i d).e=0∧(fstT i d).o=0∧(fstT i d).is ⟨#[93]⟩=false∧(fstT i d).is ⟨#[125]⟩=false:=by
 obtain⟨k,v,sc,t,l,ns,fs⟩:=d
 obtain⟨hk1,hk2,hr⟩:=h
 have hk1:1≤k:=hk1
 have hk2:k≤10:=hk2
 simp only[ruleE] at hr
 have hne:∀(w:List UInt8) (c x:UInt8) (r:List UInt8),w=c :: r→letC c=true→letC x=false→(⟨w.toArray⟩:ByteArray)≠⟨#[x]⟩:=by
  intro w c x r hw hc hx e
  have e2:w=[x]:=congrArg (fun b:ByteArray=>b.data.toList) e
  rw[hw] at e2
  have e3:=(List.cons.injEq .. ▸ e2).1
  rw[e3,hx] at hc;cases hc
 have:k=1∨k=2∨k=3∨k=4∨k=5∨k=6∨k=7∨k=8∨k=9∨k=10:=by omega
 rcases this with rfl | rfl | rfl | rfl | rfl | rfl | rfl | rfl | rfl | rfl
 ·rw[fstT,if_pos rfl]
  refine⟨rfl,rfl,?_,?_⟩
  ·unfold leafT;rw[if_neg (by decide),if_pos rfl];split<;>rfl
  ·unfold leafT;rw[if_neg (by decide),if_pos rfl];split<;>rfl
 ·rw[fstT,if_neg (by decide),if_pos rfl]
  exact⟨rfl,rfl,rfl,rfl⟩
 ·rw[fstT,if_neg (by decide),if_neg (by decide),if_pos rfl]
  exact⟨rfl,rfl,rfl,rfl⟩
 ·rw[fstT,if_neg (by decide),if_neg (by decide),if_neg (by decide),if_pos rfl]
  exact⟨rfl,rfl,rfl,rfl⟩
 ·rw[fstT,if_neg (by decide),if_neg (by decide),if_neg (by decide),if_neg (by decide),if_pos rfl]
  exact⟨rfl,rfl,rfl,rfl⟩
 ·rw[fstT,if_neg (by decide),if_neg (by decide),if_neg (by decide),if_neg (by decide),if_neg (by decide),if_pos rfl]
  exact⟨rfl,rfl,rfl,rfl⟩
 ·rw[fstT,if_neg (by decide),if_neg (by decide),if_neg (by decide),if_neg (by decide),if_neg (by decide),if_neg (by decide),if_pos rfl]
  exact⟨rfl,rfl,rfl,rfl⟩
 ·rw[fstT,if_neg (by decide),if_neg (by decide),if_neg (by decide),if_neg (by decide),if_neg (by decide),if_neg (by decide),if_neg (by decide),if_pos rfl]
  exact⟨rfl,rfl,rfl,rfl⟩
 ·rw[fstT,if_neg (by decide),if_neg (by decide),if_neg (by decide),if_neg (by decide),if_neg (by decide),if_neg (by decide),if_neg (by decide),if_neg (by decide),if_pos rfl]
  exact⟨rfl,rfl,rfl,rfl⟩
 ·rw[fstT,if_neg (by decide),if_neg (by decide),if_neg (by decide),if_neg (by decide),if_neg (by decide),if_neg (by decide),if_neg (by decide),if_neg (by decide),if_neg (by decide)]
  simp at hr
  obtain⟨c,r,e,hc,hall⟩:=name_word (variant_name hr).1
  refine⟨rfl,rfl,?_,?_⟩
  ·unfold Rd.is
   rw[Bool.and_eq_false_iff];right;rw[Bool.and_eq_false_iff];right
   exact decide_eq_false (hne _ _ 93 _ e hc (by decide))
  ·unfold Rd.is
   rw[Bool.and_eq_false_iff];right;rw[Bool.and_eq_false_iff];right
   exact decide_eq_false (hne _ _ 125 _ e hc (by decide))
end
section
open Go Go.RowKit Go.Shelf
theorem expect_sym {s:ByteArray} {j:Nat} {c:UInt8} {r:List UInt8} (hL:s.data.toList.drop j=c :: r) (hs:symL.contains c=true):(tok s j).expect s ⟨#[c]⟩=tok s (j+1):=by
 rw[tok_sym hL hs]
 unfold Rd.expect
 rw[if_neg (by simp[symT]),if_pos (by simp[Rd.is,symT]),adv_tok rfl rfl]
 rfl
theorem joinTail_cons (x:List UInt8) (r:List (List UInt8)):Lib.joinTail [44,32] (x :: r)=44 :: 32 :: (x++Lib.joinTail [44,32] r):=by
 simp[Lib.joinTail]
theorem joinTail_len:∀r:List (List UInt8),2 * r.length≤(Lib.joinTail [44,32] r).length
 | []=>by simp
 | x :: r=>by
   have:=joinTail_len r
   rw[joinTail_cons]
   simp only[List.length_cons,List.length_append];omega
theorem post_tail (r:List (List UInt8)) (c:UInt8) (hc:c=93∨c=125) (post:List UInt8):PostV (Lib.joinTail [44,32] r++c :: post):=by
 intro x hx
 cases r with
 | nil=>simp[Lib.joinTail] at hx;subst hx;rcases hc with rfl | rfl<;>simp
 | cons y r=>rw[joinTail_cons] at hx;simp at hx;subst hx;simp
theorem fst_nx (i:Nat) {d:Val} (h:itemOK d):(fstT i d).nx≤i+(txt d).length:=by
 obtain⟨k,v,sc,t,l,ns,fs⟩:=d
 obtain⟨hk1,hk2,hr⟩:=h
 have hk1:1≤k:=hk1
 have hk2:k≤10:=hk2
 rw[txt]
 have:k=1∨k=2∨k=3∨k=4∨k=5∨k=6∨k=7∨k=8∨k=9∨k=10:=by omega
 rcases this with rfl | rfl | rfl | rfl | rfl | rfl | rfl | rfl | rfl | rfl
 ·exact Nat.le_refl _
 ·exact Nat.le_refl _
 ·exact Nat.le_refl _
 ·exact Nat.le_refl _
 ·exact Nat.le_refl _
 ·simp[fstT,wordT,leafT]
 ·simp[fstT,wordT,leafT]
 ·simp[fstT,symT]
 ·simp[fstT,symT]
 ·simp[fstT,wordT]
theorem name_tok {s:ByteArray} {p:Nat} {n:ByteArray} {r:List UInt8} (hL:s.data.toList.drop p=n.data.toList++58 :: r) (hn:isNameB n=true) :
 tok s p=wordT p n.data.toList∧(tok s p).name s=tok s (p+n.data.toList.length)∧(tok s (p+n.data.toList.length)).e=0∧(tok s (p+n.data.toList.length)).expect s ⟨#[58]⟩=tok s (p+n.data.toList.length+1):=by
 obtain⟨c,q,e,hc,hall⟩:=name_word hn
 have h1:tok s p=wordT p n.data.toList:=tok_word e hL hc hall (fun c hc=>by simp at hc;subst hc;decide) (fun _=>by simp)
 have hd:=drop_app hL
 have h2:tok s (p+n.data.toList.length)=symT (p+n.data.toList.length) 58:=tok_sym hd (by decide)
 refine⟨h1,?_,by rw[h2];rfl,expect_sym hd (by decide)⟩
 rw[h1]
 have htk:(wordT p n.data.toList).take s 1=tok s (p+n.data.toList.length):=by
  unfold Rd.take
  rw[if_neg (by simp[wordT]),if_neg (by simp[wordT]),adv_tok rfl rfl]
  rfl
 unfold Rd.name
 rw[htk]
 dsimp only
 rw[if_neg]
 ·rw[show(wordT p n.data.toList).t=n from Lib.mk_data n,hn]
  simp
theorem zip_pairwise:∀(ns:List ByteArray) (fs:List Val),ns.Pairwise ltN→(ns.zip fs).Pairwise (fun a b=>leN a.1 b.1=true)
 | [],_,_=>by simp
 | _ :: _,[],_=>by simp
 | n :: ns,d :: fs,h=>by
   obtain⟨h1,h2⟩:=List.pairwise_cons.1 h
   rw[List.zip_cons_cons,List.pairwise_cons]
   refine⟨?_,zip_pairwise ns fs h2⟩
   intro x hx
   have:=h1 x.1 (List.of_mem_zip hx).1
   unfold ltN at this
   unfold leN
   rw[this];rfl
theorem recV_zip {ns:List ByteArray} {fs:List Val} (hl:ns.length=fs.length) (hp:ns.Pairwise ltN):recV (ns.zip fs)=.mk 9 0 0 ⟨#[]⟩ [] ns fs:=by
 unfold recV
 rw[List.mergeSort_of_pairwise (zip_pairwise ns fs hp)]
 dsimp only
 rw[List.map_fst_zip (by omega),List.map_snd_zip (by omega)]
theorem record_ok {ns:List ByteArray} (h:recordE ns=0):(∀n∈ns,isNameB n=true)∧ns.Pairwise ltN:=by
 unfold recordE at h
 split at h
 ·cases h
 ·exact⟨(fieldsE_sorted ns none h).1,(fieldsE_sorted ns none h).2.1⟩
mutual
theorem rdV_txt (s:ByteArray):∀(d:Val) (f i:Nat) (post:List UInt8),Fine f d→s.data.toList.drop i=txt d++post→PostV post→rdV s f (tok s i)=(d,tok s (i+(txt d).length))
 | .mk k v sc t l ns fs,f,i,post,hf,hL,hp=>by
   have h1:=tok_fst hf hL hp
   have hfz:=hf
   obtain⟨⟨g,rfl⟩,hok,hus,hnl,hFl,hFf⟩:=hf
   obtain⟨hk1,hk2,hr⟩:=hok
   have hk1:1≤k:=hk1
   have hk2:k≤10:=hk2
   simp only[ruleE] at hr
   obtain⟨u1,u2,u3,u4,u5⟩:=uses_kids hus
   have hend:=drop_app hL
   obtain⟨pe,po,pp⟩:=tok_post hp hend
   rw[show g+1-1=g by omega] at hFl hFf
   have hns:fs=[]→ns=[]:=fun e=>by rw[e] at hnl;exact List.length_eq_zero_iff.1 hnl
   rw[h1]
   have:k=1∨k=2∨k=3∨k=4∨k=5∨k=6∨k=7∨k=8∨k=9∨k=10:=by omega
   rcases this with rfl | rfl | rfl | rfl | rfl | rfl | rfl | rfl | rfl | rfl
   ·obtain rfl:=u1 (by decide) (by decide)
    obtain rfl:=u2 (by decide)
    obtain rfl:=hns rfl
    obtain rfl:=u3 (by decide)
    obtain rfl:=u4 (by decide)
    simp at hr
    have hb:=between_zero hr
    have hvv:v=0∨v=1:=by omega
    rcases hvv with rfl | rfl
    ·have ha:(wordT i [102,97,108,115,101]).adv s=tok s (i+5):=adv_tok rfl rfl
     have e5:i+(txt (.mk 1 0 0 ⟨#[]⟩ [] [] [])).length=i+5:=rfl
     rw[e5] at pe pp ⊢
     show rdV s (g+1) (wordT i [102,97,108,115,101])=_
     unfold rdV
     rw[if_neg (by simp[wordT]),if_neg (by simp[wordT]),ha]
     dsimp only
     rw[if_neg (by simp[wordT]),if_neg (by simp[wordT]),if_neg (by simp[wordT]),if_neg (by simp[wordT]),if_neg (by simp[wordT]),if_neg (by rw[pe];simp),if_neg (by rw[pp];simp),if_neg (by simp[wordT]),if_pos (by simp[wordT])]
    ·have ha:(wordT i [116,114,117,101]).adv s=tok s (i+4):=adv_tok rfl rfl
     have e5:i+(txt (.mk 1 1 0 ⟨#[]⟩ [] [] [])).length=i+4:=rfl
     rw[e5] at pe pp ⊢
     show rdV s (g+1) (wordT i [116,114,117,101])=_
     unfold rdV
     rw[if_neg (by simp[wordT]),if_neg (by simp[wordT]),ha]
     dsimp only
     rw[if_neg (by simp[wordT]),if_neg (by simp[wordT]),if_neg (by simp[wordT]),if_neg (by simp[wordT]),if_neg (by simp[wordT]),if_neg (by rw[pe];simp),if_neg (by rw[pp];simp),if_pos (by simp[wordT])]
   ·obtain rfl:=u1 (by decide) (by decide)
    obtain rfl:=u2 (by decide)
    obtain rfl:=hns rfl
    obtain rfl:=u3 (by decide)
    obtain rfl:=u4 (by decide)
    have ha:(numT i (Lib.itoa v) v 0 (false,false)).adv s=tok s (i+(Lib.itoa v).length):=adv_tok rfl rfl
    show rdV s (g+1) (numT i (Lib.itoa v) v 0 (false,false))=_
    unfold rdV
    rw[if_neg (by simp[numT]),if_neg (by simp[numT]),ha]
    rfl
   ·obtain rfl:=u1 (by decide) (by decide)
    obtain rfl:=u2 (by decide)
    obtain rfl:=hns rfl
    obtain rfl:=u4 (by decide)
    have ha:(numT i (leafT 3 v sc []) v sc (true,decide (sc=0))).adv s=tok s (i+(leafT 3 v sc []).length):=adv_tok rfl rfl
    show rdV s (g+1) (numT i (leafT 3 v sc []) v sc (true,decide (sc=0)))=_
    unfold rdV
    rw[if_neg (by simp[numT]),if_neg (by simp[numT]),ha]
    rfl
   ·obtain rfl:=u1 (by decide) (by decide)
    obtain rfl:=u2 (by decide)
    obtain rfl:=hns rfl
    obtain rfl:=u3 (by decide)
    obtain rfl:=u5 (by decide)
    have ha:(strT i t.data.toList).adv s=tok s (i+(quoteL t.data.toList).length):=adv_tok rfl rfl
    show rdV s (g+1) (strT i t.data.toList)=_
    unfold rdV
    rw[if_neg (by simp[strT]),if_neg (by simp[strT]),ha]
    dsimp only
    rw[if_neg (by simp[strT]),if_pos (by simp[strT]),show(strT i t.data.toList).b=t from Lib.mk_data t]
    rfl
   ·obtain rfl:=u1 (by decide) (by decide)
    obtain rfl:=u2 (by decide)
    obtain rfl:=hns rfl
    obtain rfl:=u3 (by decide)
    obtain rfl:=u5 (by decide)
    have ha:(bytT i t.data.toList).adv s=tok s (i+(codeL t.data.toList).length):=adv_tok rfl rfl
    show rdV s (g+1) (bytT i t.data.toList)=_
    unfold rdV
    rw[if_neg (by simp[bytT]),if_neg (by simp[bytT]),ha]
    dsimp only
    rw[if_neg (by simp[bytT]),if_neg (by simp[bytT]),if_pos (by simp[bytT]),show(bytT i t.data.toList).b=t from Lib.mk_data t]
    rfl
   ·obtain rfl:=u1 (by decide) (by decide)
    obtain rfl:=u2 (by decide)
    obtain rfl:=hns rfl
    obtain rfl:=u3 (by decide)
    obtain rfl:=u4 (by decide)
    simp at hr
    have hb:=between_zero hr
    obtain⟨m,hm⟩:∃m,m=(v+719162).toNat:=⟨_,rfl⟩
    have htx:txt (.mk 6 v 0 ⟨#[]⟩ [] [] [])=[100,97,116,101]++(32 :: quoteL (dateB m)):=by rw[hm];rfl
    have hd4:s.data.toList.drop (i+4)=32 :: (quoteL (dateB m)++post):=drop_app (a:=[100,97,116,101]) (by rw[hL,htx];simp)
    have hd5:s.data.toList.drop (i+4+1)=quoteL (dateB m)++post:=drop_app (a:=[32]) (by rw[hd4];rfl)
    have hq:=tok_str hd5 (ascii_valid (ascii_date m))
    have ha:(wordT i [100,97,116,101]).adv s=strT (i+5) (dateB m):=by
     rw[adv_tok rfl rfl]
     show tok s (i+4)=_
     rw[tok_space hd4,hq]
    have ha2:(strT (i+5) (dateB m)).adv s=tok s (i+5+(quoteL (dateB m)).length):=adv_tok rfl rfl
    have htk:(strT (i+5) (dateB m)).take s 3=tok s (i+5+(quoteL (dateB m)).length):=by
     unfold Rd.take
     rw[if_neg (by simp[strT]),if_neg (by simp[strT]),ha2]
    have hc:calP (dateB m)=(v,0):=by rw[calP_date m (by omega)];congr 1;omega
    have he:i+(txt (.mk 6 v 0 ⟨#[]⟩ [] [] [])).length=i+5+(quoteL (dateB m)).length:=by rw[htx];simp;omega
    rw[he] at pe ⊢
    have hmo:(strT (i+5) (dateB m)).moment s calP=(v,tok s (i+5+(quoteL (dateB m)).length)):=by
     unfold Rd.moment
     rw[htk]
     dsimp only
     rw[if_neg (by rw[pe];simp),show(strT (i+5) (dateB m)).b.data.toList=dateB m from rfl,hc]
     dsimp only
     rw[if_neg (by simp)]
    show rdV s (g+1) (wordT i [100,97,116,101])=_
    unfold rdV
    rw[if_neg (by simp[wordT]),if_neg (by simp[wordT]),ha]
    dsimp only
    rw[if_neg (by simp[wordT]),if_neg (by simp[wordT]),if_neg (by simp[wordT]),if_neg (by simp[wordT]),if_neg (by simp[wordT]),if_neg (by simp[strT]),if_neg (by simp[Rd.is,strT]),if_neg (by simp[wordT]),if_neg (by simp[wordT]),if_pos (by simp[wordT])]
    rw[hmo]
   ·obtain rfl:=u1 (by decide) (by decide)
    obtain rfl:=u2 (by decide)
    obtain rfl:=hns rfl
    obtain rfl:=u3 (by decide)
    obtain rfl:=u4 (by decide)
    simp at hr
    have hb:=between_zero hr
    obtain⟨m,hm⟩:∃m,m=(v+62135596800000).toNat:=⟨_,rfl⟩
    have htx:txt (.mk 7 v 0 ⟨#[]⟩ [] [] [])=[116,105,109,101]++(32 :: quoteL (timeB m)):=by rw[hm];rfl
    have hd4:s.data.toList.drop (i+4)=32 :: (quoteL (timeB m)++post):=drop_app (a:=[116,105,109,101]) (by rw[hL,htx];simp)
    have hd5:s.data.toList.drop (i+4+1)=quoteL (timeB m)++post:=drop_app (a:=[32]) (by rw[hd4];rfl)
    have hq:=tok_str hd5 (ascii_valid (ascii_time m))
    have ha:(wordT i [116,105,109,101]).adv s=strT (i+5) (timeB m):=by
     rw[adv_tok rfl rfl]
     show tok s (i+4)=_
     rw[tok_space hd4,hq]
    have ha2:(strT (i+5) (timeB m)).adv s=tok s (i+5+(quoteL (timeB m)).length):=adv_tok rfl rfl
    have htk:(strT (i+5) (timeB m)).take s 3=tok s (i+5+(quoteL (timeB m)).length):=by
     unfold Rd.take
     rw[if_neg (by simp[strT]),if_neg (by simp[strT]),ha2]
    have hc:calT (timeB m)=(v,0):=by rw[calT_time m (by omega)];congr 1;omega
    have he:i+(txt (.mk 7 v 0 ⟨#[]⟩ [] [] [])).length=i+5+(quoteL (timeB m)).length:=by rw[htx];simp;omega
    rw[he] at pe ⊢
    have hmo:(strT (i+5) (timeB m)).moment s calT=(v,tok s (i+5+(quoteL (timeB m)).length)):=by
     unfold Rd.moment
     rw[htk]
     dsimp only
     rw[if_neg (by rw[pe];simp),show(strT (i+5) (timeB m)).b.data.toList=timeB m from rfl,hc]
     dsimp only
     rw[if_neg (by simp)]
    show rdV s (g+1) (wordT i [116,105,109,101])=_
    unfold rdV
    rw[if_neg (by simp[wordT]),if_neg (by simp[wordT]),ha]
    dsimp only
    rw[if_neg (by simp[wordT]),if_neg (by simp[wordT]),if_neg (by simp[wordT]),if_neg (by simp[wordT]),if_neg (by simp[wordT]),if_neg (by simp[strT]),if_neg (by simp[Rd.is,strT]),if_neg (by simp[wordT]),if_neg (by simp[wordT]),if_neg (by simp[wordT]),if_pos (by simp[wordT])]
    rw[hmo]
   ·obtain rfl:=u2 (by decide)
    obtain rfl:=hns rfl
    obtain rfl:=u3 (by decide)
    obtain rfl:=u4 (by decide)
    obtain rfl:=u5 (by decide)
    have htx:txt (.mk 8 0 0 ⟨#[]⟩ l [] [])=91 :: (Lib.join (txts l) [44,32]++[93]):=rfl
    have hd1:s.data.toList.drop (i+1)=Lib.join (txts l) [44,32]++93 :: post:=drop_app (a:=[91]) (by rw[hL,htx];simp)
    have ha:(symT i 91).adv s=tok s (i+1):=adv_tok rfl rfl
    have hq:=listF_txt s g l ((tok s (i+1)).mu s+1) (i+1) post hFl hd1 rfl
    have hx:=expect_sym (drop_app hd1) (by decide)
    show rdV s (g+1) (symT i 91)=_
    unfold rdV
    rw[if_neg (by simp[symT]),if_neg (by simp[symT]),ha]
    dsimp only
    rw[if_neg (by simp[symT]),if_neg (by simp[symT]),if_neg (by simp[symT]),if_pos (by simp[symT]),hq]
    dsimp only
    rw[hx,htx]
    simp only[List.length_cons,List.length_append,List.length_nil]
    congr 2;omega
   ·obtain rfl:=u1 (by decide) (by decide)
    obtain rfl:=u3 (by decide)
    obtain rfl:=u4 (by decide)
    obtain rfl:=u5 (by decide)
    simp at hr
    obtain⟨hnm,hpw⟩:=record_ok hr
    have htx:txt (.mk 9 0 0 ⟨#[]⟩ [] ns fs)=123 :: (Lib.join (fldT ns (txts fs)) [44,32]++[125]):=rfl
    have hd1:s.data.toList.drop (i+1)=Lib.join (fldT ns (txts fs)) [44,32]++125 :: post:=drop_app (a:=[123]) (by rw[hL,htx];simp)
    have ha:(symT i 123).adv s=tok s (i+1):=adv_tok rfl rfl
    have hq:=recF_txt s g fs ns ((tok s (i+1)).mu s+1) (i+1) post hFf hnl hnm hpw hd1 rfl
    have hx:=expect_sym (drop_app hd1) (by decide)
    show rdV s (g+1) (symT i 123)=_
    unfold rdV
    rw[if_neg (by simp[symT]),if_neg (by simp[symT]),ha]
    dsimp only
    rw[if_neg (by simp[symT]),if_neg (by simp[symT]),if_neg (by simp[symT]),if_neg (by simp[symT]),if_pos (by simp[symT]),hq]
    dsimp only
    rw[hx,recV_zip hnl hpw,htx]
    simp only[List.length_cons,List.length_append,List.length_nil]
    congr 2;omega
   ·obtain rfl:=u2 (by decide)
    obtain rfl:=hns rfl
    obtain rfl:=u3 (by decide)
    obtain rfl:=u5 (by decide)
    simp at hr
    obtain⟨hn,hl1⟩:=variant_name hr
    obtain⟨d,hd⟩:∃d,l=[d]:=List.length_eq_one_iff.1 hl1
    have hsz:SizeOf.sizeOf d<SizeOf.sizeOf l:=by rw[hd];simp;omega
    rw[hd] at hFl hL ⊢
    have htx:txt (.mk 10 0 0 t [d] [] [])=t.data.toList++40 :: (txt d++[41]):=rfl
    have hd0:s.data.toList.drop i=t.data.toList++40 :: (txt d++41 :: post):=by rw[hL,htx];simp
    have hd1:=drop_app hd0
    have hd2:s.data.toList.drop (i+t.data.toList.length+1)=txt d++41 :: post:=drop_app (a:=[40]) (by rw[hd1];rfl)
    have hp2:PostV (41 :: post):=fun c hc=>by simp at hc;subst hc;simp
    have hq:=rdV_txt s d g (i+t.data.toList.length+1) (41 :: post) hFl.1 hd2 hp2
    have hx:=expect_sym (drop_app hd2) (by decide)
    have hs1:tok s (i+t.data.toList.length)=symT (i+t.data.toList.length) 40:=tok_sym hd1 (by decide)
    have ha:(wordT i t.data.toList).adv s=symT (i+t.data.toList.length) 40:=by rw[adv_tok rfl rfl];exact hs1
    have ha2:(symT (i+t.data.toList.length) 40).adv s=tok s (i+t.data.toList.length+1):=adv_tok rfl rfl
    have ht:(wordT i t.data.toList).t=t:=Lib.mk_data t
    have hnb:∀x:UInt8,nmC x.toNat=false→t≠⟨#[x]⟩:=by
     intro x hx e
     rw[e] at hn
     simp only[isNameB,isNameL,List.all_cons,hx,Bool.false_and,Bool.and_false] at hn
     cases hn
    show rdV s (g+1) (wordT i t.data.toList)=_
    unfold rdV
    rw[if_neg (by simp[wordT]),if_neg (by simp[wordT]),ha]
    dsimp only
    rw[ht,if_neg (by simp[wordT]),if_neg (by simp[wordT]),if_neg (by simp[wordT]),if_neg (hnb 91 (by decide)),if_neg (hnb 123 (by decide)),if_neg (by simp[symT]),if_pos (by simp[Rd.is,symT]),if_neg (by rw[hn];simp),ha2,hq]
    dsimp only
    rw[hx,htx]
    simp only[List.length_cons,List.length_append,List.length_nil]
    congr 2;omega
termination_by d=>SizeOf.sizeOf d
decreasing_by all_goals (simp_wf;try omega)
theorem listF_txt (s:ByteArray) (g:Nat):∀(l:List Val) (F j:Nat) (post:List UInt8),FineL g l→s.data.toList.drop j=Lib.join (txts l) [44,32]++93 :: post→F=(tok s j).mu s+1→listGo s (rdV s g) F true (tok s j) []=(l,tok s (j+(Lib.join (txts l) [44,32]).length))
 | [],F,j,post,_,hL,hF=>by
   rw[txts,Lib.join_nil,List.nil_append] at hL
   rw[hF,listGo,tok_sym hL (by decide),if_pos (.inr (by simp[Rd.is,symT]))]
   rw[txts,Lib.join_nil,←tok_sym hL (by decide)]
   rfl
 | d :: l,F,j,post,hf,hL,hF=>by
   rw[txts,Lib.join_cons,List.append_assoc] at hL
   have hp:=post_tail (txts l) 93 (.inl rfl) post
   have hok:itemOK d:=by obtain⟨k,v,sc,t,l,ns,fs⟩:=d;exact hf.1.2.1
   have h1:=tok_fst hf.1 hL hp
   obtain⟨f1,f2,f3,_⟩:=fstT_facts j hok
   have hnx:=fst_nx j hok
   have hr:=rdV_txt s d g j _ hf.1 hL hp
   have hd:=drop_app hL
   have hlen:l.length<(tok s j).mu s:=by
    have e1:=congrArg List.length hd
    have e2:=joinTail_len (txts l)
    rw[List.length_drop,List.length_append,List.length_cons] at e1
    rw[txts_map,List.length_map] at e2
    rw[txts_map] at e1
    have e3:s.data.toList.length=s.size:=blen s
    rw[h1]
    unfold Rd.mu
    rw[if_neg (by rw[f1];simp)]
    omega
   have hg:=listGo_txt s g l ((tok s j).mu s) (j+(txt d).length) post [d] hf.2 hd hlen
   rw[hF,listGo,if_neg (by rw[h1,f1,f3];simp)]
   dsimp only
   rw[if_pos rfl,hr]
   dsimp only
   rw[List.nil_append,hg,txts,Lib.join_cons,List.length_append]
   simp only[List.singleton_append]
   congr 2;omega
termination_by l=>SizeOf.sizeOf l
decreasing_by all_goals (simp_wf;try omega)
theorem listGo_txt (s:ByteArray) (g:Nat):∀(l:List Val) (F j:Nat) (post:List UInt8) (acc:List Val),FineL g l→s.data.toList.drop j=Lib.joinTail [44,32] (txts l)++93 :: post→l.length<F→listGo s (rdV s g) F false (tok s j) acc=(acc++l,tok s (j+(Lib.joinTail [44,32] (txts l)).length))
 | [],F+1,j,post,acc,_,hL,_=>by
   have hL':s.data.toList.drop j=93 :: post:=hL
   rw[listGo,tok_sym hL' (by decide),if_pos (.inr (by simp[Rd.is,symT]))]
   rw[txts,←tok_sym hL' (by decide),List.append_nil]
   rfl
 | d :: l,F+1,j,post,acc,hf,hL,hF=>by
   rw[txts,joinTail_cons] at hL
   have hL0:s.data.toList.drop j=44 :: (32 :: (txt d++(Lib.joinTail [44,32] (txts l)++93 :: post))):=by rw[hL];simp
   have hL1:s.data.toList.drop (j+1)=32 :: (txt d++(Lib.joinTail [44,32] (txts l)++93 :: post)):=drop_app (a:=[44]) (by rw[hL0];rfl)
   have hL2:s.data.toList.drop (j+1+1)=txt d++(Lib.joinTail [44,32] (txts l)++93 :: post):=drop_app (a:=[32]) (by rw[hL1];rfl)
   have hp:=post_tail (txts l) 93 (.inl rfl) post
   have hx:=expect_sym hL0 (by decide)
   have hr:=rdV_txt s d g (j+1+1) _ hf.1 hL2 hp
   have hg:=listGo_txt s g l F (j+1+1+(txt d).length) post (acc++[d]) hf.2 (drop_app hL2) (by simp at hF;omega)
   have h0:¬ ((tok s j).e≠0∨(tok s j).is ⟨#[93]⟩=true):=by rw[tok_sym hL0 (by decide)];simp[Rd.is,symT]
   rw[listGo,if_neg h0]
   dsimp only
   rw[if_neg (by decide),hx,tok_space hL1,hr]
   dsimp only
   rw[hg,txts,joinTail_cons]
   simp only[List.append_assoc,List.singleton_append,List.length_cons,List.length_append]
   congr 2;omega
termination_by l=>SizeOf.sizeOf l
decreasing_by all_goals (simp_wf;try omega)
theorem recF_txt (s:ByteArray) (g:Nat):∀(fs:List Val) (ns:List ByteArray) (F j:Nat) (post:List UInt8),FineL g fs→ns.length=fs.length→(∀n∈ns,isNameB n=true)→ns.Pairwise ltN→s.data.toList.drop j=Lib.join (fldT ns (txts fs)) [44,32]++125 :: post→F=(tok s j).mu s+1→recGo s (rdV s g) F true (tok s j) []=(ns.zip fs,tok s (j+(Lib.join (fldT ns (txts fs)) [44,32]).length))
 | [],ns,F,j,post,_,hl,_,_,hL,hF=>by
   obtain rfl:ns=[]:=List.length_eq_zero_iff.1 hl
   have hL':s.data.toList.drop j=125 :: post:=hL
   rw[hF,recGo,tok_sym hL' (by decide),if_pos (.inr (by simp[Rd.is,symT]))]
   rw[←tok_sym hL' (by decide)]
   rfl
 | d :: fs,[],F,j,post,_,hl,_,_,_,_=>by simp at hl
 | d :: fs,n :: ns,F,j,post,hf,hl,hn,hpw,hL,hF=>by
   obtain⟨hp1,hp2⟩:=List.pairwise_cons.1 hpw
   rw[txts,fldT,Lib.join_cons] at hL
   have hL0:s.data.toList.drop j=n.data.toList++58 :: (32 :: (txt d++(Lib.joinTail [44,32] (fldT ns (txts fs))++125 :: post))):=by rw[hL];simp
   have hL1:=drop_app hL0
   have hL2:s.data.toList.drop (j+n.data.toList.length+1)=32 :: (txt d++(Lib.joinTail [44,32] (fldT ns (txts fs))++125 :: post)):=drop_app (a:=[58]) (by rw[hL1];rfl)
   have hL3:s.data.toList.drop (j+n.data.toList.length+1+1)=txt d++(Lib.joinTail [44,32] (fldT ns (txts fs))++125 :: post):=drop_app (a:=[32]) (by rw[hL2];rfl)
   obtain⟨t1,t2,t3,t4⟩:=name_tok hL0 (hn n (List.mem_cons_self ..))
   have hp:=post_tail (fldT ns (txts fs)) 125 (.inr rfl) post
   have hr:=rdV_txt s d g (j+n.data.toList.length+1+1) _ hf.1 hL3 hp
   have hd:=drop_app hL3
   have hnb:=hn n (List.mem_cons_self ..)
   have hne:n≠⟨#[125]⟩:=by
    intro e;rw[e] at hnb;exact absurd hnb (by decide)
   have hlen:fs.length<(tok s j).mu s:=by
    have e1:=congrArg List.length hd
    have e2:=joinTail_len (fldT ns (txts fs))
    have e4:∀(ns:List ByteArray) (fs:List Val),ns.length=fs.length→(fldT ns (txts fs)).length=fs.length:=by
     intro ns fs
     induction fs generalizing ns with
     | nil=>intro h;rw[List.length_eq_zero_iff.1 h];rfl
     | cons d fs ih =>
       intro h
       cases ns with
       | nil=>simp at h
       | cons n ns=>rw[txts,fldT,List.length_cons,List.length_cons,ih ns (by simpa using h)]
    rw[e4 ns fs (by simpa using hl)] at e2
    rw[List.length_drop,List.length_append,List.length_cons] at e1
    have e3:s.data.toList.length=s.size:=blen s
    rw[t1]
    unfold Rd.mu
    rw[if_neg (by simp[wordT])]
    simp only[wordT]
    omega
   have hg:=recGo_txt s g fs ns ((tok s j).mu s) (j+n.data.toList.length+1+1+(txt d).length) post [(n,d)] hf.2 (by simpa using hl) (fun m hm=>hn m (List.mem_cons_of_mem _ hm)) hp2 (by intro a ha m hm;simp at ha;subst ha;exact hp1 m hm) hd hlen
   have h0:¬ ((tok s j).e≠0∨(tok s j).is ⟨#[125]⟩=true):=by
    rw[t1]
    have:(wordT j n.data.toList).t=n:=Lib.mk_data n
    simp only[Rd.is,this]
    simp[wordT,hne]
   have hk:(tok s j).e=0∧(tok s j).k=1:=by rw[t1];exact⟨rfl,rfl⟩
   have ht:(tok s j).t=n:=by rw[t1];exact Lib.mk_data n
   rw[hF,recGo,if_neg h0]
   dsimp only
   rw[if_pos rfl,t2,if_pos hk,ht,if_neg (by simp),t4,tok_space hL2,hr]
   dsimp only
   rw[List.nil_append,hg,txts,fldT,Lib.join_cons]
   simp only[List.append_assoc,List.singleton_append,List.length_cons,List.length_append,List.zip_cons_cons]
   congr 2;omega
termination_by fs=>SizeOf.sizeOf fs
decreasing_by all_goals (simp_wf;try omega)
theorem recGo_txt (s:ByteArray) (g:Nat):∀(fs:List Val) (ns:List ByteArray) (F j:Nat) (post:List UInt8) (acc:List (ByteArray × Val)),FineL g fs→ns.length=fs.length→(∀n∈ns,isNameB n=true)→ns.Pairwise ltN→(∀a∈acc,∀n∈ns,ltN a.1 n)→s.data.toList.drop j=Lib.joinTail [44,32] (fldT ns (txts fs))++125 :: post→fs.length<F→recGo s (rdV s g) F false (tok s j) acc=(acc++ns.zip fs,tok s (j+(Lib.joinTail [44,32] (fldT ns (txts fs))).length))
 | [],ns,F+1,j,post,acc,_,hl,_,_,_,hL,hF=>by
   obtain rfl:ns=[]:=List.length_eq_zero_iff.1 hl
   have hL':s.data.toList.drop j=125 :: post:=hL
   rw[recGo,tok_sym hL' (by decide),if_pos (.inr (by simp[Rd.is,symT]))]
   rw[←tok_sym hL' (by decide),List.zip_nil_right,List.append_nil]
   rfl
 | d :: fs,[],F+1,j,post,acc,_,hl,_,_,_,_,_=>by simp at hl
 | d :: fs,n :: ns,F+1,j,post,acc,hf,hl,hn,hpw,hac,hL,hF=>by
   obtain⟨hp1,hp2⟩:=List.pairwise_cons.1 hpw
   rw[txts,fldT,joinTail_cons] at hL
   have hM:s.data.toList.drop j=44 :: (32 :: (n.data.toList++58 :: (32 :: (txt d++(Lib.joinTail [44,32] (fldT ns (txts fs))++125 :: post))))):=by rw[hL];simp
   have hM1:s.data.toList.drop (j+1)=32 :: (n.data.toList++58 :: (32 :: (txt d++(Lib.joinTail [44,32] (fldT ns (txts fs))++125 :: post)))):=drop_app (a:=[44]) (by rw[hM];rfl)
   have hL0:s.data.toList.drop (j+1+1)=n.data.toList++58 :: (32 :: (txt d++(Lib.joinTail [44,32] (fldT ns (txts fs))++125 :: post))):=drop_app (a:=[32]) (by rw[hM1];rfl)
   have hL1:=drop_app hL0
   have hL2:s.data.toList.drop (j+1+1+n.data.toList.length+1)=32 :: (txt d++(Lib.joinTail [44,32] (fldT ns (txts fs))++125 :: post)):=drop_app (a:=[58]) (by rw[hL1];rfl)
   have hL3:s.data.toList.drop (j+1+1+n.data.toList.length+1+1)=txt d++(Lib.joinTail [44,32] (fldT ns (txts fs))++125 :: post):=drop_app (a:=[32]) (by rw[hL2];rfl)
   obtain⟨t1,t2,t3,t4⟩:=name_tok hL0 (hn n (List.mem_cons_self ..))
   have hp:=post_tail (fldT ns (txts fs)) 125 (.inr rfl) post
   have hr:=rdV_txt s d g (j+1+1+n.data.toList.length+1+1) _ hf.1 hL3 hp
   have hd:=drop_app hL3
   have hx:=expect_sym hM (by decide)
   have hdup:(acc.any (fun x=>decide (x.1=n)))=false:=by
    rw[List.any_eq_false]
    intro x hxm
    have h1:=hac x hxm n (List.mem_cons_self ..)
    rw[decide_eq_true_eq]
    intro e
    rw[e] at h1
    unfold ltN at h1
    rw[cmpB_refl] at h1
    cases h1
   have hg:=recGo_txt s g fs ns F (j+1+1+n.data.toList.length+1+1+(txt d).length) post (acc++[(n,d)]) hf.2 (by simpa using hl) (fun m hm=>hn m (List.mem_cons_of_mem _ hm)) hp2
    (by
      intro a ha m hm
      rcases List.mem_append.1 ha with h | h
      ·exact hac a h m (List.mem_cons_of_mem _ hm)
      ·simp at h;subst h;exact hp1 m hm) hd (by simp at hF;omega)
   have h0:¬ ((tok s j).e≠0∨(tok s j).is ⟨#[125]⟩=true):=by rw[tok_sym hM (by decide)];simp[Rd.is,symT]
   have hk:(tok s (j+1+1)).e=0∧(tok s (j+1+1)).k=1:=by rw[t1];exact⟨rfl,rfl⟩
   have ht:(tok s (j+1+1)).t=n:=by rw[t1];exact Lib.mk_data n
   rw[recGo,if_neg h0]
   dsimp only
   simp only[Bool.false_eq_true,if_false]
   rw[hx,tok_space hM1,t2,if_pos hk,ht,if_neg (by rw[hdup];simp),t4,tok_space hL2,hr]
   dsimp only
   rw[hg,txts,fldT,joinTail_cons]
   simp only[List.append_assoc,List.singleton_append,List.length_cons,List.length_append,List.zip_cons_cons]
   congr 2;omega
termination_by fs=>SizeOf.sizeOf fs
decreasing_by all_goals (simp_wf;try omega)
end
theorem parF_txt {s:ByteArray} {d:Val} (h:s.data.toList=txt d) (hs:s.size≤65536) (hd:(chkVal d=0∧Named d)∨d=nulV):parF s=(d,0,0):=by
 have h0:rdStart s=tok s 0:=by
  unfold rdStart
  rw[if_neg (by omega)]
  rfl
 rcases hd with ⟨hc,hn⟩ | rfl
 ·have hF:Fine 8 d:=fine_of 1 (Nat.le_refl _) d (chkGo_all _ _ hc) hn
  have hp:PostV []:=fun c hc=>by cases hc
  have hr:=rdV_txt s d 8 0 [] hF (by rw[List.drop_zero,h,List.append_nil]) hp
  have hnl:isNullV d=false:=by
   have hk:itemOK d:=by obtain⟨k,v,sc,t,l,ns,fs⟩:=d;exact hF.2.1
   obtain⟨k,v,sc,t,l,ns,fs⟩:=d
   have hk1:1≤k:=hk.1
   simp only[isNullV,isNullB,Bool.and_eq_false_imp,beq_iff_eq]
   intro e;omega
  have he:tok s (0+(txt d).length)=endT (0+(txt d).length):=tok_end (by rw[h,Nat.zero_add,List.drop_length])
  have hq:rdEnd (d,endT (0+(txt d).length))=(d,endT (0+(txt d).length)):=by
   unfold rdEnd
   rw[if_neg (by simp[endT])]
  unfold parF
  rw[h0,hr,he,hq]
  dsimp only
  have he2:(if (endT (0+(txt d).length)).e=0∧isNullV d=false then chkVal d else (endT (0+(txt d).length)).e)=0:=by rw[if_pos ⟨rfl,hnl⟩];exact hc
  rw[he2,if_neg (by simp)]
 ·have hL:s.data.toList.drop 0=[110,117,108,108]++[]:=by rw[List.drop_zero,h];rfl
  have hp:PostV []:=fun c hc=>by cases hc
  have hw:tok s 0=wordT 0 [110,117,108,108]:=tok_word (c:=110) rfl hL (by decide) (by decide) hp.w (fun e=>absurd e (by decide))
  have ha:(wordT 0 [110,117,108,108]).adv s=endT 4:=by
   rw[adv_tok rfl rfl]
   exact tok_end (drop_app (a:=[110,117,108,108]) hL)
  have hr:rdV s 8 (wordT 0 [110,117,108,108])=(nulV,endT 4):=by
   unfold rdV
   rw[if_neg (by simp[wordT]),if_neg (by simp[wordT]),ha]
   dsimp only
   rw[if_neg (by simp[wordT]),if_neg (by simp[wordT]),if_neg (by simp[wordT]),if_neg (by simp[wordT]),if_neg (by simp[wordT]),if_neg (by simp[endT]),if_neg (by simp[Rd.is,endT]),if_neg (by simp[wordT]),if_neg (by simp[wordT]),if_neg (by simp[wordT]),if_neg (by simp[wordT]),if_pos (by simp[wordT])]
  have hz:isNullV nulV=true:=by simp[isNullV,nulV,isNullB]
  have hq:rdEnd (nulV,endT 4)=(nulV,endT 4):=by
   unfold rdEnd
   rw[if_neg (by simp[endT])]
  unfold parF
  rw[h0,hw,hr,hq]
  dsimp only
  have he2:(if (endT 4).e=0∧isNullV nulV=false then chkVal nulV else (endT 4).e)=0:=by rw[if_neg (by rw[hz];simp)];rfl
  rw[he2,if_neg (by simp)]
end
end Go.Proofs.YtaofolgaiipcjaaGreatDoor
