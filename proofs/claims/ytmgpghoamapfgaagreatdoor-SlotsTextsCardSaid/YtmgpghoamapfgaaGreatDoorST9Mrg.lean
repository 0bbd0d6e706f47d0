/- A part. -/
import Derived.Test.YtmgpghoamapfgaaGreatDoorST6Mrg
import Derived.Test.YtmgpghoamapfgaaGreatDoorST8Mrg
import Derived.Tactics2
namespace Go.Proofs.YtmgpghoamapfgaaGreatDoor
set_option linter.unusedVariables false
set_option maxRecDepth 100000
set_option maxHeartbeats 16000000
set_option linter.unusedSimpArgs false
section
open Go Go.RowKit Go.Shelf
/-! ### names in order -/
theorem aDs:∀(x y:List UInt8),Op.bytesLess x y=true ↔ Lib.compareBytes x y = -1
 | [],[]=>by simp[Op.bytesLess,Lib.compareBytes]
 | [],_ :: _=>by simp[Op.bytesLess,Lib.compareBytes]
 | _ :: _,[]=>by simp[Op.bytesLess,Lib.compareBytes]
 | a :: x,b :: y=>by
   have ih:=aDs x y;rw[Op.bytesLess,Lib.compareBytes];by_cases h1:a<b
   ·simp[h1]
   ·by_cases h2:b<a
    ·have hne:(a==b)=false:=by
      rw[beq_eq_false_iff_ne];intro e;rw[e] at h2;exact UInt8.lt_irrefl _ h2
     simp[h1,h2,hne]
    ·have e:a=b:=by
      have:¬ a.toNat<b.toNat:=fun h=>h1 (UInt8.lt_iff_toNat_lt.2 h);have:¬ b.toNat<a.toNat:=fun h=>h2 (UInt8.lt_iff_toNat_lt.2 h);exact UInt8.toNat_inj.1 ga
     simp[h1,h2,e,UInt8.lt_irrefl,ih]
def ltN (a b:ByteArray):Prop:=Lib.compareBytes a.data.toList b.data.toList = -1
theorem aJu {a b c:ByteArray} (h1:ltN a b) (h2:ltN b c):ltN a c:=by
 have t:=nM a.data.toList b.data.toList c.data.toList;have g:=jI a.data.toList c.data.toList;unfold ltN Tri Sg at *;omega
theorem kC:∀(ns:List ByteArray) (p:Option ByteArray),eN p ns=0->(∀n∈ns,aL n=true)/\ns.Pairwise ltN/\∀q,p=some q->∀n∈ns,ltN q n
 | [],_,_=>⟨fun _ h=>gp,List.Pairwise.nil,fun _ _ _ h=>gp⟩
 | m :: ns,p,h=>by
   rw[dI] at h;by_cases hm:aL m=false
   ·rw[if_pos hm] at h;cases h
   rw[if_neg hm] at h;have hm':aL m=true:=by simpa using hm
   have key:eN (some m) ns=0/\∀q,p=some q->ltN q m:=by
    cases p with
    | none=>exact⟨h,fun q e=>by cases e⟩
    | some q =>
      dsimp only at h;split at h
      ·cases h
      rename_i h1;split at h
      ·cases h
      rename_i h2;refine⟨h,fun q' e=>?_⟩;cases e
      have h3:=jI m.data.toList q.data.toList;have h4:=iE m.data.toList q.data.toList;rw[ByteArray.toList_eq,ByteArray.toList_eq,aDs] at h2;have h5:Lib.compareBytes m.data.toList q.data.toList≠0:=by
       intro e;refine h1 ?_;rw[ByteArray.toList_eq,ByteArray.toList_eq,rU e];simp
      unfold ltN Sg at *;omega
   obtain⟨h1,h2,h3⟩:=kC ns _ key.1;have hall:=h3 m rfl;refine⟨?_,List.pairwise_cons.2 ⟨hall,h2⟩,?_⟩
   ·intro n hn;rcases List.mem_cons.1 hn with rfl | hn
    ·exact hm'
    ·exact h1 n hn
   ·intro q e n hn;rcases List.mem_cons.1 hn with rfl | hn
    ·exact key.2 q e
    ·exact aJu (key.2 q e) (hall n hn)
/-! ### what may follow a value -/
def PostV (post:List UInt8):Prop:=∀c,post.head?=some c->c=44\/c=93\/c=125\/c=41
theorem PostV.n {post:List UInt8} (h:PostV post):aIt post:=fun c hc=>by
 rcases h c hc with rfl | rfl | rfl | rfl<;>decide
theorem PostV.w {post:List UInt8} (h:PostV post):∀c,post.head?=some c->lN c=false:=fun c hc=>by
 rcases h c hc with rfl | rfl | rfl | rfl<;>decide
theorem aLl {s:ByteArray} {j:Nat} {post:List UInt8} (h:PostV post) (hL:s.data.toList.drop j=post):(tok s j).e=0/\(tok s j).o=0/\(tok s j).is ⟨#[40]⟩=false:=by
 cases post with
 | nil=>rw[aAk hL];exact⟨rfl,rfl,rfl⟩
 | cons c r =>
   have hc:=h c rfl;have hs:symL.contains c=true:=by rcases hc with rfl | rfl | rfl | rfl<;>decide
   rw[fG hL hs];refine⟨rfl,rfl,?_⟩;rcases hc with rfl | rfl | rfl | rfl<;>rfl
/-! ### valid values -/
mutual
def Fine:Nat->Val->Prop
 | f,.mk k i s t l ns fs=>(∃g,f=g+1)/\eS (.mk k i s t l ns fs)/\aCr (.mk k i s t l ns fs)=true/\ns.length=fs.length/\aIu (f-1) l/\aIu (f-1) fs
def aIu:Nat->List Val->Prop
 | _,[]=>True
 | f,d :: l=>Fine f d/\aIu f l
end
mutual
def mO:Val->Prop
 | .mk k i s t l ns fs=>ns.length=fs.length/\NamedL l/\NamedL fs
def NamedL:List Val->Prop
 | []=>True
 | d :: l=>mO d/\NamedL l
end
mutual
theorem IsVal.named {S:Nat->Prop} {w:World}:∀{c:VC} {d:Val},IsVal S w c d->mO d
 | c,.mk k i s t l ns fs,h=>by
   obtain⟨⟨_,_,_,_,_,_,_,h1⟩,h2,h3⟩:=h;refine⟨h1,?_,?_⟩
   ·rcases h2 with h2 | ⟨b,o,_,_,hv⟩
    ·rw[h2];trivial
    ·exact IsVals.named hv
   ·rcases h3 with h3 | ⟨b,o,_,_,hv⟩
    ·rw[h3];trivial
    ·exact IsFlds.named hv
theorem IsVals.named {S:Nat->Prop} {w:World} {b:Nat}:∀{o:Nat} {l:List Val},IsVals S w b o l->NamedL l
 | _,[],_=>trivial
 | o,d :: l,⟨⟨c,_,hv⟩,ht⟩=>⟨IsVal.named hv,IsVals.named ht⟩
theorem IsFlds.named {S:Nat->Prop} {w:World} {b:Nat}:∀{o:Nat} {ns:List ByteArray} {l:List Val},IsFlds S w b o ns l->NamedL l
 | _,_,[],_=>trivial
 | o,ns,d :: l,⟨⟨_,c,_,hv⟩,ht⟩=>⟨IsVal.named hv,IsFlds.named ht⟩
end
def aF0 (x:Int × Val):Prop:=x.1<=8/\eS x.2/\aCr x.2=true
theorem aF1 {p:Nat} {x:Int × Val} (h:cX p x=0):aF0 x:=by
 refine⟨?_,wK h,?_⟩
 ·unfold cX at h;split at h
  ·cases h
  split at h
  ·cases h
  omega
 ·unfold cX at h;split at h
  ·cases h
  split at h
  ·cases h
  split at h
  ·cases h
  split at h
  ·cases h
  split at h
  ·cases h
  rename_i hu
  simpa using hu
theorem aA8:∀(xs:List (Int × Val)) (p:Nat),eF p xs=0->∀x∈xs,aF0 x
 | y :: ys,p,h,x,hx=>by
   simp only[eF] at h;by_cases h1:cX (p+1) y≠0
   ·rw[if_pos h1] at h;exact absurd h h1
   ·rw[if_neg h1] at h;rcases List.mem_cons.1 hx with rfl | hx
    ·exact aF1 (Decidable.not_not.1 h1)
    ·exact aA8 ys (p+1) h x hx
theorem xZ {k i s:Int} {t:ByteArray} {l:List Val} {ns:List ByteArray} {fs:List Val} (h:aCr (.mk k i s t l ns fs)=true):(k≠8->k≠10->l=[])/\(k≠9->fs=[])/\(k≠3->s=0)/\(¬ (k=4\/k=5\/k=10)->t=⟨#[]⟩)/\(¬ (k=1\/k=2\/k=3\/k=6\/k=7)->i=0):=by
 have ht:t.toList.isEmpty=true->t=⟨#[]⟩:=by
  intro e;rw[ByteArray.toList_eq,List.isEmpty_iff] at e;exact ByteArray.ext (Array.ext' e)
 simp only[aCr,tM,numK,aLo,aMm,Bool.and_eq_true,Bool.or_eq_true,beq_iff_eq] at h;obtain⟨h1,h2,h3,h4,h5⟩:=h;refine⟨fun a b=>?_,fun a=>?_,fun a=>?_,fun a=>?_,fun a=>?_⟩
 ·rcases h4 with h4 | h4
  ·omega
  ·exact List.length_eq_zero_iff.1 ga
 ·rcases h5 with h5 | h5
  ·exact absurd h5 a
  ·exact List.length_eq_zero_iff.1 ga
 ·rcases h2 with h2 | h2
  ·exact absurd h2 a
  ·exact h2
 ·rcases h3 with h3 | h3
  ·omega
  ·exact ht h3
 ·rcases h1 with h1 | h1
  ·omega
  ·exact h1
mutual
theorem fine_of (lvl:Nat) (h1:1<=lvl):∀d:Val,(∀x∈iX lvl d,aF0 x)->mO d->Fine (9-lvl) d
 | .mk k i s t l ns fs,h,hn=>by
   have h0:=h _ (by rw[iX];exact List.mem_cons_self ..);obtain⟨a1,a2,a3⟩:=h0;dsimp only at a1;have hl:lvl<=8:=by omega
   have hw:wrap64 ((lvl:Int)+1)=((lvl+1:Nat):Int):=by
    rw[show((lvl+1:Nat):Int)=(lvl:Int)+1 by omega];exact IntWalk.wrap64_in ((lvl:Int)+1) ⟨by omega,by omega⟩
   obtain⟨u1,u2,_⟩:=xZ a3;have hk:∀x∈bQ ((lvl+1:Nat):Int) (fA (.mk k i s t l ns fs)),aF0 x:=fun x hx=>h x (by rw[kM,hw];exact List.mem_cons_of_mem _ hx);refine⟨⟨8-lvl,by omega⟩,a2,a3,hn.1,?_,?_⟩
   ·rw[show 9-lvl-1=9-(lvl+1) by omega];by_cases hk8:k=8\/k=10
    ·rw[fA,if_pos hk8] at hk;exact vP (lvl+1) ga l hk hn.2.1
    ·rw[u1 (fun e=>hk8 (.inl e)) (fun e=>hk8 (.inr e))];trivial
   ·rw[show 9-lvl-1=9-(lvl+1) by omega];by_cases hk9:k=9
    ·rw[fA,if_neg ga,if_pos hk9] at hk;exact vP (lvl+1) ga fs hk hn.2.2
    ·rw[u2 hk9];trivial
theorem vP (lvl:Nat) (h1:1<=lvl):∀l:List Val,(∀x∈bQ lvl l,aF0 x)->NamedL l->aIu (9-lvl) l
 | [],_,_=>trivial
 | d :: l,h,hn=>⟨fine_of lvl h1 d (fun x hx=>h x (by rw[bQ];exact List.mem_append_left _ hx)) hn.1,vP lvl h1 l (fun x hx=>h x (by rw[bQ];exact List.mem_append_right _ hx)) hn.2⟩
end
/-! ### the first token of a value's text -/
def fN (i:Nat):Val->Rd
 | .mk k v sc t l ns fs=>if k=1 then aJ i (dU 1 v sc t.data.toList) else if k=2 then pB i (Lib.itoa v) v 0 (false,false) else if k=3 then pB i (dU 3 v sc t.data.toList) v sc (true,decide (sc=0))
    else if k=4 then gO i t.data.toList else if k=5 then wM i t.data.toList else if k=6 then aJ i [100,97,116,101] else if k=7 then aJ i [116,105,109,101]
    else if k=8 then eK i 91 else if k=9 then eK i 123 else aJ i t.data.toList
theorem rN {t:ByteArray} (h:aL t=true):∃c r,t.data.toList=c :: r/\mP c=true/\∀x∈t.data.toList,lN x=true:=by
 unfold aL iJ at h;split at h
 ·cases h
 ·rename_i c r e;simp only[Bool.and_eq_true,decide_eq_true_eq] at h;obtain⟨_,⟨h1,h2⟩,h3⟩:=h;refine⟨c,r,e,?_,?_⟩
  ·unfold mP;simp;omega
  ·rw[e];intro x hx;have:=List.all_eq_true.1 h3 x hx;unfold nmC at this;unfold lN mP bD;simp at this ⊢;omega
theorem jB {t:ByteArray} {n:Nat} (h:cS t n=0):aL t=true/\n=1:=by
 unfold cS at h;split at h
 ·cases h
 rename_i h1;split at h
 ·cases h
 rename_i h2;have:=fK gc h;exact⟨by simpa using h1,by omega⟩
theorem aHa {v sc:Int} (h0:0<=sc):dU 3 v sc []=if sc=0 then cM v 0++[100] else cM v sc.toNat:=by
 unfold dU;rw[if_neg gc,if_neg gc,if_neg gc,if_pos rfl];split
 ·rename_i h;rw[h];rfl
 ·rfl
theorem leafT3 (v sc:Int) (t:List UInt8):dU 3 v sc t=dU 3 v sc []:=rfl
theorem aHy {s:ByteArray} {f i:Nat} {post:List UInt8}:∀{d:Val},Fine f d->s.data.toList.drop i=txt d++post->PostV post->tok s i=fN i d
 | .mk k v sc t l ns fs,h,hL,hp=>by
   obtain⟨_,⟨hk1,hk2,hr⟩,_⟩:=h;have hk1:1<=k:=hk1;have hk2:k<=10:=hk2;rw[txt] at hL;simp only[kK] at hr;have:k=1\/k=2\/k=3\/k=4\/k=5\/k=6\/k=7\/k=8\/k=9\/k=10:=by omega
   rcases this with rfl | rfl | rfl | rfl | rfl | rfl | rfl | rfl | rfl | rfl
   ·rw[if_neg gc,if_neg gc,if_neg gc] at hL;rw[fN,if_pos rfl];have hw:dU 1 v sc t.data.toList=[116,114,117,101]\/dU 1 v sc t.data.toList=[102,97,108,115,101]:=by
     unfold dU;rw[if_neg gc,if_pos rfl];split<;>simp
    rcases hw with hw | hw
    ·rw[hw] at hL ⊢;exact jU (c:=116) rfl hL gc gc hp.w (fun e=>absurd e gc)
    ·rw[hw] at hL ⊢;exact jU (c:=102) rfl hL gc gc hp.w (fun e=>absurd e gc)
   ·rw[if_neg gc,if_neg gc,if_neg gc] at hL;simp at hr;have hb:=aX hr;rw[fN,if_neg gc,if_pos rfl];exact tok_int (by rw[hL];rfl) ga hp.n
   ·rw[if_neg gc,if_neg gc,if_neg gc] at hL;simp at hr;obtain⟨ha,hb⟩:=nI hr;have ha:=aX ha;have hb:=aX hb;rw[fN,if_neg gc,if_neg gc,if_pos rfl];rw[leafT3,aHa hb.1] at hL ⊢;by_cases h0:sc=0
    ·subst h0;rw[if_pos rfl] at hL ⊢;exact aLm hL ga hp.n
    ·rw[if_neg h0] at hL ⊢;have:=tok_dec hL ga ga ga hp.n;rw[this,show((sc.toNat:Nat):Int)=sc by omega];simp[h0]
   ·rw[if_neg gc,if_neg gc,if_neg gc] at hL;simp at hr;rw[fN,if_neg gc,if_neg gc,if_neg gc,if_pos rfl];refine aAi (by rw[hL];rfl) ?_;unfold mS at hr;split at hr
    ·cases hr
    ·rename_i h1;rw[hr] at h1
     simpa using h1
   ·rw[if_neg gc,if_neg gc,if_neg gc] at hL;rw[fN,if_neg gc,if_neg gc,if_neg gc,if_neg gc,if_pos rfl];exact tok_byt (by rw[hL];rfl)
   ·rw[if_neg gc,if_neg gc,if_neg gc] at hL;rw[fN,if_neg gc,if_neg gc,if_neg gc,if_neg gc,if_neg gc,if_pos rfl];exact jU (c:=100) (w:=[100,97,116,101]) (post:=32 :: (aP (bY (v+719162).toNat)++post)) rfl (by rw[hL];rfl) gc gc (fun c hc=>by simp at hc;subst hc;decide) (fun e=>absurd e gc)
   ·rw[if_neg gc,if_neg gc,if_neg gc] at hL;rw[fN,if_neg gc,if_neg gc,if_neg gc,if_neg gc,if_neg gc,if_neg gc,if_pos rfl];exact jU (c:=116) (w:=[116,105,109,101]) (post:=32 :: (aP (cH (v+62135596800000).toNat)++post)) rfl (by rw[hL];rfl) gc gc (fun c hc=>by simp at hc;subst hc;decide) (fun e=>absurd e gc)
   ·rw[if_pos rfl] at hL;rw[fN,if_neg gc,if_neg gc,if_neg gc,if_neg gc,if_neg gc,if_neg gc,if_neg gc,if_pos rfl];exact fG hL gc
   ·rw[if_neg gc,if_pos rfl] at hL;rw[fN,if_neg gc,if_neg gc,if_neg gc,if_neg gc,if_neg gc,if_neg gc,if_neg gc,if_neg gc,if_pos rfl];exact fG hL gc
   ·rw[if_neg gc,if_neg gc,if_pos rfl] at hL;rw[fN,if_neg gc,if_neg gc,if_neg gc,if_neg gc,if_neg gc,if_neg gc,if_neg gc,if_neg gc,if_neg gc];simp at hr;obtain⟨c,r,e,hc,hall⟩:=rN (jB hr).1;refine jU (post:=40 :: ((aW l).headD []++[41])++post) e ?_ hc hall (fun c hc=>by simp at hc;subst hc;decide) (fun _=>by simp);rw[hL];simp
theorem aH4 (i:Nat) {d:Val} (h:eS d):(fN i d).e=0/\(fN i d).o=0/\(fN i d).is ⟨#[93]⟩=false/\(fN i d).is ⟨#[125]⟩=false:=by
 obtain⟨k,v,sc,t,l,ns,fs⟩:=d;obtain⟨hk1,hk2,hr⟩:=h;have hk1:1<=k:=hk1;have hk2:k<=10:=hk2;simp only[kK] at hr;have hne:∀(w:List UInt8) (c x:UInt8) (r:List UInt8),w=c :: r->mP c=true->mP x=false->(⟨w.toArray⟩:ByteArray)≠⟨#[x]⟩:=by
  intro w c x r hw hc hx e;have e2:w=[x]:=congrArg (fun b:ByteArray=>b.data.toList) e;rw[hw] at e2;have e3:=(List.cons.injEq .. ▸ e2).1;rw[e3,hx] at hc;cases hc
 have:k=1\/k=2\/k=3\/k=4\/k=5\/k=6\/k=7\/k=8\/k=9\/k=10:=by omega
 rcases this with rfl | rfl | rfl | rfl | rfl | rfl | rfl | rfl | rfl | rfl
 ·rw[fN,if_pos rfl];refine⟨rfl,rfl,?_,?_⟩
  ·unfold dU;rw[if_neg gc,if_pos rfl];split<;>rfl
  ·unfold dU;rw[if_neg gc,if_pos rfl];split<;>rfl
 ·rw[fN,if_neg gc,if_pos rfl];exact⟨rfl,rfl,rfl,rfl⟩
 ·rw[fN,if_neg gc,if_neg gc,if_pos rfl];exact⟨rfl,rfl,rfl,rfl⟩
 ·rw[fN,if_neg gc,if_neg gc,if_neg gc,if_pos rfl];exact⟨rfl,rfl,rfl,rfl⟩
 ·rw[fN,if_neg gc,if_neg gc,if_neg gc,if_neg gc,if_pos rfl];exact⟨rfl,rfl,rfl,rfl⟩
 ·rw[fN,if_neg gc,if_neg gc,if_neg gc,if_neg gc,if_neg gc,if_pos rfl];exact⟨rfl,rfl,rfl,rfl⟩
 ·rw[fN,if_neg gc,if_neg gc,if_neg gc,if_neg gc,if_neg gc,if_neg gc,if_pos rfl];exact⟨rfl,rfl,rfl,rfl⟩
 ·rw[fN,if_neg gc,if_neg gc,if_neg gc,if_neg gc,if_neg gc,if_neg gc,if_neg gc,if_pos rfl];exact⟨rfl,rfl,rfl,rfl⟩
 ·rw[fN,if_neg gc,if_neg gc,if_neg gc,if_neg gc,if_neg gc,if_neg gc,if_neg gc,if_neg gc,if_pos rfl];exact⟨rfl,rfl,rfl,rfl⟩
 ·rw[fN,if_neg gc,if_neg gc,if_neg gc,if_neg gc,if_neg gc,if_neg gc,if_neg gc,if_neg gc,if_neg gc];simp at hr;obtain⟨c,r,e,hc,hall⟩:=rN (jB hr).1;refine⟨rfl,rfl,?_,?_⟩
  ·unfold Rd.is;rw[Bool.and_eq_false_iff];right;rw[Bool.and_eq_false_iff];right;exact decide_eq_false (hne _ _ 93 _ e hc gc)
  ·unfold Rd.is;rw[Bool.and_eq_false_iff];right;rw[Bool.and_eq_false_iff];right;exact decide_eq_false (hne _ _ 125 _ e hc gc)
end
section
open Go Go.RowKit Go.Shelf
theorem iD {s:ByteArray} {j:Nat} {c:UInt8} {r:List UInt8} (hL:s.data.toList.drop j=c :: r) (hs:symL.contains c=true):(tok s j).expect s ⟨#[c]⟩=tok s (j+1):=by
 rw[fG hL hs];unfold Rd.expect;rw[if_neg gq,if_pos (by simp[Rd.is,eK]),dK rfl rfl];rfl
theorem eI (x:List UInt8) (r:List (List UInt8)):Lib.joinTail [44,32] (x :: r)=44 :: 32 :: (x++Lib.joinTail [44,32] r):=by
 simp[Lib.joinTail]
theorem mA:∀r:List (List UInt8),2 * r.length<=(Lib.joinTail [44,32] r).length
 | []=>by simp
 | x :: r=>by
   have:=mA r;rw[eI];simp only[List.length_cons,List.length_append];omega
theorem nY (r:List (List UInt8)) (c:UInt8) (hc:c=93\/c=125) (post:List UInt8):PostV (Lib.joinTail [44,32] r++c :: post):=by
 intro x hx;cases r with
 | nil=>simp[Lib.joinTail] at hx;subst hx;rcases hc with rfl | rfl<;>simp
 | cons y r=>rw[eI] at hx;simp at hx;subst hx;simp
theorem fst_nx (i:Nat) {d:Val} (h:eS d):(fN i d).nx<=i+(txt d).length:=by
 obtain⟨k,v,sc,t,l,ns,fs⟩:=d;obtain⟨hk1,hk2,hr⟩:=h;have hk1:1<=k:=hk1;have hk2:k<=10:=hk2;rw[txt];have:k=1\/k=2\/k=3\/k=4\/k=5\/k=6\/k=7\/k=8\/k=9\/k=10:=by omega
 rcases this with rfl | rfl | rfl | rfl | rfl | rfl | rfl | rfl | rfl | rfl
 ·exact Nat.le_refl _
 ·exact Nat.le_refl _
 ·exact Nat.le_refl _
 ·exact Nat.le_refl _
 ·exact Nat.le_refl _
 ·simp[fN,aJ,dU]
 ·simp[fN,aJ,dU]
 ·simp[fN,eK]
 ·simp[fN,eK]
 ·simp[fN,aJ]
theorem aDf {s:ByteArray} {p:Nat} {n:ByteArray} {r:List UInt8} (hL:s.data.toList.drop p=n.data.toList++58 :: r) (hn:aL n=true) :
 tok s p=aJ p n.data.toList/\(tok s p).name s=tok s (p+n.data.toList.length)/\(tok s (p+n.data.toList.length)).e=0/\(tok s (p+n.data.toList.length)).expect s ⟨#[58]⟩=tok s (p+n.data.toList.length+1):=by
 obtain⟨c,q,e,hc,hall⟩:=rN hn;have h1:tok s p=aJ p n.data.toList:=jU e hL hc hall (fun c hc=>by simp at hc;subst hc;decide) (fun _=>by simp);have hd:=aN hL;have h2:tok s (p+n.data.toList.length)=eK (p+n.data.toList.length) 58:=fG hd gc;refine⟨h1,?_,by rw[h2];rfl,iD hd gc⟩;rw[h1];have htk:(aJ p n.data.toList).take s 1=tok s (p+n.data.toList.length):=by
  unfold Rd.take;rw[if_neg gk,if_neg gk,dK rfl rfl];rfl
 unfold Rd.name;rw[htk];dsimp only;rw[if_neg]
 ·rw[show(aJ p n.data.toList).t=n from Lib.mk_data n,hn];simp
theorem pM:∀(ns:List ByteArray) (fs:List Val),ns.Pairwise ltN->(ns.zip fs).Pairwise (fun a b=>leN a.1 b.1=true)
 | [],_,_=>by simp
 | _ :: _,[],_=>by simp
 | n :: ns,d :: fs,h=>by
   obtain⟨h1,h2⟩:=List.pairwise_cons.1 h;rw[List.zip_cons_cons,List.pairwise_cons];refine⟨?_,pM ns fs h2⟩;intro x hx;have:=h1 x.1 (List.of_mem_zip hx).1;unfold ltN at this;unfold leN;rw[this];rfl
theorem aLy {ns:List ByteArray} {fs:List Val} (hl:ns.length=fs.length) (hp:ns.Pairwise ltN):aGh (ns.zip fs)=.mk 9 0 0 ⟨#[]⟩ [] ns fs:=by
 unfold aGh;rw[List.mergeSort_of_pairwise (pM ns fs hp)];dsimp only;rw[List.map_fst_zip ga,List.map_snd_zip ga]
theorem aJa {ns:List ByteArray} (h:dY ns=0):(∀n∈ns,aL n=true)/\ns.Pairwise ltN:=by
 unfold dY at h;split at h
 ·cases h
 ·exact⟨(kC ns none h).1,(kC ns none h).2.1⟩
mutual
theorem nX (s:ByteArray):∀(d:Val) (f i:Nat) (post:List UInt8),Fine f d->s.data.toList.drop i=txt d++post->PostV post->rdV s f (tok s i)=(d,tok s (i+(txt d).length))
 | .mk k v sc t l ns fs,f,i,post,hf,hL,hp=>by
   have h1:=aHy hf hL hp;have hfz:=hf;obtain⟨⟨g,rfl⟩,hok,hus,hnl,hFl,hFf⟩:=hf;obtain⟨hk1,hk2,hr⟩:=hok;have hk1:1<=k:=hk1;have hk2:k<=10:=hk2;simp only[kK] at hr;obtain⟨u1,u2,u3,u4,u5⟩:=xZ hus;have hend:=aN hL;obtain⟨pe,po,pp⟩:=aLl hp hend;rw[show g+1-1=g by omega] at hFl hFf;have hns:fs=[]->ns=[]:=fun e=>by rw[e] at hnl;exact List.length_eq_zero_iff.1 hnl
   rw[h1];have:k=1\/k=2\/k=3\/k=4\/k=5\/k=6\/k=7\/k=8\/k=9\/k=10:=by omega
   rcases this with rfl | rfl | rfl | rfl | rfl | rfl | rfl | rfl | rfl | rfl
   ·obtain rfl:=u1 gc gc;obtain rfl:=u2 gc;obtain rfl:=hns rfl;obtain rfl:=u3 gc;obtain rfl:=u4 gc;simp at hr;have hb:=aX hr;have hvv:v=0\/v=1:=by omega
    rcases hvv with rfl | rfl
    ·have ha:(aJ i [102,97,108,115,101]).adv s=tok s (i+5):=dK rfl rfl;have e5:i+(txt (.mk 1 0 0 ⟨#[]⟩ [] [] [])).length=i+5:=rfl;rw[e5] at pe pp ⊢;show rdV s (g+1) (aJ i [102,97,108,115,101])=_;unfold rdV;rw[if_neg gk,if_neg gk,ha];dsimp only;rw[if_neg gk,if_neg gk,if_neg gk,if_neg gk,if_neg gk,if_neg (by rw[pe];simp),if_neg (by rw[pp];simp),if_neg gk,if_pos gk]
    ·have ha:(aJ i [116,114,117,101]).adv s=tok s (i+4):=dK rfl rfl;have e5:i+(txt (.mk 1 1 0 ⟨#[]⟩ [] [] [])).length=i+4:=rfl;rw[e5] at pe pp ⊢;show rdV s (g+1) (aJ i [116,114,117,101])=_;unfold rdV;rw[if_neg gk,if_neg gk,ha];dsimp only;rw[if_neg gk,if_neg gk,if_neg gk,if_neg gk,if_neg gk,if_neg (by rw[pe];simp),if_neg (by rw[pp];simp),if_pos gk]
   ·obtain rfl:=u1 gc gc;obtain rfl:=u2 gc;obtain rfl:=hns rfl;obtain rfl:=u3 gc;obtain rfl:=u4 gc;have ha:(pB i (Lib.itoa v) v 0 (false,false)).adv s=tok s (i+(Lib.itoa v).length):=dK rfl rfl;show rdV s (g+1) (pB i (Lib.itoa v) v 0 (false,false))=_;unfold rdV;rw[if_neg (by simp[pB]),if_neg (by simp[pB]),ha];rfl
   ·obtain rfl:=u1 gc gc;obtain rfl:=u2 gc;obtain rfl:=hns rfl;obtain rfl:=u4 gc;have ha:(pB i (dU 3 v sc []) v sc (true,decide (sc=0))).adv s=tok s (i+(dU 3 v sc []).length):=dK rfl rfl;show rdV s (g+1) (pB i (dU 3 v sc []) v sc (true,decide (sc=0)))=_;unfold rdV;rw[if_neg (by simp[pB]),if_neg (by simp[pB]),ha];rfl
   ·obtain rfl:=u1 gc gc;obtain rfl:=u2 gc;obtain rfl:=hns rfl;obtain rfl:=u3 gc;obtain rfl:=u5 gc;have ha:(gO i t.data.toList).adv s=tok s (i+(aP t.data.toList).length):=dK rfl rfl;show rdV s (g+1) (gO i t.data.toList)=_;unfold rdV;rw[if_neg (by simp[gO]),if_neg (by simp[gO]),ha];dsimp only;rw[if_neg (by simp[gO]),if_pos (by simp[gO]),show(gO i t.data.toList).b=t from Lib.mk_data t];rfl
   ·obtain rfl:=u1 gc gc;obtain rfl:=u2 gc;obtain rfl:=hns rfl;obtain rfl:=u3 gc;obtain rfl:=u5 gc;have ha:(wM i t.data.toList).adv s=tok s (i+(gL t.data.toList).length):=dK rfl rfl;show rdV s (g+1) (wM i t.data.toList)=_;unfold rdV;rw[if_neg (by simp[wM]),if_neg (by simp[wM]),ha];dsimp only;rw[if_neg (by simp[wM]),if_neg (by simp[wM]),if_pos (by simp[wM]),show(wM i t.data.toList).b=t from Lib.mk_data t];rfl
   ·obtain rfl:=u1 gc gc;obtain rfl:=u2 gc;obtain rfl:=hns rfl;obtain rfl:=u3 gc;obtain rfl:=u4 gc;simp at hr;have hb:=aX hr;obtain⟨m,hm⟩:=ez ((v+719162).toNat)
    have htx:txt (.mk 6 v 0 ⟨#[]⟩ [] [] [])=[100,97,116,101]++(32 :: aP (bY m)):=by rw[hm];rfl
    have hd4:s.data.toList.drop (i+4)=32 :: (aP (bY m)++post):=aN (a:=[100,97,116,101]) (by rw[hL,htx];simp);have hd5:s.data.toList.drop (i+4+1)=aP (bY m)++post:=aN (a:=[32]) (by rw[hd4];rfl);have hq:=aAi hd5 (sT (wV m));have ha:(aJ i [100,97,116,101]).adv s=gO (i+5) (bY m):=by
     rw[dK rfl rfl];show tok s (i+4)=_;rw[jL hd4,hq]
    have ha2:(gO (i+5) (bY m)).adv s=tok s (i+5+(aP (bY m)).length):=dK rfl rfl;have htk:(gO (i+5) (bY m)).take s 3=tok s (i+5+(aP (bY m)).length):=by
     unfold Rd.take;rw[if_neg (by simp[gO]),if_neg (by simp[gO]),ha2]
    have hc:gM (bY m)=(v,0):=by rw[aL5 m ga];congr 1;omega
    have he:i+(txt (.mk 6 v 0 ⟨#[]⟩ [] [] [])).length=i+5+(aP (bY m)).length:=by rw[htx];simp;omega
    rw[he] at pe ⊢;have hmo:(gO (i+5) (bY m)).moment s gM=(v,tok s (i+5+(aP (bY m)).length)):=by
     unfold Rd.moment;rw[htk];dsimp only;rw[if_neg (by rw[pe];simp),show(gO (i+5) (bY m)).b.data.toList=bY m from rfl,hc];dsimp only;rw[if_neg gd]
    show rdV s (g+1) (aJ i [100,97,116,101])=_;unfold rdV;rw[if_neg gk,if_neg gk,ha];dsimp only;rw[if_neg gk,if_neg gk,if_neg gk,if_neg gk,if_neg gk,if_neg (by simp[gO]),if_neg (by simp[Rd.is,gO]),if_neg gk,if_neg gk,if_pos gk];rw[hmo]
   ·obtain rfl:=u1 gc gc;obtain rfl:=u2 gc;obtain rfl:=hns rfl;obtain rfl:=u3 gc;obtain rfl:=u4 gc;simp at hr;have hb:=aX hr;obtain⟨m,hm⟩:=ez ((v+62135596800000).toNat)
    have htx:txt (.mk 7 v 0 ⟨#[]⟩ [] [] [])=[116,105,109,101]++(32 :: aP (cH m)):=by rw[hm];rfl
    have hd4:s.data.toList.drop (i+4)=32 :: (aP (cH m)++post):=aN (a:=[116,105,109,101]) (by rw[hL,htx];simp);have hd5:s.data.toList.drop (i+4+1)=aP (cH m)++post:=aN (a:=[32]) (by rw[hd4];rfl);have hq:=aAi hd5 (sT (aHs m));have ha:(aJ i [116,105,109,101]).adv s=gO (i+5) (cH m):=by
     rw[dK rfl rfl];show tok s (i+4)=_;rw[jL hd4,hq]
    have ha2:(gO (i+5) (cH m)).adv s=tok s (i+5+(aP (cH m)).length):=dK rfl rfl;have htk:(gO (i+5) (cH m)).take s 3=tok s (i+5+(aP (cH m)).length):=by
     unfold Rd.take;rw[if_neg (by simp[gO]),if_neg (by simp[gO]),ha2]
    have hc:iV (cH m)=(v,0):=by rw[aL3 m ga];congr 1;omega
    have he:i+(txt (.mk 7 v 0 ⟨#[]⟩ [] [] [])).length=i+5+(aP (cH m)).length:=by rw[htx];simp;omega
    rw[he] at pe ⊢;have hmo:(gO (i+5) (cH m)).moment s iV=(v,tok s (i+5+(aP (cH m)).length)):=by
     unfold Rd.moment;rw[htk];dsimp only;rw[if_neg (by rw[pe];simp),show(gO (i+5) (cH m)).b.data.toList=cH m from rfl,hc];dsimp only;rw[if_neg gd]
    show rdV s (g+1) (aJ i [116,105,109,101])=_;unfold rdV;rw[if_neg gk,if_neg gk,ha];dsimp only;rw[if_neg gk,if_neg gk,if_neg gk,if_neg gk,if_neg gk,if_neg (by simp[gO]),if_neg (by simp[Rd.is,gO]),if_neg gk,if_neg gk,if_neg gk,if_pos gk];rw[hmo]
   ·obtain rfl:=u2 gc;obtain rfl:=hns rfl;obtain rfl:=u3 gc;obtain rfl:=u4 gc;obtain rfl:=u5 gc;have htx:txt (.mk 8 0 0 ⟨#[]⟩ l [] [])=91 :: (Lib.join (aW l) [44,32]++[93]):=rfl;have hd1:s.data.toList.drop (i+1)=Lib.join (aW l) [44,32]++93 :: post:=aN (a:=[91]) (by rw[hL,htx];simp);have ha:(eK i 91).adv s=tok s (i+1):=dK rfl rfl;have hq:=aK0 s g l ((tok s (i+1)).mu s+1) (i+1) post hFl hd1 rfl;have hx:=iD (aN hd1) gc;show rdV s (g+1) (eK i 91)=_;unfold rdV;rw[if_neg gq,if_neg gq,ha];dsimp only
    rw[if_neg gq,if_neg gq,if_neg gq,if_pos gq,hq];dsimp only;rw[hx,htx];simp only[List.length_cons,List.length_append,List.length_nil];congr 2;omega
   ·obtain rfl:=u1 gc gc;obtain rfl:=u3 gc;obtain rfl:=u4 gc;obtain rfl:=u5 gc;simp at hr;obtain⟨hnm,hpw⟩:=aJa hr;have htx:txt (.mk 9 0 0 ⟨#[]⟩ [] ns fs)=123 :: (Lib.join (dN ns (aW fs)) [44,32]++[125]):=rfl;have hd1:s.data.toList.drop (i+1)=Lib.join (dN ns (aW fs)) [44,32]++125 :: post:=aN (a:=[123]) (by rw[hL,htx];simp);have ha:(eK i 123).adv s=tok s (i+1):=dK rfl rfl;have hq:=aLz s g fs ns ((tok s (i+1)).mu s+1) (i+1) post hFf hnl hnm hpw hd1 rfl;have hx:=iD (aN hd1) gc;show rdV s (g+1) (eK i 123)=_;unfold rdV
    rw[if_neg gq,if_neg gq,ha];dsimp only;rw[if_neg gq,if_neg gq,if_neg gq,if_neg gq,if_pos gq,hq];dsimp only;rw[hx,aLy hnl hpw,htx];simp only[List.length_cons,List.length_append,List.length_nil];congr 2;omega
   ·obtain rfl:=u2 gc;obtain rfl:=hns rfl;obtain rfl:=u3 gc;obtain rfl:=u5 gc;simp at hr;obtain⟨hn,hl1⟩:=jB hr;obtain⟨d,hd⟩:∃d,l=[d]:=List.length_eq_one_iff.1 hl1;have hsz:SizeOf.sizeOf d<SizeOf.sizeOf l:=by rw[hd];simp;omega
    rw[hd] at hFl hL ⊢;have htx:txt (.mk 10 0 0 t [d] [] [])=t.data.toList++40 :: (txt d++[41]):=rfl;have hd0:s.data.toList.drop i=t.data.toList++40 :: (txt d++41 :: post):=by rw[hL,htx];simp
    have hd1:=aN hd0;have hd2:s.data.toList.drop (i+t.data.toList.length+1)=txt d++41 :: post:=aN (a:=[40]) (by rw[hd1];rfl);have hp2:PostV (41 :: post):=fun c hc=>by simp at hc;subst hc;simp
    have hq:=nX s d g (i+t.data.toList.length+1) (41 :: post) hFl.1 hd2 hp2;have hx:=iD (aN hd2) gc;have hs1:tok s (i+t.data.toList.length)=eK (i+t.data.toList.length) 40:=fG hd1 gc;have ha:(aJ i t.data.toList).adv s=eK (i+t.data.toList.length) 40:=by rw[dK rfl rfl];exact hs1
    have ha2:(eK (i+t.data.toList.length) 40).adv s=tok s (i+t.data.toList.length+1):=dK rfl rfl;have ht:(aJ i t.data.toList).t=t:=Lib.mk_data t;have hnb:∀x:UInt8,nmC x.toNat=false->t≠⟨#[x]⟩:=by
     intro x hx e;rw[e] at hn;simp only[aL,iJ,List.all_cons,hx,Bool.false_and,Bool.and_false] at hn;cases hn
    show rdV s (g+1) (aJ i t.data.toList)=_;unfold rdV;rw[if_neg gk,if_neg gk,ha];dsimp only;rw[ht,if_neg gk,if_neg gk,if_neg gk,if_neg (hnb 91 gc),if_neg (hnb 123 gc),if_neg gq,if_pos (by simp[Rd.is,eK]),if_neg (by rw[hn];simp),ha2,hq];dsimp only;rw[hx,htx];simp only[List.length_cons,List.length_append,List.length_nil];congr 2;omega
termination_by d=>SizeOf.sizeOf d
decreasing_by all_goals (simp_wf;try omega)
theorem aK0 (s:ByteArray) (g:Nat):∀(l:List Val) (F j:Nat) (post:List UInt8),aIu g l->s.data.toList.drop j=Lib.join (aW l) [44,32]++93 :: post->F=(tok s j).mu s+1->dL s (rdV s g) F true (tok s j) []=(l,tok s (j+(Lib.join (aW l) [44,32]).length))
 | [],F,j,post,_,hL,hF=>by
   rw[aW,Lib.join_nil,List.nil_append] at hL;rw[hF,dL,fG hL gc,if_pos (.inr (by simp[Rd.is,eK]))];rw[aW,Lib.join_nil,<-fG hL gc];rfl
 | d :: l,F,j,post,hf,hL,hF=>by
   rw[aW,Lib.join_cons,List.append_assoc] at hL;have hp:=nY (aW l) 93 (.inl rfl) post;have hok:eS d:=by obtain⟨k,v,sc,t,l,ns,fs⟩:=d;exact hf.1.2.1
   have h1:=aHy hf.1 hL hp;obtain⟨f1,f2,f3,_⟩:=aH4 j hok;have hnx:=fst_nx j hok;have hr:=nX s d g j _ hf.1 hL hp;have hd:=aN hL;have hlen:l.length<(tok s j).mu s:=by
    have e1:=congrArg List.length hd;have e2:=mA (aW l);rw[List.length_drop,List.length_append,List.length_cons] at e1;rw[iL,List.length_map] at e2;rw[iL] at e1;have e3:s.data.toList.length=s.size:=qZ s;rw[h1];unfold Rd.mu;rw[if_neg (by rw[f1];simp)];omega
   have hg:=vB s g l ((tok s j).mu s) (j+(txt d).length) post [d] hf.2 hd hlen;rw[hF,dL,if_neg (by rw[h1,f1,f3];simp)];dsimp only;rw[if_pos rfl,hr];dsimp only;rw[List.nil_append,hg,aW,Lib.join_cons,List.length_append];simp only[List.singleton_append];congr 2;omega
termination_by l=>SizeOf.sizeOf l
decreasing_by all_goals (simp_wf;try omega)
theorem vB (s:ByteArray) (g:Nat):∀(l:List Val) (F j:Nat) (post:List UInt8) (acc:List Val),aIu g l->s.data.toList.drop j=Lib.joinTail [44,32] (aW l)++93 :: post->l.length<F->dL s (rdV s g) F false (tok s j) acc=(acc++l,tok s (j+(Lib.joinTail [44,32] (aW l)).length))
 | [],F+1,j,post,acc,_,hL,_=>by
   have hL':s.data.toList.drop j=93 :: post:=hL;rw[dL,fG hL' gc,if_pos (.inr (by simp[Rd.is,eK]))];rw[aW,<-fG hL' gc,List.append_nil];rfl
 | d :: l,F+1,j,post,acc,hf,hL,hF=>by
   rw[aW,eI] at hL;have hL0:s.data.toList.drop j=44 :: (32 :: (txt d++(Lib.joinTail [44,32] (aW l)++93 :: post))):=by rw[hL];simp
   have hL1:s.data.toList.drop (j+1)=32 :: (txt d++(Lib.joinTail [44,32] (aW l)++93 :: post)):=aN (a:=[44]) (by rw[hL0];rfl);have hL2:s.data.toList.drop (j+1+1)=txt d++(Lib.joinTail [44,32] (aW l)++93 :: post):=aN (a:=[32]) (by rw[hL1];rfl);have hp:=nY (aW l) 93 (.inl rfl) post;have hx:=iD hL0 gc;have hr:=nX s d g (j+1+1) _ hf.1 hL2 hp;have hg:=vB s g l F (j+1+1+(txt d).length) post (acc++[d]) hf.2 (aN hL2) (by simp at hF;omega);have h0:¬ ((tok s j).e≠0\/(tok s j).is ⟨#[93]⟩=true):=by rw[fG hL0 gc];simp[Rd.is,eK]
   rw[dL,if_neg h0];dsimp only;rw[if_neg gc,hx,jL hL1,hr];dsimp only;rw[hg,aW,eI];simp only[List.append_assoc,List.singleton_append,List.length_cons,List.length_append];congr 2;omega
termination_by l=>SizeOf.sizeOf l
decreasing_by all_goals (simp_wf;try omega)
theorem aLz (s:ByteArray) (g:Nat):∀(fs:List Val) (ns:List ByteArray) (F j:Nat) (post:List UInt8),aIu g fs->ns.length=fs.length->(∀n∈ns,aL n=true)->ns.Pairwise ltN->s.data.toList.drop j=Lib.join (dN ns (aW fs)) [44,32]++125 :: post->F=(tok s j).mu s+1->fW s (rdV s g) F true (tok s j) []=(ns.zip fs,tok s (j+(Lib.join (dN ns (aW fs)) [44,32]).length))
 | [],ns,F,j,post,_,hl,_,_,hL,hF=>by
   obtain rfl:ns=[]:=List.length_eq_zero_iff.1 hl;have hL':s.data.toList.drop j=125 :: post:=hL;rw[hF,fW,fG hL' gc,if_pos (.inr (by simp[Rd.is,eK]))];rw[<-fG hL' gc];rfl
 | d :: fs,[],F,j,post,_,hl,_,_,_,_=>by simp at hl
 | d :: fs,n :: ns,F,j,post,hf,hl,hn,hpw,hL,hF=>by
   obtain⟨hp1,hp2⟩:=List.pairwise_cons.1 hpw;rw[aW,dN,Lib.join_cons] at hL;have hL0:s.data.toList.drop j=n.data.toList++58 :: (32 :: (txt d++(Lib.joinTail [44,32] (dN ns (aW fs))++125 :: post))):=by rw[hL];simp
   have hL1:=aN hL0;have hL2:s.data.toList.drop (j+n.data.toList.length+1)=32 :: (txt d++(Lib.joinTail [44,32] (dN ns (aW fs))++125 :: post)):=aN (a:=[58]) (by rw[hL1];rfl);have hL3:s.data.toList.drop (j+n.data.toList.length+1+1)=txt d++(Lib.joinTail [44,32] (dN ns (aW fs))++125 :: post):=aN (a:=[32]) (by rw[hL2];rfl);obtain⟨t1,t2,t3,t4⟩:=aDf hL0 (hn n (List.mem_cons_self ..));have hp:=nY (dN ns (aW fs)) 125 (.inr rfl) post;have hr:=nX s d g (j+n.data.toList.length+1+1) _ hf.1 hL3 hp;have hd:=aN hL3;have hnb:=hn n (List.mem_cons_self ..);have hne:n≠⟨#[125]⟩:=by
    intro e;rw[e] at hnb;exact absurd hnb gc
   have hlen:fs.length<(tok s j).mu s:=by
    have e1:=congrArg List.length hd;have e2:=mA (dN ns (aW fs));have e4:∀(ns:List ByteArray) (fs:List Val),ns.length=fs.length->(dN ns (aW fs)).length=fs.length:=by
     intro ns fs
     induction fs generalizing ns with
     | nil=>intro h;rw[List.length_eq_zero_iff.1 h];rfl
     | cons d fs ih =>
       intro h;cases ns with
       | nil=>simp at h
       | cons n ns=>rw[aW,dN,List.length_cons,List.length_cons,ih ns gt]
    rw[e4 ns fs (by simpa using hl)] at e2;rw[List.length_drop,List.length_append,List.length_cons] at e1;have e3:s.data.toList.length=s.size:=qZ s;rw[t1];unfold Rd.mu;rw[if_neg gk];simp only[aJ];omega
   have hg:=yV s g fs ns ((tok s j).mu s) (j+n.data.toList.length+1+1+(txt d).length) post [(n,d)] hf.2 (by simpa using hl) (fun m hm=>hn m (List.mem_cons_of_mem _ hm)) hp2 (by intro a ha m hm;simp at ha;subst ha;exact hp1 m hm) hd hlen;have h0:¬ ((tok s j).e≠0\/(tok s j).is ⟨#[125]⟩=true):=by
    rw[t1];have:(aJ j n.data.toList).t=n:=Lib.mk_data n;simp only[Rd.is,this];simp[aJ,hne]
   have hk:(tok s j).e=0/\(tok s j).k=1:=by rw[t1];exact⟨rfl,rfl⟩
   have ht:(tok s j).t=n:=by rw[t1];exact Lib.mk_data n
   rw[hF,fW,if_neg h0];dsimp only;rw[if_pos rfl,t2,if_pos hk,ht,if_neg gd,t4,jL hL2,hr];dsimp only;rw[List.nil_append,hg,aW,dN,Lib.join_cons];simp only[List.append_assoc,List.singleton_append,List.length_cons,List.length_append,List.zip_cons_cons];congr 2;omega
termination_by fs=>SizeOf.sizeOf fs
decreasing_by all_goals (simp_wf;try omega)
theorem yV (s:ByteArray) (g:Nat):∀(fs:List Val) (ns:List ByteArray) (F j:Nat) (post:List UInt8) (acc:List (ByteArray × Val)),aIu g fs->ns.length=fs.length->(∀n∈ns,aL n=true)->ns.Pairwise ltN->(∀a∈acc,∀n∈ns,ltN a.1 n)->s.data.toList.drop j=Lib.joinTail [44,32] (dN ns (aW fs))++125 :: post->fs.length<F->fW s (rdV s g) F false (tok s j) acc=(acc++ns.zip fs,tok s (j+(Lib.joinTail [44,32] (dN ns (aW fs))).length))
 | [],ns,F+1,j,post,acc,_,hl,_,_,_,hL,hF=>by
   obtain rfl:ns=[]:=List.length_eq_zero_iff.1 hl;have hL':s.data.toList.drop j=125 :: post:=hL;rw[fW,fG hL' gc,if_pos (.inr (by simp[Rd.is,eK]))];rw[<-fG hL' gc,List.zip_nil_right,List.append_nil];rfl
 | d :: fs,[],F+1,j,post,acc,_,hl,_,_,_,_,_=>by simp at hl
 | d :: fs,n :: ns,F+1,j,post,acc,hf,hl,hn,hpw,hac,hL,hF=>by
   obtain⟨hp1,hp2⟩:=List.pairwise_cons.1 hpw;rw[aW,dN,eI] at hL;have hM:s.data.toList.drop j=44 :: (32 :: (n.data.toList++58 :: (32 :: (txt d++(Lib.joinTail [44,32] (dN ns (aW fs))++125 :: post))))):=by rw[hL];simp
   have hM1:s.data.toList.drop (j+1)=32 :: (n.data.toList++58 :: (32 :: (txt d++(Lib.joinTail [44,32] (dN ns (aW fs))++125 :: post)))):=aN (a:=[44]) (by rw[hM];rfl);have hL0:s.data.toList.drop (j+1+1)=n.data.toList++58 :: (32 :: (txt d++(Lib.joinTail [44,32] (dN ns (aW fs))++125 :: post))):=aN (a:=[32]) (by rw[hM1];rfl);have hL1:=aN hL0;have hL2:s.data.toList.drop (j+1+1+n.data.toList.length+1)=32 :: (txt d++(Lib.joinTail [44,32] (dN ns (aW fs))++125 :: post)):=aN (a:=[58]) (by rw[hL1];rfl)
   have hL3:s.data.toList.drop (j+1+1+n.data.toList.length+1+1)=txt d++(Lib.joinTail [44,32] (dN ns (aW fs))++125 :: post):=aN (a:=[32]) (by rw[hL2];rfl);obtain⟨t1,t2,t3,t4⟩:=aDf hL0 (hn n (List.mem_cons_self ..));have hp:=nY (dN ns (aW fs)) 125 (.inr rfl) post;have hr:=nX s d g (j+1+1+n.data.toList.length+1+1) _ hf.1 hL3 hp;have hd:=aN hL3;have hx:=iD hM gc;have hdup:(acc.any (fun x=>decide (x.1=n)))=false:=by
    rw[List.any_eq_false];intro x hxm;have h1:=hac x hxm n (List.mem_cons_self ..);rw[decide_eq_true_eq];intro e;rw[e] at h1;unfold ltN at h1;rw[lI] at h1;cases h1
   have hg:=yV s g fs ns F (j+1+1+n.data.toList.length+1+1+(txt d).length) post (acc++[(n,d)]) hf.2 (by simpa using hl) (fun m hm=>hn m (List.mem_cons_of_mem _ hm)) hp2
    (by
      intro a ha m hm;rcases List.mem_append.1 ha with h | h
      ·exact hac a h m (List.mem_cons_of_mem _ hm)
      ·simp at h;subst h;exact hp1 m hm) hd (by simp at hF;omega)
   have h0:¬ ((tok s j).e≠0\/(tok s j).is ⟨#[125]⟩=true):=by rw[fG hM gc];simp[Rd.is,eK]
   have hk:(tok s (j+1+1)).e=0/\(tok s (j+1+1)).k=1:=by rw[t1];exact⟨rfl,rfl⟩
   have ht:(tok s (j+1+1)).t=n:=by rw[t1];exact Lib.mk_data n
   rw[fW,if_neg h0];dsimp only;simp only[Bool.false_eq_true,if_false];rw[hx,jL hM1,t2,if_pos hk,ht,if_neg (by rw[hdup];simp),t4,jL hL2,hr];dsimp only;rw[hg,aW,dN,eI];simp only[List.append_assoc,List.singleton_append,List.length_cons,List.length_append,List.zip_cons_cons];congr 2;omega
termination_by fs=>SizeOf.sizeOf fs
decreasing_by all_goals (simp_wf;try omega)
end
theorem aM6 {s:ByteArray} {d:Val} (h:s.data.toList=txt d) (hs:s.size<=65536) (hd:(aR d=0/\mO d)\/d=dA):eX s=(d,0,0):=by
 have h0:kL s=tok s 0:=by
  unfold kL;rw[if_neg ga];rfl
 rcases hd with ⟨hc,hn⟩ | rfl
 ·have hF:Fine 8 d:=fine_of 1 lr d (aA8 _ _ hc) hn;have hp:PostV []:=fun c hc=>by cases hc
  have hr:=nX s d 8 0 [] hF (by rw[List.drop_zero,h,List.append_nil]) hp;have hnl:cF d=false:=by
   have hk:eS d:=by obtain⟨k,v,sc,t,l,ns,fs⟩:=d;exact hF.2.1
   obtain⟨k,v,sc,t,l,ns,fs⟩:=d;have hk1:1<=k:=hk.1;simp only[cF,eM,Bool.and_eq_false_imp,beq_iff_eq];intro e;omega
  have he:tok s (0+(txt d).length)=nK (0+(txt d).length):=aAk (by rw[h,Nat.zero_add,List.drop_length]);have hq:yW (d,nK (0+(txt d).length))=(d,nK (0+(txt d).length)):=by
   unfold yW;rw[if_neg (by simp[nK])]
  unfold eX;rw[h0,hr,he,hq];dsimp only;have he2:(if (nK (0+(txt d).length)).e=0/\cF d=false then aR d else (nK (0+(txt d).length)).e)=0:=by rw[if_pos ⟨rfl,hnl⟩];exact hc
  rw[he2,if_neg gd]
 ·have hL:s.data.toList.drop 0=[110,117,108,108]++[]:=by rw[List.drop_zero,h];rfl
  have hp:PostV []:=fun c hc=>by cases hc
  have hw:tok s 0=aJ 0 [110,117,108,108]:=jU (c:=110) rfl hL gc gc hp.w (fun e=>absurd e gc);have ha:(aJ 0 [110,117,108,108]).adv s=nK 4:=by
   rw[dK rfl rfl];exact aAk (aN (a:=[110,117,108,108]) hL)
  have hr:rdV s 8 (aJ 0 [110,117,108,108])=(dA,nK 4):=by
   unfold rdV;rw[if_neg gk,if_neg gk,ha];dsimp only;rw[if_neg gk,if_neg gk,if_neg gk,if_neg gk,if_neg gk,if_neg (by simp[nK]),if_neg (by simp[Rd.is,nK]),if_neg gk,if_neg gk,if_neg gk,if_neg gk,if_pos gk]
  have hz:cF dA=true:=by simp[cF,dA,eM]
  have hq:yW (dA,nK 4)=(dA,nK 4):=by
   unfold yW;rw[if_neg (by simp[nK])]
  unfold eX;rw[h0,hw,hr,hq];dsimp only;have he2:(if (nK 4).e=0/\cF dA=false then aR dA else (nK 4).e)=0:=by rw[if_neg (by rw[hz];simp)];rfl
  rw[he2,if_neg gd]
end
section
open Go Go.RowKit
def tI (w:World) (e:Ending) (w':World):Prop:=∃k:Int,e=.returned (I6 k)/\w=w'
theorem len64_0 (w:World):CP 261 #[.int .u64 0] w (tI w):=by
 go_enter Tryz.func261,Tryz.ntmps261
 go_wp2;go_ret;exact⟨_,rfl,rfl⟩
theorem len64_1 (w:World):CP 261 #[.int .u64 1] w (tI w):=by
 go_enter Tryz.func261,Tryz.ntmps261
 go_wp2;go_ret;exact⟨_,rfl,rfl⟩
theorem len_0 (w:World):CP 184 #[.int .u64 0] w (tI w):=by
 go_enter Tryz.func184,Tryz.ntmps184
 go_wp2_with (go_at_call 261;refine(len64_0 _).mono ?_;rintro e w' ⟨k,rfl,rfl⟩)
 go_ret;exact⟨k,rfl,rfl⟩
theorem len_1 (w:World):CP 184 #[.int .u64 1] w (tI w):=by
 go_enter Tryz.func184,Tryz.ntmps184
 go_wp2_with (go_at_call 261;refine(len64_1 _).mono ?_;rintro e w' ⟨k,rfl,rfl⟩)
 go_ret;exact⟨k,rfl,rfl⟩
theorem aKa (a:Option Addr) (n c:Nat) (v:Value) (w:World) (hn:n<=1):CP 359 #[.slice a n c,I6 0,I6 n,v] w fun e w'=>e=.returned (.tuple #[])/\w=w':=by
 have h1:¬ (1:Int)<(n:Int):=by omega
 go_enter Tryz.func359,Tryz.ntmps359
 go_wp2
 go_loopw [8] (fun i wr=>i=I6 1/\wr=w) (fun _ _=>0)
 case atStart=>exact⟨rfl,rfl⟩
 case round =>
  obtain⟨rfl,rfl⟩:=hrel;go_wp2
  go_end0
  exact⟨rfl,rfl⟩
theorem yY (a:Option Addr) (n c:Nat) (k:Int) (v:Value) (w:World) (hn:n<=1):CP 333 #[.slice a n c,I6 0,I6 n,I6 k,v] w fun e w'=>e=.returned (.tuple #[])/\w=w':=by
 have h1:(n:Int)<=12:=by omega
 have HI:=hid (aKa a n c v w hn);go_enter Tryz.func333,Tryz.ntmps333
 go_wp2
 go_loopw [1,2] (fun p q wr=>p=I6 0/\q=I6 n/\wr=w) (fun _ _ _=>0)
 case atStart=>exact⟨rfl,rfl,rfl⟩
 case round =>
  obtain⟨rfl,rfl,rfl⟩:=hrel;go_wp2_with (go_at_call 359;refine HI.out.mono ?_;rintro e w' ⟨rfl,rfl⟩)
  (try simp only[Exit.inBlock,Exit.then])
  refine bodyPost_ret (results_none rfl _ _ _) rfl ?_;exact⟨rfl,rfl⟩
theorem aCy (a:Option Addr) (c:Nat) (v:Value) (w:World):CP 296 #[.slice a 0 c,v] w fun e w'=>e=.returned (.tuple #[])/\w=w':=by
 have HP:=hid (fun k=>yY a 0 c k v w ga);go_enter Tryz.func296,Tryz.ntmps296
 go_wp2_with (first
  | (go_at_call 184;refine(len_0 _).mono ?_;rintro e w' ⟨k,rfl,rfl⟩)
  | (go_at_call 333;refine(HP.out _).mono ?_;rintro e w' ⟨rfl,rfl⟩))
 go_end0
 exact⟨rfl,rfl⟩
theorem aCx (a:Option Addr) (c:Nat) (v:Value) (w:World):CP 296 #[.slice a 1 c,v] w fun e w'=>e=.returned (.tuple #[])/\w=w':=by
 have HP:=hid (fun k=>yY a 1 c k v w ga);go_enter Tryz.func296,Tryz.ntmps296
 go_wp2_with (first
  | (go_at_call 184;refine(len_1 _).mono ?_;rintro e w' ⟨k,rfl,rfl⟩)
  | (go_at_call 333;refine(HP.out _).mono ?_;rintro e w' ⟨rfl,rfl⟩))
 go_end0
 exact⟨rfl,rfl⟩
end
section
open Go Go.RowKit Go.Shelf Go.Sort
instance:Inhabited (ByteArray × VC):=⟨(ByteArray.empty,⟨0,0,0,ByteArray.empty,none,0,0,none,0,0⟩)⟩
def cfF (x y:ByteArray × VC):Int:=Lib.compareBytes x.1.data.toList y.1.data.toList
theorem cfF_swo:SWO (Go.Proofs.ltOf cfF) where
 irrefl x:=by unfold Go.Proofs.ltOf cfF;rw[lI];rfl
 trans x y z h1 h2:=by
  unfold Go.Proofs.ltOf cfF at *;have t:=nM x.1.data.toList y.1.data.toList z.1.data.toList;have g1:=jI x.1.data.toList y.1.data.toList;have g2:=jI y.1.data.toList z.1.data.toList;have g3:=jI x.1.data.toList z.1.data.toList;simp only[decide_eq_true_eq] at *;unfold Tri Sg at *;omega
 ntrans x y z h1 h2:=by
  unfold Go.Proofs.ltOf cfF at *;have t:=nM x.1.data.toList y.1.data.toList z.1.data.toList;simp only[decide_eq_false_iff_not] at *;unfold Tri at t;omega
theorem aEz (x y:ByteArray × VC) (W:World):CP 297 #[.agg (FC.cs x).toArray,.agg (FC.cs y).toArray] W fun e w'=>e=.returned (I6 (cfF x y))/\∃q os',w'=grow (W.drewN q) os':=by
 have hcon:=fun W'=>Tryz.strings_Compare x.1 y.1 W';unfold cfF;generalize Lib.compareBytes x.1.data.toList y.1.data.toList=r at hcon ⊢;obtain⟨xn,xc⟩:=x;obtain⟨yn,yc⟩:=y;dsimp only[FC.cs,VC.cs] at hcon ⊢;go_enter Tryz.func297,Tryz.ntmps297
 go_wp2_with (go_at_call 123;refine(hcon _).mono ?_;rintro e w' ⟨rfl,rfl⟩)
 go_ret;exact⟨rfl,0,_,by rw[alloc_eq_grow,alloc_eq_grow,grow_grow];rfl⟩
theorem zV (d:Array (ByteArray × VC)) (t:Nat) (h:t<d.size * 7):(flatK FC.cs 7 d)[t]?=(d.toList.flatMap FC.cs)[t]?:=by
 have hq:t / 7<d.toList.length:=by simp;omega
 have h1:=nH FC.cs 7 FC.cs_len d.toList (t / 7) (t % 7) hq ga;rw[show t / 7 * 7+t % 7=t by omega] at h1;rw[h1];have e:=get_flatK FC.cs 7 d t h;rw[getElem!_pos (flatK FC.cs 7 d) t gj] at e;rw[Array.getElem?_eq_getElem gj,e];have e2:d[t / 7]! = d.toList[t / 7]:=by rw[getElem!_pos d _ (by simpa using hq)];simp
 rw[e2];have hl:t % 7<(FC.cs d.toList[t / 7]).length:=by rw[FC.cs_len];omega
 rw[getElem!_pos (FC.cs d.toList[t / 7]) (t % 7) hl,List.getElem?_eq_getElem hl]
theorem zU (cs:List (ByteArray × VC)):(cs.flatMap FC.cs).length=cs.length * 7:=by
 induction cs with
 | nil=>rfl
 | cons c cs ih=>rw[List.flatMap_cons,List.length_append,ih,FC.cs_len,List.length_cons];omega
theorem aH5 (d:Array (ByteArray × VC)):(flatK FC.cs 7 d).toList=d.toList.flatMap FC.cs:=by
 apply List.ext_getElem?;intro t;by_cases h:t<d.size * 7
 ·rw[Array.getElem?_toList];exact zV d t h
 ·rw[List.getElem?_eq_none gj,List.getElem?_eq_none (by rw[zU];simp;omega)]
theorem aMw {w:World} {g n:Nat} {os:Array Obj} {cur:Array Value} {e:TypeId} {fr:Nat × Nat} (F:Array Value) (hb:w.heap[g]?=some (.cells cur e fr)) :
 (grow (putRow id (Sort.ahead w n) g 0 F) os).heap[g]?=some (.cells (putCells id 0 F cur) e fr):=by
 have hg:g<w.heap.size:=(Array.getElem?_eq_some_iff.1 hb).1;rw[heap_grow_old _ _ (by simpa using hg)];simp[putRow,mapBlock,Sort.ahead,Array.getElem?_modify,hb,onCells]
theorem aKf {w:World} {g n:Nat} {os:Array Obj} (F:Array Value):w.grownBy (grow (putRow id (Sort.ahead w n) g 0 F) os) (some g):=by
 refine⟨rfl,rfl,rfl,by simp,fun k hk hne=>?_⟩;rw[heap_grow_old _ _ (by simpa using hk)];have:g≠k:=fun e=>hne (by rw[e]);simp[putRow,mapBlock,Sort.ahead,Array.getElem?_modify,this]
theorem aLq (cur F:Array Value) (h:F.size<=cur.size):(putCells id 0 F cur).toList.take F.size=F.toList:=by
 apply List.ext_getElem?;intro j;by_cases hj:j<F.size
 ·rw[List.getElem?_take_of_lt hj,Array.getElem?_toList,Array.getElem?_toList];simp[putCells,hj,show j<cur.size by omega]
 ·rw[List.getElem?_take_eq_none ga,List.getElem?_eq_none gj]
theorem aLd {α β:Type} {a b:List α} (h:a.Perm b):∀xs:List β,xs.length=a.length->∃ys:List β,ys.length=b.length/\(a.zip xs).Perm (b.zip ys):=by
 induction h with
 | nil=>intro xs _;exact⟨[],rfl,by simp⟩
 | cons x h ih =>
   intro xs hx;cases xs with
   | nil=>simp at hx
   | cons y xs =>
     obtain⟨ys,h1,h2⟩:=ih xs (by simpa using hx);exact⟨y :: ys,by simp[h1],by simpa using h2⟩
 | swap x y l =>
   intro xs hx
   match xs,hx with
   | u :: v :: xs,hx=>exact⟨v :: u :: xs,by simpa using hx,by simpa using List.Perm.swap _ _ _⟩
 | trans h1 h2 ih1 ih2 =>
   intro xs hx;obtain⟨ys,a1,a2⟩:=ih1 xs hx;obtain⟨zs,b1,b2⟩:=ih2 ys a1;exact⟨zs,b1,a2.trans b2⟩
def SrtPost (T B:Nat) (w:World) (g cap k:Nat) (ns:List ByteArray) (l:List Val) (e:Ending) (w':World):Prop:=e=.returned (.tuple #[])/\∃(ns':List ByteArray) (l':List Val),ns'.length=k/\l'.length=k/\(ns.zip l).Perm (ns'.zip l')/\(ns'.zip l').Pairwise (fun a b=>leN a.1 b.1=true)/\BuiltF T B w' (.slice (some ⟨g,0,none⟩) k cap) k ns' l'/\w.grownBy w' (some g)
theorem aJ5 (T B:Nat) (w:World) (g cap k:Nat) (ns:List ByteArray) (l:List Val) (hb:BuiltF T B w (.slice (some ⟨g,0,none⟩) k cap) k ns l) (hk:l.length=k) (hn:ns.length=k) (hbig:k<=1000000) :
 CP 296 #[.slice (some ⟨g,0,none⟩) k cap,.func (.func 297) #[] #[]] w (SrtPost T B w g cap k ns l):=by
 obtain⟨cs,hcs,hown,hel⟩:=hb;rcases hown.2 with ⟨h0,_⟩ | ⟨g',cap',cur,hv,hB,hg,hnc,hcm,hcz,htk⟩
 ·cases h0
 obtain⟨rfl,rfl⟩:g'=g/\cap'=cap:=by cases hv;exact⟨rfl,rfl⟩
 obtain⟨d,hd⟩:∃d:Array (ByteArray × VC),d=cs.toArray:=⟨_,rfl⟩
 have hds:d.size=k:=by rw[hd];simpa using hcs
 have hdl:d.toList=cs:=by rw[hd]
 have hH:HoldsK FC.cs 7 w g' 0 d:=by
  intro j hj;have hj7:j<k * 7:=by simp[hds] at hj;exact hj
  refine⟨?_,by simp[World.frozen?,hg]⟩;have h1:=hown.cellAt j hj7;rw[Nat.zero_add,h1];have h2:=zV d j (by rw[hds];exact hj7);rw[hdl] at h2;rw[<-h2,Array.getElem?_eq_getElem (by simp[hds];exact hj7),getElem!_pos _ _ (by simp[hds];exact hj7)];rfl
 have eg:∀args w,(callFunc 297 args).run Tryz.prog w=.ok (.enter 297 args) w:=enters_of Tryz.func297 ge rfl;have hone:∀x:ByteArray × VC,∀v∈FC.cs x,v.oneCell'=true:=by
  intro x v hv;simp[FC.cs,VC.cs] at hv;rcases hv with rfl | rfl | rfl | rfl | rfl | rfl | rfl<;>rfl
 have hcon:=Tryz.slices_SortFunc_fld FC.cs FC.cs_len hone cfF cfF_swo 297 #[] g' 0 cap' d w eg (fun _ _ _ _ x y=>by simpa using aEz x y _) hH (ltOf hg) (by rw[hds];omega);rw[hds] at hcon;refine hcon.mono ?_;rintro e w' ⟨rfl,d',n,os,hp,hso,rfl⟩;refine⟨rfl,?_⟩;have hd's:d'.size=k:=by rw[hp.1,hds]
 have hperm:d'.toList.Perm cs:=by
  have h:=hp.2.2;have e1:d'.extract 0 k=d':=by rw[<-hd's];simp
  have e2:d.extract 0 k=d:=by rw[<-hds];simp
  rw[e1,e2,hdl] at h;exact h
 obtain⟨xs,hxl,hxp⟩:=aLd hperm.symm (ns.zip l) (by simp[hn,hk,hcs]);have hd'l:d'.toList.length=k:=by simpa using hd's
 have hxk:xs.length=k:=by rw[hxl,hd'l]
 have hgr:=aKf (w:=w) (g:=g') (n:=n) (os:=os) (flatK FC.cs 7 d');have hmem:∀j (h:j<k),∃i,∃(hi:i<k),d'.toList[j]' ga=cs[i]' ga/\(xs[j]' ga).1=ns[i]' ga/\(xs[j]' ga).2=l[i]' ga:=by
  intro j h;have hm:(d'.toList[j]' ga,xs[j]' ga)∈d'.toList.zip xs:=by
   rw[List.mem_iff_getElem];exact⟨j,by simp[hd's,hxk,h],by simp⟩
  have hm2:=hxp.symm.mem_iff.1 hm;obtain⟨i,hi,he⟩:=List.mem_iff_getElem.1 hm2;have hi':i<k:=by simp[hcs,hn,hk] at hi;exact hi
  simp only[List.getElem_zip,Prod.mk.injEq] at he;refine⟨i,hi',he.1.symm,?_,?_⟩
  ·rw[<-he.2]
  ·rw[<-he.2]
 have hz:(xs.map (·.1)).zip (xs.map (·.2))=xs:=by
  apply List.ext_getElem
  ·simp
  ·intro i h1 h2;simp
 have hsub:∀i,B<=i/\i<w.heap.size/\some i≠(Value.slice (some ⟨g',0,none⟩) k cap').ownBlock->(B<=i/\i<(sortWorldK FC.cs 7 w g' 0 n d' os).heap.size/\some i≠(Value.slice (some ⟨g',0,none⟩) k cap').ownBlock)/\(sortWorldK FC.cs 7 w g' 0 n d' os).heap[i]?=w.heap[i]?:=fun i hi=>⟨⟨hi.1,Nat.lt_of_lt_of_le hi.2.1 hgr.size,hi.2.2⟩,hgr.block i hi.2.1 hi.2.2⟩
 refine⟨xs.map (·.1),xs.map (·.2),by simpa using hxk,by simpa using hxk,?_,?_,⟨d'.toList,hd'l,⟨?_,.inr ⟨g',cap',_,rfl,hB,aMw _ hg,hnc,hcm,by simp[putCells,hcz],?_⟩⟩,?_⟩,hgr⟩
 ·rw[hz];have h:=hxp.map (·.2);rw[List.map_snd_zip (by simp[hn,hk,hcs]),List.map_snd_zip ga] at h;exact h
 ·rw[hz,List.pairwise_iff_getElem];intro i j hi hj hij;have h:=hso i j (Nat.zero_le _) hij ga;obtain⟨i1,_,a1,a2,_⟩:=hmem i ga;obtain⟨j1,_,b1,b2,_⟩:=hmem j ga;have ei:d'[i]! = d'.toList[i]' ga:=by rw[getElem!_pos d' i ga];simp
  have ej:d'[j]! = d'.toList[j]' ga:=by rw[getElem!_pos d' j ga];simp
  rw[ei,ej,a1,b1] at h;unfold Go.Proofs.ltOf cfF at h;have n1:=(hel i1 ga ga ga).1;have n2:=(hel j1 ga ga ga).1;rw[n1,n2,<-a2,<-b2] at h;have han:=iE (xs[i]).1.data.toList (xs[j]).1.data.toList;unfold leN;simp only[decide_eq_false_iff_not,decide_eq_true_eq] at *;omega
 ·rw[zU,hd'l]
 ·have h1:=aLq cur (flatK FC.cs 7 d') (by simp[hd's,hcz];omega);rw[aH5] at h1;have:(flatK FC.cs 7 d').size=k * 7:=by simp[hd's]
  rw[this] at h1;exact h1
 ·intro j hj hj' hjn;obtain⟨i,hi,a1,a2,a3⟩:=hmem j ga;have h:=hel i ga ga ga;simp only[List.getElem_map];rw[a1,a2,a3];exact⟨h.1,h.2.same hsub⟩
/-! ### the sorted fields are the law's -/
theorem uA {α:Type} {le:α->α->Bool}:∀{l1 l2:List α},l1.Perm l2->l1.Pairwise (fun a b=>le a b=true)->l2.Pairwise (fun a b=>le a b=true)->(∀a∈l1,∀b∈l1,le a b=true->le b a=true->a=b)->l1=l2
 | [],l2,h,_,_,_=>(List.nil_perm.1 h).symm
 | a :: t,[],h,_,_,_=>by have:=h.length_eq;simp at this
 | a :: t,b :: s,h,h1,h2,ha=>by
   obtain⟨p1,p2⟩:=List.pairwise_cons.1 h1;obtain⟨q1,q2⟩:=List.pairwise_cons.1 h2;have e:a=b:=by
    have hb:b∈a :: t:=h.symm.mem_iff.1 (List.mem_cons_self ..);have ha':a∈b :: s:=h.mem_iff.1 (List.mem_cons_self ..);rcases List.mem_cons.1 hb with hb | hb
    ·exact hb.symm
    ·rcases List.mem_cons.1 ha' with ha' | ha'
     ·exact ha'
     ·exact ha a (List.mem_cons_self ..) b (List.mem_cons_of_mem _ hb) (p1 b hb) (q1 a ha')
   subst e;rw[uA ((List.perm_cons a).1 h) p2 q2 (fun x hx y hy=>ha x (List.mem_cons_of_mem _ hx) y (List.mem_cons_of_mem _ hy))]
theorem aK6 (a b c:ByteArray × Val) (h1:leN a.1 b.1=true) (h2:leN b.1 c.1=true):leN a.1 c.1=true:=by
 unfold leN at *;have t:=nM a.1.data.toList b.1.data.toList c.1.data.toList;simp only[decide_eq_true_eq] at *;unfold Tri at t;omega
theorem aK7 (a b:ByteArray × Val):(leN a.1 b.1||leN b.1 a.1)=true:=by
 unfold leN;have h:=iE a.1.data.toList b.1.data.toList;simp only[Bool.or_eq_true,decide_eq_true_eq];omega
theorem aJo {l:List (ByteArray × Val)} (h:(l.map (·.1)).Nodup):∀a∈l,∀b∈l,a.1=b.1->a=b:=by
 induction l with
 | nil=>intro a ha;cases ha
 | cons c l ih =>
   rw[List.map_cons,List.nodup_cons] at h;intro a ha b hb e;rcases List.mem_cons.1 ha with ha1 | ha1
   ·rcases List.mem_cons.1 hb with hb1 | hb1
    ·rw[ha1,hb1]
    ·exact absurd (List.mem_map.2 ⟨b,hb1,by rw[<-e,ha1]⟩) h.1
   ·rcases List.mem_cons.1 hb with hb1 | hb1
    ·exact absurd (List.mem_map.2 ⟨a,ha1,by rw[e,hb1]⟩) h.1
    ·exact ih h.2 a ha1 b hb1 e
theorem yU {acc:List (ByteArray × Val)} {ns:List ByteArray} {l:List Val} (hl:ns.length=l.length) (hp:acc.Perm (ns.zip l)) (hs:(ns.zip l).Pairwise (fun a b=>leN a.1 b.1=true)) (hnd:(acc.map (·.1)).Nodup):aGh acc=.mk 9 0 0 ⟨#[]⟩ [] ns l:=by
 have hm:acc.mergeSort (fun a b=>leN a.1 b.1)=ns.zip l:=by
  refine uA (le:=fun a b:ByteArray × Val=>leN a.1 b.1) ((List.mergeSort_perm acc _).trans hp) (List.pairwise_mergeSort (fun a b c=>aK6 a b c) aK7 acc) hs ?_;intro a ha b hb h1 h2;rw[List.mem_mergeSort] at ha hb;refine aJo hnd a ha b hb ?_;unfold leN at h1 h2;have h:=iE a.1.data.toList b.1.data.toList;simp only[decide_eq_true_eq] at h1 h2;exact ByteArray.ext (Array.ext' (rU ga))
 unfold aGh;rw[hm];dsimp only;rw[List.map_fst_zip ga,List.map_snd_zip ga]
end
end Go.Proofs.YtmgpghoamapfgaaGreatDoor
