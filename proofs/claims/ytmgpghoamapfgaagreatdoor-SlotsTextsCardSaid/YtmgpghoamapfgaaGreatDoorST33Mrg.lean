/- A part. -/
import Derived.Test.YtmgpghoamapfgaaGreatDoorST32Mrg
namespace Go.Proofs.YtmgpghoamapfgaaGreatDoor
set_option linter.unusedVariables false
set_option linter.unusedSimpArgs false
open Go Go.RowKit Go.Shelf
/-! ### texts without a newline -/
abbrev NoL (l:List UInt8):Prop:=(10:UInt8) ∉ l
theorem aE3 (n:Int):∀c∈Lib.itoa n,c.toNat=45\/(48<=c.toNat/\c.toNat<=57):=fun c hc=>by
 unfold Lib.itoa at hc;split at hc
 ·rcases List.mem_cons.1 hc with rfl | hc
  ·exact .inl rfl
  ·exact .inr (cQ _ c hc)
 ·exact .inr (cQ _ c hc)
theorem iO (n:Int):NoL (Lib.itoa n):=fun h=>by have:=aE3 n _ h;revert this;decide
theorem aE2 (n:Int):(32:UInt8) ∉ Lib.itoa n:=fun h=>by have:=aE3 n _ h;revert this;decide
theorem oF (n:Int) (h:n.natAbs<9223372036854775808):cG (Lib.itoa n)=true/\dO (Lib.itoa n)=n:=by
 have e:Lib.itoa n=kG n++dW n.natAbs 0:=by
  rw[lG];unfold kG Lib.itoa;split
  ·simp
  ·rename_i hn;rw[show n.toNat=n.natAbs by omega];rfl
 unfold cG dO;rw[e,aF9 n 0 h];exact⟨rfl,rfl⟩
theorem aBu (d:UInt8) (sep:List UInt8) (hs:d ∉ sep):∀ls:List (List UInt8),(∀x∈ls,d ∉ x)->d ∉ Lib.join ls sep
 | [],_=>by rw[Lib.join_nil];exact List.not_mem_nil
 | x :: r,h=>by
   rw[Lib.join_cons];intro e;rcases List.mem_append.1 e with e | e
   ·exact h x (List.mem_cons_self ..) e
   ·unfold Lib.joinTail at e;obtain⟨y,hy,hd⟩:=List.mem_flatten.1 e;obtain⟨z,hz,rfl⟩:=List.mem_map.1 hy;rcases List.mem_append.1 hd with hd | hd
    ·exact hs hd
    ·exact h z (List.mem_cons_of_mem _ hz) hd
theorem qM (c:Nat) (h:c<16):jF c≠10:=by
 have:c=0\/c=1\/c=2\/c=3\/c=4\/c=5\/c=6\/c=7\/c=8\/c=9\/c=10\/c=11\/c=12\/c=13\/c=14\/c=15:=by omega
 rcases this with rfl | rfl | rfl | rfl | rfl | rfl | rfl | rfl | rfl | rfl | rfl | rfl | rfl | rfl | rfl | rfl<;>decide
theorem hexB_no (n:Nat) (h:n<256):NoL (jG n):=by
 unfold jG;split
 ·rename_i hn;intro e;exact qM n hn (List.mem_singleton.1 e).symm
 ·intro e;rcases List.mem_cons.1 e with e | e
  ·exact qM _ ga e.symm
  ·exact qM _ ga (List.mem_singleton.1 e).symm
theorem u8_lt (c:UInt8):c.toNat<256:=c.toNat_lt
theorem aLp {c:UInt8} (h:(10:UInt8)=c):c.toNat=10:=by rw[<-h];rfl
theorem escB_no (c:UInt8):NoL (dB c):=by
 unfold dB;split
 ·rename_i h;intro e;simp only[List.mem_cons,List.not_mem_nil,or_false] at e;rcases e with e | e
  ·exact absurd e gc
  ·have:=aLp e;omega
 split
 ·exact by decide
 split
 ·exact by decide
 split
 ·exact by decide
 split
 ·intro e;simp only[List.mem_cons,List.mem_append,List.not_mem_nil,or_false] at e;rcases e with e | e | e | e | e
  ·exact absurd e gc
  ·exact absurd e gc
  ·exact absurd e gc
  ·exact hexB_no _ (u8_lt c) e
  ·exact absurd e gc
 ·rename_i h _ _ _;intro e;have:=aLp (List.mem_singleton.1 e);omega
theorem aIh (f:UInt8->List UInt8) (hf:∀c,NoL (f c)) (l:List UInt8):NoL (l.flatMap f):=fun e=>by
 obtain⟨c,_,h⟩:=List.mem_flatMap.1 e;exact hf c h
theorem rL (l:List UInt8):NoL (aP l):=by
 unfold aP;intro e;rcases List.mem_cons.1 e with e | e
 ·exact absurd e gc
 rcases List.mem_append.1 e with e | e
 ·exact aIh dB escB_no l e
 ·exact absurd e gc
theorem aNd (l:List UInt8):NoL (gL l):=by
 unfold gL;intro e;rcases List.mem_cons.1 e with e | e
 ·exact absurd e gc
 rcases List.mem_cons.1 e with e | e
 ·exact absurd e gc
 rcases List.mem_append.1 e with e | e
 ·refine aIh eD (fun c=>?_) l e;have hc:=u8_lt c;unfold eD;intro e;rcases List.mem_cons.1 e with e | e
  ·exact qM _ ga e.symm
  ·exact qM _ ga (List.mem_singleton.1 e).symm
 ·exact absurd e gc
theorem aIm (m:Nat):NoL (Lib.decDigits m):=fun e=>by have:=cQ m _ e;revert this;decide
theorem aIo (n:Int) (s:Nat):NoL (cM n s):=by
 have hz:NoL (List.replicate (s+1-(Lib.decDigits n.natAbs).length) 48++Lib.decDigits n.natAbs):=fun e=>by
  rcases List.mem_append.1 e with e | e
  ·exact absurd (List.mem_replicate.1 e).2 gc
  ·exact aIm _ e
 have ha:NoL (fO n.natAbs s):=by
  unfold fO;split
  ·exact aIm _
  ·intro e;rcases List.mem_append.1 e with e | e
   ·exact hz (List.mem_of_mem_take e)
   rcases List.mem_cons.1 e with e | e
   ·exact absurd e gc
   ·exact hz (List.mem_of_mem_drop e)
 unfold cM;split
 ·intro e;rcases List.mem_cons.1 e with e | e
  ·exact absurd e gc
  ·exact ha e
 ·exact ha
theorem aMp (k i s:Int) (t:List UInt8):NoL (dU k i s t):=by
 unfold dU;split
 ·exact by decide
 split
 ·split<;>exact by decide
 split
 ·exact iO i
 split
 ·split
  ·intro e;rcases List.mem_append.1 e with e | e
   ·exact aIo _ _ e
   ·exact absurd e gc
  ·exact aIo _ _
 split
 ·exact rL t
 split
 ·exact aNd t
 split
 ·intro e;simp only[List.mem_cons] at e;rcases e with e | e | e | e | e | e
  all_goals first | exact absurd e gc | exact rL _ e
 ·intro e;simp only[List.mem_cons] at e;rcases e with e | e | e | e | e | e
  all_goals first | exact absurd e gc | exact rL _ e
theorem aI4 {s:ByteArray} (h:aL s=true):NoL s.data.toList:=fun e=>by
 unfold aL iJ at h;split at h
 ·cases h
 ·rename_i hh;rw[hh] at e;simp only[Bool.and_eq_true,decide_eq_true_eq] at h;have:=List.all_eq_true.1 h.2.2 _ e;revert this;decide
theorem qN:∀(ns:List ByteArray) (p:Option ByteArray),eN p ns=0->∀n∈ns,aL n=true
 | m :: ns,p,h,n,hn=>by
   rw[dI] at h;by_cases hm:aL m=false
   ·rw[if_pos hm] at h;cases h
   rw[if_neg hm] at h;have hr:eN (some m) ns=0:=by
    cases p with
    | none=>exact h
    | some q =>
      dsimp only at h;split at h
      ·cases h
      split at h
      ·cases h
      exact h
   rcases List.mem_cons.1 hn with rfl | hn
   ·simpa using hm
   ·exact qN ns _ hr n hn
theorem aIg:∀(ns:List ByteArray) (xs:List (List UInt8)),(∀n∈ns,aL n=true)->(∀x∈xs,NoL x)->∀y∈dN ns xs,NoL y
 | n :: ns,x :: xs,h1,h2,y,hy=>by
   rw[dN] at hy;rcases List.mem_cons.1 hy with rfl | hy
   ·intro e;rcases List.mem_append.1 e with e | e
    ·exact aI4 (h1 n (List.mem_cons_self ..)) e
    rcases List.mem_cons.1 e with e | e
    ·exact absurd e gc
    rcases List.mem_cons.1 e with e | e
    ·exact absurd e gc
    ·exact h2 x (List.mem_cons_self ..) e
   ·exact aIg ns xs (fun m hm=>h1 m (List.mem_cons_of_mem _ hm)) (fun z hz=>h2 z (List.mem_cons_of_mem _ hz)) y hy
 | [],_,_,_,y,hy=>by simp[dN] at hy
 | _ :: _,[],_,_,y,hy=>by simp[dN] at hy
mutual
theorem aLj (lvl:Int):∀d:Val,(∀x∈iX lvl d,eS x.2)->NoL (txt d)
 | .mk k i s t l ns fs,h=>by
   have h0:eS (.mk k i s t l ns fs):=h _ (by rw[iX];exact List.mem_cons_self ..);have hk:∀x∈bQ (wrap64 (lvl+1)) (fA (.mk k i s t l ns fs)),eS x.2:=fun x hx=>h x (by rw[kM];exact List.mem_cons_of_mem _ hx);rw[txt];by_cases h8:k=8
   ·rw[if_pos h8];rw[fA,if_pos (.inl h8)] at hk;have h1:=aBu 10 [44,32] gc (aW l) (tC (wrap64 (lvl+1)) l hk);intro e;rcases List.mem_cons.1 e with e | e
    ·exact absurd e gc
    rcases List.mem_append.1 e with e | e
    ·exact h1 e
    ·exact absurd e gc
   rw[if_neg h8];by_cases h9:k=9
   ·rw[if_pos h9];have hr:dY ns=0:=by have:=h0.2.2;simpa [kK,h9] using this
    have hn:∀n∈ns,aL n=true:=by
     unfold dY at hr;split at hr
     ·cases hr
     ·exact qN _ _ hr
    rw[fA,if_neg ga,if_pos h9] at hk;have h1:=aBu 10 [44,32] gc (dN ns (aW fs)) (aIg ns (aW fs) hn (tC (wrap64 (lvl+1)) fs hk));intro e;rcases List.mem_cons.1 e with e | e
    ·exact absurd e gc
    rcases List.mem_append.1 e with e | e
    ·exact h1 e
    ·exact absurd e gc
   rw[if_neg h9];by_cases h10:k=10
   ·rw[if_pos h10];have hr:cS t l.length=0:=by have:=h0.2.2;simpa [kK,h10] using this
    have hn:=(jB hr).1;rw[fA,if_pos (.inr h10)] at hk;have h1:=tC (wrap64 (lvl+1)) l hk;intro e;rcases List.mem_append.1 e with e | e
    ·exact aI4 hn e
    rcases List.mem_cons.1 e with e | e
    ·exact absurd e gc
    rcases List.mem_append.1 e with e | e
    ·cases hx:aW l with
     | nil=>rw[hx] at e;exact absurd e gd
     | cons y r =>
       rw[hx] at e h1;exact h1 y (List.mem_cons_self ..) e
    ·exact absurd e gc
   rw[if_neg h10];exact aMp k i s _
theorem tC (lvl:Int):∀l:List Val,(∀x∈bQ lvl l,eS x.2)->∀x∈aW l,NoL x
 | [],_,x,hx=>by rw[aW] at hx;exact absurd hx gd
 | d :: l,h,x,hx=>by
   rw[aW] at hx;rcases List.mem_cons.1 hx with rfl | hx
   ·exact aLj lvl d fun y hy=>h y (by rw[bQ];exact List.mem_append_left _ hy)
   ·exact tC lvl l (fun y hy=>h y (by rw[bQ];exact List.mem_append_right _ hy)) x hx
end
theorem aBl {d:Val} (h:(bG d).2=0) (hn:mO d):NoL (bG d).1.data.toList:=by
 obtain⟨h1,h2⟩:=aI8 h;rw[h2];rcases h1 with h1 | h1
 ·rw[aDe h1 hn];exact by decide
 ·obtain⟨lvl,_,h3⟩:=aIe h1;exact aLj lvl d h3
theorem aDz (ls:List Int) (c:UInt8) (hc:(10:UInt8)≠c):NoL (bJ (ls.map aF) ⟨#[c]⟩).data.toList:=by
 have hj:=aBu 10 [c] (fun e=>hc (List.mem_singleton.1 e)) (ls.map Lib.itoa) (fun x hx=>by
  obtain⟨y,_,rfl⟩:=List.mem_map.1 hx;exact iO y)
 intro e;unfold bJ at e;rw[List.map_map] at e;exact hj e
theorem appB (a b:ByteArray):(a++b).data.toList=a.data.toList++b.data.toList:=by simp[ByteArray.data_append]
theorem encF_no {d:Msg} (h:(dJ d).2=0) (hn:mO d.b):NoL (dJ d).1.data.toList:=by
 obtain⟨h1,h2,h3⟩:=aIl h;rw[h3];unfold xT cC;simp only[appB];intro e;simp only[List.mem_append] at e;rcases e with (((((((e | e) | e) | e) | e) | e) | e) | e) | e
 ·exact iO _ e
 ·exact absurd e gc
 ·exact aDz _ 46 gc e
 ·exact absurd e gc
 ·exact iO _ e
 ·exact absurd e gc
 ·exact aDz _ 44 gc e
 ·exact absurd e gc
 ·exact aBl h2 hn e
/-! ### the lines of the text -/
theorem trim_nl (a:List UInt8):Lib.trimSuffix (a++[10]) [10]=a:=by
 unfold Lib.trimSuffix Lib.hasSuffix;rw[if_pos (by rw[List.isSuffixOf_iff_suffix];exact⟨a,rfl⟩)];simp
theorem nZ (x y:ByteArray) (r:List UInt8) (h1:NoL x.data.toList) (h2:NoL y.data.toList) (h3:(32:UInt8) ∉ x.data.toList) :
 (lns (x.data.toList++(32 :: y.data.toList)++10 :: r)).map jS=(x,y) :: (lns r).map jS:=by
 rw[aBk r _ (fun e=>by
  rcases List.mem_append.1 e with e | e
  ·exact h1 e
  rcases List.mem_cons.1 e with e | e
  ·exact absurd e gc
  ·exact h2 e),List.map_cons]
 congr 1;unfold jS;rw[trim_nl];have:=aEu x y h3;have e:(⟨(x.data.toList++32 :: y.data.toList).toArray⟩:ByteArray)=x++(⟨#[32]⟩++y):=by
  apply ByteArray.ext;apply Array.ext';simp[ByteArray.data_append]
 rw[e,this]
theorem aI9 (x y:ByteArray) (r:List UInt8):cP [x,y]++r=x.data.toList++(32 :: y.data.toList)++10 :: r:=by
 unfold cP;simp[Lib.join,List.intercalate,List.intersperse]
theorem line3 (x y z:ByteArray):cP [x,y,z]=cP [x,y++(⟨#[32]⟩++z)]:=by
 unfold cP;simp[Lib.join,List.intercalate,List.intersperse,ByteArray.data_append]
theorem line4 (x y z u:ByteArray):cP [x,y,z,u]=cP [x,y++(⟨#[32]⟩++(z++(⟨#[32]⟩++u)))]:=by
 unfold cP;simp[Lib.join,List.intercalate,List.intersperse,ByteArray.data_append]
theorem aMd {a b:ByteArray} (ha:NoL a.data.toList) (hb:NoL b.data.toList):NoL (a++(⟨#[32]⟩++b)).data.toList:=by
 rw[appB,appB];intro e;rcases List.mem_append.1 e with e | e
 ·exact ha e
 rcases List.mem_append.1 e with e | e
 ·exact absurd e gc
 ·exact hb e
/-! ### what is read out of them -/
theorem nA (n:Int) (r:ByteArray) (h:n.natAbs<9223372036854775808):cD (aF n++(⟨#[32]⟩++r))=(n,r,true):=by
 unfold cD;rw[aEu (aF n) r (aE2 n)];show(dO (Lib.itoa n),r,cG (Lib.itoa n))=_;rw[(oF n h).1,(oF n h).2]
theorem aMc (n:Int) (h:n.natAbs<9223372036854775808):cD (aF n)=(n,⟨#[]⟩,true):=by
 unfold cD;rw[aA3 (aF n) (aE2 n)];show(dO (Lib.itoa n),_,cG (Lib.itoa n))=_;rw[(oF n h).1,(oF n h).2]
theorem aJe (n t:Int) (hn:n.natAbs<9223372036854775808) (ht:t.natAbs<9223372036854775808) (d:Sta):cO d wState (aF n++(⟨#[32]⟩++aF t))=some ⟨n,t,d.l⟩:=by
 unfold cO;rw[if_pos rfl,nA n _ hn];dsimp only;rw[aMc t ht];dsimp only;rw[if_pos ⟨rfl,rfl⟩]
theorem aJc (n t:Int) (k:Val) (hn:n.natAbs<9223372036854775808) (ht:t.natAbs<9223372036854775808) (hk:(bG k).2=0) (hkn:mO k) (d:Sta) :
 cO d wSlot (aF n++(⟨#[32]⟩++(aF t++(⟨#[32]⟩++(bG k).1))))=some ⟨d.n,d.t,d.l++[⟨k,n,t,[],[]⟩]⟩:=by
 unfold cO;rw[if_neg gc,if_pos rfl,nA n _ hn];dsimp only;rw[nA t _ ht];dsimp only;rw[uZ hk hkn,if_pos ⟨rfl,rfl,rfl⟩]
theorem aJd (m:Msg) (hm:(dJ m).2=0) (hn:mO m.b) (a b:Int) (l:List Slot) (x:Slot):cO ⟨a,b,l++[x]⟩ wItem (dJ m).1=some ⟨a,b,l++[fI m x]⟩:=by
 unfold cO;rw[if_neg gc,if_neg gc,if_neg gd,if_pos rfl,aKq m hm hn];dsimp only;rw[fY]
theorem aM0 (v:Val) (hv:(bG v).2=0) (hn:mO v) (a b:Int) (l:List Slot) (x:Slot):cO ⟨a,b,l++[x]⟩ wValue (bG v).1=some ⟨a,b,l++[fQ v x]⟩:=by
 unfold cO;rw[if_neg gc,if_neg gc,if_neg gd,if_neg gc,uZ hv hn,if_pos ⟨rfl,rfl⟩];dsimp only;rw[fY]
theorem sI (a b:Int) (l:List Slot):∀(ms:List Msg) (x:Slot),(∀m∈ms,(dJ m).2=0/\mO m.b) ->
 dR ⟨a,b,l++[x]⟩ (ms.map fun m=>(wItem,(dJ m).1))=some ⟨a,b,l++[⟨x.k,x.n,x.t,x.items++ms,x.vals⟩]⟩
 | [],x,_=>by rw[List.append_nil];rfl
 | m :: ms,x,h=>by
   have h1:=h m (List.mem_cons_self ..);rw[List.map_cons,dR,aJd m h1.1 h1.2];dsimp only;rw[sI a b l ms _ (fun z hz=>h z (List.mem_cons_of_mem _ hz))];simp[fI]
theorem uG (a b:Int) (l:List Slot):∀(vs:List Val) (x:Slot),(∀v∈vs,(bG v).2=0/\mO v) ->
 dR ⟨a,b,l++[x]⟩ (vs.map fun v=>(wValue,(bG v).1))=some ⟨a,b,l++[⟨x.k,x.n,x.t,x.items,x.vals++vs⟩]⟩
 | [],x,_=>by rw[List.append_nil];rfl
 | v :: vs,x,h=>by
   have h1:=h v (List.mem_cons_self ..);rw[List.map_cons,dR,aM0 v h1.1 h1.2];dsimp only;rw[uG a b l vs _ (fun z hz=>h z (List.mem_cons_of_mem _ hz))];simp[fQ]
structure SlGood (x:Slot):Prop where
 n:x.n.natAbs<9223372036854775808
 t:x.t.natAbs<9223372036854775808
 k:(bG x.k).2=0/\mO x.k
 items:∀m∈x.items,(dJ m).2=0/\mO m.b
 vals:∀v∈x.vals,(bG v).2=0/\mO v
def kT (x:Slot):List (ByteArray × ByteArray):=(wSlot,aF x.n++(⟨#[32]⟩++(aF x.t++(⟨#[32]⟩++(bG x.k).1)))) :: ((x.items.map fun m=>(wItem,(dJ m).1))++x.vals.map fun v=>(wValue,(bG v).1))
theorem aGi (a b:Int) (l:List Slot) (x:Slot) (h:SlGood x):dR ⟨a,b,l⟩ (kT x)=some ⟨a,b,l++[x]⟩:=by
 unfold kT;rw[dR,aJc x.n x.t x.k h.n h.t h.k.1 h.k.2];dsimp only;rw[jW _ _ _ _ (sI a b l x.items _ h.items),uG a b l x.vals _ h.vals];rfl
theorem sH (a b:Int):∀(xs l:List Slot),(∀x∈xs,SlGood x)->dR ⟨a,b,l⟩ (xs.flatMap kT)=some ⟨a,b,l++xs⟩
 | [],l,_=>by rw[List.append_nil];rfl
 | x :: xs,l,h=>by
   rw[List.flatMap_cons,jW _ _ _ _ (aGi a b l x (h x (List.mem_cons_self ..))),sH a b xs _ (fun z hz=>h z (List.mem_cons_of_mem _ hz))];simp
theorem zP (r:List UInt8):∀ms:List Msg,(∀m∈ms,(dJ m).2=0/\mO m.b)->(lns (ms.flatMap dM++r)).map jS=(ms.map fun m=>(wItem,(dJ m).1))++(lns r).map jS
 | [],_=>rfl
 | m :: ms,h=>by
   have h1:=h m (List.mem_cons_self ..);rw[List.flatMap_cons,List.append_assoc,dM,aI9,nZ _ _ _ gc (encF_no h1.1 h1.2) gc,zP r ms (fun z hz=>h z (List.mem_cons_of_mem _ hz))];rfl
theorem aCp (r:List UInt8):∀vs:List Val,(∀v∈vs,(bG v).2=0/\mO v)->(lns (vs.flatMap gD++r)).map jS=(vs.map fun v=>(wValue,(bG v).1))++(lns r).map jS
 | [],_=>rfl
 | v :: vs,h=>by
   have h1:=h v (List.mem_cons_self ..);rw[List.flatMap_cons,List.append_assoc,gD,aI9,nZ _ _ _ gc (aBl h1.1 h1.2) gc,aCp r vs (fun z hz=>h z (List.mem_cons_of_mem _ hz))];rfl
theorem aLt (r:List UInt8) (x:Slot) (h:SlGood x):(lns (eL x++r)).map jS=kT x++(lns r).map jS:=by
 unfold eL kU;rw[List.append_assoc,line4,aI9,nZ _ _ _ gc (aMd (iO _) (aMd (iO _) (aBl h.k.1 h.k.2))) gc,List.append_assoc,zP _ _ h.items,aCp _ _ h.vals];unfold kT;rw[List.cons_append,List.append_assoc]
theorem yM:∀xs:List Slot,(∀x∈xs,SlGood x)->(lns (xs.flatMap eL)).map jS=xs.flatMap kT
 | [],_=>rfl
 | x :: xs,h=>by
   rw[List.flatMap_cons,aLt _ x (h x (List.mem_cons_self ..)),yM xs (fun z hz=>h z (List.mem_cons_of_mem _ hz)),List.flatMap_cons]
theorem pA (d:Sta) (h:∀x∈d.l,SlGood x):(lns (oL d)).map jS=(wState,aF d.n++(⟨#[32]⟩++aF d.t)) :: d.l.flatMap kT:=by
 unfold oL kW;rw[line3,aI9,nZ _ _ _ gc (aMd (iO _) (iO _)) gc,yM d.l h]
/-! ### errors -/
theorem rQ {f e:Int} (h:iS f e=0):f=0/\e=0:=by
 unfold iS at h;split at h
 ·rename_i hf;exact⟨hf,h⟩
 ·rename_i hf;exact absurd h hf
theorem qK:∀(l:List Msg) (f:Int),bS f l=0->f=0/\∀m∈l,(dJ m).2=0
 | [],f,h=>⟨h,fun m hm=>absurd hm gd⟩
 | m :: l,f,h=>by
   obtain⟨h1,h2⟩:=qK l (iS f (dJ m).2) h;obtain⟨h3,h4⟩:=rQ h1;exact⟨h3,fun z hz=>(List.mem_cons.1 hz).elim (fun e=>by rw[e];exact h4) (h2 z)⟩
theorem sC:∀(l:List Val) (f:Int),cT f l=0->f=0/\∀v∈l,(bG v).2=0
 | [],f,h=>⟨h,fun m hm=>absurd hm gd⟩
 | m :: l,f,h=>by
   obtain⟨h1,h2⟩:=sC l (iS f (bG m).2) h;obtain⟨h3,h4⟩:=rQ h1;exact⟨h3,fun z hz=>(List.mem_cons.1 hz).elim (fun e=>by rw[e];exact h4) (h2 z)⟩
theorem sG {f:Int} {x:Slot} (h:cU f x=0):f=0/\(bG x.k).2=0/\(∀m∈x.items,(dJ m).2=0)/\∀v∈x.vals,(bG v).2=0:=by
 obtain⟨h1,h2⟩:=sC _ _ h;obtain⟨h3,h4⟩:=qK _ _ h1;obtain⟨h5,h6⟩:=rQ h3;exact⟨h5,h6,h4,h2⟩
theorem pT:∀(l:List Slot) (f:Int),l.foldl cU f=0->f=0/\∀x∈l,cU 0 x=0
 | [],f,h=>⟨h,fun m hm=>absurd hm gd⟩
 | x :: l,f,h=>by
   obtain⟨h1,h2⟩:=pT l (cU f x) h;have h3:=(sG h1).1;subst h3;exact⟨rfl,fun z hz=>(List.mem_cons.1 hz).elim (fun e=>by rw[e];exact h1) (h2 z)⟩
theorem zB {n t:Int} (h:gP n t=0):(-999999999999999<=n/\n<=999999999999999)/\0<=t/\t<=17592186044416:=by
 unfold gP at h;split at h
 ·exact absurd h gc
 ·omega
theorem mX:∀(l:List Slot) (p:Option Val) (acc:List Msg) (nv:Nat),bH p acc nv l=0->∀x∈l,gP x.n x.t=0
 | x :: r,p,acc,nv,h,y,hy=>by
   rw[bH] at h;split at h
   ·rename_i h1;exact absurd h h1.1
   split at h
   ·exact absurd h gc
   split at h
   ·exact absurd h gc
   split at h
   ·rename_i h1;exact absurd h h1
   rename_i h1;rcases List.mem_cons.1 hy with rfl | hy
   ·unfold aO at h1;by_cases hn:gP y.n y.t=0
    ·exact hn
    ·rw[if_pos hn] at h1;exact absurd hn (by simpa using h1)
   ·exact mX r _ _ _ h y hy
def aCf (x:Slot):Prop:=mO x.k/\(∀m∈x.items,mO m.b)/\∀v∈x.vals,mO v
theorem vM {d:Sta} (h:(mQ d).2=0) (hn:∀x∈d.l,aCf x):(d.n.natAbs<9223372036854775808/\d.t.natAbs<9223372036854775808)/\(∀x∈d.l,SlGood x)/\mQ d=(⟨(oL d).toArray⟩,0):=by
 have h0:=aH8 h;unfold mQ at h ⊢;rw[if_neg (by simpa using h0)] at h ⊢;have h1:fT d=0:=by
  by_cases h1:fT d=0
  ·exact h1
  ·rw[if_pos h1] at h;exact h
 rw[if_neg (by simpa using h1)];unfold aM at h0;by_cases hq:gP d.n d.t=0
 ·rw[if_neg (by simpa using hq)] at h0;split at h0
  ·exact absurd h0 gc
  have a:=zB hq;refine⟨⟨by omega,by omega⟩,fun x hx=>?_,rfl⟩;have b:=zB (mX _ _ _ _ h0 x hx);have c:=sG ((pT d.l 0 h1).2 x hx);have e:=hn x hx;exact⟨by omega,by omega,⟨c.2.1,e.1⟩,fun m hm=>⟨c.2.2.1 m hm,e.2.1 m hm⟩,fun v hv=>⟨c.2.2.2 v hv,e.2.2 v hv⟩⟩
 ·rw[if_pos hq] at h0;exact absurd h0 hq
theorem aKo {d:Sta} (h:(mQ d).2=0) (hn:∀x∈d.l,aCf x):aN9 (mQ d).1=some d:=by
 obtain⟨⟨a,b⟩,g,e⟩:=vM h hn;unfold aN9 jY;rw[e];dsimp only;rw[pA d g,dR,aJe d.n d.t a b];dsimp only;rw[sH d.n d.t d.l [] g];dsimp only;rw[List.nil_append,if_pos e]
end Go.Proofs.YtmgpghoamapfgaaGreatDoor
