/- A part. -/
import Derived.Test.YtmgpghoamapfgaaGreatDoorST16Mrg
import Derived.Test.YtmgpghoamapfgaaGreatDoorST25Mrg
import Derived.Test.YtmgpghoamapfgaaGreatDoorST26Mrg
namespace Go.Proofs.YtmgpghoamapfgaaGreatDoor
set_option linter.unusedVariables false
set_option maxRecDepth 100000
set_option maxHeartbeats 16000000
set_option linter.unusedSimpArgs false
section
open Go Go.RowKit Go.Shelf
def dJ (d:Msg):ByteArray × Int:=if eY d≠0 then (⟨#[]⟩,eY d) else if (bG d.b).2≠0 then (⟨#[]⟩,(bG d.b).2) else (xT d (bG d.b).1,0)
theorem aMh (c:MC) (d:Msg) (w:World) (hd:IsMsg (· < w.heap.size) w c d) (hT:Tabs w) (h0:eY d≠0) :
 CP 37 #[c.v] w (Rt (.tuple #[.string ⟨#[]⟩,I6 (eY d)]) w):=by
 have HM:=hid (qR c d w hd hT);obtain⟨x,hx⟩:=ez (eY d)
 have HCK:Hid (∀w1,BB (w.alloc (mObj c)) w1->CP 75 #[c.v] w1 (Rt (I6 x) w1)):=hid fun w1 h=>by
  have q:=qR c d w hd hT w1 h;rw[hx];exact fF c d w1 q.msg q.tabs
 rw[<-hx] at h0 ⊢;have hx0:(x==0)=false:=by simp;exact h0
 have hx1:(x != 0)=true:=by simp;exact h0
 clear hd hT h0 hx;obtain⟨⟨ce,sa,sn,sc⟩,m,a,n,cap,⟨k,i',s,tt,la,ll,lc,fa,fl,fc⟩⟩:=c;have h00:=HM.out _ (Below.refl _ _);have h0t:=h00.ten;dsimp only[Ten,mObj] at h0t;obtain⟨e0,e1,e2,e3,e4,e5,e6,e7,e8,e9⟩:=h0t;clear h00;have hck:=HCK.out _ (Below.refl _ _);have HCK0:=hid hck;dsimp only[mObj,SC.v,VC.v,MC.v] at HM HCK0 ⊢;clear hck HCK;go_enter Tryz.func37,Tryz.ntmps37
 go_wp2_with (first
  | (go_at_call 75;refine HCK0.out.mono ?_;rintro e w2 ⟨rfl,hb2⟩;have HB:=hid (HM.out _ hb2).bel))
 exact bodyPost_ret (v:=.tuple #[.string ⟨#[]⟩,I6 x]) (by simp[results,Tryz.results37,go_sem]) rfl ⟨rfl,HB.out⟩
theorem aMg (c:MC) (d:Msg) (w:World) (hd:IsMsg (· < w.heap.size) w c d) (hT:Tabs w) (hZ:ZTab w) (h0:eY d=0) (h1:(bG d.b).2≠0) :
 CP 37 #[c.v] w (Rt (.tuple #[.string ⟨#[]⟩,I6 (bG d.b).2]) w):=by
 have HM:=hid (qR c d w hd hT);have HCK:Hid (∀w1,BB (w.alloc (mObj c)) w1->CP 75 #[c.v] w1 (Rt (I6 0) w1)):=hid fun w1 h=>by
  have q:=qR c d w hd hT w1 h;rw[<-h0];exact fF c d w1 q.msg q.tabs
 obtain⟨x,hx⟩:=ez ((bG d.b).2)
 obtain⟨t,ht⟩:=ez ((bG d.b).1)
 have HLT:Hid (∀w1,BB (w.alloc (mObj c)) w1->CP 36 #[c.b.v] w1 (Rt (.tuple #[.string t,I6 x]) w1)):=hid fun w1 h=>by
  have q:=qR c d w hd hT w1 h;rw[hx,ht];exact jP c.b d.b w1 q.msg.b q.tabs (hZ.below q.bel)
 rw[<-hx] at h1 ⊢;have hx0:(x==0)=false:=by simp;exact h1
 have hx1:(x != 0)=true:=by simp;exact h1
 clear hd hT h0 h1 hx ht hZ;obtain⟨⟨ce,sa,sn,sc⟩,m,a,n,cap,⟨k,i',s,tt,la,ll,lc,fa,fl,fc⟩⟩:=c;have h00:=HM.out _ (Below.refl _ _);have h0t:=h00.ten;dsimp only[Ten,mObj] at h0t;obtain⟨e0,e1,e2,e3,e4,e5,e6,e7,e8,e9⟩:=h0t;clear h00;have hck:=HCK.out _ (Below.refl _ _);have HCK0:=hid hck;dsimp only[mObj,SC.v,VC.v,MC.v] at HM HCK0 HLT ⊢;clear hck HCK;go_enter Tryz.func37,Tryz.ntmps37
 go_wp2_with (first
  | (go_at_call 75;refine HCK0.out.mono ?_;rintro e w2 ⟨rfl,hb2⟩;obtain⟨⟨j0,j1,j2,j3,j4,j5,j6,j7,j8,j9⟩,_,_,_⟩:=HM.out _ hb2;clear e0 e1 e2 e3 e4 e5 e6 e7 e8 e9)
  | (go_at_call 36;refine(HLT.out _ hb2).mono ?_;rintro e w3 ⟨rfl,hb3⟩;have HB:=hid (HM.out _ (hb2.trans (hb3.mono hb2.size))).bel))
 exact bodyPost_ret (v:=.tuple #[.string ⟨#[]⟩,I6 x]) (by simp[results,Tryz.results37,go_sem]) rfl ⟨rfl,HB.out⟩
theorem pE (c:MC) (d:Msg) (w:World) (hd:IsMsg (· < w.heap.size) w c d) (hT:Tabs w) (hZ:ZTab w) :
 CP 37 #[c.v] w (Rt (.tuple #[.string (dJ d).1,I6 (dJ d).2]) w):=by
 unfold dJ;by_cases h0:eY d=0
 ·rw[if_neg (fun h=>h h0)];by_cases h1:(bG d.b).2=0
  ·rw[if_neg (fun h=>h h1)];refine aBi c d w hd hT (bG d.b).1 h0 (dC d.b) fun w' h=>?_;have q:=jP c.b d.b w' (hd.b.same fun b hb=>⟨Nat.lt_of_lt_of_le hb h.size,h.block b hb⟩) (hT.below h) (hZ.below h);rw[h1] at q;exact q
  ·rw[if_pos h1];exact aMg c d w hd hT hZ h0 h1
 ·rw[if_pos h0];exact aMh c d w hd hT h0
theorem aIl {d:Msg} (h:(dJ d).2=0):eY d=0/\(bG d.b).2=0/\(dJ d).1=xT d (bG d.b).1:=by
 unfold dJ at h ⊢;by_cases h0:eY d=0
 ·by_cases h1:(bG d.b).2=0
  ·exact⟨h0,h1,by rw[if_neg (fun h=>h h0),if_neg (fun h=>h h1)]⟩
  ·rw[if_neg (fun h=>h h0),if_pos h1] at h;exact absurd h h1
 ·rw[if_pos h0] at h;exact absurd h h0
end
section
open Go Go.RowKit Go.Shelf
def qT (s:ByteArray):Option Msg:=match gF 4 s with
 | [a,b,c,e]=>match iY a.data.toList with
   | none=>none
   | some st=>if cG b.data.toList=true/\(eX e).2.2=0/\(spl 44 c.data.toList).all cG=true/\dJ ⟨st,dO b.data.toList,(spl 44 c.data.toList).map dO,(eX e).1⟩=(s,0)
     then some ⟨st,dO b.data.toList,(spl 44 c.data.toList).map dO,(eX e).1⟩ else none
 | _=>none
theorem wT (n:Int) (h:0<=n) (h2:n<9223372036854775808):cG (Lib.itoa n)=true/\dO (Lib.itoa n)=n:=by
 rw[qI n h];unfold cG dO;rw[aFa n.toNat ga];exact⟨rfl,by simp;omega⟩
theorem aIc (n:Int) (h:0<=n) (c d:UInt8) (hd:d.toNat<48) (hc:c∈Lib.itoa n):c≠d:=fun e=>qH n h d hd (e▸hc)
theorem aIb (d c:UInt8) (h:c≠d):∀ls:List (List UInt8),(∀x∈ls,d ∉ x)->d ∉ Lib.join ls [c]
 | [],_=>fun e=>absurd e (by simp[Lib.join,List.intercalate])
 | [x],h1=>by rw[aDy];exact h1 x (List.mem_cons_self ..)
 | x :: y :: r,h1=>by
   have ih:=aIb d c h (y :: r) (fun z hz=>h1 z (List.mem_cons_of_mem _ hz));rw[aDx];intro e;rcases List.mem_append.1 e with e | e
   ·rcases List.mem_append.1 e with e | e
    ·exact h1 x (List.mem_cons_self ..) e
    ·exact h (List.mem_singleton.1 e).symm
   ·exact ih e
theorem aKl:∀(es:List Int) (k:Nat),k<=es.length->gJ es k=0->∀j (h:j<es.length),k<=j->kE es[j]=true:=fun es k hk h0=>by
 obtain⟨n,hn⟩:=ez (es.length-k)
 induction n generalizing k with
 | zero=>intro j h hj;omega
 | succ n ih =>
   intro j h hj;have hlt:k<es.length:=by omega
   have hb:kE es[k]=true:=by
    cases hb:kE es[k]
    ·have:=zX es k hlt hb;rw[h0] at this;cases this
    ·rfl
   by_cases e:j=k
   ·subst e;exact hb
   have hl:k=0\/es[k-1]<es[k]:=by
    rcases Nat.eq_zero_or_pos k with h1 | h1
    ·exact .inl h1
    ·right;by_cases h2:es[k]<=es[k-1]
     ·have:=vW es k hlt hb h1 h2;rw[h0] at this;cases this
     ·omega
   exact ih (k+1) ga (by rw[<-vV es k hlt hb hl];exact h0) ga j h ga
theorem aBe {d:Msg} (h:eY d=0):bI d.st=0/\0<=d.m/\d.m<=1099511627776/\d.es≠[]/\(∀x∈d.es,1<=x/\x<=1048576)/\nO d.b=0:=by
 unfold eY at h;split at h
 ·contradiction
 rename_i h1;split at h
 ·simp at h
 rename_i h2;split at h
 ·simp at h
 rename_i h3;split at h
 ·simp at h
 split at h
 ·contradiction
 rename_i h5;have q:nF d.m=false:=by
  cases hb:nF d.m
  ·rfl
  ·exact absurd hb h2
 unfold nF at q;simp at q;have h5':gJ d.es 0=0:=by simpa using h5
 refine⟨by simpa using h1,by omega,by omega,h3,fun x hx=>?_,h⟩;obtain⟨j,hj,rfl⟩:=List.mem_iff_getElem.1 hx;have:=aKl d.es 0 (Nat.zero_le _) h5' j hj (Nat.zero_le _);unfold kE at this;simp at this;exact this
theorem uR (d:Msg) (t:ByteArray) (h:eY d=0):gF 4 (xT d t)=[cC d.st,aF d.m,bJ (d.es.map aF) ⟨#[44]⟩,t]:=by
 obtain⟨h1,h2,h3,h4,h5,_⟩:=aBe h;obtain⟨g1,g2,g3,g4⟩:=rH h1;have e:xT d t=cC d.st++(⟨#[32]⟩++(aF d.m++(⟨#[32]⟩++(bJ (d.es.map aF) ⟨#[44]⟩++(⟨#[32]⟩++t))))):=by
  unfold xT;apply ByteArray.ext;simp[ByteArray.data_append]
 rw[e];unfold gF;have hz:min 4 ((cC d.st++(⟨#[32]⟩++(aF d.m++(⟨#[32]⟩++(bJ (d.es.map aF) ⟨#[44]⟩++(⟨#[32]⟩++t)))))).size+1)-1=3:=by
  simp only[ByteArray.size_append];have e1:(⟨#[32]⟩:ByteArray).size=1:=rfl;omega
 rw[hz];have hj:∀(ls:List Int) (c:UInt8),(32:UInt8)≠c->(∀x∈ls,0<=x)->∀b∈(bJ (ls.map aF) ⟨#[c]⟩).data.toList,b≠32:=fun ls c hc hl b hb e=>by
  subst e;have hb':(32:UInt8)∈Lib.join ((ls.map aF).map fun x=>x.data.toList) [c]:=by unfold bJ at hb;exact hb
  refine aIb 32 c (fun e=>hc e.symm) ((ls.map aF).map fun x=>x.data.toList) (fun x hx=>?_) hb';rw[List.map_map,List.mem_map] at hx;obtain⟨y,hy,rfl⟩:=hx;exact qH y (hl y hy) 32 gc
 have hs:∀b∈(cC d.st).data.toList,b≠32:=fun b hb=>by
  unfold cC at hb;simp only[ByteArray.data_append,Array.toList_append] at hb;rcases List.mem_append.1 hb with hb | hb
  ·rcases List.mem_append.1 hb with hb | hb
   ·exact aIc d.st.e ga b 32 gc hb
   ·rintro rfl;exact absurd hb gc
  ·exact hj d.st.ps 46 gc (fun x hx=>(g4 x hx).1) b hb
 rw[mV 2 _ _ hs,mV 1 _ _ (fun b hb=>aIc d.m h2 b 32 gc hb),mV 0 _ _ (hj d.es 44 gc (fun x hx=>by have:=h5 x hx;omega))];rfl
theorem aKq (d:Msg) (h:(dJ d).2=0) (hn:mO d.b):qT (dJ d).1=some d:=by
 obtain⟨h1,h2,h3⟩:=aIl h;obtain⟨g1,g2,g3,g4,g5,g6⟩:=aBe h1;have ho:spl 44 (bJ (d.es.map aF) ⟨#[44]⟩).data.toList=d.es.map Lib.itoa:=by
  have e:(bJ (d.es.map aF) ⟨#[44]⟩).data.toList=Lib.join (d.es.map Lib.itoa) [44]:=by
   unfold bJ;rw[List.map_map];rfl
  rw[e];refine tZ 44 _ (by simpa using g4) fun x hx=>?_;rw[List.mem_map] at hx;obtain⟨y,hy,rfl⟩:=hx;exact qH y (by have:=g5 y hy;omega) 44 gc
 have ha:(d.es.map Lib.itoa).all cG=true:=by
  rw[List.all_eq_true];intro z hz;rw[List.mem_map] at hz;obtain⟨y,hy,rfl⟩:=hz;have q:=g5 y hy;exact(wT y ga ga).1
 have hv:(d.es.map Lib.itoa).map dO=d.es:=by
  rw[List.map_map];refine(List.map_congr_left fun x hx=>?_).trans (List.map_id _);have q:=g5 x hx;exact(wT x ga ga).2
 have hm:=wT d.m g2 ga;have hp:=uZ h2 hn;have he:dJ d=((dJ d).1,0):=by rw[<-h]
 unfold qT;rw[h3,uR d _ h1];dsimp only;rw[aD7 d.st g1];dsimp only;rw[ho,ha,hv,hp,show(aF d.m).data.toList=Lib.itoa d.m from rfl,hm.1,hm.2];dsimp only;rw[if_pos ⟨rfl,rfl,rfl,by rw[<-h3];exact he⟩]
end
end Go.Proofs.YtmgpghoamapfgaaGreatDoor
