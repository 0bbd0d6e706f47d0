/- A part. -/
import Derived.Test.YtmgpghoamapfgaaGreatDoorST33Mrg
import Derived.Test.YtmgpghoamapfgaaGreatDoorST35Mrg
import Derived.Test.YtmgpghoamapfgaaGreatDoorST36Mrg
namespace Go.Proofs.YtmgpghoamapfgaaGreatDoor
set_option linter.unusedVariables false
set_option maxRecDepth 100000
set_option maxHeartbeats 16000000
set_option linter.unusedSimpArgs false
open Go Go.RowKit Go.Shelf
theorem aC2 {f e:Int} (h:f≠0):iS f e=f:=if_neg h
theorem mC {f:Int} (h:f≠0):∀l:List Msg,bS f l=f
 | []=>rfl
 | a :: r=>by show bS (iS f (dJ a).2) r=f;rw[aC2 h];exact mC h r
theorem lA {f:Int} (h:f≠0):∀l:List Val,cT f l=f
 | []=>rfl
 | a :: r=>by show cT (iS f (bG a).2) r=f;rw[aC2 h];exact lA h r
theorem aEd {f:Int} (h:f≠0):∀l:List Slot,l.foldl cU f=f
 | []=>rfl
 | a :: r=>by
   show r.foldl cU (cU f a)=f;rw[show cU f a=f by unfold cU;rw[aC2 h,mC h,lA h]];exact aEd h r
theorem aFm (d:Sta) (k:Nat) (hk:k<d.l.length) (y:Slot) (hy:y=d.l[k]):gE d (k+1)=gE d k++eL y:=by subst hy;exact tP d k hk
theorem aKj (d:Sta) (k:Nat) (hk:k<d.l.length) (y:Slot) (hy:y=d.l[k]):qQ d (k+1)=cU (qQ d k) y:=by subst hy;exact rR d k hk
theorem aLr (d:Sta) (k:Nat) (hk:k<d.l.length) (h0:qQ d k=0) (y:Slot) (hy:y=d.l[k]) (hne:cU 0 y≠0):fT d=cU 0 y:=by
 subst hy;have e1:(d.l.take (k+1)).foldl cU 0=cU 0 d.l[k]:=by have:=rR d k hk;rw[h0] at this;exact this
 calc fT d=(d.l.take (k+1)++d.l.drop (k+1)).foldl cU 0:=by rw[List.take_append_drop];rfl
  _=cU 0 d.l[k]:=by rw[List.foldl_append,e1];exact aEd hne _
theorem qL (l:List Msg) (j:Nat) (hj:j<l.length) (h0:bS 0 (l.take j)=0):bS 0 (l.take (j+1))=(dJ l[j]).2:=by
 rw[List.take_succ_eq_append_getElem hj];unfold bS at h0 ⊢;rw[List.foldl_append,h0];show iS 0 _=_;exact if_pos rfl
theorem aBv (l:List Msg) (j:Nat) (hj:j<l.length) (h0:bS 0 (l.take j)=0) (u:Msg) (hu:u=l[j]) (he:(dJ u).2=0):bS 0 (l.take (j+1))=0:=by subst hu;rw[qL l j hj h0,he]
theorem aH2 (l:List Msg) (j:Nat) (hj:j<l.length) (h0:bS 0 (l.take j)=0) (u:Msg) (hu:u=l[j]) (hne:(dJ u).2≠0):bS 0 l=(dJ u).2:=by
 subst hu;have e1:=qL l j hj h0
 calc bS 0 l=bS 0 (l.take (j+1)++l.drop (j+1)):=by rw[List.take_append_drop]
  _=bS (bS 0 (l.take (j+1))) (l.drop (j+1)):=List.foldl_append ..
  _=_:=by rw[e1];exact mC hne _
theorem sD (l:List Val) (j:Nat) (hj:j<l.length) (h0:cT 0 (l.take j)=0):cT 0 (l.take (j+1))=(bG l[j]).2:=by
 rw[List.take_succ_eq_append_getElem hj];unfold cT at h0 ⊢;rw[List.foldl_append,h0];show iS 0 _=_;exact if_pos rfl
theorem aCq (l:List Val) (j:Nat) (hj:j<l.length) (h0:cT 0 (l.take j)=0) (u:Val) (hu:u=l[j]) (he:(bG u).2=0):cT 0 (l.take (j+1))=0:=by subst hu;rw[sD l j hj h0,he]
theorem aIy (l:List Val) (j:Nat) (hj:j<l.length) (h0:cT 0 (l.take j)=0) (u:Val) (hu:u=l[j]) (hne:(bG u).2≠0):cT 0 l=(bG u).2:=by
 subst hu;have e1:=sD l j hj h0
 calc cT 0 l=cT 0 (l.take (j+1)++l.drop (j+1)):=by rw[List.take_append_drop]
  _=cT (cT 0 (l.take (j+1))) (l.drop (j+1)):=List.foldl_append ..
  _=_:=by rw[e1];exact lA hne _
/-! the lines as the law adds them -/
theorem bEq {a b:ByteArray} (h:a.data.toList=b.data.toList):a=b:=ByteArray.ext (Array.ext' h)
theorem aMx (n t:Int):(⟨#[115,116,97,116,101,32]⟩:ByteArray)++aF n++⟨#[32]⟩++aF t++⟨#[10]⟩=⟨(kW n t).toArray⟩:=by
 apply bEq;simp[kW,cP,Lib.join,List.intercalate,List.intersperse,wState,ByteArray.data_append]
theorem aG2 (l:List UInt8) (y:Slot) (tk:ByteArray) (h:tk=(bG y.k).1):(⟨l.toArray⟩:ByteArray)++⟨#[115,108,111,116,32]⟩++aF y.n++⟨#[32]⟩++aF y.t++⟨#[32]⟩++tk++⟨#[10]⟩=⟨(l++kU y).toArray⟩:=by
 apply bEq;rw[h];simp[kU,cP,Lib.join,List.intercalate,List.intersperse,wSlot,ByteArray.data_append]
theorem aH3 (l:List UInt8) (u:Msg) (tu:ByteArray) (h:tu=(dJ u).1):(⟨l.toArray⟩:ByteArray)++⟨#[105,116,101,109,32]⟩++tu++⟨#[10]⟩=⟨(l++dM u).toArray⟩:=by
 apply bEq;rw[h];simp[dM,cP,Lib.join,List.intercalate,List.intersperse,wItem,ByteArray.data_append]
theorem aIz (l:List UInt8) (u:Val) (tu:ByteArray) (h:tu=(bG u).1):(⟨l.toArray⟩:ByteArray)++⟨#[118,97,108,117,101,32]⟩++tu++⟨#[10]⟩=⟨(l++gD u).toArray⟩:=by
 apply bEq;rw[h];simp[gD,cP,Lib.join,List.intercalate,List.intersperse,wValue,ByteArray.data_append]
theorem aMa {n t:Int} (h:gP n t=0):(-9223372036854775808<n/\n<=9223372036854775807)/\(-9223372036854775808<t/\t<=9223372036854775807):=by
 unfold gP at h;split at h
 ·exact absurd h gc
 ·omega
theorem sR {d:Sta} (h:aM d=0):gP d.n d.t=0/\∀x∈d.l,gP x.n x.t=0:=by
 unfold aM at h;split at h
 ·rename_i h1;exact absurd h h1
 ·rename_i h1;split at h
  ·exact absurd h gc
  ·exact⟨by simpa using h1,mX _ _ _ _ h⟩
theorem aDt (c:StC) (d:Sta) (w:World) (hd:IsSta (· < w.heap.size) w c d) (hT:Tabs w) (h0:aM d≠0) :
 CP 8 #[c.v] w (Rt (.tuple #[.string ⟨#[]⟩,I6 (aM d)]) w):=by
 obtain⟨sn,st,a,sl,sc⟩:=c;have hb0:BB w (w.alloc (.cells #[I6 sn,I6 st,.slice a sl sc] 24)):=(bR w).alloc lr _;have hck:=mL ⟨sn,st,a,sl,sc⟩ d (w.alloc (.cells #[I6 sn,I6 st,.slice a sl sc] 24)) (hd.same fun b q=>⟨Nat.lt_of_lt_of_le q hb0.size,hb0.block b q⟩) (hT.below hb0);obtain⟨x,hx⟩:=ez (aM d)
 rw[<-hx] at hck h0 ⊢;have hx0:(x==0)=false:=by simp;exact h0
 have hx1:(x != 0)=true:=by simp;exact h0
 have Hh:=hid hck;have Hi:=hid hb0;have HG:=hid (heap_alloc_new w (.cells #[I6 sn,I6 st,.slice a sl sc] 24));clear hck hb0 hd hT h0 hx;dsimp only[StC.v] at Hh ⊢;go_enter Tryz.func8,Tryz.ntmps8
 go_wp2_with (go_at_call 39;refine Hh.out.mono ?_;rintro e w1 ⟨rfl,hb1⟩;have Hw:=hid (Hi.out.trans (hb1.mono Hi.out.size));clear hb1)
 go_ret2
 exact⟨rfl,Hw.out⟩
theorem aGy (c:StC) (d:Sta) (w:World) (hd:IsSta (· < w.heap.size) w c d) (hT:Tabs w) (hZ:ZTab w) (hsz:Sz 2000 d.l) (h0:aM d=0) :
 CP 8 #[c.v] w (Rt (.tuple #[.string (if fT d≠0 then ⟨#[]⟩ else ⟨(oL d).toArray⟩),I6 (fT d)]) w):=by
 obtain⟨sn,st,a,sl,sc⟩:=c;obtain⟨wb,hwb⟩:=ez (w.alloc (.cells #[I6 sn,I6 st,.slice a sl sc] 24))
 have hb0:BB w wb:=by rw[hwb];exact(bR w).alloc lr _
 have hg:wb.heap[w.heap.size]?=some (.cells #[I6 sn,I6 st,.slice a sl sc] 24):=by rw[hwb];exact heap_alloc_new w _
 have hck:=mL ⟨sn,st,a,sl,sc⟩ d wb (hd.same fun b q=>⟨Nat.lt_of_lt_of_le q hb0.size,hb0.block b q⟩) (hT.below hb0);rw[h0] at hck;have Hh:=hid hck;have Hi:=hid hb0;have HT:Hid (∀w',BB w w'->Tabs w'/\ZTab w'):=hid fun w' h=>⟨hT.below h,hZ.below h⟩
 have HG:Hid (∀w',BB wb w'->Ce w' w.heap.size 0 (I6 sn)/\Ce w' w.heap.size 1 (I6 st)/\Ce w' w.heap.size 2 (.slice a sl sc)):=hid fun w' h=>by
  have h1:=aB h hg;exact⟨aA h1 0,aA h1 1,aA h1 2⟩
 have HC:Hid (∀w',BB wb w'->Ce w' w.heap.size 0 (I6 sn)/\Ce w' w.heap.size 1 (I6 st)):=hid fun w' h=>⟨(HG.out w' h).1,(HG.out w' h).2.1⟩
 have hbig:=hd.l.big;have HD:=hid hd.l;have HL:=hid hd.l.len;have Hk:=hid (And.intro hd.n hd.t);have Kd:=hid (sR h0).2;have H1:=hid hsz;have Hl:=hid (show(I64 d.n/\I64 d.t)/\∀x∈d.l,I64 x.n/\I64 x.t from⟨⟨hd.rn,hd.rt⟩,fun x hx=>by
  rcases hd.l.at' with e | ⟨b,o,_,_,q⟩
  ·rw[e] at hx;exact absurd hx gd
  ·obtain⟨j,hj,rfl⟩:=List.getElem_of_mem hx;obtain⟨y,_,hy⟩:=q j hj;exact⟨hy.rn,hy.rt⟩⟩)
 dsimp only at hbig HD HL Hk;have Hv:=hid (show -9223372036854775808<sn/\sn<=9223372036854775807 /\ -9223372036854775808<st/\st<=9223372036854775807 from by
  have q:=aMa (sR h0).1;rw[Hk.out.1,Hk.out.2];exact⟨q.1.1,q.1.2,q.2.1,q.2.2⟩)
 have H9:=hid hwb;obtain⟨V,hV⟩:=ez (if fT d≠0 then ⟨#[]⟩ else ⟨(oL d).toArray⟩:ByteArray)
 obtain⟨er,hx⟩:=ez (fT d)
 rw[<-hV,<-hx];have Hu:=hid (And.intro hV hx);obtain⟨k0,k1,k2⟩:=HG.out wb (Below.refl _ _);rw[hwb] at k0 k1 k2;clear hck hb0 hd hT hZ hsz h0 hg hwb hV hx;dsimp only[StC.v] at Hh ⊢;go_enter Tryz.func8,Tryz.ntmps8
 rw[H9.out] at Hh;go_upto_region 4 with (go_at_call 39;refine Hh.out.mono ?_;rintro e w1 ⟨rfl,hb1⟩;have Hw:=hid hb1;clear hb1)
 rw[<-H9.out] at Hw;clear k0 k1 k2;have z1:=bX sn (by rw[Hk.out.1];exact Hl.out.1.1);have z2:=bX st (by rw[Hk.out.2];exact Hl.out.1.2);have q1:¬ 9223372036854775807<6+(aF sn).size:=by omega
 have q2:¬ 9223372036854775807<6+(aF sn).size+1:=by omega
 have q3:¬ 9223372036854775807<6+(aF sn).size+1+(aF st).size:=by omega
 have q4:¬ 9223372036854775807<6+(aF sn).size+1+(aF st).size+1:=by omega
 clear z1 z2;refine wp_region_held_drew (S:=(fun w'=>BB wb w')) ge (Hw.out.drew) (fun hS=>?_);refine tc 0 HC ?_;refine tc 1 HC ?_;refine tc 5 HC ?_;refine tc 6 HC ?_;refine yr 2 fun K hK=>?_;go_simp;go_at_call 40;refine(mI sn Hv.out.1 Hv.out.2.1 _).mono ?_;rintro e w2 ⟨rfl,hb2⟩;refine hK.out _ _ (hS.trans (hb2.mono hS.size)) (fun hS=>?_);clear hK K
 (try simp only[Act.put,pq])
 refine tc 3 HC ?_;refine tc 4 HC ?_;refine yr 7 fun K hK=>?_;go_simp;go_at_call 40;refine(mI st Hv.out.2.2.1 Hv.out.2.2.2 _).mono ?_;rintro e w7 ⟨rfl,hb7⟩;refine hK.out _ _ (hS.trans (hb7.mono hS.size)) (fun hS=>?_);clear hK K
 (try simp only[Act.put,pq])
 refine tc 8 HC ?_;refine tc 9 HC ?_;refine tc 10 HC ?_;refine wpAnyH_done ge ?_ _
 (try dsimp only)
 have Ke:=hid hS;clear hS HC q1 q2 q3 q4
 (try clear hb2)
 (try clear hb7)
 go_wp2
 go_loopw [5,6] (fun v i wr=>∃(k:Nat) (P:ByteArray),k<=sl/\v=.string P/\i=I6 k/\P=⟨(gE d k).toArray⟩/\BB wb wr/\qQ d k=0) (fun _ i _=>sl-(intOf i).toNat)
 case atStart=>exact⟨0,_,Nat.zero_le _,rfl,rfl,by rw[tO,<-Hk.out.1,<-Hk.out.2];exact aMx sn st,Ke.out,zW d⟩
 case round =>
  obtain⟨k,P,hk,rfl,rfl,hP,hbr,hez⟩:=hrel;obtain⟨wp,rfl⟩:=ez (wr:World)
  have H4:=hid hbr;have Hx:=hid hez;have k2:=(HG.out wp hbr).2.2;clear hez;by_cases hlt:k<sl
  ·have hkl:k<d.l.length:=by have:=HL.out;omega
   have Ka:=hid hkl;have hbw:=Hi.out.trans (hbr.mono Hi.out.size);obtain⟨b,o,rfl,hb,hx⟩:=HD.out.slot (show 0<sl by omega);obtain⟨x,hxa,hxi0⟩:=hx k hkl;have hxi:IsSl (· < w.heap.size) w x d.l[k]:=hxi0;clear hxi0;obtain⟨x0,x1,x2,x3,x4,x5,x6,x7,x8,x9⟩:=(hxa.same (hbw.block b hb)).slot;have hlt':(k:Int)<(sl:Int):=by omega
   have hk0:(0:Int)<=(k:Int):=by omega
   obtain⟨y,hy⟩:=ez (d.l[k])
   rw[<-hy] at hxi;have HY:=hid hy;have Hc:=hid (show IsSl (· < w.heap.size) w x y from hxi);have QN:=hid (show x.n=y.n from hxi.n);have QT:=hid (show x.t=y.t from hxi.t);have HN:=hid (show(-9223372036854775808<x.n/\x.n<=9223372036854775807)/\(-9223372036854775808<x.t/\x.t<=9223372036854775807) from by
    rw[QN.out,QT.out];exact aMa (Kd.out y (by rw[hy];exact List.getElem_mem hkl)))
   have HN:=hid (show -9223372036854775808<x.n/\x.n<=9223372036854775807 /\ -9223372036854775808<x.t/\x.t<=9223372036854775807 from⟨HN.out.1.1,HN.out.1.2,HN.out.2.1,HN.out.2.2⟩);have hbigI:=hxi.items.big;have hbigV:=hxi.vals.big
   (try dsimp only at hbigI hbigV)
   have Hy:=hid (show y.items.length<=2000/\y.vals.length<=2000 from H1.out.2 y (by rw[hy];exact List.getElem_mem hkl));have hPz:P.size<=100+2000 * 352000000:=by rw[hP,aU];exact yC H1.out Hl.out k (by have:=H1.out.1;have:=HL.out;omega)
   have HP:=hid hP;have Hd:=hid hPz;clear hP hPz;have Hm:Hid (∀e,e≠0->cU 0 y=e->(Ending.returned (.tuple #[.string ⟨#[]⟩,I6 e]))=.returned (.tuple #[.string V,I6 er])):=hid fun e h1 h2=>by
    have q:=aLr d k hkl Hx.out y hy (by rw[h2];exact h1);rw[h2] at q;rw[Hu.out.1,Hu.out.2,q,if_pos h1]
   clear hx hxa hxi hb hy hbr;go_upto_region 9 with (fail)
   clear x0 x1 x2 x3 x4 x5 x6 x7 x8 x9 k2;obtain⟨wx,hwx⟩:=ez (wp.alloc (oS x 66))
   rw[<-hwx];have hbx0:BB wb wx:=by rw[hwx];exact H4.out.alloc H4.out.size _
   have hgx:wx.heap[wp.heap.size]?=some (oS x 66):=by rw[hwx];exact heap_alloc_new _ _
   have Hs:=hid hbx0;have Hf:=hid (Hi.out.trans (hbx0.mono Hi.out.size));have HX:Hid (∀w',BB wx w'->(Ce w' wp.heap.size 0 (I6 x.k.k)/\Ce w' wp.heap.size 1 (I6 x.k.i)/\Ce w' wp.heap.size 2 (I6 x.k.s)/\Ce w' wp.heap.size 3 (.string x.k.t)/\Ce w' wp.heap.size 4 (.slice x.k.la x.k.ll x.k.lc)/\Ce w' wp.heap.size 5 (.slice x.k.fa x.k.fl x.k.fc)/\Ce w' wp.heap.size 6 (I6 x.n)/\Ce w' wp.heap.size 7 (I6 x.t))/\Ce w' wp.heap.size 8 (.slice x.ia x.il x.ic)/\Ce w' wp.heap.size 9 (.slice x.va x.vl x.vc)):=hid fun w' h=>by
    have h1:=aB h hgx;exact⟨⟨aA h1 0,aA h1 1,aA h1 2,aA h1 3,aA h1 4,aA h1 5,aA h1 6,aA h1 7⟩,aA h1 8,aA h1 9⟩
   have Ha:Hid (∀w',BB wx w'->Ce w' wp.heap.size 6 (I6 x.n)/\Ce w' wp.heap.size 7 (I6 x.t)):=hid fun w' h=>by
    have h1:=aB h hgx;exact⟨aA h1 6,aA h1 7⟩
   have hcl:=jP x.k y.k wx (Hc.out.k.same fun b q=>⟨Nat.lt_of_lt_of_le q Hf.out.size,Hf.out.block b q⟩) (HT.out wx Hf.out).1 (HT.out wx Hf.out).2;dsimp only[VC.v] at hcl;obtain⟨tk,htk⟩:=ez ((bG y.k).1)
   obtain⟨ek,hek⟩:=ez ((bG y.k).2)
   rw[<-htk,<-hek] at hcl;have Hh:=hid hcl;have HK:=hid (And.intro htk hek);obtain⟨⟨l0,l1,l2,l3,l4,l5,l6,l7⟩,l8,l9⟩:=HX.out wx (Below.refl _ _);clear hwx hbx0 hgx hcl htk hek;by_cases he0:ek=0
   ·subst he0;have H3:=hid (show iS 0 (bG y.k).2=0 by rw[<-HK.out.2];rfl);go_upto_region 12 with (go_at_call 36;refine Hh.out.mono ?_;rintro e w9 ⟨rfl,hb9⟩;have H5:=hid hb9;clear hb9)
    clear l0 l1 l2 l3 l4 l5 l6 l7 l8 l9;have z1:=bX x.n (by rw[QN.out];exact Hc.out.rn);have z2:=bX x.t (by rw[QT.out];exact Hc.out.rt);have z3:tk.size<=110000:=by rw[HK.out.1];have:=dC y.k;omega
    have z4:=Hd.out;have q1:¬ 9223372036854775807<P.size+5:=by omega
    have q2:¬ 9223372036854775807<P.size+5+(aF x.n).size:=by omega
    have q3:¬ 9223372036854775807<P.size+5+(aF x.n).size+1:=by omega
    have q4:¬ 9223372036854775807<P.size+5+(aF x.n).size+1+(aF x.t).size:=by omega
    have q5:¬ 9223372036854775807<P.size+5+(aF x.n).size+1+(aF x.t).size+1:=by omega
    have q6:¬ 9223372036854775807<P.size+5+(aF x.n).size+1+(aF x.t).size+1+tk.size:=by omega
    have q7:¬ 9223372036854775807<P.size+5+(aF x.n).size+1+(aF x.t).size+1+tk.size+1:=by omega
    clear z1 z2 z3 z4;refine wp_region_held_drew (S:=(fun w'=>BB wx w')) ge (H5.out.drew) (fun hS=>?_);refine tc 0 Ha ?_;refine tc 1 Ha ?_;refine tc 2 Ha ?_;refine tc 3 Ha ?_;refine tc 7 Ha ?_;refine tc 8 Ha ?_;refine tc 12 Ha ?_;refine yr 4 fun K hK=>?_;go_simp;go_at_call 40;refine(mI x.n HN.out.1 HN.out.2.1 _).mono ?_;rintro e w4 ⟨rfl,hb4⟩;refine hK.out _ _ (hS.trans (hb4.mono hS.size)) (fun hS=>?_);clear hK K
    (try simp only[Act.put,pq])
    refine tc 5 Ha ?_;refine tc 6 Ha ?_;refine yr 9 fun K hK=>?_;go_simp;go_at_call 40;refine(mI x.t HN.out.2.2.1 HN.out.2.2.2 _).mono ?_;rintro e w9 ⟨rfl,hb9⟩;refine hK.out _ _ (hS.trans (hb9.mono hS.size)) (fun hS=>?_);clear hK K
    (try simp only[Act.put,pq])
    refine tc 10 Ha ?_;refine tc 11 Ha ?_;refine tc 13 Ha ?_;refine tc 14 Ha ?_;refine tc 15 Ha ?_;refine wpAnyH_done ge ?_ _
    (try dsimp only)
    obtain⟨t10,ht10⟩:=ez (gE d k++kU y)
    have H0:=hid ht10;have Hp:=hid (show P++⟨#[115,108,111,116,32]⟩++aF x.n++⟨#[32]⟩++aF x.t++⟨#[32]⟩++tk++⟨#[10]⟩=⟨t10.toArray⟩ by rw[HP.out,QN.out,QT.out,ht10];exact aG2 (gE d k) y tk HK.out.1);have Hj:=hid (show t10.length<=100+2000 * 352000000+65600 by
     have q:=Hc.out;have q1:=lQ y q.rn q.rt;have q2:=Hd.out;rw[HP.out,aU] at q2;rw[ht10,List.length_append];omega)
    have H8:=hid hS;have kk:=(HX.out _ hS).2.1;clear hS ht10 Ha HP q1 q2 q3 q4 q5 q6 q7
    (try clear hb4)
    (try clear hb9)
    go_wp2;clear kk
    go_loopw [5,10] (fun v i wr=>∃(j:Nat) (P:ByteArray),j<=x.il/\v=.string P/\i=I6 j/\P=⟨(t10++(y.items.take j).flatMap dM).toArray⟩/\BB wx wr/\bS 0 (y.items.take j)=0) (fun _ i _=>x.il-(intOf i).toNat)
    case atStart=>exact⟨0,_,Nat.zero_le _,rfl,rfl,by rw[List.take_zero,List.flatMap_nil,List.append_nil];exact Hp.out,H8.out,rfl⟩
    case round =>
    clear Hp;obtain⟨j,P,hj,rfl,rfl,hP,hbr,hez⟩:=hrel;have hPz:P.size<=100+2000 * 352000000+65600+2000 * 110006:=by
     have q1:=Hj.out;have q2:=fB dM 110006 (y.items.take j) (fun m _=>gW m);have q3:(y.items.take j).length<=2000:=by rw[List.length_take];have:=Hy.out;omega
     have q4:(y.items.take j).length * 110006<=2000 * 110006:=Nat.mul_le_mul_right _ q3;rw[hP,aU,List.length_append];omega
    have HP:=hid hP;have Hd:=hid hPz;clear hP hPz;obtain⟨wq,rfl⟩:=ez (wr:World)
    have Hb:=hid hbr;have Hg:=hid hez;have kk:=(HX.out wq hbr).2.1;clear hbr hez;by_cases hlt2:j<x.il
    ·have hjl:j<y.items.length:=by have:=Hc.out.items.len;(try dsimp only at this);omega
     have hbw:=Hf.out.trans (Hb.out.mono Hf.out.size);obtain⟨zb,zo,hia,hzb,hz⟩:=Hc.out.items.slot (show 0<x.il by omega);obtain⟨z,hza,hzi⟩:=hz j hjl
     replace kk:=kk.trans (show _=some (Value.slice (some ⟨zb,zo,none⟩) x.il x.ic) by rw[hia])
     obtain⟨z0,z1,z2,z3,z4,z5,z6,z7,z8,z9⟩:=(hza.same (hbw.block zb hzb)).m;have hlt':(j:Int)<(x.il:Int):=by omega
     have hk0:(0:Int)<=(j:Int):=by omega
     obtain⟨u,hu⟩:=ez (y.items[j])
     rw[<-hu] at hzi;have hcl:=pE z u wq (hzi.same fun b q=>⟨Nat.lt_of_lt_of_le q hbw.size,hbw.block b q⟩) (HT.out wq hbw).1 (HT.out wq hbw).2;dsimp only[MC.v] at hcl;obtain⟨tu,htu⟩:=ez ((dJ u).1)
     obtain⟨eu,heu⟩:=ez ((dJ u).2)
     rw[<-htu,<-heu] at hcl;have Hr:=hid hcl;have HU:=hid (And.intro hu (And.intro htu heu));have Ht:=hid hbw;have htz:tu.size<=110000:=by rw[htu];exact oB u
     have q1:¬ 9223372036854775807<P.size+5:=by have:=Hd.out;omega
     have q2:¬ 9223372036854775807<P.size+5+tu.size:=by have:=Hd.out;omega
     have q3:¬ 9223372036854775807<P.size+5+tu.size+1:=by have:=Hd.out;omega
     clear htz;clear hz hza hzi hia hzb hcl hu htu heu hbw;by_cases he0:eu=0
     ·subst he0;go_wp2_with (go_at_call 37;refine Hr.out.mono ?_;rintro e w8 ⟨rfl,hb8⟩)
      go_roundw
      case rel=>exact⟨j+1,_,by omega,rfl,by go_num,by rw[List.take_succ_eq_append_getElem hjl,List.flatMap_append,List.flatMap_singleton,<-List.append_assoc,<-HU.out.1,HP.out];exact aH3 _ _ _ HU.out.2.1,Hb.out.trans (hb8.mono Hb.out.size),aBv _ j hjl Hg.out u HU.out.1 HU.out.2.2.symm⟩
      case measure=>simp[intOf];omega
     ·have hx0:(eu==0)=false:=by simp;exact he0
      have hx1:(eu != 0)=true:=by simp;exact he0
      have He:=hid he0;clear he0;go_wp2_with (go_at_call 37;refine Hr.out.mono ?_;rintro e w8 ⟨rfl,hb8⟩)
      go_ret2
      have e1:bS 0 y.items=eu:=by
       rw[aH2 y.items j hjl Hg.out u HU.out.1 (by rw[<-HU.out.2.2];exact He.out),<-HU.out.2.2]
      exact⟨Hm.out eu He.out (by unfold cU;rw[H3.out,e1];exact lA He.out _),Ht.out.trans (hb8.mono Ht.out.size)⟩
    ·obtain rfl:j=x.il:=by omega
     have hall:y.items.take x.il=y.items:=List.take_of_length_le (by have:=Hc.out.items.len;(try dsimp only at this);omega);have Hq:=hid (show bS 0 y.items=0 by rw[<-hall];exact Hg.out);have Kb:=Hq;have H7:=Hb;obtain⟨t20,ht20⟩:=ez (t10++y.items.flatMap dM)
     have Hz:=hid ht20;have Ho:=hid (show P=⟨t20.toArray⟩ by rw[HP.out,hall,ht20]);have Hn:=hid (show t20.length<=100+2000 * 352000000+65600+2000 * 110006 by
      have q1:=Hj.out;have q2:=fB dM 110006 y.items (fun m _=>gW m);have q4:y.items.length * 110006<=2000 * 110006:=Nat.mul_le_mul_right _ Hy.out.1;rw[ht20,List.length_append];omega)
     clear hall hlt2 Hb Hg Hq ht20 HP;go_wp2;clear kk
     go_loopw [5,13] (fun v i wr=>∃(j:Nat) (P:ByteArray),j<=x.vl/\v=.string P/\i=I6 j/\P=⟨(t20++(y.vals.take j).flatMap gD).toArray⟩/\BB wx wr/\cT 0 (y.vals.take j)=0) (fun _ i _=>x.vl-(intOf i).toNat)
     case atStart=>exact⟨0,_,Nat.zero_le _,rfl,rfl,by rw[List.take_zero,List.flatMap_nil,List.append_nil];exact Ho.out,H7.out,rfl⟩
     case round =>
     clear Ho;obtain⟨j,P,hj,rfl,rfl,hP,hbr,hez⟩:=hrel;have hPz:P.size<=100+2000 * 352000000+65600+2000 * 110006+2000 * 65543:=by
      have q1:=Hn.out;have q2:=fB gD 65543 (y.vals.take j) (fun m _=>nR m);have q3:(y.vals.take j).length<=2000:=by rw[List.length_take];have:=Hy.out;omega
      have q4:(y.vals.take j).length * 65543<=2000 * 65543:=Nat.mul_le_mul_right _ q3;rw[hP,aU,List.length_append];omega
     have HP:=hid hP;have Hd:=hid hPz;clear hP hPz;obtain⟨wq,rfl⟩:=ez (wr:World)
     have Hb:=hid hbr;have Hg:=hid hez;have kk:=(HX.out wq hbr).2.2;clear hbr hez;by_cases hlt2:j<x.vl
     ·have hjl:j<y.vals.length:=by have:=Hc.out.vals.len;(try dsimp only at this);omega
      have hbw:=Hf.out.trans (Hb.out.mono Hf.out.size);obtain⟨zb,zo,hia,hzb,hz⟩:=Hc.out.vals.slot (show 0<x.vl by omega);obtain⟨z,hza,hzi⟩:=hz j hjl
      replace kk:=kk.trans (show _=some (Value.slice (some ⟨zb,zo,none⟩) x.vl x.vc) by rw[hia])
      obtain⟨z0,z1,z2,z3,z4,z5⟩:=(hza.same (hbw.block zb hzb)).val;have hlt':(j:Int)<(x.vl:Int):=by omega
      have hk0:(0:Int)<=(j:Int):=by omega
      obtain⟨u,hu⟩:=ez (y.vals[j])
      rw[<-hu] at hzi;have hcl:=jP z u wq (hzi.same fun b q=>⟨Nat.lt_of_lt_of_le q hbw.size,hbw.block b q⟩) (HT.out wq hbw).1 (HT.out wq hbw).2;dsimp only[VC.v] at hcl;obtain⟨tu,htu⟩:=ez ((bG u).1)
      obtain⟨eu,heu⟩:=ez ((bG u).2)
      rw[<-htu,<-heu] at hcl;have Hr:=hid hcl;have HU:=hid (And.intro hu (And.intro htu heu));have Ht:=hid hbw;have htz:tu.size<=110000:=by rw[htu];have:=dC u;omega
      have q1:¬ 9223372036854775807<P.size+6:=by have:=Hd.out;omega
      have q2:¬ 9223372036854775807<P.size+6+tu.size:=by have:=Hd.out;omega
      have q3:¬ 9223372036854775807<P.size+6+tu.size+1:=by have:=Hd.out;omega
      clear htz;clear hz hza hzi hia hzb hcl hu htu heu hbw;by_cases he0:eu=0
      ·subst he0;go_wp2_with (go_at_call 36;refine Hr.out.mono ?_;rintro e w8 ⟨rfl,hb8⟩)
       go_roundw
       case rel=>exact⟨j+1,_,by omega,rfl,by go_num,by rw[List.take_succ_eq_append_getElem hjl,List.flatMap_append,List.flatMap_singleton,<-List.append_assoc,<-HU.out.1,HP.out];exact aIz _ _ _ HU.out.2.1,Hb.out.trans (hb8.mono Hb.out.size),aCq _ j hjl Hg.out u HU.out.1 HU.out.2.2.symm⟩
       case measure=>simp[intOf];omega
      ·have hx0:(eu==0)=false:=by simp;exact he0
       have hx1:(eu != 0)=true:=by simp;exact he0
       have He:=hid he0;clear he0;go_wp2_with (go_at_call 36;refine Hr.out.mono ?_;rintro e w8 ⟨rfl,hb8⟩)
       go_ret2
       have e1:cT 0 y.vals=eu:=by
        rw[aIy y.vals j hjl Hg.out u HU.out.1 (by rw[<-HU.out.2.2];exact He.out),<-HU.out.2.2]
       exact⟨Hm.out eu He.out (by unfold cU;rw[H3.out,Kb.out,e1]),Ht.out.trans (hb8.mono Ht.out.size)⟩
     ·obtain rfl:j=x.vl:=by omega
      have hall:y.vals.take x.vl=y.vals:=List.take_of_length_le (by have:=Hc.out.vals.len;(try dsimp only at this);omega);have Hq:=hid (show cT 0 y.vals=0 by rw[<-hall];exact Hg.out);have Kc:=Hq;have H6:=Hb;have H2:=hid (show P=⟨(t20++y.vals.flatMap gD).toArray⟩ by rw[HP.out,hall]);clear hall hlt2 Hb Hg Hq HP;go_wp2
      go_roundw
      case rel=>exact⟨k+1,_,by omega,rfl,by go_num,by
       rw[H2.out,Hz.out,H0.out,aFm d k Ka.out y HY.out];unfold eL;simp only[List.append_assoc],Hs.out.trans (H6.out.mono Hs.out.size),by
       rw[aKj d k Ka.out y HY.out,Hx.out];unfold cU;rw[H3.out,Kb.out,Kc.out]⟩
      case measure=>simp[intOf];omega
   ·have hx0:(ek==0)=false:=by simp;exact he0
    have hx1:(ek != 0)=true:=by simp;exact he0
    have He:=hid he0;clear he0;go_wp2_with (go_at_call 36;refine Hh.out.mono ?_;rintro e w9 ⟨rfl,hb9⟩;have H5:=hid hb9;clear hb9)
    go_ret2
    exact⟨Hm.out ek He.out (by
     unfold cU;rw[<-HK.out.2,show iS 0 ek=ek from if_pos rfl,mC He.out,lA He.out]),Hf.out.trans (H5.out.mono Hf.out.size)⟩
  ·obtain rfl:k=sl:=by omega
   have HP:=hid hP;clear hbr hP;go_wp2
   go_ret2
   have hz:fT d=0:=by rw[<-aN5 d k (by have:=HL.out;omega)];exact Hx.out
   exact⟨by rw[Hu.out.1,Hu.out.2,hz,if_neg gc,HP.out,yD d k (by have:=HL.out;omega)];rfl,Hi.out.trans (H4.out.mono Hi.out.size)⟩
theorem aBs (c:StC) (d:Sta) (w:World) (hd:IsSta (· < w.heap.size) w c d) (hT:Tabs w) (hZ:ZTab w) (hsz:Sz 2000 d.l) :
 CP 8 #[c.v] w (Rt (.tuple #[.string (mQ d).1,I6 (mQ d).2]) w):=by
 unfold mQ;by_cases h0:aM d=0
 ·rw[if_neg (by simpa using h0)];have h:=aGy c d w hd hT hZ hsz h0;by_cases h1:fT d=0
  ·rw[if_neg (by simpa using h1)];rw[if_neg (by simpa using h1),h1] at h;exact h
  ·rw[if_pos h1];rw[if_pos h1] at h;exact h
 ·rw[if_pos h0];exact aDt c d w hd hT h0
end Go.Proofs.YtmgpghoamapfgaaGreatDoor
