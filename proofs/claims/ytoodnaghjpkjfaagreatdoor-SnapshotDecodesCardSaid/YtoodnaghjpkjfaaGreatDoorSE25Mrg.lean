/- A part. -/
import Derived.Test.YtoodnaghjpkjfaaGreatDoorSE24Mrg
import Derived.Lib.ConvBytes
import Derived.Lib.AtoiAllMem
import Derived.Lib.Strings
namespace Go.Proofs.YtoodnaghjpkjfaaGreatDoor
open Tryz
set_option linter.unusedVariables false
set_option maxRecDepth 100000
set_option maxHeartbeats 64000000
set_option linter.unusedSimpArgs false
open Go Go.RowKit Go.Shelf
theorem aHf (c:Int) (w:World):CP 155 #[.int .u8 c] w λe w'=>e=.returned (.int .u8 (bits BinOp.or IntKind.u8 c 32))/\w'=w:=by
 have ab:=bits_lo_u8 .or c 32;have aa:=bits_hi_u8 .or c 32;go_enter func155,ntmps155
 go_wp2;go_ret;exact⟨rfl,rfl⟩
def PuPost (w:World) (e:Ending) (w':World):Prop :=
 ∃(n:Int) (ev:Value),e=.returned (.tuple #[.int .u64 n,ev])/\0<=n/\n<=255/\(ev=.nilIface\/ev=.iface 208 (I6 1)\/ev=.iface 208 (I6 2))/\BB w w'
theorem aE5 (t:BA) (aq:t.size<=1000000) (w:World) :
 CP 100 #[Sv t,I6 16,I6 8] w (PuPost w):=by
 by_cases h0:t.size=0
 ·have ht:t=⟨#[]⟩:=by
   obtain⟨⟨l⟩⟩:=t;cases l with
   | nil=>rfl
   | cons _ _=>simp[ByteArray.size] at h0
  subst ht;go_enter func100,ntmps100
  go_wp2
  go_ret2
  exact⟨_,_,rfl,by decide,by decide,.inr (.inr rfl),gx _ _⟩
 ·have ao:t.toList.isEmpty=false:=by
   rw[<-decide_eq_emptyBytes];exact mc (λh=>h0 (by rw[h];rfl))
  have an:=Lib.run_convert_string_bytes (P:=prog) w 9 40 5 t (u:=.string) rfl rfl rfl;have hB:∀j,j<t.size->Ce (Lib.bytesWorld w 5 t) w.heap.size j (.int .u8 (t.data.toList.getD j 0).toNat):=λj hj=>Lib.bytesWorld_cell w 5 t j hj;obtain⟨W1,ae⟩:=xe (Lib.bytesWorld w 5 t)
  have ag:BB w W1:=by
   rw[ae];exact Lib.bytesWorld_below _ _ _
  rw[<-ae] at an hB;have ak:=f8 ag;clear ae ag;obtain⟨bs,hL⟩:=xe t.data.toList
  have a6:bs.length=t.size:=by rw[hL,Lib.size_eq]
  rw[<-hL] at hB;clear hL;have a4:IntKind.u64.wrap (IntKind.u64.wrap 256-1)=255:=by
   rw[IntKind.wrap_u64,IntKind.wrap_u64];decide
  go_enter func100,ntmps100
  go_wp2
  go_loop [12,13,101] (λvu vn vi=>∃(k:Nat) (a:Int),vu=.bool false/\vn=.int .u64 a/\vi=I6 k/\k<=t.size/\0<=a/\a<=255)
   (λ_ _ vi=>t.size-(intOf vi).toNat)
  case atStart=>exact⟨0,0,rfl,rfl,rfl,by omega,by omega,by omega⟩
  case round =>
   obtain⟨k,a,rfl,rfl,rfl,hk,a0,a1⟩:=hrel;by_cases ap:k<t.size
   ·have hc:=hB k ap;obtain⟨c,af⟩:=xe (bs.getD k 0:UInt8)
    rw[<-af] at hc;have ai:c.toNat<256:=c.toNat_lt;clear hB af;have ab:∀n:Int,0<=n->n<=255->∀k:Int,k=1\/k=2->PuPost w (.returned (.tuple #[.int .u64 n,.iface 208 (I6 k)])) W1:=λn h0 h1 k hk=>⟨n,_,rfl,h0,h1,hk.elim (λh=>.inr (.inl (by rw[h]))) (λh=>.inr (.inr (by rw[h]))),ak.o⟩
    have aa:=f8 ab;clear ab;have av:a<1152921504606846976:=ga
    have ar:IntKind.u64.wrap (a * 16)=a * 16:=by rw[IntKind.wrap_u64];omega
    have K:∀d:Int,0<=d->d<16->IntKind.u64.wrap (a * 16+d)=a * 16+d:=λd h0 h1=>by rw[IntKind.wrap_u64];omega
    by_cases ac:48<=c.toNat/\c.toNat<=57
    ·obtain⟨a3,a2⟩:=ac;by_cases aw:255<a * 16+((c.toNat:Int)-48)
     ·go_wp2
      go_ret2
      exact aa.o _ ga ga _ (.inl rfl)
     ·go_wp2;exact⟨⟨k+1,_,rfl,rfl,(by first|rfl|(congr 1;omega)),by omega,by omega,by omega⟩,by simp[intOf];omega⟩
    ·have HL:=f8 (λ(w':World)=>aHf (c.toNat:Int) w');have aj:=bits_lo_u8 .or (c.toNat:Int) 32;have ah:=bits_hi_u8 .or (c.toNat:Int) 32;by_cases al:c.toNat=95
     ·have au:bits BinOp.or IntKind.u8 95 32=127:=by decide
      rw[al] at hc HL;clear aj ah ac al;go_wp2_with (go_at_call 155;refine(HL.o _).mono ?_;rintro e w' ⟨rfl,rfl⟩)
      go_ret2
      exact aa.o _ ga ga _ (.inr rfl)
     obtain⟨l,hl⟩:=xe (bits BinOp.or IntKind.u8 (c.toNat:Int) 32)
     rw[<-hl] at HL aj ah;clear hl;by_cases ad:97<=l/\l<=122
     ·obtain⟨ax,ay⟩:=ad;have az:IntKind.u8.wrap (l-97)=l-97:=by rw[IntKind.wrap_u8];omega
      have a7:IntKind.u8.wrap (l-97+10)=l-97+10:=by rw[IntKind.wrap_u8];omega
      by_cases a5:l-97+10<16
      ·by_cases aw:255<a * 16+(l-97+10)
       ·go_wp2_with (go_at_call 155;refine(HL.o _).mono ?_;rintro e w' ⟨rfl,rfl⟩)
        all_goals go_ret2
        all_goals exact aa.o _ ga ga _ (.inl rfl)
       ·go_wp2_with (go_at_call 155;refine(HL.o _).mono ?_;rintro e w' ⟨rfl,rfl⟩)
        all_goals exact⟨⟨k+1,_,rfl,rfl,(by first|rfl|(congr 1;omega)),by omega,by omega,by omega⟩,by simp[intOf];omega⟩
      ·go_wp2_with (go_at_call 155;refine(HL.o _).mono ?_;rintro e w' ⟨rfl,rfl⟩)
       all_goals go_ret2
       all_goals exact aa.o _ ga ga _ (.inr rfl)
     ·go_wp2_with (go_at_call 155;refine(HL.o _).mono ?_;rintro e w' ⟨rfl,rfl⟩)
      all_goals go_ret2
      all_goals exact aa.o _ ga ga _ (.inr rfl)
   ·have am:k=t.size:=ga
    subst am;go_wp2
    go_ret2
    exact⟨_,_,rfl,a0,a1,.inl rfl,ak.o⟩
theorem aG5 (fn s:BA) (hs:s.size<=1000000) (k:Int) (hk:k=1\/k=2) (w:World) (hN:NumVars w) :
 CP 93 #[Sv fn,Sv s,I6 16,I6 8,.iface 208 (I6 k)] w λe w'=>(∃p,e=.returned (.iface 211 p))/\BB w w':=by
 obtain⟨⟨e1,h1,k1⟩,⟨e2,h2,k2⟩,_⟩:=hN;rcases hk with rfl|rfl
 ·exact(Any.strconv_toError_range { Tryz.laysC172 with } fn s 16 8 e2 w ga h2 k2).mono λe w' ⟨N,he,_,_,hb⟩=>⟨⟨_,he⟩,hb⟩
 ·exact(Any.strconv_toError_syntax { Tryz.laysC172 with } fn s 16 8 e1 w ga h1 k1).mono λe w' ⟨N,he,_,_,hb⟩=>⟨⟨_,he⟩,hb⟩
theorem aAs (s:BA) (hs:s.size<=1000000) (w:World) (hN:NumVars w) :
 CP 52 #[Sv s,I6 16,I6 8] w λe w'=>∃(n:Int) (ev:Value),e=.returned (.tuple #[.int .u64 n,ev])/\0<=n/\n<=255/\(ev=.nilIface\/∃p,ev=.iface 211 p)/\BB w w':=by
 have HP:=f8 (aE5 s hs w);have HE:=f8 (λ(k:Int) (hk:k=1\/k=2) (w':World) (hb:BB w w')=>aG5 ⟨#[80,97,114,115,101,85,105,110,116]⟩ s hs k hk w' (hN.below hb));clear hs hN;go_enter func52,ntmps52
 go_upto_region 2 with (go_at_call 100;refine HP.mono ?_;rintro e w2 ⟨n,ev,rfl,n0,n1,ae,ac⟩;have aa:=f8 ac;have HI:=f8 (ie n0 n1);clear ac n0 n1)
 rcases ae with rfl|rfl|rfl
 ·go_wp2
  go_ret2
  exact⟨_,_,rfl,HI.1,HI.2,.inl rfl,aa.o⟩
 all_goals
  go_wp2_with (go_at_call 93;refine(HE.o _ (by first|exact .inl rfl|exact .inr rfl) _ aa.o).mono ?_;rintro e w3 ⟨⟨p,rfl⟩,ab⟩;have ad:=f8 ab;clear ab)
  go_ret2
  exact⟨_,_,rfl,HI.1,HI.2,.inr ⟨p,rfl⟩,aa.trans (ad.mono aa.size)⟩
theorem eT {B:Nat} {w w':World} (h:Below B w w'):Turn (λk=>B<=k) w w':=⟨h.os,h.tape,h.output,h.size,λk _ hR=>h.block k ga⟩
theorem aDm (l p:List UInt8):(Lib.trimSuffix l p).length<=l.length:=by
 unfold Lib.trimSuffix;split<;>simp
theorem trimPre_len' (l p:List UInt8):(Lib.trimPrefix l p).length<=l.length:=by
 unfold Lib.trimPrefix;split<;>simp
theorem rI (s:BA) (f:Bool) (hs:s.size<=100000) (c:Nat) (w:World) (h:w.heap[c]?=some (scA s f)) (hN:∀w',Turn (λk=>k=c) w w'->NumVars w') :
 CP 21 #[Pt c 0] w λe w'=>∃(t:BA) (f':Bool),e=.returned (Sv t)/\t.size<=s.size/\w'.heap[c]?=some (scA (cI s).2 f')/\Turn (λk=>k=c) w w':=by
 have HP:=f8 (cU s f hs c w h (hN w (Turn.refl _ _)));obtain⟨a,ha⟩:=xe ((cI s).1)
 obtain⟨b,hb⟩:=xe ((cI s).2)
 rw[<-ha,<-hb] at HP;have a7:a.size<=s.size:=by rw[ha];exact(aM s).1
 rw[<-hb];obtain⟨p1,am⟩:=xe (⟨(Lib.trimPrefix a.data.toList (⟨#[120,34]⟩:BA).data.toList).toArray⟩:BA)
 obtain⟨o1,aw⟩:=xe (Lib.hasPrefix a.data.toList (⟨#[120,34]⟩:BA).data.toList)
 obtain⟨p2,aq⟩:=xe (⟨(Lib.trimSuffix p1.data.toList (⟨#[34]⟩:BA).data.toList).toArray⟩:BA)
 obtain⟨o2,a0⟩:=xe (Lib.hasSuffix p1.data.toList (⟨#[34]⟩:BA).data.toList)
 have bf:p1.size<=a.size:=by rw[am];exact trimPre_len' _ _
 have bg:p2.size<=p1.size:=by rw[aq];exact aDm _ _
 have av:=f8 (λ(w:World)=>Tryz.strings_CutPrefix a ⟨#[120,34]⟩ w);have az:=f8 (λ(w:World)=>Tryz.strings_CutSuffix p1 ⟨#[34]⟩ w ga);rw[<-am,<-aw] at av;rw[<-aq,<-a0] at az;have hz:p2.size<=s.size:=ga
 have br:=f8 (ltOf h);have ba:=f8 hN;clear ha hb a7 am aq aw a0 bf bg h hN;go_enter func21,ntmps21
 go_upto_region 3 with (first
  | (go_at_call 20;refine HP.mono ?_;rintro e w2 ⟨rfl,h2,ay⟩;obtain⟨H2,ai⟩:=h_2 h2 ay;clear h2 ay)
  | (go_at_call 44;refine(av.o _).mono ?_;rintro e w3 ⟨rfl,au⟩;obtain rfl:=au.symm)
  | (go_at_call 51;refine(az.o _).mono ?_;rintro e w3 ⟨rfl,au⟩;obtain rfl:=au.symm))
 have c1:=aA H2.o 1;have f1:=aF H2.o 1
 (try dsimp only at c1)
 have ab:=f8 (aG (o:=1) (.bool true) H2.o);have ap:=f8 (ai.trans (Turn.setCell ⟨c,1,none⟩ (.bool true) rfl));have aa:(p2.size:Int).tmod 2=((p2.size % 2:Nat):Int):=by rw[nw ga];omega
 by_cases af:o1=true/\o2=true/\p2.size % 2=0
 ·obtain⟨rfl,rfl,ar⟩:=af;rw[ar] at aa;obtain⟨B,hB⟩:=xe w2.heap.size
  obtain⟨wB,ak⟩:=xe (w2.alloc (.cells #[.pointer none,Z0] 112))
  have bl:=f8 ar;have aj:c<B:=by rw[hB];exact ltOf H2.o
  have ao:BB w2 wB:=by rw[ak];exact(gx _ w2).alloc lr _
  have ag:IsBld B B (Lib.byteCells []) wB:=by rw[hB,ak];exact lP w2
  have ac:=f8 (ie aj (ie ag (ie (aB ao H2.o) (ai.trans (Turn.of_below ao)))));obtain⟨a4,al⟩:=h_2 ak hB;clear ar hB ak aj ao ag c1 f1;go_upto_region 7 with (fail)
  rw[<-a4.o,<-al.o];clear aa;go_wp2
  go_loopw [7] (λiv wr=>∃(k:Nat) (f':Bool) (acc:List UInt8),iv=I6 k/\k<=p2.size/\k % 2=0/\acc.length<=k/\IsBld B B (Lib.byteCells acc) wr/\wr.heap[c]?=some (scA b f')/\Turn (λk=>k=c) w wr/\B<=wr.heap.size) (λiv _=>p2.size-(intOf iv).toNat)
  case atStart=>exact⟨0,f,[],rfl,ii _,rfl,gy _,ac.2.1,ac.2.2.1,ac.2.2.2,by rw[a4.o,al.o];simp⟩
  case round =>
   obtain⟨k,f',acc,rfl,hk,bo,be,a5,hc,ht,a6⟩:=hrel;obtain⟨a2,HC,HT,an⟩:=h_4 a5 hc ht a6;clear a5 hc ht a6;by_cases bq:k<p2.size
   ·have bc:k+2<=p2.size:=by have:=bl.o;omega
    have ax:=f8 (ie hz hs);have bb:=f8 (λ(q:BA) (hq:q.size<=1000000)=>aAs q hq wr (ba.o _ HT.o));have bm:IntKind.i64.wrap ((k:Int)+2)=(k:Int)+2:=ip _ ga;have bn:(0:Int)<=(k:Int):=ga
    have bp:(k:Int)+2<=(p2.size:Int):=ga
    have bt:(k:Int)<(p2.size:Int):=ga
    go_upto_region 11 with (go_at_call 52;refine(bb.o _ (by rw[k9];have:=ax.o;omega)).mono ?_;rintro e w3 ⟨n,ev,rfl,n0,n1,bj,a1⟩;obtain⟨ah,bk,a3⟩:=h_3 a1 n0 n1;clear a1 n0 n1)
    obtain⟨m,rfl⟩:∃m:Nat,n=m:=⟨n.toNat,by have:=bk.o;omega⟩
    have bs:IntKind.u8.wrap (m:Int)=(m:Int):=o7 _ (by have:=a3.o;omega);have g:=aB ah.o HC.o;have d1:=aA g 1;have f1:=aF g 1
    (try dsimp only at d1)
    have HG:=f8 (λ(x:Bool)=>(show(w3.setCell ⟨c,1,none⟩ (.bool x)).heap[c]?=some (scA b x) from aG (o:=1) (.bool x) g));have bh:=f8 (λ(x:Bool)=>cY B B (Lib.byteCells acc) (m:Int) (w3.setCell ⟨c,1,none⟩ (.bool x))
     (sK (a2.ext ah.o) λi hi _=>ij _ _ _ _ (by have:=ac.1;dsimp only;omega)) (by simp only[Lib.byteCells,jy];have:=ax.o;omega) (by have h1:=an.o;have h2:=ah.size;simp only[World.setCell,ol];omega))
    have a9:=f8 (λ(x:Bool)=>(HT.trans (Turn.of_below ah.o)).trans (Turn.setCell (R:=λk=>k=c) ⟨c,1,none⟩ (.bool x) rfl));clear g;rcases bj with rfl|⟨pe,rfl⟩<;>cases f'
    all_goals
     go_wp2_with (go_at_call 53;refine(bh.o _).mono ?_;rintro e w5 ⟨rfl,h5,ae,bd⟩;obtain⟨H5,ad⟩:=h_2 h5 ae;clear h5 ae bd)
     go_roundw
     case rel =>
      have a8:IsBld B B (Lib.byteCells (acc++[UInt8.ofNat m])) w5:=by
       have hu:(UInt8.ofNat m).toNat=m:=UInt8.toNat_ofNat_of_lt' (show m<256 by have:=a3.o;omega);have e:Lib.byteCells (acc++[UInt8.ofNat m])=Lib.byteCells acc++[.int .u8 (m:Int)]:=by simp only[Lib.byteCells,kh,jv,List.map_nil,hu]
       rw[e];exact .inr H5.o
      exact⟨k+2,_,acc++[UInt8.ofNat m],by go_num,by omega,by omega,by rw[ik];simp only[im,i7];omega,a8,(ad.block c ac.1).trans (HG.o _),(a9.o _).fresh (eT ad.o) (λj hj hB=>by have h1:=ai.size;have h2:=al.o;omega),by have h1:=an.o;have h2:=ah.size;have h3:=ad.size;simp only[World.setCell,ol] at h3;omega⟩
     case measure=>simp[intOf];omega
   ·obtain rfl:k=p2.size:=ga
    have bi:=f8 (show CP 54 #[Pt B 0] wr λe w2=>e=.returned (.string ⟨acc.toArray⟩)/\Below B wr w2 from(Tryz.Builder_String_any_k _ _ _ wr a2.o an.o).mono λe w2 ⟨he,h1,hb,_⟩=>⟨he,hb⟩);go_wp2_with (go_at_call 54;refine bi.mono ?_;rintro e w5 ⟨rfl,ae⟩;have ad:=f8 ae;clear ae)
    go_ret;have aj:=ac.1;refine⟨_,f',rfl,?_,(ad.block c aj).trans HC.o,HT.fresh (eT ad.o) (λk hk hB=>?_)⟩
    ·exact io be hz
    ·have h1:=ai.size;have h2:=al.o;omega
 ·by_cases h1:o1=true
  ·by_cases h2:o2=true
   ·rw[show p2.size % 2=1 by have q:¬ p2.size % 2=0:=λh=>af ⟨h1,h2,h⟩;omega] at aa;subst h1 h2;clear af;go_wp2;go_ret;exact⟨_,_,rfl,ii _,ab.o,ap.o⟩
   ·rw[pk] at h2;subst h1 h2;clear af;go_wp2;go_ret;exact⟨_,_,rfl,ii _,ab.o,ap.o⟩
  ·rw[pk] at h1;subst h1;clear af;go_wp2;go_ret;exact⟨_,_,rfl,ii _,ab.o,ap.o⟩
theorem aNs (l:List UInt8) (c:UInt8):(0<=Lib.indexByte l c/\Lib.indexByte l c<l.length)\/Lib.indexByte l c = -1:=by
 rcases Int.lt_or_le (Lib.indexByte l c) 0 with h|h
 ·have:=Lib.indexByte_ge l c;exact .inr ga
 ·obtain⟨o,ho⟩:∃o:Nat,Lib.indexByte l c=o:=⟨(Lib.indexByte l c).toNat,by omega⟩
  have h1:=(Lib.indexByte_some ho).1;rw[ho];exact .inl ⟨by omega,by have:=(List.getElem?_eq_some_iff.1 h1).1;omega⟩
def QuPost (s:BA) (c:Nat) (w:World) (e:Ending) (w':World):Prop :=
 ∃(t r:BA) (f':Bool),e=.returned (.string t)/\t.size<=s.size+1/\r.size<=s.size/\w'.heap[c]?=some (scA r f')/\Turn (λk=>k=c) w w'
def QuInv (s:BA) (B c:Nat) (w:World) (k:Nat) (wr:World):Prop :=
 ∃(f':Bool) (acc:List UInt8),1<=k/\(k<=s.size\/k=1)/\acc.length<=k/\IsBld B B (Lib.byteCells acc) wr/\wr.heap[c]?=some (scA s f')/\Turn (λk=>k=c) w wr/\B<=wr.heap.size
theorem aCh {s:BA} {B c:Nat} {w w4 w5:World} {k k':Nat} {n:Int} {f':Bool} {acc:List UInt8} (ac:c<B) (hB:B=w.heap.size) (hk:acc.length<=k) (ag:k<k') (ab:k'<=s.size) (ae:0<=n) (af:n<=255)
 (h5:Lib.BuilderAtF 112 5 B B (Pt B 0) (Lib.byteCells acc++[.int .u8 n]) w5) (aa:Below B w4 w5) (g4:w4.heap[c]?=some (scA s f')) (t4:Turn (λk=>k=c) w w4) (z4:B<=w4.heap.size):QuInv s B c w k' w5:=by
 obtain⟨m,rfl⟩:∃m:Nat,n=m:=⟨n.toNat,by omega⟩
 have ad:IsBld B B (Lib.byteCells (acc++[UInt8.ofNat m])) w5:=by
  have hu:(UInt8.ofNat m).toNat=m:=UInt8.toNat_ofNat_of_lt' (show m<256 by omega);have e:Lib.byteCells (acc++[UInt8.ofNat m])=Lib.byteCells acc++[.int .u8 (m:Int)]:=by simp only[Lib.byteCells,kh,jv,List.map_nil,hu]
  rw[e];exact .inr h5
 exact⟨f',acc++[UInt8.ofNat m],by omega,.inl ab,by rw[ik];simp only[im,i7];omega,ad,(aa.block c ac).trans g4,t4.fresh (eT aa) (λj hj hB=>by omega),io z4 aa.size⟩
theorem zA (s:BA) (f:Bool) (hs:s.size<=100000) (c:Nat) (w:World) (h:w.heap[c]?=some (scA s f)) (hN:∀w',Turn (λk=>k=c) w w'->NumVars w') :
 CP 24 #[Pt c 0] w (QuPost s c w):=by
 obtain⟨B,hB⟩:=xe w.heap.size
 obtain⟨wB,ap⟩:=xe (w.alloc (.cells #[.pointer none,Z0] 112))
 have a9:c<B:=by rw[hB];exact ltOf h
 have av:BB w wB:=by rw[ap];exact(bR w).alloc lr _
 have al:IsBld B B (Lib.byteCells []) wB:=by rw[hB,ap];exact lP w
 have ab:=f8 (ie a9 (ie al (ie (aB av h) (Turn.of_below (R:=λk=>k=c) av))));obtain⟨a8,ag,bk,HS⟩:=h_4 ap hB hN hs;clear hB ap a9 av al h hN;go_enter func24,ntmps24
 go_upto_region 2 with (fail)
 rw[<-a8.o,<-ag.o];go_wp2
 go_loopw [4] (λiv wr=>∃k:Nat,iv=I6 k/\QuInv s B c w k wr) (λiv _=>s.size-(intOf iv).toNat)
 case atStart=>exact⟨1,rfl,f,[],gy _,.inr rfl,ii _,ab.2.1,ab.2.2.1,ab.2.2.2,by rw[a8.o,ag.o];simp⟩
 case round =>
  obtain⟨k,rfl,f',acc,ba,hk,aw,ay,hc,ht,a0⟩:=hrel;obtain⟨c0,c1⟩:=c_2 hc;have f0:=aF hc 0;have f1:=aF hc 1
  (try dsimp only at c0 c1)
  obtain⟨a6,HC,HT,ai⟩:=h_4 ay hc ht a0;have af:=f8 (λ(x:Int)=>cY B B (Lib.byteCells acc) x wr ay (by simp only[Lib.byteCells,jy];omega) a0);have ac:=f8 (show(wr.setCell ⟨c,1,none⟩ (.bool true)).heap[c]?=some (scA s true) from aG (o:=1) (.bool true) hc);have an:=f8 (ht.trans (Turn.setCell (R:=λk=>k=c) ⟨c,1,none⟩ (.bool true) rfl));clear ay hc ht a0;have bw:(0:Int)<=(k:Int):=ga
  have w2:IntKind.i64.wrap ((k:Int)+2)=(k:Int)+2:=ip _ ga;have w1:IntKind.i64.wrap ((k:Int)+1)=(k:Int)+1:=ip _ ga;by_cases az:k<s.size
  ·have bl:(k:Int)<(s.size:Int):=ga
   by_cases ao:s[k].toNat=34
   ·have bi:((s[k].toNat:Int)==34)=true:=by simp;omega
    have a1:((s[k].toNat:Int) != 34)=false:=by simp;omega
    by_cases h2:k+2<=s.size
    ·have k2:¬ (s.size:Int)<(k:Int)+2:=ga
     have k3:(k:Int)+1<(s.size:Int):=ga
     have k4:(0:Int)<=(k:Int)+1:=ga
     have k5:(k:Int)+2<=(s.size:Int):=ga
     have k6:(0:Int)<=(k:Int)+2:=ga
     by_cases be:s[k+1].toNat=32
     ·have bj:((s[k+1].toNat:Int) != 32)=false:=by simp;omega
      have br:=f8 (λ(r:BA)=>(show CP 54 #[Pt B 0] (wr.setCell ⟨c,0,none⟩ (Sv r)) λe w2=>e=.returned (.string ⟨acc.toArray⟩)/\Below B (wr.setCell ⟨c,0,none⟩ (Sv r)) w2 from
       (Tryz.Builder_String_any_k _ _ _ _ (sK a6.o λi hi _=>ij _ _ _ _ (by have:=ab.1;dsimp only;omega)) (by have h1:=ai.o;simp only[World.setCell,ol];omega)).mono λe w2 ⟨he,h1,hb,_⟩=>⟨he,hb⟩))
      have HG:=f8 (λ(r:BA)=>(show(wr.setCell ⟨c,0,none⟩ (Sv r)).heap[c]?=some (scA r f') from aG (o:=0) (Sv r) HC.o));have ar:=f8 (λ(r:BA)=>HT.trans (Turn.setCell (R:=λk=>k=c) ⟨c,0,none⟩ (Sv r) rfl));have ah:=f8 (ie aw hk);clear ao be;go_wp2_with (go_at_call 54;refine(br.o _).mono ?_;rintro e w5 ⟨rfl,aa⟩;have bd:=f8 aa;clear aa)
      go_ret;refine⟨_,_,f',rfl,?_,?_,(bd.block c ab.1).trans (HG.o _),(ar.o _).fresh (eT bd.o) (λj hj hB=>by have h2:=ag.o;omega)⟩
      ·have:=ah.1;exact io this ga
      ·rw[k9];omega
     ·have bj:((s[k+1].toNat:Int) != 32)=true:=by simp;omega
      clear ao be;go_wp2;go_ret;exact⟨_,s,true,rfl,ii _,gy _,ac.o,an.o⟩
    ·have k2:(s.size:Int)<(k:Int)+2:=ga
     clear ao h2;go_wp2;go_ret;exact⟨_,s,true,rfl,ii _,gy _,ac.o,an.o⟩
   ·have bi:((s[k].toNat:Int)==34)=false:=by simp;omega
    have a1:((s[k].toNat:Int) != 34)=true:=by simp;omega
    have ad:s[k].toNat<=255:=by have:=s[k].toNat_lt;omega
    have ah:=f8 (ie aw (ie hk ba));have HV:=f8 ad;clear aw hk ba ad ao;by_cases ax:s[k].toNat≠92\/s.size<=k+1
    ·have a3:=f8 (af.o (s[k].toNat:Int));clear af;by_cases aj:s[k].toNat=92
     ·have bu:(s.size:Int)<=(k:Int)+1:=ga
      have bb:((s[k].toNat:Int) != 92)=false:=by simp;omega
      clear ax aj;go_wp2_with (go_at_call 53;refine a3.mono ?_;rintro e w5 ⟨rfl,h5,aa,ae⟩;have H5:=f8 (aCh (k':=k+1) ab.1 ag.o ah.1 (pj _) az ga (by have:=HV.o;omega) h5 aa HC.o HT.o ai.o);clear h5 aa ae)
      go_roundw
      case rel=>exact⟨k+1,by go_num,H5.o⟩
      case measure=>simp[intOf];omega
     ·have bb:((s[k].toNat:Int) != 92)=true:=by simp;omega
      clear ax aj;go_wp2_with (go_at_call 53;refine a3.mono ?_;rintro e w5 ⟨rfl,h5,aa,ae⟩;have H5:=f8 (aCh (k':=k+1) ab.1 ag.o ah.1 (pj _) az ga (by have:=HV.o;omega) h5 aa HC.o HT.o ai.o);clear h5 aa ae)
      go_roundw
      case rel=>exact⟨k+1,by go_num,H5.o⟩
      case measure=>simp[intOf];omega
    ·have au:s[k].toNat=92:=ga
     have bn:k+1<s.size:=ga
     have bb:((s[k].toNat:Int) != 92)=false:=by simp;omega
     have bf:¬ (s.size:Int)<=(k:Int)+1:=ga
     have bg:(k:Int)+1<(s.size:Int):=ga
     have bh:(0:Int)<=(k:Int)+1:=ga
     obtain⟨x,hx⟩:=xe (Lib.indexByte (⟨#[34,92,110,114,116]⟩:BA).data.toList ((s[k+1].toNat:Nat):Int).toNat.toUInt8)
     have HI:=f8 (λ(w':World)=>Tryz.strings_IndexByte ⟨#[34,92,110,114,116]⟩ ((s[k+1].toNat:Nat):Int) w');have ak:=aNs (⟨#[34,92,110,114,116]⟩:BA).data.toList ((s[k+1].toNat:Nat):Int).toNat.toUInt8;rw[<-hx] at HI ak;clear hx ax au;rcases ak with ⟨hx0,ak⟩|rfl
     ·have a2:x<5:=ak;have bt:x=0\/x=1\/x=2\/x=3\/x=4:=ga
      clear ak a2 hx0;rcases bt with rfl|rfl|rfl|rfl|rfl
      all_goals
       go_wp2_with (first
        | (go_at_call 55;refine(HI.o _).mono ?_;rintro e w4 ⟨rfl,rfl⟩)
        | (go_at_call 53;refine(af.o _).mono ?_;rintro e w5 ⟨rfl,h5,aa,ae⟩;have H5:=f8 (aCh (k':=k+2) ab.1 ag.o ah.1 ga ga gb gb h5 aa HC.o HT.o ai.o);clear h5 aa ae))
       go_roundw
       case rel=>exact⟨k+2,by go_num,H5.o⟩
       case measure=>simp[intOf];omega
     ·obtain⟨y,hy⟩:=xe (Lib.indexByte (s.extract (k+1) s.size).data.toList (Int.toNat 125).toUInt8)
      have HJ:=f8 (λ(w':World)=>Tryz.strings_IndexByte (s.extract (k+1) s.size) 125 w');have aq:=aNs (s.extract (k+1) s.size).data.toList (Int.toNat 125).toUInt8;have a4:(s.extract (k+1) s.size).data.toList.length=s.size-(k+1):=by
       rw[show(s.extract (k+1) s.size).data.toList.length=(s.extract (k+1) s.size).size from rfl,k9];omega
      rw[<-hy] at HJ aq;rw[a4] at aq;clear hy a4;by_cases bo:y<2
      ·clear aq;go_upto_region 12 with (go_at_call 55;refine(HI.o _).mono ?_;rintro e w4 ⟨rfl,rfl⟩)
       go_wp2_with (go_at_call 55;refine(HJ.o _).mono ?_;rintro e w4 ⟨rfl,rfl⟩)
       go_ret;exact⟨_,s,true,rfl,ii _,gy _,ac.o,an.o⟩
      ·obtain⟨m,rfl⟩:∃m:Nat,y=m:=⟨y.toNat,by omega⟩
       have bx:2<=m:=ga
       have b0:m<s.size-(k+1):=ga
       have bz:¬ (m:Int)<2:=ga
       have wA:IntKind.i64.wrap ((k:Int)+1+2)=(k:Int)+1+2:=ip _ ga;have wB:IntKind.i64.wrap ((k:Int)+1+(m:Int))=(k:Int)+1+(m:Int):=ip _ ga;have wC:IntKind.i64.wrap ((m:Int)+1)=(m:Int)+1:=ip _ ga;have wD:IntKind.i64.wrap ((k:Int)+1+((m:Int)+1))=(k:Int)+1+((m:Int)+1):=ip _ ga;have r0:(0:Int)<=(k:Int)+1+2:=ga
       have r1:(k:Int)+1+2<=(k:Int)+1+(m:Int):=ga
       have r2:(k:Int)+1+(m:Int)<=(s.size:Int):=ga
       have bm:=f8 (λ(q:BA) (hq:q.size<=1000000)=>aAs q hq wr (bk.o _ HT.o));clear aq bo;go_upto_region 12 with (go_at_call 55;refine(HI.o _).mono ?_;rintro e w4 ⟨rfl,rfl⟩)
       go_upto_region 17 with (first
        | (go_at_call 55;refine(HJ.o _).mono ?_;rintro e w4 ⟨rfl,rfl⟩)
        | (go_at_call 52;refine(bm.o _ (by rw[k9];have:=HS.o;omega)).mono ?_;rintro e w3 ⟨n,ev,rfl,n0,n1,bs,a5⟩;obtain⟨am,bc,a7⟩:=h_3 a5 n0 n1;clear a5 n0 n1))
       have bv:IntKind.u8.wrap n=n:=o7 _ (by have h0:=bc.o;have h1:=a7.o;omega);have g:=aB am.o HC.o;have d1:=aA g 1;have e1:=aF g 1
       (try dsimp only at d1)
       have HG:=f8 (λ(x:Bool)=>(show(w3.setCell ⟨c,1,none⟩ (.bool x)).heap[c]?=some (scA s x) from aG (o:=1) (.bool x) g));have bp:=f8 (λ(x:Bool)=>cY B B (Lib.byteCells acc) n (w3.setCell ⟨c,1,none⟩ (.bool x))
        (sK (a6.ext am.o) λi hi _=>ij _ _ _ _ (by have:=ab.1;dsimp only;omega)) (by simp only[Lib.byteCells,jy];have h1:=ah.1;have h2:=HS.o;omega) (by have h1:=ai.o;have h2:=am.size;simp only[World.setCell,ol];omega))
       have ar:=f8 (λ(x:Bool)=>(HT.trans (Turn.of_below am.o)).trans (Turn.setCell (R:=λk=>k=c) ⟨c,1,none⟩ (.bool x) rfl));have bq:=f8 (λ(x:Bool)=>(show B<=(w3.setCell ⟨c,1,none⟩ (.bool x)).heap.size by have h1:=ai.o;have h2:=am.size;simp only[World.setCell,ol];omega));clear g;rcases bs with rfl|⟨pe,rfl⟩<;>cases f'
       all_goals
        go_wp2_with (go_at_call 53;refine(bp.o _).mono ?_;rintro e w5 ⟨rfl,h5,aa,ae⟩;have H5:=f8 (aCh (k':=k+1+(m+1)) ab.1 ag.o ah.1 ga ga bc.o a7.o h5 aa (HG.o _) (ar.o _) (bq.o _));clear h5 aa ae)
        go_roundw
        case rel=>exact⟨k+1+(m+1),by go_num,H5.o⟩
        case measure=>simp[intOf];omega
  ·have bu:¬ (k:Int)<(s.size:Int):=ga
   have k2:(s.size:Int)<(k:Int)+2:=ga
   clear hk az;go_wp2;go_ret;exact⟨_,s,true,rfl,ii _,gy _,ac.o,an.o⟩
end Go.Proofs.YtoodnaghjpkjfaaGreatDoor
