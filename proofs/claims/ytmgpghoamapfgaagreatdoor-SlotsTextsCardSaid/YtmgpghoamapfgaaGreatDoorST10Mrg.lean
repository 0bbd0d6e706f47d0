/- A part. -/
import Derived.Test.YtmgpghoamapfgaaGreatDoorST5Mrg
import Derived.Lib.UnsafeStr
namespace Go.Proofs.YtmgpghoamapfgaaGreatDoor
set_option linter.unusedVariables false
set_option maxRecDepth 100000
set_option maxHeartbeats 16000000
set_option linter.unusedSimpArgs false
section
open Go Go.RowKit Go.Shelf
theorem aI2:(Tryz.prog.info? 74).map (·.size)=some 2:=by kernel_rfl
theorem liesBld:liesAt Tryz.prog Tryz.prog.depth 74 (2 / Tryz.prog.cellsOf 74) 0 74 1=true:=by kernel_rfl
theorem cc_used (b:Nat) (w:World) (h0:w.cell? ⟨b,0,none⟩=some (.pointer (some ⟨b,0,none⟩))) :
 CP 70 #[.pointer (some ⟨b,0,none⟩)] w fun e w'=>e=.returned (.tuple #[])/\w'=w:=by
 obtain⟨j,hj,_⟩:=Option.map_eq_some_iff.1 aI2;go_enter Tryz.func70,Tryz.ntmps70
 go_wp2;rw[Lib.run_neq_ptr_same w _ Tryz.underlying71 hj];go_wp2
 go_end0
 exact⟨rfl,rfl⟩
theorem aNm (b:Nat) (w:World) (h0:w.cell? ⟨b,0,none⟩=some (.pointer none)) (hsh:w.shape? b=some (74,2)) (hfz:w.frozen? ⟨b,0,none⟩=false) :
 CP 70 #[.pointer (some ⟨b,0,none⟩)] w fun e w'=>e=.returned (.tuple #[])/\w'=w.setCell ⟨b,0,none⟩ (.pointer (some ⟨b,0,none⟩)):=by
 obtain⟨j,hj,hjs⟩:=Option.map_eq_some_iff.1 aI2;go_enter Tryz.func70,Tryz.ntmps70
 go_wp2;rw[Lib.run_to_unsafe w ⟨b,0,none⟩ Tryz.underlying71 Tryz.underlying207 hj (by rw[hjs];decide) hsh (Nat.zero_lt_succ 1)];simp only[Result.andThen];rw[Oper.upon_value];go_wp2;rw[run_callFunc_extern Tryz.func129 ge ge ge (e:=Extern.AbiNoEscape.same) ge];rw[Lib.run_noEscape];simp only[Result.andThen];rw[Oper.upon_value];go_wp2;rw[Lib.run_from_unsafe w ⟨b,0,none⟩ Tryz.underlying207 Tryz.underlying71 hj hsh liesBld];simp only[Result.andThen];rw[Oper.upon_value];go_wp2
 go_end0
 exact⟨rfl,rfl⟩
abbrev IsBld (B b:Nat) (bs:List Value) (w:World):Prop:=Lib.IsBuilderF 74 5 B b bs w
def oK (B b:Nat) (bs:List Value) (v:Value) (w:World) (e:Ending) (w':World):Prop:=e=.returned v/\Lib.BuilderAtF 74 5 B b (.pointer (some ⟨b,0,none⟩)) bs w'/\Below B w w'/\Lib.OthersKept 5 (some b) w w'
theorem aIr (B b:Nat) (bs:List Value) (w:World) (h:IsBld B b bs w):CP 70 #[.pointer (some ⟨b,0,none⟩)] w (oK B b bs (.tuple #[]) w):=by
 rcases h with h | h
 ·exact(aNm b w h.cell0 h.shape h.frozen0).mono fun e w' ⟨he,hw⟩=>⟨he,by rw[hw];exact h.used _,by rw[hw];exact(Below.refl B w).setCell (p:=⟨b,0,none⟩) h.1 _,by rw[hw];exact(Lib.OthersKept.refl _ _ w).setCell ⟨b,0,none⟩ rfl _⟩
 ·exact(cc_used b w h.cell0).mono fun e w' ⟨he,hw⟩=>⟨he,by rw[hw];exact h,by rw[hw];exact Below.refl B _,by rw[hw];exact Lib.OthersKept.refl _ _ _⟩
theorem aMt:(Tryz.prog.info? 5).map (fun i=>(i.zero,i.size,i.bytes))=some (some (.int .u8 0),1,1):=by kernel_rfl
theorem kZ (B b:Nat) (bs:List Value) (s:ByteArray) (w:World) (h:IsBld B b bs w) (hlen:bs.length+s.size<=140737488355328) (hBw:B<=w.heap.size) :
 CP 32 #[.pointer (some ⟨b,0,none⟩),.string s] w (oK B b (bs++Lib.strCells s) (.tuple #[I6 s.size,.nilIface]) w):=by
 obtain⟨i0,hi,hz0,hz1,hz2⟩:=info_parts aMt;have HCC:=hid (aIr B b bs w h);clear h;go_enter Tryz.func32,Tryz.ntmps32
 go_wp2_with (go_at_call 70;refine HCC.out.mono ?_)
 rintro e w1 ⟨rfl,h1,hb1,hk1⟩;obtain⟨hB,v,hbk,hown,hne⟩:=h1;have c0:w1.cell? ⟨b,0,none⟩=some (.pointer (some ⟨b,0,none⟩)):=by rw[Lib.cell_of_heap hbk];rfl
 have c1:w1.cell? ⟨b,1,none⟩=some v:=by rw[Lib.cell_of_heap hbk];rfl
 go_wp2_with (at_builtin;refine Lib.wpList_append_own_stringF _ rfl _ _ 72 9 rfl B 5 i0 Tryz.underlying72 Tryz.underlying9 hi hz0 hz1 hz2 _ _ _ rfl hown s rfl ?c3 ?c4 ?c5 ?_)
 case c3=>unfold maxLen;omega
 case c4=>omega
 case c5=>have:=hb1.size;omega
 intro v' w2 hown' hgrow _;have hlt:=ltOf hbk;have hb2:w2.heap[b]?=some (.cells #[.pointer (some ⟨b,0,none⟩),v] 74 (0,0)):=(hgrow.block b hlt (fun e=>hne e.symm)).trans hbk;have d0:=aA hb2 0;have d1:=aA hb2 1;have f1:=aC hb2 1
 (try dsimp only at d0 d1)
 obtain⟨ao,n',cap,rfl⟩:∃ao n' cap,v'=.slice ao n' cap:=by
  rcases hown'.2 with ⟨hv,_⟩ | ⟨g,cap,cur,fz,hv,_⟩
  ·exact⟨_,_,_,hv⟩
  ·exact⟨_,_,_,hv⟩
 go_wp2
 go_ret2
 refine⟨rfl,?_,?_,(hk1.grown hgrow (Lib.ownsRowF_kind hown)).setCell ⟨b,1,none⟩ rfl _⟩
 ·exact Lib.BuilderAtF.put (T:=74) (e:=5) hB hb2 (bs':=bs++Lib.strCells s) (by simpa [Lib.strCells_length] using hown') gc
 ·exact(hb1.grown hgrow (by have:=hb1.size;omega) (fun k hk=>(hown.lt k hk).1)).setCell (p:=⟨b,1,none⟩) hB _
theorem cR (B b:Nat) (bs:List Value) (c:Int) (w:World) (h:IsBld B b bs w) (hlen:bs.length+1<=140737488355328) (hBw:B<=w.heap.size) :
 CP 218 #[.pointer (some ⟨b,0,none⟩),.int .u8 c] w (oK B b (bs++[.int .u8 c]) .nilIface w):=by
 obtain⟨i0,hi,hz0,hz1,hz2⟩:=info_parts aMt;have HCC:=hid (aIr B b bs w h);clear h;go_enter Tryz.func218,Tryz.ntmps218
 go_wp2_with (go_at_call 70;refine HCC.out.mono ?_)
 rintro e w1 ⟨rfl,h1,hb1,hk1⟩;obtain⟨hB,v,hbk,hown,hne⟩:=h1;have c0:w1.cell? ⟨b,0,none⟩=some (.pointer (some ⟨b,0,none⟩)):=by rw[Lib.cell_of_heap hbk];rfl
 have c1:w1.cell? ⟨b,1,none⟩=some v:=by rw[Lib.cell_of_heap hbk];rfl
 go_wp2_with (at_builtin;refine wpList_append_ownF _ rfl _ _ 72 rfl B 5 i0 (.int .u8 0) 1 1 Tryz.underlying72 hi hz0 hz1 hz2 rfl gc _ _ _ rfl (hown.alloc _) ⟨w1.heap.size,0,none⟩ 1 1 [.int .u8 c] rfl rfl ?c1 ?c2 ?c3 ?c4 ?c5 ?_)
 case c1 =>
  intro j u hj
  match j,hj with
  | 0,hj=>simp at hj;subst hj;simp[Addr.add]
 case c2=>intro u hu;simp at hu;subst hu;rfl
 case c3=>unfold maxLen;omega
 case c4=>omega
 case c5=>have:=hb1.size;simp;omega
 intro v' w2 hown' hgrow _;have hlt:=ltOf hbk;have hb2:w2.heap[b]?=some (.cells #[.pointer (some ⟨b,0,none⟩),v] 74 (0,0)):=(hgrow.block b gj (fun e=>hne e.symm)).trans ((Below.heap_alloc _ _ _ hlt).trans hbk);have d0:=aA hb2 0;have d1:=aA hb2 1;have f1:=aC hb2 1
 (try dsimp only at d0 d1)
 obtain⟨g,cap,rfl⟩:∃g cap,v'=.slice (some ⟨g,0,none⟩) (bs.length+1) cap:=by
  rcases hown'.2 with ⟨_,h0⟩ | ⟨g,cap,cur,fz,hv,_⟩
  ·omega
  ·exact⟨g,cap,hv⟩
 go_wp2;go_ret;refine⟨rfl,?_,?_,((hk1.alloc _).grown hgrow (Lib.ownsRowF_kind (hown.alloc _))).setCell ⟨b,1,none⟩ rfl _⟩
 ·exact Lib.BuilderAtF.put (T:=74) (e:=5) hB hb2 (bs':=bs++[.int .u8 c]) (by simpa using hown') gc
 ·exact((hb1.alloc (by have:=hb1.size;omega) _).grown hgrow (by have:=hb1.size;simp;omega) (fun k hk=>(hown.lt k hk).1)).setCell (p:=⟨b,1,none⟩) hB _
end
section
open Go Go.RowKit Go.Shelf
theorem IsBld.ext {B b:Nat} {bs:List Value} {w w':World} (h:IsBld B b bs w) (hb:BB w w'):IsBld B b bs w':=by
 rcases h with ⟨hB,v,hbk,hown,hne⟩ | ⟨hB,v,hbk,hown,hne⟩
 ·exact .inl ⟨hB,v,aB hb hbk,hown.kept (aQ hb none) (by cases v.ownBlock<;>simp),hne⟩
 ·exact .inr ⟨hB,v,aB hb hbk,hown.kept (aQ hb none) (by cases v.ownBlock<;>simp),hne⟩
theorem aGn {e:TypeId} {b:Option Nat} {w w':World} (hb:BB w w'):Lib.OthersKept e b w w':=fun k o h _ _=>aB hb h
def cP (xs:List ByteArray):List UInt8:=Lib.join (xs.map (·.data.toList)) [32]++[10]
theorem gV (B b:Nat) (bs:List UInt8) (xs:List ByteArray) (bk o cap:Nat) (w:World) (h:IsBld B b (Lib.byteCells bs) w) (hc:∀(j:Nat) x,xs[j]?=some x->w.cell? ⟨bk,o+j,none⟩=some (.string x)) (hbk:bk<w.heap.size) (hcap:xs.length<=cap) (hxs:xs.length<=100)
 (hsz:bs.length+(cP xs).length<=140737488355328) (hBw:B<=w.heap.size) :
 CP 31 #[.slice (some ⟨bk,o,none⟩) xs.length cap,.pointer (some ⟨b,0,none⟩)] w (oK B b (Lib.byteCells (bs++cP xs)) (.tuple #[]) w):=by
 obtain⟨js,hjs⟩:=ez (Lib.join (xs.map (·.data.toList)) [32])
 have hl:(cP xs).length=js.length+1:=by rw[cP,hjs];simp
 have hj:=Tryz.strings_Join bk o cap xs ⟨#[32]⟩ w hc hbk ga hcap (by rw[show(⟨#[32]⟩:ByteArray).data.toList=[32] from rfl,<-hjs];omega);rw[show(⟨#[32]⟩:ByteArray).data.toList=[32] from rfl,<-hjs] at hj;have HJ:=hid hj;have HLB:=hid (show cP xs=js++[10] by rw[cP,hjs]);have hz1:(⟨js.toArray⟩:ByteArray).size=js.length:=by simp[ByteArray.size]
 have hz2:(⟨js.toArray⟩:ByteArray).size+1<=9223372036854775807:=by rw[hz1];omega
 have hz3:((⟨js.toArray⟩:ByteArray).size+(⟨#[10]⟩:ByteArray).size)<=9223372036854775807:=hz2;have HWS:Hid (∀w',BB w w'->CP 32 #[.pointer (some ⟨b,0,none⟩),.string (⟨js.toArray⟩++⟨#[10]⟩)] w' (oK B b (Lib.byteCells bs++Lib.strCells (⟨js.toArray⟩++⟨#[10]⟩)) (.tuple #[I6 ((⟨js.toArray⟩++⟨#[10]⟩:ByteArray).size:Nat),.nilIface]) w')):=hid fun w' hb=>kZ B b _ _ w' (h.ext hb) (by
  have e:(⟨js.toArray⟩++⟨#[10]⟩:ByteArray).size=js.length+1:=by rw[ByteArray.size_append,hz1];rfl
  rw[e];simp[Lib.byteCells];omega) (Nat.le_trans hBw hb.size)
 have HBW:=hid hBw;clear h hc hj hjs hsz hl hbk;go_enter Tryz.func31,Tryz.ntmps31
 go_wp2_with (first
  | (go_at_call 32;refine(HWS.out _ hb1).mono ?_;rintro e w2 ⟨rfl,h2,hb2,hk2⟩)
  | (go_at_call 33;refine HJ.out.mono ?_;rintro e w1 ⟨rfl,hb1⟩))
 refine bodyPost_ret (v:=.tuple #[]) (by simp[results,Tryz.results31,go_sem]) rfl ⟨rfl,?_,?_,?_⟩
 ·rw[HLB.out,Lib.byteCells_append];have e:Lib.strCells (⟨js.toArray⟩++⟨#[10]⟩:ByteArray)=Lib.byteCells (js++[10]):=by rw[Lib.strCells_eq,ByteArray.data_append];simp
  rw[<-e];exact h2
 ·exact(hb1.mono HBW.out).trans hb2
 ·exact(aGn hb1).trans hk2
def aO2 (fb:Nat) (s:ByteArray) (w:World) (e:Ending) (w':World):Prop:=e=.returned (.string s)/\w'=w.setCell ⟨fb,0,none⟩ (I6 0)
theorem zM (fb:Nat) (s:ByteArray) (w:World) (h:w.cell? ⟨fb,0,none⟩=some (I6 0)) (hf:w.frozen? ⟨fb,0,none⟩=false) :
 CP 34 #[.string s,I6 0,.pointer (some ⟨fb,0,none⟩)] w (aO2 fb s w):=by
 go_enter Tryz.func34,Tryz.ntmps34
 go_wp2;go_ret;exact⟨rfl,rfl⟩
end
section
open Go Go.RowKit Go.Shelf
def uQ (n:Nat):Bool:=decide (32<=n)&&(!(n==34)&&(!(n==92) && !(n==127)))
def fL (s:ByteArray):List UInt8:=34 :: (s.data.toList++[34])
theorem jK (w:World):IsBld w.heap.size w.heap.size [] (w.alloc (.cells #[.pointer none,.slice none 0 0] 74)) :=
 .inl ⟨Nat.le_refl _,.slice none 0 0,heap_alloc_new _ _,World.ownsRowF_nil _ _ _ _,by simp[Value.ownBlock]⟩
theorem jV (s:ByteArray) (k:Nat) (h:k<s.size):s.data.toList[k]?=some s[k]:=by
 have h':k<s.data.size:=h;rw[Array.getElem?_toList,Array.getElem?_eq_getElem h'];rfl
theorem aGj (s:ByteArray) (w:World) (hs:s.size<=1000000) (hp:∀(j:Nat) (h:j<s.size),uQ s[j].toNat=true) :
 CP 134 #[.string s] w (Rt (.string ⟨(fL s).toArray⟩) w):=by
 have HBN:=hid (jK w);have HP:=hid hp;have HB0:=hid (show BB w (w.alloc (.cells #[.pointer none,.slice none 0 0] 74)) from(bR w).alloc lr _);have HWB:=hid (cR w.heap.size w.heap.size [] 34 (w.alloc (.cells #[.pointer none,.slice none 0 0] 74)) (jK w) gd gd);clear hp;go_enter Tryz.func134,Tryz.ntmps134
 go_wp2_with (go_at_call 218;refine HWB.out.mono ?_;rintro e w1 ⟨rfl,h1,hb1,hk1⟩)
 have HH1:=hid h1;have HB1:=hid hb1;clear h1 hb1 hk1
 go_loopw [9] (fun i wr=>∃k:Nat,k<=s.size/\i=I6 k/\IsBld w.heap.size w.heap.size (Lib.byteCells (34 :: s.data.toList.take k)) wr/\Below w.heap.size w1 wr) (fun i _=>s.size-(intOf i).toNat)
 case atStart=>exact⟨0,Nat.zero_le _,rfl,.inr (by simpa [Lib.byteCells] using HH1.out),Below.refl _ _⟩
 case round =>
  obtain⟨k,hk,rfl,hbl,hbr⟩:=hrel;obtain⟨wp,rfl⟩:=ez (wr:World)
  have hsz:w.heap.size<=wp.heap.size:=by have h1:=(HB0.out.trans HB1.out).size;have h2:=hbr.size;omega
  by_cases hlt:k<s.size
  ·have hlt':(k:Int)<(s.size:Int):=by omega
   have hk0:(0:Int)<=(k:Int):=by omega
   have hpl:=HP.out k hlt;simp only[uQ,Bool.and_eq_true,decide_eq_true_eq,Bool.not_eq_true',beq_eq_false_iff_ne] at hpl;obtain⟨p1,p2,p3,p4⟩:=hpl;have HW2:=hid (cR w.heap.size w.heap.size _ ((s[k].toNat:Nat):Int) wp hbl (by simp[Lib.byteCells];omega) hsz);have HBR:=hid hbr;have HSZ:=hid hsz;have HPP:=hid (And.intro p1 (And.intro p2 (And.intro p3 p4)));clear hbl hbr p1 p2 p3 p4;go_upto_region 8 with (fail)
   obtain⟨c,hc⟩:∃c:Nat,s[k].toNat=c:=⟨_,rfl⟩
   obtain⟨p1,p2,p3,p4⟩:=HPP.out;clear HPP;rw[hc] at p1 p2 p3 p4 HW2 ⊢;have HC:=hid hc;clear hc;have q1:¬ (c:Int)<32:=by omega
   have q0:(32:Int)<=(c:Int):=by omega
   have q2:((c:Int)==34)=false:=by simp;omega
   have q3:((c:Int)==92)=false:=by simp;omega
   have q4:((c:Int)==127)=false:=by simp;omega
   have q5:((c:Int)==10)=false:=by simp;omega
   have q6:((c:Int)==13)=false:=by simp;omega
   have q7:((c:Int)==9)=false:=by simp;omega
   clear p1 p2 p3 p4;go_wp2_with (go_at_call 218;refine HW2.out.mono ?_;rintro e w3 ⟨rfl,h3,hb3,hk3⟩)
   go_roundw
   case rel =>
    refine⟨k+1,by omega,by go_num,.inr ?_,HBR.out.trans hb3⟩;have e:Lib.byteCells (34 :: s.data.toList.take (k+1))=Lib.byteCells (34 :: s.data.toList.take k)++[.int .u8 (c:Int)]:=by
     rw[<-HC.out,List.take_add_one,jV s k hlt];simp[Lib.byteCells]
    rw[e];exact h3
   case measure=>simp[intOf];omega
  ·obtain rfl:k=s.size:=by omega
   have hln:s.data.toList.length=s.size:=rfl;have hall:s.data.toList.take s.size=s.data.toList:=List.take_of_length_le (by rw[hln];exact Nat.le_refl _);rw[hall] at hbl;have hbw:BB w wp:=(HB0.out.trans (HB1.out.mono gd)).trans hbr;have HW2:=hid (cR w.heap.size w.heap.size _ 34 wp hbl (by rw[Lib.byteCells,List.length_map,List.length_cons,hln];omega) hsz);clear hln
   have HST:Hid (∀w' ,IsBld w.heap.size w.heap.size (Lib.byteCells (fL s)) w'->w.heap.size<=w'.heap.size->CP 38 #[.pointer (some ⟨w.heap.size,0,none⟩)] w' fun e w2=>e=.returned (.string ⟨(fL s).toArray⟩)/\Below w.heap.size w' w2):=hid fun w' h hn=>(Tryz.Builder_String_any_k _ _ _ w' h hn).mono fun e w2 ⟨he,_,hb,_⟩=>⟨he,hb⟩
   have HBW:=hid hbw;have HSZ:=hid hsz;clear hbl hbr hall hbw;go_wp2_with (first
    | (go_at_call 38;refine(HST.out w4 (.inr (by have e:Lib.byteCells (fL s)=Lib.byteCells (34 :: s.data.toList)++[.int .u8 34]:=(by simp[fL,Lib.byteCells]);rw[e];exact h4)) (Nat.le_trans HSZ.out hb4.size)).mono ?_;rintro e w5 ⟨rfl,hb5⟩)
    | (go_at_call 218;refine HW2.out.mono ?_;rintro e w4 ⟨rfl,h4,hb4,hk4⟩))
   go_ret;exact⟨rfl,(HBW.out.trans hb4).trans hb5⟩
end
section
open Go Go.RowKit Go.Shelf
theorem wX (s0:ByteArray) (i s:Int) (la:Option Addr) (ll lc:Nat) (fa:Option Addr) (fl fc:Nat) (w:World) (hs:s0.size<=1000000) (hp:∀(j:Nat) (h:j<s0.size),uQ s0[j].toNat=true) :
 CP 74 #[.agg #[I6 4,I6 i,I6 s,.string s0,.slice la ll lc,.slice fa fl fc]] w (Rt (.string ⟨(fL s0).toArray⟩) w):=by
 have HQ:Hid (∀w',BB w w'->CP 134 #[.string s0] w' (Rt (.string ⟨(fL s0).toArray⟩) w)):=hid fun w' h=>(aGj s0 w' hs hp).mono fun e w2 ⟨he,hb⟩=>⟨he,h.trans (hb.mono h.size)⟩
 have HB:=hid (show BB w (w.alloc (.cells #[I6 4,I6 i,I6 s,.string s0,.slice la ll lc,.slice fa fl fc] 36)) from(bR w).alloc lr _);clear hp;go_enter Tryz.func74,Tryz.ntmps74
 go_wp2_with (go_at_call 134;refine(HQ.out _ HB.out).mono ?_;rintro e w' ⟨rfl,hb⟩)
 go_ret;exact⟨rfl,hb⟩
theorem aJy (c:VC) (s0:ByteArray) (w:World) (hd:IsVal (· < w.heap.size) w c (.mk 4 0 0 s0 [] [] [])) (hT:Tabs w) (h0:aR (.mk 4 0 0 s0 [] [] [])=0) (hs:s0.size<=1000) (hp:∀(j:Nat) (h:j<s0.size),uQ s0[j].toNat=true) :
 CP 36 #[c.v] w (Rt (.tuple #[.string ⟨(fL s0).toArray⟩,I6 0]) w):=by
 refine qF c _ w hd hT _ ?_ h0 ?_
 ·have e:(⟨(fL s0).toArray⟩:ByteArray).size=s0.data.toList.length+2:=by rw[show(⟨(fL s0).toArray⟩:ByteArray).size=(fL s0).length from rfl,fL,List.length_cons,List.length_append];rfl
  have e2:s0.data.toList.length=s0.size:=rfl;clear h0 hd hp;omega
 ·intro w' hb;obtain⟨k,i,s,t,la,ll,lc,fa,fl,fc⟩:=c;obtain⟨⟨hk,hi,hss,ht,_⟩,_,_⟩:=hd;dsimp only at hk hi hss ht;subst hk;subst hi;subst hss;subst ht;exact(wX _ _ _ _ _ _ _ _ _ w' ga hp).mono fun e w2 h=>h
theorem aJw (c:VC) (i:Nat) (hi:i<100) (w:World) (hd:IsVal (· < w.heap.size) w c (.mk 2 i 0 ⟨#[]⟩ [] [] [])) (hT:Tabs w) (h0:aR (.mk 2 i 0 ⟨#[]⟩ [] [] [])=0) (hz:(⟨(Lib.decDigits i).toArray⟩:ByteArray).size<=65536) :
 CP 36 #[c.v] w (Rt (.tuple #[.string ⟨(Lib.decDigits i).toArray⟩,I6 0]) w):=by
 refine qF c _ w hd hT _ hz h0 ?_;intro w' hb;obtain⟨k,i',s,t,la,ll,lc,fa,fl,fc⟩:=c;obtain⟨⟨hk,hi',hss,ht,_⟩,_,_⟩:=hd;dsimp only at hk hi' hss ht;subst hk;subst hi';subst hss;subst ht;exact(aAn i hi _ _ _ _ _ _ _ _ w').mono fun e w2 h=>h
structure BldAt (w:World) (b:Nat) (bs:List UInt8) (l:List (Nat × Obj)) (w':World):Prop where
 bld:IsBld b b (Lib.byteCells bs) w'
 bw:BB w w'
 n:b<w'.heap.size
 m:w.heap.size<=b
 at':∀p∈l,w'.heap[p.1]?=some p.2/\p.1≠b/\∀c fz,p.2≠.cells c 5 fz
theorem BldAt.at {w:World} {b:Nat} {bs:List UInt8} {l:List (Nat × Obj)} {w':World} (h:BldAt w b bs l w') (j:Nat) (hj:j<l.length):w'.heap[(l[j]).1]?=some (l[j]).2:=(h.at' _ (List.getElem_mem hj)).1
theorem BldAt.ext {w:World} {b:Nat} {bs:List UInt8} {l:List (Nat × Obj)} {w' w'':World} (h:BldAt w b bs l w') (hb:BB w' w''):BldAt w b bs l w'' :=
 ⟨h.bld.ext hb,h.bw.trans (hb.mono (by have:=h.m;have:=h.n;omega)),Nat.lt_of_lt_of_le h.n hb.size,h.m,fun p hp=>⟨aB hb (h.at' p hp).1,(h.at' p hp).2⟩⟩
theorem BldAt.cons {w:World} {b:Nat} {bs:List UInt8} {l:List (Nat × Obj)} {w':World} (h:BldAt w b bs l w') {k:Nat} {o:Obj} (hk:w'.heap[k]?=some o) (hb:k≠b) (ho:∀c fz,o≠.cells c 5 fz):BldAt w b bs ((k,o) :: l) w' :=
 ⟨h.bld,h.bw,h.n,h.m,fun p hp=>(List.mem_cons.1 hp).elim (fun e=>by rw[e];exact⟨hk,hb,ho⟩) (fun hp=>h.at' p hp)⟩
theorem BldAt.tail {w:World} {b:Nat} {bs:List UInt8} {q:Nat × Obj} {l:List (Nat × Obj)} {w':World} (h:BldAt w b bs (q :: l) w'):BldAt w b bs l w':=⟨h.bld,h.bw,h.n,h.m,fun p hp=>h.at' p (List.mem_cons_of_mem _ hp)⟩
theorem BldAt.line {w:World} {b:Nat} {bs bs':List UInt8} {l:List (Nat × Obj)} {w' w'':World} {v:Value} {e:Ending} (h:BldAt w b bs l w') (hp:oK b b (Lib.byteCells bs') v w' e w''):BldAt w b bs' l w'':=by
 obtain⟨_,h1,h2,h3⟩:=hp;refine⟨.inr h1,h.bw.trans (h2.mono h.m),Nat.lt_of_lt_of_le h.n h2.size,h.m,fun p hp=>?_⟩;obtain⟨q1,q2,q3⟩:=h.at' p hp;exact⟨h3 p.1 p.2 q1 (fun e=>q2 (by injection e)) q3,q2,q3⟩
theorem lS {w:World} {b i:Nat} {cs:Array Value} {t:TypeId} {fr:Nat × Nat} {v:Value} (h:w.heap[b]?=some (.cells cs t fr)) (hv:cs[i]?=some v):w.setCell ⟨b,i,none⟩ v=w:=by
 have e:w.heap.modify b (fun | .cells c elem frozen=>.cells (if (none:Option (Nat)).isSome then c else c.setIfInBounds i v) elem frozen | o=>o)=w.heap:=by
  apply Array.ext_getElem?;intro j;rw[Array.getElem?_modify];split
  ·next hj =>
   subst hj;rw[h];have e2:cs.setIfInBounds i v=cs:=by
    apply Array.ext_getElem?;intro k;rw[Array.getElem?_setIfInBounds];split
    ·next hk=>subst hk;split<;>simp_all
    ·rfl
   simp[e2]
  ·rfl
 show { w with heap:=_ }=w;exact congrArg (fun x=>{ w with heap:=x }) e
end
end Go.Proofs.YtmgpghoamapfgaaGreatDoor
