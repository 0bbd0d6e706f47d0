/- A part. -/
import Derived.Test.YtoodnaghjpkjfaaGreatDoorSE4Mrg
import Derived.Lib.UnsafeStr
import Derived.Lib.BufferKept
namespace Go.Proofs.YtoodnaghjpkjfaaGreatDoor
open Tryz
set_option linter.unusedVariables false
set_option maxRecDepth 100000
set_option maxHeartbeats 64000000
set_option linter.unusedSimpArgs false
open Go Go.RowKit Go.Shelf
theorem aC6:(prog.info? 112).map (·.size)=some 2:=by kernel_rfl
theorem liesBld:liesAt prog prog.depth 112 (2 / prog.cellsOf 112) 0 112 1=true:=by kernel_rfl
theorem aJd (b:Nat) (w:World) (h0:w.cell? ⟨b,0,none⟩=some (Pt b 0)) :
 CP 101 #[Pt b 0] w λe w'=>e=.returned (.tuple #[])/\w'=w:=by
 obtain⟨j,hj,_⟩:=Option.map_eq_some_iff.1 aC6;go_enter func101,ntmps101
 go_wp2;rw[Lib.run_neq_ptr_same w _ underlying110 hj];go_wp2
 go_end0
 exact⟨rfl,rfl⟩
theorem aOh (b:Nat) (w:World) (h0:w.cell? ⟨b,0,none⟩=some (.pointer none)) (aa:w.shape? b=some (112,2)) (ac:w.frozen? ⟨b,0,none⟩=false) :
 CP 101 #[Pt b 0] w λe w'=>e=.returned (.tuple #[])/\w'=w.setCell ⟨b,0,none⟩ (Pt b 0):=by
 obtain⟨j,hj,ab⟩:=Option.map_eq_some_iff.1 aC6;go_enter func101,ntmps101
 go_wp2;rw[Lib.run_to_unsafe w ⟨b,0,none⟩ underlying110 underlying220 hj (by rw[ab];decide) aa (Nat.zero_lt_succ 1)];simp only[Result.andThen];rw[o5];go_wp2;rw[run_callFunc_extern func157 gd gd gd (e:=Extern.AbiNoEscape.same) gd];rw[Lib.run_noEscape];simp only[Result.andThen];rw[o5];go_wp2;rw[Lib.run_from_unsafe w ⟨b,0,none⟩ underlying220 underlying110 hj aa liesBld];simp only[Result.andThen];rw[o5];go_wp2
 go_end0
 exact⟨rfl,rfl⟩
abbrev IsBld (B b:Nat) (bs:List Value) (w:World):Prop:=Lib.IsBuilderF 112 5 B b bs w
def pR (B b:Nat) (bs:List Value) (v:Value) (w:World) (e:Ending) (w':World):Prop:=e=.returned v/\Lib.BuilderAtF 112 5 B b (Pt b 0) bs w'/\Below B w w'/\Lib.OthersKept 5 (some b) w w'
theorem aJe (B b:Nat) (bs:List Value) (w:World) (h:IsBld B b bs w):CP 101 #[Pt b 0] w (pR B b bs (.tuple #[]) w):=by
 rcases h with h|h
 ·exact(aOh b w h.cell0 h.shape h.frozen0).mono λe w' ⟨he,hw⟩=>⟨he,by rw[hw];exact h.used _,by rw[hw];exact(gx B w).setCell (p:=⟨b,0,none⟩) h.1 _,by rw[hw];exact(Lib.OthersKept.refl _ _ w).setCell ⟨b,0,none⟩ rfl _⟩
 ·exact(aJd b w h.cell0).mono λe w' ⟨he,hw⟩=>⟨he,by rw[hw];exact h,by rw[hw];exact gx B _,by rw[hw];exact Lib.OthersKept.refl _ _ _⟩
theorem aCt:(prog.info? 5).map (λi=>(i.zero,i.size,i.bytes))=some (some (.int .u8 0),1,1):=by kernel_rfl
theorem lY (B b:Nat) (bs:List Value) (s:BA) (w:World) (h:IsBld B b bs w) (al:bs.length+s.size<=140737488355328) (ap:B<=w.heap.size) :
 CP 65 #[Pt b 0,Sv s] w (pR B b (bs++Lib.strCells s) (.tuple #[I6 s.size,.nilIface]) w):=by
 obtain⟨i0,hi,ai,an,ah⟩:=jr aCt;have ak:=f8 (aJe B b bs w h);clear h;go_enter func65,ntmps65
 go_wp2_with (go_at_call 101;refine ak.mono ?_)
 rintro e w1 ⟨rfl,h1,af,aj⟩;obtain⟨hB,v,ad,ac,ag⟩:=h1;have c0:w1.cell? ⟨b,0,none⟩=some (Pt b 0):=by rw[om ad];rfl
 have c1:w1.cell? ⟨b,1,none⟩=some v:=by rw[om ad];rfl
 go_wp2_with (at_builtin;refine Lib.wpList_append_own_stringF _ rfl _ _ 40 9 rfl B 5 i0 underlying40 underlying9 hi ai an ah _ _ _ rfl ac s rfl ?c3 ?c4 ?c5 ?_)
 case c3=>unfold maxLen;omega
 case c4=>omega
 case c5=>have:=af.size;omega
 intro v' w2 ab aa _;have am:=ltOf ad;have ae:w2.heap[b]?=some (.cells #[Pt b 0,v] 112 (0,0)):=(aa.block b am (λe=>ag e.symm)).trans ad;obtain⟨d0,d1⟩:=c_2 ae;have f1:=aF ae 1
 (try dsimp only at d0 d1)
 obtain⟨ao,n',cap,rfl⟩:∃ao n' cap,v'=Sl ao n' cap:=by
  rcases ab.2 with ⟨hv,_⟩|⟨g,cap,cur,fz,hv,_⟩
  ·exact⟨_,_,_,hv⟩
  ·exact⟨_,_,_,hv⟩
 go_wp2
 go_ret2
 refine⟨rfl,?_,?_,(aj.grown aa (qn ac)).setCell ⟨b,1,none⟩ rfl _⟩
 ·exact Lib.BuilderAtF.put (T:=112) (e:=5) hB ae (bs':=bs++Lib.strCells s) (by simpa [Lib.strCells_length] using ab) gb
 ·exact(af.grown aa (by have:=af.size;omega) (λk hk=>(ac.lt k hk).1)).setCell (p:=⟨b,1,none⟩) hB _
theorem cY (B b:Nat) (bs:List Value) (c:Int) (w:World) (h:IsBld B b bs w) (al:bs.length+1<=140737488355328) (ao:B<=w.heap.size) :
 CP 53 #[Pt b 0,.int .u8 c] w (pR B b (bs++[.int .u8 c]) .nilIface w):=by
 obtain⟨i0,hi,ai,an,ah⟩:=jr aCt;have ak:=f8 (aJe B b bs w h);clear h;go_enter func53,ntmps53
 go_wp2_with (go_at_call 101;refine ak.mono ?_)
 rintro e w1 ⟨rfl,h1,ae,aj⟩;obtain⟨hB,v,ad,ac,ag⟩:=h1;have c0:w1.cell? ⟨b,0,none⟩=some (Pt b 0):=by rw[om ad];rfl
 have c1:w1.cell? ⟨b,1,none⟩=some v:=by rw[om ad];rfl
 go_wp2_with (at_builtin;refine wpList_append_ownF _ rfl _ _ 40 rfl B 5 i0 (.int .u8 0) 1 1 underlying40 hi ai an ah rfl gb _ _ _ rfl (ac.alloc _) ⟨w1.heap.size,0,none⟩ 1 1 [.int .u8 c] rfl rfl ?c1 ?c2 ?c3 ?c4 ?c5 ?_)
 case c1 =>
  intro j u hj
  match j,hj with
  | 0,hj=>simp at hj;subst hj;simp[Addr.add]
 case c2=>intro u hu;simp at hu;subst hu;rfl
 case c3=>unfold maxLen;omega
 case c4=>omega
 case c5=>have:=ae.size;simp;omega
 intro v' w2 ab aa _;have am:=ltOf ad;have af:w2.heap[b]?=some (.cells #[Pt b 0,v] 112 (0,0)):=(aa.block b gi (λe=>ag e.symm)).trans ((iy _ _ _ am).trans ad);obtain⟨d0,d1⟩:=c_2 af;have f1:=aF af 1
 (try dsimp only at d0 d1)
 obtain⟨g,cap,rfl⟩:∃g cap,v'=Sl (So g 0) (bs.length+1) cap:=by
  rcases ab.2 with ⟨_,h0⟩|⟨g,cap,cur,fz,hv,_⟩
  ·omega
  ·exact⟨g,cap,hv⟩
 go_wp2;go_ret;refine⟨rfl,?_,?_,((aj.alloc _).grown aa (qn (ac.alloc _))).setCell ⟨b,1,none⟩ rfl _⟩
 ·exact Lib.BuilderAtF.put (T:=112) (e:=5) hB af (bs':=bs++[.int .u8 c]) (by simpa using ab) gb
 ·exact((ae.alloc (by have:=ae.size;omega) _).grown aa (by have:=ae.size;simp;omega) (λk hk=>(ac.lt k hk).1)).setCell (p:=⟨b,1,none⟩) hB _
theorem IsBld.ext {B b:Nat} {bs:List Value} {w w':World} (h:IsBld B b bs w) (hb:BB w w'):IsBld B b bs w':=by
 rcases h with ⟨hB,v,hbk,hown,hne⟩|⟨hB,v,hbk,hown,hne⟩
 ·exact .inl ⟨hB,v,aB hb hbk,hown.kept (aU hb none) (by cases v.ownBlock<;>simp),hne⟩
 ·exact .inr ⟨hB,v,aB hb hbk,hown.kept (aU hb none) (by cases v.ownBlock<;>simp),hne⟩
theorem aH6 {e:TypeId} {b:Option Nat} {w w':World} (hb:BB w w'):Lib.OthersKept e b w w':=λk o h _ _=>aB hb h
def jH (xs:List BA):List UInt8:=Lib.join (xs.map (·.data.toList)) [32]++[10]
theorem pF (B b:Nat) (bs:List UInt8) (xs:List ByteArray) (bk o cap:Nat) (w:World) (h:IsBld B b (Lib.byteCells bs) w) (hc:∀(j:Nat) x,xs[j]?=some x->w.cell? ⟨bk,o+j,none⟩=some (Sv x)) (ae:bk<w.heap.size) (ab:xs.length<=cap) (an:xs.length<=100)
 (ag:bs.length+(jH xs).length<=140737488355328) (af:B<=w.heap.size) :
 CP 81 #[Sl (So bk o) xs.length cap,Pt b 0] w (pR B b (Lib.byteCells (bs++jH xs)) (.tuple #[]) w):=by
 obtain⟨js,aa⟩:=xe (Lib.join (xs.map (·.data.toList)) [32])
 have hl:(jH xs).length=js.length+1:=by rw[jH,aa];simp
 have hj:=Tryz.strings_Join bk o cap xs ⟨#[32]⟩ w hc ae ga ab (by rw[show(⟨#[32]⟩:ByteArray).data.toList=[32] from rfl,<-aa];omega);rw[show(⟨#[32]⟩:ByteArray).data.toList=[32] from rfl,<-aa] at hj;have HJ:=f8 hj;have ah:=f8 (show jH xs=js++[10] by rw[jH,aa]);have ad:(⟨js.toArray⟩:ByteArray).size=js.length:=by simp[ByteArray.size]
 have ai:(⟨js.toArray⟩:ByteArray).size+1<=9223372036854775807:=by rw[ad];omega
 have ao:((⟨js.toArray⟩:ByteArray).size+(⟨#[10]⟩:ByteArray).size)<=9223372036854775807:=ai;have al:f7 (∀w',BB w w'->CP 65 #[Pt b 0,Sv (⟨js.toArray⟩++⟨#[10]⟩)] w' (pR B b (Lib.byteCells bs++Lib.strCells (⟨js.toArray⟩++⟨#[10]⟩)) (.tuple #[I6 ((⟨js.toArray⟩++⟨#[10]⟩:ByteArray).size:Nat),.nilIface]) w')):=f8 λw' hb=>lY B b _ _ w' (h.ext hb) (by
  have e:(⟨js.toArray⟩++⟨#[10]⟩:ByteArray).size=js.length+1:=by rw[ly,ad];rfl
  rw[e];simp[Lib.byteCells];omega) (io af hb.size)
 have am:=f8 af;clear h hc hj aa ag hl ae;go_enter func81,ntmps81
 go_wp2_with (first
  | (go_at_call 65;refine(al.o _ ac).mono ?_;rintro e w2 ⟨rfl,h2,ak,aj⟩)
  | (go_at_call 48;refine HJ.mono ?_;rintro e w1 ⟨rfl,ac⟩))
 refine ig (v:=.tuple #[]) (by simp[results,results81,go_sem]) rfl ⟨rfl,?_,?_,?_⟩
 ·rw[ah.o,Lib.byteCells_append];have e:Lib.strCells (⟨js.toArray⟩++⟨#[10]⟩:ByteArray)=Lib.byteCells (js++[10]):=by rw[Lib.strCells_eq,p8];simp
  rw[<-e];exact h2
 ·exact(ac.mono am.o).trans ak
 ·exact(aH6 ac).trans aj
theorem lP (w:World):IsBld w.heap.size w.heap.size [] (w.alloc (.cells #[.pointer none,Z0] 112)) :=
 .inl ⟨gy _,Z0,ib _ _,World.ownsRowF_nil _ _ _ _,by simp[Value.ownBlock]⟩
theorem lQ (s:BA) (k:Nat) (h:k<s.size):s.data.toList[k]?=some s[k]:=by
 have h':k<s.data.size:=h;rw[Array.getElem?_toList,jc h'];rfl
structure JW where
 b:List UInt8
 e:Int
def JwT (T:TypeId):Prop:=liesAt prog prog.depth T (3 / prog.cellsOf T) 0 112 1=true/\T≠5
def IsJw (T:TypeId) (B b:Nat) (j:JW) (w:World):Prop :=
 B<=b/\∃p v,w.heap[b]?=some (.cells #[p,v,I6 j.e] T (0,0))/\(p=.pointer none\/p=.pointer (So b 0))/\w.ownsRowF B 5 1 v j.b.length (Lib.byteCells j.b)/\v.ownBlock≠some b
def aJh (T:TypeId) (B b:Nat) (j:JW) (v:Value) (w:World) (e:Ending) (w':World):Prop:=e=.returned v/\IsJw T B b j w'/\Below B w w'/\Lib.OthersKept 5 (some b) w w'
theorem IsJw.lt {T:TypeId} {B b:Nat} {j:JW} {w:World} (h:IsJw T B b j w):b<w.heap.size:=by
 obtain⟨_,p,v,hb,_⟩:=h;exact ltOf hb
theorem IsJw.eCell {T:TypeId} {B b:Nat} {j:JW} {w:World} (h:IsJw T B b j w):w.cell? ⟨b,2,none⟩=some (I6 j.e)/\w.frozen? ⟨b,2,none⟩=false:=by
 obtain⟨_,p,v,hb,_⟩:=h;exact⟨aA hb 2,aF hb 2⟩
theorem IsJw.ext {T:TypeId} {B b:Nat} {j:JW} {w w':World} (h:IsJw T B b j w) (hb:BB w w'):IsJw T B b j w':=by
 have ab:=h.lt;obtain⟨hB,p,v,hk,hp,aa,ac⟩:=h;exact⟨hB,p,v,(hb.block b ab).trans hk,hp,aa.kept (row:=none) ⟨hb.os,hb.tape,hb.output,hb.size,λk hk _=>hb.block k hk⟩ (by
  rcases hv:v.ownBlock with _|g
  ·exact .inl rfl
  ·exact .inr ge),ac⟩
theorem IsJw.setE {T:TypeId} {B b:Nat} {j:JW} {w:World} (h:IsJw T B b j w) (e:Int):IsJw T B b ⟨j.b,e⟩ (w.setCell ⟨b,2,none⟩ (I6 e)):=by
 obtain⟨hB,p,v,hb,hp,aa,ab⟩:=h;refine⟨hB,p,v,?_,hp,?_,ab⟩
 ·simp[World.setCell,mv,hb]
 ·exact aa.kept (row:=some b) ⟨rfl,rfl,rfl,by simp[World.setCell],λk _ hk=>ij _ _ _ _ (λe=>hk (by simp[e]))⟩ (Or.inr ab)
theorem cV {e:TypeId} {b:Option Nat} {w w':World} (hb:BB w w'):Lib.OthersKept e b w w':=λk o h _ _=>aB hb h
theorem aLz (T:TypeId) (hT:JwT T) (b:Nat) (w:World) (h0:w.cell? ⟨b,0,none⟩=some (.pointer none)) (aa:w.shape? b=some (T,3)) (ac:w.frozen? ⟨b,0,none⟩=false) :
 CP 101 #[Pt b 0] w λe w'=>e=.returned (.tuple #[])/\w'=w.setCell ⟨b,0,none⟩ (Pt b 0):=by
 obtain⟨j,hj,ab⟩:=Option.map_eq_some_iff.1 aC6;go_enter func101,ntmps101
 go_wp2;rw[Lib.run_to_unsafe w ⟨b,0,none⟩ underlying110 underlying220 hj (by rw[ab];decide) aa (Nat.zero_lt_succ 2)];simp only[Result.andThen];rw[o5];go_wp2;rw[run_callFunc_extern func157 gd gd gd (e:=Extern.AbiNoEscape.same) gd];rw[Lib.run_noEscape];simp only[Result.andThen];rw[o5];go_wp2;rw[Lib.run_from_unsafe w ⟨b,0,none⟩ underlying220 underlying110 hj aa hT.1];simp only[Result.andThen];rw[o5];go_wp2
 go_end0
 exact⟨rfl,rfl⟩
theorem aFn (T:TypeId) (hT:JwT T) (B b:Nat) (j:JW) (w:World) (h:IsJw T B b j w):CP 101 #[Pt b 0] w λe w'=>aJh T B b j (.tuple #[]) w e w'/\∃v,w'.heap[b]?=some (.cells #[Pt b 0,v,I6 j.e] T (0,0))/\w'.ownsRowF B 5 1 v j.b.length (Lib.byteCells j.b)/\v.ownBlock≠some b:=by
 have h0:=h;obtain⟨hB,p,v,hb,hp,aa,ab⟩:=h;rcases hp with rfl|rfl
 ·refine(aLz T hT b w (aA hb 0) (by simp[World.shape?,hb]) (aF hb 0)).mono λe w' ⟨he,hw⟩=>?_;have ad:w'.heap[b]?=some (.cells #[Pt b 0,v,I6 j.e] T (0,0)):=by rw[hw];simp[World.setCell,mv,hb]
  have ac:w'.ownsRowF B 5 1 v j.b.length (Lib.byteCells j.b):=by
   rw[hw];exact aa.kept (row:=some b) ⟨rfl,rfl,rfl,by simp[World.setCell],λk _ hk=>ij _ _ _ _ (λe=>hk (by simp[e]))⟩ (Or.inr ab)
  exact⟨⟨he,⟨hB,_,v,ad,.inr rfl,ac,ab⟩,by rw[hw];exact(gx B w).setCell (p:=⟨b,0,none⟩) hB _,by rw[hw];exact(Lib.OthersKept.refl _ _ w).setCell ⟨b,0,none⟩ rfl _⟩,v,ad,ac,ab⟩
 ·refine(aJd b w (aA hb 0)).mono λe w' ⟨he,hw⟩=>?_;rw[hw];exact⟨⟨he,h0,gx B _,Lib.OthersKept.refl _ _ _⟩,v,hb,aa,ab⟩
theorem vC (T:TypeId) (hT:JwT T) (B b:Nat) (j:JW) (s:BA) (w:World) (h:IsJw T B b j w) (an:j.b.length+s.size<=140737488355328) (au:B<=w.heap.size) :
 CP 65 #[Pt b 0,Sv s] w (aJh T B b ⟨j.b++s.data.toList,j.e⟩ (.tuple #[I6 s.size,.nilIface]) w):=by
 obtain⟨i0,hi,ak,aq,aj⟩:=jr aCt;have am:=f8 (aFn T hT B b j w h);have HT:=f8 hT.2;have hB:=h.1;clear h hT;go_enter func65,ntmps65
 go_wp2_with (go_at_call 101;refine am.mono ?_)
 rintro e w1 ⟨⟨rfl,h1,ag,al⟩,v,af,ac,ai⟩;have c0:w1.cell? ⟨b,0,none⟩=some (Pt b 0):=by rw[om af];rfl
 have c1:w1.cell? ⟨b,1,none⟩=some v:=by rw[om af];rfl
 have ar:(Lib.byteCells j.b).length=j.b.length:=Lib.byteCells_length _;go_wp2_with (at_builtin;refine Lib.wpList_append_own_stringF _ rfl _ _ 40 9 rfl B 5 i0 underlying40 underlying9 hi ak aq aj _ _ _ rfl ac s rfl ?c3 ?c4 ?c5 ?_)
 case c3=>unfold maxLen;omega
 case c4=>omega
 case c5=>have:=ag.size;omega
 intro v' w2 aa ab _;have ap:=ltOf af;have ae:w2.heap[b]?=some (.cells #[Pt b 0,v,I6 j.e] T (0,0)):=(ab.block b ap (λe=>ai e.symm)).trans af;obtain⟨d0,d1⟩:=c_2 ae;have f1:=aF ae 1
 (try dsimp only at d0 d1)
 have ad:v'.ownBlock≠some b:=Lib.ownBlock_neF aa ae HT.o;have ah:=f8 ad;clear ad;obtain⟨ao,n',cap,rfl⟩:∃ao n' cap,v'=Sl ao n' cap:=by
  rcases aa.2 with ⟨hv,_⟩|⟨g,cap,cur,fz,hv,_⟩
  ·exact⟨_,_,_,hv⟩
  ·exact⟨_,_,_,hv⟩
 go_wp2
 go_ret2
 refine⟨rfl,⟨hB,_,Sl ao n' cap,?_,.inr rfl,?_,ah.o⟩,?_,(al.grown ab (qn ac)).setCell ⟨b,1,none⟩ rfl _⟩
 ·simp[World.setCell,mv,ae]
 ·have hx:Lib.byteCells (j.b++s.data.toList)=Lib.byteCells j.b++Lib.strCells s:=by simp[Lib.byteCells,Lib.strCells]
  have hz:(j.b++s.data.toList).length=j.b.length+s.size:=by rw[ik];congr 1
  dsimp only;rw[hx,hz];exact aa.kept (row:=some b) ⟨rfl,rfl,rfl,by simp[World.setCell],λk _ hk=>ij _ _ _ _ (λe=>hk (by simp[e]))⟩ (Or.inr ah.o)
 ·exact(ag.grown ab (by have:=ag.size;omega) (λk hk=>(ac.lt k hk).1)).setCell (p:=⟨b,1,none⟩) hB _
theorem aJr (T:TypeId) (B b:Nat) (j:JW) (w:World) (h:IsJw T B b j w) (h0:j.b≠[]) (an:B<=w.heap.size) :
 CP 54 #[Pt b 0] w λe w'=>e=.returned (Sv ⟨j.b.toArray⟩)/\Below B w w'/\Lib.OthersKept 5 (some b) w w':=by
 obtain⟨hB,p,v,ad,hp,ab,ae⟩:=h;obtain⟨l,hl⟩:=xe j.b
 rw[<-hl] at ab h0 ⊢;have af:l.length≠0:=by simpa using h0
 obtain⟨g,cap,aa,fz,rfl,ah,hg,ak,am,ag,aj,ac⟩:∃g cap aa fz,v=Sl (So g 0) l.length cap/\B<=g/\w.heap[g]?=some (.cells aa 5 fz)/\fz.2<=l.length * 1/\l.length<=cap/\cap<=maxLen/\aa.size=cap * 1/\aa.toList.take (l.length * 1)=Lib.byteCells l:=by
  rcases ab.2 with ⟨_,hz⟩|⟨g,cap,aa,fz,hv,r⟩
  ·exact absurd hz af
  ·exact⟨g,cap,aa,fz,hv,r⟩
 have c1:w.drew.cell? ⟨b,1,none⟩=some (Sl (So g 0) l.length cap):=by
  have:w.drew.heap[b]?=some (.cells #[p,Sl (So g 0) l.length cap,I6 j.e] T (0,0)):=ad;rw[om this];rfl
 have ao:(Builtin.unsafeSliceData_ #[40] 159 #[Sl (So g 0) l.length cap]).run prog w.drew=.ok (Pt g 0) w.drew :=
  Lib.run_unsafeSliceData_row _ _ _ _ _ _ ga
 have al:(Builtin.unsafeString_ #[159,3] 9 #[Pt g 0,I6 l.length]).run prog w.drew=.ok (Sv ⟨l.toArray⟩) (w.drew.freeze ⟨g,0,none⟩ l.length):=by
  refine Lib.run_unsafeString_row w.drew 159 3 9 5 underlying159 gd g aa.size (by have ai:w.drew.heap[g]?=some (.cells aa 5 fz):=hg;simp[World.shape?,ai]) l h0 ga (by unfold maxLen at ag;omega) ?_;intro j x hx;exact ab.cells (g:=g) rfl j (.int .u8 x.toNat) (by simp[Lib.byteCells,hx])
 have HF:=f8 (show Below B w (w.drew.freeze ⟨g,0,none⟩ l.length)/\Lib.OthersKept 5 (some b) w (w.drew.freeze ⟨g,0,none⟩ l.length) from
  ⟨Lib.below_freeze (Below.drew (gx B w)) (p:=⟨g,0,none⟩) ah _,((Lib.OthersKept.refl _ _ w).drew).freeze ⟨g,0,none⟩ _ ⟨aa,fz,hg⟩⟩)
 clear hl ab hp ad hg ac ae;go_enter func54,ntmps54
 go_wp2
 go_region
 all_goals (go_wp2;go_ret;exact⟨rfl,HF.o⟩)
theorem aDj (T:TypeId) (hT:JwT T) (B b:Nat) (j:JW) (c:UInt8) (w:World) (h:IsJw T B b j w) (ar:j.b.length+1<=140737488355328) (av:B<=w.heap.size) :
 CP 53 #[Pt b 0,.int .u8 (c.toNat:Nat)] w (aJh T B b ⟨j.b++[c],j.e⟩ .nilIface w):=by
 obtain⟨i0,hi,ao,am,an⟩:=jr aCt;have al:=f8 (aFn T hT B b j w h);have HT:=f8 hT.2;have hB:=h.1;obtain⟨cn,ah⟩:=xe (c.toNat:Nat)
 rw[<-ah];have ak:=f8 ah;clear h hT ah;go_enter func53,ntmps53
 go_wp2_with (go_at_call 101;refine al.mono ?_)
 rintro e w1 ⟨⟨rfl,h1,ag,ap⟩,v,af,ac,aj⟩;have c0:w1.cell? ⟨b,0,none⟩=some (Pt b 0):=by rw[om af];rfl
 have c1:w1.cell? ⟨b,1,none⟩=some v:=by rw[om af];rfl
 have au:(Lib.byteCells j.b).length=j.b.length:=Lib.byteCells_length _;go_wp2_with (at_builtin;refine wpList_append_ownF _ rfl _ _ 40 rfl B 5 i0 (.int .u8 0) 1 1 underlying40 hi ao am an rfl gb _ _ _ rfl (ac.alloc _) ⟨w1.heap.size,0,none⟩ 1 1 [.int .u8 cn] rfl rfl ?c1 ?c2 ?c3 ?c4 ?c5 ?_)
 case c1 =>
  intro j u hj
  match j,hj with
  | 0,hj=>simp at hj;subst hj;simp[Addr.add]
 case c2=>intro u hu;simp at hu;subst hu;rfl
 case c3=>unfold maxLen;omega
 case c4=>omega
 case c5=>have:=ag.size;simp;omega
 intro v' w2 ab aa _;have aq:=ltOf af;have ae:w2.heap[b]?=some (.cells #[Pt b 0,v,I6 j.e] T (0,0)):=(aa.block b gi (λe=>aj e.symm)).trans ((iy _ _ _ aq).trans af);obtain⟨d0,d1⟩:=c_2 ae;have f1:=aF ae 1
 (try dsimp only at d0 d1)
 have ad:v'.ownBlock≠some b:=Lib.ownBlock_neF ab ae HT.o;have ai:=f8 ad;clear ad;obtain⟨g,cap,rfl⟩:∃g cap,v'=Sl (So g 0) (j.b.length+1) cap:=by
  rcases ab.2 with ⟨_,h0⟩|⟨g,cap,cur,fz,hv,_⟩
  ·omega
  ·exact⟨g,cap,hv⟩
 go_wp2;go_ret;refine⟨rfl,⟨hB,_,Sl (So g 0) (j.b.length+1) cap,?_,.inr rfl,?_,ai.o⟩,?_,((ap.alloc _).grown aa (qn (ac.alloc _))).setCell ⟨b,1,none⟩ rfl _⟩
 ·simp[World.setCell,mv,ae]
 ·have hx:Lib.byteCells (j.b++[c])=Lib.byteCells j.b++[.int .u8 cn]:=by rw[ak.o];simp[Lib.byteCells]
  have hz:(j.b++[c]).length=j.b.length+1:=by rw[ik];rfl
  dsimp only;rw[hx,hz];exact ab.kept (row:=some b) ⟨rfl,rfl,rfl,by simp[World.setCell],λk _ hk=>ij _ _ _ _ (λe=>hk (by simp[e]))⟩ (Or.inr ai.o)
 ·exact((ag.alloc (by have:=ag.size;omega) _).grown aa (by have:=ag.size;simp;omega) (λk hk=>(ac.lt k hk).1)).setCell (p:=⟨b,1,none⟩) hB _
theorem snwT:JwT 126:=⟨by kernel_rfl,by decide⟩
def lnW (j:JW) (s:BA):JW:=⟨j.b++s.data.toList++[10],j.e⟩
end Go.Proofs.YtoodnaghjpkjfaaGreatDoor
