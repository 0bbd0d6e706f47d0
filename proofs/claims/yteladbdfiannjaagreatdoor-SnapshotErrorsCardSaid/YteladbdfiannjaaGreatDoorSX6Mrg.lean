/- A part. -/
import Derived.Test.YteladbdfiannjaaGreatDoorSX5Mrg
import Derived.Lib.BufferKept
import Derived.Lib.UnsafeStr
namespace Go.Proofs.YteladbdfiannjaaGreatDoor
set_option linter.unusedVariables false
set_option maxRecDepth 100000
set_option maxHeartbeats 64000000
set_option linter.unusedSimpArgs false
section
open Go Go.RowKit Go.Shelf
theorem rJ:(Tryz.prog.info? 139).map (·.size)=some 2:=by kernel_rfl
theorem liesBld:liesAt Tryz.prog Tryz.prog.depth 139 (2 / Tryz.prog.cellsOf 139) 0 139 1=true:=by kernel_rfl
theorem zB (b:Nat) (w:World) (h0:w.cell? ⟨b,0,none⟩=some (.pointer (some ⟨b,0,none⟩))) :
 Calls Tryz.prog 147 #[.pointer (some ⟨b,0,none⟩)] w fun e w'=>e=.returned (.tuple #[])∧w'=w:=by
 obtain⟨j,hj,_⟩:=Option.map_eq_some_iff.1 rJ
 go_enter Tryz.func147,Tryz.ntmps147
 go_wp2
 rw[Lib.run_neq_ptr_same w _ Tryz.underlying136 hj]
 go_wp2
 go_end0
 exact⟨rfl,rfl⟩
theorem aDm (b:Nat) (w:World) (h0:w.cell? ⟨b,0,none⟩=some (.pointer none)) (hsh:w.shape? b=some (139,2)) (hfz:w.frozen? ⟨b,0,none⟩=false) :
 Calls Tryz.prog 147 #[.pointer (some ⟨b,0,none⟩)] w fun e w'=>e=.returned (.tuple #[])∧w'=w.setCell ⟨b,0,none⟩ (.pointer (some ⟨b,0,none⟩)):=by
 obtain⟨j,hj,hjs⟩:=Option.map_eq_some_iff.1 rJ
 go_enter Tryz.func147,Tryz.ntmps147
 go_wp2
 rw[Lib.run_to_unsafe w ⟨b,0,none⟩ Tryz.underlying136 Tryz.underlying255 hj (by rw[hjs];decide) hsh (Nat.zero_lt_succ 1)]
 simp only[Result.andThen]
 rw[Oper.upon_value]
 go_wp2
 rw[run_callFunc_extern Tryz.func198 (by kernel_rfl) (by kernel_rfl) (by kernel_rfl) (e:=Extern.AbiNoEscape.same) (by kernel_rfl)]
 rw[Lib.run_noEscape]
 simp only[Result.andThen]
 rw[Oper.upon_value]
 go_wp2
 rw[Lib.run_from_unsafe w ⟨b,0,none⟩ Tryz.underlying255 Tryz.underlying136 hj hsh liesBld]
 simp only[Result.andThen]
 rw[Oper.upon_value]
 go_wp2
 go_end0
 exact⟨rfl,rfl⟩
abbrev IsBld (B b:Nat) (bs:List Value) (w:World):Prop:=Lib.IsBuilderF 139 5 B b bs w
def jT (B b:Nat) (bs:List Value) (v:Value) (w:World) (e:Ending) (w':World):Prop:=e=.returned v∧Lib.BuilderAtF 139 5 B b (.pointer (some ⟨b,0,none⟩)) bs w'∧Below B w w'∧Lib.OthersKept 5 (some b) w w'
theorem zC (B b:Nat) (bs:List Value) (w:World) (h:IsBld B b bs w):Calls Tryz.prog 147 #[.pointer (some ⟨b,0,none⟩)] w (jT B b bs (.tuple #[]) w):=by
 rcases h with h | h
 ·exact(aDm b w h.cell0 h.shape h.frozen0).mono fun e w' ⟨he,hw⟩=>⟨he,by rw[hw];exact h.used _,by rw[hw];exact(Below.refl B w).setCell (p:=⟨b,0,none⟩) h.1 _,by rw[hw];exact(Lib.OthersKept.refl _ _ w).setCell ⟨b,0,none⟩ rfl _⟩
 ·exact(zB b w h.cell0).mono fun e w' ⟨he,hw⟩=>⟨he,by rw[hw];exact h,by rw[hw];exact Below.refl B _,by rw[hw];exact Lib.OthersKept.refl _ _ _⟩
theorem rX:(Tryz.prog.info? 5).map (fun i=>(i.zero,i.size,i.bytes))=some (some (.int .u8 0),1,1):=by kernel_rfl
theorem jK (B b:Nat) (bs:List Value) (s:ByteArray) (w:World) (h:IsBld B b bs w) (hlen:bs.length+s.size≤140737488355328) (hBw:B≤w.heap.size) :
 Calls Tryz.prog 81 #[.pointer (some ⟨b,0,none⟩),.string s] w (jT B b (bs++Lib.strCells s) (.tuple #[.int .i64 s.size,.nilIface]) w):=by
 obtain⟨i0,hi,hz0,hz1,hz2⟩:=info_parts rX
 have HCC:=hid (zC B b bs w h)
 clear h
 go_enter Tryz.func81,Tryz.ntmps81
 go_wp2_with (go_at_call 147;refine HCC.out.mono ?_)
 rintro e w1 ⟨rfl,h1,hb1,hk1⟩
 obtain⟨hB,v,hbk,hown,hne⟩:=h1
 have c0:w1.cell? ⟨b,0,none⟩=some (.pointer (some ⟨b,0,none⟩)):=by rw[Lib.cell_of_heap hbk];rfl
 have c1:w1.cell? ⟨b,1,none⟩=some v:=by rw[Lib.cell_of_heap hbk];rfl
 go_wp2_with (at_builtin;refine Lib.wpList_append_own_stringF _ rfl _ _ 137 9 rfl B 5 i0 Tryz.underlying137 Tryz.underlying9 hi hz0 hz1 hz2 _ _ _ rfl hown s rfl ?c3 ?c4 ?c5 ?_)
 case c3=>unfold maxLen;omega
 case c4=>omega
 case c5=>have:=hb1.size;omega
 intro v' w2 hown' hgrow _
 have hlt:=bT hbk
 have hb2:w2.heap[b]?=some (.cells #[.pointer (some ⟨b,0,none⟩),v] 139 (0,0)):=(hgrow.block b hlt (fun e=>hne e.symm)).trans hbk
 have d0:=aA hb2 0
 have d1:=aA hb2 1
 have f1:=aE hb2 1
 (try dsimp only at d0 d1)
 obtain⟨ao,n',cap,rfl⟩:∃ao n' cap,v'=.slice ao n' cap:=by
  rcases hown'.2 with ⟨hv,_⟩ | ⟨g,cap,cur,fz,hv,_⟩
  ·exact⟨_,_,_,hv⟩
  ·exact⟨_,_,_,hv⟩
 go_wp2
 go_ret2
 refine⟨rfl,?_,?_,(hk1.grown hgrow (Lib.ownsRowF_kind hown)).setCell ⟨b,1,none⟩ rfl _⟩
 ·exact Lib.BuilderAtF.put (T:=139) (e:=5) hB hb2 (bs':=bs++Lib.strCells s) (by simpa [Lib.strCells_length] using hown') (by decide)
 ·exact(hb1.grown hgrow (by have:=hb1.size;omega) (fun k hk=>(hown.lt k hk).1)).setCell (p:=⟨b,1,none⟩) hB _
theorem eJ (B b:Nat) (bs:List Value) (c:Int) (w:World) (h:IsBld B b bs w) (hlen:bs.length+1≤140737488355328) (hBw:B≤w.heap.size) :
 Calls Tryz.prog 144 #[.pointer (some ⟨b,0,none⟩),.int .u8 c] w (jT B b (bs++[.int .u8 c]) .nilIface w):=by
 obtain⟨i0,hi,hz0,hz1,hz2⟩:=info_parts rX
 have HCC:=hid (zC B b bs w h)
 clear h
 go_enter Tryz.func144,Tryz.ntmps144
 go_wp2_with (go_at_call 147;refine HCC.out.mono ?_)
 rintro e w1 ⟨rfl,h1,hb1,hk1⟩
 obtain⟨hB,v,hbk,hown,hne⟩:=h1
 have c0:w1.cell? ⟨b,0,none⟩=some (.pointer (some ⟨b,0,none⟩)):=by rw[Lib.cell_of_heap hbk];rfl
 have c1:w1.cell? ⟨b,1,none⟩=some v:=by rw[Lib.cell_of_heap hbk];rfl
 go_wp2_with (at_builtin;refine wpList_append_ownF _ rfl _ _ 137 rfl B 5 i0 (.int .u8 0) 1 1 Tryz.underlying137 hi hz0 hz1 hz2 rfl (by decide) _ _ _ rfl (hown.alloc _) ⟨w1.heap.size,0,none⟩ 1 1 [.int .u8 c] rfl rfl ?c1 ?c2 ?c3 ?c4 ?c5 ?_)
 case c1 =>
  intro j u hj
  match j,hj with
  | 0,hj=>simp at hj;subst hj;simp[Addr.add]
 case c2=>intro u hu;simp at hu;subst hu;rfl
 case c3=>unfold maxLen;omega
 case c4=>omega
 case c5=>have:=hb1.size;simp;omega
 intro v' w2 hown' hgrow _
 have hlt:=bT hbk
 have hb2:w2.heap[b]?=some (.cells #[.pointer (some ⟨b,0,none⟩),v] 139 (0,0)):=(hgrow.block b (by simp;omega) (fun e=>hne e.symm)).trans ((Below.heap_alloc _ _ _ hlt).trans hbk)
 have d0:=aA hb2 0
 have d1:=aA hb2 1
 have f1:=aE hb2 1
 (try dsimp only at d0 d1)
 obtain⟨g,cap,rfl⟩:∃g cap,v'=.slice (some ⟨g,0,none⟩) (bs.length+1) cap:=by
  rcases hown'.2 with ⟨_,h0⟩ | ⟨g,cap,cur,fz,hv,_⟩
  ·omega
  ·exact⟨g,cap,hv⟩
 go_wp2
 go_ret
 refine⟨rfl,?_,?_,((hk1.alloc _).grown hgrow (Lib.ownsRowF_kind (hown.alloc _))).setCell ⟨b,1,none⟩ rfl _⟩
 ·exact Lib.BuilderAtF.put (T:=139) (e:=5) hB hb2 (bs':=bs++[.int .u8 c]) (by simpa using hown') (by decide)
 ·exact((hb1.alloc (by have:=hb1.size;omega) _).grown hgrow (by have:=hb1.size;simp;omega) (fun k hk=>(hown.lt k hk).1)).setCell (p:=⟨b,1,none⟩) hB _
end
structure JW where
 b:List UInt8
 e:Int
section
open Go Go.RowKit Go.Shelf
def JwT (T:TypeId):Prop:=liesAt Tryz.prog Tryz.prog.depth T (3 / Tryz.prog.cellsOf T) 0 139 1=true∧T≠5
def IsJw (T:TypeId) (B b:Nat) (j:JW) (w:World):Prop :=
 B≤b∧∃p v,w.heap[b]?=some (.cells #[p,v,.int .i64 j.e] T (0,0))∧(p=.pointer none∨p=.pointer (some ⟨b,0,none⟩))∧w.ownsRowF B 5 1 v j.b.length (Lib.byteCells j.b)∧v.ownBlock≠some b
def vR (T:TypeId) (B b:Nat) (j:JW) (v:Value) (w:World) (e:Ending) (w':World):Prop:=e=.returned v∧IsJw T B b j w'∧Below B w w'∧Lib.OthersKept 5 (some b) w w'
theorem IsJw.lt {T:TypeId} {B b:Nat} {j:JW} {w:World} (h:IsJw T B b j w):b<w.heap.size:=by
 obtain⟨_,p,v,hb,_⟩:=h
 exact bT hb
theorem IsJw.eCell {T:TypeId} {B b:Nat} {j:JW} {w:World} (h:IsJw T B b j w):w.cell? ⟨b,2,none⟩=some (.int .i64 j.e)∧w.frozen? ⟨b,2,none⟩=false:=by
 obtain⟨_,p,v,hb,_⟩:=h
 exact⟨aA hb 2,aE hb 2⟩
theorem IsJw.ext {T:TypeId} {B b:Nat} {j:JW} {w w':World} (h:IsJw T B b j w) (hb:Below w.heap.size w w'):IsJw T B b j w':=by
 have hlt:=h.lt
 obtain⟨hB,p,v,hk,hp,hown,hne⟩:=h
 exact⟨hB,p,v,(hb.block b hlt).trans hk,hp,hown.kept (row:=none) ⟨hb.os,hb.tape,hb.output,hb.size,fun k hk _=>hb.block k hk⟩ (by
  rcases hv:v.ownBlock with _ | g
  ·exact .inl rfl
  ·exact .inr (by simp)),hne⟩
theorem IsJw.setE {T:TypeId} {B b:Nat} {j:JW} {w:World} (h:IsJw T B b j w) (e:Int):IsJw T B b ⟨j.b,e⟩ (w.setCell ⟨b,2,none⟩ (.int .i64 e)):=by
 obtain⟨hB,p,v,hb,hp,hown,hne⟩:=h
 refine⟨hB,p,v,?_,hp,?_,hne⟩
 ·simp[World.setCell,Array.getElem?_modify,hb]
 ·exact hown.kept (row:=some b) ⟨rfl,rfl,rfl,by simp[World.setCell],fun k _ hk=>Below.heap_setCell _ _ _ _ (fun e=>hk (by simp[e]))⟩ (Or.inr hne)
theorem bC {e:TypeId} {b:Option Nat} {w w':World} (hb:Below w.heap.size w w'):Lib.OthersKept e b w w':=fun k o h _ _=>aB hb h
theorem aBg (T:TypeId) (hT:JwT T) (b:Nat) (w:World) (h0:w.cell? ⟨b,0,none⟩=some (.pointer none)) (hsh:w.shape? b=some (T,3)) (hfz:w.frozen? ⟨b,0,none⟩=false) :
 Calls Tryz.prog 147 #[.pointer (some ⟨b,0,none⟩)] w fun e w'=>e=.returned (.tuple #[])∧w'=w.setCell ⟨b,0,none⟩ (.pointer (some ⟨b,0,none⟩)):=by
 obtain⟨j,hj,hjs⟩:=Option.map_eq_some_iff.1 rJ
 go_enter Tryz.func147,Tryz.ntmps147
 go_wp2
 rw[Lib.run_to_unsafe w ⟨b,0,none⟩ Tryz.underlying136 Tryz.underlying255 hj (by rw[hjs];decide) hsh (Nat.zero_lt_succ 2)]
 simp only[Result.andThen]
 rw[Oper.upon_value]
 go_wp2
 rw[run_callFunc_extern Tryz.func198 (by kernel_rfl) (by kernel_rfl) (by kernel_rfl) (e:=Extern.AbiNoEscape.same) (by kernel_rfl)]
 rw[Lib.run_noEscape]
 simp only[Result.andThen]
 rw[Oper.upon_value]
 go_wp2
 rw[Lib.run_from_unsafe w ⟨b,0,none⟩ Tryz.underlying255 Tryz.underlying136 hj hsh hT.1]
 simp only[Result.andThen]
 rw[Oper.upon_value]
 go_wp2
 go_end0
 exact⟨rfl,rfl⟩
theorem vH (T:TypeId) (hT:JwT T) (B b:Nat) (j:JW) (w:World) (h:IsJw T B b j w):Calls Tryz.prog 147 #[.pointer (some ⟨b,0,none⟩)] w fun e w'=>vR T B b j (.tuple #[]) w e w'∧∃v,w'.heap[b]?=some (.cells #[.pointer (some ⟨b,0,none⟩),v,.int .i64 j.e] T (0,0))∧w'.ownsRowF B 5 1 v j.b.length (Lib.byteCells j.b)∧v.ownBlock≠some b:=by
 have h0:=h
 obtain⟨hB,p,v,hb,hp,hown,hne⟩:=h
 rcases hp with rfl | rfl
 ·refine(aBg T hT b w (aA hb 0) (by simp[World.shape?,hb]) (aE hb 0)).mono fun e w' ⟨he,hw⟩=>?_
  have hb':w'.heap[b]?=some (.cells #[.pointer (some ⟨b,0,none⟩),v,.int .i64 j.e] T (0,0)):=by rw[hw];simp[World.setCell,Array.getElem?_modify,hb]
  have ho':w'.ownsRowF B 5 1 v j.b.length (Lib.byteCells j.b):=by
   rw[hw]
   exact hown.kept (row:=some b) ⟨rfl,rfl,rfl,by simp[World.setCell],fun k _ hk=>Below.heap_setCell _ _ _ _ (fun e=>hk (by simp[e]))⟩ (Or.inr hne)
  exact⟨⟨he,⟨hB,_,v,hb',.inr rfl,ho',hne⟩,by rw[hw];exact(Below.refl B w).setCell (p:=⟨b,0,none⟩) hB _,by rw[hw];exact(Lib.OthersKept.refl _ _ w).setCell ⟨b,0,none⟩ rfl _⟩,v,hb',ho',hne⟩
 ·refine(zB b w (aA hb 0)).mono fun e w' ⟨he,hw⟩=>?_
  rw[hw]
  exact⟨⟨he,h0,Below.refl B _,Lib.OthersKept.refl _ _ _⟩,v,hb,hown,hne⟩
theorem kE (T:TypeId) (hT:JwT T) (B b:Nat) (j:JW) (s:ByteArray) (w:World) (h:IsJw T B b j w) (hlen:j.b.length+s.size≤140737488355328) (hBw:B≤w.heap.size) :
 Calls Tryz.prog 81 #[.pointer (some ⟨b,0,none⟩),.string s] w (vR T B b ⟨j.b++s.data.toList,j.e⟩ (.tuple #[.int .i64 s.size,.nilIface]) w):=by
 obtain⟨i0,hi,hz0,hz1,hz2⟩:=info_parts rX
 have HCC:=hid (vH T hT B b j w h)
 have HT:=hid hT.2
 have hB:=h.1
 clear h hT
 go_enter Tryz.func81,Tryz.ntmps81
 go_wp2_with (go_at_call 147;refine HCC.out.mono ?_)
 rintro e w1 ⟨⟨rfl,h1,hb1,hk1⟩,v,hbk,hown,hne⟩
 have c0:w1.cell? ⟨b,0,none⟩=some (.pointer (some ⟨b,0,none⟩)):=by rw[Lib.cell_of_heap hbk];rfl
 have c1:w1.cell? ⟨b,1,none⟩=some v:=by rw[Lib.cell_of_heap hbk];rfl
 have hbl:(Lib.byteCells j.b).length=j.b.length:=Lib.byteCells_length _
 go_wp2_with (at_builtin;refine Lib.wpList_append_own_stringF _ rfl _ _ 137 9 rfl B 5 i0 Tryz.underlying137 Tryz.underlying9 hi hz0 hz1 hz2 _ _ _ rfl hown s rfl ?c3 ?c4 ?c5 ?_)
 case c3=>unfold maxLen;omega
 case c4=>omega
 case c5=>have:=hb1.size;omega
 intro v' w2 hown' hgrow _
 have hlt:=bT hbk
 have hb2:w2.heap[b]?=some (.cells #[.pointer (some ⟨b,0,none⟩),v,.int .i64 j.e] T (0,0)):=(hgrow.block b hlt (fun e=>hne e.symm)).trans hbk
 have d0:=aA hb2 0
 have d1:=aA hb2 1
 have f1:=aE hb2 1
 (try dsimp only at d0 d1)
 have hne':v'.ownBlock≠some b:=Lib.ownBlock_neF hown' hb2 HT.out
 have HNE:=hid hne'
 clear hne'
 obtain⟨ao,n',cap,rfl⟩:∃ao n' cap,v'=.slice ao n' cap:=by
  rcases hown'.2 with ⟨hv,_⟩ | ⟨g,cap,cur,fz,hv,_⟩
  ·exact⟨_,_,_,hv⟩
  ·exact⟨_,_,_,hv⟩
 go_wp2
 go_ret2
 refine⟨rfl,⟨hB,_,.slice ao n' cap,?_,.inr rfl,?_,HNE.out⟩,?_,(hk1.grown hgrow (Lib.ownsRowF_kind hown)).setCell ⟨b,1,none⟩ rfl _⟩
 ·simp[World.setCell,Array.getElem?_modify,hb2]
 ·have hx:Lib.byteCells (j.b++s.data.toList)=Lib.byteCells j.b++Lib.strCells s:=by simp[Lib.byteCells,Lib.strCells]
  have hz:(j.b++s.data.toList).length=j.b.length+s.size:=by rw[List.length_append];congr 1
  dsimp only
  rw[hx,hz]
  exact hown'.kept (row:=some b) ⟨rfl,rfl,rfl,by simp[World.setCell],fun k _ hk=>Below.heap_setCell _ _ _ _ (fun e=>hk (by simp[e]))⟩ (Or.inr HNE.out)
 ·exact(hb1.grown hgrow (by have:=hb1.size;omega) (fun k hk=>(hown.lt k hk).1)).setCell (p:=⟨b,1,none⟩) hB _
theorem pZ (T:TypeId) (B b:Nat) (j:JW) (w:World) (h:IsJw T B b j w) (h0:j.b≠[]) (hBw:B≤w.heap.size) :
 Calls Tryz.prog 84 #[.pointer (some ⟨b,0,none⟩)] w fun e w'=>e=.returned (.string ⟨j.b.toArray⟩)∧Below B w w'∧Lib.OthersKept 5 (some b) w w':=by
 obtain⟨hB,p,v,hbk,hp,hown,hne⟩:=h
 obtain⟨l,hl⟩:∃l,l=j.b:=⟨_,rfl⟩
 rw[←hl] at hown h0 ⊢
 have hl0:l.length≠0:=by simpa using h0
 obtain⟨g,cap,cur,fz,rfl,hbg,hg,hfz,hnc,hcm,hcs,htake⟩:∃g cap cur fz,v=.slice (some ⟨g,0,none⟩) l.length cap∧B≤g∧w.heap[g]?=some (.cells cur 5 fz)∧fz.2≤l.length * 1∧l.length≤cap∧cap≤maxLen∧cur.size=cap * 1∧cur.toList.take (l.length * 1)=Lib.byteCells l:=by
  rcases hown.2 with ⟨_,hz⟩ | ⟨g,cap,cur,fz,hv,r⟩
  ·exact absurd hz hl0
  ·exact⟨g,cap,cur,fz,hv,r⟩
 have c1:w.drew.cell? ⟨b,1,none⟩=some (.slice (some ⟨g,0,none⟩) l.length cap):=by
  have:w.drew.heap[b]?=some (.cells #[p,.slice (some ⟨g,0,none⟩) l.length cap,.int .i64 j.e] T (0,0)):=hbk
  rw[Lib.cell_of_heap this];rfl
 have hSD:(Builtin.unsafeSliceData_ #[137] 209 #[.slice (some ⟨g,0,none⟩) l.length cap]).run Tryz.prog w.drew=.ok (.pointer (some ⟨g,0,none⟩)) w.drew :=
  Lib.run_unsafeSliceData_row _ _ _ _ _ _ (by omega)
 have hUS:(Builtin.unsafeString_ #[209,3] 9 #[.pointer (some ⟨g,0,none⟩),.int .i64 l.length]).run Tryz.prog w.drew=.ok (.string ⟨l.toArray⟩) (w.drew.freeze ⟨g,0,none⟩ l.length):=by
  refine Lib.run_unsafeString_row w.drew 209 3 9 5 Tryz.underlying209 (by kernel_rfl) g cur.size (by have hg':w.drew.heap[g]?=some (.cells cur 5 fz):=hg;simp[World.shape?,hg']) l h0 (by omega) (by unfold maxLen at hcm;omega) ?_
  intro j x hx
  exact hown.cells (g:=g) rfl j (.int .u8 x.toNat) (by simp[Lib.byteCells,hx])
 have HF:=hid (show Below B w (w.drew.freeze ⟨g,0,none⟩ l.length)∧Lib.OthersKept 5 (some b) w (w.drew.freeze ⟨g,0,none⟩ l.length) from
  ⟨Lib.below_freeze (Below.drew (Below.refl B w)) (p:=⟨g,0,none⟩) hbg _,((Lib.OthersKept.refl _ _ w).drew).freeze ⟨g,0,none⟩ _ ⟨cur,fz,hg⟩⟩)
 clear hl hown hp hbk hg htake hne
 go_enter Tryz.func84,Tryz.ntmps84
 go_wp2
 go_region
 all_goals (go_wp2;go_ret;exact⟨rfl,HF.out⟩)
end
section
open Go Go.RowKit Go.Shelf
theorem mF (T:TypeId) (hT:JwT T) (B b:Nat) (j:JW) (c:UInt8) (w:World) (h:IsJw T B b j w) (hlen:j.b.length+1≤140737488355328) (hBw:B≤w.heap.size) :
 Calls Tryz.prog 144 #[.pointer (some ⟨b,0,none⟩),.int .u8 (c.toNat:Nat)] w (vR T B b ⟨j.b++[c],j.e⟩ .nilIface w):=by
 obtain⟨i0,hi,hz0,hz1,hz2⟩:=info_parts rX
 have HCC:=hid (vH T hT B b j w h)
 have HT:=hid hT.2
 have hB:=h.1
 obtain⟨cn,hcn⟩:∃cn:Nat,cn=c.toNat:=⟨_,rfl⟩
 rw[←hcn]
 have HCN:=hid hcn
 clear h hT hcn
 go_enter Tryz.func144,Tryz.ntmps144
 go_wp2_with (go_at_call 147;refine HCC.out.mono ?_)
 rintro e w1 ⟨⟨rfl,h1,hb1,hk1⟩,v,hbk,hown,hne⟩
 have c0:w1.cell? ⟨b,0,none⟩=some (.pointer (some ⟨b,0,none⟩)):=by rw[Lib.cell_of_heap hbk];rfl
 have c1:w1.cell? ⟨b,1,none⟩=some v:=by rw[Lib.cell_of_heap hbk];rfl
 have hbl:(Lib.byteCells j.b).length=j.b.length:=Lib.byteCells_length _
 go_wp2_with (at_builtin;refine wpList_append_ownF _ rfl _ _ 137 rfl B 5 i0 (.int .u8 0) 1 1 Tryz.underlying137 hi hz0 hz1 hz2 rfl (by decide) _ _ _ rfl (hown.alloc _) ⟨w1.heap.size,0,none⟩ 1 1 [.int .u8 cn] rfl rfl ?c1 ?c2 ?c3 ?c4 ?c5 ?_)
 case c1 =>
  intro j u hj
  match j,hj with
  | 0,hj=>simp at hj;subst hj;simp[Addr.add]
 case c2=>intro u hu;simp at hu;subst hu;rfl
 case c3=>unfold maxLen;omega
 case c4=>omega
 case c5=>have:=hb1.size;simp;omega
 intro v' w2 hown' hgrow _
 have hlt:=bT hbk
 have hb2:w2.heap[b]?=some (.cells #[.pointer (some ⟨b,0,none⟩),v,.int .i64 j.e] T (0,0)):=(hgrow.block b (by simp;omega) (fun e=>hne e.symm)).trans ((Below.heap_alloc _ _ _ hlt).trans hbk)
 have d0:=aA hb2 0
 have d1:=aA hb2 1
 have f1:=aE hb2 1
 (try dsimp only at d0 d1)
 have hne':v'.ownBlock≠some b:=Lib.ownBlock_neF hown' hb2 HT.out
 have HNE:=hid hne'
 clear hne'
 obtain⟨g,cap,rfl⟩:∃g cap,v'=.slice (some ⟨g,0,none⟩) (j.b.length+1) cap:=by
  rcases hown'.2 with ⟨_,h0⟩ | ⟨g,cap,cur,fz,hv,_⟩
  ·omega
  ·exact⟨g,cap,hv⟩
 go_wp2
 go_ret
 refine⟨rfl,⟨hB,_,.slice (some ⟨g,0,none⟩) (j.b.length+1) cap,?_,.inr rfl,?_,HNE.out⟩,?_,((hk1.alloc _).grown hgrow (Lib.ownsRowF_kind (hown.alloc _))).setCell ⟨b,1,none⟩ rfl _⟩
 ·simp[World.setCell,Array.getElem?_modify,hb2]
 ·have hx:Lib.byteCells (j.b++[c])=Lib.byteCells j.b++[.int .u8 cn]:=by rw[HCN.out];simp[Lib.byteCells]
  have hz:(j.b++[c]).length=j.b.length+1:=by rw[List.length_append];rfl
  dsimp only
  rw[hx,hz]
  exact hown'.kept (row:=some b) ⟨rfl,rfl,rfl,by simp[World.setCell],fun k _ hk=>Below.heap_setCell _ _ _ _ (fun e=>hk (by simp[e]))⟩ (Or.inr HNE.out)
 ·exact((hb1.alloc (by have:=hb1.size;omega) _).grown hgrow (by have:=hb1.size;simp;omega) (fun k hk=>(hown.lt k hk).1)).setCell (p:=⟨b,1,none⟩) hB _
end
section
open Go Go.RowKit Go.Shelf
theorem aC4:JwT 141:=⟨by kernel_rfl,by decide⟩
def lnW (j:JW) (s:ByteArray):JW:=⟨j.b++s.data.toList++[10],j.e⟩
theorem jA (B b:Nat) (j:JW) (g c:Nat) (xs:List ByteArray) (s:ByteArray) (hs:bG xs ⟨#[32]⟩=s) (w:World) (hx:∀(k:Nat) x,xs[k]?=some x→w.cell? ⟨g,0+k,none⟩=some (.string x)) (hg:g<w.heap.size) (hl:xs.length≤10) (hc:xs.length≤c) (hz:s.size≤1000) (hj:j.b.length≤1000000) (h:IsJw 141 B b j w) (hB:B≤w.heap.size) :
 Calls Tryz.prog 79 #[.pointer (some ⟨b,0,none⟩),.slice (some ⟨g,0,none⟩) xs.length c] w fun e w'=>e=.returned (.tuple #[])∧IsJw 141 B b (lnW j s) w'∧Below B w w'∧Lib.OthersKept 5 (some b) w w':=by
 have HJ:=hid (Tryz.strings_Join g 0 c xs ⟨#[32]⟩ w.drew hx hg (by omega) hc (by
  have:(Lib.join (xs.map (·.data.toList)) (⟨#[32]⟩:ByteArray).data.toList).length=s.size:=by rw[←hs];simp[bG,ByteArray.size]
  rw[this];omega))
 have hs':(⟨(Lib.join (xs.map (·.data.toList)) (⟨#[32]⟩:ByteArray).data.toList).toArray⟩:ByteArray)=s:=hs
 rw[hs'] at HJ
 clear hs hs'
 have HI:=hid h
 have HZ:=hid (And.intro hz hj)
 have HBW:=hid hB
 clear h hx hg hl hc hz hj hB
 go_enter Tryz.func79,Tryz.ntmps79
 go_upto_region 0 with (fail)
 refine wp_region_held_drew (S:=(fun _=>True)) (by kernel_rfl) (trivial) (fun hS=>?_)
 refine tkQ 0 (v:=?_) ?_ hS ?_;rotate_left;· intro w' hw';(try dsimp only at hw');go_simp;(try rfl)
 simp only[Act.put,pq]
 refine tkQ 1 (v:=?_) ?_ hS ?_;rotate_left;· intro w' hw';(try dsimp only at hw');go_simp;(try rfl)
 simp only[Act.put,pq]
 refine tkQ 2 (v:=?_) ?_ hS ?_;rotate_left;· intro w' hw';(try dsimp only at hw');go_simp;(try rfl)
 simp only[Act.put,pq]
 refine tkQ 3 (v:=?_) ?_ hS ?_;rotate_left;· intro w' hw';(try dsimp only at hw');go_simp;(try rfl)
 simp only[Act.put,pq]
 refine ry [4] ?_
 refine arQ fun K hK=>?_
 go_simp
 go_at_call 140
 refine HJ.out.mono ?_
 rintro e w1 ⟨rfl,hb1'⟩
 have hb1:Below w.heap.size w w1:=(bR w).drew.trans hb1'
 clear hb1'
 have HB1:=hid hb1
 clear hb1
 refine hK.out _ _ (trivial) (fun hS=>?_)
 clear hK K
 (try simp only[Act.put,pq])
 refine ry [5] ?_
 refine arQ fun K hK=>?_
 have HW:=hid (kE 141 aC4 B b j s w1 (HI.out.ext (HB1.out)) (by have:=HZ.out;omega) (by have:=HB1.out.size;have:=HBW.out;omega))
 go_simp
 go_at_call 81
 refine HW.out.mono ?_
 rintro e w2 ⟨rfl,hi2,hb2,ho2⟩
 have HI2:=hid hi2;have HB2:=hid hb2;have HO2:=hid ho2
 clear hi2 hb2 ho2
 refine hK.out _ _ (trivial) (fun hS=>?_)
 clear hK K
 (try simp only[Act.put,pq])
 refine wpAnyH_done (by kernel_rfl) ?_ _
 (try dsimp only)
 skip
 have hln:(j.b++s.data.toList).length=j.b.length+s.size:=by rw[List.length_append,Array.length_toList];rfl
 have HY:Hid (Calls Tryz.prog 144 #[.pointer (some ⟨b,0,none⟩),.int .u8 10] w2 (vR 141 B b (lnW j s) .nilIface w2)):=hid (mF 141 aC4 B b ⟨j.b++s.data.toList,j.e⟩ 10 w2 HI2.out (by dsimp only;rw[hln];have:=HZ.out;omega) (by have:=HB1.out.size;have:=HB2.out.size;have:=HBW.out;omega))
 clear hS hln
 go_wp2_with (go_at_call 144;refine HY.out.mono ?_;rintro e w3 ⟨rfl,hi3,hb3,ho3⟩)
 exact bodyPost_end (results_none rfl _ _ _) rfl ⟨rfl,hi3,(HB1.out.mono HBW.out).trans (HB2.out.trans hb3),(bC HB1.out).trans (HO2.out.trans ho3)⟩
end
section
open Go Go.RowKit Go.Shelf
theorem IsBld.ext {B b:Nat} {bs:List Value} {w w':World} (h:IsBld B b bs w) (hb:Below w.heap.size w w'):IsBld B b bs w':=by
 rcases h with ⟨hB,v,hbk,hown,hne⟩ | ⟨hB,v,hbk,hown,hne⟩
 ·exact .inl ⟨hB,v,aB hb hbk,hown.kept (mQ hb none) (by cases v.ownBlock<;>simp),hne⟩
 ·exact .inr ⟨hB,v,aB hb hbk,hown.kept (mQ hb none) (by cases v.ownBlock<;>simp),hne⟩
theorem xJ {e:TypeId} {b:Option Nat} {w w':World} (hb:Below w.heap.size w w'):Lib.OthersKept e b w w':=fun k o h _ _=>aB hb h
def fF (xs:List ByteArray):List UInt8:=Lib.join (xs.map (·.data.toList)) [32]++[10]
theorem jQ (B b:Nat) (bs:List UInt8) (xs:List ByteArray) (bk o cap:Nat) (w:World) (h:IsBld B b (Lib.byteCells bs) w) (hc:∀(j:Nat) x,xs[j]?=some x→w.cell? ⟨bk,o+j,none⟩=some (.string x)) (hbk:bk<w.heap.size) (hcap:xs.length≤cap) (hxs:xs.length≤100)
 (hsz:bs.length+(fF xs).length≤140737488355328) (hBw:B≤w.heap.size) :
 Calls Tryz.prog 139 #[.slice (some ⟨bk,o,none⟩) xs.length cap,.pointer (some ⟨b,0,none⟩)] w (jT B b (Lib.byteCells (bs++fF xs)) (.tuple #[]) w):=by
 obtain⟨js,hjs⟩:∃js,js=Lib.join (xs.map (·.data.toList)) [32]:=⟨_,rfl⟩
 have hl:(fF xs).length=js.length+1:=by rw[fF,hjs];simp
 have hj:=Tryz.strings_Join bk o cap xs ⟨#[32]⟩ w hc hbk (by omega) hcap (by rw[show(⟨#[32]⟩:ByteArray).data.toList=[32] from rfl,←hjs];omega)
 rw[show(⟨#[32]⟩:ByteArray).data.toList=[32] from rfl,←hjs] at hj
 have HJ:=hid hj
 have HLB:=hid (show fF xs=js++[10] by rw[fF,hjs])
 have hz1:(⟨js.toArray⟩:ByteArray).size=js.length:=by simp[ByteArray.size]
 have hz2:(⟨js.toArray⟩:ByteArray).size+1≤9223372036854775807:=by rw[hz1];omega
 have hz3:((⟨js.toArray⟩:ByteArray).size+(⟨#[10]⟩:ByteArray).size)≤9223372036854775807:=hz2
 have HWS:Hid (∀w',Below w.heap.size w w'→Calls Tryz.prog 81 #[.pointer (some ⟨b,0,none⟩),.string (⟨js.toArray⟩++⟨#[10]⟩)] w' (jT B b (Lib.byteCells bs++Lib.strCells (⟨js.toArray⟩++⟨#[10]⟩)) (.tuple #[.int .i64 ((⟨js.toArray⟩++⟨#[10]⟩:ByteArray).size:Nat),.nilIface]) w')):=hid fun w' hb=>jK B b _ _ w' (h.ext hb) (by
  have e:(⟨js.toArray⟩++⟨#[10]⟩:ByteArray).size=js.length+1:=by rw[ByteArray.size_append,hz1];rfl
  rw[e];simp[Lib.byteCells];omega) (Nat.le_trans hBw hb.size)
 have HBW:=hid hBw
 clear h hc hj hjs hsz hl hbk
 go_enter Tryz.func139,Tryz.ntmps139
 go_wp2_with (first
  | (go_at_call 81;refine(HWS.out _ hb1).mono ?_;rintro e w2 ⟨rfl,h2,hb2,hk2⟩)
  | (go_at_call 140;refine HJ.out.mono ?_;rintro e w1 ⟨rfl,hb1⟩))
 refine bodyPost_ret (v:=.tuple #[]) (by simp[results,Tryz.results139,go_sem]) rfl ⟨rfl,?_,?_,?_⟩
 ·rw[HLB.out,Lib.byteCells_append]
  have e:Lib.strCells (⟨js.toArray⟩++⟨#[10]⟩:ByteArray)=Lib.byteCells (js++[10]):=by rw[Lib.strCells_eq,ByteArray.data_append];simp
  rw[←e];exact h2
 ·exact(hb1.mono HBW.out).trans hb2
 ·exact(xJ hb1).trans hk2
end
section
open Go Go.RowKit Go.Shelf
theorem mS (w:World):IsBld w.heap.size w.heap.size [] (w.alloc (.cells #[.pointer none,.slice none 0 0] 139)) :=
 .inl ⟨Nat.le_refl _,.slice none 0 0,heap_alloc_new _ _,World.ownsRowF_nil _ _ _ _,by simp[Value.ownBlock]⟩
theorem aBr (s:ByteArray) (k:Nat) (h:k<s.size):s.data.toList[k]?=some s[k]:=by
 have h':k<s.data.size:=h
 rw[Array.getElem?_toList,Array.getElem?_eq_getElem h'];rfl
end
end Go.Proofs.YteladbdfiannjaaGreatDoor
