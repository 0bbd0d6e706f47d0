/-
  strings.Builder's copyCheck and WriteString at this program: the bytes go in behind, and every block that is not the builder's and is no row of bytes stays. Condition: the block holds a builder.
-/
import Derived.Test.YtmgpghoamapfgaaGreatDoorJN1Mrg
import Derived.Lib.UnsafeStr
import Derived.Sort.CutIn
namespace Go.Proofs.YtmgpghoamapfgaaGreatDoor
set_option linter.unusedVariables false
set_option maxRecDepth 100000
set_option maxHeartbeats 16000000
set_option linter.unusedSimpArgs false
section
open Go Go.RowKit Go.Shelf
theorem sizeBld:(Tryz.prog.info? 74).map (·.size)=some 2:=by kernel_rfl
theorem liesBld:liesAt Tryz.prog Tryz.prog.depth 74 (2 / Tryz.prog.cellsOf 74) 0 74 1=true:=by kernel_rfl
theorem cc_used (b:Nat) (w:World) (h0:w.cell? ⟨b,0,none⟩=some (.pointer (some ⟨b,0,none⟩))) :
 Calls Tryz.prog 70 #[.pointer (some ⟨b,0,none⟩)] w fun e w'=>e=.returned (.tuple #[])∧w'=w:=by
 obtain⟨j,hj,_⟩:=Option.map_eq_some_iff.1 sizeBld
 go_enter Tryz.func70,Tryz.ntmps70
 go_wp2
 rw[Lib.run_neq_ptr_same w _ Tryz.underlying71 hj]
 go_wp2
 go_end0
 exact⟨rfl,rfl⟩
theorem cc_fresh (b:Nat) (w:World) (h0:w.cell? ⟨b,0,none⟩=some (.pointer none)) (hsh:w.shape? b=some (74,2)) (hfz:w.frozen? ⟨b,0,none⟩=false) :
 Calls Tryz.prog 70 #[.pointer (some ⟨b,0,none⟩)] w fun e w'=>e=.returned (.tuple #[])∧w'=w.setCell ⟨b,0,none⟩ (.pointer (some ⟨b,0,none⟩)):=by
 obtain⟨j,hj,hjs⟩:=Option.map_eq_some_iff.1 sizeBld
 go_enter Tryz.func70,Tryz.ntmps70
 go_wp2
 rw[Lib.run_to_unsafe w ⟨b,0,none⟩ Tryz.underlying71 Tryz.underlying207 hj (by rw[hjs];decide) hsh (Nat.zero_lt_succ 1)]
 simp only[Result.andThen]
 rw[Oper.upon_value]
 go_wp2
 rw[run_callFunc_extern Tryz.func129 (by kernel_rfl) (by kernel_rfl) (by kernel_rfl) (e:=Extern.AbiNoEscape.same) (by kernel_rfl)]
 rw[Lib.run_noEscape]
 simp only[Result.andThen]
 rw[Oper.upon_value]
 go_wp2
 rw[Lib.run_from_unsafe w ⟨b,0,none⟩ Tryz.underlying207 Tryz.underlying71 hj hsh liesBld]
 simp only[Result.andThen]
 rw[Oper.upon_value]
 go_wp2
 go_end0
 exact⟨rfl,rfl⟩
abbrev IsBld (B b:Nat) (bs:List Value) (w:World):Prop:=Lib.IsBuilderF 74 5 B b bs w
def BldPost (B b:Nat) (bs:List Value) (v:Value) (w:World) (e:Ending) (w':World):Prop:=e=.returned v∧Lib.BuilderAtF 74 5 B b (.pointer (some ⟨b,0,none⟩)) bs w'∧Below B w w'∧Lib.OthersKept 5 (some b) w w'
theorem cc_call (B b:Nat) (bs:List Value) (w:World) (h:IsBld B b bs w):Calls Tryz.prog 70 #[.pointer (some ⟨b,0,none⟩)] w (BldPost B b bs (.tuple #[]) w):=by
 rcases h with h | h
 ·exact(cc_fresh b w h.cell0 h.shape h.frozen0).mono fun e w' ⟨he,hw⟩=>⟨he,by rw[hw];exact h.used _,by rw[hw];exact(Below.refl B w).setCell (p:=⟨b,0,none⟩) h.1 _,by rw[hw];exact(Lib.OthersKept.refl _ _ w).setCell ⟨b,0,none⟩ rfl _⟩
 ·exact(cc_used b w h.cell0).mono fun e w' ⟨he,hw⟩=>⟨he,by rw[hw];exact h,by rw[hw];exact Below.refl B _,by rw[hw];exact Lib.OthersKept.refl _ _ _⟩
theorem infoU8:(Tryz.prog.info? 5).map (fun i=>(i.zero,i.size,i.bytes))=some (some (.int .u8 0),1,1):=by kernel_rfl
theorem wstr_call (B b:Nat) (bs:List Value) (s:ByteArray) (w:World) (h:IsBld B b bs w) (hlen:bs.length+s.size≤140737488355328) (hBw:B≤w.heap.size) :
 Calls Tryz.prog 32 #[.pointer (some ⟨b,0,none⟩),.string s] w (BldPost B b (bs++Lib.strCells s) (.tuple #[.int .i64 s.size,.nilIface]) w):=by
 obtain⟨i0,hi,hz0,hz1,hz2⟩:=info_parts infoU8
 have HCC:=hid (cc_call B b bs w h)
 clear h
 go_enter Tryz.func32,Tryz.ntmps32
 go_wp2_with (go_at_call 70;refine HCC.out.mono ?_)
 rintro e w1 ⟨rfl,h1,hb1,hk1⟩
 obtain⟨hB,v,hbk,hown,hne⟩:=h1
 have c0:w1.cell? ⟨b,0,none⟩=some (.pointer (some ⟨b,0,none⟩)):=by rw[Lib.cell_of_heap hbk];rfl
 have c1:w1.cell? ⟨b,1,none⟩=some v:=by rw[Lib.cell_of_heap hbk];rfl
 go_wp2_with (at_builtin;refine Lib.wpList_append_own_stringF _ rfl _ _ 72 9 rfl B 5 i0 Tryz.underlying72 Tryz.underlying9 hi hz0 hz1 hz2 _ _ _ rfl hown s rfl ?c3 ?c4 ?c5 ?_)
 case c3=>unfold maxLen;omega
 case c4=>omega
 case c5=>have:=hb1.size;omega
 intro v' w2 hown' hgrow _
 have hlt:=ltOf hbk
 have hb2:w2.heap[b]?=some (.cells #[.pointer (some ⟨b,0,none⟩),v] 74 (0,0)):=(hgrow.block b hlt (fun e=>hne e.symm)).trans hbk
 have d0:=cellOf hb2 0
 have d1:=cellOf hb2 1
 have f1:=freeOf hb2 1
 (try dsimp only at d0 d1)
 obtain⟨ao,n',cap,rfl⟩:∃ao n' cap,v'=.slice ao n' cap:=by
  rcases hown'.2 with ⟨hv,_⟩ | ⟨g,cap,cur,fz,hv,_⟩
  ·exact⟨_,_,_,hv⟩
  ·exact⟨_,_,_,hv⟩
 go_wp2
 go_ret2
 refine⟨rfl,?_,?_,(hk1.grown hgrow (Lib.ownsRowF_kind hown)).setCell ⟨b,1,none⟩ rfl _⟩
 ·exact Lib.BuilderAtF.put (T:=74) (e:=5) hB hb2 (bs':=bs++Lib.strCells s) (by simpa [Lib.strCells_length] using hown') (by decide)
 ·exact(hb1.grown hgrow (by have:=hb1.size;omega) (fun k hk=>(hown.lt k hk).1)).setCell (p:=⟨b,1,none⟩) hB _
theorem wbyte_call (B b:Nat) (bs:List Value) (c:Int) (w:World) (h:IsBld B b bs w) (hlen:bs.length+1≤140737488355328) (hBw:B≤w.heap.size) :
 Calls Tryz.prog 218 #[.pointer (some ⟨b,0,none⟩),.int .u8 c] w (BldPost B b (bs++[.int .u8 c]) .nilIface w):=by
 obtain⟨i0,hi,hz0,hz1,hz2⟩:=info_parts infoU8
 have HCC:=hid (cc_call B b bs w h)
 clear h
 go_enter Tryz.func218,Tryz.ntmps218
 go_wp2_with (go_at_call 70;refine HCC.out.mono ?_)
 rintro e w1 ⟨rfl,h1,hb1,hk1⟩
 obtain⟨hB,v,hbk,hown,hne⟩:=h1
 have c0:w1.cell? ⟨b,0,none⟩=some (.pointer (some ⟨b,0,none⟩)):=by rw[Lib.cell_of_heap hbk];rfl
 have c1:w1.cell? ⟨b,1,none⟩=some v:=by rw[Lib.cell_of_heap hbk];rfl
 go_wp2_with (at_builtin;refine wpList_append_ownF _ rfl _ _ 72 rfl B 5 i0 (.int .u8 0) 1 1 Tryz.underlying72 hi hz0 hz1 hz2 rfl (by decide) _ _ _ rfl (hown.alloc _) ⟨w1.heap.size,0,none⟩ 1 1 [.int .u8 c] rfl rfl ?c1 ?c2 ?c3 ?c4 ?c5 ?_)
 case c1 =>
  intro j u hj
  match j,hj with
  | 0,hj=>simp at hj;subst hj;simp[Addr.add]
 case c2=>intro u hu;simp at hu;subst hu;rfl
 case c3=>unfold maxLen;omega
 case c4=>omega
 case c5=>have:=hb1.size;simp;omega
 intro v' w2 hown' hgrow _
 have hlt:=ltOf hbk
 have hb2:w2.heap[b]?=some (.cells #[.pointer (some ⟨b,0,none⟩),v] 74 (0,0)):=(hgrow.block b (by simp;omega) (fun e=>hne e.symm)).trans ((Below.heap_alloc _ _ _ hlt).trans hbk)
 have d0:=cellOf hb2 0
 have d1:=cellOf hb2 1
 have f1:=freeOf hb2 1
 (try dsimp only at d0 d1)
 obtain⟨g,cap,rfl⟩:∃g cap,v'=.slice (some ⟨g,0,none⟩) (bs.length+1) cap:=by
  rcases hown'.2 with ⟨_,h0⟩ | ⟨g,cap,cur,fz,hv,_⟩
  ·omega
  ·exact⟨g,cap,hv⟩
 go_wp2
 go_ret
 refine⟨rfl,?_,?_,((hk1.alloc _).grown hgrow (Lib.ownsRowF_kind (hown.alloc _))).setCell ⟨b,1,none⟩ rfl _⟩
 ·exact Lib.BuilderAtF.put (T:=74) (e:=5) hB hb2 (bs':=bs++[.int .u8 c]) (by simpa using hown') (by decide)
 ·exact((hb1.alloc (by have:=hb1.size;omega) _).grown hgrow (by have:=hb1.size;simp;omega) (fun k hk=>(hown.lt k hk).1)).setCell (p:=⟨b,1,none⟩) hB _
end
section
open Go Go.RowKit Go.Shelf
theorem IsBld.ext {B b:Nat} {bs:List Value} {w w':World} (h:IsBld B b bs w) (hb:Below w.heap.size w w'):IsBld B b bs w':=by
 rcases h with ⟨hB,v,hbk,hown,hne⟩ | ⟨hB,v,hbk,hown,hne⟩
 ·exact .inl ⟨hB,v,heapExt hb hbk,hown.kept (grownOf hb none) (by cases v.ownBlock<;>simp),hne⟩
 ·exact .inr ⟨hB,v,heapExt hb hbk,hown.kept (grownOf hb none) (by cases v.ownBlock<;>simp),hne⟩
end
section
open Go Go.RowKit Go.Shelf
theorem bld_new (w:World):IsBld w.heap.size w.heap.size [] (w.alloc (.cells #[.pointer none,.slice none 0 0] 74)) :=
 .inl ⟨Nat.le_refl _,.slice none 0 0,heap_alloc_new _ _,World.ownsRowF_nil _ _ _ _,by simp[Value.ownBlock]⟩
theorem strGet (s:ByteArray) (k:Nat) (h:k<s.size):s.data.toList[k]?=some s[k]:=by
 have h':k<s.data.size:=h
 rw[Array.getElem?_toList,Array.getElem?_eq_getElem h'];rfl
end
end Go.Proofs.YtmgpghoamapfgaaGreatDoor
