/-
  A strings.Builder that is the first field of a struct with an error behind it (the writers of journal and snapshot): WriteString and String. Condition: the block holds such a struct.
-/
import Derived.Test.YtaofolgaiipcjaaGreatDoorJP28Mrg
import Derived.Test.YtaofolgaiipcjaaGreatDoorJP6Mrg
import Derived.Lib.BufferKept
import Derived.Deep.Cut
import Derived.Laws.Tables
import Derived.Laws.CopyRow
namespace Go.Proofs.YtaofolgaiipcjaaGreatDoor
set_option linter.unusedVariables false
set_option maxRecDepth 100000
set_option maxHeartbeats 16000000
set_option linter.unusedSimpArgs false
section
open Go Go.RowKit Go.Shelf
def JwT (T:TypeId):Prop:=liesAt Tryz.prog Tryz.prog.depth T (3 / Tryz.prog.cellsOf T) 0 76 1=true∧T≠5
theorem jwT:JwT 78:=⟨by kernel_rfl,by decide⟩
def IsJw (T:TypeId) (B b:Nat) (j:JW) (w:World):Prop :=
 B≤b∧∃p v,w.heap[b]?=some (.cells #[p,v,.int .i64 j.e] T (0,0))∧(p=.pointer none∨p=.pointer (some ⟨b,0,none⟩))∧w.ownsRowF B 5 1 v j.b.length (Lib.byteCells j.b)∧v.ownBlock≠some b
def JPost (T:TypeId) (B b:Nat) (j:JW) (v:Value) (w:World) (e:Ending) (w':World):Prop:=e=.returned v∧IsJw T B b j w'∧Below B w w'∧Lib.OthersKept 5 (some b) w w'
theorem IsJw.lt {T:TypeId} {B b:Nat} {j:JW} {w:World} (h:IsJw T B b j w):b<w.heap.size:=by
 obtain⟨_,p,v,hb,_⟩:=h
 exact ltOf hb
theorem IsJw.eCell {T:TypeId} {B b:Nat} {j:JW} {w:World} (h:IsJw T B b j w):w.cell? ⟨b,2,none⟩=some (.int .i64 j.e)∧w.frozen? ⟨b,2,none⟩=false:=by
 obtain⟨_,p,v,hb,_⟩:=h
 exact⟨cellOf hb 2,freeOf hb 2⟩
theorem IsJw.ext {T:TypeId} {B b:Nat} {j:JW} {w w':World} (h:IsJw T B b j w) (hb:Below w.heap.size w w'):IsJw T B b j w':=by
 have hlt:=h.lt
 obtain⟨hB,p,v,hk,hp,hown,hne⟩:=h
 exact⟨hB,p,v,(hb.block b hlt).trans hk,hp,hown.kept (row:=none) ⟨hb.os,hb.tape,hb.output,hb.size,fun k hk _=>hb.block k hk⟩ (by
  rcases hv:v.ownBlock with _ | g
  ·exact .inl rfl
  ·exact .inr (by simp)),hne⟩
theorem IsJw.setE {T:TypeId} {B b:Nat} {j:JW} {w:World} (h:IsJw T B b j w) (e:Int):IsJw T B b ⟨j.b,e⟩ (w.setCell ⟨b,2,none⟩ (.int .i64 e)):=by
 obtain⟨hB,p,v,hb,hp,hown,hne⟩:=h
 refine⟨hB,p,v,?_,hp,?_,hne⟩
 ·simp[World.setCell,Array.getElem?_modify,hb]
 ·exact hown.kept (row:=some b) ⟨rfl,rfl,rfl,by simp[World.setCell],fun k _ hk=>Below.heap_setCell _ _ _ _ (fun e=>hk (by simp[e]))⟩ (Or.inr hne)
theorem others_extJ {e:TypeId} {b:Option Nat} {w w':World} (hb:Below w.heap.size w w'):Lib.OthersKept e b w w':=fun k o h _ _=>heapExt hb h
theorem ccJ_fresh (T:TypeId) (hT:JwT T) (b:Nat) (w:World) (h0:w.cell? ⟨b,0,none⟩=some (.pointer none)) (hsh:w.shape? b=some (T,3)) (hfz:w.frozen? ⟨b,0,none⟩=false) :
 Calls Tryz.prog 163 #[.pointer (some ⟨b,0,none⟩)] w fun e w'=>e=.returned (.tuple #[])∧w'=w.setCell ⟨b,0,none⟩ (.pointer (some ⟨b,0,none⟩)):=by
 obtain⟨j,hj,hjs⟩:=Option.map_eq_some_iff.1 sizeBld
 go_enter Tryz.func163,Tryz.ntmps163
 go_wp2
 rw[Lib.run_to_unsafe w ⟨b,0,none⟩ Tryz.underlying74 Tryz.underlying292 hj (by rw[hjs];decide) hsh (Nat.zero_lt_succ 2)]
 simp only[Result.andThen]
 rw[Oper.upon_value]
 go_wp2
 rw[run_callFunc_extern Tryz.func245 (by kernel_rfl) (by kernel_rfl) (by kernel_rfl) (e:=Extern.AbiNoEscape.same) (by kernel_rfl)]
 rw[Lib.run_noEscape]
 simp only[Result.andThen]
 rw[Oper.upon_value]
 go_wp2
 rw[Lib.run_from_unsafe w ⟨b,0,none⟩ Tryz.underlying292 Tryz.underlying74 hj hsh hT.1]
 simp only[Result.andThen]
 rw[Oper.upon_value]
 go_wp2
 go_end0
 exact⟨rfl,rfl⟩
theorem ccJ_call (T:TypeId) (hT:JwT T) (B b:Nat) (j:JW) (w:World) (h:IsJw T B b j w):Calls Tryz.prog 163 #[.pointer (some ⟨b,0,none⟩)] w fun e w'=>JPost T B b j (.tuple #[]) w e w'∧∃v,w'.heap[b]?=some (.cells #[.pointer (some ⟨b,0,none⟩),v,.int .i64 j.e] T (0,0))∧w'.ownsRowF B 5 1 v j.b.length (Lib.byteCells j.b)∧v.ownBlock≠some b:=by
 have h0:=h
 obtain⟨hB,p,v,hb,hp,hown,hne⟩:=h
 rcases hp with rfl | rfl
 ·refine(ccJ_fresh T hT b w (cellOf hb 0) (by simp[World.shape?,hb]) (freeOf hb 0)).mono fun e w' ⟨he,hw⟩=>?_
  have hb':w'.heap[b]?=some (.cells #[.pointer (some ⟨b,0,none⟩),v,.int .i64 j.e] T (0,0)):=by rw[hw];simp[World.setCell,Array.getElem?_modify,hb]
  have ho':w'.ownsRowF B 5 1 v j.b.length (Lib.byteCells j.b):=by
   rw[hw]
   exact hown.kept (row:=some b) ⟨rfl,rfl,rfl,by simp[World.setCell],fun k _ hk=>Below.heap_setCell _ _ _ _ (fun e=>hk (by simp[e]))⟩ (Or.inr hne)
  exact⟨⟨he,⟨hB,_,v,hb',.inr rfl,ho',hne⟩,by rw[hw];exact(Below.refl B w).setCell (p:=⟨b,0,none⟩) hB _,by rw[hw];exact(Lib.OthersKept.refl _ _ w).setCell ⟨b,0,none⟩ rfl _⟩,v,hb',ho',hne⟩
 ·refine(cc_used b w (cellOf hb 0)).mono fun e w' ⟨he,hw⟩=>?_
  rw[hw]
  exact⟨⟨he,h0,Below.refl B _,Lib.OthersKept.refl _ _ _⟩,v,hb,hown,hne⟩
theorem wstrJ_call (T:TypeId) (hT:JwT T) (B b:Nat) (j:JW) (s:ByteArray) (w:World) (h:IsJw T B b j w) (hlen:j.b.length+s.size≤140737488355328) (hBw:B≤w.heap.size) :
 Calls Tryz.prog 61 #[.pointer (some ⟨b,0,none⟩),.string s] w (JPost T B b ⟨j.b++s.data.toList,j.e⟩ (.tuple #[.int .i64 s.size,.nilIface]) w):=by
 obtain⟨i0,hi,hz0,hz1,hz2⟩:=info_parts infoU8
 have HCC:=hid (ccJ_call T hT B b j w h)
 have HT:=hid hT.2
 have hB:=h.1
 clear h hT
 go_enter Tryz.func61,Tryz.ntmps61
 go_wp2_with (go_at_call 163;refine HCC.out.mono ?_)
 rintro e w1 ⟨⟨rfl,h1,hb1,hk1⟩,v,hbk,hown,hne⟩
 have c0:w1.cell? ⟨b,0,none⟩=some (.pointer (some ⟨b,0,none⟩)):=by rw[Lib.cell_of_heap hbk];rfl
 have c1:w1.cell? ⟨b,1,none⟩=some v:=by rw[Lib.cell_of_heap hbk];rfl
 have hbl:(Lib.byteCells j.b).length=j.b.length:=Lib.byteCells_length _
 go_wp2_with (at_builtin;refine Lib.wpList_append_own_stringF _ rfl _ _ 66 9 rfl B 5 i0 Tryz.underlying66 Tryz.underlying9 hi hz0 hz1 hz2 _ _ _ rfl hown s rfl ?c3 ?c4 ?c5 ?_)
 case c3=>unfold maxLen;omega
 case c4=>omega
 case c5=>have:=hb1.size;omega
 intro v' w2 hown' hgrow _
 have hlt:=ltOf hbk
 have hb2:w2.heap[b]?=some (.cells #[.pointer (some ⟨b,0,none⟩),v,.int .i64 j.e] T (0,0)):=(hgrow.block b hlt (fun e=>hne e.symm)).trans hbk
 have d0:=cellOf hb2 0
 have d1:=cellOf hb2 1
 have f1:=freeOf hb2 1
 (try dsimp only at d0 d1)
 have hne':v'.ownBlock≠some b:=Lib.ownBlock_neF hown' hb2 HT.out
 have HNE:=hid hne'
 clear hne'
 obtain⟨ao,n',cap,rfl⟩:∃ao n' cap,v'=.slice ao n' cap:=by
  rcases hown'.2 with ⟨hv,_⟩ | ⟨g,cap,cur,fz,hv,_⟩
  ·exact⟨_,_,_,hv⟩
  ·exact⟨_,_,_,hv⟩
 go_wp2
 go_ret2
 refine⟨rfl,⟨hB,_,.slice ao n' cap,?_,.inr rfl,?_,HNE.out⟩,?_,(hk1.grown hgrow (Lib.ownsRowF_kind hown)).setCell ⟨b,1,none⟩ rfl _⟩
 ·simp[World.setCell,Array.getElem?_modify,hb2]
 ·have hx:Lib.byteCells (j.b++s.data.toList)=Lib.byteCells j.b++Lib.strCells s:=by simp[Lib.byteCells,Lib.strCells]
  have hz:(j.b++s.data.toList).length=j.b.length+s.size:=by rw[List.length_append];congr 1
  dsimp only
  rw[hx,hz]
  exact hown'.kept (row:=some b) ⟨rfl,rfl,rfl,by simp[World.setCell],fun k _ hk=>Below.heap_setCell _ _ _ _ (fun e=>hk (by simp[e]))⟩ (Or.inr HNE.out)
 ·exact(hb1.grown hgrow (by have:=hb1.size;omega) (fun k hk=>(hown.lt k hk).1)).setCell (p:=⟨b,1,none⟩) hB _
theorem strJ_call (T:TypeId) (B b:Nat) (j:JW) (w:World) (h:IsJw T B b j w) (h0:j.b≠[]) (hBw:B≤w.heap.size) :
 Calls Tryz.prog 44 #[.pointer (some ⟨b,0,none⟩)] w fun e w'=>e=.returned (.string ⟨j.b.toArray⟩)∧Below B w w'∧Lib.OthersKept 5 (some b) w w':=by
 obtain⟨hB,p,v,hbk,hp,hown,hne⟩:=h
 obtain⟨l,hl⟩:∃l,l=j.b:=⟨_,rfl⟩
 rw[←hl] at hown h0 ⊢
 have hl0:l.length≠0:=by simpa using h0
 obtain⟨g,cap,cur,fz,rfl,hbg,hg,hfz,hnc,hcm,hcs,htake⟩:∃g cap cur fz,v=.slice (some ⟨g,0,none⟩) l.length cap∧B≤g∧w.heap[g]?=some (.cells cur 5 fz)∧fz.2≤l.length * 1∧l.length≤cap∧cap≤maxLen∧cur.size=cap * 1∧cur.toList.take (l.length * 1)=Lib.byteCells l:=by
  rcases hown.2 with ⟨_,hz⟩ | ⟨g,cap,cur,fz,hv,r⟩
  ·exact absurd hz hl0
  ·exact⟨g,cap,cur,fz,hv,r⟩
 have c1:w.drew.cell? ⟨b,1,none⟩=some (.slice (some ⟨g,0,none⟩) l.length cap):=by
  have:w.drew.heap[b]?=some (.cells #[p,.slice (some ⟨g,0,none⟩) l.length cap,.int .i64 j.e] T (0,0)):=hbk
  rw[Lib.cell_of_heap this];rfl
 have hSD:(Builtin.unsafeSliceData_ #[66] 204 #[.slice (some ⟨g,0,none⟩) l.length cap]).run Tryz.prog w.drew=.ok (.pointer (some ⟨g,0,none⟩)) w.drew :=
  Lib.run_unsafeSliceData_row _ _ _ _ _ _ (by omega)
 have hUS:(Builtin.unsafeString_ #[204,3] 9 #[.pointer (some ⟨g,0,none⟩),.int .i64 l.length]).run Tryz.prog w.drew=.ok (.string ⟨l.toArray⟩) (w.drew.freeze ⟨g,0,none⟩ l.length):=by
  refine Lib.run_unsafeString_row w.drew 204 3 9 5 Tryz.underlying204 (by kernel_rfl) g cur.size (by have hg':w.drew.heap[g]?=some (.cells cur 5 fz):=hg;simp[World.shape?,hg']) l h0 (by omega) (by unfold maxLen at hcm;omega) ?_
  intro j x hx
  exact hown.cells (g:=g) rfl j (.int .u8 x.toNat) (by simp[Lib.byteCells,hx])
 have HF:=hid (show Below B w (w.drew.freeze ⟨g,0,none⟩ l.length)∧Lib.OthersKept 5 (some b) w (w.drew.freeze ⟨g,0,none⟩ l.length) from
  ⟨Lib.below_freeze (Below.drew (Below.refl B w)) (p:=⟨g,0,none⟩) hbg _,((Lib.OthersKept.refl _ _ w).drew).freeze ⟨g,0,none⟩ _ ⟨cur,fz,hg⟩⟩)
 clear hl hown hp hbk hg htake hne
 go_enter Tryz.func44,Tryz.ntmps44
 go_wp2
 go_region
 all_goals (go_wp2;go_ret;exact⟨rfl,HF.out⟩)
end
section
open Go Go.RowKit Go.Shelf
abbrev JT:TypeId:=78
theorem putF_len (n:Int):(putF n).1.data.toList.length≤9:=by
 unfold putF
 split
 ·exact Nat.zero_le _
 ·rename_i h
  have h':¬ (n<0∨(4611686018427387903:Int)<n):=h
  have hp:(128:Nat) ^ 9=9223372036854775808:=by decide
  exact viL_len 9 n.toNat (by omega) (by decide)
theorem num_len (w:JW) (n:Int):(w.num n).b.length≤w.b.length+9:=by
 show(w.b++_).length≤_
 rw[List.length_append]
 have:=putF_len n
 omega
theorem nums_len (l:List Int):∀(w:JW),(w.nums l).b.length≤w.b.length+9 * l.length:=by
 induction l with
 | nil=>intro w;exact Nat.le_refl _
 | cons x l ih =>
   intro w
   have h1:=ih (w.num x)
   have h2:=num_len w x
   show((w.num x).nums l).b.length≤_
   simp only[List.length_cons]
   omega
theorem nums_take (w:JW) (l:List Int) (k:Nat) (h:k<l.length):w.nums (l.take (k+1))=(w.nums (l.take k)).num l[k]:=by
 unfold JW.nums
 rw[List.take_succ_eq_append_getElem h,List.foldl_append]
 rfl
theorem wFail_call (B b:Nat) (j:JW) (e:Int) (w:World) (h:IsJw JT B b j w) :
 Calls Tryz.prog 136 #[.pointer (some ⟨b,0,none⟩),.int .i64 e] w (JPost JT B b (j.fail e) (.tuple #[]) w):=by
 obtain⟨c2,f2⟩:=h.eCell
 have H:=hid h
 have hB:=h.1
 clear h
 by_cases h0:j.e=0
 ·have q0:(j.e==0)=true:=by simp[h0]
  have H0:=hid h0
  clear h0
  go_enter Tryz.func136,Tryz.ntmps136
  go_wp2
  refine bodyPost_end (results_none rfl _ _ _) rfl ?_
  have hf:j.fail e=⟨j.b,e⟩:=by unfold JW.fail;rw[if_pos H0.out]
  rw[hf]
  exact⟨rfl,H.out.setE e,(Below.refl B w).setCell (p:=⟨b,2,none⟩) hB _,(Lib.OthersKept.refl _ _ w).setCell ⟨b,2,none⟩ rfl _⟩
 ·have q0:(j.e==0)=false:=by simp[h0]
  have H0:=hid h0
  clear h0
  go_enter Tryz.func136,Tryz.ntmps136
  go_wp2
  refine bodyPost_end (results_none rfl _ _ _) rfl ?_
  have hf:j.fail e=j:=by unfold JW.fail;rw[if_neg H0.out]
  rw[hf]
  exact⟨rfl,H.out,Below.refl B w,Lib.OthersKept.refl _ _ w⟩
theorem JPost.trans {T:TypeId} {B b:Nat} {j j':JW} {v v':Value} {w w1 w2:World} {e e':Ending} (h:JPost T B b j v w e w1) (h2:JPost T B b j' v' w1 e' w2):JPost T B b j' v' w e' w2 :=
 ⟨h2.1,h2.2.1,h.2.2.1.trans h2.2.2.1,h.2.2.2.trans h2.2.2.2⟩
theorem wNums_call (B b g:Nat) (j:JW) (l:List Int) (w:World) (h:IsJw JT B b j w) (hI:∀x∈l,I64 x) (hg:w.heap[g]?=some (.cells (l.map (Value.int .i64)).toArray 3)) (hgb:g≠b) (hlen:j.b.length+9 * l.length≤1000000000000) (hBw:B≤w.heap.size) :
 Calls Tryz.prog 42 #[.pointer (some ⟨b,0,none⟩),.slice (some ⟨g,0,none⟩) l.length l.length] w (JPost JT B b (j.nums l) (.tuple #[]) w):=by
 obtain⟨n,hn⟩:∃n,n=l.length:=⟨_,rfl⟩
 have hn63:(n:Int)≤1000000000000:=by omega
 rw[←hn]
 have HG:=hid hg
 have HGB:=hid hgb
 have H:=hid h
 have HI:=hid hI
 have HLEN:=hid hlen
 have HBW:=hid hBw
 have HN:=hid hn
 clear hg hgb h hI hlen hn
 go_enter Tryz.func42,Tryz.ntmps42
 go_wp2
 go_loopw [10] (fun i wr=>∃k:Nat,k≤n∧i=.int .i64 k∧IsJw JT B b (j.nums (l.take k)) wr∧Below B w wr∧Lib.OthersKept 5 (some b) w wr) (fun i _=>n-(intOf i).toNat)
 case atStart=>exact⟨0,Nat.zero_le _,rfl,H.out,Below.refl _ _,Lib.OthersKept.refl _ _ _⟩
 case round =>
  obtain⟨k,hk,rfl,hj,hb,ho⟩:=hrel
  have HJ:=hid hj
  have HB:=hid hb
  have HO:=hid ho
  clear hj hb ho
  by_cases hlt:k<n
  ·have hkl:k<l.length:=by have:=HN.out;omega
   have q1:(k:Int)<(n:Int):=by omega
   have hgr:wr.heap[g]?=some (.cells (l.map (Value.int .i64)).toArray 3):=HO.out g _ HG.out (fun e=>HGB.out (by injection e)) (fun c fz e=>by injection e with _ e2 _;exact absurd e2 (by decide))
   obtain⟨z,hz⟩:∃z,z=l[k]:=⟨_,rfl⟩
   have cz:wr.cell? ⟨g,0+k,none⟩=some (.int .i64 z):=by
    rw[Nat.zero_add,cellOf hgr k,hz]
    simp[hkl]
   have cz':wr.cell? ⟨g,k,none⟩=some (.int .i64 z):=by rwa[Nat.zero_add] at cz
   obtain⟨u,hu⟩:∃u,u=putF z:=⟨_,rfl⟩
   have hst:(j.nums (l.take k)).num z=j.nums (l.take (k+1)):=by rw[hz,nums_take j l k hkl]
   have hl1:(j.nums (l.take k)).b.length+9≤1000000000009:=by
    have h1:=nums_len (l.take k) j
    rw[List.length_take] at h1
    have:=HLEN.out
    omega
   have hul:u.1.size≤9:=by rw[hu];exact putF_len z
   obtain⟨J,hJ⟩:∃J,J=j.nums (l.take k):=⟨_,rfl⟩
   rw[←hJ] at hst hl1 HJ
   have hp:=tPut_call z (HI.out z (by rw[hz];exact List.getElem_mem _)) wr
   rw[←hu] at hp
   have HP:=hid hp
   have HST:=hid hst
   have HU:=hid hu
   have HL1:=hid hl1
   have HUL:=hid hul
   clear hp hst hu hz hl1 hul hJ hgr cz
   go_wp2_with (first
    | (go_at_call 61;refine(wstrJ_call JT jwT B b (J.fail u.2) u.1 w2 H2.out.2.1 (by have:=HL1.out;have:=HUL.out;show J.b.length+_≤_;omega) (by have:=H2.out.2.2.1.size;have:=HB1.out.size;have:=HB.out.size;have:=HBW.out;omega)).mono ?_;rintro e w3 h3;have H3:=hid h3;obtain⟨rfl,_⟩:=h3)
    | (go_at_call 136;refine(wFail_call B b J u.2 w1 (HJ.out.ext HB1.out)).mono ?_;rintro e w2 h2;have H2:=hid h2;obtain⟨rfl,_⟩:=h2)
    | (go_at_call 135;refine HP.out.mono ?_;rintro e w1 ⟨rfl,hb1⟩;have HB1:=hid hb1;clear hb1))
   go_roundw
   case rel =>
    have h3:=H3.out
    have e3:(⟨(J.fail u.2).b++u.1.data.toList,(J.fail u.2).e⟩:JW)=J.num z:=by rw[HU.out];rfl
    rw[e3,HST.out] at h3
    exact⟨k+1,by omega,by go_num,h3.2.1,(HB.out.trans (HB1.out.mono (by have:=HB.out.size;have:=HBW.out;omega))).trans (H2.out.2.2.1.trans h3.2.2.1),(HO.out.trans (others_extJ HB1.out)).trans (H2.out.2.2.2.trans h3.2.2.2)⟩
   case measure=>simp[intOf];omega
  ·obtain rfl:k=n:=by omega
   go_wp2
   refine bodyPost_end (results_none rfl _ _ _) rfl ?_
   have h1:=HJ.out
   rw[List.take_of_length_le (by have:=HN.out;omega)] at h1
   exact⟨rfl,h1,HB.out,HO.out⟩
theorem wText_call (B b:Nat) (j:JW) (s:ByteArray) (w:World) (h:IsJw JT B b j w) (hlen:j.b.length+s.size≤900000000000) (hBw:B≤w.heap.size) :
 Calls Tryz.prog 138 #[.pointer (some ⟨b,0,none⟩),.string s] w (JPost JT B b (j.text s) (.tuple #[]) w):=by
 obtain⟨w0,hw0⟩:∃w0,w0=w.alloc (.cells #[.int .i64 s.size] 3):=⟨_,rfl⟩
 have hb0:Below w.heap.size w w0:=by rw[hw0];exact(Below.refl _ w).alloc (Nat.le_refl _) _
 have hN:=wNums_call B b w.heap.size j [(s.size:Int)] w0 (h.ext hb0) (by intro x hx;rw[List.mem_singleton.1 hx];constructor<;>omega) (by rw[hw0];exact heap_alloc_new w _) (by have:=h.lt;omega) (by simp;omega) (Nat.le_trans hBw hb0.size)
 have HN:=hid hN
 have HW:=hid hw0
 have HB0:=hid hb0
 have HL:=hid hlen
 have HBW:=hid hBw
 clear hN hw0 hb0 hlen
 go_enter Tryz.func138,Tryz.ntmps138
 go_wp2_with (first
  | (go_at_call 61;refine(wstrJ_call JT jwT B b (j.num s.size) s w1 H1.out.2.1 (by have:=HL.out;have:=num_len j s.size;omega) (by have:=H1.out.2.2.1.size;have:=HB0.out.size;omega)).mono ?_;rintro e w2 h2;have H2:=hid h2;obtain⟨rfl,_⟩:=h2)
  | (go_at_call 42;rw[←HW.out];refine HN.out.mono ?_;rintro e w1 h1;have H1:=hid h1;obtain⟨rfl,_⟩:=h1))
 refine bodyPost_end (results_none rfl _ _ _) rfl ?_
 exact⟨rfl,H2.out.2.1,(HB0.out.mono HBW.out).trans (H1.out.2.2.1.trans H2.out.2.2.1),(others_extJ HB0.out).trans (H1.out.2.2.2.trans H2.out.2.2.2)⟩
end
section
open Go Go.RowKit
theorem emp_size (x:ByteArray):(x.size != 0) = !x.toList.isEmpty:=by
 rw[ByteArray.toList_eq]
 have h:x.size=x.data.toList.length:=Array.length_toList.symm
 rw[h]
 cases x.data.toList<;>simp
theorem ldAtJ {w:World} {b k:Nat} {cs:Array Value} {t:TypeId} {fr:Nat × Nat} {x0 x1 x2 x3 x4 x5:Value} (h:w.heap[b]?=some (.cells cs t fr)) (h0:cs[k]?=some x0) (h1:cs[k+1]?=some x1) (h2:cs[k+2]?=some x2) (h3:cs[k+3]?=some x3) (h4:cs[k+4]?=some x4) (h5:cs[k+5]?=some x5) :
 (loadCellsFrom ⟨b,k,none⟩ 0 6 #[]).run Tryz.prog w=.ok #[x0,x1,x2,x3,x4,x5] w:=by
 have:=run_loadCells_list (P:=Tryz.prog) w ⟨b,k,none⟩ [x0,x1,x2,x3,x4,x5] (fun j v hv=>by
  rw[add_at,cellOf h (k+j)]
  have hj:j<6:=(List.getElem?_eq_some_iff.1 hv).1
  have:j=0∨j=1∨j=2∨j=3∨j=4∨j=5:=by omega
  rcases this with rfl | rfl | rfl | rfl | rfl | rfl
  ·simpa using h0.trans hv
  ·simpa using h1.trans hv
  ·simpa using h2.trans hv
  ·simpa using h3.trans hv
  ·simpa using h4.trans hv
  ·simpa using h5.trans hv)
 exact this
section
attribute [-go_sem] loadCellsFrom storeCells
attribute [local go_sem] lcf0 lcf1 lcf2 lcf3 lcf4 lcf5 stc0 stc1
theorem used_call (c:EnC) (d:En) (w:World) (hd:IsEn (· < w.heap.size) w c d) :
 Calls Tryz.prog 52 #[c.v] w fun e w'=>e=.returned (.bool (usedB d))∧Below w.heap.size w w':=by
 obtain⟨w0,hw0⟩:∃w0,w0=w.alloc (.cells c.ar 30):=⟨_,rfl⟩
 have h0:w0.heap[w.heap.size]?=some (.cells c.ar 30):=by rw[hw0];exact heap_alloc_new w _
 have hb0:Below w.heap.size w w0:=by rw[hw0];exact(Below.refl _ w).alloc (Nat.le_refl _) _
 have hu:usedB d=(c.nu != 0||c.ve != 0||c.ca != 0||c.nm.size != 0||c.nd.size != 0||c.tx.size != 0||c.un||c.dn || !(cmpV d.bd nulV==0)||c.st.e != 0||c.st.n != 0):=by
  unfold usedB
  rw[hd.nu,hd.ve,hd.ca,hd.nm,hd.nd,hd.tx,hd.un,hd.dn,hd.st.e,hd.st.ps.1]
  rfl
 have heq:=valEqual_call c.bd ⟨0,0,0,⟨#[]⟩,none,0,0,none,0,0⟩ d.bd nulV w0 (hd.bd.same fun j hj=>⟨Nat.lt_of_lt_of_le hj hb0.size,hb0.block j hj⟩) (leaf_val 0 0 (by simp[I64]) (by simp[I64]))
 obtain⟨u,hu0⟩:∃u,u=(cmpV d.bd nulV==0):=⟨_,rfl⟩
 rw[←hu0] at hu heq
 have HEQ:=hid heq
 have HU0:=hid hu
 have HW:=hid hw0
 have HB0:=hid hb0
 have HC:=hid (fun (w':World) (h:Below w0.heap.size w0 w')=>have q:=heapExt h h0
  (show w'.cell? ⟨w.heap.size,0,none⟩=some (.int .i64 c.k)∧w'.cell? ⟨w.heap.size,1,none⟩=some (.int .i64 c.ti)∧w'.cell? ⟨w.heap.size,2,none⟩=some (.int .i64 c.nu)∧w'.cell? ⟨w.heap.size,3,none⟩=some (.int .i64 c.ve)∧w'.cell? ⟨w.heap.size,4,none⟩=some (.int .i64 c.ca)∧w'.cell? ⟨w.heap.size,5,none⟩=some (.string c.nm)∧w'.cell? ⟨w.heap.size,6,none⟩=some (.string c.nd)∧w'.cell? ⟨w.heap.size,7,none⟩=some (.string c.tx)∧w'.cell? ⟨w.heap.size,8,none⟩=some (.bool c.un)∧w'.cell? ⟨w.heap.size,9,none⟩=some (.bool c.dn)∧(loadCellsFrom ⟨w.heap.size,10,none⟩ 0 6 #[]).run Tryz.prog w'=.ok #[.int .i64 c.bd.k,.int .i64 c.bd.i,.int .i64 c.bd.s,.string c.bd.t,.slice c.bd.la c.bd.ll c.bd.lc,.slice c.bd.fa c.bd.fl c.bd.fc] w'∧w'.cell? ⟨w.heap.size,16,none⟩=some (.int .i64 c.st.e)∧w'.cell? ⟨w.heap.size,17,none⟩=some (.slice c.st.a c.st.n c.st.c) from
  ⟨cellOf q 0,cellOf q 1,cellOf q 2,cellOf q 3,cellOf q 4,cellOf q 5,cellOf q 6,cellOf q 7,cellOf q 8,cellOf q 9,ldAtJ q rfl rfl rfl rfl rfl rfl,cellOf q 16,cellOf q 17⟩))
 obtain⟨c0,c1,c2,c3,c4,c5,c6,c7,c8,c9,c10,c16,c17⟩:=HC.out w0 (Below.refl _ _)
 clear hd hu heq hw0 h0 hb0 hu0
 obtain⟨k,ti,nu,ve,ca,nm,nd,tx,un,dn,⟨bk,bi,bs,bt,bla,bll,blc,bfa,bfl,bfc⟩,⟨se,sa,sn,scc⟩⟩:=c
 dsimp only[EnC.v,EnC.ar,VC.v] at *
 by_cases h0:nu=0
 rotate_left
 ·have q0:(nu==0)=false:=by simp[h0]
  have r0:(nu != 0)=true:=by simp[h0]
  clear h0
  have HU:=hid (show usedB d=true by rw[HU0.out];simp[*])
  go_enter Tryz.func52,Tryz.ntmps52
  go_upto_region 1 with (fail)
  rw[←HW.out]
  go_wp2_with (go_at_call 50;refine HEQ.out.mono ?_;rintro e w1 ⟨rfl,hb1⟩;have HB1:=hid (HB0.out.trans (hb1.mono HB0.out.size));obtain⟨c0,c1,c2,c3,c4,c5,c6,c7,c8,c9,c10,c16,c17⟩:=HC.out w1 hb1;clear hb1)
  refine bodyPost_ret (v:=.bool true) (by simp[results,Tryz.results52,go_sem]) rfl ?_
  exact⟨by rw[HU.out],HB0.out⟩
 have q0:(nu==0)=true:=by simp[h0]
 have r0:(nu != 0)=false:=by simp[h0]
 clear h0
 by_cases h1:ve=0
 rotate_left
 ·have q1:(ve==0)=false:=by simp[h1]
  have r1:(ve != 0)=true:=by simp[h1]
  clear h1
  have HU:=hid (show usedB d=true by rw[HU0.out];simp[*])
  go_enter Tryz.func52,Tryz.ntmps52
  go_upto_region 1 with (fail)
  rw[←HW.out]
  go_wp2_with (go_at_call 50;refine HEQ.out.mono ?_;rintro e w1 ⟨rfl,hb1⟩;have HB1:=hid (HB0.out.trans (hb1.mono HB0.out.size));obtain⟨c0,c1,c2,c3,c4,c5,c6,c7,c8,c9,c10,c16,c17⟩:=HC.out w1 hb1;clear hb1)
  refine bodyPost_ret (v:=.bool true) (by simp[results,Tryz.results52,go_sem]) rfl ?_
  exact⟨by rw[HU.out],HB0.out⟩
 have q1:(ve==0)=true:=by simp[h1]
 have r1:(ve != 0)=false:=by simp[h1]
 clear h1
 by_cases h2:ca=0
 rotate_left
 ·have q2:(ca==0)=false:=by simp[h2]
  have r2:(ca != 0)=true:=by simp[h2]
  clear h2
  have HU:=hid (show usedB d=true by rw[HU0.out];simp[*])
  go_enter Tryz.func52,Tryz.ntmps52
  go_upto_region 1 with (fail)
  rw[←HW.out]
  go_wp2_with (go_at_call 50;refine HEQ.out.mono ?_;rintro e w1 ⟨rfl,hb1⟩;have HB1:=hid (HB0.out.trans (hb1.mono HB0.out.size));obtain⟨c0,c1,c2,c3,c4,c5,c6,c7,c8,c9,c10,c16,c17⟩:=HC.out w1 hb1;clear hb1)
  refine bodyPost_ret (v:=.bool true) (by simp[results,Tryz.results52,go_sem]) rfl ?_
  exact⟨by rw[HU.out],HB0.out⟩
 have q2:(ca==0)=true:=by simp[h2]
 have r2:(ca != 0)=false:=by simp[h2]
 clear h2
 cases r3:nm.toList.isEmpty
 ·have q3:(nm.size != 0)=true:=by rw[emp_size,r3];rfl
  have HU:=hid (show usedB d=true by rw[HU0.out];simp[*])
  go_enter Tryz.func52,Tryz.ntmps52
  go_upto_region 1 with (fail)
  rw[←HW.out]
  go_wp2_with (go_at_call 50;refine HEQ.out.mono ?_;rintro e w1 ⟨rfl,hb1⟩;have HB1:=hid (HB0.out.trans (hb1.mono HB0.out.size));obtain⟨c0,c1,c2,c3,c4,c5,c6,c7,c8,c9,c10,c16,c17⟩:=HC.out w1 hb1;clear hb1)
  refine bodyPost_ret (v:=.bool true) (by simp[results,Tryz.results52,go_sem]) rfl ?_
  exact⟨by rw[HU.out],HB0.out⟩
 have q3:(nm.size != 0)=false:=by rw[emp_size,r3];rfl
 cases r4:nd.toList.isEmpty
 ·have q4:(nd.size != 0)=true:=by rw[emp_size,r4];rfl
  have HU:=hid (show usedB d=true by rw[HU0.out];simp[*])
  go_enter Tryz.func52,Tryz.ntmps52
  go_upto_region 1 with (fail)
  rw[←HW.out]
  go_wp2_with (go_at_call 50;refine HEQ.out.mono ?_;rintro e w1 ⟨rfl,hb1⟩;have HB1:=hid (HB0.out.trans (hb1.mono HB0.out.size));obtain⟨c0,c1,c2,c3,c4,c5,c6,c7,c8,c9,c10,c16,c17⟩:=HC.out w1 hb1;clear hb1)
  refine bodyPost_ret (v:=.bool true) (by simp[results,Tryz.results52,go_sem]) rfl ?_
  exact⟨by rw[HU.out],HB0.out⟩
 have q4:(nd.size != 0)=false:=by rw[emp_size,r4];rfl
 cases r5:tx.toList.isEmpty
 ·have q5:(tx.size != 0)=true:=by rw[emp_size,r5];rfl
  have HU:=hid (show usedB d=true by rw[HU0.out];simp[*])
  go_enter Tryz.func52,Tryz.ntmps52
  go_upto_region 1 with (fail)
  rw[←HW.out]
  go_wp2_with (go_at_call 50;refine HEQ.out.mono ?_;rintro e w1 ⟨rfl,hb1⟩;have HB1:=hid (HB0.out.trans (hb1.mono HB0.out.size));obtain⟨c0,c1,c2,c3,c4,c5,c6,c7,c8,c9,c10,c16,c17⟩:=HC.out w1 hb1;clear hb1)
  refine bodyPost_ret (v:=.bool true) (by simp[results,Tryz.results52,go_sem]) rfl ?_
  exact⟨by rw[HU.out],HB0.out⟩
 have q5:(tx.size != 0)=false:=by rw[emp_size,r5];rfl
 obtain rfl | rfl:un=true∨un=false:=by cases un<;>simp
 ·skip
  have HU:=hid (show usedB d=true by rw[HU0.out];simp[*])
  go_enter Tryz.func52,Tryz.ntmps52
  go_upto_region 1 with (fail)
  rw[←HW.out]
  go_wp2_with (go_at_call 50;refine HEQ.out.mono ?_;rintro e w1 ⟨rfl,hb1⟩;have HB1:=hid (HB0.out.trans (hb1.mono HB0.out.size));obtain⟨c0,c1,c2,c3,c4,c5,c6,c7,c8,c9,c10,c16,c17⟩:=HC.out w1 hb1;clear hb1)
  refine bodyPost_ret (v:=.bool true) (by simp[results,Tryz.results52,go_sem]) rfl ?_
  exact⟨by rw[HU.out],HB0.out⟩
 obtain rfl | rfl:dn=true∨dn=false:=by cases dn<;>simp
 ·skip
  have HU:=hid (show usedB d=true by rw[HU0.out];simp[*])
  go_enter Tryz.func52,Tryz.ntmps52
  go_upto_region 1 with (fail)
  rw[←HW.out]
  go_wp2_with (go_at_call 50;refine HEQ.out.mono ?_;rintro e w1 ⟨rfl,hb1⟩;have HB1:=hid (HB0.out.trans (hb1.mono HB0.out.size));obtain⟨c0,c1,c2,c3,c4,c5,c6,c7,c8,c9,c10,c16,c17⟩:=HC.out w1 hb1;clear hb1)
  refine bodyPost_ret (v:=.bool true) (by simp[results,Tryz.results52,go_sem]) rfl ?_
  exact⟨by rw[HU.out],HB0.out⟩
 cases r8:u
 ·rw[r8] at HEQ HU0
  have HU:=hid (show usedB d=true by rw[HU0.out];simp[*])
  go_enter Tryz.func52,Tryz.ntmps52
  go_upto_region 1 with (fail)
  rw[←HW.out]
  go_wp2_with (go_at_call 50;refine HEQ.out.mono ?_;rintro e w1 ⟨rfl,hb1⟩;have HB1:=hid (HB0.out.trans (hb1.mono HB0.out.size));obtain⟨c0,c1,c2,c3,c4,c5,c6,c7,c8,c9,c10,c16,c17⟩:=HC.out w1 hb1;clear hb1)
  refine bodyPost_ret (v:=.bool true) (by simp[results,Tryz.results52,go_sem]) rfl ?_
  exact⟨by rw[HU.out],HB1.out⟩
 rw[r8] at HEQ HU0
 by_cases h9:se=0
 rotate_left
 ·have q9:(se==0)=false:=by simp[h9]
  have r9:(se != 0)=true:=by simp[h9]
  clear h9
  have HU:=hid (show usedB d=true by rw[HU0.out];simp[*])
  go_enter Tryz.func52,Tryz.ntmps52
  go_upto_region 1 with (fail)
  rw[←HW.out]
  go_wp2_with (go_at_call 50;refine HEQ.out.mono ?_;rintro e w1 ⟨rfl,hb1⟩;have HB1:=hid (HB0.out.trans (hb1.mono HB0.out.size));obtain⟨c0,c1,c2,c3,c4,c5,c6,c7,c8,c9,c10,c16,c17⟩:=HC.out w1 hb1;clear hb1)
  refine bodyPost_ret (v:=.bool true) (by simp[results,Tryz.results52,go_sem]) rfl ?_
  exact⟨by rw[HU.out],HB1.out⟩
 have q9:(se==0)=true:=by simp[h9]
 have r9:(se != 0)=false:=by simp[h9]
 clear h9
 by_cases h10:sn=0
 rotate_left
 ·have q10:(0:Int)<(sn:Int):=by omega
  have r10:(sn != 0)=true:=by simp[h10]
  have s10:0<sn:=by omega
  clear h10
  have HU:=hid (show usedB d=true by rw[HU0.out];simp[*])
  go_enter Tryz.func52,Tryz.ntmps52
  go_upto_region 1 with (fail)
  rw[←HW.out]
  go_wp2_with (go_at_call 50;refine HEQ.out.mono ?_;rintro e w1 ⟨rfl,hb1⟩;have HB1:=hid (HB0.out.trans (hb1.mono HB0.out.size));obtain⟨c0,c1,c2,c3,c4,c5,c6,c7,c8,c9,c10,c16,c17⟩:=HC.out w1 hb1;clear hb1)
  refine bodyPost_ret (v:=.bool true) (by simp[results,Tryz.results52,go_sem]) rfl ?_
  exact⟨by rw[HU.out],HB1.out⟩
 have q10:¬ (0:Int)<(sn:Int):=by omega
 have r10:(sn != 0)=false:=by simp[h10]
 have s10:¬ 0<sn:=by omega
 clear h10
 have HU:=hid (show usedB d=false by rw[HU0.out];simp[*])
 go_enter Tryz.func52,Tryz.ntmps52
 go_upto_region 1 with (fail)
 rw[←HW.out]
 go_wp2_with (go_at_call 50;refine HEQ.out.mono ?_;rintro e w1 ⟨rfl,hb1⟩;have HB1:=hid (HB0.out.trans (hb1.mono HB0.out.size));obtain⟨c0,c1,c2,c3,c4,c5,c6,c7,c8,c9,c10,c16,c17⟩:=HC.out w1 hb1;clear hb1)
 refine bodyPost_ret (v:=.bool false) (by simp[results,Tryz.results52,go_sem]) rfl ?_
 exact⟨by rw[HU.out],HB1.out⟩
end
end
end Go.Proofs.YtaofolgaiipcjaaGreatDoor
