/-
  A strings.Builder that is the first field of a struct with an error behind it (the writers of journal and snapshot): WriteString and String. Condition: the block holds such a struct.
-/
import Derived.Test.YtmgpghoamapfgaaGreatDoorJN28Mrg
import Derived.Lib.BufferKept
import Derived.Deep.Cut
namespace Go.Proofs.YtmgpghoamapfgaaGreatDoor
set_option linter.unusedVariables false
set_option maxRecDepth 100000
set_option maxHeartbeats 16000000
set_option linter.unusedSimpArgs false
section
open Go Go.RowKit Go.Shelf
def JwT (T:TypeId):Prop:=liesAt Tryz.prog Tryz.prog.depth T (3 / Tryz.prog.cellsOf T) 0 74 1=true∧T≠5
theorem jwT:JwT 150:=⟨by kernel_rfl,by decide⟩
def IsJw (T:TypeId) (B b:Nat) (j:JW) (w:World):Prop :=
 B≤b∧∃p v,w.heap[b]?=some (.cells #[p,v,.int .i64 j.e] T (0,0))∧(p=.pointer none∨p=.pointer (some ⟨b,0,none⟩))∧w.ownsRowF B 5 1 v j.b.length (Lib.byteCells j.b)∧v.ownBlock≠some b
def JPost (T:TypeId) (B b:Nat) (j:JW) (v:Value) (w:World) (e:Ending) (w':World):Prop:=e=.returned v∧IsJw T B b j w'∧Below B w w'∧Lib.OthersKept 5 (some b) w w'
theorem IsJw.lt {T:TypeId} {B b:Nat} {j:JW} {w:World} (h:IsJw T B b j w):b<w.heap.size:=by
 obtain⟨_,p,v,hb,_⟩:=h
 exact ltOf hb
theorem IsJw.eCell {T:TypeId} {B b:Nat} {j:JW} {w:World} (h:IsJw T B b j w):w.cell? ⟨b,2,none⟩=some (.int .i64 j.e)∧w.frozen? ⟨b,2,none⟩=false:=by
 obtain⟨_,p,v,hb,_⟩:=h
 exact⟨cellOf hb 2,freeOf hb 2⟩
theorem IsJw.ext {T:TypeId} {B b:Nat} {j:JW} {w w':World} (h:IsJw T B b j w) (hb:Below w.heap.size w w'):IsJw T B b j w':=by
 have hlt:=h.lt
 obtain⟨hB,p,v,hk,hp,hown,hne⟩:=h
 exact⟨hB,p,v,(hb.block b hlt).trans hk,hp,hown.kept (row:=none) ⟨hb.os,hb.tape,hb.output,hb.size,fun k hk _=>hb.block k hk⟩ (by
  rcases hv:v.ownBlock with _ | g
  ·exact .inl rfl
  ·exact .inr (by simp)),hne⟩
theorem IsJw.setE {T:TypeId} {B b:Nat} {j:JW} {w:World} (h:IsJw T B b j w) (e:Int):IsJw T B b ⟨j.b,e⟩ (w.setCell ⟨b,2,none⟩ (.int .i64 e)):=by
 obtain⟨hB,p,v,hb,hp,hown,hne⟩:=h
 refine⟨hB,p,v,?_,hp,?_,hne⟩
 ·simp[World.setCell,Array.getElem?_modify,hb]
 ·exact hown.kept (row:=some b) ⟨rfl,rfl,rfl,by simp[World.setCell],fun k _ hk=>Below.heap_setCell _ _ _ _ (fun e=>hk (by simp[e]))⟩ (Or.inr hne)
theorem others_extJ {e:TypeId} {b:Option Nat} {w w':World} (hb:Below w.heap.size w w'):Lib.OthersKept e b w w':=fun k o h _ _=>heapExt hb h
theorem ccJ_fresh (T:TypeId) (hT:JwT T) (b:Nat) (w:World) (h0:w.cell? ⟨b,0,none⟩=some (.pointer none)) (hsh:w.shape? b=some (T,3)) (hfz:w.frozen? ⟨b,0,none⟩=false) :
 Calls Tryz.prog 70 #[.pointer (some ⟨b,0,none⟩)] w fun e w'=>e=.returned (.tuple #[])∧w'=w.setCell ⟨b,0,none⟩ (.pointer (some ⟨b,0,none⟩)):=by
 obtain⟨j,hj,hjs⟩:=Option.map_eq_some_iff.1 sizeBld
 go_enter Tryz.func70,Tryz.ntmps70
 go_wp2
 rw[Lib.run_to_unsafe w ⟨b,0,none⟩ Tryz.underlying71 Tryz.underlying207 hj (by rw[hjs];decide) hsh (Nat.zero_lt_succ 2)]
 simp only[Result.andThen]
 rw[Oper.upon_value]
 go_wp2
 rw[run_callFunc_extern Tryz.func129 (by kernel_rfl) (by kernel_rfl) (by kernel_rfl) (e:=Extern.AbiNoEscape.same) (by kernel_rfl)]
 rw[Lib.run_noEscape]
 simp only[Result.andThen]
 rw[Oper.upon_value]
 go_wp2
 rw[Lib.run_from_unsafe w ⟨b,0,none⟩ Tryz.underlying207 Tryz.underlying71 hj hsh hT.1]
 simp only[Result.andThen]
 rw[Oper.upon_value]
 go_wp2
 go_end0
 exact⟨rfl,rfl⟩
theorem ccJ_call (T:TypeId) (hT:JwT T) (B b:Nat) (j:JW) (w:World) (h:IsJw T B b j w):Calls Tryz.prog 70 #[.pointer (some ⟨b,0,none⟩)] w fun e w'=>JPost T B b j (.tuple #[]) w e w'∧∃v,w'.heap[b]?=some (.cells #[.pointer (some ⟨b,0,none⟩),v,.int .i64 j.e] T (0,0))∧w'.ownsRowF B 5 1 v j.b.length (Lib.byteCells j.b)∧v.ownBlock≠some b:=by
 have h0:=h
 obtain⟨hB,p,v,hb,hp,hown,hne⟩:=h
 rcases hp with rfl | rfl
 ·refine(ccJ_fresh T hT b w (cellOf hb 0) (by simp[World.shape?,hb]) (freeOf hb 0)).mono fun e w' ⟨he,hw⟩=>?_
  have hb':w'.heap[b]?=some (.cells #[.pointer (some ⟨b,0,none⟩),v,.int .i64 j.e] T (0,0)):=by rw[hw];simp[World.setCell,Array.getElem?_modify,hb]
  have ho':w'.ownsRowF B 5 1 v j.b.length (Lib.byteCells j.b):=by
   rw[hw]
   exact hown.kept (row:=some b) ⟨rfl,rfl,rfl,by simp[World.setCell],fun k _ hk=>Below.heap_setCell _ _ _ _ (fun e=>hk (by simp[e]))⟩ (Or.inr hne)
  exact⟨⟨he,⟨hB,_,v,hb',.inr rfl,ho',hne⟩,by rw[hw];exact(Below.refl B w).setCell (p:=⟨b,0,none⟩) hB _,by rw[hw];exact(Lib.OthersKept.refl _ _ w).setCell ⟨b,0,none⟩ rfl _⟩,v,hb',ho',hne⟩
 ·refine(cc_used b w (cellOf hb 0)).mono fun e w' ⟨he,hw⟩=>?_
  rw[hw]
  exact⟨⟨he,h0,Below.refl B _,Lib.OthersKept.refl _ _ _⟩,v,hb,hown,hne⟩
theorem wstrJ_call (T:TypeId) (hT:JwT T) (B b:Nat) (j:JW) (s:ByteArray) (w:World) (h:IsJw T B b j w) (hlen:j.b.length+s.size≤140737488355328) (hBw:B≤w.heap.size) :
 Calls Tryz.prog 32 #[.pointer (some ⟨b,0,none⟩),.string s] w (JPost T B b ⟨j.b++s.data.toList,j.e⟩ (.tuple #[.int .i64 s.size,.nilIface]) w):=by
 obtain⟨i0,hi,hz0,hz1,hz2⟩:=info_parts infoU8
 have HCC:=hid (ccJ_call T hT B b j w h)
 have HT:=hid hT.2
 have hB:=h.1
 clear h hT
 go_enter Tryz.func32,Tryz.ntmps32
 go_wp2_with (go_at_call 70;refine HCC.out.mono ?_)
 rintro e w1 ⟨⟨rfl,h1,hb1,hk1⟩,v,hbk,hown,hne⟩
 have c0:w1.cell? ⟨b,0,none⟩=some (.pointer (some ⟨b,0,none⟩)):=by rw[Lib.cell_of_heap hbk];rfl
 have c1:w1.cell? ⟨b,1,none⟩=some v:=by rw[Lib.cell_of_heap hbk];rfl
 have hbl:(Lib.byteCells j.b).length=j.b.length:=Lib.byteCells_length _
 go_wp2_with (at_builtin;refine Lib.wpList_append_own_stringF _ rfl _ _ 72 9 rfl B 5 i0 Tryz.underlying72 Tryz.underlying9 hi hz0 hz1 hz2 _ _ _ rfl hown s rfl ?c3 ?c4 ?c5 ?_)
 case c3=>unfold maxLen;omega
 case c4=>omega
 case c5=>have:=hb1.size;omega
 intro v' w2 hown' hgrow _
 have hlt:=ltOf hbk
 have hb2:w2.heap[b]?=some (.cells #[.pointer (some ⟨b,0,none⟩),v,.int .i64 j.e] T (0,0)):=(hgrow.block b hlt (fun e=>hne e.symm)).trans hbk
 have d0:=cellOf hb2 0
 have d1:=cellOf hb2 1
 have f1:=freeOf hb2 1
 (try dsimp only at d0 d1)
 have hne':v'.ownBlock≠some b:=Lib.ownBlock_neF hown' hb2 HT.out
 have HNE:=hid hne'
 clear hne'
 obtain⟨ao,n',cap,rfl⟩:∃ao n' cap,v'=.slice ao n' cap:=by
  rcases hown'.2 with ⟨hv,_⟩ | ⟨g,cap,cur,fz,hv,_⟩
  ·exact⟨_,_,_,hv⟩
  ·exact⟨_,_,_,hv⟩
 go_wp2
 go_ret2
 refine⟨rfl,⟨hB,_,.slice ao n' cap,?_,.inr rfl,?_,HNE.out⟩,?_,(hk1.grown hgrow (Lib.ownsRowF_kind hown)).setCell ⟨b,1,none⟩ rfl _⟩
 ·simp[World.setCell,Array.getElem?_modify,hb2]
 ·have hx:Lib.byteCells (j.b++s.data.toList)=Lib.byteCells j.b++Lib.strCells s:=by simp[Lib.byteCells,Lib.strCells]
  have hz:(j.b++s.data.toList).length=j.b.length+s.size:=by rw[List.length_append];congr 1
  dsimp only
  rw[hx,hz]
  exact hown'.kept (row:=some b) ⟨rfl,rfl,rfl,by simp[World.setCell],fun k _ hk=>Below.heap_setCell _ _ _ _ (fun e=>hk (by simp[e]))⟩ (Or.inr HNE.out)
 ·exact(hb1.grown hgrow (by have:=hb1.size;omega) (fun k hk=>(hown.lt k hk).1)).setCell (p:=⟨b,1,none⟩) hB _
theorem strJ_call (T:TypeId) (B b:Nat) (j:JW) (w:World) (h:IsJw T B b j w) (h0:j.b≠[]) (hBw:B≤w.heap.size) :
 Calls Tryz.prog 38 #[.pointer (some ⟨b,0,none⟩)] w fun e w'=>e=.returned (.string ⟨j.b.toArray⟩)∧Below B w w'∧Lib.OthersKept 5 (some b) w w':=by
 obtain⟨hB,p,v,hbk,hp,hown,hne⟩:=h
 obtain⟨l,hl⟩:∃l,l=j.b:=⟨_,rfl⟩
 rw[←hl] at hown h0 ⊢
 have hl0:l.length≠0:=by simpa using h0
 obtain⟨g,cap,cur,fz,rfl,hbg,hg,hfz,hnc,hcm,hcs,htake⟩:∃g cap cur fz,v=.slice (some ⟨g,0,none⟩) l.length cap∧B≤g∧w.heap[g]?=some (.cells cur 5 fz)∧fz.2≤l.length * 1∧l.length≤cap∧cap≤maxLen∧cur.size=cap * 1∧cur.toList.take (l.length * 1)=Lib.byteCells l:=by
  rcases hown.2 with ⟨_,hz⟩ | ⟨g,cap,cur,fz,hv,r⟩
  ·exact absurd hz hl0
  ·exact⟨g,cap,cur,fz,hv,r⟩
 have c1:w.drew.cell? ⟨b,1,none⟩=some (.slice (some ⟨g,0,none⟩) l.length cap):=by
  have:w.drew.heap[b]?=some (.cells #[p,.slice (some ⟨g,0,none⟩) l.length cap,.int .i64 j.e] T (0,0)):=hbk
  rw[Lib.cell_of_heap this];rfl
 have hSD:(Builtin.unsafeSliceData_ #[72] 129 #[.slice (some ⟨g,0,none⟩) l.length cap]).run Tryz.prog w.drew=.ok (.pointer (some ⟨g,0,none⟩)) w.drew :=
  Lib.run_unsafeSliceData_row _ _ _ _ _ _ (by omega)
 have hUS:(Builtin.unsafeString_ #[129,3] 9 #[.pointer (some ⟨g,0,none⟩),.int .i64 l.length]).run Tryz.prog w.drew=.ok (.string ⟨l.toArray⟩) (w.drew.freeze ⟨g,0,none⟩ l.length):=by
  refine Lib.run_unsafeString_row w.drew 129 3 9 5 Tryz.underlying129 (by kernel_rfl) g cur.size (by have hg':w.drew.heap[g]?=some (.cells cur 5 fz):=hg;simp[World.shape?,hg']) l h0 (by omega) (by unfold maxLen at hcm;omega) ?_
  intro j x hx
  exact hown.cells (g:=g) rfl j (.int .u8 x.toNat) (by simp[Lib.byteCells,hx])
 have HF:=hid (show Below B w (w.drew.freeze ⟨g,0,none⟩ l.length)∧Lib.OthersKept 5 (some b) w (w.drew.freeze ⟨g,0,none⟩ l.length) from
  ⟨Lib.below_freeze (Below.drew (Below.refl B w)) (p:=⟨g,0,none⟩) hbg _,((Lib.OthersKept.refl _ _ w).drew).freeze ⟨g,0,none⟩ _ ⟨cur,fz,hg⟩⟩)
 clear hl hown hp hbk hg htake hne
 go_enter Tryz.func38,Tryz.ntmps38
 go_wp2
 go_region
 all_goals (go_wp2;go_ret;exact⟨rfl,HF.out⟩)
end
section
open Go Go.RowKit Go.Shelf
abbrev JT:TypeId:=150
theorem putF_len (n:Int):(putF n).1.data.toList.length≤9:=by
 unfold putF
 split
 ·exact Nat.zero_le _
 ·rename_i h
  have h':¬ (n<0∨(4611686018427387903:Int)<n):=h
  have hp:(128:Nat) ^ 9=9223372036854775808:=by decide
  exact viL_len 9 n.toNat (by omega) (by decide)
theorem num_len (w:JW) (n:Int):(w.num n).b.length≤w.b.length+9:=by
 show(w.b++_).length≤_
 rw[List.length_append]
 have:=putF_len n
 omega
theorem nums_len (l:List Int):∀(w:JW),(w.nums l).b.length≤w.b.length+9 * l.length:=by
 induction l with
 | nil=>intro w;exact Nat.le_refl _
 | cons x l ih =>
   intro w
   have h1:=ih (w.num x)
   have h2:=num_len w x
   show((w.num x).nums l).b.length≤_
   simp only[List.length_cons]
   omega
theorem nums_take (w:JW) (l:List Int) (k:Nat) (h:k<l.length):w.nums (l.take (k+1))=(w.nums (l.take k)).num l[k]:=by
 unfold JW.nums
 rw[List.take_succ_eq_append_getElem h,List.foldl_append]
 rfl
theorem wFail_call (B b:Nat) (j:JW) (e:Int) (w:World) (h:IsJw JT B b j w) :
 Calls Tryz.prog 159 #[.pointer (some ⟨b,0,none⟩),.int .i64 e] w (JPost JT B b (j.fail e) (.tuple #[]) w):=by
 obtain⟨c2,f2⟩:=h.eCell
 have H:=hid h
 have hB:=h.1
 clear h
 by_cases h0:j.e=0
 ·have q0:(j.e==0)=true:=by simp[h0]
  have H0:=hid h0
  clear h0
  go_enter Tryz.func159,Tryz.ntmps159
  go_wp2
  refine bodyPost_end (results_none rfl _ _ _) rfl ?_
  have hf:j.fail e=⟨j.b,e⟩:=by unfold JW.fail;rw[if_pos H0.out]
  rw[hf]
  exact⟨rfl,H.out.setE e,(Below.refl B w).setCell (p:=⟨b,2,none⟩) hB _,(Lib.OthersKept.refl _ _ w).setCell ⟨b,2,none⟩ rfl _⟩
 ·have q0:(j.e==0)=false:=by simp[h0]
  have H0:=hid h0
  clear h0
  go_enter Tryz.func159,Tryz.ntmps159
  go_wp2
  refine bodyPost_end (results_none rfl _ _ _) rfl ?_
  have hf:j.fail e=j:=by unfold JW.fail;rw[if_neg H0.out]
  rw[hf]
  exact⟨rfl,H.out,Below.refl B w,Lib.OthersKept.refl _ _ w⟩
theorem wNums_call (B b g:Nat) (j:JW) (l:List Int) (w:World) (h:IsJw JT B b j w) (hI:∀x∈l,I64 x) (hg:w.heap[g]?=some (.cells (l.map (Value.int .i64)).toArray 3)) (hgb:g≠b) (hlen:j.b.length+9 * l.length≤1000000000000) (hBw:B≤w.heap.size) :
 Calls Tryz.prog 88 #[.pointer (some ⟨b,0,none⟩),.slice (some ⟨g,0,none⟩) l.length l.length] w (JPost JT B b (j.nums l) (.tuple #[]) w):=by
 obtain⟨n,hn⟩:∃n,n=l.length:=⟨_,rfl⟩
 have hn63:(n:Int)≤1000000000000:=by omega
 rw[←hn]
 have HG:=hid hg
 have HGB:=hid hgb
 have H:=hid h
 have HI:=hid hI
 have HLEN:=hid hlen
 have HBW:=hid hBw
 have HN:=hid hn
 clear hg hgb h hI hlen hn
 go_enter Tryz.func88,Tryz.ntmps88
 go_wp2
 go_loopw [10] (fun i wr=>∃k:Nat,k≤n∧i=.int .i64 k∧IsJw JT B b (j.nums (l.take k)) wr∧Below B w wr∧Lib.OthersKept 5 (some b) w wr) (fun i _=>n-(intOf i).toNat)
 case atStart=>exact⟨0,Nat.zero_le _,rfl,H.out,Below.refl _ _,Lib.OthersKept.refl _ _ _⟩
 case round =>
  obtain⟨k,hk,rfl,hj,hb,ho⟩:=hrel
  have HJ:=hid hj
  have HB:=hid hb
  have HO:=hid ho
  clear hj hb ho
  by_cases hlt:k<n
  ·have hkl:k<l.length:=by have:=HN.out;omega
   have q1:(k:Int)<(n:Int):=by omega
   have hgr:wr.heap[g]?=some (.cells (l.map (Value.int .i64)).toArray 3):=HO.out g _ HG.out (fun e=>HGB.out (by injection e)) (fun c fz e=>by injection e with _ e2 _;exact absurd e2 (by decide))
   obtain⟨z,hz⟩:∃z,z=l[k]:=⟨_,rfl⟩
   have cz:wr.cell? ⟨g,0+k,none⟩=some (.int .i64 z):=by
    rw[Nat.zero_add,cellOf hgr k,hz]
    simp[hkl]
   have cz':wr.cell? ⟨g,k,none⟩=some (.int .i64 z):=by rwa[Nat.zero_add] at cz
   obtain⟨u,hu⟩:∃u,u=putF z:=⟨_,rfl⟩
   have hst:(j.nums (l.take k)).num z=j.nums (l.take (k+1)):=by rw[hz,nums_take j l k hkl]
   have hl1:(j.nums (l.take k)).b.length+9≤1000000000009:=by
    have h1:=nums_len (l.take k) j
    rw[List.length_take] at h1
    have:=HLEN.out
    omega
   have hul:u.1.size≤9:=by rw[hu];exact putF_len z
   obtain⟨J,hJ⟩:∃J,J=j.nums (l.take k):=⟨_,rfl⟩
   rw[←hJ] at hst hl1 HJ
   have hp:=tPut_call z (HI.out z (by rw[hz];exact List.getElem_mem _)) wr
   rw[←hu] at hp
   have HP:=hid hp
   have HST:=hid hst
   have HU:=hid hu
   have HL1:=hid hl1
   have HUL:=hid hul
   clear hp hst hu hz hl1 hul hJ hgr cz
   go_wp2_with (first
    | (go_at_call 32;refine(wstrJ_call JT jwT B b (J.fail u.2) u.1 w2 H2.out.2.1 (by have:=HL1.out;have:=HUL.out;show J.b.length+_≤_;omega) (by have:=H2.out.2.2.1.size;have:=HB1.out.size;have:=HB.out.size;have:=HBW.out;omega)).mono ?_;rintro e w3 h3;have H3:=hid h3;obtain⟨rfl,_⟩:=h3)
    | (go_at_call 159;refine(wFail_call B b J u.2 w1 (HJ.out.ext HB1.out)).mono ?_;rintro e w2 h2;have H2:=hid h2;obtain⟨rfl,_⟩:=h2)
    | (go_at_call 158;refine HP.out.mono ?_;rintro e w1 ⟨rfl,hb1⟩;have HB1:=hid hb1;clear hb1))
   go_roundw
   case rel =>
    have h3:=H3.out
    have e3:(⟨(J.fail u.2).b++u.1.data.toList,(J.fail u.2).e⟩:JW)=J.num z:=by rw[HU.out];rfl
    rw[e3,HST.out] at h3
    exact⟨k+1,by omega,by go_num,h3.2.1,(HB.out.trans (HB1.out.mono (by have:=HB.out.size;have:=HBW.out;omega))).trans (H2.out.2.2.1.trans h3.2.2.1),(HO.out.trans (others_extJ HB1.out)).trans (H2.out.2.2.2.trans h3.2.2.2)⟩
   case measure=>simp[intOf];omega
  ·obtain rfl:k=n:=by omega
   go_wp2
   refine bodyPost_end (results_none rfl _ _ _) rfl ?_
   have h1:=HJ.out
   rw[List.take_of_length_le (by have:=HN.out;omega)] at h1
   exact⟨rfl,h1,HB.out,HO.out⟩
theorem wText_call (B b:Nat) (j:JW) (s:ByteArray) (w:World) (h:IsJw JT B b j w) (hlen:j.b.length+s.size≤900000000000) (hBw:B≤w.heap.size) :
 Calls Tryz.prog 161 #[.pointer (some ⟨b,0,none⟩),.string s] w (JPost JT B b (j.text s) (.tuple #[]) w):=by
 obtain⟨w0,hw0⟩:∃w0,w0=w.alloc (.cells #[.int .i64 s.size] 3):=⟨_,rfl⟩
 have hb0:Below w.heap.size w w0:=by rw[hw0];exact(Below.refl _ w).alloc (Nat.le_refl _) _
 have hN:=wNums_call B b w.heap.size j [(s.size:Int)] w0 (h.ext hb0) (by intro x hx;rw[List.mem_singleton.1 hx];constructor<;>omega) (by rw[hw0];exact heap_alloc_new w _) (by have:=h.lt;omega) (by simp;omega) (Nat.le_trans hBw hb0.size)
 have HN:=hid hN
 have HW:=hid hw0
 have HB0:=hid hb0
 have HL:=hid hlen
 have HBW:=hid hBw
 clear hN hw0 hb0 hlen
 go_enter Tryz.func161,Tryz.ntmps161
 go_wp2_with (first
  | (go_at_call 32;refine(wstrJ_call JT jwT B b (j.num s.size) s w1 H1.out.2.1 (by have:=HL.out;have:=num_len j s.size;omega) (by have:=H1.out.2.2.1.size;have:=HB0.out.size;omega)).mono ?_;rintro e w2 h2;have H2:=hid h2;obtain⟨rfl,_⟩:=h2)
  | (go_at_call 88;rw[←HW.out];refine HN.out.mono ?_;rintro e w1 h1;have H1:=hid h1;obtain⟨rfl,_⟩:=h1))
 refine bodyPost_end (results_none rfl _ _ _) rfl ?_
 exact⟨rfl,H2.out.2.1,(HB0.out.mono HBW.out).trans (H1.out.2.2.1.trans H2.out.2.2.1),(others_extJ HB0.out).trans (H1.out.2.2.2.trans H2.out.2.2.2)⟩
end
end Go.Proofs.YtmgpghoamapfgaaGreatDoor
