/-
  Rows of strings that the call builds; strconv.Itoa and strings.Join over them; stamp.Text returns the text of a stamp, or its error. Conditions: the stamp can be read as data; Tabs.
-/
import Derived.Test.YtmgpghoamapfgaaGreatDoorJN4Mrg
import Derived.Lib.ItoaLen
import Derived.Lib.AppendIntMem
import Derived.Maps.AppendAt
namespace Go.Proofs.YtmgpghoamapfgaaGreatDoor
set_option linter.unusedVariables false
set_option maxRecDepth 100000
set_option maxHeartbeats 16000000
set_option linter.unusedSimpArgs false
section
open Go Go.RowKit Go.Shelf
theorem own_ge2 {w:World} {base:Nat} {e:TypeId} {size:Nat} {v:Value} {n:Nat} {xs:List Value} (h:w.ownsRow base e size v n xs) (k:Nat) (hk:v.ownBlock=some k):base≤k:=by
 rcases h.2 with ⟨rfl,_⟩ | ⟨g,cap,cur,rfl,hb,_⟩
 ·cases hk
 ·cases hk;exact hb
def itoaB (n:Int):ByteArray:=⟨(Lib.itoa n).toArray⟩
def joinB (xs:List ByteArray) (sep:ByteArray):ByteArray:=⟨(Lib.join (xs.map (·.data.toList)) sep.data.toList).toArray⟩
theorem itoa_call (n:Int) (h:I64 n) (w:World) (hT:Tabs w):Calls Tryz.prog 35 #[.int .i64 n] w fun e w'=>e=.returned (.string (itoaB n))∧Below w.heap.size w w' :=
 (Tryz.strconv_Itoa n h.1 h.2 w hT.2).mono fun e w' ⟨he,k,os,hw⟩=>⟨he,by rw[hw];exact Lib.below_grow _ w (Nat.le_refl _) k os⟩
theorem join_len (l:List (List UInt8)) (sep:List UInt8) (B:Nat) (h:∀x∈l,x.length≤B):(Lib.join l sep).length≤l.length * (B+sep.length):=by
 cases l with
 | nil=>simp[Lib.join_nil]
 | cons x r =>
   rw[Lib.join_cons,List.length_append,Lib.joinTail_length]
   have h1:=h x (by simp)
   have h2:Lib.lens r≤r.length * B:=by
    have key:∀r:List (List UInt8),(∀x∈r,x.length≤B)→Lib.lens r≤r.length * B:=by
     intro r
     induction r with
     | nil=>intro _;simp[Lib.lens]
     | cons y r ih =>
       intro h
       have h2:=ih (fun x hx=>h x (by simp[hx]))
       have h3:=h y (by simp)
       simp only[Lib.lens,List.map_cons,List.sum_cons,List.length_cons,Nat.add_mul] at h2 ⊢
       omega
    exact key r fun x hx=>h x (by simp[hx])
   simp only[List.length_cons]
   rw[Nat.add_mul,Nat.mul_add,Nat.mul_comm sep.length]
   omega
theorem itoaB_len (n:Int) (h:I64 n):(itoaB n).data.toList.length≤21:=by
 have:=Lib.itoa_length_le n h.1 h.2
 simpa [itoaB] using this
theorem itoaB_size (n:Int) (h:I64 n):(itoaB n).size≤21:=by
 have:=itoaB_len n h
 simpa using this
theorem joinB_size (xs:List ByteArray) (sep:ByteArray) (L:Nat) (h:∀x∈xs,x.data.toList.length≤L):(joinB xs sep).size≤xs.length * (L+sep.data.toList.length):=by
 have:=join_len (xs.map (·.data.toList)) sep.data.toList L (fun y hy=>by
  rw[List.mem_map] at hy
  obtain⟨x,hx1,rfl⟩:=hy
  exact h x hx1)
 rw[List.length_map] at this
 show(joinB xs sep).data.size≤_
 simpa [joinB] using this
theorem infoStr:(Tryz.prog.info? 9).map (fun i=>(i.zero,i.size,i.bytes))=some (some (.string ByteArray.empty),1,16):=by kernel_rfl
theorem strRow_join {w:World} {B n T:Nat} {v:Value} {xs:List ByteArray} (h:w.ownsRow B T 1 v n (xs.map Value.string)) (hl:n=xs.length) (h0:0<n) (L:Nat) (hx:∀x∈xs,x.data.toList.length≤L) (sep:ByteArray) (hN:n * (L+sep.data.toList.length+1)≤140737488355328) :
 ∃g cap,v=.slice (some ⟨g,0,none⟩) n cap∧∀w',Below w.heap.size w w'→Calls Tryz.prog 33 #[v,.string sep] w' fun e w2=>e=.returned (.string (joinB xs sep))∧Below w'.heap.size w' w2:=by
 have hc:=fun g=>h.cells (g:=g)
 rcases h.2 with ⟨rfl,h1⟩ | ⟨g,cap,cur,rfl,hb,hg,hn,_⟩
 ·omega
 ·refine⟨g,cap,rfl,fun w' hw=>?_⟩
  subst hl
  refine Tryz.strings_Join g 0 cap xs sep w' (fun j x hj=>?_) (by have:=ltOf hg;have:=hw.size;omega) ?_ hn ?_
  ·have h2:=hc g rfl j (.string x) (by simp[hj])
   rw[show(⟨g,0,none⟩:Addr).add j=⟨g,0+j,none⟩ by unfold Addr.add;split<;>simp_all] at h2
   exact(World.cell?_of_block (w:=w) (a:=⟨g,0+j,none⟩) (hw.block g (ltOf hg))).trans h2
  ·rw[Nat.mul_add] at hN;omega
  ·have:=join_len (xs.map (·.data.toList)) sep.data.toList L (fun y hy=>by
    rw[List.mem_map] at hy
    obtain⟨x,hx1,rfl⟩:=hy
    exact hx x hx1)
   rw[List.length_map] at this
   rw[Nat.mul_add,Nat.mul_one] at hN
   omega
def stampT (d:St):ByteArray:=itoaB d.e++⟨#[47]⟩++joinB (d.ps.map itoaB) ⟨#[46]⟩
def stampR (d:St):Value:=if stampE d=0 then .tuple #[.string (stampT d),.int .i64 0] else .tuple #[.string ⟨#[]⟩,.int .i64 (stampE d)]
theorem stampText_call (c:SC) (d:St) (w:World) (hx:IsSt (· < w.heap.size) w c d) (hT:Tabs w):Calls Tryz.prog 76 #[c.v] w fun e w'=>e=.returned (stampR d)∧Below w.heap.size w w':=by
 obtain⟨ti,hi,hz0,hz1,hz2⟩:=info_parts infoStr
 obtain⟨ce,a,n,cap⟩:=c
 obtain⟨e0,ps⟩:=d
 obtain⟨he0,re,hps⟩:=hx
 dsimp only[SC.v] at hps he0 re ⊢
 subst he0
 obtain⟨w1,hw1⟩:∃w1,w1=w.alloc (.cells #[.int .i64 ce,.slice a n cap] 39):=⟨_,rfl⟩
 have hb1:Below w.heap.size w w1:=by rw[hw1];exact(Below.refl _ w).alloc (Nat.le_refl _) _
 have hbox:w1.heap[w.heap.size]?=some (.cells #[.int .i64 ce,.slice a n cap] 39 (0,0)):=by rw[hw1];exact heap_alloc_new w _
 obtain⟨u,hu⟩:∃u,u=stampE ⟨ce,ps⟩:=⟨_,rfl⟩
 have HSC:Hid (Calls Tryz.prog 139 #[.agg #[.int .i64 ce,.slice a n cap]] w1 fun e w2=>e=.returned (.int .i64 u)∧Below w1.heap.size w1 w2):=hid (by rw[hu];exact stampCheck_call _ ⟨ce,a,n,cap⟩ ⟨ce,ps⟩ w w1 ⟨rfl,re,hps⟩ (fun b hb=>⟨Nat.lt_of_lt_of_le hb hb1.size,hb1.block b hb⟩))
 have HX:Hid (∀w2,Below w1.heap.size w1 w2→(w2.cell? ⟨w.heap.size,0,none⟩=some (.int .i64 ce)∧w2.cell? ⟨w.heap.size,1,none⟩=some (.slice a n cap))∧Below w.heap.size w w2∧IsInts (· < w2.heap.size) w2 a n cap ps∧Tabs w2):=hid fun w2 h=>by
  have g:=heapExt h hbox
  have hb:=hb1.trans (h.mono hb1.size)
  exact⟨⟨cellOf g 0,cellOf g 1⟩,hb,hps.same fun b q=>⟨Nat.lt_of_lt_of_le q hb.size,hb.block b q⟩,hT.below hb⟩
 rw[hw1] at HSC HX
 have HL:=hid hps.len
 have HR:=hid hps.rng
 have RE:=hid re
 have HU:=hid hu
 clear hps hT hbox hb1 hw1 hu re
 go_enter Tryz.func76,Tryz.ntmps76
 by_cases q1:u=0
 ·subst q1
  have hfin:=hid (show stampR ⟨ce,ps⟩=.tuple #[.string (stampT ⟨ce,ps⟩),.int .i64 0] by rw[stampR,←HU.out,if_pos rfl])
  have hn0:0<n:=by
   rcases Nat.eq_zero_or_pos n with h | h
   ·have h0:ps=[]:=List.eq_nil_of_length_eq_zero (by rw[←HL.out];exact h)
    have h1:=HU.out
    rw[h0,stampE] at h1
    dsimp only at h1
    split at h1
    ·simp at h1
    ·simp at h1
   ·exact h
  have hn512:n≤512:=by
   rcases Nat.lt_or_ge 512 n with h | h
   ·have h1:=HU.out
    rw[stampE] at h1
    dsimp only at h1
    have h2:=HL.out
    split at h1
    ·simp at h1
    ·split at h1
     ·simp at h1
     ·rw[if_pos (by omega)] at h1;simp at h1
   ·exact h
  go_wp2_with (go_at_call 139;refine HSC.out.mono ?_;rintro e w2 ⟨rfl,hb2⟩;obtain⟨⟨j0,j1⟩,hbw2,hps2,hT2⟩:=HX.out _ hb2;have HP2:=hid hps2;have HT2:=hid hT2;clear hps2 hT2 hb2)
  go_loopw [5,16] (fun v i wr=>∃k:Nat,k≤n∧i=.int .i64 k∧wr.ownsRow w2.heap.size 9 1 v k (((ps.take k).map itoaB).map Value.string)∧Below w2.heap.size w2 wr) (fun _ i _=>n-(intOf i).toNat)
  case atStart=>exact⟨0,Nat.zero_le _,rfl,World.ownsRow_nil _ _ _ _,Below.refl _ _⟩
  case round =>
   obtain⟨k,hk,rfl,hown,hbr⟩:=hrel
   have HBR:=hid hbr
   by_cases hlt:k<n
   ·obtain⟨b,o,rfl,hb,hc⟩:=HP2.out.slot hn0
    have hkl:k<ps.length:=by have:=HL.out;omega
    have hc0:=(World.cell?_of_block (w:=w2) (a:=⟨b,o+k,none⟩) (hbr.block b hb)).trans (hc k hkl)
    clear hc
    obtain⟨z,hz⟩:∃z,z=ps[k]:=⟨_,rfl⟩
    rw[←hz] at hc0
    have hit:=hid (itoa_call z (by rw[hz];exact HR.out _ (List.getElem_mem _)) wr (HT2.out.below hbr))
    have HZ:=hid hz
    clear hz
    have hlt':(k:Int)<(n:Int):=by omega
    have HOWN:=hid hown
    clear hown hbr
    have hcap1:k+1≤maxLen:=by unfold maxLen;omega
    have hcap2:(k+1) * 16≤140737488355328:=by omega
    go_wp2_with (first
     | (go_at_call 35;refine hit.out.mono ?_;rintro e w3 ⟨rfl,hb3⟩)
     | (at_builtin;refine wpList_append_own_at _ (by rfl) _ _ 75 (by rfl) w2.heap.size 9 ti _ 1 16 Tryz.underlying75 hi hz0 hz1 hz2 rfl (by omega) _ _ _ (by rfl) ((ownExt HOWN.out hb3).alloc _) ⟨w3.heap.size,0,none⟩ 1 1 [.string (itoaB z)] (by rfl) (by rfl) (cell_one_new _ _ _) (by simp[Value.oneCell']) hcap1 hcap2 (by have:=HBR.out.size;have:=hb3.size;simp;omega) ?_;intro v' w5 hown' hgrow hnil hloc;have HO2:=hid hown';have HG:=hid hgrow;clear hown' hgrow hnil hloc))
    go_roundw
    case rel =>
     refine⟨k+1,by omega,by go_num,?_,?_⟩
     ·have h:=HO2.out
      rw[show((ps.take (k+1)).map itoaB).map Value.string=((ps.take k).map itoaB).map Value.string++[.string (itoaB z)] by rw[List.take_succ_eq_append_getElem hkl,HZ.out,List.map_append,List.map_append];rfl]
      exact h
     ·have h3:=HBR.out.trans (hb3.mono HBR.out.size)
      refine(h3.alloc h3.size _).grown HG.out (by have:=h3.size;simp;omega) fun r hr=>?_
      exact own_ge2 HOWN.out r hr
    case measure=>simp[intOf];omega
   ·obtain rfl:k=n:=by omega
    clear hlt
    rw[List.take_of_length_le (by have:=HL.out;omega)] at hown
    obtain⟨g,cap',rfl,hj⟩:=strRow_join hown (by rw[List.length_map];exact HL.out) hn0 21 (fun x hx=>by
     rw[List.mem_map] at hx
     obtain⟨y,hy,rfl⟩:=hx
     exact itoaB_len y (HR.out y hy)) ⟨#[46]⟩ (by simp;omega)
    have HJ:=hid hj
    have hit:=hid (itoa_call ce RE.out wr (HT2.out.below hbr))
    have s1:(itoaB ce).size+1≤9223372036854775807:=by have:=itoaB_size ce RE.out;omega
    have s2:(itoaB ce).size+1+(joinB (ps.map itoaB) ⟨#[46]⟩).size≤9223372036854775807:=by
     have h1:=itoaB_size ce RE.out
     have h2:=joinB_size (ps.map itoaB) ⟨#[46]⟩ 21 (fun x hx=>by
      rw[List.mem_map] at hx
      obtain⟨y,hy,rfl⟩:=hx
      exact itoaB_len y (HR.out y hy))
     rw[List.length_map,←HL.out] at h2
     simp at h2
     omega
    have c0:=(World.cell?_of_block (w:=w2) (a:=⟨w.heap.size,0,none⟩) (hbr.block _ (World.block_lt_of_cell? _ _ j0))).trans j0
    clear hj hown hbr
    go_wp2_with (first
     | (go_at_call 35;refine hit.out.mono ?_;rintro e w3 ⟨rfl,hb3⟩)
     | (go_at_call 33;refine(HJ.out _ hb3).mono ?_;rintro e w4 ⟨rfl,hb4⟩))
    have hbz:Below w.heap.size w w4:=by
     have h1:=hbw2.trans (HBR.out.mono hbw2.size)
     have h2:=h1.trans (hb3.mono h1.size)
     exact h2.trans (hb4.mono h2.size)
    exact bodyPost_ret (v:=.tuple #[.string (stampT ⟨ce,ps⟩),.int .i64 0]) (by simp[results,Tryz.results76,go_sem,stampT]) rfl ⟨by rw[hfin.out],hbz⟩
 ·have hfin:=hid (show stampR ⟨ce,ps⟩=.tuple #[.string ⟨#[]⟩,.int .i64 u] by rw[stampR,←HU.out,if_neg q1])
  go_wp2_with (go_at_call 139;refine HSC.out.mono ?_;rintro e w2 ⟨rfl,hb2⟩;obtain⟨⟨j0,j1⟩,hbw2,hps2,hT2⟩:=HX.out _ hb2;clear hps2 hT2 hb2)
  exact bodyPost_ret (v:=.tuple #[.string ⟨#[]⟩,.int .i64 u]) (by simp[results,Tryz.results76,go_sem]) rfl ⟨by rw[hfin.out],hbw2⟩
end
section
open Go Go.RowKit Go.Shelf
theorem limited_call (s:ByteArray) (hs:s.size≤65536) (w:World):Calls Tryz.prog 73 #[.string s] w fun e w'=>e=.returned (.tuple #[.string s,.int .i64 0])∧w=w':=by
 have hs':(s.size:Int)≤65536:=by omega
 go_enter Tryz.func73,Tryz.ntmps73
 go_wp2
 exact bodyPost_ret (v:=.tuple #[.string s,.int .i64 0]) (by simp[results,Tryz.results73,go_sem]) rfl ⟨rfl,rfl⟩
theorem textNull_call (s i:Int) (t:ByteArray) (la:Option Addr) (ll lc:Nat) (fa:Option Addr) (fl fc:Nat) (w:World) :
 Calls Tryz.prog 74 #[.agg #[.int .i64 0,.int .i64 i,.int .i64 s,.string t,.slice la ll lc,.slice fa fl fc]] w fun e w'=>e=.returned (.string ⟨#[110,117,108,108]⟩)∧Below w.heap.size w w':=by
 go_enter Tryz.func74,Tryz.ntmps74
 go_wp2
 go_ret
 exact⟨rfl,(Below.refl _ w).alloc (Nat.le_refl _) _⟩
end
section
open Go Go.RowKit Go.Shelf
attribute [local go_sem ↓] Go.wp_at_zero Go.wp_at_succ
def recT (xs:List ByteArray):ByteArray:=⟨#[123]⟩++joinB xs ⟨#[44,32]⟩++⟨#[125]⟩
theorem join_of (v:Value) (xs:List ByteArray) (w:World) (h:∀w',Below w.heap.size w w'→Calls Tryz.prog 33 #[v,.string ⟨#[44,32]⟩] w' fun e w2=>e=.returned (.string (joinB xs ⟨#[44,32]⟩))∧Below w'.heap.size w' w2) :
 Calls Tryz.prog 138 #[v] w fun e w'=>e=.returned (.string (joinB xs ⟨#[44,32]⟩))∧Below w.heap.size w w':=by
 have H:=hid (h w (Below.refl _ w))
 clear h
 go_enter Tryz.func138,Tryz.ntmps138
 go_wp2_with (go_at_call 33;refine H.out.mono ?_;rintro e w' ⟨rfl,hb⟩)
 go_ret
 exact⟨rfl,hb⟩
theorem textRec_call (i0 s0:Int) (t0:ByteArray) (la:Option Addr) (ll lc:Nat) (fa:Option Addr) (fl fc:Nat) (l:List Val) (ns:List ByteArray) (fs:List Val) (w:World) (hd:IsVal (· < w.heap.size) w ⟨9,i0,s0,t0,la,ll,lc,fa,fl,fc⟩ (.mk 9 i0 s0 t0 l ns fs))
 (xs:List ByteArray) (tx:Nat→ByteArray) (hfl0:0<fl) (hxl:xs.length=fl) (hxe:∀j (h:j<xs.length) (hn:j<ns.length),xs[j]=ns[j]++⟨#[58,32]⟩++tx j)
 (L:Nat) (hxL:∀x∈xs,x.data.toList.length≤L) (hLN:fl * (L+3)≤140737488355328)
 (htx:∀j (h:j<fs.length) (x:VC) (w':World),Below w.heap.size w w'→IsVal (· < w'.heap.size) w' x fs[j]→Calls Tryz.prog 74 #[.agg #[.int .i64 x.k,.int .i64 x.i,.int .i64 x.s,.string x.t,.slice x.la x.ll x.lc,.slice x.fa x.fl x.fc]] w' fun e w2=>e=.returned (.string (tx j))∧Below w'.heap.size w' w2) :
 Calls Tryz.prog 74 #[.agg #[.int .i64 9,.int .i64 i0,.int .i64 s0,.string t0,.slice la ll lc,.slice fa fl fc]] w fun e w'=>e=.returned (.string (recT xs))∧Below w.heap.size w w':=by
 obtain⟨⟨_,_,_,_,hok,hll,hfl,hns⟩,hv,hf⟩:=hd
 dsimp only at hll hfl hv hf
 have hreachf:fl * 104≤140737488351232:=hok.f
 have HF:=hid hfl;clear hfl hll hv
 have HNS:=hid hns;clear hns
 clear hok
 obtain⟨ti,hi,hz0,hz1,hz2⟩:=info_parts infoStr
 obtain⟨w0,hw0⟩:∃w0,w0=w.alloc (.cells #[.int .i64 9,.int .i64 i0,.int .i64 s0,.string t0,.slice la ll lc,.slice fa fl fc] 36):=⟨_,rfl⟩
 have hb0:Below w.heap.size w w0:=by rw[hw0];exact(Below.refl _ w).alloc (Nat.le_refl _) _
 have HB0:=hid hb0;clear hb0
 have HW0:=hid hw0;clear hw0
 have HXE:=hid hxe;clear hxe
 have HXL:=hid hxL;clear hxL
 have HXN:=hid hxl;clear hxl
 have HTXS:=hid htx;clear htx
 have HLN:=hid hLN;clear hLN
 go_enter Tryz.func74,Tryz.ntmps74
 go_wp2
 rw[←HW0.out]
 go_loopw [3,97] (fun vv i wr=>∃(k:Nat) (v:Value),v=vv∧k≤fl∧i=.int .i64 k∧wr.ownsRow w0.heap.size 9 1 v k ((xs.take k).map Value.string)∧Below w0.heap.size w0 wr) (fun _ i _=>fl-(intOf i).toNat)
 case atStart=>exact⟨0,_,rfl,Nat.zero_le _,rfl,World.ownsRow_nil _ _ _ _,Below.refl _ _⟩
 case round =>
  obtain⟨k,v,rfl,hk,rfl,hown,hbr⟩:=hrel
  have HBR:=hid hbr
  have hbelw:Below w.heap.size w wr:=HB0.out.trans (hbr.mono HB0.out.size)
  have HBW:=hid hbelw
  by_cases hlt:k<fl
  ·rcases hf with rfl | ⟨b,o,rfl,hb,hvs⟩
   ·exfalso;have:=HF.out;simp at this;omega
   ·have hkl:k<fs.length:=by have:=HF.out;omega
    have hkn:k<ns.length:=by have:=HNS.out;omega
    have hkx:k<xs.length:=by have:=HXN.out;omega
    obtain⟨⟨hnm,hnz⟩,x,hx,hxv⟩:=hvs.get HNS.out k hkl hkn
    obtain⟨nm,hnmd⟩:∃nm,nm=ns[k]:=⟨_,rfl⟩
    rw[←hnmd] at hnm hnz
    obtain⟨tz,htz⟩:∃tz,tz=tx k:=⟨_,rfl⟩
    have HXK:=hid (show xs[k]=nm++⟨#[58,32]⟩++tz by rw[HXE.out k hkx hkn,hnmd,htz])
    have hxkz:nm.size+2+tz.size≤L:=by
     have h1:=HXL.out xs[k] (List.getElem_mem _)
     rw[HXK.out] at h1
     simp at h1
     omega
    have hL47:L≤140737488355328:=by have h1:=HLN.out;rw[Nat.mul_add] at h1;have h2:=Nat.le_mul_of_pos_left L hfl0;omega
    have s1:(9223372036854775807<nm.size+2)=False:=eq_false (by omega)
    have s2:(9223372036854775807<nm.size+2+tz.size)=False:=eq_false (by omega)
    clear hxkz hL47
    have hx':=hx.same (w':=wr) (hbelw.block b hb)
    have hnm':wr.cell? ⟨b,o+k * 7,none⟩=some (.string nm):=(World.cell?_of_block (w:=w) (a:=⟨b,o+k * 7,none⟩) (hbelw.block b hb)).trans hnm
    obtain⟨hx0,hx1,hx2,hx3,hx4,hx5⟩:=hx'
    have hlt':(k:Int)<(fl:Int):=by omega
    have hsz:=hbelw.size
    obtain⟨wa,hwa⟩:∃wa,wa=wr.alloc (Obj.cells #[Value.string nm,Value.int IntKind.i64 x.k,Value.int IntKind.i64 x.i,Value.int IntKind.i64 x.s,Value.string x.t,Value.slice x.la x.ll x.lc,Value.slice x.fa x.fl x.fc] 202 (0,0)):=⟨_,rfl⟩
    have hbwa:Below wr.heap.size wr wa.drew:=by rw[hwa];exact((Below.refl _ wr).alloc (Nat.le_refl _) _).drew
    have HTX:=hid (htz▸HTXS.out k hkl x wa.drew (hbelw.trans (hbwa.mono hsz)) (hxv.same fun b hb=>⟨by have:=hbwa.size;omega,(hbwa.block b (by omega)).trans (hbelw.block b hb)⟩))
    have p2:wa.drew.heap[wr.heap.size]?=some (Obj.cells #[Value.string nm,Value.int IntKind.i64 x.k,Value.int IntKind.i64 x.i,Value.int IntKind.i64 x.s,Value.string x.t,Value.slice x.la x.ll x.lc,Value.slice x.fa x.fl x.fc] 202 (0,0)):=by rw[hwa];exact heap_alloc_new wr _
    have hwas:wr.heap.size≤wa.drew.heap.size:=hbwa.size
    have hwas':wr.heap.size<wa.heap.size:=by rw[hwa];simp
    have P2:=hid p2;clear p2
    have HWA:=hid hwa;clear hwa
    have HC:=hid (fun (w':World) (h:w'.heap[wr.heap.size]?=some (Obj.cells #[Value.string nm,Value.int IntKind.i64 x.k,Value.int IntKind.i64 x.i,Value.int IntKind.i64 x.s,Value.string x.t,Value.slice x.la x.ll x.lc,Value.slice x.fa x.fl x.fc] 202 (0,0))) =>
     (show w'.cell? ⟨wr.heap.size,0,none⟩=some (.string nm)∧w'.cell? ⟨wr.heap.size,1,none⟩=some (.int .i64 x.k)∧w'.cell? ⟨wr.heap.size,2,none⟩=some (.int .i64 x.i)∧w'.cell? ⟨wr.heap.size,3,none⟩=some (.int .i64 x.s)∧w'.cell? ⟨wr.heap.size,4,none⟩=some (.string x.t)∧w'.cell? ⟨wr.heap.size,5,none⟩=some (.slice x.la x.ll x.lc)∧w'.cell? ⟨wr.heap.size,6,none⟩=some (.slice x.fa x.fl x.fc) from⟨cellOf h 0,cellOf h 1,cellOf h 2,cellOf h 3,cellOf h 4,cellOf h 5,cellOf h 6⟩))
    have hcap1:k+1≤maxLen:=by unfold maxLen;omega
    have hcap2:(k+1) * 16≤140737488355328:=by omega
    have hnex:some wr.heap.size≠v.ownBlock:=fun e=>by have:=hown.lt _ e.symm;omega
    have HOWN:=hid hown;clear hown
    clear hx hnm hxv hnmd htz hbr hbelw
    go_wp2
    rw[←HWA.out]
    refine wp_region_split 10 (fun w'=>w'.heap[wr.heap.size]?=some (Obj.cells #[Value.string nm,Value.int IntKind.i64 x.k,Value.int IntKind.i64 x.i,Value.int IntKind.i64 x.s,Value.string x.t,Value.slice x.la x.ll x.lc,Value.slice x.fa x.fl x.fc] 202 (0,0))) (by kernel_rfl) (by kernel_rfl) (by kernel_rfl) (by decide) (P2.out) (fun hS=>?_)
    simp only[List.take_succ_cons,List.take_zero,List.drop_succ_cons,List.drop_zero]
    refine tkQ 0 (v:=?_) ?_ hS ?_;rotate_left;· intro w' hw';have hcells:=HC.out w' hw';go_simp;(try with_reducible rfl)
    simp only[Act.put,pt1,pt2,pt3,pt4,pt5,pt6]
    refine tkQ 1 (v:=?_) ?_ hS ?_;rotate_left;· intro w' hw';have hcells:=HC.out w' hw';go_simp;(try with_reducible rfl)
    simp only[Act.put,pt1,pt2,pt3,pt4,pt5,pt6]
    refine tkQ 2 (v:=?_) ?_ hS ?_;rotate_left;· intro w' hw';have hcells:=HC.out w' hw';go_simp;(try with_reducible rfl)
    simp only[Act.put,pt1,pt2,pt3,pt4,pt5,pt6]
    refine tkQ 3 (v:=?_) ?_ hS ?_;rotate_left;· intro w' hw';have hcells:=HC.out w' hw';go_simp;(try with_reducible rfl)
    simp only[Act.put,pt1,pt2,pt3,pt4,pt5,pt6]
    refine tkQ 4 (v:=?_) ?_ hS ?_;rotate_left;· intro w' hw';have hcells:=HC.out w' hw';go_simp;(try with_reducible rfl)
    simp only[Act.put,pt1,pt2,pt3,pt4,pt5,pt6]
    refine tkQ 5 (v:=?_) ?_ hS ?_;rotate_left;· intro w' hw';have hcells:=HC.out w' hw';go_simp;(try with_reducible rfl)
    simp only[Act.put,pt1,pt2,pt3,pt4,pt5,pt6]
    refine wpAnyH_ready (rs:=[6]) (by kernel_rfl) (by simp) ?_
    refine arQ fun K hK=>?_
    go_simp;go_at_call 74;refine HTX.out.mono ?_
    rintro e w1 ⟨rfl,hb1⟩
    have q2:=hid (heapExt hb1 P2.out)
    have hs1:=hb1.size
    simp only[World.size_drew] at hs1
    refine hK.out _ _ (q2.out) (fun hS=>?_)
    clear hK K
    (try simp only[Act.put,pt1,pt2,pt3,pt4,pt5,pt6])
    refine tkQ 7 (v:=?_) ?_ hS ?_;rotate_left;· intro w' hw';have hcells:=HC.out w' hw';go_simp;(try with_reducible rfl)
    simp only[Act.put,pt1,pt2,pt3,pt4,pt5,pt6]
    refine wpAnyH_ready (rs:=[8]) (by kernel_rfl) (by simp) ?_
    refine arQ fun K hK=>?_
    go_simp
    refine hK.out _ _ (heapAlloc _ q2.out) (fun hS=>?_)
    clear hK K
    (try simp only[Act.put,pt1,pt2,pt3,pt4,pt5,pt6])
    refine wpAnyH_ready (rs:=[9]) (by kernel_rfl) (by simp) ?_
    refine arQ fun K hK=>?_
    refine step_append_lies _ (by rfl) _ _ _ (by rfl) w0.heap.size 9 ti _ 1 16 Tryz.underlying75 hi hz0 hz1 hz2 rfl (by omega) v k ((xs.take k).map Value.string) (by rfl) ((ownExt HOWN.out (hbwa.trans (hb1.mono hwas))).alloc _) ⟨w1.heap.size,0,none⟩ 1 1 [.string (nm++⟨#[58,32]⟩++tz)] (by rfl) (by rfl) (World.news_of_block (heap_alloc_new w1 _)) (by simp[Value.oneCell']) (by omega) hcap1 hcap2 (by have:=HBR.out.size;simp;omega) (w1.heap.size+1) (by simp) ?_
    intro gg cap w2 hown2 hgrow hat hlt2
    have r2:=hid (heapGrown hgrow (heapAlloc _ q2.out) hnex)
    refine hK.out _ _ (r2.out) (fun hS=>?_)
    clear hK K
    (try simp only[Act.put,pt1,pt2,pt3,pt4,pt5,pt6])
    refine wpAnyH_done (by kernel_rfl) ?_ _
    (try dsimp only)
    clear hS HC
    go_wp2
    go_roundw
    case rel =>
     have hst:Below w0.heap.size w0 wa.drew:=HBR.out.trans (hbwa.mono HBR.out.size)
     have hst2:Below w0.heap.size w0 w1:=hst.trans (hb1.mono hst.size)
     refine⟨k+1,_,rfl,by omega,by go_num,?_,(hst2.alloc hst2.size _).grown hgrow (by have:=hst2.size;simp;omega) (fun r e=>own_ge2 HOWN.out r e)⟩
     rw[List.take_succ_eq_append_getElem hkx,HXK.out]
     simpa using hown2
    case measure=>simp[intOf];omega
  ·obtain rfl:k=fl:=by omega
   clear hlt
   rw[List.take_of_length_le (by have:=HXN.out;omega)] at hown
   obtain⟨g,cap',rfl,hj⟩:=strRow_join hown HXN.out.symm hfl0 L HXL.out ⟨#[44,32]⟩ HLN.out
   have HJ:=hid hj
   have hjoin:Hid (Calls Tryz.prog 138 #[.slice (some ⟨g,0,none⟩) k cap'] wr fun e w'=>e=.returned (.string (joinB xs ⟨#[44,32]⟩))∧Below wr.heap.size wr w'):=hid (join_of _ _ _ HJ.out)
   have hjz:=joinB_size xs ⟨#[44,32]⟩ L HXL.out
   rw[HXN.out] at hjz
   have hL3:=HLN.out
   have hjz2:(joinB xs ⟨#[44,32]⟩).size≤140737488355328:=by simp at hjz;rw[Nat.mul_add] at hL3 hjz;omega
   have s1:1+(joinB xs ⟨#[44,32]⟩).size≤9223372036854775807:=by omega
   have s2:1+(joinB xs ⟨#[44,32]⟩).size+1≤9223372036854775807:=by omega
   clear hj hown hbr hjz hL3 hjz2
   go_wp2_with (go_at_call 138;refine hjoin.out.mono ?_;rintro e w3 ⟨rfl,hb3⟩)
   go_ret
   exact⟨rfl,HBW.out.trans (hb3.mono HBW.out.size)⟩
end
section
open Go Go.RowKit Go.Shelf
theorem stampT_size (d:St) (h1:I64 d.e) (h2:∀x∈d.ps,I64 x) (h3:d.ps.length≤512):(stampT d).size≤20000:=by
 have a1:=itoaB_size d.e h1
 have a2:=joinB_size (d.ps.map itoaB) ⟨#[46]⟩ 21 (fun x hx=>by
  rw[List.mem_map] at hx
  obtain⟨y,hy,rfl⟩:=hx
  exact itoaB_len y (h2 y hy))
 rw[List.length_map,show(⟨#[46]⟩:ByteArray).data.toList.length=1 from rfl] at a2
 rw[stampT,ByteArray.size_append,ByteArray.size_append,show(⟨#[47]⟩:ByteArray).size=1 from rfl]
 omega
theorem stampE_len {d:St} (h:stampE d=0):d.ps.length≤512:=by
 unfold stampE at h
 split at h
 ·simp at h
 ·split at h
  ·simp at h
  ·split at h
   ·simp at h
   ·omega
end
end Go.Proofs.YtmgpghoamapfgaaGreatDoor
