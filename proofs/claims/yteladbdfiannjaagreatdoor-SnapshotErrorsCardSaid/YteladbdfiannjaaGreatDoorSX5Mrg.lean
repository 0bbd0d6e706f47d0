/- A part. -/
import Derived.Test.YteladbdfiannjaaGreatDoorSX4Mrg
import Derived.Lib.ItoaLen
import Derived.Lib.AppendIntMem
import Derived.Maps.AppendAt
namespace Go.Proofs.YteladbdfiannjaaGreatDoor
set_option linter.unusedVariables false
set_option maxRecDepth 100000
set_option maxHeartbeats 64000000
set_option linter.unusedSimpArgs false
section
open Go Go.RowKit Go.Shelf
theorem mO {w:World} {base:Nat} {e:TypeId} {size:Nat} {v:Value} {n:Nat} {xs:List Value} (h:w.ownsRow base e size v n xs) (k:Nat) (hk:v.ownBlock=some k):base≤k:=by
 rcases h.2 with ⟨rfl,_⟩ | ⟨g,cap,cur,rfl,hb,_⟩
 ·cases hk
 ·cases hk;exact hb
def aF (n:Int):ByteArray:=⟨(Lib.itoa n).toArray⟩
def bG (xs:List ByteArray) (sep:ByteArray):ByteArray:=⟨(Lib.join (xs.map (·.data.toList)) sep.data.toList).toArray⟩
theorem bD (n:Int) (h:I64 n) (w:World) (hT:Tabs w):Calls Tryz.prog 80 #[.int .i64 n] w fun e w'=>e=.returned (.string (aF n))∧Below w.heap.size w w' :=
 (Tryz.strconv_Itoa n h.1 h.2 w hT.2).mono fun e w' ⟨he,k,os,hw⟩=>⟨he,by rw[hw];exact Lib.below_grow _ w lr k os⟩
theorem nN (l:List (List UInt8)) (sep:List UInt8) (B:Nat) (h:∀x∈l,x.length≤B):(Lib.join l sep).length≤l.length * (B+sep.length):=by
 cases l with
 | nil=>simp[Lib.join_nil]
 | cons x r =>
   rw[Lib.join_cons,List.length_append,Lib.joinTail_length]
   have h1:=h x (by simp)
   have h2:Lib.lens r≤r.length * B:=by
    have key:∀r:List (List UInt8),(∀x∈r,x.length≤B)→Lib.lens r≤r.length * B:=by
     intro r
     induction r with
     | nil=>intro _;simp[Lib.lens]
     | cons y r ih =>
       intro h
       have h2:=ih (fun x hx=>h x (by simp[hx]))
       have h3:=h y (by simp)
       simp only[Lib.lens,List.map_cons,List.sum_cons,List.length_cons,Nat.add_mul] at h2 ⊢
       omega
    exact key r fun x hx=>h x (by simp[hx])
   simp only[List.length_cons]
   rw[Nat.add_mul,Nat.mul_add,Nat.mul_comm sep.length]
   omega
theorem fW (n:Int) (h:I64 n):(aF n).data.toList.length≤21:=by
 have:=Lib.itoa_length_le n h.1 h.2
 simpa [aF] using this
theorem bN (n:Int) (h:I64 n):(aF n).size≤21:=by
 have:=fW n h
 simpa using this
theorem eR (xs:List ByteArray) (sep:ByteArray) (L:Nat) (h:∀x∈xs,x.data.toList.length≤L):(bG xs sep).size≤xs.length * (L+sep.data.toList.length):=by
 have:=nN (xs.map (·.data.toList)) sep.data.toList L (fun y hy=>by
  rw[List.mem_map] at hy
  obtain⟨x,hx1,rfl⟩:=hy
  exact h x hx1)
 rw[List.length_map] at this
 show(bG xs sep).data.size≤_
 simpa [bG] using this
theorem lG:(Tryz.prog.info? 9).map (fun i=>(i.zero,i.size,i.bytes))=some (some (.string ByteArray.empty),1,16):=by kernel_rfl
theorem gO {w:World} {B n T:Nat} {v:Value} {xs:List ByteArray} (h:w.ownsRow B T 1 v n (xs.map Value.string)) (hl:n=xs.length) (h0:0<n) (L:Nat) (hx:∀x∈xs,x.data.toList.length≤L) (sep:ByteArray) (hN:n * (L+sep.data.toList.length+1)≤140737488355328) :
 ∃g cap,v=.slice (some ⟨g,0,none⟩) n cap∧∀w',Below w.heap.size w w'→Calls Tryz.prog 140 #[v,.string sep] w' fun e w2=>e=.returned (.string (bG xs sep))∧Below w'.heap.size w' w2:=by
 have hc:=fun g=>h.cells (g:=g)
 rcases h.2 with ⟨rfl,h1⟩ | ⟨g,cap,cur,rfl,hb,hg,hn,_⟩
 ·omega
 ·refine⟨g,cap,rfl,fun w' hw=>?_⟩
  subst hl
  refine Tryz.strings_Join g 0 cap xs sep w' (fun j x hj=>?_) (by have:=bT hg;have:=hw.size;omega) ?_ hn ?_
  ·have h2:=hc g rfl j (.string x) (by simp[hj])
   rw[show(⟨g,0,none⟩:Addr).add j=⟨g,0+j,none⟩ by unfold Addr.add;split<;>simp_all] at h2
   exact(World.cell?_of_block (w:=w) (a:=⟨g,0+j,none⟩) (hw.block g (bT hg))).trans h2
  ·rw[Nat.mul_add] at hN;omega
  ·have:=nN (xs.map (·.data.toList)) sep.data.toList L (fun y hy=>by
    rw[List.mem_map] at hy
    obtain⟨x,hx1,rfl⟩:=hy
    exact hx x hx1)
   rw[List.length_map] at this
   rw[Nat.mul_add,Nat.mul_one] at hN
   omega
def cI (d:St):ByteArray:=aF d.e++⟨#[47]⟩++bG (d.ps.map aF) ⟨#[46]⟩
def iY (d:St):Value:=if aS d=0 then .tuple #[.string (cI d),.int .i64 0] else .tuple #[.string ⟨#[]⟩,.int .i64 (aS d)]
theorem gA (c:SC) (d:St) (w:World) (hx:IsSt (· < w.heap.size) w c d) (hT:Tabs w):Calls Tryz.prog 143 #[c.v] w fun e w'=>e=.returned (iY d)∧Below w.heap.size w w':=by
 obtain⟨ti,hi,hz0,hz1,hz2⟩:=info_parts lG
 obtain⟨ce,a,n,cap⟩:=c
 obtain⟨e0,ps⟩:=d
 obtain⟨he0,re,hps⟩:=hx
 dsimp only[SC.v] at hps he0 re ⊢
 subst he0
 obtain⟨w1,hw1⟩:∃w1,w1=w.alloc (.cells #[.int .i64 ce,.slice a n cap] 62):=⟨_,rfl⟩
 have hb1:Below w.heap.size w w1:=by rw[hw1];exact(bR w).alloc lr _
 have hbox:w1.heap[w.heap.size]?=some (.cells #[.int .i64 ce,.slice a n cap] 62 (0,0)):=by rw[hw1];exact heap_alloc_new w _
 obtain⟨u,hu⟩:∃u,u=aS ⟨ce,ps⟩:=⟨_,rfl⟩
 have HSC:Hid (Calls Tryz.prog 112 #[.agg #[.int .i64 ce,.slice a n cap]] w1 fun e w2=>e=.returned (.int .i64 u)∧Below w1.heap.size w1 w2):=hid (by rw[hu];exact bK _ ⟨ce,a,n,cap⟩ ⟨ce,ps⟩ w w1 ⟨rfl,re,hps⟩ (fun b hb=>⟨Nat.lt_of_lt_of_le hb hb1.size,hb1.block b hb⟩))
 have HX:Hid (∀w2,Below w1.heap.size w1 w2→(w2.cell? ⟨w.heap.size,0,none⟩=some (.int .i64 ce)∧w2.cell? ⟨w.heap.size,1,none⟩=some (.slice a n cap))∧Below w.heap.size w w2∧IsInts (· < w2.heap.size) w2 a n cap ps∧Tabs w2):=hid fun w2 h=>by
  have g:=aB h hbox
  have hb:=hb1.trans (h.mono hb1.size)
  exact⟨⟨aA g 0,aA g 1⟩,hb,hps.same fun b q=>⟨Nat.lt_of_lt_of_le q hb.size,hb.block b q⟩,hT.below hb⟩
 rw[hw1] at HSC HX
 have HL:=hid hps.len
 have HR:=hid hps.rng
 have RE:=hid re
 have HU:=hid hu
 clear hps hT hbox hb1 hw1 hu re
 go_enter Tryz.func143,Tryz.ntmps143
 by_cases q1:u=0
 ·subst q1
  have hfin:=hid (show iY ⟨ce,ps⟩=.tuple #[.string (cI ⟨ce,ps⟩),.int .i64 0] by rw[iY,←HU.out,if_pos rfl])
  have hn0:0<n:=by
   rcases Nat.eq_zero_or_pos n with h | h
   ·have h0:ps=[]:=List.eq_nil_of_length_eq_zero (by rw[←HL.out];exact h)
    have h1:=HU.out
    rw[h0,aS] at h1
    dsimp only at h1
    split at h1
    ·simp at h1
    ·simp at h1
   ·exact h
  have hn512:n≤512:=by
   rcases Nat.lt_or_ge 512 n with h | h
   ·have h1:=HU.out
    rw[aS] at h1
    dsimp only at h1
    have h2:=HL.out
    split at h1
    ·simp at h1
    ·split at h1
     ·simp at h1
     ·rw[if_pos (by omega)] at h1;simp at h1
   ·exact h
  go_wp2_with (go_at_call 112;refine HSC.out.mono ?_;rintro e w2 ⟨rfl,hb2⟩;obtain⟨⟨j0,j1⟩,hbw2,hps2,hT2⟩:=HX.out _ hb2;have HP2:=hid hps2;have HT2:=hid hT2;clear hps2 hT2 hb2)
  go_loopw [5,16] (fun v i wr=>∃k:Nat,k≤n∧i=.int .i64 k∧wr.ownsRow w2.heap.size 9 1 v k (((ps.take k).map aF).map Value.string)∧Below w2.heap.size w2 wr) (fun _ i _=>n-(intOf i).toNat)
  case atStart=>exact⟨0,Nat.zero_le _,rfl,World.ownsRow_nil _ _ _ _,Below.refl _ _⟩
  case round =>
   obtain⟨k,hk,rfl,hown,hbr⟩:=hrel
   have HBR:=hid hbr
   by_cases hlt:k<n
   ·obtain⟨b,o,rfl,hb,hc⟩:=HP2.out.slot hn0
    have hkl:k<ps.length:=by have:=HL.out;omega
    have hc0:=(World.cell?_of_block (w:=w2) (a:=⟨b,o+k,none⟩) (hbr.block b hb)).trans (hc k hkl)
    clear hc
    obtain⟨z,hz⟩:∃z,z=ps[k]:=⟨_,rfl⟩
    rw[←hz] at hc0
    have hit:=hid (bD z (by rw[hz];exact HR.out _ (List.getElem_mem _)) wr (HT2.out.below hbr))
    have HZ:=hid hz
    clear hz
    have hlt':(k:Int)<(n:Int):=by omega
    have HOWN:=hid hown
    clear hown hbr
    have hcap1:k+1≤maxLen:=by unfold maxLen;omega
    have hcap2:(k+1) * 16≤140737488355328:=by omega
    go_wp2_with (first
     | (go_at_call 80;refine hit.out.mono ?_;rintro e w3 ⟨rfl,hb3⟩)
     | (at_builtin;refine wpList_append_own_at _ (by rfl) _ _ 112 (by rfl) w2.heap.size 9 ti _ 1 16 Tryz.underlying112 hi hz0 hz1 hz2 rfl (by omega) _ _ _ (by rfl) ((cW HOWN.out hb3).alloc _) ⟨w3.heap.size,0,none⟩ 1 1 [.string (aF z)] (by rfl) (by rfl) (cell_one_new _ _ _) (by simp[Value.oneCell']) hcap1 hcap2 (by have:=HBR.out.size;have:=hb3.size;simp;omega) ?_;intro v' w5 hown' hgrow hnil hloc;have HO2:=hid hown';have HG:=hid hgrow;clear hown' hgrow hnil hloc))
    go_roundw
    case rel =>
     refine⟨k+1,by omega,by go_num,?_,?_⟩
     ·have h:=HO2.out
      rw[show((ps.take (k+1)).map aF).map Value.string=((ps.take k).map aF).map Value.string++[.string (aF z)] by rw[List.take_succ_eq_append_getElem hkl,HZ.out,List.map_append,List.map_append];rfl]
      exact h
     ·have h3:=HBR.out.trans (hb3.mono HBR.out.size)
      refine(h3.alloc h3.size _).grown HG.out (by have:=h3.size;simp;omega) fun r hr=>?_
      exact mO HOWN.out r hr
    case measure=>simp[intOf];omega
   ·obtain rfl:k=n:=by omega
    clear hlt
    rw[List.take_of_length_le (by have:=HL.out;omega)] at hown
    obtain⟨g,cap',rfl,hj⟩:=gO hown (by rw[List.length_map];exact HL.out) hn0 21 (fun x hx=>by
     rw[List.mem_map] at hx
     obtain⟨y,hy,rfl⟩:=hx
     exact fW y (HR.out y hy)) ⟨#[46]⟩ (by simp;omega)
    have HJ:=hid hj
    have hit:=hid (bD ce RE.out wr (HT2.out.below hbr))
    have s1:(aF ce).size+1≤9223372036854775807:=by have:=bN ce RE.out;omega
    have s2:(aF ce).size+1+(bG (ps.map aF) ⟨#[46]⟩).size≤9223372036854775807:=by
     have h1:=bN ce RE.out
     have h2:=eR (ps.map aF) ⟨#[46]⟩ 21 (fun x hx=>by
      rw[List.mem_map] at hx
      obtain⟨y,hy,rfl⟩:=hx
      exact fW y (HR.out y hy))
     rw[List.length_map,←HL.out] at h2
     simp at h2
     omega
    have c0:=(World.cell?_of_block (w:=w2) (a:=⟨w.heap.size,0,none⟩) (hbr.block _ (World.block_lt_of_cell? _ _ j0))).trans j0
    clear hj hown hbr
    go_wp2_with (first
     | (go_at_call 80;refine hit.out.mono ?_;rintro e w3 ⟨rfl,hb3⟩)
     | (go_at_call 140;refine(HJ.out _ hb3).mono ?_;rintro e w4 ⟨rfl,hb4⟩))
    have hbz:Below w.heap.size w w4:=by
     have h1:=hbw2.trans (HBR.out.mono hbw2.size)
     have h2:=h1.trans (hb3.mono h1.size)
     exact h2.trans (hb4.mono h2.size)
    exact bodyPost_ret (v:=.tuple #[.string (cI ⟨ce,ps⟩),.int .i64 0]) (by simp[results,Tryz.results143,go_sem,cI]) rfl ⟨by rw[hfin.out],hbz⟩
 ·have hfin:=hid (show iY ⟨ce,ps⟩=.tuple #[.string ⟨#[]⟩,.int .i64 u] by rw[iY,←HU.out,if_neg q1])
  go_wp2_with (go_at_call 112;refine HSC.out.mono ?_;rintro e w2 ⟨rfl,hb2⟩;obtain⟨⟨j0,j1⟩,hbw2,hps2,hT2⟩:=HX.out _ hb2;clear hps2 hT2 hb2)
  exact bodyPost_ret (v:=.tuple #[.string ⟨#[]⟩,.int .i64 u]) (by simp[results,Tryz.results143,go_sem]) rfl ⟨by rw[hfin.out],hbw2⟩
end
section
open Go Go.RowKit Go.Shelf
theorem lD (s:ByteArray) (hs:s.size≤65536) (w:World):Calls Tryz.prog 195 #[.string s] w fun e w'=>e=.returned (.tuple #[.string s,.int .i64 0])∧w=w':=by
 have hs':(s.size:Int)≤65536:=by omega
 go_enter Tryz.func195,Tryz.ntmps195
 go_wp2
 exact bodyPost_ret (v:=.tuple #[.string s,.int .i64 0]) (by simp[results,Tryz.results195,go_sem]) rfl ⟨rfl,rfl⟩
theorem oS (s i:Int) (t:ByteArray) (la:Option Addr) (ll lc:Nat) (fa:Option Addr) (fl fc:Nat) (w:World) :
 Calls Tryz.prog 196 #[.agg #[.int .i64 0,.int .i64 i,.int .i64 s,.string t,.slice la ll lc,.slice fa fl fc]] w fun e w'=>e=.returned (.string ⟨#[110,117,108,108]⟩)∧Below w.heap.size w w':=by
 go_enter Tryz.func196,Tryz.ntmps196
 go_wp2
 go_ret
 exact⟨rfl,(bR w).alloc lr _⟩
end
section
open Go Go.RowKit Go.Shelf
attribute [local go_sem ↓] Go.wp_at_zero Go.wp_at_succ
def recT (xs:List ByteArray):ByteArray:=⟨#[123]⟩++bG xs ⟨#[44,32]⟩++⟨#[125]⟩
theorem mP (v:Value) (xs:List ByteArray) (w:World) (h:∀w',Below w.heap.size w w'→Calls Tryz.prog 140 #[v,.string ⟨#[44,32]⟩] w' fun e w2=>e=.returned (.string (bG xs ⟨#[44,32]⟩))∧Below w'.heap.size w' w2) :
 Calls Tryz.prog 251 #[v] w fun e w'=>e=.returned (.string (bG xs ⟨#[44,32]⟩))∧Below w.heap.size w w':=by
 have H:=hid (h w (bR w))
 clear h
 go_enter Tryz.func251,Tryz.ntmps251
 go_wp2_with (go_at_call 140;refine H.out.mono ?_;rintro e w' ⟨rfl,hb⟩)
 go_ret
 exact⟨rfl,hb⟩
theorem rC (i0 s0:Int) (t0:ByteArray) (la:Option Addr) (ll lc:Nat) (fa:Option Addr) (fl fc:Nat) (l:List Val) (ns:List ByteArray) (fs:List Val) (w:World) (hd:IsVal (· < w.heap.size) w ⟨9,i0,s0,t0,la,ll,lc,fa,fl,fc⟩ (.mk 9 i0 s0 t0 l ns fs))
 (xs:List ByteArray) (tx:Nat→ByteArray) (hfl0:0<fl) (hxl:xs.length=fl) (hxe:∀j (h:j<xs.length) (hn:j<ns.length),xs[j]=ns[j]++⟨#[58,32]⟩++tx j)
 (L:Nat) (hxL:∀x∈xs,x.data.toList.length≤L) (hLN:fl * (L+3)≤140737488355328)
 (htx:∀j (h:j<fs.length) (x:VC) (w':World),Below w.heap.size w w'→IsVal (· < w'.heap.size) w' x fs[j]→Calls Tryz.prog 196 #[.agg #[.int .i64 x.k,.int .i64 x.i,.int .i64 x.s,.string x.t,.slice x.la x.ll x.lc,.slice x.fa x.fl x.fc]] w' fun e w2=>e=.returned (.string (tx j))∧Below w'.heap.size w' w2) :
 Calls Tryz.prog 196 #[.agg #[.int .i64 9,.int .i64 i0,.int .i64 s0,.string t0,.slice la ll lc,.slice fa fl fc]] w fun e w'=>e=.returned (.string (recT xs))∧Below w.heap.size w w':=by
 obtain⟨⟨_,_,_,_,hok,hll,hfl,hns⟩,hv,hf⟩:=hd
 dsimp only at hll hfl hv hf
 have hreachf:fl * 104≤140737488351232:=hok.f
 have HF:=hid hfl;clear hfl hll hv
 have HNS:=hid hns;clear hns
 clear hok
 obtain⟨ti,hi,hz0,hz1,hz2⟩:=info_parts lG
 obtain⟨w0,hw0⟩:∃w0,w0=w.alloc (.cells #[.int .i64 9,.int .i64 i0,.int .i64 s0,.string t0,.slice la ll lc,.slice fa fl fc] 66):=⟨_,rfl⟩
 have hb0:Below w.heap.size w w0:=by rw[hw0];exact(bR w).alloc lr _
 have HB0:=hid hb0;clear hb0
 have HW0:=hid hw0;clear hw0
 have HXE:=hid hxe;clear hxe
 have HXL:=hid hxL;clear hxL
 have HXN:=hid hxl;clear hxl
 have HTXS:=hid htx;clear htx
 have HLN:=hid hLN;clear hLN
 go_enter Tryz.func196,Tryz.ntmps196
 go_wp2
 rw[←HW0.out]
 go_loopw [3,97] (fun vv i wr=>∃(k:Nat) (v:Value),v=vv∧k≤fl∧i=.int .i64 k∧wr.ownsRow w0.heap.size 9 1 v k ((xs.take k).map Value.string)∧Below w0.heap.size w0 wr) (fun _ i _=>fl-(intOf i).toNat)
 case atStart=>exact⟨0,_,rfl,Nat.zero_le _,rfl,World.ownsRow_nil _ _ _ _,Below.refl _ _⟩
 case round =>
  obtain⟨k,v,rfl,hk,rfl,hown,hbr⟩:=hrel
  have HBR:=hid hbr
  have hbelw:Below w.heap.size w wr:=HB0.out.trans (hbr.mono HB0.out.size)
  have HBW:=hid hbelw
  by_cases hlt:k<fl
  ·rcases hf with rfl | ⟨b,o,rfl,hb,hvs⟩
   ·exfalso;have:=HF.out;simp at this;omega
   ·have hkl:k<fs.length:=by have:=HF.out;omega
    have hkn:k<ns.length:=by have:=HNS.out;omega
    have hkx:k<xs.length:=by have:=HXN.out;omega
    obtain⟨⟨hnm,hnz⟩,x,hx,hxv⟩:=hvs.get HNS.out k hkl hkn
    obtain⟨nm,hnmd⟩:∃nm,nm=ns[k]:=⟨_,rfl⟩
    rw[←hnmd] at hnm hnz
    obtain⟨tz,htz⟩:∃tz,tz=tx k:=⟨_,rfl⟩
    have HXK:=hid (show xs[k]=nm++⟨#[58,32]⟩++tz by rw[HXE.out k hkx hkn,hnmd,htz])
    have hxkz:nm.size+2+tz.size≤L:=by
     have h1:=HXL.out xs[k] (List.getElem_mem _)
     rw[HXK.out] at h1
     simp at h1
     omega
    have hL47:L≤140737488355328:=by have h1:=HLN.out;rw[Nat.mul_add] at h1;have h2:=Nat.le_mul_of_pos_left L hfl0;omega
    have s1:(9223372036854775807<nm.size+2)=False:=eq_false (by omega)
    have s2:(9223372036854775807<nm.size+2+tz.size)=False:=eq_false (by omega)
    clear hxkz hL47
    have hx':=hx.same (w':=wr) (hbelw.block b hb)
    have hnm':wr.cell? ⟨b,o+k * 7,none⟩=some (.string nm):=(World.cell?_of_block (w:=w) (a:=⟨b,o+k * 7,none⟩) (hbelw.block b hb)).trans hnm
    obtain⟨hx0,hx1,hx2,hx3,hx4,hx5⟩:=hx'
    have hlt':(k:Int)<(fl:Int):=by omega
    have hsz:=hbelw.size
    obtain⟨wa,hwa⟩:∃wa,wa=wr.alloc (Obj.cells #[Value.string nm,Value.int IntKind.i64 x.k,Value.int IntKind.i64 x.i,Value.int IntKind.i64 x.s,Value.string x.t,Value.slice x.la x.ll x.lc,Value.slice x.fa x.fl x.fc] 208 (0,0)):=⟨_,rfl⟩
    have hbwa:Below wr.heap.size wr wa.drew:=by rw[hwa];exact((Below.refl _ wr).alloc lr _).drew
    have HTX:=hid (htz▸HTXS.out k hkl x wa.drew (hbelw.trans (hbwa.mono hsz)) (hxv.same fun b hb=>⟨by have:=hbwa.size;omega,(hbwa.block b (by omega)).trans (hbelw.block b hb)⟩))
    have p2:wa.drew.heap[wr.heap.size]?=some (Obj.cells #[Value.string nm,Value.int IntKind.i64 x.k,Value.int IntKind.i64 x.i,Value.int IntKind.i64 x.s,Value.string x.t,Value.slice x.la x.ll x.lc,Value.slice x.fa x.fl x.fc] 208 (0,0)):=by rw[hwa];exact heap_alloc_new wr _
    have hwas:wr.heap.size≤wa.drew.heap.size:=hbwa.size
    have hwas':wr.heap.size<wa.heap.size:=by rw[hwa];simp
    have P2:=hid p2;clear p2
    have HWA:=hid hwa;clear hwa
    have HC:=hid (fun (w':World) (h:w'.heap[wr.heap.size]?=some (Obj.cells #[Value.string nm,Value.int IntKind.i64 x.k,Value.int IntKind.i64 x.i,Value.int IntKind.i64 x.s,Value.string x.t,Value.slice x.la x.ll x.lc,Value.slice x.fa x.fl x.fc] 208 (0,0))) =>
     (show w'.cell? ⟨wr.heap.size,0,none⟩=some (.string nm)∧w'.cell? ⟨wr.heap.size,1,none⟩=some (.int .i64 x.k)∧w'.cell? ⟨wr.heap.size,2,none⟩=some (.int .i64 x.i)∧w'.cell? ⟨wr.heap.size,3,none⟩=some (.int .i64 x.s)∧w'.cell? ⟨wr.heap.size,4,none⟩=some (.string x.t)∧w'.cell? ⟨wr.heap.size,5,none⟩=some (.slice x.la x.ll x.lc)∧w'.cell? ⟨wr.heap.size,6,none⟩=some (.slice x.fa x.fl x.fc) from⟨aA h 0,aA h 1,aA h 2,aA h 3,aA h 4,aA h 5,aA h 6⟩))
    have hcap1:k+1≤maxLen:=by unfold maxLen;omega
    have hcap2:(k+1) * 16≤140737488355328:=by omega
    have hnex:some wr.heap.size≠v.ownBlock:=fun e=>by have:=hown.lt _ e.symm;omega
    have HOWN:=hid hown;clear hown
    clear hx hnm hxv hnmd htz hbr hbelw
    go_wp2
    rw[←HWA.out]
    refine aQ 10 (fun w'=>w'.heap[wr.heap.size]?=some (Obj.cells #[Value.string nm,Value.int IntKind.i64 x.k,Value.int IntKind.i64 x.i,Value.int IntKind.i64 x.s,Value.string x.t,Value.slice x.la x.ll x.lc,Value.slice x.fa x.fl x.fc] 208 (0,0))) (by kernel_rfl) (by kernel_rfl) (by kernel_rfl) (by decide) (P2.out) (fun hS=>?_)
    simp only[zdm,zdn,zdp,zdq]
    refine tkQ 0 (v:=?_) ?_ hS ?_;rotate_left;· intro w' hw';have hcells:=HC.out w' hw';go_simp;(try rfl)
    simp only[Act.put,pq]
    refine tkQ 1 (v:=?_) ?_ hS ?_;rotate_left;· intro w' hw';have hcells:=HC.out w' hw';go_simp;(try rfl)
    simp only[Act.put,pq]
    refine tkQ 2 (v:=?_) ?_ hS ?_;rotate_left;· intro w' hw';have hcells:=HC.out w' hw';go_simp;(try rfl)
    simp only[Act.put,pq]
    refine tkQ 3 (v:=?_) ?_ hS ?_;rotate_left;· intro w' hw';have hcells:=HC.out w' hw';go_simp;(try rfl)
    simp only[Act.put,pq]
    refine tkQ 4 (v:=?_) ?_ hS ?_;rotate_left;· intro w' hw';have hcells:=HC.out w' hw';go_simp;(try rfl)
    simp only[Act.put,pq]
    refine tkQ 5 (v:=?_) ?_ hS ?_;rotate_left;· intro w' hw';have hcells:=HC.out w' hw';go_simp;(try rfl)
    simp only[Act.put,pq]
    refine ry [6] ?_
    refine arQ fun K hK=>?_
    go_simp;go_at_call 196;refine HTX.out.mono ?_
    rintro e w1 ⟨rfl,hb1⟩
    have q2:=hid (aB hb1 P2.out)
    have hs1:=hb1.size
    simp only[World.size_drew] at hs1
    refine hK.out _ _ (q2.out) (fun hS=>?_)
    clear hK K
    (try simp only[Act.put,pq])
    refine tkQ 7 (v:=?_) ?_ hS ?_;rotate_left;· intro w' hw';have hcells:=HC.out w' hw';go_simp;(try rfl)
    simp only[Act.put,pq]
    refine ry [8] ?_
    refine arQ fun K hK=>?_
    go_simp
    refine hK.out _ _ (aC _ q2.out) (fun hS=>?_)
    clear hK K
    (try simp only[Act.put,pq])
    refine ry [9] ?_
    refine arQ fun K hK=>?_
    refine step_append_lies _ (by rfl) _ _ _ (by rfl) w0.heap.size 9 ti _ 1 16 Tryz.underlying112 hi hz0 hz1 hz2 rfl (by omega) v k ((xs.take k).map Value.string) (by rfl) ((cW HOWN.out (hbwa.trans (hb1.mono hwas))).alloc _) ⟨w1.heap.size,0,none⟩ 1 1 [.string (nm++⟨#[58,32]⟩++tz)] (by rfl) (by rfl) (World.news_of_block (heap_alloc_new w1 _)) (by simp[Value.oneCell']) (by omega) hcap1 hcap2 (by have:=HBR.out.size;simp;omega) (w1.heap.size+1) (by simp) ?_
    intro gg cap w2 hown2 hgrow hat hlt2
    have r2:=hid (aY hgrow (aC _ q2.out) hnex)
    refine hK.out _ _ (r2.out) (fun hS=>?_)
    clear hK K
    (try simp only[Act.put,pq])
    refine wpAnyH_done (by kernel_rfl) ?_ _
    (try dsimp only)
    clear hS HC
    go_wp2
    go_roundw
    case rel =>
     have hst:Below w0.heap.size w0 wa.drew:=HBR.out.trans (hbwa.mono HBR.out.size)
     have hst2:Below w0.heap.size w0 w1:=hst.trans (hb1.mono hst.size)
     refine⟨k+1,_,rfl,by omega,by go_num,?_,(hst2.alloc hst2.size _).grown hgrow (by have:=hst2.size;simp;omega) (fun r e=>mO HOWN.out r e)⟩
     rw[List.take_succ_eq_append_getElem hkx,HXK.out]
     simpa using hown2
    case measure=>simp[intOf];omega
  ·obtain rfl:k=fl:=by omega
   clear hlt
   rw[List.take_of_length_le (by have:=HXN.out;omega)] at hown
   obtain⟨g,cap',rfl,hj⟩:=gO hown HXN.out.symm hfl0 L HXL.out ⟨#[44,32]⟩ HLN.out
   have HJ:=hid hj
   have hjoin:Hid (Calls Tryz.prog 251 #[.slice (some ⟨g,0,none⟩) k cap'] wr fun e w'=>e=.returned (.string (bG xs ⟨#[44,32]⟩))∧Below wr.heap.size wr w'):=hid (mP _ _ _ HJ.out)
   have hjz:=eR xs ⟨#[44,32]⟩ L HXL.out
   rw[HXN.out] at hjz
   have hL3:=HLN.out
   have hjz2:(bG xs ⟨#[44,32]⟩).size≤140737488355328:=by simp at hjz;rw[Nat.mul_add] at hL3 hjz;omega
   have s1:1+(bG xs ⟨#[44,32]⟩).size≤9223372036854775807:=by omega
   have s2:1+(bG xs ⟨#[44,32]⟩).size+1≤9223372036854775807:=by omega
   clear hj hown hbr hjz hL3 hjz2
   go_wp2_with (go_at_call 251;refine hjoin.out.mono ?_;rintro e w3 ⟨rfl,hb3⟩)
   go_ret
   exact⟨rfl,HBW.out.trans (hb3.mono HBW.out.size)⟩
end
section
open Go Go.RowKit Go.Shelf
theorem iX (d:St) (h1:I64 d.e) (h2:∀x∈d.ps,I64 x) (h3:d.ps.length≤512):(cI d).size≤20000:=by
 have a1:=bN d.e h1
 have a2:=eR (d.ps.map aF) ⟨#[46]⟩ 21 (fun x hx=>by
  rw[List.mem_map] at hx
  obtain⟨y,hy,rfl⟩:=hx
  exact fW y (h2 y hy))
 rw[List.length_map,show(⟨#[46]⟩:ByteArray).data.toList.length=1 from rfl] at a2
 rw[cI,ByteArray.size_append,ByteArray.size_append,show(⟨#[47]⟩:ByteArray).size=1 from rfl]
 omega
theorem wK {d:St} (h:aS d=0):d.ps.length≤512:=by
 unfold aS at h
 split at h
 ·simp at h
 ·split at h
  ·simp at h
  ·split at h
   ·simp at h
   ·omega
def aD8 (d:Msg) (t:ByteArray):ByteArray:=cI d.st++⟨#[32]⟩++aF d.m++⟨#[32]⟩++bG (d.es.map aF) ⟨#[44]⟩++⟨#[32]⟩++t
theorem aA2 {d:Msg} (h:dB d=0):aS d.st=0∧d.es≠[]∧d.es.length≤4096:=by
 unfold dB at h
 split at h
 ·contradiction
 ·rename_i h1
  split at h
  ·simp at h
  ·split at h
   ·simp at h
   ·split at h
    ·simp at h
    ·rename_i h4 h5
     exact⟨by simpa using h1,h4,by omega⟩
structure EncAt (w w1:World) (c:MC) (d:Msg):Prop where
 ten:Ten w1 w.heap.size c
 bel:Below w.heap.size w w1
 msg:IsMsg (· < w1.heap.size) w1 c d
 tabs:Tabs w1
theorem lI (c:MC) (d:Msg) (w:World) (hd:IsMsg (· < w.heap.size) w c d) (hT:Tabs w) (w1:World) (hb:Below (w.alloc (mObj c)).heap.size (w.alloc (mObj c)) w1):EncAt w w1 c d:=by
 have hb0:Below w.heap.size w (w.alloc (mObj c)):=(bR w).alloc lr _
 have hbw:Below w.heap.size w w1:=hb0.trans (hb.mono hb0.size)
 exact⟨tenOf (aB hb (heap_alloc_new w _)),hbw,hd.same fun b h=>⟨Nat.lt_of_lt_of_le h hbw.size,hbw.block b h⟩,hT.below hbw⟩
theorem rQ (c:MC) (d:Msg) (w:World) (hd:IsMsg (· < w.heap.size) w c d) (hT:Tabs w) (t:ByteArray) (h0:dB d=0) (htz:t.size≤65536)
 (hlit:∀w',Below w.heap.size w w'→Calls Tryz.prog 142 #[c.b.v] w' fun e w2=>e=.returned (.tuple #[.string t,.int .i64 0])∧Below w'.heap.size w' w2) :
 Calls Tryz.prog 75 #[c.v] w fun e w'=>e=.returned (.tuple #[.string (aD8 d t),.int .i64 0])∧Below w.heap.size w w':=by
 obtain⟨ti,hi,hz0,hz1,hz2⟩:=info_parts lG
 obtain⟨hs0,hne,hlen⟩:=aA2 h0
 have HM:=hid (lI c d w hd hT)
 have HL:=hid hd.es.len
 have HR:=hid hd.es.rng
 have hn0:0<c.n:=by rw[HL.out];exact List.length_pos_iff.2 hne
 have hn4:c.n≤4096:=by rw[HL.out];exact hlen
 have HMD:=hid hd.m
 have hrm:I64 c.m:=by rw[hd.m];exact hd.rm
 have HRM:=hid hrm
 have HCK:Hid (∀w1,Below (w.alloc (mObj c)).heap.size (w.alloc (mObj c)) w1→Calls Tryz.prog 111 #[c.v] w1 fun e w'=>e=.returned (.int .i64 0)∧Below w1.heap.size w1 w'):=hid fun w1 h=>by
  have q:=lI c d w hd hT w1 h
  rw[←h0];exact cQ c d w1 q.msg q.tabs
 have HST:Hid (∀w1,Below (w.alloc (mObj c)).heap.size (w.alloc (mObj c)) w1→Calls Tryz.prog 143 #[c.st.v] w1 fun e w'=>e=.returned (.tuple #[.string (cI d.st),.int .i64 0])∧Below w1.heap.size w1 w'):=hid fun w1 h=>by
  have q:=lI c d w hd hT w1 h
  refine(gA c.st d.st w1 q.msg.st q.tabs).mono fun e w' ⟨he,hb⟩=>⟨?_,hb⟩
  rw[he,iY,if_pos hs0]
 have HLT:Hid (∀w1,Below (w.alloc (mObj c)).heap.size (w.alloc (mObj c)) w1→Calls Tryz.prog 142 #[c.b.v] w1 fun e w'=>e=.returned (.tuple #[.string t,.int .i64 0])∧Below w1.heap.size w1 w'):=hid fun w1 h=>hlit w1 (lI c d w hd hT w1 h).bel
 have hstz:(cI d.st).size≤20000:=iX d.st hd.st.re hd.st.ps.rng (wK hs0)
 clear hd hT hlit hne hlen hrm h0 hs0
 obtain⟨⟨ce,sa,sn,sc⟩,m,a,n,cap,⟨k,i',s,tt,la,ll,lc,fa,fl,fc⟩⟩:=c
 have h00:=HM.out _ (Below.refl _ _)
 have h0t:=h00.ten
 dsimp only[Ten,mObj] at h0t
 obtain⟨e0,e1,e2,e3,e4,e5,e6,e7,e8,e9⟩:=h0t
 clear h00
 have hck:=HCK.out _ (Below.refl _ _)
 have HCK0:=hid hck
 dsimp only[mObj,SC.v,VC.v,MC.v] at HM HL HR hn0 hn4 HMD HRM HCK0 HST HLT ⊢
 clear hck HCK
 go_enter Tryz.func75,Tryz.ntmps75
 go_wp2_with (first
  | (go_at_call 111;refine HCK0.out.mono ?_;rintro e w2 ⟨rfl,hb2⟩;obtain⟨⟨j0,j1,j2,j3,j4,j5,j6,j7,j8,j9⟩,_,_,_⟩:=HM.out _ hb2;clear e0 e1 e2 e3 e4 e5 e6 e7 e8 e9)
  | (go_at_call 142;refine(HLT.out _ hb2).mono ?_;rintro e w3 ⟨rfl,hb3⟩;have hb3':=hb2.trans (hb3.mono hb2.size);obtain⟨⟨l0,l1,l2,l3,l4,l5,l6,l7,l8,l9⟩,_,_,_⟩:=HM.out _ hb3';clear j0 j1 j2 j3 j4 j5 j6 j7 j8 j9)
  | (go_at_call 143;refine(HST.out _ hb3').mono ?_;rintro e w4 ⟨rfl,hb4⟩;have hb4':=hb3'.trans (hb4.mono hb3'.size);obtain⟨⟨m0,m1,m2,m3,m4,m5,m6,m7,m8,m9⟩,hbw4,hms4,htb4⟩:=HM.out _ hb4';have HP4:=hid hms4.es;have HT4:=hid htb4;clear hms4 htb4 l0 l1 l2 l3 l4 l5 l6 l7 l8 l9))
 go_loopw [9,35] (fun v i wr=>∃k:Nat,k≤n∧i=.int .i64 k∧wr.ownsRow w4.heap.size 9 1 v k (((d.es.take k).map aF).map Value.string)∧Below w4.heap.size w4 wr) (fun _ i _=>n-(intOf i).toNat)
 case atStart=>exact⟨0,Nat.zero_le _,rfl,World.ownsRow_nil _ _ _ _,Below.refl _ _⟩
 case round =>
  obtain⟨q,hk,rfl,hown,hbr⟩:=hrel
  have HBR:=hid hbr
  by_cases hlt:q<n
  ·obtain⟨b,o,rfl,hb,hc⟩:=HP4.out.slot hn0
   have hkl:q<d.es.length:=by have:=HL.out;omega
   have hc0:=(World.cell?_of_block (w:=w4) (a:=⟨b,o+q,none⟩) (hbr.block b hb)).trans (hc q hkl)
   clear hc
   obtain⟨z,hz⟩:∃z,z=d.es[q]:=⟨_,rfl⟩
   rw[←hz] at hc0
   have hit:=hid (bD z (by rw[hz];exact HR.out _ (List.getElem_mem _)) wr (HT4.out.below hbr))
   have HZ:=hid hz
   clear hz
   have hlt':(q:Int)<(n:Int):=by omega
   have HOWN:=hid hown
   clear hown hbr
   have hcap1:q+1≤maxLen:=by unfold maxLen;omega
   have hcap2:(q+1) * 16≤140737488355328:=by omega
   go_wp2_with (first
    | (go_at_call 80;refine hit.out.mono ?_;rintro e w6 ⟨rfl,hb6⟩)
    | (at_builtin;refine wpList_append_own_at _ (by rfl) _ _ 112 (by rfl) w4.heap.size 9 ti _ 1 16 Tryz.underlying112 hi hz0 hz1 hz2 rfl (by omega) _ _ _ (by rfl) ((cW HOWN.out hb6).alloc _) ⟨w6.heap.size,0,none⟩ 1 1 [.string (aF z)] (by rfl) (by rfl) (cell_one_new _ _ _) (by simp[Value.oneCell']) hcap1 hcap2 (by have:=HBR.out.size;have:=hb6.size;simp;omega) ?_;intro v' w5 hown' hgrow hnil hloc;have HO2:=hid hown';have HG:=hid hgrow;clear hown' hgrow hnil hloc))
   go_roundw
   case rel =>
    refine⟨q+1,by omega,by go_num,?_,?_⟩
    ·have h:=HO2.out
     rw[show((d.es.take (q+1)).map aF).map Value.string=((d.es.take q).map aF).map Value.string++[.string (aF z)] by rw[List.take_succ_eq_append_getElem hkl,HZ.out,List.map_append,List.map_append];rfl]
     exact h
    ·have h3:=HBR.out.trans (hb6.mono HBR.out.size)
     refine(h3.alloc h3.size _).grown HG.out (by have:=h3.size;simp;omega) fun r hr=>?_
     exact mO HOWN.out r hr
   case measure=>simp[intOf];omega
  ·obtain rfl:q=n:=by omega
   clear hlt
   rw[List.take_of_length_le (by have:=HL.out;omega)] at hown
   obtain⟨g,cap',rfl,hj⟩:=gO hown (by rw[List.length_map];exact HL.out) hn0 21 (fun x hx=>by
    rw[List.mem_map] at hx
    obtain⟨y,hy,rfl⟩:=hx
    exact fW y (HR.out y hy)) ⟨#[44]⟩ (by simp;omega)
   have HJ:=hid hj
   have hit:=hid (bD m HRM.out wr (HT4.out.below hbr))
   have z1:=bN m HRM.out
   have z2:=eR (d.es.map aF) ⟨#[44]⟩ 21 (fun x hx=>by
    rw[List.mem_map] at hx
    obtain⟨y,hy,rfl⟩:=hx
    exact fW y (HR.out y hy))
   rw[List.length_map,←HL.out] at z2
   simp at z2
   have s1:(cI d.st).size+1≤9223372036854775807:=by omega
   have s2:(cI d.st).size+1+(aF m).size≤9223372036854775807:=by omega
   have s3:(cI d.st).size+1+(aF m).size+1≤9223372036854775807:=by omega
   have s4:(cI d.st).size+1+(aF m).size+1+(bG (d.es.map aF) ⟨#[44]⟩).size≤9223372036854775807:=by omega
   have s5:(cI d.st).size+1+(aF m).size+1+(bG (d.es.map aF) ⟨#[44]⟩).size+1≤9223372036854775807:=by omega
   have s6:(cI d.st).size+1+(aF m).size+1+(bG (d.es.map aF) ⟨#[44]⟩).size+1+t.size≤9223372036854775807:=by omega
   have c0:=(World.cell?_of_block (w:=w4) (a:=⟨w.heap.size,2,none⟩) (hbr.block _ (World.block_lt_of_cell? _ _ m2))).trans m2
   clear hj hown hbr
   go_wp2_with (first
    | (go_at_call 80;refine hit.out.mono ?_;rintro e w6 ⟨rfl,hb6⟩)
    | (go_at_call 140;refine(HJ.out _ hb6).mono ?_;rintro e w7 ⟨rfl,hb7⟩))
   have hbz:Below w.heap.size w w7:=by
    have h1:=hbw4.trans (HBR.out.mono hbw4.size)
    have h2:=h1.trans (hb6.mono h1.size)
    exact h2.trans (hb7.mono h2.size)
   exact bodyPost_ret (v:=.tuple #[.string (aD8 d t),.int .i64 0]) (by simp[results,Tryz.results75,go_sem,aD8,HMD.out]) rfl ⟨rfl,hbz⟩
end
end Go.Proofs.YteladbdfiannjaaGreatDoor
