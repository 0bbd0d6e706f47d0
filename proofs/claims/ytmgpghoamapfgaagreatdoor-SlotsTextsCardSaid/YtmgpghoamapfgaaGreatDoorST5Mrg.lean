/- A part. -/
import Derived.Test.YtmgpghoamapfgaaGreatDoorST4Mrg
import Derived.Lib.ItoaLen
import Derived.Lib.AppendIntMem
import Derived.Maps.AppendAt
namespace Go.Proofs.YtmgpghoamapfgaaGreatDoor
set_option linter.unusedVariables false
set_option maxRecDepth 100000
set_option maxHeartbeats 16000000
set_option linter.unusedSimpArgs false
section
open Go Go.RowKit Go.Shelf
theorem pZ {w:World} {base:Nat} {e:TypeId} {size:Nat} {v:Value} {n:Nat} {xs:List Value} (h:w.ownsRow base e size v n xs) (k:Nat) (hk:v.ownBlock=some k):base<=k:=by
 rcases h.2 with ⟨rfl,_⟩ | ⟨g,cap,cur,rfl,hb,_⟩
 ·cases hk
 ·cases hk;exact hb
def aF (n:Int):ByteArray:=⟨(Lib.itoa n).toArray⟩
def bJ (xs:List ByteArray) (sep:ByteArray):ByteArray:=⟨(Lib.join (xs.map (·.data.toList)) sep.data.toList).toArray⟩
theorem bZ (n:Int) (h:I64 n) (w:World) (hT:Tabs w):CP 35 #[I6 n] w (Rt (.string (aF n)) w) :=
 (Tryz.strconv_Itoa n h.1 h.2 w hT.2).mono fun e w' ⟨he,k,os,hw⟩=>⟨he,by rw[hw];exact Lib.below_grow _ w lr k os⟩
theorem vE (l:List (List UInt8)) (sep:List UInt8) (B:Nat) (h:∀x∈l,x.length<=B):(Lib.join l sep).length<=l.length * (B+sep.length):=by
 cases l with
 | nil=>simp[Lib.join_nil]
 | cons x r =>
   rw[Lib.join_cons,List.length_append,Lib.joinTail_length];have h1:=h x gd;have h2:Lib.lens r<=r.length * B:=by
    have key:∀r:List (List UInt8),(∀x∈r,x.length<=B)->Lib.lens r<=r.length * B:=by
     intro r
     induction r with
     | nil=>intro _;simp[Lib.lens]
     | cons y r ih =>
       intro h;have h2:=ih (fun x hx=>h x (by simp[hx]));have h3:=h y gd;simp only[Lib.lens,List.map_cons,List.sum_cons,List.length_cons,Nat.add_mul] at h2 ⊢;omega
    exact key r fun x hx=>h x (by simp[hx])
   simp only[List.length_cons];rw[Nat.add_mul,Nat.mul_add,Nat.mul_comm sep.length];omega
theorem jQ (n:Int) (h:I64 n):(aF n).data.toList.length<=21:=by
 have:=Lib.itoa_length_le n h.1 h.2
 simpa [aF] using this
theorem mB (n:Int) (h:I64 n):(aF n).size<=21:=by
 have:=jQ n h
 simpa using this
theorem kA (xs:List ByteArray) (sep:ByteArray) (L:Nat) (h:∀x∈xs,x.data.toList.length<=L):(bJ xs sep).size<=xs.length * (L+sep.data.toList.length):=by
 have:=vE (xs.map (·.data.toList)) sep.data.toList L (fun y hy=>by
  rw[List.mem_map] at hy;obtain⟨x,hx1,rfl⟩:=hy;exact h x hx1)
 rw[List.length_map] at this;show(bJ xs sep).data.size<=_
 simpa [bJ] using this
theorem tF:(Tryz.prog.info? 9).map (fun i=>(i.zero,i.size,i.bytes))=some (some (.string ByteArray.empty),1,16):=by kernel_rfl
theorem kJ {w:World} {B n T:Nat} {v:Value} {xs:List ByteArray} (h:w.ownsRow B T 1 v n (xs.map Value.string)) (hl:n=xs.length) (h0:0<n) (L:Nat) (hx:∀x∈xs,x.data.toList.length<=L) (sep:ByteArray) (hN:n * (L+sep.data.toList.length+1)<=140737488355328) :
 ∃g cap,v=.slice (some ⟨g,0,none⟩) n cap/\∀w',BB w w'->CP 33 #[v,.string sep] w' (Rt (.string (bJ xs sep)) w'):=by
 have hc:=fun g=>h.cells (g:=g);rcases h.2 with ⟨rfl,h1⟩ | ⟨g,cap,cur,rfl,hb,hg,hn,_⟩
 ·omega
 ·refine⟨g,cap,rfl,fun w' hw=>?_⟩;subst hl;refine Tryz.strings_Join g 0 cap xs sep w' (fun j x hj=>?_) (by have:=ltOf hg;have:=hw.size;omega) ?_ hn ?_
  ·have h2:=hc g rfl j (.string x) (by simp[hj]);rw[show(⟨g,0,none⟩:Addr).add j=⟨g,0+j,none⟩ by unfold Addr.add;split<;>simp_all] at h2;exact(World.cell?_of_block (w:=w) (a:=⟨g,0+j,none⟩) (hw.block g (ltOf hg))).trans h2
  ·rw[Nat.mul_add] at hN;omega
  ·have:=vE (xs.map (·.data.toList)) sep.data.toList L (fun y hy=>by
    rw[List.mem_map] at hy;obtain⟨x,hx1,rfl⟩:=hy;exact hx x hx1)
   rw[List.length_map] at this;rw[Nat.mul_add,Nat.mul_one] at hN;omega
def cC (d:St):ByteArray:=aF d.e++⟨#[47]⟩++bJ (d.ps.map aF) ⟨#[46]⟩
def rG (d:St):Value:=if bI d=0 then .tuple #[.string (cC d),I6 0] else .tuple #[.string ⟨#[]⟩,I6 (bI d)]
theorem tU (c:SC) (d:St) (w:World) (hx:IsSt (· < w.heap.size) w c d) (hT:Tabs w):CP 76 #[c.v] w (Rt (rG d) w):=by
 obtain⟨ti,hi,hz0,hz1,hz2⟩:=info_parts tF;obtain⟨ce,a,n,cap⟩:=c;obtain⟨e0,ps⟩:=d;obtain⟨he0,re,hps⟩:=hx;dsimp only[SC.v] at hps he0 re ⊢;subst he0;obtain⟨w1,hw1⟩:=ez (w.alloc (.cells #[I6 ce,.slice a n cap] 39))
 have hb1:BB w w1:=by rw[hw1];exact(bR w).alloc lr _
 have hbox:w1.heap[w.heap.size]?=some (.cells #[I6 ce,.slice a n cap] 39 (0,0)):=by rw[hw1];exact heap_alloc_new w _
 obtain⟨u,hu⟩:=ez (bI ⟨ce,ps⟩)
 have HSC:Hid (CP 139 #[.agg #[I6 ce,.slice a n cap]] w1 (Rt (I6 u) w1)):=hid (by rw[hu];exact iW _ ⟨ce,a,n,cap⟩ ⟨ce,ps⟩ w w1 ⟨rfl,re,hps⟩ (fun b hb=>⟨Nat.lt_of_lt_of_le hb hb1.size,hb1.block b hb⟩));have HX:Hid (∀w2,BB w1 w2->(Ce w2 w.heap.size 0 (I6 ce)/\Ce w2 w.heap.size 1 (.slice a n cap))/\BB w w2/\IsInts (· < w2.heap.size) w2 a n cap ps/\Tabs w2):=hid fun w2 h=>by
  have g:=aB h hbox;have hb:=hb1.trans (h.mono hb1.size);exact⟨⟨aA g 0,aA g 1⟩,hb,hps.same fun b q=>⟨Nat.lt_of_lt_of_le q hb.size,hb.block b q⟩,hT.below hb⟩
 rw[hw1] at HSC HX;have HL:=hid hps.len;have HR:=hid hps.rng;have RE:=hid re;have HU:=hid hu;clear hps hT hbox hb1 hw1 hu re;go_enter Tryz.func76,Tryz.ntmps76
 by_cases q1:u=0
 ·subst q1;have hfin:=hid (show rG ⟨ce,ps⟩=.tuple #[.string (cC ⟨ce,ps⟩),I6 0] by rw[rG,<-HU.out,if_pos rfl]);have hn0:0<n:=by
   rcases Nat.eq_zero_or_pos n with h | h
   ·have h0:ps=[]:=List.eq_nil_of_length_eq_zero (by rw[<-HL.out];exact h);have h1:=HU.out;rw[h0,bI] at h1;dsimp only at h1;split at h1
    ·simp at h1
    ·simp at h1
   ·exact h
  have hn512:n<=512:=by
   rcases Nat.lt_or_ge 512 n with h | h
   ·have h1:=HU.out;rw[bI] at h1;dsimp only at h1;have h2:=HL.out;split at h1
    ·simp at h1
    ·split at h1
     ·simp at h1
     ·rw[if_pos ga] at h1;simp at h1
   ·exact h
  go_wp2_with (go_at_call 139;refine HSC.out.mono ?_;rintro e w2 ⟨rfl,hb2⟩;obtain⟨⟨j0,j1⟩,hbw2,hps2,hT2⟩:=HX.out _ hb2;have HP2:=hid hps2;have HT2:=hid hT2;clear hps2 hT2 hb2)
  go_loopw [5,16] (fun v i wr=>∃k:Nat,k<=n/\i=I6 k/\wr.ownsRow w2.heap.size 9 1 v k (((ps.take k).map aF).map Value.string)/\BB w2 wr) (fun _ i _=>n-(intOf i).toNat)
  case atStart=>exact⟨0,Nat.zero_le _,rfl,World.ownsRow_nil _ _ _ _,Below.refl _ _⟩
  case round =>
   obtain⟨k,hk,rfl,hown,hbr⟩:=hrel;have HBR:=hid hbr;by_cases hlt:k<n
   ·obtain⟨b,o,rfl,hb,hc⟩:=HP2.out.slot hn0;have hkl:k<ps.length:=by have:=HL.out;omega
    have hc0:=(World.cell?_of_block (w:=w2) (a:=⟨b,o+k,none⟩) (hbr.block b hb)).trans (hc k hkl);clear hc;obtain⟨z,hz⟩:=ez (ps[k])
    rw[<-hz] at hc0;have hit:=hid (bZ z (by rw[hz];exact HR.out _ (List.getElem_mem _)) wr (HT2.out.below hbr));have HZ:=hid hz;clear hz;have hlt':(k:Int)<(n:Int):=by omega
    have HOWN:=hid hown;clear hown hbr;have hcap1:k+1<=maxLen:=by unfold maxLen;omega
    have hcap2:(k+1) * 16<=140737488355328:=by omega
    go_wp2_with (first
     | (go_at_call 35;refine hit.out.mono ?_;rintro e w3 ⟨rfl,hb3⟩)
     | (at_builtin;refine wpList_append_own_at _ gh _ _ 75 gh w2.heap.size 9 ti _ 1 16 Tryz.underlying75 hi hz0 hz1 hz2 rfl ga _ _ _ gh ((fM HOWN.out hb3).alloc _) ⟨w3.heap.size,0,none⟩ 1 1 [.string (aF z)] gh gh (cell_one_new _ _ _) gm hcap1 hcap2 (by have:=HBR.out.size;have:=hb3.size;simp;omega) ?_;intro v' w5 hown' hgrow hnil hloc;have HO2:=hid hown';have HG:=hid hgrow;clear hown' hgrow hnil hloc))
    go_roundw
    case rel =>
     refine⟨k+1,by omega,by go_num,?_,?_⟩
     ·have h:=HO2.out;rw[show((ps.take (k+1)).map aF).map Value.string=((ps.take k).map aF).map Value.string++[.string (aF z)] by rw[List.take_succ_eq_append_getElem hkl,HZ.out,List.map_append,List.map_append];rfl];exact h
     ·have h3:=HBR.out.trans (hb3.mono HBR.out.size);refine(h3.alloc h3.size _).grown HG.out (by have:=h3.size;simp;omega) fun r hr=>?_;exact pZ HOWN.out r hr
    case measure=>simp[intOf];omega
   ·obtain rfl:k=n:=by omega
    clear hlt;rw[List.take_of_length_le (by have:=HL.out;omega)] at hown;obtain⟨g,cap',rfl,hj⟩:=kJ hown (by rw[List.length_map];exact HL.out) hn0 21 (fun x hx=>by
     rw[List.mem_map] at hx;obtain⟨y,hy,rfl⟩:=hx;exact jQ y (HR.out y hy)) ⟨#[46]⟩ gj
    have HJ:=hid hj;have hit:=hid (bZ ce RE.out wr (HT2.out.below hbr));have s1:(aF ce).size+1<=9223372036854775807:=by have:=mB ce RE.out;omega
    have s2:(aF ce).size+1+(bJ (ps.map aF) ⟨#[46]⟩).size<=9223372036854775807:=by
     have h1:=mB ce RE.out;have h2:=kA (ps.map aF) ⟨#[46]⟩ 21 (fun x hx=>by
      rw[List.mem_map] at hx;obtain⟨y,hy,rfl⟩:=hx;exact jQ y (HR.out y hy))
     rw[List.length_map,<-HL.out] at h2;simp at h2;omega
    have c0:=(World.cell?_of_block (w:=w2) (a:=⟨w.heap.size,0,none⟩) (hbr.block _ (World.block_lt_of_cell? _ _ j0))).trans j0;clear hj hown hbr;go_wp2_with (first
     | (go_at_call 35;refine hit.out.mono ?_;rintro e w3 ⟨rfl,hb3⟩)
     | (go_at_call 33;refine(HJ.out _ hb3).mono ?_;rintro e w4 ⟨rfl,hb4⟩))
    have hbz:BB w w4:=by
     have h1:=hbw2.trans (HBR.out.mono hbw2.size);have h2:=h1.trans (hb3.mono h1.size);exact h2.trans (hb4.mono h2.size)
    exact bodyPost_ret (v:=.tuple #[.string (cC ⟨ce,ps⟩),I6 0]) (by simp[results,Tryz.results76,go_sem,cC]) rfl ⟨by rw[hfin.out],hbz⟩
 ·have hfin:=hid (show rG ⟨ce,ps⟩=.tuple #[.string ⟨#[]⟩,I6 u] by rw[rG,<-HU.out,if_neg q1]);go_wp2_with (go_at_call 139;refine HSC.out.mono ?_;rintro e w2 ⟨rfl,hb2⟩;obtain⟨⟨j0,j1⟩,hbw2,hps2,hT2⟩:=HX.out _ hb2;clear hps2 hT2 hb2)
  exact bodyPost_ret (v:=.tuple #[.string ⟨#[]⟩,I6 u]) (by simp[results,Tryz.results76,go_sem]) rfl ⟨by rw[hfin.out],hbw2⟩
end
section
open Go Go.RowKit Go.Shelf
theorem lZ (s:ByteArray) (hs:s.size<=65536) (w:World):CP 73 #[.string s] w fun e w'=>e=.returned (.tuple #[.string s,I6 0])/\w=w':=by
 have hs':(s.size:Int)<=65536:=by omega
 go_enter Tryz.func73,Tryz.ntmps73
 go_wp2;exact bodyPost_ret (v:=.tuple #[.string s,I6 0]) (by simp[results,Tryz.results73,go_sem]) rfl ⟨rfl,rfl⟩
theorem aAn (i:Nat) (hi:i<100) (s:Int) (t:ByteArray) (la:Option Addr) (ll lc:Nat) (fa:Option Addr) (fl fc:Nat) (w:World) :
 CP 74 #[.agg #[I6 2,I6 i,I6 s,.string t,.slice la ll lc,.slice fa fl fc]] w (Rt (.string ⟨(Lib.decDigits i).toArray⟩) w):=by
 go_enter Tryz.func74,Tryz.ntmps74
 go_wp2_with (go_at_call 35;refine(Tryz.strconv_Itoa_small i hi _).mono ?_;rintro e w' ⟨rfl,rfl⟩)
 go_ret;exact⟨rfl,(bR w).alloc lr _⟩
theorem wZ (s i:Int) (t:ByteArray) (la:Option Addr) (ll lc:Nat) (fa:Option Addr) (fl fc:Nat) (w:World) :
 CP 74 #[.agg #[I6 0,I6 i,I6 s,.string t,.slice la ll lc,.slice fa fl fc]] w (Rt (.string ⟨#[110,117,108,108]⟩) w):=by
 go_enter Tryz.func74,Tryz.ntmps74
 go_wp2;go_ret;exact⟨rfl,(bR w).alloc lr _⟩
end
section
open Go Go.RowKit Go.Shelf
attribute [local go_sem ↓] Go.wp_at_zero Go.wp_at_succ
def recT (xs:List ByteArray):ByteArray:=⟨#[123]⟩++bJ xs ⟨#[44,32]⟩++⟨#[125]⟩
theorem tD (v:Value) (xs:List ByteArray) (w:World) (h:∀w',BB w w'->CP 33 #[v,.string ⟨#[44,32]⟩] w' (Rt (.string (bJ xs ⟨#[44,32]⟩)) w')) :
 CP 138 #[v] w (Rt (.string (bJ xs ⟨#[44,32]⟩)) w):=by
 have H:=hid (h w (bR w));clear h;go_enter Tryz.func138,Tryz.ntmps138
 go_wp2_with (go_at_call 33;refine H.out.mono ?_;rintro e w' ⟨rfl,hb⟩)
 go_ret;exact⟨rfl,hb⟩
theorem aAm (i0 s0:Int) (t0:ByteArray) (la:Option Addr) (ll lc:Nat) (fa:Option Addr) (fl fc:Nat) (l:List Val) (ns:List ByteArray) (fs:List Val) (w:World) (hd:IsVal (· < w.heap.size) w ⟨9,i0,s0,t0,la,ll,lc,fa,fl,fc⟩ (.mk 9 i0 s0 t0 l ns fs))
 (xs:List ByteArray) (tx:Nat->ByteArray) (hfl0:0<fl) (hxl:xs.length=fl) (hxe:∀j (h:j<xs.length) (hn:j<ns.length),xs[j]=ns[j]++⟨#[58,32]⟩++tx j)
 (L:Nat) (hxL:∀x∈xs,x.data.toList.length<=L) (hLN:fl * (L+3)<=140737488355328)
 (htx:∀j (h:j<fs.length) (x:VC) (w':World),BB w w'->IsVal (· < w'.heap.size) w' x fs[j]->CP 74 #[.agg #[I6 x.k,I6 x.i,I6 x.s,.string x.t,.slice x.la x.ll x.lc,.slice x.fa x.fl x.fc]] w' (Rt (.string (tx j)) w')) :
 CP 74 #[.agg #[I6 9,I6 i0,I6 s0,.string t0,.slice la ll lc,.slice fa fl fc]] w (Rt (.string (recT xs)) w):=by
 obtain⟨⟨_,_,_,_,hok,hll,hfl,hns⟩,hv,hf⟩:=hd;dsimp only at hll hfl hv hf;have hreachf:fl * 104<=140737488351232:=hok.f;have HF:=hid hfl;clear hfl hll hv;have HNS:=hid hns;clear hns;clear hok;obtain⟨ti,hi,hz0,hz1,hz2⟩:=info_parts tF;obtain⟨w0,hw0⟩:=ez (w.alloc (.cells #[I6 9,I6 i0,I6 s0,.string t0,.slice la ll lc,.slice fa fl fc] 36))
 have hb0:BB w w0:=by rw[hw0];exact(bR w).alloc lr _
 have HB0:=hid hb0;clear hb0;have HW0:=hid hw0;clear hw0;have HXE:=hid hxe;clear hxe;have HXL:=hid hxL;clear hxL;have HXN:=hid hxl;clear hxl;have HTXS:=hid htx;clear htx;have HLN:=hid hLN;clear hLN;go_enter Tryz.func74,Tryz.ntmps74
 go_wp2;rw[<-HW0.out]
 go_loopw [3,97] (fun vv i wr=>∃(k:Nat) (v:Value),v=vv/\k<=fl/\i=I6 k/\wr.ownsRow w0.heap.size 9 1 v k ((xs.take k).map Value.string)/\BB w0 wr) (fun _ i _=>fl-(intOf i).toNat)
 case atStart=>exact⟨0,_,rfl,Nat.zero_le _,rfl,World.ownsRow_nil _ _ _ _,Below.refl _ _⟩
 case round =>
  obtain⟨k,v,rfl,hk,rfl,hown,hbr⟩:=hrel;have HBR:=hid hbr;have hbelw:BB w wr:=HB0.out.trans (hbr.mono HB0.out.size);have HBW:=hid hbelw;by_cases hlt:k<fl
  ·rcases hf with rfl | ⟨b,o,rfl,hb,hvs⟩
   ·exfalso;have:=HF.out;simp at this;omega
   ·have hkl:k<fs.length:=by have:=HF.out;omega
    have hkn:k<ns.length:=by have:=HNS.out;omega
    have hkx:k<xs.length:=by have:=HXN.out;omega
    obtain⟨⟨hnm,hnz⟩,x,hx,hxv⟩:=hvs.get HNS.out k hkl hkn;obtain⟨nm,hnmd⟩:=ez (ns[k])
    rw[<-hnmd] at hnm hnz;obtain⟨tz,htz⟩:=ez (tx k)
    have HXK:=hid (show xs[k]=nm++⟨#[58,32]⟩++tz by rw[HXE.out k hkx hkn,hnmd,htz]);have hxkz:nm.size+2+tz.size<=L:=by
     have h1:=HXL.out xs[k] (List.getElem_mem _);rw[HXK.out] at h1;simp at h1;omega
    have hL47:L<=140737488355328:=by have h1:=HLN.out;rw[Nat.mul_add] at h1;have h2:=Nat.le_mul_of_pos_left L hfl0;omega
    have s1:(9223372036854775807<nm.size+2)=False:=eq_false ga;have s2:(9223372036854775807<nm.size+2+tz.size)=False:=eq_false ga;clear hxkz hL47;have hx':=hx.same (w':=wr) (hbelw.block b hb);have hnm':wr.cell? ⟨b,o+k * 7,none⟩=some (.string nm):=(World.cell?_of_block (w:=w) (a:=⟨b,o+k * 7,none⟩) (hbelw.block b hb)).trans hnm;obtain⟨hx0,hx1,hx2,hx3,hx4,hx5⟩:=hx';have hlt':(k:Int)<(fl:Int):=by omega
    have hsz:=hbelw.size;obtain⟨wa,hwa⟩:=ez (wr.alloc (Obj.cells #[Value.string nm,Value.int IntKind.i64 x.k,Value.int IntKind.i64 x.i,Value.int IntKind.i64 x.s,Value.string x.t,Value.slice x.la x.ll x.lc,Value.slice x.fa x.fl x.fc] 202 (0,0)))
    have hbwa:BB wr wa.drew:=by rw[hwa];exact((Below.refl _ wr).alloc lr _).drew
    have HTX:=hid (htz▸HTXS.out k hkl x wa.drew (hbelw.trans (hbwa.mono hsz)) (hxv.same fun b hb=>⟨by have:=hbwa.size;omega,(hbwa.block b ga).trans (hbelw.block b hb)⟩));have p2:wa.drew.heap[wr.heap.size]?=some (Obj.cells #[Value.string nm,Value.int IntKind.i64 x.k,Value.int IntKind.i64 x.i,Value.int IntKind.i64 x.s,Value.string x.t,Value.slice x.la x.ll x.lc,Value.slice x.fa x.fl x.fc] 202 (0,0)):=by rw[hwa];exact heap_alloc_new wr _
    have hwas:wr.heap.size<=wa.drew.heap.size:=hbwa.size;have hwas':wr.heap.size<wa.heap.size:=by rw[hwa];simp
    have P2:=hid p2;clear p2;have HWA:=hid hwa;clear hwa;have HC:=hid (fun (w':World) (h:w'.heap[wr.heap.size]?=some (Obj.cells #[Value.string nm,Value.int IntKind.i64 x.k,Value.int IntKind.i64 x.i,Value.int IntKind.i64 x.s,Value.string x.t,Value.slice x.la x.ll x.lc,Value.slice x.fa x.fl x.fc] 202 (0,0))) =>
     (show Ce w' wr.heap.size 0 (.string nm)/\Ce w' wr.heap.size 1 (I6 x.k)/\Ce w' wr.heap.size 2 (I6 x.i)/\Ce w' wr.heap.size 3 (I6 x.s)/\Ce w' wr.heap.size 4 (.string x.t)/\Ce w' wr.heap.size 5 (.slice x.la x.ll x.lc)/\Ce w' wr.heap.size 6 (.slice x.fa x.fl x.fc) from⟨aA h 0,aA h 1,aA h 2,aA h 3,aA h 4,aA h 5,aA h 6⟩))
    have hcap1:k+1<=maxLen:=by unfold maxLen;omega
    have hcap2:(k+1) * 16<=140737488355328:=by omega
    have hnex:some wr.heap.size≠v.ownBlock:=fun e=>by have:=hown.lt _ e.symm;omega
    have HOWN:=hid hown;clear hown;clear hx hnm hxv hnmd htz hbr hbelw;go_wp2;rw[<-HWA.out];refine aG 10 (fun w'=>w'.heap[wr.heap.size]?=some (Obj.cells #[Value.string nm,Value.int IntKind.i64 x.k,Value.int IntKind.i64 x.i,Value.int IntKind.i64 x.s,Value.string x.t,Value.slice x.la x.ll x.lc,Value.slice x.fa x.fl x.fc] 202 (0,0))) ge ge ge gc (P2.out) (fun hS=>?_);simp only[zdm,zdn,zdp,zdq];refine tc 0 HC ?_;refine tc 1 HC ?_;refine tc 2 HC ?_;refine tc 3 HC ?_;refine tc 4 HC ?_;refine tc 5 HC ?_;refine yr 6 fun K hK=>?_;go_simp;go_at_call 74;refine HTX.out.mono ?_;rintro e w1 ⟨rfl,hb1⟩;have q2:=hid (aB hb1 P2.out);have hs1:=hb1.size;simp only[World.size_drew] at hs1;refine hK.out _ _ (q2.out) (fun hS=>?_);clear hK K
    (try simp only[Act.put,pq])
    refine tc 7 HC ?_;refine yr 8 fun K hK=>?_;go_simp;refine hK.out _ _ (aD _ q2.out) (fun hS=>?_);clear hK K
    (try simp only[Act.put,pq])
    refine yr 9 fun K hK=>?_;refine step_append_lies _ gh _ _ _ gh w0.heap.size 9 ti _ 1 16 Tryz.underlying75 hi hz0 hz1 hz2 rfl ga v k ((xs.take k).map Value.string) gh ((fM HOWN.out (hbwa.trans (hb1.mono hwas))).alloc _) ⟨w1.heap.size,0,none⟩ 1 1 [.string (nm++⟨#[58,32]⟩++tz)] gh gh (World.news_of_block (heap_alloc_new w1 _)) gm ga hcap1 hcap2 (by have:=HBR.out.size;simp;omega) (w1.heap.size+1) gd ?_;intro gg cap w2 hown2 hgrow hat hlt2;have r2:=hid (aT hgrow (aD _ q2.out) hnex)
    refine hK.out _ _ (r2.out) (fun hS=>?_);clear hK K
    (try simp only[Act.put,pq])
    refine wpAnyH_done ge ?_ _
    (try dsimp only)
    clear hS HC;go_wp2
    go_roundw
    case rel =>
     have hst:BB w0 wa.drew:=HBR.out.trans (hbwa.mono HBR.out.size);have hst2:BB w0 w1:=hst.trans (hb1.mono hst.size);refine⟨k+1,_,rfl,by omega,by go_num,?_,(hst2.alloc hst2.size _).grown hgrow (by have:=hst2.size;simp;omega) (fun r e=>pZ HOWN.out r e)⟩;rw[List.take_succ_eq_append_getElem hkx,HXK.out]
     simpa using hown2
    case measure=>simp[intOf];omega
  ·obtain rfl:k=fl:=by omega
   clear hlt;rw[List.take_of_length_le (by have:=HXN.out;omega)] at hown;obtain⟨g,cap',rfl,hj⟩:=kJ hown HXN.out.symm hfl0 L HXL.out ⟨#[44,32]⟩ HLN.out;have HJ:=hid hj;have hjoin:Hid (CP 138 #[.slice (some ⟨g,0,none⟩) k cap'] wr (Rt (.string (bJ xs ⟨#[44,32]⟩)) wr)):=hid (tD _ _ _ HJ.out);have hjz:=kA xs ⟨#[44,32]⟩ L HXL.out;rw[HXN.out] at hjz;have hL3:=HLN.out;have hjz2:(bJ xs ⟨#[44,32]⟩).size<=140737488355328:=by simp at hjz;rw[Nat.mul_add] at hL3 hjz;omega
   have s1:1+(bJ xs ⟨#[44,32]⟩).size<=9223372036854775807:=by omega
   have s2:1+(bJ xs ⟨#[44,32]⟩).size+1<=9223372036854775807:=by omega
   clear hj hown hbr hjz hL3 hjz2;go_wp2_with (go_at_call 138;refine hjoin.out.mono ?_;rintro e w3 ⟨rfl,hb3⟩)
   go_ret;exact⟨rfl,HBW.out.trans (hb3.mono HBW.out.size)⟩
end
section
open Go Go.RowKit Go.Shelf
attribute [local go_sem ↓] Go.wp_at_zero Go.wp_at_succ
theorem xA (i0 s0:Int) (t0:ByteArray) (la:Option Addr) (ll lc:Nat) (fa:Option Addr) (fl fc:Nat) (l:List Val) (ns:List ByteArray) (fs:List Val) (w:World) (hd:IsVal (· < w.heap.size) w ⟨8,i0,s0,t0,la,ll,lc,fa,fl,fc⟩ (.mk 8 i0 s0 t0 l ns fs))
 (xs:List ByteArray) (hxl:xs.length=ll)
 (L:Nat) (hxL:∀x∈xs,x.data.toList.length<=L) (hLN:ll * (L+3)<=140737488355328)
 (htx:∀j (h:j<l.length) (hj:j<xs.length) (x:VC) (w':World),BB w w'->IsVal (· < w'.heap.size) w' x l[j]->CP 74 #[.agg #[I6 x.k,I6 x.i,I6 x.s,.string x.t,.slice x.la x.ll x.lc,.slice x.fa x.fl x.fc]] w' (Rt (.string xs[j]) w')) :
 CP 74 #[.agg #[I6 8,I6 i0,I6 s0,.string t0,.slice la ll lc,.slice fa fl fc]] w (Rt (.string (⟨#[91]⟩++bJ xs ⟨#[44,32]⟩++⟨#[93]⟩)) w):=by
 obtain⟨⟨_,_,_,_,hok,hll,hfl,hns⟩,hv,hf⟩:=hd;dsimp only at hll hfl hv hf;have hreachl:ll * 88<=140737488351232:=hok.l;have HF:=hid hll;clear hfl hll hf hns;clear hok;obtain⟨ti,hi,hz0,hz1,hz2⟩:=info_parts tF;obtain⟨w0,hw0⟩:=ez (w.alloc (.cells #[I6 8,I6 i0,I6 s0,.string t0,.slice la ll lc,.slice fa fl fc] 36))
 have hb0:BB w w0:=by rw[hw0];exact(bR w).alloc lr _
 have HB0:=hid hb0;clear hb0;have HW0:=hid hw0;clear hw0;have HXL:=hid hxL;clear hxL;have HXN:=hid hxl;clear hxl;have HTXS:=hid htx;clear htx;have HLN:=hid hLN;clear hLN;go_enter Tryz.func74,Tryz.ntmps74
 go_wp2;rw[<-HW0.out]
 go_loopw [3,78] (fun vv i wr=>∃(k:Nat) (v:Value),v=vv/\k<=ll/\i=I6 k/\wr.ownsRow w0.heap.size 9 1 v k ((xs.take k).map Value.string)/\BB w0 wr) (fun _ i _=>ll-(intOf i).toNat)
 case atStart=>exact⟨0,_,rfl,Nat.zero_le _,rfl,World.ownsRow_nil _ _ _ _,Below.refl _ _⟩
 case round =>
  obtain⟨k,v,rfl,hk,rfl,hown,hbr⟩:=hrel;have HBR:=hid hbr;have hbelw:BB w wr:=HB0.out.trans (hbr.mono HB0.out.size);have HBW:=hid hbelw;by_cases hlt:k<ll
  ·rcases hv with rfl | ⟨b,o,rfl,hb,hvs⟩
   ·exfalso;have:=HF.out;simp at this;omega
   ·have hkl:k<l.length:=by have:=HF.out;omega
    have hkx:k<xs.length:=by have:=HXN.out;omega
    obtain⟨x,hx,hxv⟩:=hvs.get k hkl;obtain⟨tz,htz⟩:=ez (xs[k])
    have HXK:=hid htz;have hx':=hx.same (w':=wr) (hbelw.block b hb);obtain⟨hx0,hx1,hx2,hx3,hx4,hx5⟩:=hx';have hlt':(k:Int)<(ll:Int):=by omega
    have hsz:=hbelw.size;have hbwa:BB wr (wr.alloc (Obj.cells #[Value.int IntKind.i64 x.k,Value.int IntKind.i64 x.i,Value.int IntKind.i64 x.s,Value.string x.t,Value.slice x.la x.ll x.lc,Value.slice x.fa x.fl x.fc] 36 (0,0))):=(Below.refl _ wr).alloc lr _;have HBA:=hid hbwa
    have HTX:=hid (htz▸HTXS.out k hkl hkx x (wr.alloc (Obj.cells #[Value.int IntKind.i64 x.k,Value.int IntKind.i64 x.i,Value.int IntKind.i64 x.s,Value.string x.t,Value.slice x.la x.ll x.lc,Value.slice x.fa x.fl x.fc] 36 (0,0))) (hbelw.trans (hbwa.mono hsz)) (hxv.same fun b hb=>⟨by have:=hbwa.size;omega,(hbwa.block b ga).trans (hbelw.block b hb)⟩));have hcap1:k+1<=maxLen:=by unfold maxLen;omega
    have hcap2:(k+1) * 16<=140737488355328:=by omega
    have HOWN:=hid hown;clear hown;clear hx hxv htz hbr hbelw hbwa;go_wp2_with (first
     | (go_at_call 74;refine HTX.out.mono ?_;rintro e w1 ⟨rfl,hb1⟩)
     | (at_builtin;refine wpList_append_own_at _ gh _ _ 75 gh w0.heap.size 9 ti _ 1 16 Tryz.underlying75 hi hz0 hz1 hz2 rfl ga _ _ _ gh ((fM HOWN.out (HBA.out.trans (hb1.mono HBA.out.size))).alloc _) ⟨w1.heap.size,0,none⟩ 1 1 [.string tz] gh gh (cell_one_new _ _ _) gm hcap1 hcap2 (by have:=HBR.out.size;have:=HBA.out.size;have:=hb1.size;simp at *;omega) ?_;intro v' w5 hown' hgrow hnil hloc;have HO2:=hid hown';have HG:=hid hgrow;clear hown' hgrow hnil hloc))
    go_roundw
    case rel =>
     have hst:BB w0 (wr.alloc (Obj.cells #[Value.int IntKind.i64 x.k,Value.int IntKind.i64 x.i,Value.int IntKind.i64 x.s,Value.string x.t,Value.slice x.la x.ll x.lc,Value.slice x.fa x.fl x.fc] 36 (0,0))):=HBR.out.trans (HBA.out.mono HBR.out.size);have hst2:BB w0 w1:=hst.trans (hb1.mono hst.size);refine⟨k+1,_,rfl,by omega,by go_num,?_,(hst2.alloc hst2.size _).grown HG.out (by have:=hst2.size;simp;omega) (fun r e=>pZ HOWN.out r e)⟩;have h:=HO2.out;rw[List.take_succ_eq_append_getElem hkx,<-HXK.out,List.map_append];exact h
    case measure=>simp[intOf];omega
  ·obtain rfl:k=ll:=by omega
   clear hlt;rw[List.take_of_length_le (by have:=HXN.out;omega)] at hown;rcases Nat.eq_zero_or_pos k with h0 | h0
   ·subst h0;have hx0:xs=[]:=List.eq_nil_of_length_eq_zero HXN.out;subst hx0;obtain⟨a,c,rfl⟩:∃a c,v=.slice a 0 c:=by
     rcases hown.2 with ⟨rfl,_⟩ | ⟨g,cap,cur,rfl,_⟩
     ·exact⟨_,_,rfl⟩
     ·exact⟨_,_,rfl⟩
    have hjoin:Hid (CP 138 #[.slice a 0 c] wr (Rt (.string (bJ [] ⟨#[44,32]⟩)) wr)):=hid (tD _ _ _ (fun w' h=>(Tryz.strings_Join_none a c ⟨#[44,32]⟩ w').mono fun e w2 ⟨he,hw⟩=>⟨he,by rw[hw];exact Below.refl _ _⟩));clear hown hbr;have s1:1+(bJ [] ⟨#[44,32]⟩).size<=9223372036854775807:=by decide
    have s2:1+(bJ [] ⟨#[44,32]⟩).size+1<=9223372036854775807:=by decide
    go_wp2_with (go_at_call 138;refine hjoin.out.mono ?_;rintro e w3 ⟨rfl,hb3⟩)
    go_ret;exact⟨rfl,HBW.out.trans (hb3.mono HBW.out.size)⟩
   obtain⟨g,cap',rfl,hj⟩:=kJ hown HXN.out.symm h0 L HXL.out ⟨#[44,32]⟩ HLN.out;have HJ:=hid hj;have hjoin:Hid (CP 138 #[.slice (some ⟨g,0,none⟩) k cap'] wr (Rt (.string (bJ xs ⟨#[44,32]⟩)) wr)):=hid (tD _ _ _ HJ.out);have hjz:=kA xs ⟨#[44,32]⟩ L HXL.out;rw[HXN.out] at hjz;have hL3:=HLN.out;have hjz2:(bJ xs ⟨#[44,32]⟩).size<=140737488355328:=by simp at hjz;rw[Nat.mul_add] at hL3 hjz;omega
   have s1:1+(bJ xs ⟨#[44,32]⟩).size<=9223372036854775807:=by omega
   have s2:1+(bJ xs ⟨#[44,32]⟩).size+1<=9223372036854775807:=by omega
   clear hj hown hbr hjz hL3 hjz2;go_wp2_with (go_at_call 138;refine hjoin.out.mono ?_;rintro e w3 ⟨rfl,hb3⟩)
   go_ret;exact⟨rfl,HBW.out.trans (hb3.mono HBW.out.size)⟩
theorem wY (i0 s0:Int) (t0:ByteArray) (la:Option Addr) (ll lc:Nat) (fa:Option Addr) (fc:Nat) (w:World) :
 CP 74 #[.agg #[I6 9,I6 i0,I6 s0,.string t0,.slice la ll lc,.slice fa 0 fc]] w (Rt (.string (recT [])) w):=by
 obtain⟨w0,hw0⟩:=ez (w.alloc (.cells #[I6 9,I6 i0,I6 s0,.string t0,.slice la ll lc,.slice fa 0 fc] 36))
 have hb0:BB w w0:=by rw[hw0];exact(bR w).alloc lr _
 have HB0:=hid hb0;clear hb0;have HW0:=hid hw0;clear hw0;go_enter Tryz.func74,Tryz.ntmps74
 go_wp2;rw[<-HW0.out]
 go_loopw [3,97] (fun vv i wr=>vv=.slice none 0 0/\i=I6 0/\BB w0 wr) (fun _ i _=>0)
 case atStart=>exact⟨rfl,rfl,Below.refl _ _⟩
 case round =>
  obtain⟨rfl,rfl,hbr⟩:=hrel;have HBW:=hid (HB0.out.trans (hbr.mono HB0.out.size));have hjoin:Hid (CP 138 #[.slice none 0 0] wr (Rt (.string (bJ [] ⟨#[44,32]⟩)) wr)):=hid (tD _ _ _ (fun w' h=>(Tryz.strings_Join_none none 0 ⟨#[44,32]⟩ w').mono fun e w2 ⟨he,hw⟩=>⟨he,by rw[hw];exact Below.refl _ _⟩));clear hbr;have s1:1+(bJ [] ⟨#[44,32]⟩).size<=9223372036854775807:=by decide
  have s2:1+(bJ [] ⟨#[44,32]⟩).size+1<=9223372036854775807:=by decide
  go_wp2_with (go_at_call 138;refine hjoin.out.mono ?_;rintro e w3 ⟨rfl,hb3⟩)
  go_ret;exact⟨rfl,HBW.out.trans (hb3.mono HBW.out.size)⟩
end
section
open Go Go.RowKit Go.Shelf
theorem qF (c:VC) (d:Val) (w:World) (hd:IsVal (· < w.heap.size) w c d) (hT:Tabs w) (t:ByteArray) (ht:t.size<=65536) (h0:aR d=0)
 (htx:∀w',BB w w'->CP 74 #[c.v] w' (Rt (.string t) w')) :
 CP 36 #[c.v] w (Rt (.tuple #[.string t,I6 0]) w):=by
 have hb1:BB w (w.alloc (vObj c)):=(bR w).alloc lr _;have HB1:=hid hb1;have HC:=hid (iU c d w hd hT _ hb1);rw[h0] at HC;have HTX:=hid htx;have HSIX:Hid (∀w2,BB (w.alloc (vObj c)) w2->Six w2 w.heap.size c/\BB w w2):=hid fun w2 h=>⟨sixOf (aB h (heap_alloc_new w _)),hb1.trans (h.mono hb1.size)⟩
 clear hd hT h0 htx hb1;obtain⟨k,i,s,tt,la,ll,lc,fa,fl,fc⟩:=c;dsimp only[vObj,VC.v] at HC HTX HSIX HB1 ⊢;go_enter Tryz.func36,Tryz.ntmps36
 go_wp2_with (first
  | (go_at_call 66;refine HC.out.mono ?_;rintro e w2 ⟨rfl,hb2⟩;obtain⟨⟨j1,j2,j3,j4,j5,j6⟩,hb3⟩:=HSIX.out _ hb2)
  | (go_at_call 74;refine(HTX.out _ hb3).mono ?_;rintro e w4 ⟨rfl,hb4⟩)
  | (go_at_call 73;refine(lZ t ht _).mono ?_;rintro e w5 ⟨rfl,rfl⟩))
 exact bodyPost_ret (v:=.tuple #[.string t,I6 0]) (by simp[results,Tryz.results36,go_sem]) rfl ⟨rfl,hb3.trans (hb4.mono hb3.size)⟩
theorem aCv (d:St) (h1:I64 d.e) (h2:∀x∈d.ps,I64 x) (h3:d.ps.length<=512):(cC d).size<=20000:=by
 have a1:=mB d.e h1;have a2:=kA (d.ps.map aF) ⟨#[46]⟩ 21 (fun x hx=>by
  rw[List.mem_map] at hx;obtain⟨y,hy,rfl⟩:=hx;exact jQ y (h2 y hy))
 rw[List.length_map,show(⟨#[46]⟩:ByteArray).data.toList.length=1 from rfl] at a2;rw[cC,ByteArray.size_append,ByteArray.size_append,show(⟨#[47]⟩:ByteArray).size=1 from rfl];omega
theorem aFw {d:St} (h:bI d=0):d.ps.length<=512:=by
 unfold bI at h;split at h
 ·simp at h
 ·split at h
  ·simp at h
  ·split at h
   ·simp at h
   ·omega
def xT (d:Msg) (t:ByteArray):ByteArray:=cC d.st++⟨#[32]⟩++aF d.m++⟨#[32]⟩++bJ (d.es.map aF) ⟨#[44]⟩++⟨#[32]⟩++t
theorem aJr {d:Msg} (h:eY d=0):bI d.st=0/\d.es≠[]/\d.es.length<=4096:=by
 unfold eY at h;split at h
 ·contradiction
 ·rename_i h1;split at h
  ·simp at h
  ·split at h
   ·simp at h
   ·split at h
    ·simp at h
    ·rename_i h4 h5;exact⟨by simpa using h1,h4,by omega⟩
structure EncAt (w w1:World) (c:MC) (d:Msg):Prop where
 ten:Ten w1 w.heap.size c
 bel:BB w w1
 msg:IsMsg (· < w1.heap.size) w1 c d
 tabs:Tabs w1
theorem qR (c:MC) (d:Msg) (w:World) (hd:IsMsg (· < w.heap.size) w c d) (hT:Tabs w) (w1:World) (hb:BB (w.alloc (mObj c)) w1):EncAt w w1 c d:=by
 have hb0:BB w (w.alloc (mObj c)):=(bR w).alloc lr _;have hbw:BB w w1:=hb0.trans (hb.mono hb0.size);exact⟨tenOf (aB hb (heap_alloc_new w _)),hbw,hd.same fun b h=>⟨Nat.lt_of_lt_of_le h hbw.size,hbw.block b h⟩,hT.below hbw⟩
theorem aBi (c:MC) (d:Msg) (w:World) (hd:IsMsg (· < w.heap.size) w c d) (hT:Tabs w) (t:ByteArray) (h0:eY d=0) (htz:t.size<=65536)
 (hlit:∀w',BB w w'->CP 36 #[c.b.v] w' (Rt (.tuple #[.string t,I6 0]) w')) :
 CP 37 #[c.v] w (Rt (.tuple #[.string (xT d t),I6 0]) w):=by
 obtain⟨ti,hi,hz0,hz1,hz2⟩:=info_parts tF;obtain⟨hs0,hne,hlen⟩:=aJr h0;have HM:=hid (qR c d w hd hT);have HL:=hid hd.es.len;have HR:=hid hd.es.rng;have hn0:0<c.n:=by rw[HL.out];exact List.length_pos_iff.2 hne
 have hn4:c.n<=4096:=by rw[HL.out];exact hlen
 have HMD:=hid hd.m;have hrm:I64 c.m:=by rw[hd.m];exact hd.rm
 have HRM:=hid hrm;have HCK:Hid (∀w1,BB (w.alloc (mObj c)) w1->CP 75 #[c.v] w1 (Rt (I6 0) w1)):=hid fun w1 h=>by
  have q:=qR c d w hd hT w1 h;rw[<-h0];exact fF c d w1 q.msg q.tabs
 have HST:Hid (∀w1,BB (w.alloc (mObj c)) w1->CP 76 #[c.st.v] w1 (Rt (.tuple #[.string (cC d.st),I6 0]) w1)):=hid fun w1 h=>by
  have q:=qR c d w hd hT w1 h;refine(tU c.st d.st w1 q.msg.st q.tabs).mono fun e w' ⟨he,hb⟩=>⟨?_,hb⟩
  rw[he,rG,if_pos hs0]
 have HLT:Hid (∀w1,BB (w.alloc (mObj c)) w1->CP 36 #[c.b.v] w1 (Rt (.tuple #[.string t,I6 0]) w1)):=hid fun w1 h=>hlit w1 (qR c d w hd hT w1 h).bel;have hstz:(cC d.st).size<=20000:=aCv d.st hd.st.re hd.st.ps.rng (aFw hs0);clear hd hT hlit hne hlen hrm h0 hs0;obtain⟨⟨ce,sa,sn,sc⟩,m,a,n,cap,⟨k,i',s,tt,la,ll,lc,fa,fl,fc⟩⟩:=c;have h00:=HM.out _ (Below.refl _ _);have h0t:=h00.ten;dsimp only[Ten,mObj] at h0t;obtain⟨e0,e1,e2,e3,e4,e5,e6,e7,e8,e9⟩:=h0t;clear h00;have hck:=HCK.out _ (Below.refl _ _);have HCK0:=hid hck;dsimp only[mObj,SC.v,VC.v,MC.v] at HM HL HR hn0 hn4 HMD HRM HCK0 HST HLT ⊢
 clear hck HCK;go_enter Tryz.func37,Tryz.ntmps37
 go_wp2_with (first
  | (go_at_call 75;refine HCK0.out.mono ?_;rintro e w2 ⟨rfl,hb2⟩;obtain⟨⟨j0,j1,j2,j3,j4,j5,j6,j7,j8,j9⟩,_,_,_⟩:=HM.out _ hb2;clear e0 e1 e2 e3 e4 e5 e6 e7 e8 e9)
  | (go_at_call 36;refine(HLT.out _ hb2).mono ?_;rintro e w3 ⟨rfl,hb3⟩;have hb3':=hb2.trans (hb3.mono hb2.size);obtain⟨⟨l0,l1,l2,l3,l4,l5,l6,l7,l8,l9⟩,_,_,_⟩:=HM.out _ hb3';clear j0 j1 j2 j3 j4 j5 j6 j7 j8 j9)
  | (go_at_call 76;refine(HST.out _ hb3').mono ?_;rintro e w4 ⟨rfl,hb4⟩;have hb4':=hb3'.trans (hb4.mono hb3'.size);obtain⟨⟨m0,m1,m2,m3,m4,m5,m6,m7,m8,m9⟩,hbw4,hms4,htb4⟩:=HM.out _ hb4';have HP4:=hid hms4.es;have HT4:=hid htb4;clear hms4 htb4 l0 l1 l2 l3 l4 l5 l6 l7 l8 l9))
 go_loopw [9,35] (fun v i wr=>∃k:Nat,k<=n/\i=I6 k/\wr.ownsRow w4.heap.size 9 1 v k (((d.es.take k).map aF).map Value.string)/\BB w4 wr) (fun _ i _=>n-(intOf i).toNat)
 case atStart=>exact⟨0,Nat.zero_le _,rfl,World.ownsRow_nil _ _ _ _,Below.refl _ _⟩
 case round =>
  obtain⟨q,hk,rfl,hown,hbr⟩:=hrel;have HBR:=hid hbr;by_cases hlt:q<n
  ·obtain⟨b,o,rfl,hb,hc⟩:=HP4.out.slot hn0;have hkl:q<d.es.length:=by have:=HL.out;omega
   have hc0:=(World.cell?_of_block (w:=w4) (a:=⟨b,o+q,none⟩) (hbr.block b hb)).trans (hc q hkl);clear hc;obtain⟨z,hz⟩:=ez (d.es[q])
   rw[<-hz] at hc0;have hit:=hid (bZ z (by rw[hz];exact HR.out _ (List.getElem_mem _)) wr (HT4.out.below hbr));have HZ:=hid hz;clear hz;have hlt':(q:Int)<(n:Int):=by omega
   have HOWN:=hid hown;clear hown hbr;have hcap1:q+1<=maxLen:=by unfold maxLen;omega
   have hcap2:(q+1) * 16<=140737488355328:=by omega
   go_wp2_with (first
    | (go_at_call 35;refine hit.out.mono ?_;rintro e w6 ⟨rfl,hb6⟩)
    | (at_builtin;refine wpList_append_own_at _ gh _ _ 75 gh w4.heap.size 9 ti _ 1 16 Tryz.underlying75 hi hz0 hz1 hz2 rfl ga _ _ _ gh ((fM HOWN.out hb6).alloc _) ⟨w6.heap.size,0,none⟩ 1 1 [.string (aF z)] gh gh (cell_one_new _ _ _) gm hcap1 hcap2 (by have:=HBR.out.size;have:=hb6.size;simp;omega) ?_;intro v' w5 hown' hgrow hnil hloc;have HO2:=hid hown';have HG:=hid hgrow;clear hown' hgrow hnil hloc))
   go_roundw
   case rel =>
    refine⟨q+1,by omega,by go_num,?_,?_⟩
    ·have h:=HO2.out;rw[show((d.es.take (q+1)).map aF).map Value.string=((d.es.take q).map aF).map Value.string++[.string (aF z)] by rw[List.take_succ_eq_append_getElem hkl,HZ.out,List.map_append,List.map_append];rfl];exact h
    ·have h3:=HBR.out.trans (hb6.mono HBR.out.size);refine(h3.alloc h3.size _).grown HG.out (by have:=h3.size;simp;omega) fun r hr=>?_;exact pZ HOWN.out r hr
   case measure=>simp[intOf];omega
  ·obtain rfl:q=n:=by omega
   clear hlt;rw[List.take_of_length_le (by have:=HL.out;omega)] at hown;obtain⟨g,cap',rfl,hj⟩:=kJ hown (by rw[List.length_map];exact HL.out) hn0 21 (fun x hx=>by
    rw[List.mem_map] at hx;obtain⟨y,hy,rfl⟩:=hx;exact jQ y (HR.out y hy)) ⟨#[44]⟩ gj
   have HJ:=hid hj;have hit:=hid (bZ m HRM.out wr (HT4.out.below hbr));have z1:=mB m HRM.out;have z2:=kA (d.es.map aF) ⟨#[44]⟩ 21 (fun x hx=>by
    rw[List.mem_map] at hx;obtain⟨y,hy,rfl⟩:=hx;exact jQ y (HR.out y hy))
   rw[List.length_map,<-HL.out] at z2;simp at z2;have s1:(cC d.st).size+1<=9223372036854775807:=by omega
   have s2:(cC d.st).size+1+(aF m).size<=9223372036854775807:=by omega
   have s3:(cC d.st).size+1+(aF m).size+1<=9223372036854775807:=by omega
   have s4:(cC d.st).size+1+(aF m).size+1+(bJ (d.es.map aF) ⟨#[44]⟩).size<=9223372036854775807:=by omega
   have s5:(cC d.st).size+1+(aF m).size+1+(bJ (d.es.map aF) ⟨#[44]⟩).size+1<=9223372036854775807:=by omega
   have s6:(cC d.st).size+1+(aF m).size+1+(bJ (d.es.map aF) ⟨#[44]⟩).size+1+t.size<=9223372036854775807:=by omega
   have c0:=(World.cell?_of_block (w:=w4) (a:=⟨w.heap.size,2,none⟩) (hbr.block _ (World.block_lt_of_cell? _ _ m2))).trans m2;clear hj hown hbr;go_wp2_with (first
    | (go_at_call 35;refine hit.out.mono ?_;rintro e w6 ⟨rfl,hb6⟩)
    | (go_at_call 33;refine(HJ.out _ hb6).mono ?_;rintro e w7 ⟨rfl,hb7⟩))
   have hbz:BB w w7:=by
    have h1:=hbw4.trans (HBR.out.mono hbw4.size);have h2:=h1.trans (hb6.mono h1.size);exact h2.trans (hb7.mono h2.size)
   exact bodyPost_ret (v:=.tuple #[.string (xT d t),I6 0]) (by simp[results,Tryz.results37,go_sem,xT,HMD.out]) rfl ⟨rfl,hbz⟩
end
end Go.Proofs.YtmgpghoamapfgaaGreatDoor
