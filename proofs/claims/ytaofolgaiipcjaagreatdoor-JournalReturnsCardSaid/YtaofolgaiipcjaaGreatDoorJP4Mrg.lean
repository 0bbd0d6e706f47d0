/-
  value.Clone returns a copy of a value in memory of its own; what was there is as it was. Conditions: the value can be read as data (IsVal).
-/
import Derived.Test.YtaofolgaiipcjaaGreatDoorJP3Mrg
import Derived.Deep.AppendLies
import Derived.Deep.LoopGhost
import Derived.Deep.WholeRow
import Derived.Laws.Cells
namespace Go.Proofs.YtaofolgaiipcjaaGreatDoor
set_option linter.unusedVariables false
set_option maxRecDepth 100000
set_option maxHeartbeats 16000000
set_option linter.unusedSimpArgs false
section
open Go Go.RowKit
attribute [local go_sem ↓] Go.wp_at_zero Go.wp_at_succ
theorem infoValue:(Tryz.prog.info? 25).map (fun i=>(i.zero,i.size,i.bytes))=some (some (.agg #[.int .i64 0,.int .i64 0,.int .i64 0,.string ByteArray.empty,.slice none 0 0,.slice none 0 0]),6,88):=by kernel_rfl
theorem infoField:(Tryz.prog.info? 240).map (fun i=>(i.zero,i.size,i.bytes))=some (some (.agg #[.string ByteArray.empty,.int .i64 0,.int .i64 0,.int .i64 0,.string ByteArray.empty,.slice none 0 0,.slice none 0 0]),7,104):=by kernel_rfl
def ClonePost (w:World) (d:Val) (e:Ending) (w':World):Prop:=∃c':VC,e=.returned c'.v∧Below w.heap.size w w'∧IsVal (fun b=>w.heap.size≤b∧b<w'.heap.size) w' c' d
theorem clone_step (N:Nat) (ih:∀n,n<N→∀(d:Val) (c:VC) (w:World),Val.sz d≤n→IsVal (· < w.heap.size) w c d→Calls Tryz.prog 244 #[c.v] w (ClonePost w d))
 (k0 i0 s0:Int) (t0:ByteArray) (la:Option Addr) (ll lc:Nat) (fa:Option Addr) (fl fc:Nat) (l:List Val) (ns:List ByteArray) (fs:List Val) (w:World) (hN:Val.sz (.mk k0 i0 s0 t0 l ns fs)≤N) (hd:IsVal (· < w.heap.size) w ⟨k0,i0,s0,t0,la,ll,lc,fa,fl,fc⟩ (.mk k0 i0 s0 t0 l ns fs)) :
 Calls Tryz.prog 244 #[.agg #[.int .i64 k0,.int .i64 i0,.int .i64 s0,.string t0,.slice la ll lc,.slice fa fl fc]] w (ClonePost w (.mk k0 i0 s0 t0 l ns fs)):=by
 obtain⟨⟨_,_,_,_,hok,hll,hfl,hns⟩,hv,hf⟩:=hd
 dsimp only at hll hfl hv hf
 have hreach:ll * 88≤140737488351232:=hok.l
 have hreachf:fl * 104≤140737488351232:=hok.f
 have HL:=hid hll;clear hll
 have HF:=hid hfl;clear hfl
 have HNS:=hid hns;clear hns
 have HOK:=hid hok;clear hok
 have hszl:∀k (h:k<l.length),Val.sz l[k]<N:=fun k h=>by have:=Val.szs_get l k h;simp only[Val.sz] at hN;omega
 have hszf:∀k (h:k<fs.length),Val.sz fs[k]<N:=fun k h=>by have:=Val.szs_get fs k h;simp only[Val.sz] at hN;omega
 clear hN
 obtain⟨ti,hi,hz0,hz1,hz2⟩:=info_parts infoValue
 obtain⟨tf,hif,hzf0,hzf1,hzf2⟩:=info_parts infoField
 go_enter Tryz.func244,Tryz.ntmps244
 go_wp2
 go_loopw [14] (fun i wr=>∃(k:Nat) (v:Value),k≤ll∧i=.int .i64 k ∧
  wr.heap[w.heap.size+2]?=some (Obj.cells #[Value.int IntKind.i64 k0,Value.int IntKind.i64 i0,Value.int IntKind.i64 s0,Value.string t0,v,.slice none 0 0] 25 (0,0)) ∧
  wr.heap[w.heap.size]?=some (Obj.cells #[Value.int IntKind.i64 k0,Value.int IntKind.i64 i0,Value.int IntKind.i64 s0,Value.string t0,.slice la ll lc,.slice fa fl fc] 25 (0,0)) ∧
  wr.heap[w.heap.size+1]?=some (.cells #[.int .i64 0,.int .i64 0,.int .i64 0,.string ByteArray.empty,.slice none 0 0,.slice none 0 0] 25 (0,0)) ∧
  BuiltV 25 (w.heap.size+3) wr v k l∧Below w.heap.size w wr)
  (fun i _=>ll-(intOf i).toNat)
 case atStart =>
  exact⟨0,_,Nat.zero_le _,rfl,heapNewAt _ _ _ (by simp),heapAlloc _ (heapAlloc _ (heap_alloc_new w _)),heapAlloc _ (heapNewAt _ _ _ (by simp)),BuiltV.nil _ _ _ _,((((Below.refl _ w).alloc (Nat.le_refl _) _).alloc (by simp) _).alloc (by simp;omega) _)⟩
 case round =>
  obtain⟨k,v,hk,rfl,hb3,hb1,hb2,hbu,hbel⟩:=hrel
  have hsz:=hbel.size
  have hlt3:w.heap.size+2<wr.heap.size:=ltOf hb3
  have HB3:=hid hb3;clear hb3
  have HB1:=hid hb1;clear hb1
  have HB2:=hid hb2;clear hb2
  by_cases hlt:k<ll
  ·rcases hv with rfl | ⟨b,o,rfl,hb,hvs⟩
   ·exfalso;have:=HL.out;simp at this;omega
   ·have hkl:k<l.length:=by have:=HL.out;omega
    obtain⟨x,hx,hxv⟩:=hvs.get k hkl
    have hx':=hx.same (w':=wr) (hbel.block b hb)
    obtain⟨hx0,hx1,hx2,hx3,hx4,hx5⟩:=hx'
    have hxv':IsVal (fun b=>b<wr.heap.size) wr x l[k]:=hxv.same fun b hb=>⟨by omega,hbel.block b hb⟩
    have hlt':(k:Int)<(ll:Int):=by omega
    clear hx
    have HC:=hid (fun (w':World) (h:w'.heap[w.heap.size+2]?=some (Obj.cells #[Value.int IntKind.i64 k0,Value.int IntKind.i64 i0,Value.int IntKind.i64 s0,Value.string t0,v,.slice none 0 0] 25 (0,0))∧w'.heap[wr.heap.size]?=some (Obj.cells #[Value.int IntKind.i64 x.k,Value.int IntKind.i64 x.i,Value.int IntKind.i64 x.s,Value.string x.t,Value.slice x.la x.ll x.lc,Value.slice x.fa x.fl x.fc] 25 (0,0))) =>
     (show w'.cell? ⟨w.heap.size+1+1,4,none⟩=some v∧w'.cell? ⟨wr.heap.size,0,none⟩=some (.int .i64 x.k)∧w'.cell? ⟨wr.heap.size,1,none⟩=some (.int .i64 x.i)∧w'.cell? ⟨wr.heap.size,2,none⟩=some (.int .i64 x.s)∧w'.cell? ⟨wr.heap.size,3,none⟩=some (.string x.t)∧w'.cell? ⟨wr.heap.size,4,none⟩=some (.slice x.la x.ll x.lc)∧w'.cell? ⟨wr.heap.size,5,none⟩=some (.slice x.fa x.fl x.fc) from⟨cellOf h.1 4,cellOf h.2 0,cellOf h.2 1,cellOf h.2 2,cellOf h.2 3,cellOf h.2 4,cellOf h.2 5⟩))
    go_wp2
    obtain⟨wa,hwa⟩:∃wa,wa=wr.alloc (Obj.cells #[Value.int IntKind.i64 x.k,Value.int IntKind.i64 x.i,Value.int IntKind.i64 x.s,Value.string x.t,Value.slice x.la x.ll x.lc,Value.slice x.fa x.fl x.fc] 25 (0,0)):=⟨_,rfl⟩
    rw[←hwa]
    have p1:=heapAlloc (Obj.cells #[Value.int IntKind.i64 x.k,Value.int IntKind.i64 x.i,Value.int IntKind.i64 x.s,Value.string x.t,Value.slice x.la x.ll x.lc,Value.slice x.fa x.fl x.fc] 25 (0,0)) HB3.out
    have p2:=heap_alloc_new wr (Obj.cells #[Value.int IntKind.i64 x.k,Value.int IntKind.i64 x.i,Value.int IntKind.i64 x.s,Value.string x.t,Value.slice x.la x.ll x.lc,Value.slice x.fa x.fl x.fc] 25 (0,0))
    rw[←hwa] at p1 p2
    have hxa:IsVal (fun b=>b<wa.drew.heap.size) wa.drew x l[k]:=hxv'.same fun b hb=>by rw[hwa];exact⟨by simp;omega,Below.heap_alloc _ _ _ hb⟩
    obtain⟨cs,hcs,hown,hel⟩:=hbu
    have hvb:=BuiltV.own ⟨cs,hcs,hown,hel⟩
    have HCS:=hid hcs;clear hcs
    have hbwa:Below wr.heap.size wr wa.drew:=by rw[hwa];exact((Below.refl _ wr).alloc (Nat.le_refl _) _).drew
    have hwas:wr.heap.size≤wa.drew.heap.size:=hbwa.size
    have hwas':wr.heap.size<wa.heap.size:=by rw[hwa];simp
    have P1:Hid (wa.drew.heap[w.heap.size+2]?=_):=hid p1;clear p1
    have P2:Hid (wa.drew.heap[wr.heap.size]?=_):=hid p2;clear p2
    clear hwa
    have hcap1:k+1≤maxLen:=by unfold maxLen;omega
    have hcap2:(k+1) * 88≤140737488355328:=by omega
    have hne3:some (w.heap.size+2)≠v.ownBlock:=fun e=>by have:=(hvb _ e.symm).1;omega
    have hnex:some wr.heap.size≠v.ownBlock:=fun e=>by have:=(hvb _ e.symm).2;omega
    refine wp_region_split 6 (fun w'=>w'.heap[w.heap.size+2]?=some (Obj.cells #[Value.int IntKind.i64 k0,Value.int IntKind.i64 i0,Value.int IntKind.i64 s0,Value.string t0,v,.slice none 0 0] 25 (0,0))∧w'.heap[wr.heap.size]?=some (Obj.cells #[Value.int IntKind.i64 x.k,Value.int IntKind.i64 x.i,Value.int IntKind.i64 x.s,Value.string x.t,Value.slice x.la x.ll x.lc,Value.slice x.fa x.fl x.fc] 25 (0,0))) (by kernel_rfl) (by kernel_rfl) (by kernel_rfl) (by decide) (⟨P1.out,P2.out⟩) (fun hS=>?_)
    simp only[List.take_succ_cons,List.take_zero,List.drop_succ_cons,List.drop_zero]
    refine tkQ 0 (v:=?_) ?_ hS ?_;rotate_left;· intro w' hw';have hcells:=HC.out w' hw';go_simp;(try with_reducible rfl)
    simp only[Act.put,pt4,pt5,pt6]
    refine tkQ 1 (v:=?_) ?_ hS ?_;rotate_left;· intro w' hw';have hcells:=HC.out w' hw';go_simp;(try with_reducible rfl)
    simp only[Act.put,pt4,pt5,pt6]
    refine tkQ 2 (v:=?_) ?_ hS ?_;rotate_left;· intro w' hw';have hcells:=HC.out w' hw';go_simp;(try with_reducible rfl)
    simp only[Act.put,pt4,pt5,pt6]
    refine wpAnyH_ready (rs:=[3]) (by kernel_rfl) (by simp) ?_
    refine AllReadyH.cons (o:=_) rfl (fun K hK=>?_) AllReadyH.nil
    go_simp;go_at_call 244;refine(ih (Val.sz l[k]) (hszl k hkl) l[k] x _ (Nat.le_refl _) hxa).mono ?_
    rintro e w1 ⟨c1,rfl,hb1,hv1⟩
    have q1:=hid (heapExt hb1 P1.out)
    have q2:=hid (heapExt hb1 P2.out)
    have hs1:=hb1.size
    simp only[World.size_drew] at hs1
    refine hK.out _ _ (⟨q1.out,q2.out⟩) (fun hS=>?_)
    clear hK K
    (try simp only[Act.put,pt4,pt5,pt6])
    refine wpAnyH_ready (rs:=[4]) (by kernel_rfl) (by simp) ?_
    refine AllReadyH.cons (o:=_) rfl (fun K hK=>?_) AllReadyH.nil
    go_simp
    refine hK.out _ _ (⟨heapAlloc _ q1.out,heapAlloc _ q2.out⟩) (fun hS=>?_)
    clear hK K
    (try simp only[Act.put,pt4,pt5,pt6])
    refine wpAnyH_ready (rs:=[5]) (by kernel_rfl) (by simp) ?_
    refine AllReadyH.cons (o:=_) rfl (fun K hK=>?_) AllReadyH.nil
    refine step_append_lies _ (by rfl) _ _ _ (by rfl) (w.heap.size+3) 25 ti _ 6 88 Tryz.underlying22 hi hz0 hz1 hz2 rfl (by omega) v k (cs.flatMap VC.cs) (by rfl) ((ownExt hown (hbwa.trans (hb1.mono hwas))).alloc _) ⟨w1.heap.size,0,none⟩ 1 1 c1.cs (by rfl) (by rfl) (World.news_of_block (heap_alloc_new w1 _)) (by simp[VC.cs,Value.oneCell']) (by omega) hcap1 hcap2 (by simp;omega) (w1.heap.size+1) (by simp) ?_
    intro gg cap w2 hown2 hgrow hat hlt2
    have r1:=hid (heapGrown hgrow (heapAlloc _ q1.out) hne3)
    have r2:=hid (heapGrown hgrow (heapAlloc _ q2.out) hnex)
    refine hK.out _ _ (⟨r1.out,r2.out⟩) (fun hS=>?_)
    clear hK K
    (try simp only[Act.put,pt4,pt5,pt6])
    refine wpAnyH_done (by kernel_rfl) ?_ _
    (try dsimp only)
    have hc2:w2.cell? ⟨w.heap.size+1+1,4,none⟩=some v:=cellOf r1.out 4
    have hf2:w2.frozen? ⟨w.heap.size+1+1,4,none⟩=false:=freeOf r1.out 4
    clear hS HC
    go_wp2
    go_roundw
    case rel =>
     have hst:Below w.heap.size w w2:=(((hbel.trans (hbwa.mono hsz)).trans (hb1.mono (by omega))).alloc (by omega) _).grown hgrow (by simp;omega) (fun r e=>by have:=(hvb r e).1;omega)
     have hpush:BuiltV 25 (w.heap.size+3) w2 (.slice (some ⟨gg,0,none⟩) (k+1) cap) (k+1) l :=
      BuiltV.push HCS.out (fun j hj hj'=>(hel j hj hj').same fun b hb=>⟨⟨hb.1,by have:=hb.2.1;omega,hb.2.2⟩,(hb1.block b (by have:=hb.2.1;omega)).trans (hbwa.block b hb.2.1)⟩) hkl hv1 (by omega) (fun r e=>by have:=(hvb r e).2;omega) hown2 hgrow hat
     exact⟨k+1,_,by omega,by go_num,heapSet _ r1.out,heapSetOther _ _ (heapGrown hgrow (heapAlloc _ (heapExt hb1 (heapExt hbwa HB1.out))) (fun e=>by have:=(hvb _ e.symm).1;omega)) (by dsimp only;omega),heapSetOther _ _ (heapGrown hgrow (heapAlloc _ (heapExt hb1 (heapExt hbwa HB2.out))) (fun e=>by have:=(hvb _ e.symm).1;omega)) (by dsimp only;omega),
      hpush.set _ _ (by dsimp only;omega),hst.setCell (by simp;omega) _⟩
    case measure=>simp[intOf];omega
  ·obtain⟨ll0,rfl⟩:∃n,n=k:=⟨_,rfl⟩
   obtain rfl:ll0=ll:=by omega
   clear hlt
   obtain⟨al,capl,rfl,hcl,hal,hvb⟩:=hbu.shape
   have hvals:l=[]∨∃b o,al=some ⟨b,o,none⟩∧(w.heap.size+3≤b∧b<wr.heap.size)∧IsVals (fun b=>w.heap.size+3≤b∧b<wr.heap.size) wr b o l:=by
    have h:=hbu;rw[HL.out] at h;exact h.vals
   clear hbu
   obtain⟨vl,hvl⟩:∃vl,vl=Value.slice al ll0 capl:=⟨_,rfl⟩
   rw[←hvl] at HB3
   have hc5:wr.cell? ⟨w.heap.size,5,none⟩=some (.slice fa fl fc):=cellOf HB1.out 5
   go_wp2
   clear hc5
   obtain⟨wl,rfl⟩:∃wl:World,wl=wr:=⟨_,rfl⟩
   have hgo:True:=trivial
   go_loopw [29] (fun i wr=>∃(k:Nat) (v:Value),k≤fl∧i=.int .i64 k ∧
    wr.heap[w.heap.size+2]?=some (Obj.cells #[Value.int IntKind.i64 k0,Value.int IntKind.i64 i0,Value.int IntKind.i64 s0,Value.string t0,vl,v] 25 (0,0)) ∧
    (∀b,b<wl.heap.size→b≠w.heap.size+2→wr.heap[b]?=wl.heap[b]?) ∧
    BuiltF 240 wl.heap.size wr v k ns fs∧Below w.heap.size w wr∧wl.heap.size≤wr.heap.size)
    (fun i _=>fl-(intOf i).toNat)
   case atStart =>
    exact⟨0,_,Nat.zero_le _,rfl,HB3.out,fun _ _ _=>rfl,BuiltF.nil _ _ _ _ _,hbel,Nat.le_refl _⟩
   case round =>
    obtain⟨k,v,hk,rfl,hb3,hkeep,hbu,hbelr,hszr⟩:=hrel
    have HB3r:=hid hb3;clear hb3
    have HK:=hid hkeep;clear hkeep
    by_cases hlt:k<fl
    ·rcases hf with rfl | ⟨b,o,rfl,hb,hvs⟩
     ·exfalso;have:=HF.out;simp at this;omega
     ·have hkl:k<fs.length:=by have:=HF.out;omega
      have hkn:k<ns.length:=by have:=HF.out;have:=HNS.out;omega
      obtain⟨⟨hnm,hnz⟩,x,hx,hxv⟩:=hvs.get HNS.out k hkl hkn
      obtain⟨nm,hnmd⟩:∃nm,nm=ns[k]:=⟨_,rfl⟩
      rw[←hnmd] at hnm hnz
      have HNM:=hid hnmd;clear hnmd
      have hx':=hx.same (w':=wr) (hbelr.block b hb)
      have hnm':wr.cell? ⟨b,o+k * 7,none⟩=some (.string nm):=(World.cell?_of_block (w:=w) (a:=⟨b,o+k * 7,none⟩) (hbelr.block b hb)).trans hnm
      obtain⟨hx0,hx1,hx2,hx3,hx4,hx5⟩:=hx'
      have hxv':IsVal (fun b=>b<wr.heap.size) wr x fs[k]:=hxv.same fun b hb=>⟨by omega,hbelr.block b hb⟩
      have hlt':(k:Int)<(fl:Int):=by omega
      clear hx hnm
      have HC:=hid (fun (w':World) (h:w'.heap[w.heap.size+2]?=some (Obj.cells #[Value.int IntKind.i64 k0,Value.int IntKind.i64 i0,Value.int IntKind.i64 s0,Value.string t0,vl,v] 25 (0,0))∧w'.heap[wr.heap.size]?=some (Obj.cells #[Value.string nm,Value.int IntKind.i64 x.k,Value.int IntKind.i64 x.i,Value.int IntKind.i64 x.s,Value.string x.t,Value.slice x.la x.ll x.lc,Value.slice x.fa x.fl x.fc] 240 (0,0))) =>
       (show w'.cell? ⟨w.heap.size+1+1,5,none⟩=some v∧w'.cell? ⟨wr.heap.size,0,none⟩=some (.string nm)∧w'.cell? ⟨wr.heap.size,1,none⟩=some (.int .i64 x.k)∧w'.cell? ⟨wr.heap.size,2,none⟩=some (.int .i64 x.i)∧w'.cell? ⟨wr.heap.size,3,none⟩=some (.int .i64 x.s)∧w'.cell? ⟨wr.heap.size,4,none⟩=some (.string x.t)∧w'.cell? ⟨wr.heap.size,5,none⟩=some (.slice x.la x.ll x.lc)∧w'.cell? ⟨wr.heap.size,6,none⟩=some (.slice x.fa x.fl x.fc) from⟨cellOf h.1 5,cellOf h.2 0,cellOf h.2 1,cellOf h.2 2,cellOf h.2 3,cellOf h.2 4,cellOf h.2 5,cellOf h.2 6⟩))
      go_wp2
      obtain⟨wa,hwa⟩:∃wa,wa=wr.alloc (Obj.cells #[Value.string nm,Value.int IntKind.i64 x.k,Value.int IntKind.i64 x.i,Value.int IntKind.i64 x.s,Value.string x.t,Value.slice x.la x.ll x.lc,Value.slice x.fa x.fl x.fc] 240 (0,0)):=⟨_,rfl⟩
      rw[←hwa]
      have p1:=heapAlloc (Obj.cells #[Value.string nm,Value.int IntKind.i64 x.k,Value.int IntKind.i64 x.i,Value.int IntKind.i64 x.s,Value.string x.t,Value.slice x.la x.ll x.lc,Value.slice x.fa x.fl x.fc] 240 (0,0)) HB3r.out
      have p2:=heap_alloc_new wr (Obj.cells #[Value.string nm,Value.int IntKind.i64 x.k,Value.int IntKind.i64 x.i,Value.int IntKind.i64 x.s,Value.string x.t,Value.slice x.la x.ll x.lc,Value.slice x.fa x.fl x.fc] 240 (0,0))
      rw[←hwa] at p1 p2
      have hxa:IsVal (fun b=>b<wa.drew.heap.size) wa.drew x fs[k]:=hxv'.same fun b hb=>by rw[hwa];exact⟨by simp;omega,Below.heap_alloc _ _ _ hb⟩
      obtain⟨cs,hcs,hown,hel⟩:=hbu
      have hvbf:=BuiltF.own ⟨cs,hcs,hown,hel⟩
      have HCS:=hid hcs;clear hcs
      have hbwa:Below wr.heap.size wr wa.drew:=by rw[hwa];exact((Below.refl _ wr).alloc (Nat.le_refl _) _).drew
      have hwas:wr.heap.size≤wa.drew.heap.size:=hbwa.size
      have hwas':wr.heap.size<wa.heap.size:=by rw[hwa];simp
      have P1:Hid (wa.drew.heap[w.heap.size+2]?=_):=hid p1;clear p1
      have P2:Hid (wa.drew.heap[wr.heap.size]?=_):=hid p2;clear p2
      clear hwa
      have hcap1:k+1≤maxLen:=by unfold maxLen;omega
      have hcap2:(k+1) * 104≤140737488355328:=by omega
      have hne3:some (w.heap.size+2)≠v.ownBlock:=fun e=>by have:=(hvbf _ e.symm).1;omega
      have hnex:some wr.heap.size≠v.ownBlock:=fun e=>by have:=(hvbf _ e.symm).2;omega
      refine wp_region_split 10 (fun w'=>w'.heap[w.heap.size+2]?=some (Obj.cells #[Value.int IntKind.i64 k0,Value.int IntKind.i64 i0,Value.int IntKind.i64 s0,Value.string t0,vl,v] 25 (0,0))∧w'.heap[wr.heap.size]?=some (Obj.cells #[Value.string nm,Value.int IntKind.i64 x.k,Value.int IntKind.i64 x.i,Value.int IntKind.i64 x.s,Value.string x.t,Value.slice x.la x.ll x.lc,Value.slice x.fa x.fl x.fc] 240 (0,0))) (by kernel_rfl) (by kernel_rfl) (by kernel_rfl) (by decide) (⟨P1.out,P2.out⟩) (fun hS=>?_)
      simp only[List.take_succ_cons,List.take_zero,List.drop_succ_cons,List.drop_zero]
      refine tkQ 0 (v:=?_) ?_ hS ?_;rotate_left;· intro w' hw';have hcells:=HC.out w' hw';go_simp;(try with_reducible rfl)
      simp only[Act.put,pt4,pt5,pt6]
      refine tkQ 1 (v:=?_) ?_ hS ?_;rotate_left;· intro w' hw';have hcells:=HC.out w' hw';go_simp;(try with_reducible rfl)
      simp only[Act.put,pt4,pt5,pt6]
      refine tkQ 2 (v:=?_) ?_ hS ?_;rotate_left;· intro w' hw';have hcells:=HC.out w' hw';go_simp;(try with_reducible rfl)
      simp only[Act.put,pt4,pt5,pt6]
      refine tkQ 3 (v:=?_) ?_ hS ?_;rotate_left;· intro w' hw';have hcells:=HC.out w' hw';go_simp;(try with_reducible rfl)
      simp only[Act.put,pt4,pt5,pt6]
      refine tkQ 4 (v:=?_) ?_ hS ?_;rotate_left;· intro w' hw';have hcells:=HC.out w' hw';go_simp;(try with_reducible rfl)
      simp only[Act.put,pt4,pt5,pt6]
      refine tkQ 5 (v:=?_) ?_ hS ?_;rotate_left;· intro w' hw';have hcells:=HC.out w' hw';go_simp;(try with_reducible rfl)
      simp only[Act.put,pt4,pt5,pt6]
      refine wpAnyH_ready (rs:=[6]) (by kernel_rfl) (by simp) ?_
      refine AllReadyH.cons (o:=_) rfl (fun K hK=>?_) AllReadyH.nil
      go_simp;go_at_call 244;refine(ih (Val.sz fs[k]) (hszf k hkl) fs[k] x _ (Nat.le_refl _) hxa).mono ?_
      rintro e w1 ⟨c1,rfl,hb1,hv1⟩
      have q1:=hid (heapExt hb1 P1.out)
      have q2:=hid (heapExt hb1 P2.out)
      have hs1:=hb1.size
      simp only[World.size_drew] at hs1
      refine hK.out _ _ (⟨q1.out,q2.out⟩) (fun hS=>?_)
      clear hK K
      (try simp only[Act.put,pt4,pt5,pt6])
      refine tkQ 7 (v:=?_) ?_ hS ?_;rotate_left;· intro w' hw';have hcells:=HC.out w' hw';go_simp;(try with_reducible rfl)
      simp only[Act.put,pt4,pt5,pt6]
      refine wpAnyH_ready (rs:=[8]) (by kernel_rfl) (by simp) ?_
      refine AllReadyH.cons (o:=_) rfl (fun K hK=>?_) AllReadyH.nil
      go_simp
      refine hK.out _ _ (⟨heapAlloc _ q1.out,heapAlloc _ q2.out⟩) (fun hS=>?_)
      clear hK K
      (try simp only[Act.put,pt4,pt5,pt6])
      refine wpAnyH_ready (rs:=[9]) (by kernel_rfl) (by simp) ?_
      refine AllReadyH.cons (o:=_) rfl (fun K hK=>?_) AllReadyH.nil
      refine step_append_lies _ (by rfl) _ _ _ (by rfl) wl.heap.size 240 tf _ 7 104 Tryz.underlying23 hif hzf0 hzf1 hzf2 rfl (by omega) v k (cs.flatMap FC.cs) (by rfl) ((ownExt hown (hbwa.trans (hb1.mono hwas))).alloc _) ⟨w1.heap.size,0,none⟩ 1 1 (FC.cs (nm,c1)) (by rfl) (by rfl) (World.news_of_block (heap_alloc_new w1 _)) (by simp[FC.cs,VC.cs,Value.oneCell']) (by omega) hcap1 hcap2 (by simp;omega) (w1.heap.size+1) (by simp) ?_
      intro gg cap w2 hown2 hgrow hat hlt2
      have r1:=hid (heapGrown hgrow (heapAlloc _ q1.out) hne3)
      have r2:=hid (heapGrown hgrow (heapAlloc _ q2.out) hnex)
      refine hK.out _ _ (⟨r1.out,r2.out⟩) (fun hS=>?_)
      clear hK K
      (try simp only[Act.put,pt4,pt5,pt6])
      refine wpAnyH_done (by kernel_rfl) ?_ _
      (try dsimp only)
      have hc2:w2.cell? ⟨w.heap.size+1+1,5,none⟩=some v:=cellOf r1.out 5
      have hf2:w2.frozen? ⟨w.heap.size+1+1,5,none⟩=false:=freeOf r1.out 5
      clear hS HC
      go_wp2
      go_roundw
      case rel =>
       have hst:Below w.heap.size w w2:=(((hbelr.trans (hbwa.mono (by omega))).trans (hb1.mono (by omega))).alloc (by omega) _).grown hgrow (by simp;omega) (fun r e=>by have:=(hvbf r e).1;omega)
       have hpush:BuiltF 240 wl.heap.size w2 (.slice (some ⟨gg,0,none⟩) (k+1) cap) (k+1) ns fs :=
        BuiltF.push HCS.out (fun j hj hj' hn=>⟨(hel j hj hj' hn).1,(hel j hj hj' hn).2.same fun b hb=>⟨⟨hb.1,by have:=hb.2.1;omega,hb.2.2⟩,(hb1.block b (by have:=hb.2.1;omega)).trans (hbwa.block b hb.2.1)⟩⟩) hkl hkn HNM.out hv1 (by omega) (fun r e=>by have:=(hvbf r e).2;omega) hown2 hgrow hat
       refine⟨k+1,_,by omega,by go_num,heapSet _ r1.out,fun b hb hne=>?_,hpush.set _ _ (by simp;omega),hst.setCell (by simp;omega) _,by have:=hgrow.size;simp at this;simp[World.setCell];omega⟩
       rw[Below.heap_setCell _ _ _ _ (by simpa using hne),hgrow.block b (by simp;omega) (fun e=>by have:=(hvbf _ e.symm).1;omega),Below.heap_alloc _ _ _ (by omega),hb1.block b (by omega),hbwa.block b (by omega)]
       exact HK.out b hb hne
      case measure=>simp[intOf];omega
    ·obtain rfl:k=fl:=by omega
     clear hlt
     obtain⟨af,capf,rfl,hcf,haf,hvbf⟩:=hbu.shape
     have hflds:fs=[]∨∃b o,af=some ⟨b,o,none⟩∧(wl.heap.size≤b∧b<wr.heap.size)∧IsFlds (fun b=>wl.heap.size≤b∧b<wr.heap.size) wr b o ns fs:=by
      have h:=hbu;rw[HF.out] at h
      refine h.flds HNS.out fun n hn=>?_
      rcases hf with rfl | ⟨b,o,rfl,hb,hvs⟩
      ·have:=HNS.out;simp at this;subst this;cases hn
      ·obtain⟨j,hj,rfl⟩:=List.getElem_of_mem hn
       exact(hvs.get HNS.out j (by have:=HNS.out;omega) hj).1.2
     clear hbu
     have hd3:=HB3r.out
     have hd2:wr.heap[w.heap.size+1]?=_:=(HK.out _ (by omega) (by omega)).trans HB2.out
     rw[hvl] at hd3
     have e0:wr.cell? ⟨w.heap.size+1+1,0,none⟩=some (.int .i64 k0):=cellOf hd3 0
     have e1:wr.cell? ⟨w.heap.size+1+1,1,none⟩=some (.int .i64 i0):=cellOf hd3 1
     have e2:wr.cell? ⟨w.heap.size+1+1,2,none⟩=some (.int .i64 s0):=cellOf hd3 2
     have e3:wr.cell? ⟨w.heap.size+1+1,3,none⟩=some (.string t0):=cellOf hd3 3
     have e4:=cellOf hd3 4
     have e5:=cellOf hd3 5
     have g0:=cellOf hd2 0
     have g1:=cellOf hd2 1
     have g2:=cellOf hd2 2
     have g3:=cellOf hd2 3
     have g4:=cellOf hd2 4
     have g5:=cellOf hd2 5
     have z0:=freeOf hd2 0
     have z1:=freeOf hd2 1
     have z2:=freeOf hd2 2
     have z3:=freeOf hd2 3
     have z4:=freeOf hd2 4
     have z5:=freeOf hd2 5
     go_wp2
     refine(fun (Wf:World) (h1:Wf.heap[w.heap.size+1]?=some (Obj.cells #[Value.int IntKind.i64 k0,Value.int IntKind.i64 i0,Value.int IntKind.i64 s0,Value.string t0,.slice al ll0 capl,.slice af k capf] 25 (0,0))) (h2:∀b,b≠w.heap.size+1→Wf.heap[b]?=wr.heap[b]?) (h3:Below w.heap.size w Wf) (h4:Wf.heap.size=wr.heap.size)=>?_:∀Wf:World,_→_→_→_→bodyPost _ _ _ _ _ Wf) _
      (heapSet _ (heapSet _ (heapSet _ (heapSet _ (heapSet _ (heapSet _ hd2)))))) (fun b hb=>((Below.heap_setCell _ _ _ _ (by exact hb)).trans ((Below.heap_setCell _ _ _ _ (by exact hb)).trans ((Below.heap_setCell _ _ _ _ (by exact hb)).trans ((Below.heap_setCell _ _ _ _ (by exact hb)).trans ((Below.heap_setCell _ _ _ _ (by exact hb)).trans (Below.heap_setCell _ _ _ _ (by exact hb)))))))) ((((((hbelr.setCell (by simp) _).setCell (by simp) _).setCell (by simp) _).setCell (by simp) _).setCell (by simp) _).setCell (by simp) _) (by simp[World.setCell])
     refine bodyPost_ret (v:=VC.v ⟨k0,i0,s0,t0,al,ll0,capl,af,k,capf⟩) (by simp[results,Tryz.results244,go_sem,cellOf h1]) rfl ⟨_,rfl,h3,⟨⟨rfl,rfl,rfl,rfl,⟨HOK.out.k,HOK.out.i,HOK.out.s,HOK.out.t,HOK.out.l,HOK.out.f,hcl,hcf⟩,HL.out,HF.out,HNS.out⟩,?_,?_⟩⟩
     ·rcases hvals with rfl | ⟨b,o,rfl,hb,hvv⟩
      ·exact .inl rfl
      ·refine .inr ⟨b,o,rfl,⟨by omega,by omega⟩,hvv.same (fun b hb=>⟨⟨by omega,by omega⟩,(h2 b (by omega)).trans (HK.out b hb.2 (by omega))⟩) ((h2 b (by omega)).trans (HK.out b hb.2 (by omega)))⟩
     ·rcases hflds with rfl | ⟨b,o,rfl,hb,hvv⟩
      ·exact .inl rfl
      ·exact .inr ⟨b,o,rfl,⟨by omega,by omega⟩,hvv.same (fun b hb=>⟨⟨by omega,by omega⟩,h2 b (by omega)⟩) (h2 b (by omega))⟩
theorem clone_any:∀(n:Nat) (d:Val) (c:VC) (w:World),Val.sz d≤n→IsVal (· < w.heap.size) w c d→Calls Tryz.prog 244 #[c.v] w (ClonePost w d):=by
 intro n
 induction n using Nat.strongRecOn with
 | _ n ih =>
   intro d c w hn hd
   obtain⟨k,i,s,t,l,ns,fs⟩:=d
   obtain⟨k0,i0,s0,t0,la,ll,lc,fa,fl,fc⟩:=c
   obtain⟨rfl,rfl,rfl,rfl,_⟩:=hd.1
   exact clone_step n ih _ _ _ _ la ll lc fa fl fc l ns fs w hn hd
theorem clone_call {d:Val} {c:VC} {w:World} (hd:IsVal (· < w.heap.size) w c d):Calls Tryz.prog 244 #[c.v] w (ClonePost w d):=clone_any _ d c w (Nat.le_refl _) hd
end
section
open Go Go.RowKit
structure Ef where
 k:Int
 nm:ByteArray
 nu:Int
 tx:ByteArray
 st:St
 rs:St
 sv:ByteArray
 ca:Int
 un:Bool
 bd:Val
 nd:ByteArray
structure EfC where
 k:Int
 nm:ByteArray
 nu:Int
 tx:ByteArray
 st:SC
 rs:SC
 sv:ByteArray
 ca:Int
 un:Bool
 bd:VC
 nd:ByteArray
def EfC.cs (c:EfC):List Value:=[.int .i64 c.k,.string c.nm,.int .i64 c.nu,.string c.tx,.int .i64 c.st.e,.slice c.st.a c.st.n c.st.c,.int .i64 c.rs.e,.slice c.rs.a c.rs.n c.rs.c,.string c.sv,.int .i64 c.ca,.bool c.un,
 .int .i64 c.bd.k,.int .i64 c.bd.i,.int .i64 c.bd.s,.string c.bd.t,.slice c.bd.la c.bd.ll c.bd.lc,.slice c.bd.fa c.bd.fl c.bd.fc,.string c.nd]
abbrev EfC.v (c:EfC):Value:=.agg #[.int .i64 c.k,.string c.nm,.int .i64 c.nu,.string c.tx,.int .i64 c.st.e,.slice c.st.a c.st.n c.st.c,.int .i64 c.rs.e,.slice c.rs.a c.rs.n c.rs.c,.string c.sv,.int .i64 c.ca,.bool c.un,
 .int .i64 c.bd.k,.int .i64 c.bd.i,.int .i64 c.bd.s,.string c.bd.t,.slice c.bd.la c.bd.ll c.bd.lc,.slice c.bd.fa c.bd.fl c.bd.fc,.string c.nd]
structure IsEf (S:Nat→Prop) (w:World) (c:EfC) (d:Ef):Prop where
 k:c.k=d.k
 nm:c.nm=d.nm
 nmz:c.nm.size≤140737488351232
 nu:c.nu=d.nu
 tx:c.tx=d.tx
 txz:c.tx.size≤140737488351232
 st:IsSt S w c.st d.st
 rs:IsSt S w c.rs d.rs
 sv:c.sv=d.sv
 ca:c.ca=d.ca
 rca:I64 c.ca
 un:c.un=d.un
 bd:IsVal S w c.bd d.bd
 nd:c.nd=d.nd
 ndz:c.nd.size≤140737488351232
theorem IsEf.same {S S':Nat→Prop} {w w':World} {c:EfC} {d:Ef} (hs:∀b,S b→S' b∧w'.heap[b]?=w.heap[b]?) (h:IsEf S w c d):IsEf S' w' c d :=
 ⟨h.k,h.nm,h.nmz,h.nu,h.tx,h.txz,h.st.same hs,h.rs.same hs,h.sv,h.ca,h.rca,h.un,h.bd.same hs,h.nd,h.ndz⟩
@[reducible] def efK:Kit EfC Ef:=⟨18,248,EfC.cs,fun _=>rfl,by decide,IsEf,fun hs h=>h.same hs⟩
structure Eff18 (w:World) (b o:Nat) (c:EfC):Prop where
 c0:w.cell? ⟨b,o,none⟩=some (.int .i64 c.k)
 c1:w.cell? ⟨b,o+1,none⟩=some (.string c.nm)
 c2:w.cell? ⟨b,o+2,none⟩=some (.int .i64 c.nu)
 c3:w.cell? ⟨b,o+3,none⟩=some (.string c.tx)
 c4:w.cell? ⟨b,o+4,none⟩=some (.int .i64 c.st.e)
 c5:w.cell? ⟨b,o+5,none⟩=some (.slice c.st.a c.st.n c.st.c)
 c6:w.cell? ⟨b,o+6,none⟩=some (.int .i64 c.rs.e)
 c7:w.cell? ⟨b,o+7,none⟩=some (.slice c.rs.a c.rs.n c.rs.c)
 c8:w.cell? ⟨b,o+8,none⟩=some (.string c.sv)
 c9:w.cell? ⟨b,o+9,none⟩=some (.int .i64 c.ca)
 c10:w.cell? ⟨b,o+10,none⟩=some (.bool c.un)
 c11:w.cell? ⟨b,o+11,none⟩=some (.int .i64 c.bd.k)
 c12:w.cell? ⟨b,o+12,none⟩=some (.int .i64 c.bd.i)
 c13:w.cell? ⟨b,o+13,none⟩=some (.int .i64 c.bd.s)
 c14:w.cell? ⟨b,o+14,none⟩=some (.string c.bd.t)
 c15:w.cell? ⟨b,o+15,none⟩=some (.slice c.bd.la c.bd.ll c.bd.lc)
 c16:w.cell? ⟨b,o+16,none⟩=some (.slice c.bd.fa c.bd.fl c.bd.fc)
 c17:w.cell? ⟨b,o+17,none⟩=some (.string c.nd)
/-! The load of a few cells unfolds,when the walk's own unfolding of loadCellsFrom is taken out (so that a load of 18 cells stands still). -/
theorem lcf0 (a:Addr) (i:Nat) (acc:Array Value):loadCellsFrom a i 0 acc=pure acc:=rfl
theorem lcf1 (a:Addr) (i:Nat) (acc:Array Value):loadCellsFrom a i 1 acc=(do let v ←load (a.add i);loadCellsFrom a (i+1) 0 (acc.push v)):=rfl
theorem lcf2 (a:Addr) (i:Nat) (acc:Array Value):loadCellsFrom a i 2 acc=(do let v ←load (a.add i);loadCellsFrom a (i+1) 1 (acc.push v)):=rfl
theorem lcf3 (a:Addr) (i:Nat) (acc:Array Value):loadCellsFrom a i 3 acc=(do let v ←load (a.add i);loadCellsFrom a (i+1) 2 (acc.push v)):=rfl
theorem lcf4 (a:Addr) (i:Nat) (acc:Array Value):loadCellsFrom a i 4 acc=(do let v ←load (a.add i);loadCellsFrom a (i+1) 3 (acc.push v)):=rfl
theorem lcf5 (a:Addr) (i:Nat) (acc:Array Value):loadCellsFrom a i 5 acc=(do let v ←load (a.add i);loadCellsFrom a (i+1) 4 (acc.push v)):=rfl
theorem lcf6 (a:Addr) (i:Nat) (acc:Array Value):loadCellsFrom a i 6 acc=(do let v ←load (a.add i);loadCellsFrom a (i+1) 5 (acc.push v)):=rfl
theorem lcf7 (a:Addr) (i:Nat) (acc:Array Value):loadCellsFrom a i 7 acc=(do let v ←load (a.add i);loadCellsFrom a (i+1) 6 (acc.push v)):=rfl
theorem stc0 (a:Addr) (i:Nat):storeCells a [] i=pure ():=rfl
theorem stc1 (a:Addr) (i:Nat) (v:Value):storeCells a [v] i=(do store (a.add i) v;storeCells a [] (i+1)):=rfl
end
end Go.Proofs.YtaofolgaiipcjaaGreatDoor
