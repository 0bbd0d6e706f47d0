/- A part. -/
import Derived.Test.YtaofolgaiipcjaaGreatDoorSD1Mrg
import Derived.Deep.AppendLies
import Derived.Deep.LoopGhost
namespace Go.Proofs.YtaofolgaiipcjaaGreatDoor
set_option linter.unusedVariables false
set_option maxRecDepth 100000
set_option maxHeartbeats 16000000
set_option linter.unusedSimpArgs false
open Go Go.RowKit
attribute [local go_sem ↓] Go.wp_at_zero Go.wp_at_succ
theorem vF:(Tryz.prog.info? 25).map (fun i=>(i.zero,i.size,i.bytes))=some (some (.agg #[.int .i64 0,.int .i64 0,.int .i64 0,.string ByteArray.empty,.slice none 0 0,.slice none 0 0]),6,88):=by kernel_rfl
theorem jFi:(Tryz.prog.info? 240).map (fun i=>(i.zero,i.size,i.bytes))=some (some (.agg #[.string ByteArray.empty,.int .i64 0,.int .i64 0,.int .i64 0,.string ByteArray.empty,.slice none 0 0,.slice none 0 0]),7,104):=by kernel_rfl
def yX (w:World) (d:Val) (e:Ending) (w':World):Prop:=∃c':VC,e=.returned c'.v∧Below w.heap.size w w'∧IsVal (fun b=>w.heap.size≤b∧b<w'.heap.size) w' c' d
theorem jKr (N:Nat) (ih:∀n,n<N→∀(d:Val) (c:VC) (w:World),Val.sz d≤n→IsVal (· < w.heap.size) w c d→Calls Tryz.prog 244 #[c.v] w (yX w d))
 (k0 i0 s0:Int) (t0:ByteArray) (la:Option Addr) (ll lc:Nat) (fa:Option Addr) (fl fc:Nat) (l:List Val) (ns:List ByteArray) (fs:List Val) (w:World) (hN:Val.sz (.mk k0 i0 s0 t0 l ns fs)≤N) (hd:IsVal (· < w.heap.size) w ⟨k0,i0,s0,t0,la,ll,lc,fa,fl,fc⟩ (.mk k0 i0 s0 t0 l ns fs)) :
 Calls Tryz.prog 244 #[.agg #[.int .i64 k0,.int .i64 i0,.int .i64 s0,.string t0,.slice la ll lc,.slice fa fl fc]] w (yX w (.mk k0 i0 s0 t0 l ns fs)):=by
 obtain⟨⟨_,_,_,_,hok,hll,hfl,hns⟩,hv,hf⟩:=hd;dsimp only at hll hfl hv hf;have hreach:ll * 88≤140737488351232:=hok.l;have hreachf:fl * 104≤140737488351232:=hok.f;have HL:=hid hll;clear hll;have HF:=hid hfl;clear hfl;have HNS:=hid hns;clear hns;have HOK:=hid hok;clear hok;have hszl:∀k (h:k<l.length),Val.sz l[k]<N:=fun k h=>by have:=Val.szs_get l k h;simp only[Val.sz] at hN;omega
 have hszf:∀k (h:k<fs.length),Val.sz fs[k]<N:=fun k h=>by have:=Val.szs_get fs k h;simp only[Val.sz] at hN;omega
 clear hN;obtain⟨ti,hi,hz0,hz1,hz2⟩:=info_parts vF;obtain⟨tf,hif,hzf0,hzf1,hzf2⟩:=info_parts jFi;go_enter Tryz.func244,Tryz.ntmps244
 go_wp2
 go_loopw [14] (fun i wr=>∃(k:Nat) (v:Value),k≤ll∧i=.int .i64 k ∧
  wr.heap[w.heap.size+2]?=some (Obj.cells #[Value.int IntKind.i64 k0,Value.int IntKind.i64 i0,Value.int IntKind.i64 s0,Value.string t0,v,.slice none 0 0] 25 (0,0)) ∧
  wr.heap[w.heap.size]?=some (Obj.cells #[Value.int IntKind.i64 k0,Value.int IntKind.i64 i0,Value.int IntKind.i64 s0,Value.string t0,.slice la ll lc,.slice fa fl fc] 25 (0,0)) ∧
  wr.heap[w.heap.size+1]?=some (.cells #[.int .i64 0,.int .i64 0,.int .i64 0,.string ByteArray.empty,.slice none 0 0,.slice none 0 0] 25 (0,0)) ∧
  BuiltV 25 (w.heap.size+3) wr v k l∧Below w.heap.size w wr)
  (fun i _=>ll-(intOf i).toNat)
 case atStart =>
  exact⟨0,_,Nat.zero_le _,rfl,jK _ _ _ (by simp),jD _ (jD _ (heap_alloc_new w _)),jD _ (jK _ _ _ (by simp)),BuiltV.nil _ _ _ _,((((bR w).alloc lr _).alloc (by simp) _).alloc (by simp;omega) _)⟩
 case round =>
  obtain⟨k,v,hk,rfl,hb3,hb1,hb2,hbu,hbel⟩:=hrel;have hsz:=hbel.size;have hlt3:w.heap.size+2<wr.heap.size:=ltOf hb3;have HB3:=hid hb3;clear hb3;have HB1:=hid hb1;clear hb1;have HB2:=hid hb2;clear hb2;by_cases hlt:k<ll
  ·rcases hv with rfl | ⟨b,o,rfl,hb,hvs⟩
   ·exfalso;have:=HL.out;simp at this;omega
   ·have hkl:k<l.length:=by have:=HL.out;omega
    obtain⟨x,hx,hxv⟩:=hvs.get k hkl;have hx':=hx.same (w':=wr) (hbel.block b hb);obtain⟨hx0,hx1,hx2,hx3,hx4,hx5⟩:=hx';have hxv':IsVal (fun b=>b<wr.heap.size) wr x l[k]:=hxv.same fun b hb=>⟨by omega,hbel.block b hb⟩
    have hlt':(k:Int)<(ll:Int):=by omega
    clear hx;have HC:=hid (fun (w':World) (h:w'.heap[w.heap.size+2]?=some (Obj.cells #[Value.int IntKind.i64 k0,Value.int IntKind.i64 i0,Value.int IntKind.i64 s0,Value.string t0,v,.slice none 0 0] 25 (0,0))∧w'.heap[wr.heap.size]?=some (Obj.cells #[Value.int IntKind.i64 x.k,Value.int IntKind.i64 x.i,Value.int IntKind.i64 x.s,Value.string x.t,Value.slice x.la x.ll x.lc,Value.slice x.fa x.fl x.fc] 25 (0,0))) =>
     (show w'.cell? ⟨w.heap.size+1+1,4,none⟩=some v∧w'.cell? ⟨wr.heap.size,0,none⟩=some (.int .i64 x.k)∧w'.cell? ⟨wr.heap.size,1,none⟩=some (.int .i64 x.i)∧w'.cell? ⟨wr.heap.size,2,none⟩=some (.int .i64 x.s)∧w'.cell? ⟨wr.heap.size,3,none⟩=some (.string x.t)∧w'.cell? ⟨wr.heap.size,4,none⟩=some (.slice x.la x.ll x.lc)∧w'.cell? ⟨wr.heap.size,5,none⟩=some (.slice x.fa x.fl x.fc) from⟨jA h.1 4,jA h.2 0,jA h.2 1,jA h.2 2,jA h.2 3,jA h.2 4,jA h.2 5⟩))
    go_wp2;obtain⟨wa,hwa⟩:∃wa,wa=wr.alloc (Obj.cells #[Value.int IntKind.i64 x.k,Value.int IntKind.i64 x.i,Value.int IntKind.i64 x.s,Value.string x.t,Value.slice x.la x.ll x.lc,Value.slice x.fa x.fl x.fc] 25 (0,0)):=⟨_,rfl⟩
    rw[←hwa];have p1:=jD (Obj.cells #[Value.int IntKind.i64 x.k,Value.int IntKind.i64 x.i,Value.int IntKind.i64 x.s,Value.string x.t,Value.slice x.la x.ll x.lc,Value.slice x.fa x.fl x.fc] 25 (0,0)) HB3.out;have p2:=heap_alloc_new wr (Obj.cells #[Value.int IntKind.i64 x.k,Value.int IntKind.i64 x.i,Value.int IntKind.i64 x.s,Value.string x.t,Value.slice x.la x.ll x.lc,Value.slice x.fa x.fl x.fc] 25 (0,0));rw[←hwa] at p1 p2;have hxa:IsVal (fun b=>b<wa.drew.heap.size) wa.drew x l[k]:=hxv'.same fun b hb=>by rw[hwa];exact⟨by simp;omega,Below.heap_alloc _ _ _ hb⟩
    obtain⟨cs,hcs,hown,hel⟩:=hbu;have hvb:=BuiltV.own ⟨cs,hcs,hown,hel⟩;have HCS:=hid hcs;clear hcs;have hbwa:Below wr.heap.size wr wa.drew:=by rw[hwa];exact((Below.refl _ wr).alloc lr _).drew
    have hwas:wr.heap.size≤wa.drew.heap.size:=hbwa.size;have hwas':wr.heap.size<wa.heap.size:=by rw[hwa];simp
    have P1:Hid (wa.drew.heap[w.heap.size+2]?=_):=hid p1;clear p1;have P2:Hid (wa.drew.heap[wr.heap.size]?=_):=hid p2;clear p2;clear hwa;have hcap1:k+1≤maxLen:=by unfold maxLen;omega
    have hcap2:(k+1) * 88≤140737488355328:=by omega
    have hne3:some (w.heap.size+2)≠v.ownBlock:=fun e=>by have:=(hvb _ e.symm).1;omega
    have hnex:some wr.heap.size≠v.ownBlock:=fun e=>by have:=(hvb _ e.symm).2;omega
    refine jF 6 (fun w'=>w'.heap[w.heap.size+2]?=some (Obj.cells #[Value.int IntKind.i64 k0,Value.int IntKind.i64 i0,Value.int IntKind.i64 s0,Value.string t0,v,.slice none 0 0] 25 (0,0))∧w'.heap[wr.heap.size]?=some (Obj.cells #[Value.int IntKind.i64 x.k,Value.int IntKind.i64 x.i,Value.int IntKind.i64 x.s,Value.string x.t,Value.slice x.la x.ll x.lc,Value.slice x.fa x.fl x.fc] 25 (0,0))) (by kernel_rfl) (by kernel_rfl) (by kernel_rfl) (by decide) (⟨P1.out,P2.out⟩) (fun hS=>?_);simp only[dm,dn,dp,dq]
    refine tkQ 0 (v:=?_) ?_ hS ?_;rotate_left;· intro w' hw';have hcells:=HC.out w' hw';go_simp;(try rfl)
    simp only[Act.put,pr];refine tkQ 1 (v:=?_) ?_ hS ?_;rotate_left;· intro w' hw';have hcells:=HC.out w' hw';go_simp;(try rfl)
    simp only[Act.put,pr];refine tkQ 2 (v:=?_) ?_ hS ?_;rotate_left;· intro w' hw';have hcells:=HC.out w' hw';go_simp;(try rfl)
    simp only[Act.put,pr];refine ry [3] ?_;refine arQ fun K hK=>?_;go_simp;go_at_call 244;refine(ih (Val.sz l[k]) (hszl k hkl) l[k] x _ lr hxa).mono ?_;rintro e w1 ⟨c1,rfl,hb1,hv1⟩;have q1:=hid (jB hb1 P1.out);have q2:=hid (jB hb1 P2.out);have hs1:=hb1.size;simp only[World.size_drew] at hs1;refine hK.out _ _ (⟨q1.out,q2.out⟩) (fun hS=>?_);clear hK K
    (try simp only[Act.put,pr])
    refine ry [4] ?_;refine arQ fun K hK=>?_;go_simp;refine hK.out _ _ (⟨jD _ q1.out,jD _ q2.out⟩) (fun hS=>?_);clear hK K
    (try simp only[Act.put,pr])
    refine ry [5] ?_;refine arQ fun K hK=>?_;refine step_append_lies _ (by rfl) _ _ _ (by rfl) (w.heap.size+3) 25 ti _ 6 88 Tryz.underlying22 hi hz0 hz1 hz2 rfl (by omega) v k (cs.flatMap VC.cs) (by rfl) ((nR hown (hbwa.trans (hb1.mono hwas))).alloc _) ⟨w1.heap.size,0,none⟩ 1 1 c1.cs (by rfl) (by rfl) (World.news_of_block (heap_alloc_new w1 _)) (by simp[VC.cs,Value.oneCell']) (by omega) hcap1 hcap2 (by simp;omega) (w1.heap.size+1) (by simp) ?_;intro gg cap w2 hown2 hgrow hat hlt2;have r1:=hid (jL hgrow (jD _ q1.out) hne3);have r2:=hid (jL hgrow (jD _ q2.out) hnex)
    refine hK.out _ _ (⟨r1.out,r2.out⟩) (fun hS=>?_);clear hK K
    (try simp only[Act.put,pr])
    refine wpAnyH_done (by kernel_rfl) ?_ _
    (try dsimp only)
    have hc2:w2.cell? ⟨w.heap.size+1+1,4,none⟩=some v:=jA r1.out 4;have hf2:w2.frozen? ⟨w.heap.size+1+1,4,none⟩=false:=jC r1.out 4;clear hS HC;go_wp2
    go_roundw
    case rel =>
     have hst:Below w.heap.size w w2:=(((hbel.trans (hbwa.mono hsz)).trans (hb1.mono (by omega))).alloc (by omega) _).grown hgrow (by simp;omega) (fun r e=>by have:=(hvb r e).1;omega);have hpush:BuiltV 25 (w.heap.size+3) w2 (.slice (some ⟨gg,0,none⟩) (k+1) cap) (k+1) l :=
      BuiltV.push HCS.out (fun j hj hj'=>(hel j hj hj').same fun b hb=>⟨⟨hb.1,by have:=hb.2.1;omega,hb.2.2⟩,(hb1.block b (by have:=hb.2.1;omega)).trans (hbwa.block b hb.2.1)⟩) hkl hv1 (by omega) (fun r e=>by have:=(hvb r e).2;omega) hown2 hgrow hat
     exact⟨k+1,_,by omega,by go_num,jE _ r1.out,kE _ _ (jL hgrow (jD _ (jB hb1 (jB hbwa HB1.out))) (fun e=>by have:=(hvb _ e.symm).1;omega)) (by dsimp only;omega),kE _ _ (jL hgrow (jD _ (jB hb1 (jB hbwa HB2.out))) (fun e=>by have:=(hvb _ e.symm).1;omega)) (by dsimp only;omega),
      hpush.set _ _ (by dsimp only;omega),hst.setCell (by simp;omega) _⟩
    case measure=>simp[intOf];omega
  ·obtain⟨ll0,rfl⟩:∃n,n=k:=⟨_,rfl⟩
   obtain rfl:ll0=ll:=by omega
   clear hlt;obtain⟨al,capl,rfl,hcl,hal,hvb⟩:=hbu.shape;have hvals:l=[]∨∃b o,al=some ⟨b,o,none⟩∧(w.heap.size+3≤b∧b<wr.heap.size)∧IsVals (fun b=>w.heap.size+3≤b∧b<wr.heap.size) wr b o l:=by
    have h:=hbu;rw[HL.out] at h;exact h.vals
   clear hbu;obtain⟨vl,hvl⟩:∃vl,vl=Value.slice al ll0 capl:=⟨_,rfl⟩
   rw[←hvl] at HB3;have hc5:wr.cell? ⟨w.heap.size,5,none⟩=some (.slice fa fl fc):=jA HB1.out 5;go_wp2;clear hc5;obtain⟨wl,rfl⟩:∃wl:World,wl=wr:=⟨_,rfl⟩
   have hgo:True:=trivial
   go_loopw [29] (fun i wr=>∃(k:Nat) (v:Value),k≤fl∧i=.int .i64 k ∧
    wr.heap[w.heap.size+2]?=some (Obj.cells #[Value.int IntKind.i64 k0,Value.int IntKind.i64 i0,Value.int IntKind.i64 s0,Value.string t0,vl,v] 25 (0,0)) ∧
    (∀b,b<wl.heap.size→b≠w.heap.size+2→wr.heap[b]?=wl.heap[b]?) ∧
    BuiltF 240 wl.heap.size wr v k ns fs∧Below w.heap.size w wr∧wl.heap.size≤wr.heap.size)
    (fun i _=>fl-(intOf i).toNat)
   case atStart =>
    exact⟨0,_,Nat.zero_le _,rfl,HB3.out,fun _ _ _=>rfl,BuiltF.nil _ _ _ _ _,hbel,Nat.le_refl _⟩
   case round =>
    obtain⟨k,v,hk,rfl,hb3,hkeep,hbu,hbelr,hszr⟩:=hrel;have HB3r:=hid hb3;clear hb3;have HK:=hid hkeep;clear hkeep;by_cases hlt:k<fl
    ·rcases hf with rfl | ⟨b,o,rfl,hb,hvs⟩
     ·exfalso;have:=HF.out;simp at this;omega
     ·have hkl:k<fs.length:=by have:=HF.out;omega
      have hkn:k<ns.length:=by have:=HF.out;have:=HNS.out;omega
      obtain⟨⟨hnm,hnz⟩,x,hx,hxv⟩:=hvs.get HNS.out k hkl hkn;obtain⟨nm,hnmd⟩:∃nm,nm=ns[k]:=⟨_,rfl⟩
      rw[←hnmd] at hnm hnz;have HNM:=hid hnmd;clear hnmd;have hx':=hx.same (w':=wr) (hbelr.block b hb);have hnm':wr.cell? ⟨b,o+k * 7,none⟩=some (.string nm):=(World.cell?_of_block (w:=w) (a:=⟨b,o+k * 7,none⟩) (hbelr.block b hb)).trans hnm;obtain⟨hx0,hx1,hx2,hx3,hx4,hx5⟩:=hx';have hxv':IsVal (fun b=>b<wr.heap.size) wr x fs[k]:=hxv.same fun b hb=>⟨by omega,hbelr.block b hb⟩
      have hlt':(k:Int)<(fl:Int):=by omega
      clear hx hnm;have HC:=hid (fun (w':World) (h:w'.heap[w.heap.size+2]?=some (Obj.cells #[Value.int IntKind.i64 k0,Value.int IntKind.i64 i0,Value.int IntKind.i64 s0,Value.string t0,vl,v] 25 (0,0))∧w'.heap[wr.heap.size]?=some (Obj.cells #[Value.string nm,Value.int IntKind.i64 x.k,Value.int IntKind.i64 x.i,Value.int IntKind.i64 x.s,Value.string x.t,Value.slice x.la x.ll x.lc,Value.slice x.fa x.fl x.fc] 240 (0,0))) =>
       (show w'.cell? ⟨w.heap.size+1+1,5,none⟩=some v∧w'.cell? ⟨wr.heap.size,0,none⟩=some (.string nm)∧w'.cell? ⟨wr.heap.size,1,none⟩=some (.int .i64 x.k)∧w'.cell? ⟨wr.heap.size,2,none⟩=some (.int .i64 x.i)∧w'.cell? ⟨wr.heap.size,3,none⟩=some (.int .i64 x.s)∧w'.cell? ⟨wr.heap.size,4,none⟩=some (.string x.t)∧w'.cell? ⟨wr.heap.size,5,none⟩=some (.slice x.la x.ll x.lc)∧w'.cell? ⟨wr.heap.size,6,none⟩=some (.slice x.fa x.fl x.fc) from⟨jA h.1 5,jA h.2 0,jA h.2 1,jA h.2 2,jA h.2 3,jA h.2 4,jA h.2 5,jA h.2 6⟩))
      go_wp2;obtain⟨wa,hwa⟩:∃wa,wa=wr.alloc (Obj.cells #[Value.string nm,Value.int IntKind.i64 x.k,Value.int IntKind.i64 x.i,Value.int IntKind.i64 x.s,Value.string x.t,Value.slice x.la x.ll x.lc,Value.slice x.fa x.fl x.fc] 240 (0,0)):=⟨_,rfl⟩
      rw[←hwa];have p1:=jD (Obj.cells #[Value.string nm,Value.int IntKind.i64 x.k,Value.int IntKind.i64 x.i,Value.int IntKind.i64 x.s,Value.string x.t,Value.slice x.la x.ll x.lc,Value.slice x.fa x.fl x.fc] 240 (0,0)) HB3r.out;have p2:=heap_alloc_new wr (Obj.cells #[Value.string nm,Value.int IntKind.i64 x.k,Value.int IntKind.i64 x.i,Value.int IntKind.i64 x.s,Value.string x.t,Value.slice x.la x.ll x.lc,Value.slice x.fa x.fl x.fc] 240 (0,0));rw[←hwa] at p1 p2;have hxa:IsVal (fun b=>b<wa.drew.heap.size) wa.drew x fs[k]:=hxv'.same fun b hb=>by rw[hwa];exact⟨by simp;omega,Below.heap_alloc _ _ _ hb⟩
      obtain⟨cs,hcs,hown,hel⟩:=hbu;have hvbf:=BuiltF.own ⟨cs,hcs,hown,hel⟩;have HCS:=hid hcs;clear hcs;have hbwa:Below wr.heap.size wr wa.drew:=by rw[hwa];exact((Below.refl _ wr).alloc lr _).drew
      have hwas:wr.heap.size≤wa.drew.heap.size:=hbwa.size;have hwas':wr.heap.size<wa.heap.size:=by rw[hwa];simp
      have P1:Hid (wa.drew.heap[w.heap.size+2]?=_):=hid p1;clear p1;have P2:Hid (wa.drew.heap[wr.heap.size]?=_):=hid p2;clear p2;clear hwa;have hcap1:k+1≤maxLen:=by unfold maxLen;omega
      have hcap2:(k+1) * 104≤140737488355328:=by omega
      have hne3:some (w.heap.size+2)≠v.ownBlock:=fun e=>by have:=(hvbf _ e.symm).1;omega
      have hnex:some wr.heap.size≠v.ownBlock:=fun e=>by have:=(hvbf _ e.symm).2;omega
      refine jF 10 (fun w'=>w'.heap[w.heap.size+2]?=some (Obj.cells #[Value.int IntKind.i64 k0,Value.int IntKind.i64 i0,Value.int IntKind.i64 s0,Value.string t0,vl,v] 25 (0,0))∧w'.heap[wr.heap.size]?=some (Obj.cells #[Value.string nm,Value.int IntKind.i64 x.k,Value.int IntKind.i64 x.i,Value.int IntKind.i64 x.s,Value.string x.t,Value.slice x.la x.ll x.lc,Value.slice x.fa x.fl x.fc] 240 (0,0))) (by kernel_rfl) (by kernel_rfl) (by kernel_rfl) (by decide) (⟨P1.out,P2.out⟩) (fun hS=>?_);simp only[dm,dn,dp,dq]
      refine tkQ 0 (v:=?_) ?_ hS ?_;rotate_left;· intro w' hw';have hcells:=HC.out w' hw';go_simp;(try rfl)
      simp only[Act.put,pr];refine tkQ 1 (v:=?_) ?_ hS ?_;rotate_left;· intro w' hw';have hcells:=HC.out w' hw';go_simp;(try rfl)
      simp only[Act.put,pr];refine tkQ 2 (v:=?_) ?_ hS ?_;rotate_left;· intro w' hw';have hcells:=HC.out w' hw';go_simp;(try rfl)
      simp only[Act.put,pr];refine tkQ 3 (v:=?_) ?_ hS ?_;rotate_left;· intro w' hw';have hcells:=HC.out w' hw';go_simp;(try rfl)
      simp only[Act.put,pr];refine tkQ 4 (v:=?_) ?_ hS ?_;rotate_left;· intro w' hw';have hcells:=HC.out w' hw';go_simp;(try rfl)
      simp only[Act.put,pr];refine tkQ 5 (v:=?_) ?_ hS ?_;rotate_left;· intro w' hw';have hcells:=HC.out w' hw';go_simp;(try rfl)
      simp only[Act.put,pr];refine ry [6] ?_;refine arQ fun K hK=>?_;go_simp;go_at_call 244;refine(ih (Val.sz fs[k]) (hszf k hkl) fs[k] x _ lr hxa).mono ?_;rintro e w1 ⟨c1,rfl,hb1,hv1⟩;have q1:=hid (jB hb1 P1.out);have q2:=hid (jB hb1 P2.out);have hs1:=hb1.size;simp only[World.size_drew] at hs1;refine hK.out _ _ (⟨q1.out,q2.out⟩) (fun hS=>?_);clear hK K
      (try simp only[Act.put,pr])
      refine tkQ 7 (v:=?_) ?_ hS ?_;rotate_left;· intro w' hw';have hcells:=HC.out w' hw';go_simp;(try rfl)
      simp only[Act.put,pr];refine ry [8] ?_;refine arQ fun K hK=>?_;go_simp;refine hK.out _ _ (⟨jD _ q1.out,jD _ q2.out⟩) (fun hS=>?_);clear hK K
      (try simp only[Act.put,pr])
      refine ry [9] ?_;refine arQ fun K hK=>?_;refine step_append_lies _ (by rfl) _ _ _ (by rfl) wl.heap.size 240 tf _ 7 104 Tryz.underlying23 hif hzf0 hzf1 hzf2 rfl (by omega) v k (cs.flatMap FC.cs) (by rfl) ((nR hown (hbwa.trans (hb1.mono hwas))).alloc _) ⟨w1.heap.size,0,none⟩ 1 1 (FC.cs (nm,c1)) (by rfl) (by rfl) (World.news_of_block (heap_alloc_new w1 _)) (by simp[FC.cs,VC.cs,Value.oneCell']) (by omega) hcap1 hcap2 (by simp;omega) (w1.heap.size+1) (by simp) ?_;intro gg cap w2 hown2 hgrow hat hlt2;have r1:=hid (jL hgrow (jD _ q1.out) hne3);have r2:=hid (jL hgrow (jD _ q2.out) hnex)
      refine hK.out _ _ (⟨r1.out,r2.out⟩) (fun hS=>?_);clear hK K
      (try simp only[Act.put,pr])
      refine wpAnyH_done (by kernel_rfl) ?_ _
      (try dsimp only)
      have hc2:w2.cell? ⟨w.heap.size+1+1,5,none⟩=some v:=jA r1.out 5;have hf2:w2.frozen? ⟨w.heap.size+1+1,5,none⟩=false:=jC r1.out 5;clear hS HC;go_wp2
      go_roundw
      case rel =>
       have hst:Below w.heap.size w w2:=(((hbelr.trans (hbwa.mono (by omega))).trans (hb1.mono (by omega))).alloc (by omega) _).grown hgrow (by simp;omega) (fun r e=>by have:=(hvbf r e).1;omega);have hpush:BuiltF 240 wl.heap.size w2 (.slice (some ⟨gg,0,none⟩) (k+1) cap) (k+1) ns fs :=
        BuiltF.push HCS.out (fun j hj hj' hn=>⟨(hel j hj hj' hn).1,(hel j hj hj' hn).2.same fun b hb=>⟨⟨hb.1,by have:=hb.2.1;omega,hb.2.2⟩,(hb1.block b (by have:=hb.2.1;omega)).trans (hbwa.block b hb.2.1)⟩⟩) hkl hkn HNM.out hv1 (by omega) (fun r e=>by have:=(hvbf r e).2;omega) hown2 hgrow hat
       refine⟨k+1,_,by omega,by go_num,jE _ r1.out,fun b hb hne=>?_,hpush.set _ _ (by simp;omega),hst.setCell (by simp;omega) _,by have:=hgrow.size;simp at this;simp[World.setCell];omega⟩;rw[Below.heap_setCell _ _ _ _ (by simpa using hne),hgrow.block b (by simp;omega) (fun e=>by have:=(hvbf _ e.symm).1;omega),Below.heap_alloc _ _ _ (by omega),hb1.block b (by omega),hbwa.block b (by omega)];exact HK.out b hb hne
      case measure=>simp[intOf];omega
    ·obtain rfl:k=fl:=by omega
     clear hlt;obtain⟨af,capf,rfl,hcf,haf,hvbf⟩:=hbu.shape;have hflds:fs=[]∨∃b o,af=some ⟨b,o,none⟩∧(wl.heap.size≤b∧b<wr.heap.size)∧IsFlds (fun b=>wl.heap.size≤b∧b<wr.heap.size) wr b o ns fs:=by
      have h:=hbu;rw[HF.out] at h;refine h.flds HNS.out fun n hn=>?_;rcases hf with rfl | ⟨b,o,rfl,hb,hvs⟩
      ·have:=HNS.out;simp at this;subst this;cases hn
      ·obtain⟨j,hj,rfl⟩:=List.getElem_of_mem hn;exact(hvs.get HNS.out j (by have:=HNS.out;omega) hj).1.2
     clear hbu;have hd3:=HB3r.out;have hd2:wr.heap[w.heap.size+1]?=_:=(HK.out _ (by omega) (by omega)).trans HB2.out;rw[hvl] at hd3;have e0:wr.cell? ⟨w.heap.size+1+1,0,none⟩=some (.int .i64 k0):=jA hd3 0;have e1:wr.cell? ⟨w.heap.size+1+1,1,none⟩=some (.int .i64 i0):=jA hd3 1;have e2:wr.cell? ⟨w.heap.size+1+1,2,none⟩=some (.int .i64 s0):=jA hd3 2;have e3:wr.cell? ⟨w.heap.size+1+1,3,none⟩=some (.string t0):=jA hd3 3;have e4:=jA hd3 4;have e5:=jA hd3 5;have g0:=jA hd2 0;have g1:=jA hd2 1;have g2:=jA hd2 2;have g3:=jA hd2 3;have g4:=jA hd2 4;have g5:=jA hd2 5;have z0:=jC hd2 0;have z1:=jC hd2 1
     have z2:=jC hd2 2;have z3:=jC hd2 3;have z4:=jC hd2 4;have z5:=jC hd2 5;go_wp2;refine(fun (Wf:World) (h1:Wf.heap[w.heap.size+1]?=some (Obj.cells #[Value.int IntKind.i64 k0,Value.int IntKind.i64 i0,Value.int IntKind.i64 s0,Value.string t0,.slice al ll0 capl,.slice af k capf] 25 (0,0))) (h2:∀b,b≠w.heap.size+1→Wf.heap[b]?=wr.heap[b]?) (h3:Below w.heap.size w Wf) (h4:Wf.heap.size=wr.heap.size)=>?_:∀Wf:World,_→_→_→_→bodyPost _ _ _ _ _ Wf) _
      (jE _ (jE _ (jE _ (jE _ (jE _ (jE _ hd2)))))) (fun b hb=>((Below.heap_setCell _ _ _ _ (by exact hb)).trans ((Below.heap_setCell _ _ _ _ (by exact hb)).trans ((Below.heap_setCell _ _ _ _ (by exact hb)).trans ((Below.heap_setCell _ _ _ _ (by exact hb)).trans ((Below.heap_setCell _ _ _ _ (by exact hb)).trans (Below.heap_setCell _ _ _ _ (by exact hb)))))))) ((((((hbelr.setCell (by simp) _).setCell (by simp) _).setCell (by simp) _).setCell (by simp) _).setCell (by simp) _).setCell (by simp) _) (by simp[World.setCell])
     refine bodyPost_ret (v:=VC.v ⟨k0,i0,s0,t0,al,ll0,capl,af,k,capf⟩) (by simp[results,Tryz.results244,go_sem,jA h1]) rfl ⟨_,rfl,h3,⟨⟨rfl,rfl,rfl,rfl,⟨HOK.out.k,HOK.out.i,HOK.out.s,HOK.out.t,HOK.out.l,HOK.out.f,hcl,hcf⟩,HL.out,HF.out,HNS.out⟩,?_,?_⟩⟩
     ·rcases hvals with rfl | ⟨b,o,rfl,hb,hvv⟩
      ·exact .inl rfl
      ·refine .inr ⟨b,o,rfl,⟨by omega,by omega⟩,hvv.same (fun b hb=>⟨⟨by omega,by omega⟩,(h2 b (by omega)).trans (HK.out b hb.2 (by omega))⟩) ((h2 b (by omega)).trans (HK.out b hb.2 (by omega)))⟩
     ·rcases hflds with rfl | ⟨b,o,rfl,hb,hvv⟩
      ·exact .inl rfl
      ·exact .inr ⟨b,o,rfl,⟨by omega,by omega⟩,hvv.same (fun b hb=>⟨⟨by omega,by omega⟩,h2 b (by omega)⟩) (h2 b (by omega))⟩
theorem jN6:∀(n:Nat) (d:Val) (c:VC) (w:World),Val.sz d≤n→IsVal (· < w.heap.size) w c d→Calls Tryz.prog 244 #[c.v] w (yX w d):=by
 intro n
 induction n using Nat.strongRecOn with
 | _ n ih =>
   intro d c w hn hd;obtain⟨k,i,s,t,l,ns,fs⟩:=d;obtain⟨k0,i0,s0,t0,la,ll,lc,fa,fl,fc⟩:=c;obtain⟨rfl,rfl,rfl,rfl,_⟩:=hd.1;exact jKr n ih _ _ _ _ la ll lc fa fl fc l ns fs w hn hd
theorem vZ {d:Val} {c:VC} {w:World} (hd:IsVal (· < w.heap.size) w c d):Calls Tryz.prog 244 #[c.v] w (yX w d):=jN6 _ d c w lr hd
end Go.Proofs.YtaofolgaiipcjaaGreatDoor
