/- A part. -/
import Derived.Test.YtmgpghoamapfgaaGreatDoorST1Mrg
import Derived.Deep.AppendLies
import Derived.Deep.LoopGhost
namespace Go.Proofs.YtmgpghoamapfgaaGreatDoor
set_option linter.unusedVariables false
set_option maxRecDepth 100000
set_option maxHeartbeats 16000000
set_option linter.unusedSimpArgs false
open Go Go.RowKit
attribute [local go_sem ↓] Go.wp_at_zero Go.wp_at_succ
theorem lE:(Tryz.prog.info? 36).map (fun i=>(i.zero,i.size,i.bytes))=some (some (.agg #[I6 0,I6 0,I6 0,.string ByteArray.empty,.slice none 0 0,.slice none 0 0]),6,88):=by kernel_rfl
theorem zR:(Tryz.prog.info? 202).map (fun i=>(i.zero,i.size,i.bytes))=some (some (.agg #[.string ByteArray.empty,I6 0,I6 0,I6 0,.string ByteArray.empty,.slice none 0 0,.slice none 0 0]),7,104):=by kernel_rfl
def oJ (w:World) (d:Val) (e:Ending) (w':World):Prop:=∃c':VC,e=.returned c'.v/\BB w w'/\IsVal (fun b=>w.heap.size<=b/\b<w'.heap.size) w' c' d
theorem aHl (N:Nat) (ih:∀n,n<N->∀(d:Val) (c:VC) (w:World),Val.sz d<=n->IsVal (· < w.heap.size) w c d->CP 117 #[c.v] w (oJ w d))
 (k0 i0 s0:Int) (t0:ByteArray) (la:Option Addr) (ll lc:Nat) (fa:Option Addr) (fl fc:Nat) (l:List Val) (ns:List ByteArray) (fs:List Val) (w:World) (hN:Val.sz (.mk k0 i0 s0 t0 l ns fs)<=N) (hd:IsVal (· < w.heap.size) w ⟨k0,i0,s0,t0,la,ll,lc,fa,fl,fc⟩ (.mk k0 i0 s0 t0 l ns fs)) :
 CP 117 #[.agg #[I6 k0,I6 i0,I6 s0,.string t0,.slice la ll lc,.slice fa fl fc]] w (oJ w (.mk k0 i0 s0 t0 l ns fs)):=by
 obtain⟨⟨_,_,_,_,hok,hll,hfl,hns⟩,hv,hf⟩:=hd;dsimp only at hll hfl hv hf;have hreach:ll * 88<=140737488351232:=hok.l;have hreachf:fl * 104<=140737488351232:=hok.f;have HL:=hid hll;clear hll;have HF:=hid hfl;clear hfl;have HNS:=hid hns;clear hns;have HOK:=hid hok;clear hok;have hszl:∀k (h:k<l.length),Val.sz l[k]<N:=fun k h=>by have:=Val.szs_get l k h;simp only[Val.sz] at hN;omega
 have hszf:∀k (h:k<fs.length),Val.sz fs[k]<N:=fun k h=>by have:=Val.szs_get fs k h;simp only[Val.sz] at hN;omega
 clear hN;obtain⟨ti,hi,hz0,hz1,hz2⟩:=info_parts lE;obtain⟨tf,hif,hzf0,hzf1,hzf2⟩:=info_parts zR;go_enter Tryz.func117,Tryz.ntmps117
 go_wp2
 go_loopw [14] (fun i wr=>∃(k:Nat) (v:Value),k<=ll/\i=I6 k /\
  wr.heap[w.heap.size+2]?=some (Obj.cells #[Value.int IntKind.i64 k0,Value.int IntKind.i64 i0,Value.int IntKind.i64 s0,Value.string t0,v,.slice none 0 0] 36 (0,0)) /\
  wr.heap[w.heap.size]?=some (Obj.cells #[Value.int IntKind.i64 k0,Value.int IntKind.i64 i0,Value.int IntKind.i64 s0,Value.string t0,.slice la ll lc,.slice fa fl fc] 36 (0,0)) /\
  wr.heap[w.heap.size+1]?=some (.cells #[I6 0,I6 0,I6 0,.string ByteArray.empty,.slice none 0 0,.slice none 0 0] 36 (0,0)) /\
  BuiltV 36 (w.heap.size+3) wr v k l/\BB w wr)
  (fun i _=>ll-(intOf i).toNat)
 case atStart =>
  exact⟨0,_,Nat.zero_le _,rfl,aS _ _ _ gd,aD _ (aD _ (heap_alloc_new w _)),aD _ (aS _ _ _ gd),BuiltV.nil _ _ _ _,((((bR w).alloc lr _).alloc gd _).alloc gj _)⟩
 case round =>
  obtain⟨k,v,hk,rfl,hb3,hb1,hb2,hbu,hbel⟩:=hrel;have hsz:=hbel.size;have hlt3:w.heap.size+2<wr.heap.size:=ltOf hb3;have HB3:=hid hb3;clear hb3;have HB1:=hid hb1;clear hb1;have HB2:=hid hb2;clear hb2;by_cases hlt:k<ll
  ·rcases hv with rfl | ⟨b,o,rfl,hb,hvs⟩
   ·exfalso;have:=HL.out;simp at this;omega
   ·have hkl:k<l.length:=by have:=HL.out;omega
    obtain⟨x,hx,hxv⟩:=hvs.get k hkl;have hx':=hx.same (w':=wr) (hbel.block b hb);obtain⟨hx0,hx1,hx2,hx3,hx4,hx5⟩:=hx';have hxv':IsVal (fun b=>b<wr.heap.size) wr x l[k]:=hxv.same fun b hb=>⟨by omega,hbel.block b hb⟩
    have hlt':(k:Int)<(ll:Int):=by omega
    clear hx;have HC:=hid (fun (w':World) (h:w'.heap[w.heap.size+2]?=some (Obj.cells #[Value.int IntKind.i64 k0,Value.int IntKind.i64 i0,Value.int IntKind.i64 s0,Value.string t0,v,.slice none 0 0] 36 (0,0))/\w'.heap[wr.heap.size]?=some (Obj.cells #[Value.int IntKind.i64 x.k,Value.int IntKind.i64 x.i,Value.int IntKind.i64 x.s,Value.string x.t,Value.slice x.la x.ll x.lc,Value.slice x.fa x.fl x.fc] 36 (0,0))) =>
     (show w'.cell? ⟨w.heap.size+1+1,4,none⟩=some v/\Ce w' wr.heap.size 0 (I6 x.k)/\Ce w' wr.heap.size 1 (I6 x.i)/\Ce w' wr.heap.size 2 (I6 x.s)/\Ce w' wr.heap.size 3 (.string x.t)/\Ce w' wr.heap.size 4 (.slice x.la x.ll x.lc)/\Ce w' wr.heap.size 5 (.slice x.fa x.fl x.fc) from⟨aA h.1 4,aA h.2 0,aA h.2 1,aA h.2 2,aA h.2 3,aA h.2 4,aA h.2 5⟩))
    go_wp2;obtain⟨wa,hwa⟩:=ez (wr.alloc (Obj.cells #[Value.int IntKind.i64 x.k,Value.int IntKind.i64 x.i,Value.int IntKind.i64 x.s,Value.string x.t,Value.slice x.la x.ll x.lc,Value.slice x.fa x.fl x.fc] 36 (0,0)))
    rw[<-hwa];have p1:=aD (Obj.cells #[Value.int IntKind.i64 x.k,Value.int IntKind.i64 x.i,Value.int IntKind.i64 x.s,Value.string x.t,Value.slice x.la x.ll x.lc,Value.slice x.fa x.fl x.fc] 36 (0,0)) HB3.out;have p2:=heap_alloc_new wr (Obj.cells #[Value.int IntKind.i64 x.k,Value.int IntKind.i64 x.i,Value.int IntKind.i64 x.s,Value.string x.t,Value.slice x.la x.ll x.lc,Value.slice x.fa x.fl x.fc] 36 (0,0));rw[<-hwa] at p1 p2;have hxa:IsVal (fun b=>b<wa.drew.heap.size) wa.drew x l[k]:=hxv'.same fun b hb=>by rw[hwa];exact⟨by simp;omega,Below.heap_alloc _ _ _ hb⟩
    obtain⟨cs,hcs,hown,hel⟩:=hbu;have hvb:=BuiltV.own ⟨cs,hcs,hown,hel⟩;have HCS:=hid hcs;clear hcs;have hbwa:BB wr wa.drew:=by rw[hwa];exact((Below.refl _ wr).alloc lr _).drew
    have hwas:wr.heap.size<=wa.drew.heap.size:=hbwa.size;have hwas':wr.heap.size<wa.heap.size:=by rw[hwa];simp
    have P1:Hid (wa.drew.heap[w.heap.size+2]?=_):=hid p1;clear p1;have P2:Hid (wa.drew.heap[wr.heap.size]?=_):=hid p2;clear p2;clear hwa;have hcap1:k+1<=maxLen:=by unfold maxLen;omega
    have hcap2:(k+1) * 88<=140737488355328:=by omega
    have hne3:some (w.heap.size+2)≠v.ownBlock:=fun e=>by have:=(hvb _ e.symm).1;omega
    have hnex:some wr.heap.size≠v.ownBlock:=fun e=>by have:=(hvb _ e.symm).2;omega
    refine aG 6 (fun w'=>w'.heap[w.heap.size+2]?=some (Obj.cells #[Value.int IntKind.i64 k0,Value.int IntKind.i64 i0,Value.int IntKind.i64 s0,Value.string t0,v,.slice none 0 0] 36 (0,0))/\w'.heap[wr.heap.size]?=some (Obj.cells #[Value.int IntKind.i64 x.k,Value.int IntKind.i64 x.i,Value.int IntKind.i64 x.s,Value.string x.t,Value.slice x.la x.ll x.lc,Value.slice x.fa x.fl x.fc] 36 (0,0))) ge ge ge gc (⟨P1.out,P2.out⟩) (fun hS=>?_);simp only[zdm,zdn,zdp,zdq]
    refine tc 0 HC ?_;refine tc 1 HC ?_;refine tc 2 HC ?_;refine yr 3 fun K hK=>?_;go_simp;go_at_call 117;refine(ih (Val.sz l[k]) (hszl k hkl) l[k] x _ lr hxa).mono ?_;rintro e w1 ⟨c1,rfl,hb1,hv1⟩;have q1:=hid (aB hb1 P1.out);have q2:=hid (aB hb1 P2.out);have hs1:=hb1.size;simp only[World.size_drew] at hs1;refine hK.out _ _ (⟨q1.out,q2.out⟩) (fun hS=>?_);clear hK K
    (try simp only[Act.put,pr])
    refine yr 4 fun K hK=>?_;go_simp;refine hK.out _ _ (⟨aD _ q1.out,aD _ q2.out⟩) (fun hS=>?_);clear hK K
    (try simp only[Act.put,pr])
    refine yr 5 fun K hK=>?_;refine step_append_lies _ gh _ _ _ gh (w.heap.size+3) 36 ti _ 6 88 Tryz.underlying33 hi hz0 hz1 hz2 rfl ga v k (cs.flatMap VC.cs) gh ((fM hown (hbwa.trans (hb1.mono hwas))).alloc _) ⟨w1.heap.size,0,none⟩ 1 1 c1.cs gh gh (World.news_of_block (heap_alloc_new w1 _)) (by simp[VC.cs,Value.oneCell']) ga hcap1 hcap2 gj (w1.heap.size+1) gd ?_;intro gg cap w2 hown2 hgrow hat hlt2;have r1:=hid (aT hgrow (aD _ q1.out) hne3);have r2:=hid (aT hgrow (aD _ q2.out) hnex)
    refine hK.out _ _ (⟨r1.out,r2.out⟩) (fun hS=>?_);clear hK K
    (try simp only[Act.put,pr])
    refine wpAnyH_done ge ?_ _
    (try dsimp only)
    have hc2:w2.cell? ⟨w.heap.size+1+1,4,none⟩=some v:=aA r1.out 4;have hf2:w2.frozen? ⟨w.heap.size+1+1,4,none⟩=false:=aC r1.out 4;clear hS HC;go_wp2
    go_roundw
    case rel =>
     have hst:BB w w2:=(((hbel.trans (hbwa.mono hsz)).trans (hb1.mono ga)).alloc ga _).grown hgrow gj (fun r e=>by have:=(hvb r e).1;omega);have hpush:BuiltV 36 (w.heap.size+3) w2 (.slice (some ⟨gg,0,none⟩) (k+1) cap) (k+1) l :=
      BuiltV.push HCS.out (fun j hj hj'=>(hel j hj hj').same fun b hb=>⟨⟨hb.1,by have:=hb.2.1;omega,hb.2.2⟩,(hb1.block b (by have:=hb.2.1;omega)).trans (hbwa.block b hb.2.1)⟩) hkl hv1 ga (fun r e=>by have:=(hvb r e).2;omega) hown2 hgrow hat
     exact⟨k+1,_,by omega,by go_num,aE _ r1.out,cB _ _ (aT hgrow (aD _ (aB hb1 (aB hbwa HB1.out))) (fun e=>by have:=(hvb _ e.symm).1;omega)) gi,cB _ _ (aT hgrow (aD _ (aB hb1 (aB hbwa HB2.out))) (fun e=>by have:=(hvb _ e.symm).1;omega)) gi,
      hpush.set _ _ gi,hst.setCell gj _⟩
    case measure=>simp[intOf];omega
  ·obtain⟨ll0,rfl⟩:=ez k
   obtain rfl:ll0=ll:=by omega
   clear hlt;obtain⟨al,capl,rfl,hcl,hal,hvb⟩:=hbu.shape;have hvals:l=[]\/∃b o,al=some ⟨b,o,none⟩/\(w.heap.size+3<=b/\b<wr.heap.size)/\IsVals (fun b=>w.heap.size+3<=b/\b<wr.heap.size) wr b o l:=by
    have h:=hbu;rw[HL.out] at h;exact h.vals
   clear hbu;obtain⟨vl,hvl⟩:=ez (Value.slice al ll0 capl)
   rw[<-hvl] at HB3;have hc5:Ce wr w.heap.size 5 (.slice fa fl fc):=aA HB1.out 5;go_wp2;clear hc5;obtain⟨wl,rfl⟩:=ez (wr:World)
   have hgo:True:=trivial
   go_loopw [29] (fun i wr=>∃(k:Nat) (v:Value),k<=fl/\i=I6 k /\
    wr.heap[w.heap.size+2]?=some (Obj.cells #[Value.int IntKind.i64 k0,Value.int IntKind.i64 i0,Value.int IntKind.i64 s0,Value.string t0,vl,v] 36 (0,0)) /\
    (∀b,b<wl.heap.size->b≠w.heap.size+2->wr.heap[b]?=wl.heap[b]?) /\
    BuiltF 202 wl.heap.size wr v k ns fs/\BB w wr/\wl.heap.size<=wr.heap.size)
    (fun i _=>fl-(intOf i).toNat)
   case atStart =>
    exact⟨0,_,Nat.zero_le _,rfl,HB3.out,fun _ _ _=>rfl,BuiltF.nil _ _ _ _ _,hbel,Nat.le_refl _⟩
   case round =>
    obtain⟨k,v,hk,rfl,hb3,hkeep,hbu,hbelr,hszr⟩:=hrel;have HB3r:=hid hb3;clear hb3;have HK:=hid hkeep;clear hkeep;by_cases hlt:k<fl
    ·rcases hf with rfl | ⟨b,o,rfl,hb,hvs⟩
     ·exfalso;have:=HF.out;simp at this;omega
     ·have hkl:k<fs.length:=by have:=HF.out;omega
      have hkn:k<ns.length:=by have:=HF.out;have:=HNS.out;omega
      obtain⟨⟨hnm,hnz⟩,x,hx,hxv⟩:=hvs.get HNS.out k hkl hkn;obtain⟨nm,hnmd⟩:=ez (ns[k])
      rw[<-hnmd] at hnm hnz;have HNM:=hid hnmd;clear hnmd;have hx':=hx.same (w':=wr) (hbelr.block b hb);have hnm':wr.cell? ⟨b,o+k * 7,none⟩=some (.string nm):=(World.cell?_of_block (w:=w) (a:=⟨b,o+k * 7,none⟩) (hbelr.block b hb)).trans hnm;obtain⟨hx0,hx1,hx2,hx3,hx4,hx5⟩:=hx';have hxv':IsVal (fun b=>b<wr.heap.size) wr x fs[k]:=hxv.same fun b hb=>⟨by omega,hbelr.block b hb⟩
      have hlt':(k:Int)<(fl:Int):=by omega
      clear hx hnm;have HC:=hid (fun (w':World) (h:w'.heap[w.heap.size+2]?=some (Obj.cells #[Value.int IntKind.i64 k0,Value.int IntKind.i64 i0,Value.int IntKind.i64 s0,Value.string t0,vl,v] 36 (0,0))/\w'.heap[wr.heap.size]?=some (Obj.cells #[Value.string nm,Value.int IntKind.i64 x.k,Value.int IntKind.i64 x.i,Value.int IntKind.i64 x.s,Value.string x.t,Value.slice x.la x.ll x.lc,Value.slice x.fa x.fl x.fc] 202 (0,0))) =>
       (show w'.cell? ⟨w.heap.size+1+1,5,none⟩=some v/\Ce w' wr.heap.size 0 (.string nm)/\Ce w' wr.heap.size 1 (I6 x.k)/\Ce w' wr.heap.size 2 (I6 x.i)/\Ce w' wr.heap.size 3 (I6 x.s)/\Ce w' wr.heap.size 4 (.string x.t)/\Ce w' wr.heap.size 5 (.slice x.la x.ll x.lc)/\Ce w' wr.heap.size 6 (.slice x.fa x.fl x.fc) from⟨aA h.1 5,aA h.2 0,aA h.2 1,aA h.2 2,aA h.2 3,aA h.2 4,aA h.2 5,aA h.2 6⟩))
      go_wp2;obtain⟨wa,hwa⟩:=ez (wr.alloc (Obj.cells #[Value.string nm,Value.int IntKind.i64 x.k,Value.int IntKind.i64 x.i,Value.int IntKind.i64 x.s,Value.string x.t,Value.slice x.la x.ll x.lc,Value.slice x.fa x.fl x.fc] 202 (0,0)))
      rw[<-hwa];have p1:=aD (Obj.cells #[Value.string nm,Value.int IntKind.i64 x.k,Value.int IntKind.i64 x.i,Value.int IntKind.i64 x.s,Value.string x.t,Value.slice x.la x.ll x.lc,Value.slice x.fa x.fl x.fc] 202 (0,0)) HB3r.out;have p2:=heap_alloc_new wr (Obj.cells #[Value.string nm,Value.int IntKind.i64 x.k,Value.int IntKind.i64 x.i,Value.int IntKind.i64 x.s,Value.string x.t,Value.slice x.la x.ll x.lc,Value.slice x.fa x.fl x.fc] 202 (0,0));rw[<-hwa] at p1 p2;have hxa:IsVal (fun b=>b<wa.drew.heap.size) wa.drew x fs[k]:=hxv'.same fun b hb=>by rw[hwa];exact⟨by simp;omega,Below.heap_alloc _ _ _ hb⟩
      obtain⟨cs,hcs,hown,hel⟩:=hbu;have hvbf:=BuiltF.own ⟨cs,hcs,hown,hel⟩;have HCS:=hid hcs;clear hcs;have hbwa:BB wr wa.drew:=by rw[hwa];exact((Below.refl _ wr).alloc lr _).drew
      have hwas:wr.heap.size<=wa.drew.heap.size:=hbwa.size;have hwas':wr.heap.size<wa.heap.size:=by rw[hwa];simp
      have P1:Hid (wa.drew.heap[w.heap.size+2]?=_):=hid p1;clear p1;have P2:Hid (wa.drew.heap[wr.heap.size]?=_):=hid p2;clear p2;clear hwa;have hcap1:k+1<=maxLen:=by unfold maxLen;omega
      have hcap2:(k+1) * 104<=140737488355328:=by omega
      have hne3:some (w.heap.size+2)≠v.ownBlock:=fun e=>by have:=(hvbf _ e.symm).1;omega
      have hnex:some wr.heap.size≠v.ownBlock:=fun e=>by have:=(hvbf _ e.symm).2;omega
      refine aG 10 (fun w'=>w'.heap[w.heap.size+2]?=some (Obj.cells #[Value.int IntKind.i64 k0,Value.int IntKind.i64 i0,Value.int IntKind.i64 s0,Value.string t0,vl,v] 36 (0,0))/\w'.heap[wr.heap.size]?=some (Obj.cells #[Value.string nm,Value.int IntKind.i64 x.k,Value.int IntKind.i64 x.i,Value.int IntKind.i64 x.s,Value.string x.t,Value.slice x.la x.ll x.lc,Value.slice x.fa x.fl x.fc] 202 (0,0))) ge ge ge gc (⟨P1.out,P2.out⟩) (fun hS=>?_);simp only[zdm,zdn,zdp,zdq]
      refine tc 0 HC ?_;refine tc 1 HC ?_;refine tc 2 HC ?_;refine tc 3 HC ?_;refine tc 4 HC ?_;refine tc 5 HC ?_;refine yr 6 fun K hK=>?_;go_simp;go_at_call 117;refine(ih (Val.sz fs[k]) (hszf k hkl) fs[k] x _ lr hxa).mono ?_;rintro e w1 ⟨c1,rfl,hb1,hv1⟩;have q1:=hid (aB hb1 P1.out);have q2:=hid (aB hb1 P2.out);have hs1:=hb1.size;simp only[World.size_drew] at hs1;refine hK.out _ _ (⟨q1.out,q2.out⟩) (fun hS=>?_);clear hK K
      (try simp only[Act.put,pr])
      refine tc 7 HC ?_;refine yr 8 fun K hK=>?_;go_simp;refine hK.out _ _ (⟨aD _ q1.out,aD _ q2.out⟩) (fun hS=>?_);clear hK K
      (try simp only[Act.put,pr])
      refine yr 9 fun K hK=>?_;refine step_append_lies _ gh _ _ _ gh wl.heap.size 202 tf _ 7 104 Tryz.underlying34 hif hzf0 hzf1 hzf2 rfl ga v k (cs.flatMap FC.cs) gh ((fM hown (hbwa.trans (hb1.mono hwas))).alloc _) ⟨w1.heap.size,0,none⟩ 1 1 (FC.cs (nm,c1)) gh gh (World.news_of_block (heap_alloc_new w1 _)) (by simp[FC.cs,VC.cs,Value.oneCell']) ga hcap1 hcap2 gj (w1.heap.size+1) gd ?_;intro gg cap w2 hown2 hgrow hat hlt2;have r1:=hid (aT hgrow (aD _ q1.out) hne3);have r2:=hid (aT hgrow (aD _ q2.out) hnex)
      refine hK.out _ _ (⟨r1.out,r2.out⟩) (fun hS=>?_);clear hK K
      (try simp only[Act.put,pr])
      refine wpAnyH_done ge ?_ _
      (try dsimp only)
      have hc2:w2.cell? ⟨w.heap.size+1+1,5,none⟩=some v:=aA r1.out 5;have hf2:w2.frozen? ⟨w.heap.size+1+1,5,none⟩=false:=aC r1.out 5;clear hS HC;go_wp2
      go_roundw
      case rel =>
       have hst:BB w w2:=(((hbelr.trans (hbwa.mono ga)).trans (hb1.mono ga)).alloc ga _).grown hgrow gj (fun r e=>by have:=(hvbf r e).1;omega);have hpush:BuiltF 202 wl.heap.size w2 (.slice (some ⟨gg,0,none⟩) (k+1) cap) (k+1) ns fs :=
        BuiltF.push HCS.out (fun j hj hj' hn=>⟨(hel j hj hj' hn).1,(hel j hj hj' hn).2.same fun b hb=>⟨⟨hb.1,by have:=hb.2.1;omega,hb.2.2⟩,(hb1.block b (by have:=hb.2.1;omega)).trans (hbwa.block b hb.2.1)⟩⟩) hkl hkn HNM.out hv1 ga (fun r e=>by have:=(hvbf r e).2;omega) hown2 hgrow hat
       refine⟨k+1,_,by omega,by go_num,aE _ r1.out,fun b hb hne=>?_,hpush.set _ _ gj,hst.setCell gj _,by have:=hgrow.size;simp at this;simp[World.setCell];omega⟩;rw[Below.heap_setCell _ _ _ _ (by simpa using hne),hgrow.block b gj (fun e=>by have:=(hvbf _ e.symm).1;omega),Below.heap_alloc _ _ _ ga,hb1.block b ga,hbwa.block b ga];exact HK.out b hb hne
      case measure=>simp[intOf];omega
    ·obtain rfl:k=fl:=by omega
     clear hlt;obtain⟨af,capf,rfl,hcf,haf,hvbf⟩:=hbu.shape;have hflds:fs=[]\/∃b o,af=some ⟨b,o,none⟩/\(wl.heap.size<=b/\b<wr.heap.size)/\IsFlds (fun b=>wl.heap.size<=b/\b<wr.heap.size) wr b o ns fs:=by
      have h:=hbu;rw[HF.out] at h;refine h.flds HNS.out fun n hn=>?_;rcases hf with rfl | ⟨b,o,rfl,hb,hvs⟩
      ·have:=HNS.out;simp at this;subst this;cases hn
      ·obtain⟨j,hj,rfl⟩:=List.getElem_of_mem hn;exact(hvs.get HNS.out j (by have:=HNS.out;omega) hj).1.2
     clear hbu;have hd3:=HB3r.out;have hd2:wr.heap[w.heap.size+1]?=_:=(HK.out _ ga ga).trans HB2.out;rw[hvl] at hd3;have e0:wr.cell? ⟨w.heap.size+1+1,0,none⟩=some (I6 k0):=aA hd3 0;have e1:wr.cell? ⟨w.heap.size+1+1,1,none⟩=some (I6 i0):=aA hd3 1;have e2:wr.cell? ⟨w.heap.size+1+1,2,none⟩=some (I6 s0):=aA hd3 2;have e3:wr.cell? ⟨w.heap.size+1+1,3,none⟩=some (.string t0):=aA hd3 3;have e4:=aA hd3 4;have e5:=aA hd3 5;have g0:=aA hd2 0;have g1:=aA hd2 1;have g2:=aA hd2 2;have g3:=aA hd2 3;have g4:=aA hd2 4;have g5:=aA hd2 5;have z0:=aC hd2 0;have z1:=aC hd2 1;have z2:=aC hd2 2
     have z3:=aC hd2 3;have z4:=aC hd2 4;have z5:=aC hd2 5;go_wp2;refine(fun (Wf:World) (h1:Wf.heap[w.heap.size+1]?=some (Obj.cells #[Value.int IntKind.i64 k0,Value.int IntKind.i64 i0,Value.int IntKind.i64 s0,Value.string t0,.slice al ll0 capl,.slice af k capf] 36 (0,0))) (h2:∀b,b≠w.heap.size+1->Wf.heap[b]?=wr.heap[b]?) (h3:BB w Wf) (h4:Wf.heap.size=wr.heap.size)=>?_:∀Wf:World,_->_->_->_->bodyPost _ _ _ _ _ Wf) _
      (aE _ (aE _ (aE _ (aE _ (aE _ (aE _ hd2)))))) (fun b hb=>((Below.heap_setCell _ _ _ _ (by exact hb)).trans ((Below.heap_setCell _ _ _ _ (by exact hb)).trans ((Below.heap_setCell _ _ _ _ (by exact hb)).trans ((Below.heap_setCell _ _ _ _ (by exact hb)).trans ((Below.heap_setCell _ _ _ _ (by exact hb)).trans (Below.heap_setCell _ _ _ _ (by exact hb)))))))) ((((((hbelr.setCell gd _).setCell gd _).setCell gd _).setCell gd _).setCell gd _).setCell gd _) (by simp[World.setCell])
     refine bodyPost_ret (v:=VC.v ⟨k0,i0,s0,t0,al,ll0,capl,af,k,capf⟩) (by simp[results,Tryz.results117,go_sem,aA h1]) rfl ⟨_,rfl,h3,⟨⟨rfl,rfl,rfl,rfl,⟨HOK.out.k,HOK.out.i,HOK.out.s,HOK.out.t,HOK.out.l,HOK.out.f,hcl,hcf⟩,HL.out,HF.out,HNS.out⟩,?_,?_⟩⟩
     ·rcases hvals with rfl | ⟨b,o,rfl,hb,hvv⟩
      ·exact .inl rfl
      ·refine .inr ⟨b,o,rfl,⟨by omega,by omega⟩,hvv.same (fun b hb=>⟨⟨by omega,by omega⟩,(h2 b ga).trans (HK.out b hb.2 ga)⟩) ((h2 b ga).trans (HK.out b hb.2 ga))⟩
     ·rcases hflds with rfl | ⟨b,o,rfl,hb,hvv⟩
      ·exact .inl rfl
      ·exact .inr ⟨b,o,rfl,⟨by omega,by omega⟩,hvv.same (fun b hb=>⟨⟨by omega,by omega⟩,h2 b ga⟩) (h2 b ga)⟩
theorem aL0:∀(n:Nat) (d:Val) (c:VC) (w:World),Val.sz d<=n->IsVal (· < w.heap.size) w c d->CP 117 #[c.v] w (oJ w d):=by
 intro n
 induction n using Nat.strongRecOn with
 | _ n ih =>
   intro d c w hn hd;obtain⟨k,i,s,t,l,ns,fs⟩:=d;obtain⟨k0,i0,s0,t0,la,ll,lc,fa,fl,fc⟩:=c;obtain⟨rfl,rfl,rfl,rfl,_⟩:=hd.1;exact aHl n ih _ _ _ _ la ll lc fa fl fc l ns fs w hn hd
theorem mJ {d:Val} {c:VC} {w:World} (hd:IsVal (· < w.heap.size) w c d):CP 117 #[c.v] w (oJ w d):=aL0 _ d c w lr hd
end Go.Proofs.YtmgpghoamapfgaaGreatDoor
