/- A part. -/
import Derived.Test.YtoodnaghjpkjfaaGreatDoorSE1Mrg
import Derived.Deep.AppendLies
import Derived.Deep.LoopGhost
namespace Go.Proofs.YtoodnaghjpkjfaaGreatDoor
open Tryz
set_option linter.unusedVariables false
set_option maxRecDepth 100000
set_option maxHeartbeats 64000000
set_option linter.unusedSimpArgs false
open Go Go.RowKit Go.Shelf
attribute [local go_sem ↓] Go.wp_at_zero Go.wp_at_succ
theorem pG:(prog.info? 67).map (λi=>(i.zero,i.size,i.bytes))=some (some (.agg #[I6 0,I6 0,I6 0,Sv ByteArray.empty,Z0,Z0]),6,88):=by kernel_rfl
theorem aB2:(prog.info? 204).map (λi=>(i.zero,i.size,i.bytes))=some (some (.agg #[Sv ByteArray.empty,I6 0,I6 0,I6 0,Sv ByteArray.empty,Z0,Z0]),7,104):=by kernel_rfl
def pQ (w:World) (d:Val) (e:Ending) (w':World):Prop:=∃c':VC,e=.returned c'.v/\BB w w'/\IsVal (λb=>w.heap.size<=b/\b<w'.heap.size) w' c' d
theorem aIc (N:Nat) (ih:∀n,n<N->∀(d:Val) (c:VC) (w:World),Val.sz d<=n->IsVal (· < w.heap.size) w c d->CP 270 #[c.v] w (pQ w d))
 (k0 i0 s0:Int) (t0:ByteArray) (la:Option Addr) (ll lc:Nat) (fa:Option Addr) (fl fc:Nat) (l:List Val) (ns:List ByteArray) (fs:List Val) (w:World) (hN:Val.sz (.mk k0 i0 s0 t0 l ns fs)<=N) (hd:IsVal (· < w.heap.size) w ⟨k0,i0,s0,t0,la,ll,lc,fa,fl,fc⟩ (.mk k0 i0 s0 t0 l ns fs)) :
 CP 270 #[.agg #[I6 k0,I6 i0,I6 s0,.string t0,.slice la ll lc,.slice fa fl fc]] w (pQ w (.mk k0 i0 s0 t0 l ns fs)):=by
 obtain⟨⟨_,_,_,_,bc,bg,bq,b1⟩,hv,hf⟩:=hd;dsimp only at bg bq hv hf;have bh:ll * 88<=140737488351232:=bc.l;have bd:fl * 104<=140737488351232:=bc.f;have HL:=f8 bg;clear bg;have HF:=f8 bq;clear bq;have av:=f8 b1;clear b1;have a6:=f8 bc;clear bc;have bu:∀k (h:k<l.length),Val.sz l[k]<N:=λk h=>by have:=Val.szs_get l k h;simp only[Val.sz] at hN;omega
 have bs:∀k (h:k<fs.length),Val.sz fs[k]<N:=λk h=>by have:=Val.szs_get fs k h;simp only[Val.sz] at hN;omega
 clear hN;obtain⟨ti,hi,cc,co,ch⟩:=jr pG;obtain⟨tf,cf,bi,bx,bf⟩:=jr aB2;go_enter func270,ntmps270
 go_wp2
 go_loopw [14] (λi wr=>∃(k:Nat) (v:Value),k<=ll/\i=I6 k /\
  wr.heap[w.heap.size+2]?=some (Obj.cells #[Value.int IntKind.i64 k0,Value.int IntKind.i64 i0,Value.int IntKind.i64 s0,Value.string t0,v,Z0] 67 (0,0)) /\
  wr.heap[w.heap.size]?=some (Obj.cells #[Value.int IntKind.i64 k0,Value.int IntKind.i64 i0,Value.int IntKind.i64 s0,Value.string t0,.slice la ll lc,.slice fa fl fc] 67 (0,0)) /\
  wr.heap[w.heap.size+1]?=some (.cells #[I6 0,I6 0,I6 0,.string ByteArray.empty,Z0,Z0] 67 (0,0)) /\
  BuiltV 67 (w.heap.size+3) wr v k l/\BB w wr)
  (λi _=>ll-(intOf i).toNat)
 case atStart =>
  exact⟨0,_,ii _,rfl,aN _ _ _ ge,aC _ (aC _ (ib w _)),aC _ (aN _ _ _ ge),BuiltV.nil _ _ _ _,((((bR w).alloc lr _).alloc ge _).alloc gi _)⟩
 case round =>
  obtain⟨k,v,hk,rfl,a4,ac,b4,ao,aj⟩:=hrel;have cm:=aj.size;have ca:w.heap.size+2<wr.heap.size:=ltOf a4;have b0:=f8 a4;clear a4;have b5:=f8 ac;clear ac;have b6:=f8 b4;clear b4;by_cases bk:k<ll
  ·rcases hv with rfl|⟨b,o,rfl,hb,hvs⟩
   ·exfalso;have:=HL.o;simp at this;omega
   ·have au:k<l.length:=by have:=HL.o;omega
    obtain⟨x,hx,bl⟩:=hvs.get k au;have br:=hx.same (w':=wr) (aj.block b hb);obtain⟨cq,cn,ce,cl,ci,cr⟩:=br;have a2:IsVal (λb=>b<wr.heap.size) wr x l[k]:=bl.same λb hb=>⟨by omega,aj.block b hb⟩
    have bv:(k:Int)<(ll:Int):=ga
    clear hx;have HC:=f8 (λ(w':World) (h:w'.heap[w.heap.size+2]?=some (Obj.cells #[Value.int IntKind.i64 k0,Value.int IntKind.i64 i0,Value.int IntKind.i64 s0,Value.string t0,v,Z0] 67 (0,0))/\w'.heap[wr.heap.size]?=some (Obj.cells #[Value.int IntKind.i64 x.k,Value.int IntKind.i64 x.i,Value.int IntKind.i64 x.s,Value.string x.t,Value.slice x.la x.ll x.lc,Value.slice x.fa x.fl x.fc] 67 (0,0))) =>
     (show w'.cell? ⟨w.heap.size+1+1,4,none⟩=some v/\Ce w' wr.heap.size 0 (I6 x.k)/\Ce w' wr.heap.size 1 (I6 x.i)/\Ce w' wr.heap.size 2 (I6 x.s)/\Ce w' wr.heap.size 3 (.string x.t)/\Ce w' wr.heap.size 4 (.slice x.la x.ll x.lc)/\Ce w' wr.heap.size 5 (.slice x.fa x.fl x.fc) from⟨aA h.1 4,aA h.2 0,aA h.2 1,aA h.2 2,aA h.2 3,aA h.2 4,aA h.2 5⟩))
    go_wp2;obtain⟨wa,ag⟩:=xe (wr.alloc (Obj.cells #[Value.int IntKind.i64 x.k,Value.int IntKind.i64 x.i,Value.int IntKind.i64 x.s,Value.string x.t,Value.slice x.la x.ll x.lc,Value.slice x.fa x.fl x.fc] 67 (0,0)))
    rw[<-ag];have p1:=aC (Obj.cells #[Value.int IntKind.i64 x.k,Value.int IntKind.i64 x.i,Value.int IntKind.i64 x.s,Value.string x.t,Value.slice x.la x.ll x.lc,Value.slice x.fa x.fl x.fc] 67 (0,0)) b0.o;have p2:=ib wr (Obj.cells #[Value.int IntKind.i64 x.k,Value.int IntKind.i64 x.i,Value.int IntKind.i64 x.s,Value.string x.t,Value.slice x.la x.ll x.lc,Value.slice x.fa x.fl x.fc] 67 (0,0));rw[<-ag] at p1 p2;have bn:IsVal (λb=>b<wa.drew.heap.size) wa.drew x l[k]:=a2.same λb hb=>by rw[ag];exact⟨by simp;omega,iy _ _ _ hb⟩
    obtain⟨cs,a3,ah,a5⟩:=ao;have a1:=BuiltV.own ⟨cs,a3,ah,a5⟩;have bj:=f8 a3;clear a3;have ab:BB wr wa.drew:=by rw[ag];exact((gx _ wr).alloc lr _).drew
    have az:wr.heap.size<=wa.drew.heap.size:=ab.size;have a9:wr.heap.size<wa.heap.size:=by rw[ag];simp
    have P1:f7 (wa.drew.heap[w.heap.size+2]?=_):=f8 p1;clear p1;have P2:f7 (wa.drew.heap[wr.heap.size]?=_):=f8 p2;clear p2;clear ag;have am:k+1<=maxLen:=by unfold maxLen;omega
    have ak:(k+1) * 88<=140737488355328:=ga
    have a0:some (w.heap.size+2)≠v.ownBlock:=λe=>by have:=(a1 _ e.symm).1;omega
    have ax:some wr.heap.size≠v.ownBlock:=λe=>by have:=(a1 _ e.symm).2;omega
    refine aP 6 (λw'=>w'.heap[w.heap.size+2]?=some (Obj.cells #[Value.int IntKind.i64 k0,Value.int IntKind.i64 i0,Value.int IntKind.i64 s0,Value.string t0,v,Z0] 67 (0,0))/\w'.heap[wr.heap.size]?=some (Obj.cells #[Value.int IntKind.i64 x.k,Value.int IntKind.i64 x.i,Value.int IntKind.i64 x.s,Value.string x.t,Value.slice x.la x.ll x.lc,Value.slice x.fa x.fl x.fc] 67 (0,0))) gd gd gd gb (⟨P1.o,P2.o⟩) (λhS=>?_);simp only[zdm,zdn,zdp,zdq]
    refine tC 0 HC ?_;refine tC 1 HC ?_;refine tC 2 HC ?_;refine yr 3 λK hK=>?_;go_simp;go_at_call 270;refine(ih (Val.sz l[k]) (bu k au) l[k] x _ lr bn).mono ?_;rintro e w1 ⟨c1,rfl,ac,bw⟩;have q1:=f8 (aB ac P1.o);have q2:=f8 (aB ac P2.o);have bz:=ac.size;simp only[oo] at bz;refine hK.out _ _ (⟨q1.o,q2.o⟩) (λhS=>?_);clear hK K
    (try simp only[Act.put,pr])
    refine yr 4 λK hK=>?_;go_simp;refine hK.out _ _ (⟨aC _ q1.o,aC _ q2.o⟩) (λhS=>?_);clear hK K
    (try simp only[Act.put,pr])
    refine yr 5 λK hK=>?_;refine step_append_lies _ gh _ _ _ gh (w.heap.size+3) 67 ti _ 6 88 underlying64 hi cc co ch rfl ga v k (cs.flatMap VC.cs) gh ((fS ah (ab.trans (ac.mono az))).alloc _) ⟨w1.heap.size,0,none⟩ 1 1 c1.cs gh gh (World.news_of_block (ib w1 _)) (by simp[VC.cs,Value.oneCell']) ga am ak gi (w1.heap.size+1) ge ?_;intro gg cap w2 an aa bp bo;have r1:=f8 (aL aa (aC _ q1.o) a0);have r2:=f8 (aL aa (aC _ q2.o) ax)
    refine hK.out _ _ (⟨r1.o,r2.o⟩) (λhS=>?_);clear hK K
    (try simp only[Act.put,pr])
    refine iq gd ?_ _
    (try dsimp only)
    have b8:w2.cell? ⟨w.heap.size+1+1,4,none⟩=some v:=aA r1.o 4;have cp:w2.frozen? ⟨w.heap.size+1+1,4,none⟩=false:=aF r1.o 4;clear hS HC;go_wp2
    go_roundw
    case rel =>
     have bt:BB w w2:=(((aj.trans (ab.mono cm)).trans (ac.mono ga)).alloc ga _).grown aa gi (λr e=>by have:=(a1 r e).1;omega);have ai:BuiltV 67 (w.heap.size+3) w2 (.slice (So gg 0) (k+1) cap) (k+1) l :=
      BuiltV.push bj.o (λj hj hj'=>(a5 j hj hj').same λb hb=>⟨⟨hb.1,by have:=hb.2.1;omega,hb.2.2⟩,(ac.block b (by have:=hb.2.1;omega)).trans (ab.block b hb.2.1)⟩) au bw ga (λr e=>by have:=(a1 r e).2;omega) an aa bp
     exact⟨k+1,_,by omega,by go_num,aG _ r1.o,aD _ _ (aL aa (aC _ (aB ac (aB ab b5.o))) (λe=>by have:=(a1 _ e.symm).1;omega)) gl,aD _ _ (aL aa (aC _ (aB ac (aB ab b6.o))) (λe=>by have:=(a1 _ e.symm).1;omega)) gl,
      ai.set _ _ gl,bt.setCell gi _⟩
    case measure=>simp[intOf];omega
  ·obtain⟨be,rfl⟩:=xe k
   obtain rfl:be=ll:=ga
   clear bk;obtain⟨al,aw,rfl,ck,cu,a1⟩:=ao.shape;have ba:l=[]\/∃b o,al=some ⟨b,o,none⟩/\(w.heap.size+3<=b/\b<wr.heap.size)/\IsVals (λb=>w.heap.size+3<=b/\b<wr.heap.size) wr b o l:=by
    have h:=ao;rw[HL.o] at h;exact h.vals
   clear ao;obtain⟨vl,b3⟩:=xe (Sl al be aw)
   rw[<-b3] at b0;have b7:Ce wr w.heap.size 5 (.slice fa fl fc):=aA b5.o 5;go_wp2;clear b7;obtain⟨wl,rfl⟩:=xe (wr:World)
   have ct:True:=trivial
   go_loopw [29] (λi wr=>∃(k:Nat) (v:Value),k<=fl/\i=I6 k /\
    wr.heap[w.heap.size+2]?=some (Obj.cells #[Value.int IntKind.i64 k0,Value.int IntKind.i64 i0,Value.int IntKind.i64 s0,Value.string t0,vl,v] 67 (0,0)) /\
    (∀b,b<wl.heap.size->b≠w.heap.size+2->wr.heap[b]?=wl.heap[b]?) /\
    BuiltF 204 wl.heap.size wr v k ns fs/\BB w wr/\wl.heap.size<=wr.heap.size)
    (λi _=>fl-(intOf i).toNat)
   case atStart =>
    exact⟨0,_,ii _,rfl,b0.o,λ_ _ _=>rfl,BuiltF.nil _ _ _ _ _,aj,gy _⟩
   case round =>
    obtain⟨k,v,hk,rfl,a4,ap,ao,ad,cg⟩:=hrel;have a7:=f8 a4;clear a4;have HK:=f8 ap;clear ap;by_cases bk:k<fl
    ·rcases hf with rfl|⟨b,o,rfl,hb,hvs⟩
     ·exfalso;have:=HF.o;simp at this;omega
     ·have au:k<fs.length:=by have:=HF.o;omega
      have b2:k<ns.length:=by have:=HF.o;have:=av.o;omega
      obtain⟨⟨bm,cb⟩,x,hx,bl⟩:=hvs.get av.o k au b2;obtain⟨nm,ay⟩:=xe (ns[k])
      rw[<-ay] at bm cb;have cd:=f8 ay;clear ay;have br:=hx.same (w':=wr) (ad.block b hb);have b9:wr.cell? ⟨b,o+k * 7,none⟩=some (.string nm):=(jg (w:=w) (a:=⟨b,o+k * 7,none⟩) (ad.block b hb)).trans bm;obtain⟨cq,cn,ce,cl,ci,cr⟩:=br;have a2:IsVal (λb=>b<wr.heap.size) wr x fs[k]:=bl.same λb hb=>⟨by omega,ad.block b hb⟩
      have bv:(k:Int)<(fl:Int):=ga
      clear hx bm;have HC:=f8 (λ(w':World) (h:w'.heap[w.heap.size+2]?=some (Obj.cells #[Value.int IntKind.i64 k0,Value.int IntKind.i64 i0,Value.int IntKind.i64 s0,Value.string t0,vl,v] 67 (0,0))/\w'.heap[wr.heap.size]?=some (Obj.cells #[Value.string nm,Value.int IntKind.i64 x.k,Value.int IntKind.i64 x.i,Value.int IntKind.i64 x.s,Value.string x.t,Value.slice x.la x.ll x.lc,Value.slice x.fa x.fl x.fc] 204 (0,0))) =>
       (show w'.cell? ⟨w.heap.size+1+1,5,none⟩=some v/\Ce w' wr.heap.size 0 (.string nm)/\Ce w' wr.heap.size 1 (I6 x.k)/\Ce w' wr.heap.size 2 (I6 x.i)/\Ce w' wr.heap.size 3 (I6 x.s)/\Ce w' wr.heap.size 4 (.string x.t)/\Ce w' wr.heap.size 5 (.slice x.la x.ll x.lc)/\Ce w' wr.heap.size 6 (.slice x.fa x.fl x.fc) from⟨aA h.1 5,aA h.2 0,aA h.2 1,aA h.2 2,aA h.2 3,aA h.2 4,aA h.2 5,aA h.2 6⟩))
      go_wp2;obtain⟨wa,ag⟩:=xe (wr.alloc (Obj.cells #[Value.string nm,Value.int IntKind.i64 x.k,Value.int IntKind.i64 x.i,Value.int IntKind.i64 x.s,Value.string x.t,Value.slice x.la x.ll x.lc,Value.slice x.fa x.fl x.fc] 204 (0,0)))
      rw[<-ag];have p1:=aC (Obj.cells #[Value.string nm,Value.int IntKind.i64 x.k,Value.int IntKind.i64 x.i,Value.int IntKind.i64 x.s,Value.string x.t,Value.slice x.la x.ll x.lc,Value.slice x.fa x.fl x.fc] 204 (0,0)) a7.o;have p2:=ib wr (Obj.cells #[Value.string nm,Value.int IntKind.i64 x.k,Value.int IntKind.i64 x.i,Value.int IntKind.i64 x.s,Value.string x.t,Value.slice x.la x.ll x.lc,Value.slice x.fa x.fl x.fc] 204 (0,0));rw[<-ag] at p1 p2;have bn:IsVal (λb=>b<wa.drew.heap.size) wa.drew x fs[k]:=a2.same λb hb=>by rw[ag];exact⟨by simp;omega,iy _ _ _ hb⟩
      obtain⟨cs,a3,ah,a5⟩:=ao;have ae:=BuiltF.own ⟨cs,a3,ah,a5⟩;have bj:=f8 a3;clear a3;have ab:BB wr wa.drew:=by rw[ag];exact((gx _ wr).alloc lr _).drew
      have az:wr.heap.size<=wa.drew.heap.size:=ab.size;have a9:wr.heap.size<wa.heap.size:=by rw[ag];simp
      have P1:f7 (wa.drew.heap[w.heap.size+2]?=_):=f8 p1;clear p1;have P2:f7 (wa.drew.heap[wr.heap.size]?=_):=f8 p2;clear p2;clear ag;have am:k+1<=maxLen:=by unfold maxLen;omega
      have ak:(k+1) * 104<=140737488355328:=ga
      have a0:some (w.heap.size+2)≠v.ownBlock:=λe=>by have:=(ae _ e.symm).1;omega
      have ax:some wr.heap.size≠v.ownBlock:=λe=>by have:=(ae _ e.symm).2;omega
      refine aP 10 (λw'=>w'.heap[w.heap.size+2]?=some (Obj.cells #[Value.int IntKind.i64 k0,Value.int IntKind.i64 i0,Value.int IntKind.i64 s0,Value.string t0,vl,v] 67 (0,0))/\w'.heap[wr.heap.size]?=some (Obj.cells #[Value.string nm,Value.int IntKind.i64 x.k,Value.int IntKind.i64 x.i,Value.int IntKind.i64 x.s,Value.string x.t,Value.slice x.la x.ll x.lc,Value.slice x.fa x.fl x.fc] 204 (0,0))) gd gd gd gb (⟨P1.o,P2.o⟩) (λhS=>?_);simp only[zdm,zdn,zdp,zdq]
      refine tC 0 HC ?_;refine tC 1 HC ?_;refine tC 2 HC ?_;refine tC 3 HC ?_;refine tC 4 HC ?_;refine tC 5 HC ?_;refine yr 6 λK hK=>?_;go_simp;go_at_call 270;refine(ih (Val.sz fs[k]) (bs k au) fs[k] x _ lr bn).mono ?_;rintro e w1 ⟨c1,rfl,ac,bw⟩;have q1:=f8 (aB ac P1.o);have q2:=f8 (aB ac P2.o);have bz:=ac.size;simp only[oo] at bz;refine hK.out _ _ (⟨q1.o,q2.o⟩) (λhS=>?_);clear hK K
      (try simp only[Act.put,pr])
      refine tC 7 HC ?_;refine yr 8 λK hK=>?_;go_simp;refine hK.out _ _ (⟨aC _ q1.o,aC _ q2.o⟩) (λhS=>?_);clear hK K
      (try simp only[Act.put,pr])
      refine yr 9 λK hK=>?_;refine step_append_lies _ gh _ _ _ gh wl.heap.size 204 tf _ 7 104 underlying65 cf bi bx bf rfl ga v k (cs.flatMap FC.cs) gh ((fS ah (ab.trans (ac.mono az))).alloc _) ⟨w1.heap.size,0,none⟩ 1 1 (FC.cs (nm,c1)) gh gh (World.news_of_block (ib w1 _)) (by simp[FC.cs,VC.cs,Value.oneCell']) ga am ak gi (w1.heap.size+1) ge ?_;intro gg cap w2 an aa bp bo;have r1:=f8 (aL aa (aC _ q1.o) a0);have r2:=f8 (aL aa (aC _ q2.o) ax)
      refine hK.out _ _ (⟨r1.o,r2.o⟩) (λhS=>?_);clear hK K
      (try simp only[Act.put,pr])
      refine iq gd ?_ _
      (try dsimp only)
      have b8:w2.cell? ⟨w.heap.size+1+1,5,none⟩=some v:=aA r1.o 5;have cp:w2.frozen? ⟨w.heap.size+1+1,5,none⟩=false:=aF r1.o 5;clear hS HC;go_wp2
      go_roundw
      case rel =>
       have bt:BB w w2:=(((ad.trans (ab.mono ga)).trans (ac.mono ga)).alloc ga _).grown aa gi (λr e=>by have:=(ae r e).1;omega);have ai:BuiltF 204 wl.heap.size w2 (.slice (So gg 0) (k+1) cap) (k+1) ns fs :=
        BuiltF.push bj.o (λj hj hj' hn=>⟨(a5 j hj hj' hn).1,(a5 j hj hj' hn).2.same λb hb=>⟨⟨hb.1,by have:=hb.2.1;omega,hb.2.2⟩,(ac.block b (by have:=hb.2.1;omega)).trans (ab.block b hb.2.1)⟩⟩) au b2 cd.o bw ga (λr e=>by have:=(ae r e).2;omega) an aa bp
       refine⟨k+1,_,by omega,by go_num,aG _ r1.o,λb hb hne=>?_,ai.set _ _ gi,bt.setCell gi _,by have:=aa.size;simp at this;simp[World.setCell];omega⟩;rw[ij _ _ _ _ (by simpa using hne),aa.block b gi (λe=>by have:=(ae _ e.symm).1;omega),iy _ _ _ ga,ac.block b ga,ab.block b ga];exact HK.o b hb hne
      case measure=>simp[intOf];omega
    ·obtain rfl:k=fl:=ga
     clear bk;obtain⟨af,a8,rfl,cj,cv,ae⟩:=ao.shape;have bb:fs=[]\/∃b o,af=some ⟨b,o,none⟩/\(wl.heap.size<=b/\b<wr.heap.size)/\IsFlds (λb=>wl.heap.size<=b/\b<wr.heap.size) wr b o ns fs:=by
      have h:=ao;rw[HF.o] at h;refine h.flds av.o λn hn=>?_;rcases hf with rfl|⟨b,o,rfl,hb,hvs⟩
      ·have:=av.o;simp at this;subst this;cases hn
      ·obtain⟨j,hj,rfl⟩:=n5 hn;exact(hvs.get av.o j (by have:=av.o;omega) hj).1.2
     clear ao;have ar:=a7.o;have aq:wr.heap[w.heap.size+1]?=_:=(HK.o _ ga ga).trans b6.o;rw[b3] at ar;have e0:wr.cell? ⟨w.heap.size+1+1,0,none⟩=some (I6 k0):=aA ar 0;have e1:wr.cell? ⟨w.heap.size+1+1,1,none⟩=some (I6 i0):=aA ar 1;have e2:wr.cell? ⟨w.heap.size+1+1,2,none⟩=some (I6 s0):=aA ar 2;have e3:wr.cell? ⟨w.heap.size+1+1,3,none⟩=some (.string t0):=aA ar 3;have e4:=aA ar 4;have e5:=aA ar 5;obtain⟨g0,g1,g2,g3,g4,g5⟩:=c_6 aq;have z0:=aF aq 0;have z1:=aF aq 1;have z2:=aF aq 2
     have z3:=aF aq 3;have z4:=aF aq 4;have z5:=aF aq 5;go_wp2;refine(λ(Wf:World) (h1:Wf.heap[w.heap.size+1]?=some (Obj.cells #[Value.int IntKind.i64 k0,Value.int IntKind.i64 i0,Value.int IntKind.i64 s0,Value.string t0,.slice al be aw,.slice af k a8] 67 (0,0))) (h2:∀b,b≠w.heap.size+1->Wf.heap[b]?=wr.heap[b]?) (h3:BB w Wf) (h4:Wf.heap.size=wr.heap.size)=>?_:∀Wf:World,_->_->_->_->bodyPost _ _ _ _ _ Wf) _
      (aG _ (aG _ (aG _ (aG _ (aG _ (aG _ aq)))))) (λb hb=>((ij _ _ _ _ (by exact hb)).trans ((ij _ _ _ _ (by exact hb)).trans ((ij _ _ _ _ (by exact hb)).trans ((ij _ _ _ _ (by exact hb)).trans ((ij _ _ _ _ (by exact hb)).trans (ij _ _ _ _ (by exact hb)))))))) ((((((ad.setCell ge _).setCell ge _).setCell ge _).setCell ge _).setCell ge _).setCell ge _) (by simp[World.setCell])
     refine ig (v:=VC.v ⟨k0,i0,s0,t0,al,be,aw,af,k,a8⟩) (by simp[results,results270,go_sem,aA h1]) rfl ⟨_,rfl,h3,⟨⟨rfl,rfl,rfl,rfl,⟨a6.k,a6.i,a6.s,a6.t,a6.l,a6.f,ck,cj⟩,HL.o,HF.o,av.o⟩,?_,?_⟩⟩
     ·rcases ba with rfl|⟨b,o,rfl,hb,hvv⟩
      ·exact .inl rfl
      ·refine .inr ⟨b,o,rfl,⟨by omega,by omega⟩,hvv.same (λb hb=>⟨⟨by omega,by omega⟩,(h2 b ga).trans (HK.o b hb.2 ga)⟩) ((h2 b ga).trans (HK.o b hb.2 ga))⟩
     ·rcases bb with rfl|⟨b,o,rfl,hb,hvv⟩
      ·exact .inl rfl
      ·exact .inr ⟨b,o,rfl,⟨by omega,by omega⟩,hvv.same (λb hb=>⟨⟨by omega,by omega⟩,h2 b ga⟩) (h2 b ga)⟩
theorem aLx:∀(n:Nat) (d:Val) (c:VC) (w:World),Val.sz d<=n->IsVal (· < w.heap.size) w c d->CP 270 #[c.v] w (pQ w d):=by
 intro n
 induction n using Nat.strongRecOn with
 | _ n ih =>
   intro d c w hn hd;obtain⟨k,i,s,t,l,ns,fs⟩:=d;obtain⟨k0,i0,s0,t0,la,ll,lc,fa,fl,fc⟩:=c;obtain⟨rfl,rfl,rfl,rfl,_⟩:=hd.1;exact aIc n ih _ _ _ _ la ll lc fa fl fc l ns fs w hn hd
theorem aId {d:Val} {c:VC} {w:World} (hd:IsVal (· < w.heap.size) w c d):CP 270 #[c.v] w (pQ w d):=aLx _ d c w lr hd
end Go.Proofs.YtoodnaghjpkjfaaGreatDoor
