/- A part. -/
import Derived.Test.YtoodnaghjpkjfaaGreatDoorSE2Mrg
import Derived.RangeFuncNested
import Derived.RangeFuncBound
import Derived.Shelf.RegionOpen
import Derived.OwnWalkIn
import Derived.TacticsInMore
import Derived.LoopIn
import Derived.Sort.CutIn
namespace Go.Proofs.YtoodnaghjpkjfaaGreatDoor
open Tryz
set_option linter.unusedVariables false
set_option maxRecDepth 100000
set_option maxHeartbeats 64000000
set_option linter.unusedSimpArgs false
open Go Go.RowKit Go.Shelf
def gH:Val->List Val
 | .mk k _ _ _ l _ fs=>if k=8\/k=10 then l else if k=9 then fs else []
def KidsAt (n₀ m:Nat) (w w':World) (a:Option Addr) (n:Nat) (l:List Val):Prop :=
 n=l.length/\(l=[]\/∃b o,a=some ⟨b,o,none⟩/\b<w'.heap.size/\(b<n₀\/m<=b)/\(∃cs t fr,w'.heap[b]?=some (.cells cs t fr))/\∀j (h:j<l.length),∃x,At w' b (o+j * 6) x/\IsVal (· < n₀) w x l[j])
def aM9 (n₀:Nat) (w0:World) (d:Val) (w:World) (e:Ending) (w':World):Prop:=∃a n cap,e=.returned (.slice a n cap)/\BB w w'/\n * 88<=140737488351232 * 2/\KidsAt n₀ w.heap.size w0 w' a n (gH d)
theorem blockOf {w:World} {b o:Nat} {v:Value} (h:w.cell? ⟨b,o,none⟩=some v):∃cs t fr,w.heap[b]?=some (.cells cs t fr):=by
 unfold World.cell? at h;dsimp only at h;split at h
 ·rename_i c t fr e;exact⟨_,_,_,e⟩
 ·cases h
theorem aH5 (n₀:Nat) (w0:World) (d:Val) (c:VC) (w:World) (hw:Below n₀ w0 w) (bl:n₀<=w.heap.size) (hd:IsVal (· < n₀) w0 c d) :
 CP 275 #[c.v] w (aM9 n₀ w0 d w):=by
 obtain⟨k0,i0,s0,t0,l,ns,fs⟩:=d;obtain⟨k1,i1,s1,t1,la,ll,lc,fa,fl,fc⟩:=c;obtain⟨⟨h1,h2,h3,h4,ao,an,ap,aq⟩,hv,hf⟩:=hd;dsimp only at h1 h2 h3 h4 an ap hv hf;subst h1 h2 h3 h4;have be:ll * 88<=140737488351232:=ao.l;have bf:fl * 104<=140737488351232:=ao.f;clear ao;have a5:=f8 an;clear an;have ai:=f8 ap;clear ap;have ax:=f8 aq;clear aq;by_cases h8:k1=8\/k1=10
 ·have HR:=f8 (show gH (.mk k1 i1 s1 t1 l ns fs)=l by simp[gH,h8]);have ad:∀w',BB w w'->aM9 n₀ w0 (.mk k1 i1 s1 t1 l ns fs) w (.returned (Sl la ll lc)) w':=λw' hb=>by
   refine⟨_,_,_,rfl,hb,by omega,?_⟩;rw[HR.o];refine⟨a5.o,?_⟩;rcases hv with rfl|⟨b,o,rfl,hb',hvs⟩
   ·exact .inl rfl
   ·by_cases af:l=[]
    ·exact .inl af
    ·have aw:0<l.length:=List.length_pos_iff.2 af;have hs:=hb.size;refine .inr ⟨b,o,rfl,by omega,.inl hb',?_,λj hj=>?_⟩
     ·obtain⟨x,hx,_⟩:=hvs.get 0 aw;exact blockOf ((hx.same ((hb.block b ga).trans (hw.block b hb'))).k)
     ·obtain⟨x,hx,al⟩:=hvs.get j hj;exact⟨x,hx.same ((hb.block b ga).trans (hw.block b hb')),al⟩
  have HP:=f8 ad;clear ad hv hf;rcases h8 with rfl|rfl
  all_goals
   go_enter func275,ntmps275
   go_wp2;go_ret;exact HP.o _ ((bR w).alloc lr _)
 ·by_cases h9:k1=9
  ·have HR:=f8 (show gH (.mk k1 i1 s1 t1 l ns fs)=fs by subst h9;simp[gH]);subst h9;obtain⟨ti,hi,ba,a6,a8⟩:=jr pG;clear h8 hv;have HW:=f8 hw;go_enter func275,ntmps275
   go_wp2
   go_loopw [3,18] (λv i wr=>∃(k:Nat) (cs:List VC),k<=fl/\i=I6 k/\cs.length=k/\wr.ownsRow (w.heap.size+1) 67 6 v k (cs.flatMap VC.cs) /\
    (∀j (h:j<cs.length) (h':j<fs.length),IsVal (· < n₀) w0 cs[j] fs[j])/\BB w wr/\w.heap.size+1<=wr.heap.size)
    (λ_ i _=>fl-(intOf i).toNat)
   case atStart=>exact⟨0,[],ii _,rfl,rfl,lf _ _ _ _,λj h=>by simp at h,(bR w).alloc lr _,by simp⟩
   case round =>
    obtain⟨k,cs,hk,rfl,av,aa,ay,ab,a3⟩:=hrel;have ak:=f8 av;clear av;have au:=f8 ay;clear ay;by_cases bh:k<fl
    ·rcases hf with rfl|⟨b,o,rfl,hb,hvs⟩
     ·exfalso;have h1:=ai.o;simp only[i7] at h1;omega
     ·have az:k<fs.length:=by have h1:=ai.o;omega
      have a1:k<ns.length:=by have h1:=ai.o;have h2:=ax.o;omega
      obtain⟨⟨am,a7⟩,x,hx,al⟩:=hvs.get ax.o k az a1;obtain⟨nm,ah⟩:=xe (ns[k])
      rw[<-ah] at am;clear ah a7;obtain⟨bi,bc,bm,bb,bk,bj⟩:=hx.same (w':=wr) ((ab.block b ga).trans (HW.block b hb));have a4:wr.cell? ⟨b,o+k * 7,none⟩=some (Sv nm):=(jg (w:=w0) (a:=⟨b,o+k * 7,none⟩) ((ab.block b ga).trans (HW.block b hb))).trans am;have a0:(k:Int)<(fl:Int):=ga
      have ag:k+1<=maxLen:=by unfold maxLen;omega
      have ae:(k+1) * 88<=140737488355328:=ga
      clear hx am hw;have HX:=f8 al;clear al;go_wp2_with (at_builtin;(refine wpList_append_lies _ gh _ _ 64 gh (w.heap.size+1) 67 ti _ 6 88 underlying64 hi ba a6 a8 rfl ga _ k (cs.flatMap VC.cs) gh ((aa.alloc _).alloc _) ⟨wr.heap.size+1,0,none⟩ 1 1 x.cs gh gh (World.news_of_block (aN _ _ _ ge)) (by simp[VC.cs,Value.oneCell']) ga ag ae gi (wr.heap.size+1+1) ge ?_);intro gg cap w2 aj ac bd a2)
      go_roundw
      case rel =>
       refine⟨k+1,cs++[x],by omega,by go_num,by simp[ak.o],by simpa using aj,λj hj hj'=>?_,((ab.alloc ga _).alloc gi _).grown ac gi (λr e=>by have:=(aa.lt r e).1;omega),by have:=ac.size;simp at this;omega⟩;by_cases ar:j<cs.length
       ·rw[ku ar];exact au.o j ar hj'
       ·obtain rfl:j=k:=by have:=ak.o;simp at hj;omega
        rw[li ga];simp only[ak.o,np,k8];exact HX.o
      case measure=>simp[intOf];omega
    ·obtain rfl:k=fl:=ga
     go_wp2;go_ret;have a9:∃a cap,(∀r,a=some r->∃g,r=⟨g,0,none⟩)/\u3=Sl a k cap:=by
      rcases aa.2 with ⟨rfl,rfl⟩|⟨g,cap,cur,rfl,_⟩
      ·exact⟨none,0,λr h=>gp,rfl⟩
      ·exact⟨_,cap,λr h=>⟨g,(by cases h;rfl)⟩,rfl⟩
     obtain⟨a,cap,ha,rfl⟩:=a9;refine⟨a,k,cap,rfl,ab,by omega,?_⟩;rw[HR.o];refine⟨ai.o,?_⟩;by_cases af:fs=[]
     ·exact .inl af
     ·have aw:0<fs.length:=List.length_pos_iff.2 af;have h1:=ai.o;rcases aa.2 with ⟨h2,h3⟩|⟨g,cap',cur,hv,hb,hg,_⟩
      ·omega
      ·simp only[lz] at hv;obtain⟨rfl,_,rfl⟩:=hv;have h2:=ak.o;exact .inr ⟨g,0,rfl,ltOf hg,.inr ga,⟨_,_,_,hg⟩,λj hj=>⟨cs[j]' ga,by rw[ir];exact At.ofRow aa j ga,au.o j ga hj⟩⟩
  ·have HR:=f8 (show gH (.mk k1 i1 s1 t1 l ns fs)=[] by simp[gH,h8,h9]);have e8:(k1==8)=false:=by simp;omega
   have e9:(k1==9)=false:=by simp;omega
   have bg:(k1==10)=false:=by simp;omega
   clear hv hf h8 h9 hw;go_enter func275,ntmps275
   go_wp2;go_ret;exact⟨_,_,_,rfl,(bR w).alloc lr _,by omega,by rw[HR.o];exact⟨rfl,.inl rfl⟩⟩
section
attribute [local go_sem] nj
mutual
def jY (lvl:Int):Val->List (Int × Val)
 | .mk k i s t l ns fs=>(lvl,.mk k i s t l ns fs) :: (if k=8\/k=10 then cD (wrap64 (lvl+1)) l else if k=9 then cD (wrap64 (lvl+1)) fs else [])
def cD (lvl:Int):List Val->List (Int × Val)
 | []=>[]
 | d :: l=>jY lvl d++cD lvl l
end
theorem mX (lvl:Int) (d:Val):jY lvl d=(lvl,d) :: cD (wrap64 (lvl+1)) (gH d):=by
 obtain⟨k,i,s,t,l,ns,fs⟩:=d;rw[jY,gH];split
 ·rfl
 ·split
  ·rfl
  ·rfl
theorem mW (lvl:Int):∀(l:List Val) (k:Nat) (h:k<l.length),cD lvl (l.take (k+1))=cD lvl (l.take k)++jY lvl l[k]
 | d :: l,0,_=>by simp[cD]
 | d :: l,k+1,h=>by
   simp only[List.take_succ_cons,cD,ka,qp];rw[mW lvl l k gv]
theorem wP (lvl:Int) (l:List Val) (k:Nat) (h:k<l.length):(cD lvl (l.take k)).length+(jY lvl l[k]).length<=(cD lvl l).length:=by
 have h1:=congrArg List.length (mW lvl l k h);rw[ik] at h1;rw[<-h1];have:∀(l:List Val) (m:Nat),(cD lvl (l.take m)).length<=(cD lvl l).length:=by
  intro l
  induction l with
  | nil=>intro m;simp[cD]
  | cons d l ih =>
    intro m;cases m with
    | zero=>simp[cD]
    | succ m=>simp only[List.take_succ_cons,cD,ik];have:=ih m;omega
 exact this l (k+1)
theorem rN (lvl:Int) (l:List Val) (k:Nat) (h:k<l.length) (q:List (Int × Val)) (hq:q <+: jY lvl l[k]):cD lvl (l.take k)++q <+: cD lvl l:=by
 have:∀(l:List Val) (m:Nat),cD lvl (l.take m) <+: cD lvl l:=by
  intro l
  induction l with
  | nil=>intro m;simp[cD]
  | cons d l ih =>
    intro m;cases m with
    | zero=>simp[cD]
    | succ m=>simp only[List.take_succ_cons,cD];exact(List.prefix_append_right_inj _).2 (ih m)
 have h1:=this l (k+1);rw[mW lvl l k h] at h1;exact((List.prefix_append_right_inj _).2 hq).trans h1
abbrev Item (n₀:Nat) (W0:World):={ x:Int × VC × Val // IsVal (· < n₀) W0 x.2.1 x.2.2 }
def Item.dat {n₀:Nat} {W0:World} (x:Item n₀ W0):Int × Val:=(x.1.1,x.1.2.2)
def Item.encs {n₀:Nat} {W0:World} (x:Item n₀ W0):Array Value:=#[I6 x.1.1,x.1.2.1.v]
def Kp (n₀ n₁:Nat) (W W':World):Prop:=Below n₀ W W'/\∀(b:Nat) (o:Obj),n₁<=b->W.heap[b]?=some o->o.isCells=true->W'.heap[b]?=some o
theorem Kp.refl (n₀ n₁:Nat) (W:World):Kp n₀ n₁ W W:=⟨gx _ _,λ_ _ _ h _=>h⟩
theorem Kp.trans {n₀ n₁:Nat} {A B C:World} (h:Kp n₀ n₁ A B) (k:Kp n₀ n₁ B C):Kp n₀ n₁ A C:=⟨h.1.trans k.1,λb o hb ho hc=>k.2 b o hb (h.2 b o hb ho hc) hc⟩
theorem Kp.ext {n₀ n₁:Nat} {A B:World} (h:BB A B) (hn:n₀<=A.heap.size):Kp n₀ n₁ A B:=⟨h.mono hn,λb o _ ho _=>aB h ho⟩
theorem Kp.cells {n₀ n₁:Nat} {A B:World} (h:Kp n₀ n₁ A B) {b:Nat} {cs:Array Value} {t:TypeId} {fr:Nat × Nat} (hb:b<n₀\/n₁<=b) (hc:A.heap[b]?=some (.cells cs t fr)):B.heap[b]?=some (.cells cs t fr):=by
 rcases hb with hb|hb
 ·exact(h.1.block b hb).trans hc
 ·exact h.2 b _ hb hc rfl
theorem kp_b {n₀ n₁:Nat} {w:World} (hn:n₀<=w.heap.size) (W:World) (l:Nat) (o o':Obj) (hl:w.heap.size<=l) (h:W.heap[l]?=some o) (hc:o.isCells=false) (hw:o.isWalk=false):Kp n₀ n₁ W (W.putObj l o') :=
 ⟨belowK_b hn W l o o' hl h hc hw,λb o2 _ h2 hc2=>by
   refine(jx (λe=>?_)).trans h2;subst e;rw[h] at h2;cases h2;rw[hc] at hc2;cases hc2⟩
theorem RoundIn.anyDepth {m m':Nat} {P:Program} {l:Nat} {f:FuncId} {tmps:Array Value} {assign body:Code} {w:World} {R:Ending->World->Prop}
 (h:RoundIn Fence.wide m P l f tmps assign body w R):RoundIn Fence.wide m' P l f tmps assign body w R:=⟨h.1,λc cs _=>h.2 c cs (λd h=>by cases h)⟩
theorem YieldAt.anyDepth {m:Nat} (m':Nat) {P:Program} {l:Nat} {args:Array Value} {W:World} {R:Ending->World->Prop} (h:YieldAt Fence.wide m P l args W R):YieldAt Fence.wide m' P l args W R:=by
 obtain⟨fn,tmps,aa,ab,hy,hR⟩:=h;exact⟨fn,tmps,aa,ab,hy,RoundIn.anyDepth hR⟩
def Six (W:World) (B:Nat) (c:VC):Prop:=W.cell? ⟨B,0,none⟩=some (I6 c.k)/\W.cell? ⟨B,1,none⟩=some (I6 c.i)/\W.cell? ⟨B,2,none⟩=some (I6 c.s)/\W.cell? ⟨B,3,none⟩=some (.string c.t)/\W.cell? ⟨B,4,none⟩=some (.slice c.la c.ll c.lc)/\W.cell? ⟨B,5,none⟩=some (.slice c.fa c.fl c.fc)
theorem sixOf {W:World} {B:Nat} {c:VC} {t:TypeId} {fr:Nat × Nat} (h:W.heap[B]?=some (.cells #[I6 c.k,I6 c.i,I6 c.s,Sv c.t,Sl c.la c.ll c.lc,Sl c.fa c.fl c.fc] t fr)):Six W B c :=
 ⟨aA h 0,aA h 1,aA h 2,aA h 3,aA h 4,aA h 5⟩
def tT {n₀:Nat} {W0:World} (n₁:Nat) (J Jx:List (Item n₀ W0)->World->Prop) (pre:List (Item n₀ W0)) (L:List (Int × Val)) (W:World) (e:Ending) (W':World):Prop :=
 (e=.returned (.bool true)/\∃ys:List (Item n₀ W0),ys.map Item.dat=L/\J (pre++ys) W'/\Kp n₀ n₁ W W'/\W.heap.size<=W'.heap.size) \/
 (e=.returned (.bool false)/\∃ys:List (Item n₀ W0),ys.map Item.dat <+: L/\Jx (pre++ys) W')
theorem aG1 (l n₀ n₁ N:Nat) (W0:World) (bp:n₀<=W0.heap.size) (bx:n₀<=n₁) (J Jx:List (Item n₀ W0)->World->Prop) (hJ:∀aa W W',J aa W->BB W W'->J aa W')
 (hY:∀m aa (x:Item n₀ W0) W,J aa W->aa.length<N->YieldAt Fence.wide m prog l x.encs W λe W'=>(e=.returned (.bool true)/\J (aa++[x]) W'/\Kp n₀ n₁ W W')\/(e=.returned (.bool false)/\Jx (aa++[x]) W'))
 (d:Val) (ih:∀d'∈gH d,∀(m:Nat) (c:VC) (lvl:Int) (aa:List (Item n₀ W0)) (W:World),IsVal (· < n₀) W0 c d'->Below n₀ W0 W->n₁<=W.heap.size->J aa W->aa.length+(jY lvl d').length<=N->CallsIn Fence.wide m prog 247 #[c.v,I6 lvl,.func (.yield l) #[] #[]] W (tT n₁ J Jx aa (jY lvl d') W))
 (m:Nat) (c:VC) (lvl:Int) (aa:List (Item n₀ W0)) (W:World) (hd:IsVal (· < n₀) W0 c d) (hW:Below n₀ W0 W) (av:n₁<=W.heap.size) (hj:J aa W) (hN:aa.length+(jY lvl d).length<=N) :
 CallsIn Fence.wide m prog 247 #[c.v,I6 lvl,.func (.yield l) #[] #[]] W (tT n₁ J Jx aa (jY lvl d) W):=by
 obtain⟨Wa,ai⟩:=xe (W.alloc (.cells #[I6 c.k,I6 c.i,I6 c.s,Sv c.t,Sl c.la c.ll c.lc,Sl c.fa c.fl c.fc] 67))
 have aj:BB W Wa:=by rw[ai];exact(gx _ W).alloc lr _
 have ae:Wa.heap[W.heap.size]?=some (.cells #[I6 c.k,I6 c.i,I6 c.s,Sv c.t,Sl c.la c.ll c.lc,Sl c.fa c.fl c.fc] 67 (0,0)):=by rw[ai];exact ib W _
 have a1:J aa Wa:=hJ _ _ _ hj aj;have ap:=mX lvl d;have bn:aa.length+1+(cD (wrap64 (lvl+1)) (gH d)).length<=N:=by rw[ap] at hN;simp only[im] at hN;omega
 have a0:=YieldAt.mono (R':=λe W2=>(e=.returned (.bool true)/\(J (aa++[⟨(lvl,c,d),hd⟩]) W2/\Kp n₀ n₁ W W2/\Below n₀ W0 W2/\W.heap.size<W2.heap.size)/\Six W2 W.heap.size c)\/(e=.returned (.bool false)/\Jx (aa++[⟨(lvl,c,d),hd⟩]) W2)) (hY (m-1) aa ⟨(lvl,c,d),hd⟩ Wa a1 ga)
  (λe W2 h=>h.elim (λ⟨he,hj2,af⟩=>.inl ⟨he,⟨hj2,(Kp.ext aj ga).trans af,(hW.trans (aj.mono ga)).trans af.1,ltOf (af.cells (.inr av) ae)⟩,sixOf (af.cells (.inr av) ae)⟩) .inr)
 have ao:=f8 ap;clear ap hN;obtain⟨fn,tmps,aq,bg,hy,hR⟩:=a0;dsimp only[Item.encs] at hy;clear ae;refine callsIn_of_wp func247 rfl trivial ?_ rfl;simp only[ntmps247,oh,im,i7,Nat.reduceAdd,Nat.reduceSub,oy,ox,o0,oz,ji,jh];rw[ai] at hy hR;clear ai aj a1
 gi_wp2_with (first
  | ((try refine⟨λh=>gp,?_⟩);refine hR.mono ?_;clear hR;rintro e W2 (⟨rfl,h2,e0,e1,e2,e3,e4,e5⟩|⟨rfl,a4⟩))
  | ((try refine⟨trivial,?_⟩);(try refine⟨λh=>gp,?_⟩);gi_at_call 275;refine(callsIn_wide.2 (aH5 n₀ W0 d c _ h2.2.2.1 (by have:=h2.2.2.2;omega) hd)).mono ?_;rintro e W3 ⟨a,n,cap,rfl,h3⟩))
 ·obtain⟨au,af,ar,bt⟩:=h2;obtain⟨ak,bs,az,bc⟩:=h3;clear e0 e1 e2 e3 e4 e5;have bq:=ak.size;have bk:=hJ _ _ _ au ak;have bl:Kp n₀ n₁ W W3:=af.trans (Kp.ext ak ga);have bi:Below n₀ W0 W3:=ar.trans (ak.mono ga);clear au af ar
  gi_loopw [17] (λi wr=>∃(k:Nat) (ys:List (Item n₀ W0)),k<=n/\i=I6 k/\ys.map Item.dat=cD (wrap64 (lvl+1)) ((gH d).take k)/\J (aa++[⟨(lvl,c,d),hd⟩]++ys) wr/\Kp n₀ n₁ W3 wr/\W3.heap.size<=wr.heap.size)
   (λi _=>n-(intOf i).toNat)
  case atStart=>exact⟨0,[],ii _,rfl,rfl,by simpa using bk,Kp.refl _ _ _,gy _⟩
  case round =>
   obtain⟨k,ys,hk,rfl,ax,aw,ah,bm⟩:=hrel;have am:=f8 ax;clear ax;have bf:=f8 az;by_cases bv:k<n
   ·have ad:k<(gH d).length:=ga
    clear az;rcases bc with h0|⟨b,o,rfl,hb,hbn,ab,hat⟩
    ·exfalso;rw[h0] at ad;simp at ad
    ·obtain⟨cs,t,fr,ab⟩:=ab;obtain⟨x,hx,a3⟩:=hat k ad;have ac:wr.heap[b]?=W3.heap[b]?:=(ah.cells ga ab).trans ab.symm;obtain⟨a0,br,a4,bo,a2,bw⟩:=hx.same ac;clear ab ac hx hat
     have a9:(k:Int)<(n:Int):=ga
     have a7:Below n₀ W0 wr:=bi.trans ah.1;obtain⟨wb,al⟩:=xe (wr.alloc (.cells #[I6 x.k,I6 x.i,I6 x.s,Sv x.t,Sl x.la x.ll x.lc,Sl x.fa x.fl x.fc] 67))
     have ag:BB wr wb:=by rw[al];exact(gx _ wr).alloc lr _
     have bu:wr.heap.size<=wb.heap.size:=ag.size;have bb:=wP (wrap64 (lvl+1)) (gH d) k ad;have ba:ys.length=(cD (wrap64 (lvl+1)) ((gH d).take k)).length:=by rw[<-am.o,jy]
     have hc:=ih (gH d)[k] (kc ad) (m-1) x (wrap64 (lvl+1)) (aa++[⟨(lvl,c,d),hd⟩]++ys) wb a3 (a7.trans (ag.mono ga)) ga (hJ _ _ _ aw ag) (by simp only[ik,im,i7];omega);have a6:=f8 (mW (wrap64 (lvl+1)) (gH d) k ad);have be:=f8 (rN (wrap64 (lvl+1)) (gH d) k ad);clear bb ba a3;have a5:=f8 ag;rw[al] at hc;obtain⟨HC,bd⟩:=h_2 hc al;clear al hc ag;have bj:(n:Int)<=9223372036854775807:=ga
     gi_wp2_with ((try refine⟨trivial,?_⟩);(try refine⟨λh=>gp,?_⟩);gi_at_call 247;refine HC.mono ?_;rintro e W4 (⟨rfl,h4⟩|⟨rfl,h4⟩))
     ·obtain⟨zs,an,bh,ay,a8⟩:=h4;rw[<-bd.o] at ay a8
      go_roundw
      case rel=>exact⟨k+1,ys++zs,by omega,by go_num,by rw[kh,am.o,an,a6.o],by simpa using bh,ah.trans ((Kp.ext a5.o ga).trans ay),by omega⟩
      case measure=>simp[intOf];omega
     ·obtain⟨zs,an,a2⟩:=h4;go_ret;refine .inr ⟨rfl,⟨(lvl,c,d),hd⟩ :: (ys++zs),?_,by simpa using a2⟩;rw[ao.o,jv,kh,am.o];exact(List.prefix_cons_inj _).2 (be.o _ an)
   ·obtain rfl:k=n:=ga
    gi_wp2
    go_ret;refine .inl ⟨rfl,⟨(lvl,c,d),hd⟩ :: ys,?_,by simpa using aw,bl.trans ah,by omega⟩;rw[ao.o,jv,am.o,bf.o,List.take_length];rfl
 ·go_ret;refine .inr ⟨rfl,[⟨(lvl,c,d),hd⟩],?_,a4⟩;rw[ao.o];exact⟨_,rfl⟩
theorem kids_sz {d d':Val} (h:d'∈gH d):Val.sz d'<Val.sz d:=by
 obtain⟨k,i,s,t,l,ns,fs⟩:=d;have aa:∀r:List Val,d'∈r->Val.sz d'<=Val.szs r:=λr hl=>by
  obtain⟨j,hj,rfl⟩:=n5 hl;exact Val.szs_get r j hj
 simp only[gH] at h;simp only[Val.sz];by_cases h1:k=8\/k=10
 ·rw[gw h1] at h;have:=aa l h;omega
 ·rw[f9 h1] at h;by_cases h2:k=9
  ·rw[gw h2] at h;have:=aa fs h;omega
  ·rw[f9 h2] at h;cases h
theorem aMc (l n₀ n₁ N:Nat) (W0:World) (ac:n₀<=W0.heap.size) (ad:n₀<=n₁) (J Jx:List (Item n₀ W0)->World->Prop) (hJ:∀aa W W',J aa W->BB W W'->J aa W')
 (hY:∀m aa (x:Item n₀ W0) W,J aa W->aa.length<N->YieldAt Fence.wide m prog l x.encs W λe W'=>(e=.returned (.bool true)/\J (aa++[x]) W'/\Kp n₀ n₁ W W')\/(e=.returned (.bool false)/\Jx (aa++[x]) W')) :
 ∀(z:Nat) (d:Val),Val.sz d<=z->∀(m:Nat) (c:VC) (lvl:Int) (aa:List (Item n₀ W0)) (W:World),IsVal (· < n₀) W0 c d->Below n₀ W0 W->n₁<=W.heap.size->J aa W->aa.length+(jY lvl d).length<=N ->
  CallsIn Fence.wide m prog 247 #[c.v,I6 lvl,.func (.yield l) #[] #[]] W (tT n₁ J Jx aa (jY lvl d) W):=by
 intro z
 induction z using Nat.strongRecOn with
 | _ z ih =>
   intro d hz m c lvl aa W hd hW ab hj hN;exact aG1 l n₀ n₁ N W0 ac ad J Jx hJ hY d (λd' hd'=>ih (Val.sz d') (by have:=kids_sz hd';omega) d' lr) m c lvl aa W hd hW ab hj hN
theorem zF (c:VC) (w:World):CP 172 #[c.v] w λe w'=>e=.returned (.func (.func 246) #[] #[Pt w.heap.size 0]) /\
 w.alloc (.cells #[I6 c.k,I6 c.i,I6 c.s,Sv c.t,Sl c.la c.ll c.lc,Sl c.fa c.fl c.fc] 67)=w':=by
 go_enter func172,ntmps172
 go_wp2;go_ret;exact⟨rfl,rfl⟩
theorem wO (m n₀ B:Nat) (W0 w:World) (c:VC) (d:Val) (ac:n₀<=W0.heap.size) (hw:Below n₀ W0 w) (hB:n₀<=B) (hd:IsVal (· < n₀) W0 c d)
 (aa:w.heap[B]?=some (.cells #[I6 c.k,I6 c.i,I6 c.s,Sv c.t,Sl c.la c.ll c.lc,Sl c.fa c.fl c.fc] 67 (0,0))) (n₁:Nat) (af:n₁<=w.heap.size) (ae:n₀<=n₁) :
 SeqStopsK Fence.wide m prog 246 #[Pt B 0] (Item.encs (n₀:=n₀) (W0:=W0)) (Kp n₀ n₁) (λys=>ys.map Item.dat=jY 1 d) (λys=>ys.map Item.dat <+: jY 1 d) (jY 1 d).length w:=by
 intro l J Jx W hW hJ ah hY h0;have ag:=hW.size;have ad:=sixOf (aB hW aa)
 -- the invariant with what it abides
 have hv:=aMc l n₀ n₁ (jY 1 d).length W0 ac ae (λpre W1=>J pre W1/\W.heap.size<=W1.heap.size/\Below n₀ W0 W1) Jx
  (λpre W1 W2 h hb=>⟨hJ _ _ _ none h.1 (aU hb none) (λr e=>by cases e),by have:=hb.size;omega,h.2.2.trans (hb.mono ga)⟩)
  (λm' pre x W1 h hl=>YieldAt.anyDepth m' (YieldAt.mono (hY pre x W1 h.1 hl) λe W2 h2=>h2.imp (λ⟨he,hj2,hk2⟩=>⟨he,⟨hj2,io h.2.1 hk2.1.size,h.2.2.trans hk2.1⟩,hk2⟩) id))
  (Val.sz d) d lr (m-1) c 1 [] W hd (hw.trans (hW.mono ga)) ga ⟨h0,gy _,hw.trans (hW.mono ga)⟩ ge
 obtain⟨e0,e1,e2,e3,e4,e5⟩:=ad;have HV:=f8 hv;clear hv hY;refine callsIn_of_wp func246 rfl trivial ?_ rfl;simp only[ntmps246,oh,im,i7,Nat.reduceAdd,Nat.reduceSub,oy,ox,o0,oz,ji,jh]
 gi_wp2_with ((try refine⟨trivial,?_⟩);(try refine⟨λh=>gp,?_⟩);gi_at_call 247;refine HV.mono ?_;rintro e W1 (⟨rfl,h4⟩|⟨rfl,h4⟩))
 ·obtain⟨ys,ab,hj,_⟩:=h4
  go_end0
  exact⟨⟨_,rfl⟩,.inl ⟨ys,ab,by simpa using hj.1⟩⟩
 ·obtain⟨ys,ab,hj⟩:=h4
  go_end0
  exact⟨⟨_,rfl⟩,.inr ⟨ys,ab,by simpa using hj⟩⟩
end
section
attribute [local go_sem] nj
abbrev vObj (c:VC):Obj:=.cells #[I6 c.k,I6 c.i,I6 c.s,.string c.t,.slice c.la c.ll c.lc,.slice c.fa c.fl c.fc] 67
end
def numK (k:Int):Bool:=k==1||k==2||k==6||k==7||k==3
def aMl (k:Int):Bool:=k==4||k==5||k==10
def aNc (k:Int):Bool:=k==8||k==10
def vJ (k i s:Int) (t:ByteArray) (ll fl:Nat):Bool:=(numK k||i==0)&&((k==3||s==0)&&((aMl k||t.toList.isEmpty)&&((aNc k||((ll:Int)==0))&&(k==9||((fl:Int)==0)))))
theorem aA0 (k i s:Int) (t:ByteArray) (la:Option Addr) (ll lc:Nat) (fa:Option Addr) (fl fc:Nat) (w:World) (hk:1<=k/\k<=10) :
 CP 173 #[.agg #[I6 k,I6 i,I6 s,Sv t,Sl la ll lc,Sl fa fl fc]] w (Rt (.bool (vJ k i s t ll fl)) w):=by
 have:k=1\/k=2\/k=3\/k=4\/k=5\/k=6\/k=7\/k=8\/k=9\/k=10:=ga
 clear hk;rcases this with rfl|rfl|rfl|rfl|rfl|rfl|rfl|rfl|rfl|rfl
 all_goals
  go_enter func173,ntmps173
  go_wp2
  all_goals go_ret
  all_goals exact⟨by simp[vJ,numK,aMl,aNc, *],(bR w).alloc lr _⟩
section
attribute [local go_sem] nj
def fH:Val->Bool
 | .mk k i s t l ns fs=>eO k i s t l.length fs.length
def aDl:Val->Bool
 | .mk k i s t l ns fs=>vJ k i s t l.length fs.length
def nM:Val->Int
 | .mk k i s t l ns fs=>if k=1 then cP i 0 1 else if k=2 then cP i (-999999999999999) 999999999999999
    else if k=3 then oI (cP i (-999999999999999) 999999999999999) (cP s 0 12) else if k=4 then nT t else if k=5 then fJ t.size 1024 5
    else if k=6 then cP i (-719162) 2932896 else if k=7 then cP i (-62135596800000) 253402300799999 else if k=8 then fJ l.length 256 9
    else if k=9 then fD ns else dG t l.length
def aAz:Val->Int
 | .mk k _ _ _ _ _ _=>k
def eP (p:Nat) (x:Int × Val):Int :=
 if 4096<p then 9 else if 8<x.1 then 23 else if fH x.2=true then 19 else if aAz x.2<1\/10<aAz x.2 then 11 else if aDl x.2=false then 3 else nM x.2
def fB (p:Nat):List (Int × Val)->Int
 | []=>0
 | x :: r=>if eP (p+1) x≠0 then eP (p+1) x else fB (p+1) r
def bG (d:Val):Int:=fB 0 (jY 1 d)
theorem nK:∀(p:Nat) (xs ys:List (Int × Val)),fB p (xs++ys)=if fB p xs≠0 then fB p xs else fB (p+xs.length) ys
 | p,[],ys=>by simp[fB]
 | p,x :: xs,ys=>by
   simp only[jh,fB,im];by_cases h:eP (p+1) x≠0
   ·simp only[h,je,ne_eq,not_false_eq_true]
   ·simp only[h,kz];rw[nK (p+1) xs ys,show p+1+xs.length=p+(xs.length+1) by omega]
theorem aIi (xs:List (Int × Val)) (x:Int × Val) (h:fB 0 xs=0):fB 0 (xs++[x])=eP (xs.length+1) x:=by
 rw[nK,f9 (by simp[h])];simp only[fB,ir];split
 ·rfl
 ·rename_i h1;simp at h1;exact h1.symm
theorem chkGo_len':∀(xs:List (Int × Val)) (p:Nat),p<=4096->fB p xs=0->p+xs.length<=4096
 | [],p,hp,_=>by simpa using hp
 | x :: xs,p,hp,h=>by
   simp only[fB] at h;by_cases h1:eP (p+1) x≠0
   ·rw[gw h1] at h;exact absurd h h1
   ·rw[f9 h1] at h;have h2:¬ 4096<p+1:=λh2=>h1 (by unfold eP;rw[gw h2];decide);have:=chkGo_len' xs (p+1) ga h;simp only[im];omega
theorem aBj (xs:List (Int × Val)) (h:fB 0 xs=0):xs.length<=4096:=by
 have:=chkGo_len' xs 0 ga h;omega
theorem aD6 {xs L:List (Int × Val)} (h:xs <+: L) (aa:fB 0 xs≠0):fB 0 L=fB 0 xs:=by
 obtain⟨t,rfl⟩:=h;rw[nK,gw aa]
def aAj (k:Int):FuncId:=if k=1 then 233 else if k=2 then 235 else if k=3 then 236 else if k=4 then 238 else if k=5 then 240
 else if k=6 then 241 else if k=7 then 242 else if k=8 then 243 else if k=9 then 244 else 245
abbrev rulesObj:Obj:=.cells #[.nilFunc,.func (.func 233) #[] #[],.func (.func 235) #[] #[],.func (.func 236) #[] #[],.func (.func 238) #[] #[],.func (.func 240) #[] #[],
 .func (.func 241) #[] #[],.func (.func 242) #[] #[],.func (.func 243) #[] #[],.func (.func 244) #[] #[],.func (.func 245) #[] #[]] 229
theorem aGq (w:World):CP 171 #[] w λe w'=>e=.returned (.agg #[.nilFunc,.func (.func 233) #[] #[],.func (.func 235) #[] #[],.func (.func 236) #[] #[],.func (.func 238) #[] #[],.func (.func 240) #[] #[],
 .func (.func 241) #[] #[],.func (.func 242) #[] #[],.func (.func 243) #[] #[],.func (.func 244) #[] #[],.func (.func 245) #[] #[]])/\w.alloc rulesObj=w':=by
 go_enter func171,ntmps171
 go_wp2;exact ig (v:=.agg #[.nilFunc,.func (.func 233) #[] #[],.func (.func 235) #[] #[],.func (.func 236) #[] #[],.func (.func 238) #[] #[],.func (.func 240) #[] #[],
 .func (.func 241) #[] #[],.func (.func 242) #[] #[],.func (.func 243) #[] #[],.func (.func 244) #[] #[],.func (.func 245) #[] #[]]) (by simp[results,results171,go_sem]) rfl ⟨rfl,rfl⟩
theorem aAi (w0:World) (n₀:Nat) (c:VC) (d:Val) (w:World) (hd:IsVal (· < n₀) w0 c d) (hw:Below n₀ w0 w) (hn:n₀<=w.heap.size) (hT:Tabs w) (hk:1<=c.k/\c.k<=10) :
 CP (aAj c.k) #[c.v] w (Rt (I6 (nM d)) w):=by
 have ad:IsVal (· < w.heap.size) w c d:=hd.same λb hb=>⟨by omega,hw.block b hb⟩
 obtain⟨k,i,s,t,l,ns,fs⟩:=d;obtain⟨k1,i1,s1,t1,la,ll,lc,fa,fl,fc⟩:=c;obtain⟨⟨h1,h2,h3,h4,ab,aa,ac,ae⟩,hv,hf⟩:=ad;dsimp only at h1 h2 h3 h4 aa ac hv hf hk ⊢;subst h1 h2 h3 h4;have:k1=1\/k1=2\/k1=3\/k1=4\/k1=5\/k1=6\/k1=7\/k1=8\/k1=9\/k1=10:=ga
 rcases this with rfl|rfl|rfl|rfl|rfl|rfl|rfl|rfl|rfl|rfl
 ·exact aGz _ _ _ _ _ _ _ _ _ _ _
 ·exact aGy _ _ _ _ _ _ _ _ _ _ _
 ·exact aGx _ _ _ _ _ _ _ _ _ _ _
 ·exact aGw _ _ _ _ _ _ _ _ _ _ _ hT ab.t
 ·exact aGv _ _ _ _ _ _ _ _ _ _ _
 ·exact aGu _ _ _ _ _ _ _ _ _ _ _
 ·exact aGt _ _ _ _ _ _ _ _ _ _ _
 ·have:=aGs 8 i1 s1 t1 la ll lc fa fl fc w;rw[aa] at this ⊢;exact this
 ·exact aGr _ _ _ _ _ _ _ _ _ _ _ ns fs ab.f ac ae hf
 ·have:=aE0 10 i1 s1 t1 la ll lc fa fl fc w ab.t;rw[aa] at this ⊢;exact this
theorem aCc (k:Int):∀args w,(callFunc (aAj k) args).run prog w=.ok (.enter (aAj k) args) w:=by
 unfold aAj
 repeat' split
 ·exact jd func233 gd rfl
 ·exact jd func235 gd rfl
 ·exact jd func236 gd rfl
 ·exact jd func238 gd rfl
 ·exact jd func240 gd rfl
 ·exact jd func241 gd rfl
 ·exact jd func242 gd rfl
 ·exact jd func243 gd rfl
 ·exact jd func244 gd rfl
 ·exact jd func245 gd rfl
theorem aGp {W:World} {B:Nat} (h:W.heap[B]?=some rulesObj) (k:Int) (hk:1<=k/\k<=10):W.cell? ⟨B,k.toNat,none⟩=some (.func (.func (aAj k)) #[] #[]):=by
 rw[aA h];have:k=1\/k=2\/k=3\/k=4\/k=5\/k=6\/k=7\/k=8\/k=9\/k=10:=ga
 rcases this with rfl|rfl|rfl|rfl|rfl|rfl|rfl|rfl|rfl|rfl<;>rfl
end
section
attribute [local go_sem] nj
theorem iN {S:Nat->Prop} {w:World} {c:VC} {d:Val} (h:IsVal S w c d):fH d=eO c.k c.i c.s c.t c.ll c.fl:=by
 obtain⟨k,i,s,t,l,ns,fs⟩:=d;obtain⟨⟨rfl,rfl,rfl,rfl,_,h1,h2,_⟩,_⟩:=h;rw[fH,h1,h2]
theorem aMe {S:Nat->Prop} {w:World} {c:VC} {d:Val} (h:IsVal S w c d):aDl d=vJ c.k c.i c.s c.t c.ll c.fl:=by
 obtain⟨k,i,s,t,l,ns,fs⟩:=d;obtain⟨⟨rfl,rfl,rfl,rfl,_,h1,h2,_⟩,_⟩:=h;rw[aDl,h1,h2]
theorem aEr {S:Nat->Prop} {w:World} {c:VC} {d:Val} (h:IsVal S w c d):aAz d=c.k:=by
 obtain⟨k,i,s,t,l,ns,fs⟩:=d;obtain⟨⟨rfl,_⟩,_⟩:=h;rfl
def TF (B Bx:Nat) (c:VC) (w':World):Prop:=w'.cell? ⟨B+1,0,none⟩=some (I6 0)/\w'.frozen? ⟨B+1,0,none⟩=false/\w'.cell? ⟨Bx,0,none⟩=some (I6 c.k)/\w'.cell? ⟨Bx,1,none⟩=some (I6 c.i)/\w'.cell? ⟨Bx,2,none⟩=some (I6 c.s) /\
 w'.cell? ⟨Bx,3,none⟩=some (.string c.t)/\w'.cell? ⟨Bx,4,none⟩=some (.slice c.la c.ll c.lc)/\w'.cell? ⟨Bx,5,none⟩=some (.slice c.fa c.fl c.fc)/\(1<=c.k/\c.k<=10->w'.cell? ⟨B+1+1+1,c.k.toNat,none⟩=some (.func (.func (aAj c.k)) #[] #[]))
theorem tfOf {B Bx:Nat} {c:VC} {w':World} (h2:w'.heap[B+1]?=some (.cells #[I6 0] 31 (0,0))) (h3:w'.heap[B+3]?=some rulesObj) (hx:w'.heap[Bx]?=some (vObj c)):TF B Bx c w' :=
 ⟨aA h2 0,aF h2 0,aA hx 0,aA hx 1,aA hx 2,aA hx 3,aA hx 4,aA hx 5,λhk=>aGp h3 c.k hk⟩
def aMa (w:World) (d:Val) (e:Ending) (w':World):Prop:=e=.returned (I6 (bG d))/\BB w w'
theorem aNj {n₀ n₁:Nat} {W:World} {B o:Nat} (v:Value) (h0:n₀<=B) (h1:B<n₁):Kp n₀ n₁ W (W.setCell ⟨B,o,none⟩ v) :=
 ⟨(gx _ W).setCell (p:=⟨B,o,none⟩) h0 _,λb ob hb ho hc=>aD _ _ ho gl⟩
theorem iV (c:VC) (d:Val) (w:World) (hd:IsVal (· < w.heap.size) w c d) (hT:Tabs w):CP 110 #[c.v] w (aMa w d):=by
 refine(callsIn_wide (n:=3)).1 ?_;refine callsIn_of_wp_marks func110 rfl trivial ?_ rfl;simp only[ntmps110,oh,im,i7,Nat.reduceAdd,Nat.reduceSub,oy,ox,o0,oz,ji,jh]
 gi_wp2_with (first
  | ((try refine⟨trivial,?_⟩);(try refine⟨λh=>gp,?_⟩);gi_at_call 171;refine(callsIn_wide.2 (aGq _)).mono ?_;rintro e w' ⟨rfl,rfl⟩)
  | ((try refine⟨trivial,?_⟩);(try refine⟨λh=>gp,?_⟩);gi_at_call 172;refine(callsIn_wide.2 (zF c _)).mono ?_;rintro e w' ⟨rfl,rfl⟩))
 obtain⟨wl,ai⟩:=xe ((((((w.alloc (vObj c)).alloc (.cells #[I6 0] 31)).alloc rulesObj).alloc rulesObj).alloc (.cells #[I6 0] 3)).alloc (vObj c))
 have al:wl.heap[w.heap.size+1]?=some (.cells #[I6 0] 31 (0,0)):=by rw[ai];exact aC _ (aC _ (aC _ (aC _ (aN _ _ _ ge))))
 have am:wl.heap[w.heap.size+3]?=some rulesObj:=by rw[ai];exact aC _ (aC _ (aN _ _ _ ge))
 have bb:wl.heap[w.heap.size+4]?=some (.cells #[I6 0] 3 (0,0)):=by rw[ai];exact aC _ (aN _ _ _ ge)
 have a8:wl.heap[w.heap.size+5]?=some (vObj c):=by rw[ai];exact aN _ _ _ ge
 have a2:wl.heap.size=w.heap.size+6:=by rw[ai];simp
 have ar:BB w wl:=by rw[ai];exact(((((((bR w).alloc lr _).alloc ge _).alloc gi _).alloc gi _).alloc gi _).alloc gi _)
 rw[<-ai];clear ai;refine wpIn_rangeFunc_ownH rfl ga (gf:=246) (lb:=#[Pt (w.heap.size+5) 0]) rfl trivial (jd func246 gd rfl)
  (wO (3-1) w.heap.size (w.heap.size+5) w wl c d lr ar ga hd a8 wl.heap.size lr ga) (λh k=>h.trans k) (kp_b ga) (gx _ _) (λ_=>rfl)
  (λab W=>W.heap[w.heap.size+4]?=some (.cells #[I6 (ab.length:Nat)] 3 (0,0))/\W.heap[w.heap.size+1]?=some (.cells #[I6 0] 31 (0,0))/\W.heap[w.heap.size+3]?=some rulesObj/\BB w W/\fB 0 (ab.map Item.dat)=0/\wl.heap.size<=W.heap.size)
  (λcd ab W=>cd=.ret/\fB 0 (ab.map Item.dat)≠0/\W.heap[w.heap.size+1]?=some (.cells #[I6 (fB 0 (ab.map Item.dat))] 31 (0,0))/\BB w W)
  (λs A B row hs hg hr=>⟨aL hg hs.1 (λe=>by have:=(hr _ e.symm).1;omega),aL hg hs.2.1 (λe=>by have:=(hr _ e.symm).1;omega),aL hg hs.2.2.1 (λe=>by have:=(hr _ e.symm).1;omega),hs.2.2.2.1.grown hg (by have:=hs.2.2.2.1.size;omega) (λk e=>by have:=(hr _ e).1;omega),hs.2.2.2.2.1,by have:=hg.size;have:=hs.2.2.2.2.2;omega⟩)
  (λcd s A B row hs hg hr=>⟨hs.1,hs.2.1,aL hg hs.2.2.1 (λe=>by have:=(hr _ e.symm).1;omega),hs.2.2.2.grown hg (by have:=hs.2.2.2.size;omega) (λk e=>by have:=(hr _ e).1;omega)⟩)
  ⟨bb,al,am,ar,rfl,gy _⟩
  (λx a' W=>∃Bx,wl.heap.size<=Bx/\W.heap[Bx]?=some (vObj x.1.2.1)/\a'={ tmps:=#[c.v,Pt w.heap.size 0,Pt (w.heap.size+1) 0,Pt (w.heap.size+1+1+1) 0,Pt (w.heap.size+1+1+1+1) 0,I6 x.1.1,Pt Bx 0,undef,
    .agg #[.nilFunc,.func (.func 233) #[] #[],.func (.func 235) #[] #[],.func (.func 236) #[] #[],.func (.func 238) #[] #[],.func (.func 240) #[] #[],.func (.func 241) #[] #[],.func (.func 242) #[] #[],.func (.func 243) #[] #[],.func (.func 244) #[] #[],.func (.func 245) #[] #[]],
    c.v,.func (.func 246) #[] #[Pt (w.heap.size+1+1+1+1+1) 0],I6 x.1.1,x.1.2.1.v,undef,undef,undef,undef,undef,undef,undef,undef,undef,undef,undef,undef,undef,undef,undef,undef,undef,undef,undef,undef,undef,undef,undef,undef,undef,undef,undef,undef,undef,undef,undef,undef,undef],defers:=[] })
  (λx a' s A B row hs hg hr=>by
    obtain⟨Bx,h1,h2,h3⟩:=hs;exact⟨Bx,h1,aL hg h2 (λe=>by obtain⟨_,o,ho,hc⟩:=hr _ e.symm;rw[h2] at ho;cases ho;cases hc),h3⟩) ?assign ?body ?done ?stop
 case assign =>
  intro l ab x W K hi hK;simp only[Item.encs]
  gi_wp2
  exact hK _ _ ((KeepsOthers.alloc _ _).from _) (Kp.ext ((gx _ W).alloc lr _) (by have:=hi.2.2.2.2.2;omega)) ⟨aC _ hi.1,aC _ hi.2.1,aC _ hi.2.2.1,hi.2.2.2.1.alloc hi.2.2.2.1.size _,hi.2.2.2.2.1,by have:=hi.2.2.2.2.2;simp;omega⟩ ⟨W.heap.size,hi.2.2.2.2.2,ib W _,by first|(simp[Item.encs];done)|kernel_rfl⟩
 case body =>
  rintro l ab x a' W hl ⟨_,aq⟩ ⟨h4,h2,h3,hb,au,bc⟩ ⟨Bx,be,hx,rfl⟩ ba;clear ba aq hl;obtain⟨⟨lvl,cx,dx⟩,av⟩:=x;dsimp only at av hx ⊢;have aw:=aBj _ au;rw[jy] at aw;have HR:=f8 (show fB 0 (List.map Item.dat (ab++[(⟨(lvl,cx,dx),av⟩:Item w.heap.size w)]))=eP (ab.length+1) (lvl,dx) by
   rw[kh,jv,List.map_nil,aIi _ _ au,jy];rfl)
  obtain⟨p,hp⟩:=xe ab.length
  rw[<-hp] at h4 aw HR;have HP:=f8 hp;clear hp au
  -- the world behind the counter's step
  obtain⟨W1,ah⟩:=xe (W.setCell ⟨w.heap.size+4,0,none⟩ (I6 ((p:Int)+1)))
  have k4:W1.heap[w.heap.size+4]?=some (.cells #[I6 ((p:Int)+1)] 3 (0,0)):=by rw[ah];exact aG _ h4
  have k2:W1.heap[w.heap.size+1]?=some (.cells #[I6 0] 31 (0,0)):=by rw[ah];exact aD _ _ h2 gl
  have k3:W1.heap[w.heap.size+3]?=some rulesObj:=by rw[ah];exact aD _ _ h3 gl
  have kx:W1.heap[Bx]?=some (vObj cx):=by rw[ah];exact aD _ _ hx gl
  have kb:BB w W1:=by rw[ah];exact hb.setCell (p:=⟨w.heap.size+4,0,none⟩) gl _
  have ks:W1.heap.size=W.heap.size:=by rw[ah];simp[World.setCell]
  have a6:Kp w.heap.size wl.heap.size W W1:=by rw[ah];exact aNj _ ga ga
  have ax:KeepsFrom wl.heap.size W W1:=by rw[ah];exact(KeepsOthers.setCell _ _ _).from _
  have c4:W.cell? ⟨w.heap.size+1+1+1+1,0,none⟩=some (I6 p):=aA h4 0;have f4:W.frozen? ⟨w.heap.size+1+1+1+1,0,none⟩=false:=aF h4 0
  -- how a round leaves with an error,and how it goes on
  have aj:∀(a:Act) (W2:World) (r:Int),BB W1 W2->eP (p+1) (lvl,dx)=r->r≠0 ->
   ownPostG wl.heap.size (Kp w.heap.size wl.heap.size) (λab W=>W.heap[w.heap.size+4]?=some (.cells #[I6 (ab.length:Nat)] 3 (0,0))/\W.heap[w.heap.size+1]?=some (.cells #[I6 0] 31 (0,0))/\W.heap[w.heap.size+3]?=some rulesObj/\BB w W/\fB 0 (ab.map Item.dat)=0/\wl.heap.size<=W.heap.size)
    (λcd ab W=>cd=.ret/\fB 0 (ab.map Item.dat)≠0/\W.heap[w.heap.size+1]?=some (.cells #[I6 (fB 0 (ab.map Item.dat))] 31 (0,0))/\BB w W)
    (ab++[(⟨(lvl,cx,dx),av⟩:Item w.heap.size w)]) W .ret a (W2.setCell ⟨w.heap.size+1,0,none⟩ (I6 r)):=λa W2 r h5 h6 h7=>by
   refine⟨⟨by have:=ax.size;have:=h5.size;simp[World.setCell];omega,λk o hk h0 ho=>aD _ _ (aB h5 (ax.same k o hk h0 ho)) gl⟩,rfl,?_,?_,?_⟩
   ·rw[HR.o,h6];exact h7
   ·rw[HR.o,h6];exact aG _ (aB h5 k2)
   ·exact(kb.trans (h5.mono (by have:=kb.size;omega))).setCell (p:=⟨w.heap.size+1,0,none⟩) gl _
  have ap:∀(a:Act) (W2:World),BB W1 W2->eP (p+1) (lvl,dx)=0 ->
   ownPostG wl.heap.size (Kp w.heap.size wl.heap.size) (λab W=>W.heap[w.heap.size+4]?=some (.cells #[I6 (ab.length:Nat)] 3 (0,0))/\W.heap[w.heap.size+1]?=some (.cells #[I6 0] 31 (0,0))/\W.heap[w.heap.size+3]?=some rulesObj/\BB w W/\fB 0 (ab.map Item.dat)=0/\wl.heap.size<=W.heap.size)
    (λcd ab W=>cd=.ret/\fB 0 (ab.map Item.dat)≠0/\W.heap[w.heap.size+1]?=some (.cells #[I6 (fB 0 (ab.map Item.dat))] 31 (0,0))/\BB w W)
    (ab++[(⟨(lvl,cx,dx),av⟩:Item w.heap.size w)]) W .normal a W2:=λa W2 h5 h6=>by
   refine⟨⟨by have:=ax.size;have:=h5.size;omega,λk o hk h0 ho=>aB h5 (ax.same k o hk h0 ho)⟩,a6.trans (Kp.ext h5 (by have:=kb.size;omega)),?_,aB h5 k2,aB h5 k3,kb.trans (h5.mono (by have:=kb.size;omega)),?_,by have:=h5.size;omega⟩
   ·rw[aB h5 k4,ik,im,i7,<-HP.o]
    norm_cast
   ·rw[HR.o,h6]
  obtain⟨ac,az⟩:=h_2 aj ap;clear aj ap;have tf:∀W2,BB W1 W2->TF w.heap.size Bx cx W2:=λW2 h5=>tfOf (aB h5 k2) (aB h5 k3) (aB h5 kx);obtain⟨g1,g2,g3,g4,g5,g6,g7,g8,_⟩:=tf W1 (gx _ _);have ae:=f8 tf;have bh:W1.cell? ⟨w.heap.size+1+1+1+1,0,none⟩=some (I6 ((p:Int)+1)):=aA k4 0;have a3:f7 (W.setCell ⟨w.heap.size+1+1+1+1,0,none⟩ (I6 ((p:Int)+1))=W1):=f8 ah.symm;obtain⟨HX,a5⟩:=h_2 av kb;have a4:=f8 (hT.below (kb:BB w W1));have ay:w.heap.size<=W1.heap.size:=ga
  clear tf ah k4 k2 k3 kx a6 ax h4 h2 h3 hx;have CI:eP (p+1) (lvl,dx)=if 4096<p+1 then 9 else if 8<lvl then 23 else if eO cx.k cx.i cx.s cx.t cx.ll cx.fl=true then 19 else if cx.k<1\/10<cx.k then 11 else if vJ cx.k cx.i cx.s cx.t cx.ll cx.fl=false then 3 else nM dx:=by
   rw[eP,iN HX.o,aMe HX.o,aEr HX.o]
  have ak:=f8 CI;clear CI;have bi:(p:Int)<=4096:=ga
  have bg:=f8 a2;clear a2
  gi_upto_region 7 with (fail)
  rw[a3.o];clear a3 c4 f4;by_cases q1:(4096:Int)<(p:Int)+1
  ·gi_wp2
   exact ac.o _ _ _ (gx _ _) (by rw[ak.o,gw ga]) gb
  by_cases q2:(8:Int)<lvl
  ·gi_wp2
   exact ac.o _ _ _ (gx _ _) (by rw[ak.o,f9 ga,gw q2]) gb
  clear g1 g2;cases q3:eO cx.k cx.i cx.s cx.t cx.ll cx.fl with
  | true =>
    gi_wp2_with ((try refine⟨trivial,?_⟩);(try refine⟨λh=>gp,?_⟩);gi_at_call 109;refine(mo l (callsIn_wide.2 (bT cx.k cx.i cx.s cx.t cx.la cx.ll cx.lc cx.fa cx.fl cx.fc W1))).mono ?_;rintro e w1 ⟨he,ad⟩;rw[q3] at he;subst he;obtain⟨j1,j2,j3,j4,j5,j6,j7,j8,j9⟩:=ae.o w1 ad;clear ae)
    exact ac.o _ _ _ ad (by rw[ak.o,f9 ga,f9 ga,q3,gw rfl]) gb
  | false =>
  by_cases q4:cx.k<1
  ·gi_wp2_with ((try refine⟨trivial,?_⟩);(try refine⟨λh=>gp,?_⟩);gi_at_call 109;refine(mo l (callsIn_wide.2 (bT cx.k cx.i cx.s cx.t cx.la cx.ll cx.lc cx.fa cx.fl cx.fc W1))).mono ?_;rintro e w1 ⟨he,ad⟩;rw[q3] at he;subst he;obtain⟨j1,j2,j3,j4,j5,j6,j7,j8,j9⟩:=ae.o w1 ad;clear ae)
   exact ac.o _ _ _ ad (by rw[ak.o,f9 ga,f9 ga,q3,f9 gb,gw ga]) gb
  by_cases bf:10<cx.k
  ·gi_wp2_with ((try refine⟨trivial,?_⟩);(try refine⟨λh=>gp,?_⟩);gi_at_call 109;refine(mo l (callsIn_wide.2 (bT cx.k cx.i cx.s cx.t cx.la cx.ll cx.lc cx.fa cx.fl cx.fc W1))).mono ?_;rintro e w1 ⟨he,ad⟩;rw[q3] at he;subst he;obtain⟨j1,j2,j3,j4,j5,j6,j7,j8,j9⟩:=ae.o w1 ad;clear ae)
   exact ac.o _ _ _ ad (by rw[ak.o,f9 ga,f9 ga,q3,f9 gb,gw ga]) gb
  have ao:1<=cx.k/\cx.k<=10:=ga
  cases q5:vJ cx.k cx.i cx.s cx.t cx.ll cx.fl with
  | false =>
    gi_wp2_with (first
     | ((try refine⟨trivial,?_⟩);(try refine⟨λh=>gp,?_⟩);gi_at_call 109;refine(mo l (callsIn_wide.2 (bT cx.k cx.i cx.s cx.t cx.la cx.ll cx.lc cx.fa cx.fl cx.fc W1))).mono ?_;rintro e w1 ⟨he,ad⟩;rw[q3] at he;subst he;obtain⟨j1,j2,j3,j4,j5,j6,j7,j8,j9⟩:=ae.o w1 ad)
     | ((try refine⟨trivial,?_⟩);(try refine⟨λh=>gp,?_⟩);gi_at_call 173;refine(mo l (callsIn_wide.2 (aA0 cx.k cx.i cx.s cx.t cx.la cx.ll cx.lc cx.fa cx.fl cx.fc _ ao))).mono ?_;rintro e w2 ⟨he,al⟩;rw[q5] at he;subst he;have ag:=ad.trans (al.mono ad.size);clear ad al j1 j2 j3 j4 j5 j6 j7 j8 j9;obtain⟨j1,j2,j3,j4,j5,j6,j7,j8,j9⟩:=ae.o w2 ag;have bd:=j9 ao;clear j9))
    exact ac.o _ _ _ ag (by rw[ak.o,f9 ga,f9 ga,q3,f9 gb,f9 ga,q5,gw rfl]) gb
  | true =>
  gi_upto_region 17 with (first
   | ((try refine⟨trivial,?_⟩);(try refine⟨λh=>gp,?_⟩);gi_at_call 109;refine(mo l (callsIn_wide.2 (bT cx.k cx.i cx.s cx.t cx.la cx.ll cx.lc cx.fa cx.fl cx.fc W1))).mono ?_;rintro e w1 ⟨he,ad⟩;rw[q3] at he;subst he;obtain⟨j1,j2,j3,j4,j5,j6,j7,j8,j9⟩:=ae.o w1 ad)
   | ((try refine⟨trivial,?_⟩);(try refine⟨λh=>gp,?_⟩);gi_at_call 173;refine(mo l (callsIn_wide.2 (aA0 cx.k cx.i cx.s cx.t cx.la cx.ll cx.lc cx.fa cx.fl cx.fc _ ao))).mono ?_;rintro e w2 ⟨he,al⟩;rw[q5] at he;subst he;have ag:=ad.trans (al.mono ad.size);clear ad al j1 j2 j3 j4 j5 j6 j7 j8 j9;obtain⟨j1,j2,j3,j4,j5,j6,j7,j8,j9⟩:=ae.o w2 ag;have bd:=j9 ao;clear j9))
  have bj:=aCc cx.k;have aa:BB W1 w2.drew:=ag.drew;by_cases q6:nM dx=0
  ·(gi_region_with ((try refine⟨trivial,?_⟩);(try refine⟨λh=>gp,?_⟩);refine(mo l (callsIn_wide.2 (aAi w w.heap.size cx dx _ HX.o (a5.trans (aa.mono ay)) (io ay aa.size) (a4.below aa) ao))).mono ?_;rintro e w3 ⟨rfl,am⟩;have af:=aa.trans (am.mono aa.size);have a0:=ae.o w3 af;clear aa am;obtain⟨i1,i2,_,_,_,_,_,_,_⟩:=a0)) <;>
   (have r2:eP (p+1) (lvl,dx)=0:=(by rw[ak.o,f9 ga,f9 ga,q3,f9 gb,f9 ga,q5,f9 gb,q6])
    have R2:=f8 r2;clear r2
    gi_wp2
    exact az.o _ _ af R2.o)
  ·(gi_region_with ((try refine⟨trivial,?_⟩);(try refine⟨λh=>gp,?_⟩);refine(mo l (callsIn_wide.2 (aAi w w.heap.size cx dx _ HX.o (a5.trans (aa.mono ay)) (io ay aa.size) (a4.below aa) ao))).mono ?_;rintro e w3 ⟨rfl,am⟩;have af:=aa.trans (am.mono aa.size);have a0:=ae.o w3 af;clear aa am;obtain⟨i1,i2,_,_,_,_,_,_,_⟩:=a0)) <;>
   (have r2:eP (p+1) (lvl,dx)=nM dx:=(by rw[ak.o,f9 ga,f9 ga,q3,f9 gb,f9 ga,q5,f9 gb])
    have R2:=f8 r2;clear r2
    gi_wp2
    exact ac.o _ _ _ af R2.o q6)
 case done =>
  rintro D ys W hD hS ⟨h4,h2,h3,hb,au,_⟩ hK;have c2:=aA h2 0;have z2:=aF h2 0
  (try dsimp only at c2)
  gi_wp2
  have a1:(W.setCell ⟨w.heap.size+1,0,none⟩ (I6 0)).heap[D]?=some (.deferred (some [])):=aD _ _ hK gl;have hr:=aL (o4 (W.setCell ⟨w.heap.size+1,0,none⟩ (I6 0)) D (.deferred none)) (aG (o:=0) (I6 0) h2) (λe=>by cases e;omega);refine⟨by simp,.inl ⟨_,_,rfl,ni a1,?_⟩⟩;refine⟨I6 0,by simp[results,results110,go_sem,aA hr],?_,?_⟩
  ·rw[bG,<-hS,au]
  ·exact(hb.setCell (p:=⟨w.heap.size+1,0,none⟩) gl _).trans (belowK_b (w:=w) lr _ D _ _ ga a1 rfl rfl)
 case stop =>
  rintro D cd ab W hD a9 ⟨rfl,a7,h2,hb⟩ hK
  gi_wp2
  have hr:=aL (o4 W D (.deferred none)) h2 (λe=>by cases e;omega);refine⟨by simp,.inl ⟨_,_,rfl,ni hK,?_⟩⟩;refine⟨I6 (fB 0 (List.map Item.dat ab)),by simp[results,results110,go_sem,aA hr],?_,?_⟩
  ·rw[bG,aD6 a9 a7]
  ·exact hb.trans (belowK_b (w:=w) lr _ D _ _ ga hK rfl rfl)
end
def oP (d:Val):Int:=if fH d=true then 0 else if aAz d≠9 then 18 else bG d
theorem lO (c:VC) (d:Val) (w:World) (hd:IsVal (· < w.heap.size) w c d) (hT:Tabs w) (w1:World) (hb:BB w w1):CP 110 #[c.v] w1 (Rt (I6 (bG d)) w1) :=
 iV c d w1 (hd.same λb h=>⟨ix h hb.size,hb.block b h⟩) (hT.below hb)
theorem aM4 (c:VC) (d:Val) (w:World) (hd:IsVal (· < w.heap.size) w c d) (hT:Tabs w):CP 138 #[c.v] w (Rt (I6 (oP d)) w):=by
 have HC:=f8 (lO c d w hd hT);have e1:=iN hd;have e2:=aEr hd;have HE:=f8 (show oP d=if eO c.k c.i c.s c.t c.ll c.fl=true then 0 else if c.k≠9 then 18 else bG d by rw[oP,e1,e2]);clear e1 e2 hd hT;obtain⟨k,i,s,t,la,ll,lc,fa,fl,fc⟩:=c;dsimp only at HE HC ⊢;obtain⟨w1,ae⟩:=xe (w.alloc (.cells #[I6 k,I6 i,I6 s,Sv t,Sl la ll lc,Sl fa fl fc] 67))
 have af:BB w w1:=by rw[ae];exact(bR w).alloc lr _
 have ab:w1.heap[w.heap.size]?=some (vObj ⟨k,i,s,t,la,ll,lc,fa,fl,fc⟩):=by rw[ae];exact ib w _
 have six:∀w2,BB w1 w2->Six w2 w.heap.size ⟨k,i,s,t,la,ll,lc,fa,fl,fc⟩/\BB w w2:=λw2 h=>⟨sixOf (aB h ab),af.trans (h.mono af.size)⟩
 rw[ae] at six;have ag:=f8 six;clear six ab af ae;go_enter func138,ntmps138
 cases q1:eO k i s t ll fl with
 | true =>
   have ad:=f8 (show oP d=0 by rw[HE.o,q1,gw rfl]);go_wp2_with (go_at_call 109;refine(bT k i s t la ll lc fa fl fc _).mono ?_;rintro e w2 ⟨he,ac⟩;rw[q1] at he;subst he;obtain⟨⟨j1,j2,j3,j4,j5,j6⟩,aa⟩:=ag.o _ ac)
   go_ret;exact⟨by rw[ad.o];rfl,aa⟩
 | false =>
 by_cases q2:k=9
 ·have ad:=f8 (show oP d=bG d by rw[HE.o,q1,f9 gb,f9 (by simpa using q2)]);subst q2;go_wp2_with (first
   | (go_at_call 109;refine(bT 9 i s t la ll lc fa fl fc _).mono ?_;rintro e w2 ⟨he,ac⟩;rw[q1] at he;subst he;obtain⟨⟨j1,j2,j3,j4,j5,j6⟩,aa⟩:=ag.o _ ac)
   | (go_at_call 110;refine(HC.o _ aa).mono ?_;rintro e w4 ⟨rfl,ah⟩))
  go_ret;exact⟨by rw[ad.o];rfl,aa.trans (ah.mono aa.size)⟩
 ·have ad:=f8 (show oP d=18 by rw[HE.o,q1,f9 gb,gw q2]);go_wp2_with (go_at_call 109;refine(bT k i s t la ll lc fa fl fc _).mono ?_;rintro e w2 ⟨he,ac⟩;rw[q1] at he;subst he;obtain⟨⟨j1,j2,j3,j4,j5,j6⟩,aa⟩:=ag.o _ ac)
  go_ret;exact⟨by rw[ad.o];rfl,aa⟩
def aAy:Option Int->Int->Bool
 | none,_=>false
 | some y,x=>decide (x<=y)
def aO2:Option Int->List Int->Int
 | _,[]=>0
 | p,x :: r=>if kX x=false then 2 else if aAy p x=true then 24 else aO2 (some x) r
theorem tL (p:Option Int) (x:Int) (r:List Int):aO2 p (x :: r)=if kX x=false then 2 else if aAy p x=true then 24 else aO2 (some x) r:=by cases p<;>rfl
def gS (es:List Int) (k:Nat):Int:=aO2 (if k=0 then none else some (es.getD (k-1) 0)) (es.drop k)
theorem aLf (es:List Int):gS es es.length=0:=by rw[gS,km];split<;>rfl
theorem aB7 (es:List Int) (k:Nat) (h:k<es.length) (hb:kX es[k]=false):gS es k=2:=by
 rw[gS,i8 h,tL,gw hb]
theorem xT (es:List Int) (k:Nat) (h:k<es.length) (hb:kX es[k]=true) (h0:0<k) (hl:es[k]<=es[k-1]):gS es k=24:=by
 rw[gS,i8 h,tL,f9 (by rw[hb];decide),f9 (by omega:¬ k=0)];rw[gw (by simp[aAy,pn,show k-1<es.length by omega,hl])]
theorem xS (es:List Int) (k:Nat) (h:k<es.length) (hb:kX es[k]=true) (hl:k=0\/es[k-1]<es[k]):gS es k=gS es (k+1):=by
 have e:gS es (k+1)=aO2 (some es[k]) (es.drop (k+1)):=by
  rw[gS,f9 ga];simp[pn,h]
 rw[e,gS,i8 h,tL,f9 (by rw[hb];decide),f9];rcases hl with rfl|hl
 ·simp[aAy]
 ·by_cases hk:k=0
  ·subst hk;simp[aAy]
  ·rw[f9 hk];simp[aAy,pn,show k-1<es.length by omega];omega
def fF (d:Msg):Int:=if aZ d.st≠0 then aZ d.st else if oG d.m=true then 38 else if d.es=[] then 4 else if 4096<d.es.length then 9 else if gS d.es 0≠0 then gS d.es 0 else oP d.b
abbrev mObj (c:MC):Obj:=.cells #[I6 c.st.e,.slice c.st.a c.st.n c.st.c,I6 c.m,.slice c.a c.n c.c,I6 c.b.k,I6 c.b.i,I6 c.b.s,.string c.b.t,.slice c.b.la c.b.ll c.b.lc,.slice c.b.fa c.b.fl c.b.fc] 69
def Ten (W:World) (B:Nat) (c:MC):Prop:=W.cell? ⟨B,0,none⟩=some (I6 c.st.e)/\W.cell? ⟨B,1,none⟩=some (.slice c.st.a c.st.n c.st.c)/\W.cell? ⟨B,2,none⟩=some (I6 c.m)/\W.cell? ⟨B,3,none⟩=some (.slice c.a c.n c.c) /\
 W.cell? ⟨B,4,none⟩=some (I6 c.b.k)/\W.cell? ⟨B,5,none⟩=some (I6 c.b.i)/\W.cell? ⟨B,6,none⟩=some (I6 c.b.s)/\W.cell? ⟨B,7,none⟩=some (.string c.b.t)/\W.cell? ⟨B,8,none⟩=some (.slice c.b.la c.b.ll c.b.lc)/\W.cell? ⟨B,9,none⟩=some (.slice c.b.fa c.b.fl c.b.fc)
theorem tenOf {W:World} {B:Nat} {c:MC} (h:W.heap[B]?=some (mObj c)):Ten W B c :=
 ⟨aA h 0,aA h 1,aA h 2,aA h 3,aA h 4,aA h 5,aA h 6,aA h 7,aA h 8,aA h 9⟩
structure MsgAt (w w1:World) (c:MC) (d:Msg):Prop where
 ten:Ten w1 w.heap.size c
 bel:BB w w1
 st:CP 105 #[c.st.v] w1 (Rt (I6 (aZ d.st)) w1)
 body:CP 138 #[c.b.v] w1 (Rt (I6 (oP d.b)) w1)
 body':IsVal (· < w1.heap.size) w1 c.b d.b/\Tabs w1
 es:IsInts (· < w1.heap.size) w1 c.a c.n c.c d.es
theorem msgAt (c:MC) (d:Msg) (w:World) (hd:IsMsg (· < w.heap.size) w c d) (hT:Tabs w) (w1:World) (hb:BB (w.alloc (mObj c)) w1):MsgAt w w1 c d:=by
 have ac:BB w (w.alloc (mObj c)):=(bR w).alloc lr _;have aa:BB w w1:=ac.trans (hb.mono ac.size);have ab:IsMsg (· < w1.heap.size) w1 c d:=hd.same λb h=>⟨ix h aa.size,aa.block b h⟩
 exact⟨tenOf (aB hb (ib w _)),aa,eD _ _ _ w1 w1 ab.st (λb h=>⟨h,rfl⟩),aM4 _ _ w1 ab.b (hT.below aa),⟨ab.b,hT.below aa⟩,ab.es⟩
theorem eK (c:MC) (d:Msg) (w:World) (hd:IsMsg (· < w.heap.size) w c d) (hT:Tabs w):CP 84 #[c.v] w (Rt (I6 (fF d)) w):=by
 have HM:=f8 (msgAt c d w hd hT);have hm:=hd.m;have HL:=f8 hd.es.len;clear hd hT;obtain⟨⟨ce,sa,sn,sc⟩,m,a,n,cap,⟨k,i,s,t,la,ll,lc,fa,fl,fc⟩⟩:=c;dsimp only at hm HM HL ⊢;have HE:=f8 (show fF d=if aZ d.st≠0 then aZ d.st else if oG m=true then 38 else if n=0 then 4 else if 4096<n then 9 else if gS d.es 0≠0 then gS d.es 0 else oP d.b by
  have e1:(d.es=[])=(n=0):=by rw[HL.o];simp
  rw[fF,hm,HL.o];simp)
 clear hm;obtain⟨u,hu⟩:=xe (aZ d.st)
 rw[<-hu] at HE;have ak:∀w1,BB (w.alloc (mObj ⟨⟨ce,sa,sn,sc⟩,m,a,n,cap,⟨k,i,s,t,la,ll,lc,fa,fl,fc⟩⟩)) w1 ->
  MsgAt w w1 ⟨⟨ce,sa,sn,sc⟩,m,a,n,cap,⟨k,i,s,t,la,ll,lc,fa,fl,fc⟩⟩ d/\CP 105 #[SC.v ⟨ce,sa,sn,sc⟩] w1 (Rt (I6 u) w1):=λw1 h=>⟨HM.o w1 h,by rw[hu];exact(HM.o w1 h).st⟩
 dsimp only[mObj,SC.v,VC.v] at ak;have h0:=ak _ (gx _ _);have ai:=f8 ak;clear HM hu ak;obtain⟨h0,am⟩:=h0;have ao:=h0.ten;dsimp only[Ten] at ao;obtain⟨e0,e1,e2,e3,e4,e5,e6,e7,e8,e9⟩:=ao;clear h0;have ah:=f8 am;clear am;dsimp only[MC.v,SC.v,VC.v];go_enter func84,ntmps84
 by_cases q1:u=0
 ·subst q1;cases q2:oG m with
  | true =>
    have r:=f8 (show fF d=38 by rw[HE.o,f9 gb,q2,gw rfl]);go_wp2_with (first
     | (go_at_call 105;refine ah.mono ?_;rintro e w2 ⟨rfl,ad⟩;obtain⟨⟨⟨j0,j1,j2,j3,j4,j5,j6,j7,j8,j9⟩,ab,_,aa,_,ac⟩,_⟩:=ai.o _ ad;have HB:=f8 aa;clear aa;have HX:=f8 ac;clear ac e0 e1 e2 e3 e4 e5 e6 e7 e8 e9)
     | (go_at_call 136;refine(nE m _).mono ?_;rintro e w3 ⟨he,rfl⟩;rw[q2] at he;subst he))
    go_ret;exact⟨by rw[r.o];rfl,ab⟩
  | false =>
  by_cases q3:n=0
  ·have r:=f8 (show fF d=4 by rw[HE.o,f9 gb,q2,f9 gb,gw q3]);subst q3;go_wp2_with (first
    | (go_at_call 105;refine ah.mono ?_;rintro e w2 ⟨rfl,ad⟩;obtain⟨⟨⟨j0,j1,j2,j3,j4,j5,j6,j7,j8,j9⟩,ab,_,aa,_,ac⟩,_⟩:=ai.o _ ad;have HB:=f8 aa;clear aa;have HX:=f8 ac;clear ac e0 e1 e2 e3 e4 e5 e6 e7 e8 e9)
    | (go_at_call 136;refine(nE m _).mono ?_;rintro e w3 ⟨he,rfl⟩;rw[q2] at he;subst he))
   go_ret;exact⟨by rw[r.o];rfl,ab⟩
  have a0:(0:Int)<(n:Int):=ga
  by_cases q4:4096<n
  ·have r:=f8 (show fF d=9 by rw[HE.o,f9 gb,q2,f9 gb,f9 q3,gw q4]);have ay:(4096:Int)<(n:Int):=ga
   go_wp2_with (first
    | (go_at_call 105;refine ah.mono ?_;rintro e w2 ⟨rfl,ad⟩;obtain⟨⟨⟨j0,j1,j2,j3,j4,j5,j6,j7,j8,j9⟩,ab,_,aa,_,ac⟩,_⟩:=ai.o _ ad;have HB:=f8 aa;clear aa;have HX:=f8 ac;clear ac e0 e1 e2 e3 e4 e5 e6 e7 e8 e9)
    | (go_at_call 136;refine(nE m _).mono ?_;rintro e w3 ⟨he,rfl⟩;rw[q2] at he;subst he))
   go_ret;exact⟨by rw[r.o];rfl,ab⟩
  have ay:(n:Int)<=4096:=ga
  have a4:((n:Int)==0)=false:=by simp;omega
  have a5:decide ((4096:Int)<(n:Int))=false:=by simp;omega
  have R:=f8 (show fF d=if gS d.es 0≠0 then gS d.es 0 else oP d.b by rw[HE.o,f9 gb,q2,f9 gb,f9 q3,f9 q4]);go_wp2_with (first
   | (go_at_call 105;refine ah.mono ?_;rintro e w2 ⟨rfl,ad⟩;obtain⟨⟨⟨j0,j1,j2,j3,j4,j5,j6,j7,j8,j9⟩,ab,_,aa,_,ac⟩,_⟩:=ai.o _ ad;have HB:=f8 aa;clear aa;have HX:=f8 ac;clear ac e0 e1 e2 e3 e4 e5 e6 e7 e8 e9)
   | (go_at_call 136;refine(nE m _).mono ?_;rintro e w3 ⟨he,rfl⟩;rw[q2] at he;subst he))
  go_loop [29] (λi=>∃q:Nat,q<=n/\i=I6 q/\gS d.es 0=gS d.es q) (λi=>n-(intOf i).toNat)
  case atStart=>exact⟨0,ii _,rfl,rfl⟩
  case round =>
   obtain⟨q,hq,rfl,aj⟩:=hrel;have HN:=f8 aj;clear aj;by_cases a2:q<n
   ·have ag:q<d.es.length:=by have:=HL.o;omega
    obtain⟨b,o,rfl,hb,hc⟩:=HX.slot ga;have aw:=hc q ag;obtain⟨z,hz⟩:=xe (d.es[q])
    rw[<-hz] at aw;have HZ:=f8 hz;clear hz;have ar:(q:Int)<(n:Int):=ga
    have a3:(0:Int)<=(q:Int):=ga
    cases ae:kX z with
    | false =>
      clear hc;have r:=f8 (show fF d=2 by rw[R.o,HN.o,aB7 _ q ag (by rw[<-HZ.o];exact ae),gw gb]);go_wp2_with (go_at_call 137;refine(nG z _).mono ?_;rintro e w3 ⟨he,rfl⟩;rw[ae] at he;subst he)
      go_ret;exact⟨by rw[r.o];rfl,ab⟩
    | true =>
      by_cases af:q=0
      ·have al:¬ (0:Int)<(q:Int):=ga
       clear hc;have r:=f8 (xS d.es q ag (by rw[<-HZ.o];exact ae) (.inl af));have HK:=f8 af;clear af;go_wp2_with (go_at_call 137;refine(nG z _).mono ?_;rintro e w3 ⟨he,rfl⟩;rw[ae] at he;subst he)
       go_round
       case rel=>exact⟨q+1,by omega,by go_num,HN.trans r.o⟩
       case measure=>simp[intOf];omega
      ·have an:=hc (q-1) ga;clear hc;obtain⟨y,hy⟩:=xe (d.es[q-1])
       rw[<-hy] at an;have HY:=f8 hy;clear hy;have al:(0:Int)<(q:Int):=ga
       have au:(0:Int)<=(q:Int)-1:=ga
       have ap:(q:Int)-1<(n:Int):=ga
       have a1:w2.cell? ⟨b,o+((q:Int)-1).toNat,none⟩=some (I6 y):=by rw[show((q:Int)-1).toNat=q-1 by omega];exact an
       have az:IntKind.i64.wrap ((q:Int)-1)=(q:Int)-1:=ip _ ga;have HK:=f8 af;clear af;by_cases av:z<=y
       ·have r:=f8 (show fF d=24 by rw[R.o,HN.o,xT _ q ag (by rw[<-HZ.o];exact ae) (by have:=HK.o;omega) (by rw[<-HZ.o,<-HY.o];exact av),gw gb]);go_wp2_with (go_at_call 137;refine(nG z _).mono ?_;rintro e w3 ⟨he,rfl⟩;rw[ae] at he;subst he)
        go_ret;exact⟨by rw[r.o];rfl,ab⟩
       ·have r:=f8 (xS d.es q ag (by rw[<-HZ.o];exact ae) (.inr (by rw[<-HZ.o,<-HY.o];omega)));go_wp2_with (go_at_call 137;refine(nG z _).mono ?_;rintro e w3 ⟨he,rfl⟩;rw[ae] at he;subst he)
        go_round
        case rel=>exact⟨q+1,by omega,by go_num,HN.trans r.o⟩
        case measure=>simp[intOf];omega
   ·obtain rfl:q=n:=ga
    have r:=f8 (show fF d=oP d.b by rw[R.o,HN.o,show q=d.es.length from HL.o,aLf,f9 gb]);go_wp2_with (go_at_call 138;refine HB.mono ?_;rintro e w4 ⟨rfl,ax⟩)
    go_ret;exact⟨by rw[r.o];rfl,ab.trans (ax.mono ab.size)⟩
 ·have aq:=f8 (show fF d=u by rw[HE.o,gw q1]);go_wp2_with (go_at_call 105;refine ah.mono ?_;rintro e w2 ⟨rfl,ad⟩;have ab:=(ai.o _ ad).1.bel)
  go_ret;exact⟨by rw[aq.o];rfl,ab⟩
end Go.Proofs.YtoodnaghjpkjfaaGreatDoor
