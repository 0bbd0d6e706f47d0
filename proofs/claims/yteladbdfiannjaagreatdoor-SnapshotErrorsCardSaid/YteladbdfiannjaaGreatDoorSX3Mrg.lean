/- A part. -/
import Derived.Test.YteladbdfiannjaaGreatDoorSX2Mrg
import Derived.RangeFuncNested
import Derived.RangeFuncBound
import Derived.Shelf.RegionOpen
import Derived.OwnWalkIn
import Derived.TacticsInMore
import Derived.LoopIn
namespace Go.Proofs.YteladbdfiannjaaGreatDoor
set_option linter.unusedVariables false
set_option maxRecDepth 100000
set_option maxHeartbeats 64000000
set_option linter.unusedSimpArgs false
section
open Go Go.RowKit
def eQ:Val→List Val
 | .mk k _ _ _ l _ fs=>if k=8∨k=10 then l else if k=9 then fs else []
def KidsAt (n₀ m:Nat) (w w':World) (a:Option Addr) (n:Nat) (l:List Val):Prop :=
 n=l.length∧(l=[]∨∃b o,a=some ⟨b,o,none⟩∧b<w'.heap.size∧(b<n₀∨m≤b)∧(∃cs t fr,w'.heap[b]?=some (.cells cs t fr))∧∀j (h:j<l.length),∃x,At w' b (o+j * 6) x∧IsVal (· < n₀) w x l[j])
def aBl (n₀:Nat) (w0:World) (d:Val) (w:World) (e:Ending) (w':World):Prop:=∃a n cap,e=.returned (.slice a n cap)∧Below w.heap.size w w'∧n * 88≤140737488351232 * 2∧KidsAt n₀ w.heap.size w0 w' a n (eQ d)
theorem blockOf {w:World} {b o:Nat} {v:Value} (h:w.cell? ⟨b,o,none⟩=some v):∃cs t fr,w.heap[b]?=some (.cells cs t fr):=by
 unfold World.cell? at h
 dsimp only at h
 split at h
 ·rename_i c t fr e;exact⟨_,_,_,e⟩
 ·cases h
theorem xI (n₀:Nat) (w0:World) (d:Val) (c:VC) (w:World) (hw:Below n₀ w0 w) (hn₀:n₀≤w.heap.size) (hd:IsVal (· < n₀) w0 c d) :
 Calls Tryz.prog 279 #[c.v] w (aBl n₀ w0 d w):=by
 obtain⟨k0,i0,s0,t0,l,ns,fs⟩:=d
 obtain⟨k1,i1,s1,t1,la,ll,lc,fa,fl,fc⟩:=c
 obtain⟨⟨h1,h2,h3,h4,hok,hll,hfl,hns⟩,hv,hf⟩:=hd
 dsimp only at h1 h2 h3 h4 hll hfl hv hf
 subst h1 h2 h3 h4
 have hrl:ll * 88≤140737488351232:=hok.l
 have hrf:fl * 104≤140737488351232:=hok.f
 clear hok
 have HLL:=hid hll;clear hll
 have HFL:=hid hfl;clear hfl
 have HNS:=hid hns;clear hns
 by_cases h8:k1=8∨k1=10
 ·have HR:=hid (show eQ (.mk k1 i1 s1 t1 l ns fs)=l by simp[eQ,h8])
  have hpost:∀w',Below w.heap.size w w'→aBl n₀ w0 (.mk k1 i1 s1 t1 l ns fs) w (.returned (.slice la ll lc)) w':=fun w' hb=>by
   refine⟨_,_,_,rfl,hb,by omega,?_⟩
   rw[HR.out]
   refine⟨HLL.out,?_⟩
   rcases hv with rfl | ⟨b,o,rfl,hb',hvs⟩
   ·exact .inl rfl
   ·by_cases hl0:l=[]
    ·exact .inl hl0
    ·have hlp:0<l.length:=List.length_pos_iff.2 hl0
     have hs:=hb.size
     refine .inr ⟨b,o,rfl,by omega,.inl hb',?_,fun j hj=>?_⟩
     ·obtain⟨x,hx,_⟩:=hvs.get 0 hlp
      exact blockOf ((hx.same ((hb.block b (by omega)).trans (hw.block b hb'))).k)
     ·obtain⟨x,hx,hxv⟩:=hvs.get j hj
      exact⟨x,hx.same ((hb.block b (by omega)).trans (hw.block b hb')),hxv⟩
  have HP:=hid hpost
  clear hpost hv hf
  rcases h8 with rfl | rfl
  all_goals
   go_enter Tryz.func279,Tryz.ntmps279
   go_wp2
   go_ret
   exact HP.out _ ((bR w).alloc lr _)
 ·by_cases h9:k1=9
  ·have HR:=hid (show eQ (.mk k1 i1 s1 t1 l ns fs)=fs by subst h9;simp[eQ])
   subst h9
   obtain⟨ti,hi,hz0,hz1,hz2⟩:=info_parts lZ
   clear h8 hv
   have HW:=hid hw
   go_enter Tryz.func279,Tryz.ntmps279
   go_wp2
   go_loopw [3,18] (fun v i wr=>∃(k:Nat) (cs:List VC),k≤fl∧i=.int .i64 k∧cs.length=k∧wr.ownsRow (w.heap.size+1) 66 6 v k (cs.flatMap VC.cs) ∧
    (∀j (h:j<cs.length) (h':j<fs.length),IsVal (· < n₀) w0 cs[j] fs[j])∧Below w.heap.size w wr∧w.heap.size+1≤wr.heap.size)
    (fun _ i _=>fl-(intOf i).toNat)
   case atStart=>exact⟨0,[],Nat.zero_le _,rfl,rfl,World.ownsRow_nil _ _ _ _,fun j h=>by simp at h,(bR w).alloc lr _,by simp⟩
   case round =>
    obtain⟨k,cs,hk,rfl,hcs,hown,hel,hbel,hszr⟩:=hrel
    have HCS:=hid hcs;clear hcs
    have HEL:=hid hel;clear hel
    by_cases hlt:k<fl
    ·rcases hf with rfl | ⟨b,o,rfl,hb,hvs⟩
     ·exfalso;have h1:=HFL.out;simp only[List.length_nil] at h1;omega
     ·have hkl:k<fs.length:=by have h1:=HFL.out;omega
      have hkn:k<ns.length:=by have h1:=HFL.out;have h2:=HNS.out;omega
      obtain⟨⟨hnm,hnz⟩,x,hx,hxv⟩:=hvs.get HNS.out k hkl hkn
      obtain⟨nm,hnmd⟩:∃nm,nm=ns[k]:=⟨_,rfl⟩
      rw[←hnmd] at hnm
      clear hnmd hnz
      obtain⟨hx0,hx1,hx2,hx3,hx4,hx5⟩:=hx.same (w':=wr) ((hbel.block b (by omega)).trans (HW.out.block b hb))
      have hnm':wr.cell? ⟨b,o+k * 7,none⟩=some (.string nm):=(World.cell?_of_block (w:=w0) (a:=⟨b,o+k * 7,none⟩) ((hbel.block b (by omega)).trans (HW.out.block b hb))).trans hnm
      have hlt':(k:Int)<(fl:Int):=by omega
      have hcap1:k+1≤maxLen:=by unfold maxLen;omega
      have hcap2:(k+1) * 88≤140737488355328:=by omega
      clear hx hnm hw
      have HX:=hid hxv;clear hxv
      go_wp2_with (at_builtin;(refine wpList_append_lies _ (by rfl) _ _ 63 (by rfl) (w.heap.size+1) 66 ti _ 6 88 Tryz.underlying63 hi hz0 hz1 hz2 rfl (by omega) _ k (cs.flatMap VC.cs) (by rfl) ((hown.alloc _).alloc _) ⟨wr.heap.size+1,0,none⟩ 1 1 x.cs (by rfl) (by rfl) (World.news_of_block (aM _ _ _ (by simp))) (by simp[VC.cs,Value.oneCell']) (by omega) hcap1 hcap2 (by simp;omega) (wr.heap.size+1+1) (by simp) ?_);intro gg cap w2 hown2 hgrow hat hlt2)
      go_roundw
      case rel =>
       refine⟨k+1,cs++[x],by omega,by go_num,by simp[HCS.out],by simpa using hown2,fun j hj hj'=>?_,((hbel.alloc (by omega) _).alloc (by simp;omega) _).grown hgrow (by simp;omega) (fun r e=>by have:=(hown.lt r e).1;omega),by have:=hgrow.size;simp at this;omega⟩
       by_cases hjk:j<cs.length
       ·rw[List.getElem_append_left hjk];exact HEL.out j hjk hj'
       ·obtain rfl:j=k:=by have:=HCS.out;simp at hj;omega
        rw[List.getElem_append_right (by omega)]
        simp only[HCS.out,Nat.sub_self,List.getElem_cons_zero]
        exact HX.out
      case measure=>simp[intOf];omega
    ·obtain rfl:k=fl:=by omega
     go_wp2
     go_ret
     have hsh:∃a cap,(∀r,a=some r→∃g,r=⟨g,0,none⟩)∧u3=.slice a k cap:=by
      rcases hown.2 with ⟨rfl,rfl⟩ | ⟨g,cap,cur,rfl,_⟩
      ·exact⟨none,0,fun r h=>(by cases h),rfl⟩
      ·exact⟨_,cap,fun r h=>⟨g,(by cases h;rfl)⟩,rfl⟩
     obtain⟨a,cap,ha,rfl⟩:=hsh
     refine⟨a,k,cap,rfl,hbel,by omega,?_⟩
     rw[HR.out]
     refine⟨HFL.out,?_⟩
     by_cases hl0:fs=[]
     ·exact .inl hl0
     ·have hlp:0<fs.length:=List.length_pos_iff.2 hl0
      have h1:=HFL.out
      rcases hown.2 with ⟨h2,h3⟩ | ⟨g,cap',cur,hv,hb,hg,_⟩
      ·omega
      ·simp only[Value.slice.injEq] at hv
       obtain⟨rfl,_,rfl⟩:=hv
       have h2:=HCS.out
       exact .inr ⟨g,0,rfl,bT hg,.inr (by omega),⟨_,_,_,hg⟩,fun j hj=>⟨cs[j]'(by omega),by rw[Nat.zero_add];exact At.ofRow hown j (by omega),HEL.out j (by omega) hj⟩⟩
  ·have HR:=hid (show eQ (.mk k1 i1 s1 t1 l ns fs)=[] by simp[eQ,h8,h9])
   have e8:(k1==8)=false:=by simp;omega
   have e9:(k1==9)=false:=by simp;omega
   have e10:(k1==10)=false:=by simp;omega
   clear hv hf h8 h9 hw
   go_enter Tryz.func279,Tryz.ntmps279
   go_wp2
   go_ret
   exact⟨_,_,_,rfl,(bR w).alloc lr _,by omega,by rw[HR.out];exact⟨rfl,.inl rfl⟩⟩
end
section
open Go Go.RowKit Go.Shelf
attribute [local go_sem] Oper.semAt_some
mutual
def gC (lvl:Int):Val→List (Int × Val)
 | .mk k i s t l ns fs=>(lvl,.mk k i s t l ns fs) :: (if k=8∨k=10 then bS (wrap64 (lvl+1)) l else if k=9 then bS (wrap64 (lvl+1)) fs else [])
def bS (lvl:Int):List Val→List (Int × Val)
 | []=>[]
 | d :: l=>gC lvl d++bS lvl l
end
theorem jP (lvl:Int) (d:Val):gC lvl d=(lvl,d) :: bS (wrap64 (lvl+1)) (eQ d):=by
 obtain⟨k,i,s,t,l,ns,fs⟩:=d
 rw[gC,eQ]
 split
 ·rfl
 ·split
  ·rfl
  ·rfl
theorem iH (lvl:Int):∀(l:List Val) (k:Nat) (h:k<l.length),bS lvl (l.take (k+1))=bS lvl (l.take k)++gC lvl l[k]
 | d :: l,0,_=>by simp[bS]
 | d :: l,k+1,h=>by
   simp only[List.take_succ_cons,bS,List.append_assoc,List.getElem_cons_succ]
   rw[iH lvl l k (by simpa using h)]
theorem nG (lvl:Int) (l:List Val) (k:Nat) (h:k<l.length):(bS lvl (l.take k)).length+(gC lvl l[k]).length≤(bS lvl l).length:=by
 have h1:=congrArg List.length (iH lvl l k h)
 rw[List.length_append] at h1
 rw[←h1]
 have:∀(l:List Val) (m:Nat),(bS lvl (l.take m)).length≤(bS lvl l).length:=by
  intro l
  induction l with
  | nil=>intro m;simp[bS]
  | cons d l ih =>
    intro m
    cases m with
    | zero=>simp[bS]
    | succ m=>simp only[List.take_succ_cons,bS,List.length_append];have:=ih m;omega
 exact this l (k+1)
theorem kZ (lvl:Int) (l:List Val) (k:Nat) (h:k<l.length) (q:List (Int × Val)) (hq:q <+: gC lvl l[k]):bS lvl (l.take k)++q <+: bS lvl l:=by
 have:∀(l:List Val) (m:Nat),bS lvl (l.take m) <+: bS lvl l:=by
  intro l
  induction l with
  | nil=>intro m;simp[bS]
  | cons d l ih =>
    intro m
    cases m with
    | zero=>simp[bS]
    | succ m=>simp only[List.take_succ_cons,bS];exact(List.prefix_append_right_inj _).2 (ih m)
 have h1:=this l (k+1)
 rw[iH lvl l k h] at h1
 exact((List.prefix_append_right_inj _).2 hq).trans h1
abbrev Item (n₀:Nat) (W0:World):={ x:Int × VC × Val // IsVal (· < n₀) W0 x.2.1 x.2.2 }
def Item.dat {n₀:Nat} {W0:World} (x:Item n₀ W0):Int × Val:=(x.1.1,x.1.2.2)
def Item.encs {n₀:Nat} {W0:World} (x:Item n₀ W0):Array Value:=#[.int .i64 x.1.1,x.1.2.1.v]
def Kp (n₀ n₁:Nat) (W W':World):Prop:=Below n₀ W W'∧∀(b:Nat) (o:Obj),n₁≤b→W.heap[b]?=some o→o.isCells=true→W'.heap[b]?=some o
theorem Kp.refl (n₀ n₁:Nat) (W:World):Kp n₀ n₁ W W:=⟨Below.refl _ _,fun _ _ _ h _=>h⟩
theorem Kp.trans {n₀ n₁:Nat} {A B C:World} (h:Kp n₀ n₁ A B) (k:Kp n₀ n₁ B C):Kp n₀ n₁ A C:=⟨h.1.trans k.1,fun b o hb ho hc=>k.2 b o hb (h.2 b o hb ho hc) hc⟩
theorem Kp.ext {n₀ n₁:Nat} {A B:World} (h:Below A.heap.size A B) (hn:n₀≤A.heap.size):Kp n₀ n₁ A B:=⟨h.mono hn,fun b o _ ho _=>aB h ho⟩
theorem Kp.cells {n₀ n₁:Nat} {A B:World} (h:Kp n₀ n₁ A B) {b:Nat} {cs:Array Value} {t:TypeId} {fr:Nat × Nat} (hb:b<n₀∨n₁≤b) (hc:A.heap[b]?=some (.cells cs t fr)):B.heap[b]?=some (.cells cs t fr):=by
 rcases hb with hb | hb
 ·exact(h.1.block b hb).trans hc
 ·exact h.2 b _ hb hc rfl
theorem kp_b {n₀ n₁:Nat} {w:World} (hn:n₀≤w.heap.size) (W:World) (l:Nat) (o o':Obj) (hl:w.heap.size≤l) (h:W.heap[l]?=some o) (hc:o.isCells=false) (hw:o.isWalk=false):Kp n₀ n₁ W (W.putObj l o') :=
 ⟨belowK_b hn W l o o' hl h hc hw,fun b o2 _ h2 hc2=>by
   refine(World.putObj_heap_other (fun e=>?_)).trans h2
   subst e
   rw[h] at h2;cases h2;rw[hc] at hc2;cases hc2⟩
theorem RoundIn.anyDepth {m m':Nat} {P:Program} {l:Nat} {f:FuncId} {tmps:Array Value} {assign body:Code} {w:World} {R:Ending→World→Prop}
 (h:RoundIn Fence.wide m P l f tmps assign body w R):RoundIn Fence.wide m' P l f tmps assign body w R:=⟨h.1,fun c cs _=>h.2 c cs (fun d h=>by cases h)⟩
theorem YieldAt.anyDepth {m:Nat} (m':Nat) {P:Program} {l:Nat} {args:Array Value} {W:World} {R:Ending→World→Prop} (h:YieldAt Fence.wide m P l args W R):YieldAt Fence.wide m' P l args W R:=by
 obtain⟨fn,tmps,assign,body,hy,hR⟩:=h
 exact⟨fn,tmps,assign,body,hy,RoundIn.anyDepth hR⟩
def Six (W:World) (B:Nat) (c:VC):Prop:=W.cell? ⟨B,0,none⟩=some (.int .i64 c.k)∧W.cell? ⟨B,1,none⟩=some (.int .i64 c.i)∧W.cell? ⟨B,2,none⟩=some (.int .i64 c.s)∧W.cell? ⟨B,3,none⟩=some (.string c.t)∧W.cell? ⟨B,4,none⟩=some (.slice c.la c.ll c.lc)∧W.cell? ⟨B,5,none⟩=some (.slice c.fa c.fl c.fc)
theorem sixOf {W:World} {B:Nat} {c:VC} {t:TypeId} {fr:Nat × Nat} (h:W.heap[B]?=some (.cells #[.int .i64 c.k,.int .i64 c.i,.int .i64 c.s,.string c.t,.slice c.la c.ll c.lc,.slice c.fa c.fl c.fc] t fr)):Six W B c :=
 ⟨aA h 0,aA h 1,aA h 2,aA h 3,aA h 4,aA h 5⟩
def mD {n₀:Nat} {W0:World} (n₁:Nat) (J Jx:List (Item n₀ W0)→World→Prop) (pre:List (Item n₀ W0)) (L:List (Int × Val)) (W:World) (e:Ending) (W':World):Prop :=
 (e=.returned (.bool true)∧∃ys:List (Item n₀ W0),ys.map Item.dat=L∧J (pre++ys) W'∧Kp n₀ n₁ W W'∧W.heap.size≤W'.heap.size) ∨
 (e=.returned (.bool false)∧∃ys:List (Item n₀ W0),ys.map Item.dat <+: L∧Jx (pre++ys) W')
theorem vX (l n₀ n₁ N:Nat) (W0:World) (hn0:n₀≤W0.heap.size) (h01:n₀≤n₁) (J Jx:List (Item n₀ W0)→World→Prop) (hJ:∀pre W W',J pre W→Below W.heap.size W W'→J pre W')
 (hY:∀m pre (x:Item n₀ W0) W,J pre W→pre.length<N→YieldAt Fence.wide m Tryz.prog l x.encs W fun e W'=>(e=.returned (.bool true)∧J (pre++[x]) W'∧Kp n₀ n₁ W W')∨(e=.returned (.bool false)∧Jx (pre++[x]) W'))
 (d:Val) (ih:∀d'∈eQ d,∀(m:Nat) (c:VC) (lvl:Int) (pre:List (Item n₀ W0)) (W:World),IsVal (· < n₀) W0 c d'→Below n₀ W0 W→n₁≤W.heap.size→J pre W→pre.length+(gC lvl d').length≤N→CallsIn Fence.wide m Tryz.prog 232 #[c.v,.int .i64 lvl,.func (.yield l) #[] #[]] W (mD n₁ J Jx pre (gC lvl d') W))
 (m:Nat) (c:VC) (lvl:Int) (pre:List (Item n₀ W0)) (W:World) (hd:IsVal (· < n₀) W0 c d) (hW:Below n₀ W0 W) (hn1:n₁≤W.heap.size) (hj:J pre W) (hN:pre.length+(gC lvl d).length≤N) :
 CallsIn Fence.wide m Tryz.prog 232 #[c.v,.int .i64 lvl,.func (.yield l) #[] #[]] W (mD n₁ J Jx pre (gC lvl d) W):=by
 obtain⟨Wa,hWa⟩:∃Wa,Wa=W.alloc (.cells #[.int .i64 c.k,.int .i64 c.i,.int .i64 c.s,.string c.t,.slice c.la c.ll c.lc,.slice c.fa c.fl c.fc] 66):=⟨_,rfl⟩
 have hba:Below W.heap.size W Wa:=by rw[hWa];exact(Below.refl _ W).alloc lr _
 have hbox:Wa.heap[W.heap.size]?=some (.cells #[.int .i64 c.k,.int .i64 c.i,.int .i64 c.s,.string c.t,.slice c.la c.ll c.lc,.slice c.fa c.fl c.fc] 66 (0,0)):=by rw[hWa];exact heap_alloc_new W _
 have hja:J pre Wa:=hJ _ _ _ hj hba
 have hpl:=jP lvl d
 have hN1:pre.length+1+(bS (wrap64 (lvl+1)) (eQ d)).length≤N:=by rw[hpl] at hN;simp only[List.length_cons] at hN;omega
 have hx0:=YieldAt.mono (R':=fun e W2=>(e=.returned (.bool true)∧(J (pre++[⟨(lvl,c,d),hd⟩]) W2∧Kp n₀ n₁ W W2∧Below n₀ W0 W2∧W.heap.size<W2.heap.size)∧Six W2 W.heap.size c)∨(e=.returned (.bool false)∧Jx (pre++[⟨(lvl,c,d),hd⟩]) W2)) (hY (m-1) pre ⟨(lvl,c,d),hd⟩ Wa hja (by omega))
  (fun e W2 h=>h.elim (fun ⟨he,hj2,hk2⟩=>.inl ⟨he,⟨hj2,(Kp.ext hba (by omega)).trans hk2,(hW.trans (hba.mono (by omega))).trans hk2.1,bT (hk2.cells (.inr hn1) hbox)⟩,sixOf (hk2.cells (.inr hn1) hbox)⟩) .inr)
 have HPL:=hid hpl
 clear hpl hN
 obtain⟨fn,tmps,assign,body,hy,hR⟩:=hx0
 dsimp only[Item.encs] at hy
 clear hbox
 refine callsIn_of_wp Tryz.func232 rfl trivial ?_ rfl
 simp only[Tryz.ntmps232,List.size_toArray,List.length_cons,List.length_nil,Nat.reduceAdd,Nat.reduceSub,Array.replicate_succ,Array.replicate_zero,List.push_toArray,List.append_toArray,List.nil_append,List.cons_append]
 rw[hWa] at hy hR
 clear hWa hba hja
 gi_wp2_with (first
  | ((try refine⟨fun h=>(by cases h),?_⟩);refine hR.mono ?_;clear hR;rintro e W2 (⟨rfl,h2,e0,e1,e2,e3,e4,e5⟩ | ⟨rfl,hx2⟩))
  | ((try refine⟨trivial,?_⟩);(try refine⟨fun h=>(by cases h),?_⟩);gi_at_call 279;refine(callsIn_wide.2 (xI n₀ W0 d c _ h2.2.2.1 (by have:=h2.2.2.2;omega) hd)).mono ?_;rintro e W3 ⟨a,n,cap,rfl,h3⟩))
 ·obtain⟨hJ2,hk2,hW2,hs2⟩:=h2
  obtain⟨hb3,hn3,hnl,hka⟩:=h3
  clear e0 e1 e2 e3 e4 e5
  have hs3:=hb3.size
  have hj3:=hJ _ _ _ hJ2 hb3
  have hk3:Kp n₀ n₁ W W3:=hk2.trans (Kp.ext hb3 (by omega))
  have hW3:Below n₀ W0 W3:=hW2.trans (hb3.mono (by omega))
  clear hJ2 hk2 hW2
  gi_loopw [17] (fun i wr=>∃(k:Nat) (ys:List (Item n₀ W0)),k≤n∧i=.int .i64 k∧ys.map Item.dat=bS (wrap64 (lvl+1)) ((eQ d).take k)∧J (pre++[⟨(lvl,c,d),hd⟩]++ys) wr∧Kp n₀ n₁ W3 wr∧W3.heap.size≤wr.heap.size)
   (fun i _=>n-(intOf i).toNat)
  case atStart=>exact⟨0,[],Nat.zero_le _,rfl,rfl,by simpa using hj3,Kp.refl _ _ _,Nat.le_refl _⟩
  case round =>
   obtain⟨k,ys,hk,rfl,hys,hjr,hkr,hsr⟩:=hrel
   have HYS:=hid hys;clear hys
   have HNL:=hid hnl
   by_cases hlt:k<n
   ·have hkl:k<(eQ d).length:=by omega
    clear hnl
    rcases hka with h0 | ⟨b,o,rfl,hb,hbn,hblk,hat⟩
    ·exfalso;rw[h0] at hkl;simp at hkl
    ·obtain⟨cs,t,fr,hblk⟩:=hblk
     obtain⟨x,hx,hxv⟩:=hat k hkl
     have hsame:wr.heap[b]?=W3.heap[b]?:=(hkr.cells (by omega) hblk).trans hblk.symm
     obtain⟨hx0,hx1,hx2,hx3,hx4,hx5⟩:=hx.same hsame
     clear hblk hsame hx hat
     have hlt':(k:Int)<(n:Int):=by omega
     have hWr:Below n₀ W0 wr:=hW3.trans hkr.1
     obtain⟨wb,hwb⟩:∃wb,wb=wr.alloc (.cells #[.int .i64 x.k,.int .i64 x.i,.int .i64 x.s,.string x.t,.slice x.la x.ll x.lc,.slice x.fa x.fl x.fc] 66):=⟨_,rfl⟩
     have hbb:Below wr.heap.size wr wb:=by rw[hwb];exact(Below.refl _ wr).alloc lr _
     have hsb:wr.heap.size≤wb.heap.size:=hbb.size
     have htl:=nG (wrap64 (lvl+1)) (eQ d) k hkl
     have hyl:ys.length=(bS (wrap64 (lvl+1)) ((eQ d).take k)).length:=by rw[←HYS.out,List.length_map]
     have hc:=ih (eQ d)[k] (List.getElem_mem hkl) (m-1) x (wrap64 (lvl+1)) (pre++[⟨(lvl,c,d),hd⟩]++ys) wb hxv (hWr.trans (hbb.mono (by omega))) (by omega) (hJ _ _ _ hjr hbb) (by simp only[List.length_append,List.length_cons,List.length_nil];omega)
     have htk:=hid (iH (wrap64 (lvl+1)) (eQ d) k hkl)
     have hpf:=hid (kZ (wrap64 (lvl+1)) (eQ d) k hkl)
     clear htl hyl hxv
     have HBB:=hid hbb
     rw[hwb] at hc
     have HC:=hid hc
     have HWB:=hid hwb
     clear hwb hc hbb
     have hn63:(n:Int)≤9223372036854775807:=by omega
     gi_wp2_with ((try refine⟨trivial,?_⟩);(try refine⟨fun h=>(by cases h),?_⟩);gi_at_call 232;refine HC.out.mono ?_;rintro e W4 (⟨rfl,h4⟩ | ⟨rfl,h4⟩))
     ·obtain⟨zs,hzs,hj4,hk4,hs4⟩:=h4
      rw[←HWB.out] at hk4 hs4
      go_roundw
      case rel=>exact⟨k+1,ys++zs,by omega,by go_num,by rw[List.map_append,HYS.out,hzs,htk.out],by simpa using hj4,hkr.trans ((Kp.ext HBB.out (by omega)).trans hk4),by omega⟩
      case measure=>simp[intOf];omega
     ·obtain⟨zs,hzs,hx4⟩:=h4
      go_ret
      refine .inr ⟨rfl,⟨(lvl,c,d),hd⟩ :: (ys++zs),?_,by simpa using hx4⟩
      rw[HPL.out,List.map_cons,List.map_append,HYS.out]
      exact(List.prefix_cons_inj _).2 (hpf.out _ hzs)
   ·obtain rfl:k=n:=by omega
    gi_wp2
    go_ret
    refine .inl ⟨rfl,⟨(lvl,c,d),hd⟩ :: ys,?_,by simpa using hjr,hk3.trans hkr,by omega⟩
    rw[HPL.out,List.map_cons,HYS.out,HNL.out,List.take_length]
    rfl
 ·go_ret
  refine .inr ⟨rfl,[⟨(lvl,c,d),hd⟩],?_,hx2⟩
  rw[HPL.out]
  exact⟨_,rfl⟩
theorem kids_sz {d d':Val} (h:d'∈eQ d):Val.sz d'<Val.sz d:=by
 obtain⟨k,i,s,t,l,ns,fs⟩:=d
 have key:∀r:List Val,d'∈r→Val.sz d'≤Val.szs r:=fun r hl=>by
  obtain⟨j,hj,rfl⟩:=List.getElem_of_mem hl
  exact Val.szs_get r j hj
 simp only[eQ] at h
 simp only[Val.sz]
 by_cases h1:k=8∨k=10
 ·rw[if_pos h1] at h;have:=key l h;omega
 ·rw[if_neg h1] at h
  by_cases h2:k=9
  ·rw[if_pos h2] at h;have:=key fs h;omega
  ·rw[if_neg h2] at h;cases h
theorem aBn (l n₀ n₁ N:Nat) (W0:World) (hn0:n₀≤W0.heap.size) (h01:n₀≤n₁) (J Jx:List (Item n₀ W0)→World→Prop) (hJ:∀pre W W',J pre W→Below W.heap.size W W'→J pre W')
 (hY:∀m pre (x:Item n₀ W0) W,J pre W→pre.length<N→YieldAt Fence.wide m Tryz.prog l x.encs W fun e W'=>(e=.returned (.bool true)∧J (pre++[x]) W'∧Kp n₀ n₁ W W')∨(e=.returned (.bool false)∧Jx (pre++[x]) W')) :
 ∀(z:Nat) (d:Val),Val.sz d≤z→∀(m:Nat) (c:VC) (lvl:Int) (pre:List (Item n₀ W0)) (W:World),IsVal (· < n₀) W0 c d→Below n₀ W0 W→n₁≤W.heap.size→J pre W→pre.length+(gC lvl d).length≤N →
  CallsIn Fence.wide m Tryz.prog 232 #[c.v,.int .i64 lvl,.func (.yield l) #[] #[]] W (mD n₁ J Jx pre (gC lvl d) W):=by
 intro z
 induction z using Nat.strongRecOn with
 | _ z ih =>
   intro d hz m c lvl pre W hd hW hn1 hj hN
   exact vX l n₀ n₁ N W0 hn0 h01 J Jx hJ hY d (fun d' hd'=>ih (Val.sz d') (by have:=kids_sz hd';omega) d' lr) m c lvl pre W hd hW hn1 hj hN
theorem pC (c:VC) (w:World):Calls Tryz.prog 166 #[c.v] w fun e w'=>e=.returned (.func (.func 231) #[] #[.pointer (some ⟨w.heap.size,0,none⟩)]) ∧
 w.alloc (.cells #[.int .i64 c.k,.int .i64 c.i,.int .i64 c.s,.string c.t,.slice c.la c.ll c.lc,.slice c.fa c.fl c.fc] 66)=w':=by
 go_enter Tryz.func166,Tryz.ntmps166
 go_wp2
 go_ret
 exact⟨rfl,rfl⟩
theorem nF (m n₀ B:Nat) (W0 w:World) (c:VC) (d:Val) (hn0:n₀≤W0.heap.size) (hw:Below n₀ W0 w) (hB:n₀≤B) (hd:IsVal (· < n₀) W0 c d)
 (hbox:w.heap[B]?=some (.cells #[.int .i64 c.k,.int .i64 c.i,.int .i64 c.s,.string c.t,.slice c.la c.ll c.lc,.slice c.fa c.fl c.fc] 66 (0,0))) (n₁:Nat) (hn1:n₁≤w.heap.size) (h01:n₀≤n₁) :
 SeqStopsK Fence.wide m Tryz.prog 231 #[.pointer (some ⟨B,0,none⟩)] (Item.encs (n₀:=n₀) (W0:=W0)) (Kp n₀ n₁) (fun ys=>ys.map Item.dat=gC 1 d) (fun ys=>ys.map Item.dat <+: gC 1 d) (gC 1 d).length w:=by
 intro l J Jx W hW hJ hJx hY h0
 have hsW:=hW.size
 have hbW:=sixOf (aB hW hbox)
 -- the invariant with what it abides
 have hv:=aBn l n₀ n₁ (gC 1 d).length W0 hn0 h01 (fun pre W1=>J pre W1∧W.heap.size≤W1.heap.size∧Below n₀ W0 W1) Jx
  (fun pre W1 W2 h hb=>⟨hJ _ _ _ none h.1 (mQ hb none) (fun r e=>by cases e),by have:=hb.size;omega,h.2.2.trans (hb.mono (by omega))⟩)
  (fun m' pre x W1 h hl=>YieldAt.anyDepth m' (YieldAt.mono (hY pre x W1 h.1 hl) fun e W2 h2=>h2.imp (fun ⟨he,hj2,hk2⟩=>⟨he,⟨hj2,Nat.le_trans h.2.1 hk2.1.size,h.2.2.trans hk2.1⟩,hk2⟩) id))
  (Val.sz d) d lr (m-1) c 1 [] W hd (hw.trans (hW.mono (by omega))) (by omega) ⟨h0,Nat.le_refl _,hw.trans (hW.mono (by omega))⟩ (by simp)
 obtain⟨e0,e1,e2,e3,e4,e5⟩:=hbW
 have HV:=hid hv
 clear hv hY
 refine callsIn_of_wp Tryz.func231 rfl trivial ?_ rfl
 simp only[Tryz.ntmps231,List.size_toArray,List.length_cons,List.length_nil,Nat.reduceAdd,Nat.reduceSub,Array.replicate_succ,Array.replicate_zero,List.push_toArray,List.append_toArray,List.nil_append,List.cons_append]
 gi_wp2_with ((try refine⟨trivial,?_⟩);(try refine⟨fun h=>(by cases h),?_⟩);gi_at_call 232;refine HV.out.mono ?_;rintro e W1 (⟨rfl,h4⟩ | ⟨rfl,h4⟩))
 ·obtain⟨ys,hys,hj,_⟩:=h4
  go_end0
  exact⟨⟨_,rfl⟩,.inl ⟨ys,hys,by simpa using hj.1⟩⟩
 ·obtain⟨ys,hys,hj⟩:=h4
  go_end0
  exact⟨⟨_,rfl⟩,.inr ⟨ys,hys,by simpa using hj⟩⟩
end
section
open Go Go.RowKit Go.Shelf
attribute [local go_sem] Oper.semAt_some
abbrev vObj (c:VC):Obj:=.cells #[.int .i64 c.k,.int .i64 c.i,.int .i64 c.s,.string c.t,.slice c.la c.ll c.lc,.slice c.fa c.fl c.fc] 66
end
section
open Go Go.RowKit
def numK (k:Int):Bool:=k==1||k==2||k==6||k==7||k==3
def textK (k:Int):Bool:=k==4||k==5||k==10
def listK (k:Int):Bool:=k==8||k==10
def pU (k i s:Int) (t:ByteArray) (ll fl:Nat):Bool:=(numK k||i==0)&&((k==3||s==0)&&((textK k||t.toList.isEmpty)&&((listK k||((ll:Int)==0))&&(k==9||((fl:Int)==0)))))
theorem pT (k i s:Int) (t:ByteArray) (la:Option Addr) (ll lc:Nat) (fa:Option Addr) (fl fc:Nat) (w:World) (hk:1≤k∧k≤10) :
 Calls Tryz.prog 167 #[.agg #[.int .i64 k,.int .i64 i,.int .i64 s,.string t,.slice la ll lc,.slice fa fl fc]] w fun e w'=>e=.returned (.bool (pU k i s t ll fl))∧Below w.heap.size w w':=by
 have:k=1∨k=2∨k=3∨k=4∨k=5∨k=6∨k=7∨k=8∨k=9∨k=10:=by omega
 clear hk
 rcases this with rfl | rfl | rfl | rfl | rfl | rfl | rfl | rfl | rfl | rfl
 all_goals
  go_enter Tryz.func167,Tryz.ntmps167
  go_wp2
  all_goals go_ret
  all_goals exact⟨by simp[pU,numK,textK,listK, *],(bR w).alloc lr _⟩
end
section
open Go Go.RowKit Go.Shelf
attribute [local go_sem] Oper.semAt_some
def dM:Val→Bool
 | .mk k i s t l ns fs=>dC k i s t l.length fs.length
def aBp:Val→Bool
 | .mk k i s t l ns fs=>pU k i s t l.length fs.length
def kX:Val→Int
 | .mk k i s t l ns fs=>if k=1 then bU i 0 1 else if k=2 then bU i (-999999999999999) 999999999999999
    else if k=3 then jF (bU i (-999999999999999) 999999999999999) (bU s 0 12) else if k=4 then jX t else if k=5 then dI t.size 1024 5
    else if k=6 then bU i (-719162) 2932896 else if k=7 then bU i (-62135596800000) 253402300799999 else if k=8 then dI l.length 256 9
    else if k=9 then eA ns else cL t l.length
def qI:Val→Int
 | .mk k _ _ _ _ _ _=>k
def cT (p:Nat) (x:Int × Val):Int :=
 if 4096<p then 9 else if 8<x.1 then 23 else if dM x.2=true then 19 else if qI x.2<1∨10<qI x.2 then 11 else if aBp x.2=false then 3 else kX x.2
def cZ (p:Nat):List (Int × Val)→Int
 | []=>0
 | x :: r=>if cT (p+1) x≠0 then cT (p+1) x else cZ (p+1) r
def bP (d:Val):Int:=cZ 0 (gC 1 d)
theorem iQ:∀(p:Nat) (xs ys:List (Int × Val)),cZ p (xs++ys)=if cZ p xs≠0 then cZ p xs else cZ (p+xs.length) ys
 | p,[],ys=>by simp[cZ]
 | p,x :: xs,ys=>by
   simp only[List.cons_append,cZ,List.length_cons]
   by_cases h:cT (p+1) x≠0
   ·simp only[h,if_true,ne_eq,not_false_eq_true]
   ·simp only[h,if_false]
    rw[iQ (p+1) xs ys,show p+1+xs.length=p+(xs.length+1) by omega]
theorem yM (xs:List (Int × Val)) (x:Int × Val) (h:cZ 0 xs=0):cZ 0 (xs++[x])=cT (xs.length+1) x:=by
 rw[iQ,if_neg (by simp[h])]
 simp only[cZ,Nat.zero_add]
 split
 ·rfl
 ·rename_i h1;simp at h1;exact h1.symm
theorem chkGo_len':∀(xs:List (Int × Val)) (p:Nat),p≤4096→cZ p xs=0→p+xs.length≤4096
 | [],p,hp,_=>by simpa using hp
 | x :: xs,p,hp,h=>by
   simp only[cZ] at h
   by_cases h1:cT (p+1) x≠0
   ·rw[if_pos h1] at h;exact absurd h h1
   ·rw[if_neg h1] at h
    have h2:¬ 4096<p+1:=fun h2=>h1 (by unfold cT;rw[if_pos h2];decide)
    have:=chkGo_len' xs (p+1) (by omega) h
    simp only[List.length_cons];omega
theorem qS (xs:List (Int × Val)) (h:cZ 0 xs=0):xs.length≤4096:=by
 have:=chkGo_len' xs 0 (by omega) h;omega
theorem sR {xs L:List (Int × Val)} (h:xs <+: L) (hne:cZ 0 xs≠0):cZ 0 L=cZ 0 xs:=by
 obtain⟨t,rfl⟩:=h
 rw[iQ,if_pos hne]
def qB (k:Int):FuncId:=if k=1 then 217 else if k=2 then 219 else if k=3 then 220 else if k=4 then 222 else if k=5 then 224
 else if k=6 then 225 else if k=7 then 226 else if k=8 then 227 else if k=9 then 228 else 230
abbrev rulesObj:Obj:=.cells #[.nilFunc,.func (.func 217) #[] #[],.func (.func 219) #[] #[],.func (.func 220) #[] #[],.func (.func 222) #[] #[],.func (.func 224) #[] #[],
 .func (.func 225) #[] #[],.func (.func 226) #[] #[],.func (.func 227) #[] #[],.func (.func 228) #[] #[],.func (.func 230) #[] #[]] 230
theorem wW (w:World):Calls Tryz.prog 165 #[] w fun e w'=>e=.returned (.agg #[.nilFunc,.func (.func 217) #[] #[],.func (.func 219) #[] #[],.func (.func 220) #[] #[],.func (.func 222) #[] #[],.func (.func 224) #[] #[],
 .func (.func 225) #[] #[],.func (.func 226) #[] #[],.func (.func 227) #[] #[],.func (.func 228) #[] #[],.func (.func 230) #[] #[]])∧w.alloc rulesObj=w':=by
 go_enter Tryz.func165,Tryz.ntmps165
 go_wp2
 exact bodyPost_ret (v:=.agg #[.nilFunc,.func (.func 217) #[] #[],.func (.func 219) #[] #[],.func (.func 220) #[] #[],.func (.func 222) #[] #[],.func (.func 224) #[] #[],
 .func (.func 225) #[] #[],.func (.func 226) #[] #[],.func (.func 227) #[] #[],.func (.func 228) #[] #[],.func (.func 230) #[] #[]]) (by simp[results,Tryz.results165,go_sem]) rfl ⟨rfl,rfl⟩
theorem qA (w0:World) (n₀:Nat) (c:VC) (d:Val) (w:World) (hd:IsVal (· < n₀) w0 c d) (hw:Below n₀ w0 w) (hn:n₀≤w.heap.size) (hT:Tabs w) (hk:1≤c.k∧c.k≤10) :
 Calls Tryz.prog (qB c.k) #[c.v] w fun e w'=>e=.returned (.int .i64 (kX d))∧Below w.heap.size w w':=by
 have hd':IsVal (· < w.heap.size) w c d:=hd.same fun b hb=>⟨by omega,hw.block b hb⟩
 obtain⟨k,i,s,t,l,ns,fs⟩:=d
 obtain⟨k1,i1,s1,t1,la,ll,lc,fa,fl,fc⟩:=c
 obtain⟨⟨h1,h2,h3,h4,hok,hll,hfl,hns⟩,hv,hf⟩:=hd'
 dsimp only at h1 h2 h3 h4 hll hfl hv hf hk ⊢
 subst h1 h2 h3 h4
 have:k1=1∨k1=2∨k1=3∨k1=4∨k1=5∨k1=6∨k1=7∨k1=8∨k1=9∨k1=10:=by omega
 rcases this with rfl | rfl | rfl | rfl | rfl | rfl | rfl | rfl | rfl | rfl
 ·exact xF _ _ _ _ _ _ _ _ _ _ _
 ·exact xE _ _ _ _ _ _ _ _ _ _ _
 ·exact xD _ _ _ _ _ _ _ _ _ _ _
 ·exact xC _ _ _ _ _ _ _ _ _ _ _ hT hok.t
 ·exact xB _ _ _ _ _ _ _ _ _ _ _
 ·exact xA _ _ _ _ _ _ _ _ _ _ _
 ·exact wZ _ _ _ _ _ _ _ _ _ _ _
 ·have:=wY 8 i1 s1 t1 la ll lc fa fl fc w
  rw[hll] at this ⊢;exact this
 ·exact wX _ _ _ _ _ _ _ _ _ _ _ ns fs hok.f hfl hns hf
 ·have:=tU 10 i1 s1 t1 la ll lc fa fl fc w hok.t
  rw[hll] at this ⊢;exact this
theorem rM (k:Int):∀args w,(callFunc (qB k) args).run Tryz.prog w=.ok (.enter (qB k) args) w:=by
 unfold qB
 repeat' split
 ·exact enters_of Tryz.func217 (by kernel_rfl) rfl
 ·exact enters_of Tryz.func219 (by kernel_rfl) rfl
 ·exact enters_of Tryz.func220 (by kernel_rfl) rfl
 ·exact enters_of Tryz.func222 (by kernel_rfl) rfl
 ·exact enters_of Tryz.func224 (by kernel_rfl) rfl
 ·exact enters_of Tryz.func225 (by kernel_rfl) rfl
 ·exact enters_of Tryz.func226 (by kernel_rfl) rfl
 ·exact enters_of Tryz.func227 (by kernel_rfl) rfl
 ·exact enters_of Tryz.func228 (by kernel_rfl) rfl
 ·exact enters_of Tryz.func230 (by kernel_rfl) rfl
theorem wV {W:World} {B:Nat} (h:W.heap[B]?=some rulesObj) (k:Int) (hk:1≤k∧k≤10):W.cell? ⟨B,k.toNat,none⟩=some (.func (.func (qB k)) #[] #[]):=by
 rw[aA h]
 have:k=1∨k=2∨k=3∨k=4∨k=5∨k=6∨k=7∨k=8∨k=9∨k=10:=by omega
 rcases this with rfl | rfl | rfl | rfl | rfl | rfl | rfl | rfl | rfl | rfl<;>rfl
end
end Go.Proofs.YteladbdfiannjaaGreatDoor
