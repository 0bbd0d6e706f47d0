/- A part. -/
import Derived.Test.YtmgpghoamapfgaaGreatDoorST3Mrg
import Derived.Sort.CutIn
namespace Go.Proofs.YtmgpghoamapfgaaGreatDoor
set_option linter.unusedVariables false
set_option maxRecDepth 100000
set_option maxHeartbeats 16000000
set_option linter.unusedSimpArgs false
section
open Go Go.RowKit Go.Shelf
attribute [local go_sem] Oper.semAt_some
theorem gX {S:Nat->Prop} {w:World} {c:VC} {d:Val} (h:IsVal S w c d):cF d=eM c.k c.i c.s c.t c.ll c.fl:=by
 obtain⟨k,i,s,t,l,ns,fs⟩:=d;obtain⟨⟨rfl,rfl,rfl,rfl,_,h1,h2,_⟩,_⟩:=h;rw[cF,h1,h2]
theorem aLi {S:Nat->Prop} {w:World} {c:VC} {d:Val} (h:IsVal S w c d):aCr d=tM c.k c.i c.s c.t c.ll c.fl:=by
 obtain⟨k,i,s,t,l,ns,fs⟩:=d;obtain⟨⟨rfl,rfl,rfl,rfl,_,h1,h2,_⟩,_⟩:=h;rw[aCr,h1,h2]
theorem aDv {S:Nat->Prop} {w:World} {c:VC} {d:Val} (h:IsVal S w c d):zK d=c.k:=by
 obtain⟨k,i,s,t,l,ns,fs⟩:=d;obtain⟨⟨rfl,_⟩,_⟩:=h;rfl
def TF (B Bx:Nat) (c:VC) (w':World):Prop:=w'.cell? ⟨B+1,0,none⟩=some (I6 0)/\w'.frozen? ⟨B+1,0,none⟩=false/\Ce w' Bx 0 (I6 c.k)/\Ce w' Bx 1 (I6 c.i)/\Ce w' Bx 2 (I6 c.s) /\
 Ce w' Bx 3 (.string c.t)/\Ce w' Bx 4 (.slice c.la c.ll c.lc)/\Ce w' Bx 5 (.slice c.fa c.fl c.fc)/\(1<=c.k/\c.k<=10->w'.cell? ⟨B+1+1+1,c.k.toNat,none⟩=some (.func (.func (yQ c.k)) #[] #[]))
theorem tfOf {B Bx:Nat} {c:VC} {w':World} (h2:w'.heap[B+1]?=some (.cells #[I6 0] 27 (0,0))) (h3:w'.heap[B+3]?=some rulesObj) (hx:w'.heap[Bx]?=some (vObj c)):TF B Bx c w' :=
 ⟨aA h2 0,aC h2 0,aA hx 0,aA hx 1,aA hx 2,aA hx 3,aA hx 4,aA hx 5,fun hk=>aG6 h3 c.k hk⟩
def aLc (w:World) (d:Val) (e:Ending) (w':World):Prop:=e=.returned (I6 (aR d))/\BB w w'
theorem aMq {n₀ n₁:Nat} {W:World} {B o:Nat} (v:Value) (h0:n₀<=B) (h1:B<n₁):Kp n₀ n₁ W (W.setCell ⟨B,o,none⟩ v) :=
 ⟨(Below.refl _ W).setCell (p:=⟨B,o,none⟩) h0 _,fun b ob hb ho hc=>cB _ _ ho gi⟩
theorem iG (c:VC) (d:Val) (w:World) (hd:IsVal (· < w.heap.size) w c d) (hT:Tabs w):CP 66 #[c.v] w (aLc w d):=by
 refine(callsIn_wide (n:=3)).1 ?_;refine callsIn_of_wp_marks Tryz.func66 rfl trivial ?_ rfl;simp only[Tryz.ntmps66,List.size_toArray,List.length_cons,List.length_nil,Nat.reduceAdd,Nat.reduceSub,Array.replicate_succ,Array.replicate_zero,List.push_toArray,List.append_toArray,List.nil_append,List.cons_append]
 gi_wp2_with (first
  | ((try refine⟨trivial,?_⟩);(try refine⟨fun h=>gp,?_⟩);gi_at_call 118;refine(callsIn_wide.2 (aG7 _)).mono ?_;rintro e w' ⟨rfl,rfl⟩)
  | ((try refine⟨trivial,?_⟩);(try refine⟨fun h=>gp,?_⟩);gi_at_call 119;refine(callsIn_wide.2 (xH c _)).mono ?_;rintro e w' ⟨rfl,rfl⟩))
 obtain⟨wl,hwl⟩:=ez ((((((w.alloc (vObj c)).alloc (.cells #[I6 0] 27)).alloc rulesObj).alloc rulesObj).alloc (.cells #[I6 0] 3)).alloc (vObj c))
 have hb2:wl.heap[w.heap.size+1]?=some (.cells #[I6 0] 27 (0,0)):=by rw[hwl];exact aD _ (aD _ (aD _ (aD _ (aS _ _ _ gd))))
 have hb3:wl.heap[w.heap.size+3]?=some rulesObj:=by rw[hwl];exact aD _ (aD _ (aS _ _ _ gd))
 have hb4:wl.heap[w.heap.size+4]?=some (.cells #[I6 0] 3 (0,0)):=by rw[hwl];exact aD _ (aS _ _ _ gd)
 have hb5:wl.heap[w.heap.size+5]?=some (vObj c):=by rw[hwl];exact aS _ _ _ gd
 have hsz:wl.heap.size=w.heap.size+6:=by rw[hwl];simp
 have hbel:BB w wl:=by rw[hwl];exact(((((((bR w).alloc lr _).alloc gd _).alloc gj _).alloc gj _).alloc gj _).alloc gj _)
 rw[<-hwl];clear hwl;refine wpIn_rangeFunc_ownH rfl ga (gf:=206) (lb:=#[.pointer (some ⟨w.heap.size+5,0,none⟩)]) rfl trivial (enters_of Tryz.func206 ge rfl)
  (uN (3-1) w.heap.size (w.heap.size+5) w wl c d lr hbel ga hd hb5 wl.heap.size lr ga) (fun h k=>h.trans k) (kp_b ga) (Below.refl _ _) (fun _=>rfl)
  (fun pre W=>W.heap[w.heap.size+4]?=some (.cells #[I6 (pre.length:Nat)] 3 (0,0))/\W.heap[w.heap.size+1]?=some (.cells #[I6 0] 27 (0,0))/\W.heap[w.heap.size+3]?=some rulesObj/\BB w W/\eF 0 (pre.map Item.dat)=0/\wl.heap.size<=W.heap.size)
  (fun cd pre W=>cd=.ret/\eF 0 (pre.map Item.dat)≠0/\W.heap[w.heap.size+1]?=some (.cells #[I6 (eF 0 (pre.map Item.dat))] 27 (0,0))/\BB w W)
  (fun s A B row hs hg hr=>⟨aT hg hs.1 (fun e=>by have:=(hr _ e.symm).1;omega),aT hg hs.2.1 (fun e=>by have:=(hr _ e.symm).1;omega),aT hg hs.2.2.1 (fun e=>by have:=(hr _ e.symm).1;omega),hs.2.2.2.1.grown hg (by have:=hs.2.2.2.1.size;omega) (fun k e=>by have:=(hr _ e).1;omega),hs.2.2.2.2.1,by have:=hg.size;have:=hs.2.2.2.2.2;omega⟩)
  (fun cd s A B row hs hg hr=>⟨hs.1,hs.2.1,aT hg hs.2.2.1 (fun e=>by have:=(hr _ e.symm).1;omega),hs.2.2.2.grown hg (by have:=hs.2.2.2.size;omega) (fun k e=>by have:=(hr _ e).1;omega)⟩)
  ⟨hb4,hb2,hb3,hbel,rfl,Nat.le_refl _⟩
  (fun x a' W=>∃Bx,wl.heap.size<=Bx/\W.heap[Bx]?=some (vObj x.1.2.1)/\a'={ tmps:=#[c.v,.pointer (some ⟨w.heap.size,0,none⟩),.pointer (some ⟨w.heap.size+1,0,none⟩),.pointer (some ⟨w.heap.size+1+1+1,0,none⟩),.pointer (some ⟨w.heap.size+1+1+1+1,0,none⟩),I6 x.1.1,.pointer (some ⟨Bx,0,none⟩),undef,
    .agg #[.nilFunc,.func (.func 191) #[] #[],.func (.func 193) #[] #[],.func (.func 194) #[] #[],.func (.func 196) #[] #[],.func (.func 199) #[] #[],.func (.func 200) #[] #[],.func (.func 201) #[] #[],.func (.func 202) #[] #[],.func (.func 203) #[] #[],.func (.func 205) #[] #[]],
    c.v,.func (.func 206) #[] #[.pointer (some ⟨w.heap.size+1+1+1+1+1,0,none⟩)],I6 x.1.1,x.1.2.1.v,undef,undef,undef,undef,undef,undef,undef,undef,undef,undef,undef,undef,undef,undef,undef,undef,undef,undef,undef,undef,undef,undef,undef,undef,undef,undef,undef,undef,undef,undef,undef,undef,undef],defers:=[] })
  (fun x a' s A B row hs hg hr=>by
    obtain⟨Bx,h1,h2,h3⟩:=hs;exact⟨Bx,h1,aT hg h2 (fun e=>by obtain⟨_,o,ho,hc⟩:=hr _ e.symm;rw[h2] at ho;cases ho;cases hc),h3⟩) ?assign ?body ?done ?stop
 case assign =>
  intro l pre x W K hi hK;simp only[Item.encs]
  gi_wp2
  exact hK _ _ ((KeepsOthers.alloc _ _).from _) (Kp.ext ((Below.refl _ W).alloc lr _) (by have:=hi.2.2.2.2.2;omega)) ⟨aD _ hi.1,aD _ hi.2.1,aD _ hi.2.2.1,hi.2.2.2.1.alloc hi.2.2.2.1.size _,hi.2.2.2.2.1,by have:=hi.2.2.2.2.2;simp;omega⟩ ⟨W.heap.size,hi.2.2.2.2.2,heap_alloc_new W _,by first | (simp[Item.encs];done) | kernel_rfl⟩
 case body =>
  rintro l pre x a' W hl ⟨_,hloop⟩ ⟨h4,h2,h3,hb,hch,hszW⟩ ⟨Bx,hBx,hx,rfl⟩ hlt;clear hlt hloop hl;obtain⟨⟨lvl,cx,dx⟩,hxv⟩:=x;dsimp only at hxv hx ⊢;have hlen:=aA7 _ hch;rw[List.length_map] at hlen;have HR:=hid (show eF 0 (List.map Item.dat (pre++[(⟨(lvl,cx,dx),hxv⟩:Item w.heap.size w)]))=cX (pre.length+1) (lvl,dx) by
   rw[List.map_append,List.map_cons,List.map_nil,aHp _ _ hch,List.length_map];rfl)
  obtain⟨p,hp⟩:=ez pre.length
  rw[<-hp] at h4 hlen HR;have HP:=hid hp;clear hp hch
  -- the world behind the counter's step
  obtain⟨W1,hW1⟩:=ez (W.setCell ⟨w.heap.size+4,0,none⟩ (I6 ((p:Int)+1)))
  have k4:W1.heap[w.heap.size+4]?=some (.cells #[I6 ((p:Int)+1)] 3 (0,0)):=by rw[hW1];exact aE _ h4
  have k2:W1.heap[w.heap.size+1]?=some (.cells #[I6 0] 27 (0,0)):=by rw[hW1];exact cB _ _ h2 gi
  have k3:W1.heap[w.heap.size+3]?=some rulesObj:=by rw[hW1];exact cB _ _ h3 gi
  have kx:W1.heap[Bx]?=some (vObj cx):=by rw[hW1];exact cB _ _ hx gi
  have kb:BB w W1:=by rw[hW1];exact hb.setCell (p:=⟨w.heap.size+4,0,none⟩) gi _
  have ks:W1.heap.size=W.heap.size:=by rw[hW1];simp[World.setCell]
  have kkp:Kp w.heap.size wl.heap.size W W1:=by rw[hW1];exact aMq _ ga ga
  have kkf:KeepsFrom wl.heap.size W W1:=by rw[hW1];exact(KeepsOthers.setCell _ _ _).from _
  have c4:W.cell? ⟨w.heap.size+1+1+1+1,0,none⟩=some (I6 p):=aA h4 0;have f4:W.frozen? ⟨w.heap.size+1+1+1+1,0,none⟩=false:=aC h4 0
  -- how a round leaves with an error,and how it goes on
  have leave:∀(a:Act) (W2:World) (r:Int),BB W1 W2->cX (p+1) (lvl,dx)=r->r≠0 ->
   ownPostG wl.heap.size (Kp w.heap.size wl.heap.size) (fun pre W=>W.heap[w.heap.size+4]?=some (.cells #[I6 (pre.length:Nat)] 3 (0,0))/\W.heap[w.heap.size+1]?=some (.cells #[I6 0] 27 (0,0))/\W.heap[w.heap.size+3]?=some rulesObj/\BB w W/\eF 0 (pre.map Item.dat)=0/\wl.heap.size<=W.heap.size)
    (fun cd pre W=>cd=.ret/\eF 0 (pre.map Item.dat)≠0/\W.heap[w.heap.size+1]?=some (.cells #[I6 (eF 0 (pre.map Item.dat))] 27 (0,0))/\BB w W)
    (pre++[(⟨(lvl,cx,dx),hxv⟩:Item w.heap.size w)]) W .ret a (W2.setCell ⟨w.heap.size+1,0,none⟩ (I6 r)):=fun a W2 r h5 h6 h7=>by
   refine⟨⟨by have:=kkf.size;have:=h5.size;simp[World.setCell];omega,fun k o hk h0 ho=>cB _ _ (aB h5 (kkf.same k o hk h0 ho)) gi⟩,rfl,?_,?_,?_⟩
   ·rw[HR.out,h6];exact h7
   ·rw[HR.out,h6];exact aE _ (aB h5 k2)
   ·exact(kb.trans (h5.mono (by have:=kb.size;omega))).setCell (p:=⟨w.heap.size+1,0,none⟩) gi _
  have goon:∀(a:Act) (W2:World),BB W1 W2->cX (p+1) (lvl,dx)=0 ->
   ownPostG wl.heap.size (Kp w.heap.size wl.heap.size) (fun pre W=>W.heap[w.heap.size+4]?=some (.cells #[I6 (pre.length:Nat)] 3 (0,0))/\W.heap[w.heap.size+1]?=some (.cells #[I6 0] 27 (0,0))/\W.heap[w.heap.size+3]?=some rulesObj/\BB w W/\eF 0 (pre.map Item.dat)=0/\wl.heap.size<=W.heap.size)
    (fun cd pre W=>cd=.ret/\eF 0 (pre.map Item.dat)≠0/\W.heap[w.heap.size+1]?=some (.cells #[I6 (eF 0 (pre.map Item.dat))] 27 (0,0))/\BB w W)
    (pre++[(⟨(lvl,cx,dx),hxv⟩:Item w.heap.size w)]) W .normal a W2:=fun a W2 h5 h6=>by
   refine⟨⟨by have:=kkf.size;have:=h5.size;omega,fun k o hk h0 ho=>aB h5 (kkf.same k o hk h0 ho)⟩,kkp.trans (Kp.ext h5 (by have:=kb.size;omega)),?_,aB h5 k2,aB h5 k3,kb.trans (h5.mono (by have:=kb.size;omega)),?_,by have:=h5.size;omega⟩
   ·rw[aB h5 k4,List.length_append,List.length_cons,List.length_nil,<-HP.out]
    norm_cast
   ·rw[HR.out,h6]
  have LEAVE:=hid leave;have GOON:=hid goon;clear leave goon;have tf:∀W2,BB W1 W2->TF w.heap.size Bx cx W2:=fun W2 h5=>tfOf (aB h5 k2) (aB h5 k3) (aB h5 kx);obtain⟨g1,g2,g3,g4,g5,g6,g7,g8,_⟩:=tf W1 (Below.refl _ _);have TFF:=hid tf;have k4':W1.cell? ⟨w.heap.size+1+1+1+1,0,none⟩=some (I6 ((p:Int)+1)):=aA k4 0;have HW1:Hid (W.setCell ⟨w.heap.size+1+1+1+1,0,none⟩ (I6 ((p:Int)+1))=W1):=hid hW1.symm;have HX:=hid hxv;have HB1:=hid kb;have HT1:=hid (hT.below (kb:BB w W1));have hn1:w.heap.size<=W1.heap.size:=by omega
  clear tf hW1 k4 k2 k3 kx kkp kkf h4 h2 h3 hx;have CI:cX (p+1) (lvl,dx)=if 4096<p+1 then 9 else if 8<lvl then 23 else if eM cx.k cx.i cx.s cx.t cx.ll cx.fl=true then 19 else if cx.k<1\/10<cx.k then 11 else if tM cx.k cx.i cx.s cx.t cx.ll cx.fl=false then 3 else kK dx:=by
   rw[cX,gX HX.out,aLi HX.out,aDv HX.out]
  have HCI:=hid CI;clear CI;have hp4:(p:Int)<=4096:=by omega
  have HSZ:=hid hsz;clear hsz
  gi_upto_region 7 with (fail)
  rw[HW1.out];clear HW1 c4 f4;by_cases q1:(4096:Int)<(p:Int)+1
  ·gi_wp2
   exact LEAVE.out _ _ _ (Below.refl _ _) (by rw[HCI.out,if_pos ga]) gc
  by_cases q2:(8:Int)<lvl
  ·gi_wp2
   exact LEAVE.out _ _ _ (Below.refl _ _) (by rw[HCI.out,if_neg ga,if_pos q2]) gc
  clear g1 g2;cases q3:eM cx.k cx.i cx.s cx.t cx.ll cx.fl with
  | true =>
    gi_wp2_with ((try refine⟨trivial,?_⟩);(try refine⟨fun h=>gp,?_⟩);gi_at_call 67;refine(CallsIn.inRound l (callsIn_wide.2 (bN cx.k cx.i cx.s cx.t cx.la cx.ll cx.lc cx.fa cx.fl cx.fc W1))).mono ?_;rintro e w1 ⟨he,hb1⟩;rw[q3] at he;subst he;obtain⟨j1,j2,j3,j4,j5,j6,j7,j8,j9⟩:=TFF.out w1 hb1;clear TFF)
    exact LEAVE.out _ _ _ hb1 (by rw[HCI.out,if_neg ga,if_neg ga,q3,if_pos rfl]) gc
  | false =>
  by_cases q4:cx.k<1
  ·gi_wp2_with ((try refine⟨trivial,?_⟩);(try refine⟨fun h=>gp,?_⟩);gi_at_call 67;refine(CallsIn.inRound l (callsIn_wide.2 (bN cx.k cx.i cx.s cx.t cx.la cx.ll cx.lc cx.fa cx.fl cx.fc W1))).mono ?_;rintro e w1 ⟨he,hb1⟩;rw[q3] at he;subst he;obtain⟨j1,j2,j3,j4,j5,j6,j7,j8,j9⟩:=TFF.out w1 hb1;clear TFF)
   exact LEAVE.out _ _ _ hb1 (by rw[HCI.out,if_neg ga,if_neg ga,q3,if_neg gc,if_pos ga]) gc
  by_cases q4':10<cx.k
  ·gi_wp2_with ((try refine⟨trivial,?_⟩);(try refine⟨fun h=>gp,?_⟩);gi_at_call 67;refine(CallsIn.inRound l (callsIn_wide.2 (bN cx.k cx.i cx.s cx.t cx.la cx.ll cx.lc cx.fa cx.fl cx.fc W1))).mono ?_;rintro e w1 ⟨he,hb1⟩;rw[q3] at he;subst he;obtain⟨j1,j2,j3,j4,j5,j6,j7,j8,j9⟩:=TFF.out w1 hb1;clear TFF)
   exact LEAVE.out _ _ _ hb1 (by rw[HCI.out,if_neg ga,if_neg ga,q3,if_neg gc,if_pos ga]) gc
  have q45:1<=cx.k/\cx.k<=10:=by omega
  cases q5:tM cx.k cx.i cx.s cx.t cx.ll cx.fl with
  | false =>
    gi_wp2_with (first
     | ((try refine⟨trivial,?_⟩);(try refine⟨fun h=>gp,?_⟩);gi_at_call 67;refine(CallsIn.inRound l (callsIn_wide.2 (bN cx.k cx.i cx.s cx.t cx.la cx.ll cx.lc cx.fa cx.fl cx.fc W1))).mono ?_;rintro e w1 ⟨he,hb1⟩;rw[q3] at he;subst he;obtain⟨j1,j2,j3,j4,j5,j6,j7,j8,j9⟩:=TFF.out w1 hb1)
     | ((try refine⟨trivial,?_⟩);(try refine⟨fun h=>gp,?_⟩);gi_at_call 120;refine(CallsIn.inRound l (callsIn_wide.2 (yA cx.k cx.i cx.s cx.t cx.la cx.ll cx.lc cx.fa cx.fl cx.fc _ q45))).mono ?_;rintro e w2 ⟨he,hb2⟩;rw[q5] at he;subst he;have hb12:=hb1.trans (hb2.mono hb1.size);clear hb1 hb2 j1 j2 j3 j4 j5 j6 j7 j8 j9;obtain⟨j1,j2,j3,j4,j5,j6,j7,j8,j9⟩:=TFF.out w2 hb12;have j10:=j9 q45;clear j9))
    exact LEAVE.out _ _ _ hb12 (by rw[HCI.out,if_neg ga,if_neg ga,q3,if_neg gc,if_neg ga,q5,if_pos rfl]) gc
  | true =>
  gi_upto_region 17 with (first
   | ((try refine⟨trivial,?_⟩);(try refine⟨fun h=>gp,?_⟩);gi_at_call 67;refine(CallsIn.inRound l (callsIn_wide.2 (bN cx.k cx.i cx.s cx.t cx.la cx.ll cx.lc cx.fa cx.fl cx.fc W1))).mono ?_;rintro e w1 ⟨he,hb1⟩;rw[q3] at he;subst he;obtain⟨j1,j2,j3,j4,j5,j6,j7,j8,j9⟩:=TFF.out w1 hb1)
   | ((try refine⟨trivial,?_⟩);(try refine⟨fun h=>gp,?_⟩);gi_at_call 120;refine(CallsIn.inRound l (callsIn_wide.2 (yA cx.k cx.i cx.s cx.t cx.la cx.ll cx.lc cx.fa cx.fl cx.fc _ q45))).mono ?_;rintro e w2 ⟨he,hb2⟩;rw[q5] at he;subst he;have hb12:=hb1.trans (hb2.mono hb1.size);clear hb1 hb2 j1 j2 j3 j4 j5 j6 j7 j8 j9;obtain⟨j1,j2,j3,j4,j5,j6,j7,j8,j9⟩:=TFF.out w2 hb12;have j10:=j9 q45;clear j9))
  have hen:=aB7 cx.k;have hb12d:BB W1 w2.drew:=hb12.drew;by_cases q6:kK dx=0
  ·(gi_region_with ((try refine⟨trivial,?_⟩);(try refine⟨fun h=>gp,?_⟩);refine(CallsIn.inRound l (callsIn_wide.2 (yP w w.heap.size cx dx _ HX.out (HB1.out.trans (hb12d.mono hn1)) (Nat.le_trans hn1 hb12d.size) (HT1.out.below hb12d) q45))).mono ?_;rintro e w3 ⟨rfl,hb3⟩;have hb13:=hb12d.trans (hb3.mono hb12d.size);have tf3:=TFF.out w3 hb13;clear hb12d hb3;obtain⟨i1,i2,_,_,_,_,_,_,_⟩:=tf3)) <;>
   (have r2:cX (p+1) (lvl,dx)=0:=(by rw[HCI.out,if_neg ga,if_neg ga,q3,if_neg gc,if_neg ga,q5,if_neg gc,q6])
    have R2:=hid r2;clear r2
    gi_wp2
    exact GOON.out _ _ hb13 R2.out)
  ·(gi_region_with ((try refine⟨trivial,?_⟩);(try refine⟨fun h=>gp,?_⟩);refine(CallsIn.inRound l (callsIn_wide.2 (yP w w.heap.size cx dx _ HX.out (HB1.out.trans (hb12d.mono hn1)) (Nat.le_trans hn1 hb12d.size) (HT1.out.below hb12d) q45))).mono ?_;rintro e w3 ⟨rfl,hb3⟩;have hb13:=hb12d.trans (hb3.mono hb12d.size);have tf3:=TFF.out w3 hb13;clear hb12d hb3;obtain⟨i1,i2,_,_,_,_,_,_,_⟩:=tf3)) <;>
   (have r2:cX (p+1) (lvl,dx)=kK dx:=(by rw[HCI.out,if_neg ga,if_neg ga,q3,if_neg gc,if_neg ga,q5,if_neg gc])
    have R2:=hid r2;clear r2
    gi_wp2
    exact LEAVE.out _ _ _ hb13 R2.out q6)
 case done =>
  rintro D ys W hD hS ⟨h4,h2,h3,hb,hch,_⟩ hK;have c2:=aA h2 0;have z2:=aC h2 0
  (try dsimp only at c2)
  gi_wp2
  have hKo:(W.setCell ⟨w.heap.size+1,0,none⟩ (I6 0)).heap[D]?=some (.deferred (some [])):=cB _ _ hK gi;have hr:=aT (grownBy_putObj' (W.setCell ⟨w.heap.size+1,0,none⟩ (I6 0)) D (.deferred none)) (aE (o:=0) (I6 0) h2) (fun e=>by cases e;omega);refine⟨by simp,.inl ⟨_,_,rfl,run_takeDeferred hKo,?_⟩⟩;refine⟨I6 0,by simp[results,Tryz.results66,go_sem,aA hr],?_,?_⟩
  ·rw[aR,<-hS,hch]
  ·exact(hb.setCell (p:=⟨w.heap.size+1,0,none⟩) gi _).trans (belowK_b (w:=w) lr _ D _ _ ga hKo rfl rfl)
 case stop =>
  rintro D cd pre W hD hpf ⟨rfl,hne,h2,hb⟩ hK
  gi_wp2
  have hr:=aT (grownBy_putObj' W D (.deferred none)) h2 (fun e=>by cases e;omega);refine⟨by simp,.inl ⟨_,_,rfl,run_takeDeferred hK,?_⟩⟩;refine⟨I6 (eF 0 (List.map Item.dat pre)),by simp[results,Tryz.results66,go_sem,aA hr],?_,?_⟩
  ·rw[aR,aC9 hpf hne]
  ·exact hb.trans (belowK_b (w:=w) lr _ D _ _ ga hK rfl rfl)
end
section
open Go Go.RowKit Go.Shelf
def nO (d:Val):Int:=if cF d=true then 0 else if zK d≠9 then 18 else aR d
theorem iU (c:VC) (d:Val) (w:World) (hd:IsVal (· < w.heap.size) w c d) (hT:Tabs w) (w1:World) (hb:BB w w1):CP 66 #[c.v] w1 (Rt (I6 (aR d)) w1) :=
 iG c d w1 (hd.same fun b h=>⟨Nat.lt_of_lt_of_le h hb.size,hb.block b h⟩) (hT.below hb)
theorem aL8 (c:VC) (d:Val) (w:World) (hd:IsVal (· < w.heap.size) w c d) (hT:Tabs w):CP 142 #[c.v] w (Rt (I6 (nO d)) w):=by
 have HC:=hid (iU c d w hd hT);have e1:=gX hd;have e2:=aDv hd;have HE:=hid (show nO d=if eM c.k c.i c.s c.t c.ll c.fl=true then 0 else if c.k≠9 then 18 else aR d by rw[nO,e1,e2]);clear e1 e2 hd hT;obtain⟨k,i,s,t,la,ll,lc,fa,fl,fc⟩:=c;dsimp only at HE HC ⊢;obtain⟨w1,hw1⟩:=ez (w.alloc (.cells #[I6 k,I6 i,I6 s,.string t,.slice la ll lc,.slice fa fl fc] 36))
 have hb1:BB w w1:=by rw[hw1];exact(bR w).alloc lr _
 have hbox:w1.heap[w.heap.size]?=some (vObj ⟨k,i,s,t,la,ll,lc,fa,fl,fc⟩):=by rw[hw1];exact heap_alloc_new w _
 have six:∀w2,BB w1 w2->Six w2 w.heap.size ⟨k,i,s,t,la,ll,lc,fa,fl,fc⟩/\BB w w2:=fun w2 h=>⟨sixOf (aB h hbox),hb1.trans (h.mono hb1.size)⟩
 rw[hw1] at six;have SIX:=hid six;clear six hbox hb1 hw1;go_enter Tryz.func142,Tryz.ntmps142
 cases q1:eM k i s t ll fl with
 | true =>
   have HE1:=hid (show nO d=0 by rw[HE.out,q1,if_pos rfl]);go_wp2_with (go_at_call 67;refine(bN k i s t la ll lc fa fl fc _).mono ?_;rintro e w2 ⟨he,hb2⟩;rw[q1] at he;subst he;obtain⟨⟨j1,j2,j3,j4,j5,j6⟩,hb3⟩:=SIX.out _ hb2)
   go_ret;exact⟨by rw[HE1.out];rfl,hb3⟩
 | false =>
 by_cases q2:k=9
 ·have HE1:=hid (show nO d=aR d by rw[HE.out,q1,if_neg gc,if_neg (by simpa using q2)]);subst q2;go_wp2_with (first
   | (go_at_call 67;refine(bN 9 i s t la ll lc fa fl fc _).mono ?_;rintro e w2 ⟨he,hb2⟩;rw[q1] at he;subst he;obtain⟨⟨j1,j2,j3,j4,j5,j6⟩,hb3⟩:=SIX.out _ hb2)
   | (go_at_call 66;refine(HC.out _ hb3).mono ?_;rintro e w4 ⟨rfl,hb4⟩))
  go_ret;exact⟨by rw[HE1.out];rfl,hb3.trans (hb4.mono hb3.size)⟩
 ·have HE1:=hid (show nO d=18 by rw[HE.out,q1,if_neg gc,if_pos q2]);go_wp2_with (go_at_call 67;refine(bN k i s t la ll lc fa fl fc _).mono ?_;rintro e w2 ⟨he,hb2⟩;rw[q1] at he;subst he;obtain⟨⟨j1,j2,j3,j4,j5,j6⟩,hb3⟩:=SIX.out _ hb2)
  go_ret;exact⟨by rw[HE1.out];rfl,hb3⟩
end
section
open Go Go.RowKit Go.Shelf
def zH:Option Int->Int->Bool
 | none,_=>false
 | some y,x=>decide (x<=y)
def aN6:Option Int->List Int->Int
 | _,[]=>0
 | p,x :: r=>if kE x=false then 2 else if zH p x=true then 24 else aN6 (some x) r
theorem rS (p:Option Int) (x:Int) (r:List Int):aN6 p (x :: r)=if kE x=false then 2 else if zH p x=true then 24 else aN6 (some x) r:=by cases p<;>rfl
def gJ (es:List Int) (k:Nat):Int:=aN6 (if k=0 then none else some (es.getD (k-1) 0)) (es.drop k)
theorem aKk (es:List Int):gJ es es.length=0:=by rw[gJ,List.drop_length];split<;>rfl
theorem zX (es:List Int) (k:Nat) (h:k<es.length) (hb:kE es[k]=false):gJ es k=2:=by
 rw[gJ,List.drop_eq_getElem_cons h,rS,if_pos hb]
theorem vW (es:List Int) (k:Nat) (h:k<es.length) (hb:kE es[k]=true) (h0:0<k) (hl:es[k]<=es[k-1]):gJ es k=24:=by
 rw[gJ,List.drop_eq_getElem_cons h,rS,if_neg (by rw[hb];decide),if_neg (by omega:¬ k=0)];rw[if_pos (by simp[zH,List.getD_eq_getElem?_getD,show k-1<es.length by omega,hl])]
theorem vV (es:List Int) (k:Nat) (h:k<es.length) (hb:kE es[k]=true) (hl:k=0\/es[k-1]<es[k]):gJ es k=gJ es (k+1):=by
 have e:gJ es (k+1)=aN6 (some es[k]) (es.drop (k+1)):=by
  rw[gJ,if_neg ga];simp[List.getD_eq_getElem?_getD,h]
 rw[e,gJ,List.drop_eq_getElem_cons h,rS,if_neg (by rw[hb];decide),if_neg];rcases hl with rfl | hl
 ·simp[zH]
 ·by_cases hk:k=0
  ·subst hk;simp[zH]
  ·rw[if_neg hk];simp[zH,List.getD_eq_getElem?_getD,show k-1<es.length by omega];omega
def eY (d:Msg):Int:=if bI d.st≠0 then bI d.st else if nF d.m=true then 38 else if d.es=[] then 4 else if 4096<d.es.length then 9 else if gJ d.es 0≠0 then gJ d.es 0 else nO d.b
abbrev mObj (c:MC):Obj:=.cells #[I6 c.st.e,.slice c.st.a c.st.n c.st.c,I6 c.m,.slice c.a c.n c.c,I6 c.b.k,I6 c.b.i,I6 c.b.s,.string c.b.t,.slice c.b.la c.b.ll c.b.lc,.slice c.b.fa c.b.fl c.b.fc] 86
def Ten (W:World) (B:Nat) (c:MC):Prop:=Ce W B 0 (I6 c.st.e)/\Ce W B 1 (.slice c.st.a c.st.n c.st.c)/\Ce W B 2 (I6 c.m)/\Ce W B 3 (.slice c.a c.n c.c) /\
 Ce W B 4 (I6 c.b.k)/\Ce W B 5 (I6 c.b.i)/\Ce W B 6 (I6 c.b.s)/\Ce W B 7 (.string c.b.t)/\Ce W B 8 (.slice c.b.la c.b.ll c.b.lc)/\Ce W B 9 (.slice c.b.fa c.b.fl c.b.fc)
theorem tenOf {W:World} {B:Nat} {c:MC} (h:W.heap[B]?=some (mObj c)):Ten W B c :=
 ⟨aA h 0,aA h 1,aA h 2,aA h 3,aA h 4,aA h 5,aA h 6,aA h 7,aA h 8,aA h 9⟩
structure MsgAt (w w1:World) (c:MC) (d:Msg):Prop where
 ten:Ten w1 w.heap.size c
 bel:BB w w1
 st:CP 139 #[c.st.v] w1 (Rt (I6 (bI d.st)) w1)
 body:CP 142 #[c.b.v] w1 (Rt (I6 (nO d.b)) w1)
 body':IsVal (· < w1.heap.size) w1 c.b d.b/\Tabs w1
 es:IsInts (· < w1.heap.size) w1 c.a c.n c.c d.es
theorem msgAt (c:MC) (d:Msg) (w:World) (hd:IsMsg (· < w.heap.size) w c d) (hT:Tabs w) (w1:World) (hb:BB (w.alloc (mObj c)) w1):MsgAt w w1 c d:=by
 have hb0:BB w (w.alloc (mObj c)):=(bR w).alloc lr _;have hbw:BB w w1:=hb0.trans (hb.mono hb0.size);have hd1:IsMsg (· < w1.heap.size) w1 c d:=hd.same fun b h=>⟨Nat.lt_of_lt_of_le h hbw.size,hbw.block b h⟩
 exact⟨tenOf (aB hb (heap_alloc_new w _)),hbw,iW _ _ _ w1 w1 hd1.st (fun b h=>⟨h,rfl⟩),aL8 _ _ w1 hd1.b (hT.below hbw),⟨hd1.b,hT.below hbw⟩,hd1.es⟩
theorem fF (c:MC) (d:Msg) (w:World) (hd:IsMsg (· < w.heap.size) w c d) (hT:Tabs w):CP 75 #[c.v] w (Rt (I6 (eY d)) w):=by
 have HM:=hid (msgAt c d w hd hT);have hm:=hd.m;have HL:=hid hd.es.len;clear hd hT;obtain⟨⟨ce,sa,sn,sc⟩,m,a,n,cap,⟨k,i,s,t,la,ll,lc,fa,fl,fc⟩⟩:=c;dsimp only at hm HM HL ⊢;have HE:=hid (show eY d=if bI d.st≠0 then bI d.st else if nF m=true then 38 else if n=0 then 4 else if 4096<n then 9 else if gJ d.es 0≠0 then gJ d.es 0 else nO d.b by
  have e1:(d.es=[])=(n=0):=by rw[HL.out];simp
  rw[eY,hm,HL.out];simp)
 clear hm;obtain⟨u,hu⟩:=ez (bI d.st)
 rw[<-hu] at HE;have hm':∀w1,BB (w.alloc (mObj ⟨⟨ce,sa,sn,sc⟩,m,a,n,cap,⟨k,i,s,t,la,ll,lc,fa,fl,fc⟩⟩)) w1 ->
  MsgAt w w1 ⟨⟨ce,sa,sn,sc⟩,m,a,n,cap,⟨k,i,s,t,la,ll,lc,fa,fl,fc⟩⟩ d/\CP 139 #[SC.v ⟨ce,sa,sn,sc⟩] w1 (Rt (I6 u) w1):=fun w1 h=>⟨HM.out w1 h,by rw[hu];exact(HM.out w1 h).st⟩
 dsimp only[mObj,SC.v,VC.v] at hm';have h0:=hm' _ (Below.refl _ _);have HM':=hid hm';clear HM hu hm';obtain⟨h0,hst⟩:=h0;have h0t:=h0.ten;dsimp only[Ten] at h0t;obtain⟨e0,e1,e2,e3,e4,e5,e6,e7,e8,e9⟩:=h0t;clear h0;have HST:=hid hst;clear hst;dsimp only[MC.v,SC.v,VC.v];go_enter Tryz.func75,Tryz.ntmps75
 by_cases q1:u=0
 ·subst q1;cases q2:nF m with
  | true =>
    have r:=hid (show eY d=38 by rw[HE.out,if_neg gc,q2,if_pos rfl]);go_wp2_with (first
     | (go_at_call 139;refine HST.out.mono ?_;rintro e w2 ⟨rfl,hb2⟩;obtain⟨⟨⟨j0,j1,j2,j3,j4,j5,j6,j7,j8,j9⟩,hbw,_,hbody,_,hes⟩,_⟩:=HM'.out _ hb2;have HB:=hid hbody;clear hbody;have HX:=hid hes;clear hes e0 e1 e2 e3 e4 e5 e6 e7 e8 e9)
     | (go_at_call 140;refine(mE m _).mono ?_;rintro e w3 ⟨he,rfl⟩;rw[q2] at he;subst he))
    go_ret;exact⟨by rw[r.out];rfl,hbw⟩
  | false =>
  by_cases q3:n=0
  ·have r:=hid (show eY d=4 by rw[HE.out,if_neg gc,q2,if_neg gc,if_pos q3]);subst q3;go_wp2_with (first
    | (go_at_call 139;refine HST.out.mono ?_;rintro e w2 ⟨rfl,hb2⟩;obtain⟨⟨⟨j0,j1,j2,j3,j4,j5,j6,j7,j8,j9⟩,hbw,_,hbody,_,hes⟩,_⟩:=HM'.out _ hb2;have HB:=hid hbody;clear hbody;have HX:=hid hes;clear hes e0 e1 e2 e3 e4 e5 e6 e7 e8 e9)
    | (go_at_call 140;refine(mE m _).mono ?_;rintro e w3 ⟨he,rfl⟩;rw[q2] at he;subst he))
   go_ret;exact⟨by rw[r.out];rfl,hbw⟩
  have q3':(0:Int)<(n:Int):=by omega
  by_cases q4:4096<n
  ·have r:=hid (show eY d=9 by rw[HE.out,if_neg gc,q2,if_neg gc,if_neg q3,if_pos q4]);have q4':(4096:Int)<(n:Int):=by omega
   go_wp2_with (first
    | (go_at_call 139;refine HST.out.mono ?_;rintro e w2 ⟨rfl,hb2⟩;obtain⟨⟨⟨j0,j1,j2,j3,j4,j5,j6,j7,j8,j9⟩,hbw,_,hbody,_,hes⟩,_⟩:=HM'.out _ hb2;have HB:=hid hbody;clear hbody;have HX:=hid hes;clear hes e0 e1 e2 e3 e4 e5 e6 e7 e8 e9)
    | (go_at_call 140;refine(mE m _).mono ?_;rintro e w3 ⟨he,rfl⟩;rw[q2] at he;subst he))
   go_ret;exact⟨by rw[r.out];rfl,hbw⟩
  have q4':(n:Int)<=4096:=by omega
  have q5':((n:Int)==0)=false:=by simp;omega
  have q6':decide ((4096:Int)<(n:Int))=false:=by simp;omega
  have R:=hid (show eY d=if gJ d.es 0≠0 then gJ d.es 0 else nO d.b by rw[HE.out,if_neg gc,q2,if_neg gc,if_neg q3,if_neg q4]);go_wp2_with (first
   | (go_at_call 139;refine HST.out.mono ?_;rintro e w2 ⟨rfl,hb2⟩;obtain⟨⟨⟨j0,j1,j2,j3,j4,j5,j6,j7,j8,j9⟩,hbw,_,hbody,_,hes⟩,_⟩:=HM'.out _ hb2;have HB:=hid hbody;clear hbody;have HX:=hid hes;clear hes e0 e1 e2 e3 e4 e5 e6 e7 e8 e9)
   | (go_at_call 140;refine(mE m _).mono ?_;rintro e w3 ⟨he,rfl⟩;rw[q2] at he;subst he))
  go_loop [29] (fun i=>∃q:Nat,q<=n/\i=I6 q/\gJ d.es 0=gJ d.es q) (fun i=>n-(intOf i).toNat)
  case atStart=>exact⟨0,Nat.zero_le _,rfl,rfl⟩
  case round =>
   obtain⟨q,hq,rfl,hent⟩:=hrel;have HN:=hid hent;clear hent;by_cases hlt:q<n
   ·have hql:q<d.es.length:=by have:=HL.out;omega
    obtain⟨b,o,rfl,hb,hc⟩:=HX.out.slot ga;have hc0:=hc q hql;obtain⟨z,hz⟩:=ez (d.es[q])
    rw[<-hz] at hc0;have HZ:=hid hz;clear hz;have hlt':(q:Int)<(n:Int):=by omega
    have hq0:(0:Int)<=(q:Int):=by omega
    cases hz1:kE z with
    | false =>
      clear hc;have r:=hid (show eY d=2 by rw[R.out,HN.out,zX _ q hql (by rw[<-HZ.out];exact hz1),if_pos gc]);go_wp2_with (go_at_call 141;refine(mG z _).mono ?_;rintro e w3 ⟨he,rfl⟩;rw[hz1] at he;subst he)
      go_ret;exact⟨by rw[r.out];rfl,hbw⟩
    | true =>
      by_cases hk0:q=0
      ·have hk0':¬ (0:Int)<(q:Int):=by omega
       clear hc;have r:=hid (vV d.es q hql (by rw[<-HZ.out];exact hz1) (.inl hk0));have HK:=hid hk0;clear hk0;go_wp2_with (go_at_call 141;refine(mG z _).mono ?_;rintro e w3 ⟨he,rfl⟩;rw[hz1] at he;subst he)
       go_round
       case rel=>exact⟨q+1,by omega,by go_num,HN.out.trans r.out⟩
       case measure=>simp[intOf];omega
      ·have hc1:=hc (q-1) ga;clear hc;obtain⟨y,hy⟩:=ez (d.es[q-1])
       rw[<-hy] at hc1;have HY:=hid hy;clear hy;have hk0':(0:Int)<(q:Int):=by omega
       have hk1':(0:Int)<=(q:Int)-1:=by omega
       have hk2':(q:Int)-1<(n:Int):=by omega
       have hc2:w2.cell? ⟨b,o+((q:Int)-1).toNat,none⟩=some (I6 y):=by rw[show((q:Int)-1).toNat=q-1 by omega];exact hc1
       have hwr:IntKind.i64.wrap ((q:Int)-1)=(q:Int)-1:=IntWalk.i64_in _ ga;have HK:=hid hk0;clear hk0;by_cases hle:z<=y
       ·have r:=hid (show eY d=24 by rw[R.out,HN.out,vW _ q hql (by rw[<-HZ.out];exact hz1) (by have:=HK.out;omega) (by rw[<-HZ.out,<-HY.out];exact hle),if_pos gc]);go_wp2_with (go_at_call 141;refine(mG z _).mono ?_;rintro e w3 ⟨he,rfl⟩;rw[hz1] at he;subst he)
        go_ret;exact⟨by rw[r.out];rfl,hbw⟩
       ·have r:=hid (vV d.es q hql (by rw[<-HZ.out];exact hz1) (.inr (by rw[<-HZ.out,<-HY.out];omega)));go_wp2_with (go_at_call 141;refine(mG z _).mono ?_;rintro e w3 ⟨he,rfl⟩;rw[hz1] at he;subst he)
        go_round
        case rel=>exact⟨q+1,by omega,by go_num,HN.out.trans r.out⟩
        case measure=>simp[intOf];omega
   ·obtain rfl:q=n:=by omega
    have r:=hid (show eY d=nO d.b by rw[R.out,HN.out,show q=d.es.length from HL.out,aKk,if_neg gc]);go_wp2_with (go_at_call 142;refine HB.out.mono ?_;rintro e w4 ⟨rfl,hb4⟩)
    go_ret;exact⟨by rw[r.out];rfl,hbw.trans (hb4.mono hbw.size)⟩
 ·have q1':=hid (show eY d=u by rw[HE.out,if_pos q1]);go_wp2_with (go_at_call 139;refine HST.out.mono ?_;rintro e w2 ⟨rfl,hb2⟩;have hbw:=(HM'.out _ hb2).1.bel)
  go_ret;exact⟨by rw[q1'.out];rfl,hbw⟩
end
end Go.Proofs.YtmgpghoamapfgaaGreatDoor
