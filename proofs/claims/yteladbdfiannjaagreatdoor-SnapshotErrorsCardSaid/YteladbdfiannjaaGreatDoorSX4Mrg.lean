/- A part. -/
import Derived.Test.YteladbdfiannjaaGreatDoorSX3Mrg
import Derived.Sort.CutIn
namespace Go.Proofs.YteladbdfiannjaaGreatDoor
set_option linter.unusedVariables false
set_option maxRecDepth 100000
set_option maxHeartbeats 64000000
set_option linter.unusedSimpArgs false
section
open Go Go.RowKit Go.Shelf
attribute [local go_sem] Oper.semAt_some
theorem gD {S:Nat→Prop} {w:World} {c:VC} {d:Val} (h:IsVal S w c d):dM d=dC c.k c.i c.s c.t c.ll c.fl:=by
 obtain⟨k,i,s,t,l,ns,fs⟩:=d
 obtain⟨⟨rfl,rfl,rfl,rfl,_,h1,h2,_⟩,_⟩:=h
 rw[dM,h1,h2]
theorem aBo {S:Nat→Prop} {w:World} {c:VC} {d:Val} (h:IsVal S w c d):aBp d=pU c.k c.i c.s c.t c.ll c.fl:=by
 obtain⟨k,i,s,t,l,ns,fs⟩:=d
 obtain⟨⟨rfl,rfl,rfl,rfl,_,h1,h2,_⟩,_⟩:=h
 rw[aBp,h1,h2]
theorem uG {S:Nat→Prop} {w:World} {c:VC} {d:Val} (h:IsVal S w c d):qI d=c.k:=by
 obtain⟨k,i,s,t,l,ns,fs⟩:=d
 obtain⟨⟨rfl,_⟩,_⟩:=h
 rfl
def TF (B Bx:Nat) (c:VC) (w':World):Prop:=w'.cell? ⟨B+1,0,none⟩=some (.int .i64 0)∧w'.frozen? ⟨B+1,0,none⟩=false∧w'.cell? ⟨Bx,0,none⟩=some (.int .i64 c.k)∧w'.cell? ⟨Bx,1,none⟩=some (.int .i64 c.i)∧w'.cell? ⟨Bx,2,none⟩=some (.int .i64 c.s) ∧
 w'.cell? ⟨Bx,3,none⟩=some (.string c.t)∧w'.cell? ⟨Bx,4,none⟩=some (.slice c.la c.ll c.lc)∧w'.cell? ⟨Bx,5,none⟩=some (.slice c.fa c.fl c.fc)∧(1≤c.k∧c.k≤10→w'.cell? ⟨B+1+1+1,c.k.toNat,none⟩=some (.func (.func (qB c.k)) #[] #[]))
theorem tfOf {B Bx:Nat} {c:VC} {w':World} (h2:w'.heap[B+1]?=some (.cells #[.int .i64 0] 33 (0,0))) (h3:w'.heap[B+3]?=some rulesObj) (hx:w'.heap[Bx]?=some (vObj c)):TF B Bx c w' :=
 ⟨aA h2 0,aE h2 0,aA hx 0,aA hx 1,aA hx 2,aA hx 3,aA hx 4,aA hx 5,fun hk=>wV h3 c.k hk⟩
def aBm (w:World) (d:Val) (e:Ending) (w':World):Prop:=e=.returned (.int .i64 (bP d))∧Below w.heap.size w w'
theorem aCt {n₀ n₁:Nat} {W:World} {B o:Nat} (v:Value) (h0:n₀≤B) (h1:B<n₁):Kp n₀ n₁ W (W.setCell ⟨B,o,none⟩ v) :=
 ⟨(Below.refl _ W).setCell (p:=⟨B,o,none⟩) h0 _,fun b ob hb ho hc=>aJ _ _ ho (by dsimp only;omega)⟩
theorem gH (c:VC) (d:Val) (w:World) (hd:IsVal (· < w.heap.size) w c d) (hT:Tabs w):Calls Tryz.prog 104 #[c.v] w (aBm w d):=by
 refine(callsIn_wide (n:=3)).1 ?_
 refine callsIn_of_wp_marks Tryz.func104 rfl trivial ?_ rfl
 simp only[Tryz.ntmps104,List.size_toArray,List.length_cons,List.length_nil,Nat.reduceAdd,Nat.reduceSub,Array.replicate_succ,Array.replicate_zero,List.push_toArray,List.append_toArray,List.nil_append,List.cons_append]
 gi_wp2_with (first
  | ((try refine⟨trivial,?_⟩);(try refine⟨fun h=>(by cases h),?_⟩);gi_at_call 165;refine(callsIn_wide.2 (wW _)).mono ?_;rintro e w' ⟨rfl,rfl⟩)
  | ((try refine⟨trivial,?_⟩);(try refine⟨fun h=>(by cases h),?_⟩);gi_at_call 166;refine(callsIn_wide.2 (pC c _)).mono ?_;rintro e w' ⟨rfl,rfl⟩))
 obtain⟨wl,hwl⟩:∃wl,wl=(((((w.alloc (vObj c)).alloc (.cells #[.int .i64 0] 33)).alloc rulesObj).alloc rulesObj).alloc (.cells #[.int .i64 0] 3)).alloc (vObj c):=⟨_,rfl⟩
 have hb2:wl.heap[w.heap.size+1]?=some (.cells #[.int .i64 0] 33 (0,0)):=by rw[hwl];exact aC _ (aC _ (aC _ (aC _ (aM _ _ _ (by simp)))))
 have hb3:wl.heap[w.heap.size+3]?=some rulesObj:=by rw[hwl];exact aC _ (aC _ (aM _ _ _ (by simp)))
 have hb4:wl.heap[w.heap.size+4]?=some (.cells #[.int .i64 0] 3 (0,0)):=by rw[hwl];exact aC _ (aM _ _ _ (by simp))
 have hb5:wl.heap[w.heap.size+5]?=some (vObj c):=by rw[hwl];exact aM _ _ _ (by simp)
 have hsz:wl.heap.size=w.heap.size+6:=by rw[hwl];simp
 have hbel:Below w.heap.size w wl:=by rw[hwl];exact(((((((bR w).alloc lr _).alloc (by simp) _).alloc (by simp;omega) _).alloc (by simp;omega) _).alloc (by simp;omega) _).alloc (by simp;omega) _)
 rw[←hwl]
 clear hwl
 refine wpIn_rangeFunc_ownH rfl (by omega) (gf:=231) (lb:=#[.pointer (some ⟨w.heap.size+5,0,none⟩)]) rfl trivial (enters_of Tryz.func231 (by kernel_rfl) rfl)
  (nF (3-1) w.heap.size (w.heap.size+5) w wl c d lr hbel (by omega) hd hb5 wl.heap.size lr (by omega)) (fun h k=>h.trans k) (kp_b (by omega)) (Below.refl _ _) (fun _=>rfl)
  (fun pre W=>W.heap[w.heap.size+4]?=some (.cells #[.int .i64 (pre.length:Nat)] 3 (0,0))∧W.heap[w.heap.size+1]?=some (.cells #[.int .i64 0] 33 (0,0))∧W.heap[w.heap.size+3]?=some rulesObj∧Below w.heap.size w W∧cZ 0 (pre.map Item.dat)=0∧wl.heap.size≤W.heap.size)
  (fun cd pre W=>cd=.ret∧cZ 0 (pre.map Item.dat)≠0∧W.heap[w.heap.size+1]?=some (.cells #[.int .i64 (cZ 0 (pre.map Item.dat))] 33 (0,0))∧Below w.heap.size w W)
  (fun s A B row hs hg hr=>⟨aY hg hs.1 (fun e=>by have:=(hr _ e.symm).1;omega),aY hg hs.2.1 (fun e=>by have:=(hr _ e.symm).1;omega),aY hg hs.2.2.1 (fun e=>by have:=(hr _ e.symm).1;omega),hs.2.2.2.1.grown hg (by have:=hs.2.2.2.1.size;omega) (fun k e=>by have:=(hr _ e).1;omega),hs.2.2.2.2.1,by have:=hg.size;have:=hs.2.2.2.2.2;omega⟩)
  (fun cd s A B row hs hg hr=>⟨hs.1,hs.2.1,aY hg hs.2.2.1 (fun e=>by have:=(hr _ e.symm).1;omega),hs.2.2.2.grown hg (by have:=hs.2.2.2.size;omega) (fun k e=>by have:=(hr _ e).1;omega)⟩)
  ⟨hb4,hb2,hb3,hbel,rfl,Nat.le_refl _⟩
  (fun x a' W=>∃Bx,wl.heap.size≤Bx∧W.heap[Bx]?=some (vObj x.1.2.1)∧a'={ tmps:=#[c.v,.pointer (some ⟨w.heap.size,0,none⟩),.pointer (some ⟨w.heap.size+1,0,none⟩),.pointer (some ⟨w.heap.size+1+1+1,0,none⟩),.pointer (some ⟨w.heap.size+1+1+1+1,0,none⟩),.int .i64 x.1.1,.pointer (some ⟨Bx,0,none⟩),undef,
    .agg #[.nilFunc,.func (.func 217) #[] #[],.func (.func 219) #[] #[],.func (.func 220) #[] #[],.func (.func 222) #[] #[],.func (.func 224) #[] #[],.func (.func 225) #[] #[],.func (.func 226) #[] #[],.func (.func 227) #[] #[],.func (.func 228) #[] #[],.func (.func 230) #[] #[]],
    c.v,.func (.func 231) #[] #[.pointer (some ⟨w.heap.size+1+1+1+1+1,0,none⟩)],.int .i64 x.1.1,x.1.2.1.v,undef,undef,undef,undef,undef,undef,undef,undef,undef,undef,undef,undef,undef,undef,undef,undef,undef,undef,undef,undef,undef,undef,undef,undef,undef,undef,undef,undef,undef,undef,undef,undef,undef],defers:=[] })
  (fun x a' s A B row hs hg hr=>by
    obtain⟨Bx,h1,h2,h3⟩:=hs
    exact⟨Bx,h1,aY hg h2 (fun e=>by obtain⟨_,o,ho,hc⟩:=hr _ e.symm;rw[h2] at ho;cases ho;cases hc),h3⟩) ?assign ?body ?done ?stop
 case assign =>
  intro l pre x W K hi hK
  simp only[Item.encs]
  gi_wp2
  exact hK _ _ ((KeepsOthers.alloc _ _).from _) (Kp.ext ((Below.refl _ W).alloc lr _) (by have:=hi.2.2.2.2.2;omega)) ⟨aC _ hi.1,aC _ hi.2.1,aC _ hi.2.2.1,hi.2.2.2.1.alloc hi.2.2.2.1.size _,hi.2.2.2.2.1,by have:=hi.2.2.2.2.2;simp;omega⟩ ⟨W.heap.size,hi.2.2.2.2.2,heap_alloc_new W _,by first | (simp[Item.encs];done) | kernel_rfl⟩
 case body =>
  rintro l pre x a' W hl ⟨_,hloop⟩ ⟨h4,h2,h3,hb,hch,hszW⟩ ⟨Bx,hBx,hx,rfl⟩ hlt
  clear hlt hloop hl
  obtain⟨⟨lvl,cx,dx⟩,hxv⟩:=x
  dsimp only at hxv hx ⊢
  have hlen:=qS _ hch
  rw[List.length_map] at hlen
  have HR:=hid (show cZ 0 (List.map Item.dat (pre++[(⟨(lvl,cx,dx),hxv⟩:Item w.heap.size w)]))=cT (pre.length+1) (lvl,dx) by
   rw[List.map_append,List.map_cons,List.map_nil,yM _ _ hch,List.length_map];rfl)
  obtain⟨p,hp⟩:∃p,p=pre.length:=⟨_,rfl⟩
  rw[←hp] at h4 hlen HR
  have HP:=hid hp;clear hp hch
  -- the world behind the counter's step
  obtain⟨W1,hW1⟩:∃W1,W1=W.setCell ⟨w.heap.size+4,0,none⟩ (.int .i64 ((p:Int)+1)):=⟨_,rfl⟩
  have k4:W1.heap[w.heap.size+4]?=some (.cells #[.int .i64 ((p:Int)+1)] 3 (0,0)):=by rw[hW1];exact aD _ h4
  have k2:W1.heap[w.heap.size+1]?=some (.cells #[.int .i64 0] 33 (0,0)):=by rw[hW1];exact aJ _ _ h2 (by dsimp only;omega)
  have k3:W1.heap[w.heap.size+3]?=some rulesObj:=by rw[hW1];exact aJ _ _ h3 (by dsimp only;omega)
  have kx:W1.heap[Bx]?=some (vObj cx):=by rw[hW1];exact aJ _ _ hx (by dsimp only;omega)
  have kb:Below w.heap.size w W1:=by rw[hW1];exact hb.setCell (p:=⟨w.heap.size+4,0,none⟩) (by dsimp only;omega) _
  have ks:W1.heap.size=W.heap.size:=by rw[hW1];simp[World.setCell]
  have kkp:Kp w.heap.size wl.heap.size W W1:=by rw[hW1];exact aCt _ (by omega) (by omega)
  have kkf:KeepsFrom wl.heap.size W W1:=by rw[hW1];exact(KeepsOthers.setCell _ _ _).from _
  have c4:W.cell? ⟨w.heap.size+1+1+1+1,0,none⟩=some (.int .i64 p):=aA h4 0
  have f4:W.frozen? ⟨w.heap.size+1+1+1+1,0,none⟩=false:=aE h4 0
  -- how a round leaves with an error,and how it goes on
  have leave:∀(a:Act) (W2:World) (r:Int),Below W1.heap.size W1 W2→cT (p+1) (lvl,dx)=r→r≠0 →
   ownPostG wl.heap.size (Kp w.heap.size wl.heap.size) (fun pre W=>W.heap[w.heap.size+4]?=some (.cells #[.int .i64 (pre.length:Nat)] 3 (0,0))∧W.heap[w.heap.size+1]?=some (.cells #[.int .i64 0] 33 (0,0))∧W.heap[w.heap.size+3]?=some rulesObj∧Below w.heap.size w W∧cZ 0 (pre.map Item.dat)=0∧wl.heap.size≤W.heap.size)
    (fun cd pre W=>cd=.ret∧cZ 0 (pre.map Item.dat)≠0∧W.heap[w.heap.size+1]?=some (.cells #[.int .i64 (cZ 0 (pre.map Item.dat))] 33 (0,0))∧Below w.heap.size w W)
    (pre++[(⟨(lvl,cx,dx),hxv⟩:Item w.heap.size w)]) W .ret a (W2.setCell ⟨w.heap.size+1,0,none⟩ (.int .i64 r)):=fun a W2 r h5 h6 h7=>by
   refine⟨⟨by have:=kkf.size;have:=h5.size;simp[World.setCell];omega,fun k o hk h0 ho=>aJ _ _ (aB h5 (kkf.same k o hk h0 ho)) (by dsimp only;omega)⟩,rfl,?_,?_,?_⟩
   ·rw[HR.out,h6];exact h7
   ·rw[HR.out,h6];exact aD _ (aB h5 k2)
   ·exact(kb.trans (h5.mono (by have:=kb.size;omega))).setCell (p:=⟨w.heap.size+1,0,none⟩) (by dsimp only;omega) _
  have goon:∀(a:Act) (W2:World),Below W1.heap.size W1 W2→cT (p+1) (lvl,dx)=0 →
   ownPostG wl.heap.size (Kp w.heap.size wl.heap.size) (fun pre W=>W.heap[w.heap.size+4]?=some (.cells #[.int .i64 (pre.length:Nat)] 3 (0,0))∧W.heap[w.heap.size+1]?=some (.cells #[.int .i64 0] 33 (0,0))∧W.heap[w.heap.size+3]?=some rulesObj∧Below w.heap.size w W∧cZ 0 (pre.map Item.dat)=0∧wl.heap.size≤W.heap.size)
    (fun cd pre W=>cd=.ret∧cZ 0 (pre.map Item.dat)≠0∧W.heap[w.heap.size+1]?=some (.cells #[.int .i64 (cZ 0 (pre.map Item.dat))] 33 (0,0))∧Below w.heap.size w W)
    (pre++[(⟨(lvl,cx,dx),hxv⟩:Item w.heap.size w)]) W .normal a W2:=fun a W2 h5 h6=>by
   refine⟨⟨by have:=kkf.size;have:=h5.size;omega,fun k o hk h0 ho=>aB h5 (kkf.same k o hk h0 ho)⟩,kkp.trans (Kp.ext h5 (by have:=kb.size;omega)),?_,aB h5 k2,aB h5 k3,kb.trans (h5.mono (by have:=kb.size;omega)),?_,by have:=h5.size;omega⟩
   ·rw[aB h5 k4,List.length_append,List.length_cons,List.length_nil,←HP.out]
    norm_cast
   ·rw[HR.out,h6]
  have LEAVE:=hid leave
  have GOON:=hid goon
  clear leave goon
  have tf:∀W2,Below W1.heap.size W1 W2→TF w.heap.size Bx cx W2:=fun W2 h5=>tfOf (aB h5 k2) (aB h5 k3) (aB h5 kx)
  obtain⟨g1,g2,g3,g4,g5,g6,g7,g8,_⟩:=tf W1 (Below.refl _ _)
  have TFF:=hid tf
  have k4':W1.cell? ⟨w.heap.size+1+1+1+1,0,none⟩=some (.int .i64 ((p:Int)+1)):=aA k4 0
  have HW1:Hid (W.setCell ⟨w.heap.size+1+1+1+1,0,none⟩ (.int .i64 ((p:Int)+1))=W1):=hid hW1.symm
  have HX:=hid hxv
  have HB1:=hid kb
  have HT1:=hid (hT.below (kb:Below w.heap.size w W1))
  have hn1:w.heap.size≤W1.heap.size:=by omega
  clear tf hW1 k4 k2 k3 kx kkp kkf h4 h2 h3 hx
  have CI:cT (p+1) (lvl,dx)=if 4096<p+1 then 9 else if 8<lvl then 23 else if dC cx.k cx.i cx.s cx.t cx.ll cx.fl=true then 19 else if cx.k<1∨10<cx.k then 11 else if pU cx.k cx.i cx.s cx.t cx.ll cx.fl=false then 3 else kX dx:=by
   rw[cT,gD HX.out,aBo HX.out,uG HX.out]
  have HCI:=hid CI
  clear CI
  have hp4:(p:Int)≤4096:=by omega
  have HSZ:=hid hsz
  clear hsz
  gi_upto_region 7 with (fail)
  rw[HW1.out]
  clear HW1 c4 f4
  by_cases q1:(4096:Int)<(p:Int)+1
  ·gi_wp2
   exact LEAVE.out _ _ _ (Below.refl _ _) (by rw[HCI.out,if_pos (by omega)]) (by decide)
  by_cases q2:(8:Int)<lvl
  ·gi_wp2
   exact LEAVE.out _ _ _ (Below.refl _ _) (by rw[HCI.out,if_neg (by omega),if_pos q2]) (by decide)
  clear g1 g2
  cases q3:dC cx.k cx.i cx.s cx.t cx.ll cx.fl with
  | true =>
    gi_wp2_with ((try refine⟨trivial,?_⟩);(try refine⟨fun h=>(by cases h),?_⟩);gi_at_call 105;refine(CallsIn.inRound l (callsIn_wide.2 (bM cx.k cx.i cx.s cx.t cx.la cx.ll cx.lc cx.fa cx.fl cx.fc W1))).mono ?_;rintro e w1 ⟨he,hb1⟩;rw[q3] at he;subst he;obtain⟨j1,j2,j3,j4,j5,j6,j7,j8,j9⟩:=TFF.out w1 hb1;clear TFF)
    exact LEAVE.out _ _ _ hb1 (by rw[HCI.out,if_neg (by omega),if_neg (by omega),q3,if_pos rfl]) (by decide)
  | false =>
  by_cases q4:cx.k<1
  ·gi_wp2_with ((try refine⟨trivial,?_⟩);(try refine⟨fun h=>(by cases h),?_⟩);gi_at_call 105;refine(CallsIn.inRound l (callsIn_wide.2 (bM cx.k cx.i cx.s cx.t cx.la cx.ll cx.lc cx.fa cx.fl cx.fc W1))).mono ?_;rintro e w1 ⟨he,hb1⟩;rw[q3] at he;subst he;obtain⟨j1,j2,j3,j4,j5,j6,j7,j8,j9⟩:=TFF.out w1 hb1;clear TFF)
   exact LEAVE.out _ _ _ hb1 (by rw[HCI.out,if_neg (by omega),if_neg (by omega),q3,if_neg (by decide),if_pos (by omega)]) (by decide)
  by_cases q4':10<cx.k
  ·gi_wp2_with ((try refine⟨trivial,?_⟩);(try refine⟨fun h=>(by cases h),?_⟩);gi_at_call 105;refine(CallsIn.inRound l (callsIn_wide.2 (bM cx.k cx.i cx.s cx.t cx.la cx.ll cx.lc cx.fa cx.fl cx.fc W1))).mono ?_;rintro e w1 ⟨he,hb1⟩;rw[q3] at he;subst he;obtain⟨j1,j2,j3,j4,j5,j6,j7,j8,j9⟩:=TFF.out w1 hb1;clear TFF)
   exact LEAVE.out _ _ _ hb1 (by rw[HCI.out,if_neg (by omega),if_neg (by omega),q3,if_neg (by decide),if_pos (by omega)]) (by decide)
  have q45:1≤cx.k∧cx.k≤10:=by omega
  cases q5:pU cx.k cx.i cx.s cx.t cx.ll cx.fl with
  | false =>
    gi_wp2_with (first
     | ((try refine⟨trivial,?_⟩);(try refine⟨fun h=>(by cases h),?_⟩);gi_at_call 105;refine(CallsIn.inRound l (callsIn_wide.2 (bM cx.k cx.i cx.s cx.t cx.la cx.ll cx.lc cx.fa cx.fl cx.fc W1))).mono ?_;rintro e w1 ⟨he,hb1⟩;rw[q3] at he;subst he;obtain⟨j1,j2,j3,j4,j5,j6,j7,j8,j9⟩:=TFF.out w1 hb1)
     | ((try refine⟨trivial,?_⟩);(try refine⟨fun h=>(by cases h),?_⟩);gi_at_call 167;refine(CallsIn.inRound l (callsIn_wide.2 (pT cx.k cx.i cx.s cx.t cx.la cx.ll cx.lc cx.fa cx.fl cx.fc _ q45))).mono ?_;rintro e w2 ⟨he,hb2⟩;rw[q5] at he;subst he;have hb12:=hb1.trans (hb2.mono hb1.size);clear hb1 hb2 j1 j2 j3 j4 j5 j6 j7 j8 j9;obtain⟨j1,j2,j3,j4,j5,j6,j7,j8,j9⟩:=TFF.out w2 hb12;have j10:=j9 q45;clear j9))
    exact LEAVE.out _ _ _ hb12 (by rw[HCI.out,if_neg (by omega),if_neg (by omega),q3,if_neg (by decide),if_neg (by omega),q5,if_pos rfl]) (by decide)
  | true =>
  gi_upto_region 17 with (first
   | ((try refine⟨trivial,?_⟩);(try refine⟨fun h=>(by cases h),?_⟩);gi_at_call 105;refine(CallsIn.inRound l (callsIn_wide.2 (bM cx.k cx.i cx.s cx.t cx.la cx.ll cx.lc cx.fa cx.fl cx.fc W1))).mono ?_;rintro e w1 ⟨he,hb1⟩;rw[q3] at he;subst he;obtain⟨j1,j2,j3,j4,j5,j6,j7,j8,j9⟩:=TFF.out w1 hb1)
   | ((try refine⟨trivial,?_⟩);(try refine⟨fun h=>(by cases h),?_⟩);gi_at_call 167;refine(CallsIn.inRound l (callsIn_wide.2 (pT cx.k cx.i cx.s cx.t cx.la cx.ll cx.lc cx.fa cx.fl cx.fc _ q45))).mono ?_;rintro e w2 ⟨he,hb2⟩;rw[q5] at he;subst he;have hb12:=hb1.trans (hb2.mono hb1.size);clear hb1 hb2 j1 j2 j3 j4 j5 j6 j7 j8 j9;obtain⟨j1,j2,j3,j4,j5,j6,j7,j8,j9⟩:=TFF.out w2 hb12;have j10:=j9 q45;clear j9))
  have hen:=rM cx.k
  have hb12d:Below W1.heap.size W1 w2.drew:=hb12.drew
  by_cases q6:kX dx=0
  ·(gi_region_with ((try refine⟨trivial,?_⟩);(try refine⟨fun h=>(by cases h),?_⟩);refine(CallsIn.inRound l (callsIn_wide.2 (qA w w.heap.size cx dx _ HX.out (HB1.out.trans (hb12d.mono hn1)) (Nat.le_trans hn1 hb12d.size) (HT1.out.below hb12d) q45))).mono ?_;rintro e w3 ⟨rfl,hb3⟩;have hb13:=hb12d.trans (hb3.mono hb12d.size);have tf3:=TFF.out w3 hb13;clear hb12d hb3;obtain⟨i1,i2,_,_,_,_,_,_,_⟩:=tf3)) <;>
   (have r2:cT (p+1) (lvl,dx)=0:=(by rw[HCI.out,if_neg (by omega),if_neg (by omega),q3,if_neg (by decide),if_neg (by omega),q5,if_neg (by decide),q6])
    have R2:=hid r2
    clear r2
    gi_wp2
    exact GOON.out _ _ hb13 R2.out)
  ·(gi_region_with ((try refine⟨trivial,?_⟩);(try refine⟨fun h=>(by cases h),?_⟩);refine(CallsIn.inRound l (callsIn_wide.2 (qA w w.heap.size cx dx _ HX.out (HB1.out.trans (hb12d.mono hn1)) (Nat.le_trans hn1 hb12d.size) (HT1.out.below hb12d) q45))).mono ?_;rintro e w3 ⟨rfl,hb3⟩;have hb13:=hb12d.trans (hb3.mono hb12d.size);have tf3:=TFF.out w3 hb13;clear hb12d hb3;obtain⟨i1,i2,_,_,_,_,_,_,_⟩:=tf3)) <;>
   (have r2:cT (p+1) (lvl,dx)=kX dx:=(by rw[HCI.out,if_neg (by omega),if_neg (by omega),q3,if_neg (by decide),if_neg (by omega),q5,if_neg (by decide)])
    have R2:=hid r2
    clear r2
    gi_wp2
    exact LEAVE.out _ _ _ hb13 R2.out q6)
 case done =>
  rintro D ys W hD hS ⟨h4,h2,h3,hb,hch,_⟩ hK
  have c2:=aA h2 0
  have z2:=aE h2 0
  (try dsimp only at c2)
  gi_wp2
  have hKo:(W.setCell ⟨w.heap.size+1,0,none⟩ (.int .i64 0)).heap[D]?=some (.deferred (some [])):=aJ _ _ hK (by dsimp only;omega)
  have hr:=aY (grownBy_putObj' (W.setCell ⟨w.heap.size+1,0,none⟩ (.int .i64 0)) D (.deferred none)) (aD (o:=0) (.int .i64 0) h2) (fun e=>by cases e;omega)
  refine⟨by simp,.inl ⟨_,_,rfl,run_takeDeferred hKo,?_⟩⟩
  refine⟨.int .i64 0,by simp[results,Tryz.results104,go_sem,aA hr],?_,?_⟩
  ·rw[bP,←hS,hch]
  ·exact(hb.setCell (p:=⟨w.heap.size+1,0,none⟩) (by dsimp only;omega) _).trans (belowK_b (w:=w) lr _ D _ _ (by omega) hKo rfl rfl)
 case stop =>
  rintro D cd pre W hD hpf ⟨rfl,hne,h2,hb⟩ hK
  gi_wp2
  have hr:=aY (grownBy_putObj' W D (.deferred none)) h2 (fun e=>by cases e;omega)
  refine⟨by simp,.inl ⟨_,_,rfl,run_takeDeferred hK,?_⟩⟩
  refine⟨.int .i64 (cZ 0 (List.map Item.dat pre)),by simp[results,Tryz.results104,go_sem,aA hr],?_,?_⟩
  ·rw[bP,sR hpf hne]
  ·exact hb.trans (belowK_b (w:=w) lr _ D _ _ (by omega) hK rfl rfl)
end
section
open Go Go.RowKit Go.Shelf
def jI (d:Val):Int:=if dM d=true then 0 else if qI d≠9 then 18 else bP d
theorem gW (c:VC) (d:Val) (w:World) (hd:IsVal (· < w.heap.size) w c d) (hT:Tabs w) (w1:World) (hb:Below w.heap.size w w1):Calls Tryz.prog 104 #[c.v] w1 (fun e w'=>e=.returned (.int .i64 (bP d))∧Below w1.heap.size w1 w') :=
 gH c d w1 (hd.same fun b h=>⟨Nat.lt_of_lt_of_le h hb.size,hb.block b h⟩) (hT.below hb)
theorem aBi (c:VC) (d:Val) (w:World) (hd:IsVal (· < w.heap.size) w c d) (hT:Tabs w):Calls Tryz.prog 179 #[c.v] w fun e w'=>e=.returned (.int .i64 (jI d))∧Below w.heap.size w w':=by
 have HC:=hid (gW c d w hd hT)
 have e1:=gD hd
 have e2:=uG hd
 have HE:=hid (show jI d=if dC c.k c.i c.s c.t c.ll c.fl=true then 0 else if c.k≠9 then 18 else bP d by rw[jI,e1,e2])
 clear e1 e2 hd hT
 obtain⟨k,i,s,t,la,ll,lc,fa,fl,fc⟩:=c
 dsimp only at HE HC ⊢
 obtain⟨w1,hw1⟩:∃w1,w1=w.alloc (.cells #[.int .i64 k,.int .i64 i,.int .i64 s,.string t,.slice la ll lc,.slice fa fl fc] 66):=⟨_,rfl⟩
 have hb1:Below w.heap.size w w1:=by rw[hw1];exact(bR w).alloc lr _
 have hbox:w1.heap[w.heap.size]?=some (vObj ⟨k,i,s,t,la,ll,lc,fa,fl,fc⟩):=by rw[hw1];exact heap_alloc_new w _
 have six:∀w2,Below w1.heap.size w1 w2→Six w2 w.heap.size ⟨k,i,s,t,la,ll,lc,fa,fl,fc⟩∧Below w.heap.size w w2:=fun w2 h=>⟨sixOf (aB h hbox),hb1.trans (h.mono hb1.size)⟩
 rw[hw1] at six
 have SIX:=hid six
 clear six hbox hb1 hw1
 go_enter Tryz.func179,Tryz.ntmps179
 cases q1:dC k i s t ll fl with
 | true =>
   have HE1:=hid (show jI d=0 by rw[HE.out,q1,if_pos rfl])
   go_wp2_with (go_at_call 105;refine(bM k i s t la ll lc fa fl fc _).mono ?_;rintro e w2 ⟨he,hb2⟩;rw[q1] at he;subst he;obtain⟨⟨j1,j2,j3,j4,j5,j6⟩,hb3⟩:=SIX.out _ hb2)
   go_ret
   exact⟨by rw[HE1.out];rfl,hb3⟩
 | false =>
 by_cases q2:k=9
 ·have HE1:=hid (show jI d=bP d by rw[HE.out,q1,if_neg (by decide),if_neg (by simpa using q2)])
  subst q2
  go_wp2_with (first
   | (go_at_call 105;refine(bM 9 i s t la ll lc fa fl fc _).mono ?_;rintro e w2 ⟨he,hb2⟩;rw[q1] at he;subst he;obtain⟨⟨j1,j2,j3,j4,j5,j6⟩,hb3⟩:=SIX.out _ hb2)
   | (go_at_call 104;refine(HC.out _ hb3).mono ?_;rintro e w4 ⟨rfl,hb4⟩))
  go_ret
  exact⟨by rw[HE1.out];rfl,hb3.trans (hb4.mono hb3.size)⟩
 ·have HE1:=hid (show jI d=18 by rw[HE.out,q1,if_neg (by decide),if_pos q2])
  go_wp2_with (go_at_call 105;refine(bM k i s t la ll lc fa fl fc _).mono ?_;rintro e w2 ⟨he,hb2⟩;rw[q1] at he;subst he;obtain⟨⟨j1,j2,j3,j4,j5,j6⟩,hb3⟩:=SIX.out _ hb2)
  go_ret
  exact⟨by rw[HE1.out];rfl,hb3⟩
end
section
open Go Go.RowKit Go.Shelf
def qH:Option Int→Int→Bool
 | none,_=>false
 | some y,x=>decide (x≤y)
def aD7:Option Int→List Int→Int
 | _,[]=>0
 | p,x :: r=>if gF x=false then 2 else if qH p x=true then 24 else aD7 (some x) r
theorem mA (p:Option Int) (x:Int) (r:List Int):aD7 p (x :: r)=if gF x=false then 2 else if qH p x=true then 24 else aD7 (some x) r:=by cases p<;>rfl
def eD (es:List Int) (k:Nat):Int:=aD7 (if k=0 then none else some (es.getD (k-1) 0)) (es.drop k)
theorem aAs (es:List Int):eD es es.length=0:=by rw[eD,List.drop_length];split<;>rfl
theorem qL (es:List Int) (k:Nat) (h:k<es.length) (hb:gF es[k]=false):eD es k=2:=by
 rw[eD,List.drop_eq_getElem_cons h,mA,if_pos hb]
theorem oF (es:List Int) (k:Nat) (h:k<es.length) (hb:gF es[k]=true) (h0:0<k) (hl:es[k]≤es[k-1]):eD es k=24:=by
 rw[eD,List.drop_eq_getElem_cons h,mA,if_neg (by rw[hb];decide),if_neg (by omega:¬ k=0)]
 rw[if_pos (by simp[qH,List.getD_eq_getElem?_getD,show k-1<es.length by omega,hl])]
theorem oE (es:List Int) (k:Nat) (h:k<es.length) (hb:gF es[k]=true) (hl:k=0∨es[k-1]<es[k]):eD es k=eD es (k+1):=by
 have e:eD es (k+1)=aD7 (some es[k]) (es.drop (k+1)):=by
  rw[eD,if_neg (by omega)]
  simp[List.getD_eq_getElem?_getD,h]
 rw[e,eD,List.drop_eq_getElem_cons h,mA,if_neg (by rw[hb];decide),if_neg]
 rcases hl with rfl | hl
 ·simp[qH]
 ·by_cases hk:k=0
  ·subst hk;simp[qH]
  ·rw[if_neg hk];simp[qH,List.getD_eq_getElem?_getD,show k-1<es.length by omega];omega
def dB (d:Msg):Int:=if aS d.st≠0 then aS d.st else if jE d.m=true then 38 else if d.es=[] then 4 else if 4096<d.es.length then 9 else if eD d.es 0≠0 then eD d.es 0 else jI d.b
abbrev mObj (c:MC):Obj:=.cells #[.int .i64 c.st.e,.slice c.st.a c.st.n c.st.c,.int .i64 c.m,.slice c.a c.n c.c,.int .i64 c.b.k,.int .i64 c.b.i,.int .i64 c.b.s,.string c.b.t,.slice c.b.la c.b.ll c.b.lc,.slice c.b.fa c.b.fl c.b.fc] 68
def Ten (W:World) (B:Nat) (c:MC):Prop:=W.cell? ⟨B,0,none⟩=some (.int .i64 c.st.e)∧W.cell? ⟨B,1,none⟩=some (.slice c.st.a c.st.n c.st.c)∧W.cell? ⟨B,2,none⟩=some (.int .i64 c.m)∧W.cell? ⟨B,3,none⟩=some (.slice c.a c.n c.c) ∧
 W.cell? ⟨B,4,none⟩=some (.int .i64 c.b.k)∧W.cell? ⟨B,5,none⟩=some (.int .i64 c.b.i)∧W.cell? ⟨B,6,none⟩=some (.int .i64 c.b.s)∧W.cell? ⟨B,7,none⟩=some (.string c.b.t)∧W.cell? ⟨B,8,none⟩=some (.slice c.b.la c.b.ll c.b.lc)∧W.cell? ⟨B,9,none⟩=some (.slice c.b.fa c.b.fl c.b.fc)
theorem tenOf {W:World} {B:Nat} {c:MC} (h:W.heap[B]?=some (mObj c)):Ten W B c :=
 ⟨aA h 0,aA h 1,aA h 2,aA h 3,aA h 4,aA h 5,aA h 6,aA h 7,aA h 8,aA h 9⟩
structure MsgAt (w w1:World) (c:MC) (d:Msg):Prop where
 ten:Ten w1 w.heap.size c
 bel:Below w.heap.size w w1
 st:Calls Tryz.prog 112 #[c.st.v] w1 fun e w'=>e=.returned (.int .i64 (aS d.st))∧Below w1.heap.size w1 w'
 body:Calls Tryz.prog 179 #[c.b.v] w1 fun e w'=>e=.returned (.int .i64 (jI d.b))∧Below w1.heap.size w1 w'
 body':IsVal (· < w1.heap.size) w1 c.b d.b∧Tabs w1
 es:IsInts (· < w1.heap.size) w1 c.a c.n c.c d.es
theorem msgAt (c:MC) (d:Msg) (w:World) (hd:IsMsg (· < w.heap.size) w c d) (hT:Tabs w) (w1:World) (hb:Below (w.alloc (mObj c)).heap.size (w.alloc (mObj c)) w1):MsgAt w w1 c d:=by
 have hb0:Below w.heap.size w (w.alloc (mObj c)):=(bR w).alloc lr _
 have hbw:Below w.heap.size w w1:=hb0.trans (hb.mono hb0.size)
 have hd1:IsMsg (· < w1.heap.size) w1 c d:=hd.same fun b h=>⟨Nat.lt_of_lt_of_le h hbw.size,hbw.block b h⟩
 exact⟨tenOf (aB hb (heap_alloc_new w _)),hbw,bK _ _ _ w1 w1 hd1.st (fun b h=>⟨h,rfl⟩),aBi _ _ w1 hd1.b (hT.below hbw),⟨hd1.b,hT.below hbw⟩,hd1.es⟩
theorem cQ (c:MC) (d:Msg) (w:World) (hd:IsMsg (· < w.heap.size) w c d) (hT:Tabs w):Calls Tryz.prog 111 #[c.v] w fun e w'=>e=.returned (.int .i64 (dB d))∧Below w.heap.size w w':=by
 have HM:=hid (msgAt c d w hd hT)
 have hm:=hd.m
 have HL:=hid hd.es.len
 clear hd hT
 obtain⟨⟨ce,sa,sn,sc⟩,m,a,n,cap,⟨k,i,s,t,la,ll,lc,fa,fl,fc⟩⟩:=c
 dsimp only at hm HM HL ⊢
 have HE:=hid (show dB d=if aS d.st≠0 then aS d.st else if jE m=true then 38 else if n=0 then 4 else if 4096<n then 9 else if eD d.es 0≠0 then eD d.es 0 else jI d.b by
  have e1:(d.es=[])=(n=0):=by rw[HL.out];simp
  rw[dB,hm,HL.out]
  simp)
 clear hm
 obtain⟨u,hu⟩:∃u,u=aS d.st:=⟨_,rfl⟩
 rw[←hu] at HE
 have hm':∀w1,Below (w.alloc (mObj ⟨⟨ce,sa,sn,sc⟩,m,a,n,cap,⟨k,i,s,t,la,ll,lc,fa,fl,fc⟩⟩)).heap.size (w.alloc (mObj ⟨⟨ce,sa,sn,sc⟩,m,a,n,cap,⟨k,i,s,t,la,ll,lc,fa,fl,fc⟩⟩)) w1 →
  MsgAt w w1 ⟨⟨ce,sa,sn,sc⟩,m,a,n,cap,⟨k,i,s,t,la,ll,lc,fa,fl,fc⟩⟩ d∧Calls Tryz.prog 112 #[SC.v ⟨ce,sa,sn,sc⟩] w1 fun e w'=>e=.returned (.int .i64 u)∧Below w1.heap.size w1 w':=fun w1 h=>⟨HM.out w1 h,by rw[hu];exact(HM.out w1 h).st⟩
 dsimp only[mObj,SC.v,VC.v] at hm'
 have h0:=hm' _ (Below.refl _ _)
 have HM':=hid hm'
 clear HM hu hm'
 obtain⟨h0,hst⟩:=h0
 have h0t:=h0.ten
 dsimp only[Ten] at h0t
 obtain⟨e0,e1,e2,e3,e4,e5,e6,e7,e8,e9⟩:=h0t
 clear h0
 have HST:=hid hst
 clear hst
 dsimp only[MC.v,SC.v,VC.v]
 go_enter Tryz.func111,Tryz.ntmps111
 by_cases q1:u=0
 ·subst q1
  cases q2:jE m with
  | true =>
    have r:=hid (show dB d=38 by rw[HE.out,if_neg (by decide),q2,if_pos rfl])
    go_wp2_with (first
     | (go_at_call 112;refine HST.out.mono ?_;rintro e w2 ⟨rfl,hb2⟩;obtain⟨⟨⟨j0,j1,j2,j3,j4,j5,j6,j7,j8,j9⟩,hbw,_,hbody,_,hes⟩,_⟩:=HM'.out _ hb2;have HB:=hid hbody;clear hbody;have HX:=hid hes;clear hes e0 e1 e2 e3 e4 e5 e6 e7 e8 e9)
     | (go_at_call 177;refine(iN m _).mono ?_;rintro e w3 ⟨he,rfl⟩;rw[q2] at he;subst he))
    go_ret
    exact⟨by rw[r.out];rfl,hbw⟩
  | false =>
  by_cases q3:n=0
  ·have r:=hid (show dB d=4 by rw[HE.out,if_neg (by decide),q2,if_neg (by decide),if_pos q3])
   subst q3
   go_wp2_with (first
    | (go_at_call 112;refine HST.out.mono ?_;rintro e w2 ⟨rfl,hb2⟩;obtain⟨⟨⟨j0,j1,j2,j3,j4,j5,j6,j7,j8,j9⟩,hbw,_,hbody,_,hes⟩,_⟩:=HM'.out _ hb2;have HB:=hid hbody;clear hbody;have HX:=hid hes;clear hes e0 e1 e2 e3 e4 e5 e6 e7 e8 e9)
    | (go_at_call 177;refine(iN m _).mono ?_;rintro e w3 ⟨he,rfl⟩;rw[q2] at he;subst he))
   go_ret
   exact⟨by rw[r.out];rfl,hbw⟩
  have q3':(0:Int)<(n:Int):=by omega
  by_cases q4:4096<n
  ·have r:=hid (show dB d=9 by rw[HE.out,if_neg (by decide),q2,if_neg (by decide),if_neg q3,if_pos q4])
   have q4':(4096:Int)<(n:Int):=by omega
   go_wp2_with (first
    | (go_at_call 112;refine HST.out.mono ?_;rintro e w2 ⟨rfl,hb2⟩;obtain⟨⟨⟨j0,j1,j2,j3,j4,j5,j6,j7,j8,j9⟩,hbw,_,hbody,_,hes⟩,_⟩:=HM'.out _ hb2;have HB:=hid hbody;clear hbody;have HX:=hid hes;clear hes e0 e1 e2 e3 e4 e5 e6 e7 e8 e9)
    | (go_at_call 177;refine(iN m _).mono ?_;rintro e w3 ⟨he,rfl⟩;rw[q2] at he;subst he))
   go_ret
   exact⟨by rw[r.out];rfl,hbw⟩
  have q4':(n:Int)≤4096:=by omega
  have q5':((n:Int)==0)=false:=by simp;omega
  have q6':decide ((4096:Int)<(n:Int))=false:=by simp;omega
  have R:=hid (show dB d=if eD d.es 0≠0 then eD d.es 0 else jI d.b by rw[HE.out,if_neg (by decide),q2,if_neg (by decide),if_neg q3,if_neg q4])
  go_wp2_with (first
   | (go_at_call 112;refine HST.out.mono ?_;rintro e w2 ⟨rfl,hb2⟩;obtain⟨⟨⟨j0,j1,j2,j3,j4,j5,j6,j7,j8,j9⟩,hbw,_,hbody,_,hes⟩,_⟩:=HM'.out _ hb2;have HB:=hid hbody;clear hbody;have HX:=hid hes;clear hes e0 e1 e2 e3 e4 e5 e6 e7 e8 e9)
   | (go_at_call 177;refine(iN m _).mono ?_;rintro e w3 ⟨he,rfl⟩;rw[q2] at he;subst he))
  go_loop [29] (fun i=>∃q:Nat,q≤n∧i=.int .i64 q∧eD d.es 0=eD d.es q) (fun i=>n-(intOf i).toNat)
  case atStart=>exact⟨0,Nat.zero_le _,rfl,rfl⟩
  case round =>
   obtain⟨q,hq,rfl,hent⟩:=hrel
   have HN:=hid hent
   clear hent
   by_cases hlt:q<n
   ·have hql:q<d.es.length:=by have:=HL.out;omega
    obtain⟨b,o,rfl,hb,hc⟩:=HX.out.slot (by omega)
    have hc0:=hc q hql
    obtain⟨z,hz⟩:∃z,z=d.es[q]:=⟨_,rfl⟩
    rw[←hz] at hc0
    have HZ:=hid hz
    clear hz
    have hlt':(q:Int)<(n:Int):=by omega
    have hq0:(0:Int)≤(q:Int):=by omega
    cases hz1:gF z with
    | false =>
      clear hc
      have r:=hid (show dB d=2 by rw[R.out,HN.out,qL _ q hql (by rw[←HZ.out];exact hz1),if_pos (by decide)])
      go_wp2_with (go_at_call 178;refine(iO z _).mono ?_;rintro e w3 ⟨he,rfl⟩;rw[hz1] at he;subst he)
      go_ret
      exact⟨by rw[r.out];rfl,hbw⟩
    | true =>
      by_cases hk0:q=0
      ·have hk0':¬ (0:Int)<(q:Int):=by omega
       clear hc
       have r:=hid (oE d.es q hql (by rw[←HZ.out];exact hz1) (.inl hk0))
       have HK:=hid hk0
       clear hk0
       go_wp2_with (go_at_call 178;refine(iO z _).mono ?_;rintro e w3 ⟨he,rfl⟩;rw[hz1] at he;subst he)
       go_round
       case rel=>exact⟨q+1,by omega,by go_num,HN.out.trans r.out⟩
       case measure=>simp[intOf];omega
      ·have hc1:=hc (q-1) (by omega)
       clear hc
       obtain⟨y,hy⟩:∃y,y=d.es[q-1]:=⟨_,rfl⟩
       rw[←hy] at hc1
       have HY:=hid hy
       clear hy
       have hk0':(0:Int)<(q:Int):=by omega
       have hk1':(0:Int)≤(q:Int)-1:=by omega
       have hk2':(q:Int)-1<(n:Int):=by omega
       have hc2:w2.cell? ⟨b,o+((q:Int)-1).toNat,none⟩=some (.int .i64 y):=by rw[show((q:Int)-1).toNat=q-1 by omega];exact hc1
       have hwr:IntKind.i64.wrap ((q:Int)-1)=(q:Int)-1:=IntWalk.i64_in _ (by omega)
       have HK:=hid hk0
       clear hk0
       by_cases hle:z≤y
       ·have r:=hid (show dB d=24 by rw[R.out,HN.out,oF _ q hql (by rw[←HZ.out];exact hz1) (by have:=HK.out;omega) (by rw[←HZ.out,←HY.out];exact hle),if_pos (by decide)])
        go_wp2_with (go_at_call 178;refine(iO z _).mono ?_;rintro e w3 ⟨he,rfl⟩;rw[hz1] at he;subst he)
        go_ret
        exact⟨by rw[r.out];rfl,hbw⟩
       ·have r:=hid (oE d.es q hql (by rw[←HZ.out];exact hz1) (.inr (by rw[←HZ.out,←HY.out];omega)))
        go_wp2_with (go_at_call 178;refine(iO z _).mono ?_;rintro e w3 ⟨he,rfl⟩;rw[hz1] at he;subst he)
        go_round
        case rel=>exact⟨q+1,by omega,by go_num,HN.out.trans r.out⟩
        case measure=>simp[intOf];omega
   ·obtain rfl:q=n:=by omega
    have r:=hid (show dB d=jI d.b by rw[R.out,HN.out,show q=d.es.length from HL.out,aAs,if_neg (by decide)])
    go_wp2_with (go_at_call 179;refine HB.out.mono ?_;rintro e w4 ⟨rfl,hb4⟩)
    go_ret
    exact⟨by rw[r.out];rfl,hbw.trans (hb4.mono hbw.size)⟩
 ·have q1':=hid (show dB d=u by rw[HE.out,if_pos q1])
  go_wp2_with (go_at_call 112;refine HST.out.mono ?_;rintro e w2 ⟨rfl,hb2⟩;have hbw:=(HM'.out _ hb2).1.bel)
  go_ret
  exact⟨by rw[q1'.out];rfl,hbw⟩
end
end Go.Proofs.YteladbdfiannjaaGreatDoor
