/-
  value.Check returns the first error of a value, as the Lean function chkVal says. Conditions: the value can be read as data; Tabs.
-/
import Derived.Test.YtmgpghoamapfgaaGreatDoorJN3Mrg
import Derived.Sort.CutIn
namespace Go.Proofs.YtmgpghoamapfgaaGreatDoor
set_option linter.unusedVariables false
set_option maxRecDepth 100000
set_option maxHeartbeats 16000000
set_option linter.unusedSimpArgs false
section
open Go Go.RowKit Go.Shelf
attribute [local go_sem] Oper.semAt_some
theorem isNullV_of {S:Nat→Prop} {w:World} {c:VC} {d:Val} (h:IsVal S w c d):isNullV d=isNullB c.k c.i c.s c.t c.ll c.fl:=by
 obtain⟨k,i,s,t,l,ns,fs⟩:=d
 obtain⟨⟨rfl,rfl,rfl,rfl,_,h1,h2,_⟩,_⟩:=h
 rw[isNullV,h1,h2]
theorem usesV_of {S:Nat→Prop} {w:World} {c:VC} {d:Val} (h:IsVal S w c d):usesV d=usesB c.k c.i c.s c.t c.ll c.fl:=by
 obtain⟨k,i,s,t,l,ns,fs⟩:=d
 obtain⟨⟨rfl,rfl,rfl,rfl,_,h1,h2,_⟩,_⟩:=h
 rw[usesV,h1,h2]
theorem kindV_of {S:Nat→Prop} {w:World} {c:VC} {d:Val} (h:IsVal S w c d):kindV d=c.k:=by
 obtain⟨k,i,s,t,l,ns,fs⟩:=d
 obtain⟨⟨rfl,_⟩,_⟩:=h
 rfl
def TF (B Bx:Nat) (c:VC) (w':World):Prop:=w'.cell? ⟨B+1,0,none⟩=some (.int .i64 0)∧w'.frozen? ⟨B+1,0,none⟩=false∧w'.cell? ⟨Bx,0,none⟩=some (.int .i64 c.k)∧w'.cell? ⟨Bx,1,none⟩=some (.int .i64 c.i)∧w'.cell? ⟨Bx,2,none⟩=some (.int .i64 c.s) ∧
 w'.cell? ⟨Bx,3,none⟩=some (.string c.t)∧w'.cell? ⟨Bx,4,none⟩=some (.slice c.la c.ll c.lc)∧w'.cell? ⟨Bx,5,none⟩=some (.slice c.fa c.fl c.fc)∧(1≤c.k∧c.k≤10→w'.cell? ⟨B+1+1+1,c.k.toNat,none⟩=some (.func (.func (ruleF c.k)) #[] #[]))
theorem tfOf {B Bx:Nat} {c:VC} {w':World} (h2:w'.heap[B+1]?=some (.cells #[.int .i64 0] 27 (0,0))) (h3:w'.heap[B+3]?=some rulesObj) (hx:w'.heap[Bx]?=some (vObj c)):TF B Bx c w' :=
 ⟨cellOf h2 0,freeOf h2 0,cellOf hx 0,cellOf hx 1,cellOf hx 2,cellOf hx 3,cellOf hx 4,cellOf hx 5,fun hk=>rules_cell h3 c.k hk⟩
def CheckPost (w:World) (d:Val) (e:Ending) (w':World):Prop:=e=.returned (.int .i64 (chkVal d))∧Below w.heap.size w w'
theorem kp_store {n₀ n₁:Nat} {W:World} {B o:Nat} (v:Value) (h0:n₀≤B) (h1:B<n₁):Kp n₀ n₁ W (W.setCell ⟨B,o,none⟩ v) :=
 ⟨(Below.refl _ W).setCell (p:=⟨B,o,none⟩) h0 _,fun b ob hb ho hc=>heapSetOther _ _ ho (by dsimp only;omega)⟩
theorem check_call (c:VC) (d:Val) (w:World) (hd:IsVal (· < w.heap.size) w c d) (hT:Tabs w):Calls Tryz.prog 66 #[c.v] w (CheckPost w d):=by
 refine(callsIn_wide (n:=3)).1 ?_
 refine callsIn_of_wp_marks Tryz.func66 rfl trivial ?_ rfl
 simp only[Tryz.ntmps66,List.size_toArray,List.length_cons,List.length_nil,Nat.reduceAdd,Nat.reduceSub,Array.replicate_succ,Array.replicate_zero,List.push_toArray,List.append_toArray,List.nil_append,List.cons_append]
 gi_wp2_with (first
  | ((try refine⟨trivial,?_⟩);(try refine⟨fun h=>(by cases h),?_⟩);gi_at_call 118;refine(callsIn_wide.2 (rules_call _)).mono ?_;rintro e w' ⟨rfl,rfl⟩)
  | ((try refine⟨trivial,?_⟩);(try refine⟨fun h=>(by cases h),?_⟩);gi_at_call 119;refine(callsIn_wide.2 (preorder_call c _)).mono ?_;rintro e w' ⟨rfl,rfl⟩))
 obtain⟨wl,hwl⟩:∃wl,wl=(((((w.alloc (vObj c)).alloc (.cells #[.int .i64 0] 27)).alloc rulesObj).alloc rulesObj).alloc (.cells #[.int .i64 0] 3)).alloc (vObj c):=⟨_,rfl⟩
 have hb2:wl.heap[w.heap.size+1]?=some (.cells #[.int .i64 0] 27 (0,0)):=by rw[hwl];exact heapAlloc _ (heapAlloc _ (heapAlloc _ (heapAlloc _ (heapNewAt _ _ _ (by simp)))))
 have hb3:wl.heap[w.heap.size+3]?=some rulesObj:=by rw[hwl];exact heapAlloc _ (heapAlloc _ (heapNewAt _ _ _ (by simp)))
 have hb4:wl.heap[w.heap.size+4]?=some (.cells #[.int .i64 0] 3 (0,0)):=by rw[hwl];exact heapAlloc _ (heapNewAt _ _ _ (by simp))
 have hb5:wl.heap[w.heap.size+5]?=some (vObj c):=by rw[hwl];exact heapNewAt _ _ _ (by simp)
 have hsz:wl.heap.size=w.heap.size+6:=by rw[hwl];simp
 have hbel:Below w.heap.size w wl:=by rw[hwl];exact(((((((Below.refl _ w).alloc (Nat.le_refl _) _).alloc (by simp) _).alloc (by simp;omega) _).alloc (by simp;omega) _).alloc (by simp;omega) _).alloc (by simp;omega) _)
 rw[←hwl]
 clear hwl
 refine wpIn_rangeFunc_ownH rfl (by omega) (gf:=206) (lb:=#[.pointer (some ⟨w.heap.size+5,0,none⟩)]) rfl trivial (enters_of Tryz.func206 (by kernel_rfl) rfl)
  (preorder_stops (3-1) w.heap.size (w.heap.size+5) w wl c d (Nat.le_refl _) hbel (by omega) hd hb5 wl.heap.size (Nat.le_refl _) (by omega)) (fun h k=>h.trans k) (kp_b (by omega)) (Below.refl _ _) (fun _=>rfl)
  (fun pre W=>W.heap[w.heap.size+4]?=some (.cells #[.int .i64 (pre.length:Nat)] 3 (0,0))∧W.heap[w.heap.size+1]?=some (.cells #[.int .i64 0] 27 (0,0))∧W.heap[w.heap.size+3]?=some rulesObj∧Below w.heap.size w W∧chkGo 0 (pre.map Item.dat)=0∧wl.heap.size≤W.heap.size)
  (fun cd pre W=>cd=.ret∧chkGo 0 (pre.map Item.dat)≠0∧W.heap[w.heap.size+1]?=some (.cells #[.int .i64 (chkGo 0 (pre.map Item.dat))] 27 (0,0))∧Below w.heap.size w W)
  (fun s A B row hs hg hr=>⟨heapGrown hg hs.1 (fun e=>by have:=(hr _ e.symm).1;omega),heapGrown hg hs.2.1 (fun e=>by have:=(hr _ e.symm).1;omega),heapGrown hg hs.2.2.1 (fun e=>by have:=(hr _ e.symm).1;omega),hs.2.2.2.1.grown hg (by have:=hs.2.2.2.1.size;omega) (fun k e=>by have:=(hr _ e).1;omega),hs.2.2.2.2.1,by have:=hg.size;have:=hs.2.2.2.2.2;omega⟩)
  (fun cd s A B row hs hg hr=>⟨hs.1,hs.2.1,heapGrown hg hs.2.2.1 (fun e=>by have:=(hr _ e.symm).1;omega),hs.2.2.2.grown hg (by have:=hs.2.2.2.size;omega) (fun k e=>by have:=(hr _ e).1;omega)⟩)
  ⟨hb4,hb2,hb3,hbel,rfl,Nat.le_refl _⟩
  (fun x a' W=>∃Bx,wl.heap.size≤Bx∧W.heap[Bx]?=some (vObj x.1.2.1)∧a'={ tmps:=#[c.v,.pointer (some ⟨w.heap.size,0,none⟩),.pointer (some ⟨w.heap.size+1,0,none⟩),.pointer (some ⟨w.heap.size+1+1+1,0,none⟩),.pointer (some ⟨w.heap.size+1+1+1+1,0,none⟩),.int .i64 x.1.1,.pointer (some ⟨Bx,0,none⟩),undef,
    .agg #[.nilFunc,.func (.func 191) #[] #[],.func (.func 193) #[] #[],.func (.func 194) #[] #[],.func (.func 196) #[] #[],.func (.func 199) #[] #[],.func (.func 200) #[] #[],.func (.func 201) #[] #[],.func (.func 202) #[] #[],.func (.func 203) #[] #[],.func (.func 205) #[] #[]],
    c.v,.func (.func 206) #[] #[.pointer (some ⟨w.heap.size+1+1+1+1+1,0,none⟩)],.int .i64 x.1.1,x.1.2.1.v,undef,undef,undef,undef,undef,undef,undef,undef,undef,undef,undef,undef,undef,undef,undef,undef,undef,undef,undef,undef,undef,undef,undef,undef,undef,undef,undef,undef,undef,undef,undef,undef,undef],defers:=[] })
  (fun x a' s A B row hs hg hr=>by
    obtain⟨Bx,h1,h2,h3⟩:=hs
    exact⟨Bx,h1,heapGrown hg h2 (fun e=>by obtain⟨_,o,ho,hc⟩:=hr _ e.symm;rw[h2] at ho;cases ho;cases hc),h3⟩) ?assign ?body ?done ?stop
 case assign =>
  intro l pre x W K hi hK
  simp only[Item.encs]
  gi_wp2
  exact hK _ _ ((KeepsOthers.alloc _ _).from _) (Kp.ext ((Below.refl _ W).alloc (Nat.le_refl _) _) (by have:=hi.2.2.2.2.2;omega)) ⟨heapAlloc _ hi.1,heapAlloc _ hi.2.1,heapAlloc _ hi.2.2.1,hi.2.2.2.1.alloc hi.2.2.2.1.size _,hi.2.2.2.2.1,by have:=hi.2.2.2.2.2;simp;omega⟩ ⟨W.heap.size,hi.2.2.2.2.2,heap_alloc_new W _,by first | (simp[Item.encs];done) | kernel_rfl⟩
 case body =>
  rintro l pre x a' W hl ⟨_,hloop⟩ ⟨h4,h2,h3,hb,hch,hszW⟩ ⟨Bx,hBx,hx,rfl⟩ hlt
  clear hlt hloop hl
  obtain⟨⟨lvl,cx,dx⟩,hxv⟩:=x
  dsimp only at hxv hx ⊢
  have hlen:=chkGo_len _ hch
  rw[List.length_map] at hlen
  have HR:=hid (show chkGo 0 (List.map Item.dat (pre++[(⟨(lvl,cx,dx),hxv⟩:Item w.heap.size w)]))=chkItem (pre.length+1) (lvl,dx) by
   rw[List.map_append,List.map_cons,List.map_nil,chkGo_snoc _ _ hch,List.length_map];rfl)
  obtain⟨p,hp⟩:∃p,p=pre.length:=⟨_,rfl⟩
  rw[←hp] at h4 hlen HR
  have HP:=hid hp;clear hp hch
  -- the world behind the counter's step
  obtain⟨W1,hW1⟩:∃W1,W1=W.setCell ⟨w.heap.size+4,0,none⟩ (.int .i64 ((p:Int)+1)):=⟨_,rfl⟩
  have k4:W1.heap[w.heap.size+4]?=some (.cells #[.int .i64 ((p:Int)+1)] 3 (0,0)):=by rw[hW1];exact heapSet _ h4
  have k2:W1.heap[w.heap.size+1]?=some (.cells #[.int .i64 0] 27 (0,0)):=by rw[hW1];exact heapSetOther _ _ h2 (by dsimp only;omega)
  have k3:W1.heap[w.heap.size+3]?=some rulesObj:=by rw[hW1];exact heapSetOther _ _ h3 (by dsimp only;omega)
  have kx:W1.heap[Bx]?=some (vObj cx):=by rw[hW1];exact heapSetOther _ _ hx (by dsimp only;omega)
  have kb:Below w.heap.size w W1:=by rw[hW1];exact hb.setCell (p:=⟨w.heap.size+4,0,none⟩) (by dsimp only;omega) _
  have ks:W1.heap.size=W.heap.size:=by rw[hW1];simp[World.setCell]
  have kkp:Kp w.heap.size wl.heap.size W W1:=by rw[hW1];exact kp_store _ (by omega) (by omega)
  have kkf:KeepsFrom wl.heap.size W W1:=by rw[hW1];exact(KeepsOthers.setCell _ _ _).from _
  have c4:W.cell? ⟨w.heap.size+1+1+1+1,0,none⟩=some (.int .i64 p):=cellOf h4 0
  have f4:W.frozen? ⟨w.heap.size+1+1+1+1,0,none⟩=false:=freeOf h4 0
  -- how a round leaves with an error,and how it goes on
  have leave:∀(a:Act) (W2:World) (r:Int),Below W1.heap.size W1 W2→chkItem (p+1) (lvl,dx)=r→r≠0 →
   ownPostG wl.heap.size (Kp w.heap.size wl.heap.size) (fun pre W=>W.heap[w.heap.size+4]?=some (.cells #[.int .i64 (pre.length:Nat)] 3 (0,0))∧W.heap[w.heap.size+1]?=some (.cells #[.int .i64 0] 27 (0,0))∧W.heap[w.heap.size+3]?=some rulesObj∧Below w.heap.size w W∧chkGo 0 (pre.map Item.dat)=0∧wl.heap.size≤W.heap.size)
    (fun cd pre W=>cd=.ret∧chkGo 0 (pre.map Item.dat)≠0∧W.heap[w.heap.size+1]?=some (.cells #[.int .i64 (chkGo 0 (pre.map Item.dat))] 27 (0,0))∧Below w.heap.size w W)
    (pre++[(⟨(lvl,cx,dx),hxv⟩:Item w.heap.size w)]) W .ret a (W2.setCell ⟨w.heap.size+1,0,none⟩ (.int .i64 r)):=fun a W2 r h5 h6 h7=>by
   refine⟨⟨by have:=kkf.size;have:=h5.size;simp[World.setCell];omega,fun k o hk h0 ho=>heapSetOther _ _ (heapExt h5 (kkf.same k o hk h0 ho)) (by dsimp only;omega)⟩,rfl,?_,?_,?_⟩
   ·rw[HR.out,h6];exact h7
   ·rw[HR.out,h6];exact heapSet _ (heapExt h5 k2)
   ·exact(kb.trans (h5.mono (by have:=kb.size;omega))).setCell (p:=⟨w.heap.size+1,0,none⟩) (by dsimp only;omega) _
  have goon:∀(a:Act) (W2:World),Below W1.heap.size W1 W2→chkItem (p+1) (lvl,dx)=0 →
   ownPostG wl.heap.size (Kp w.heap.size wl.heap.size) (fun pre W=>W.heap[w.heap.size+4]?=some (.cells #[.int .i64 (pre.length:Nat)] 3 (0,0))∧W.heap[w.heap.size+1]?=some (.cells #[.int .i64 0] 27 (0,0))∧W.heap[w.heap.size+3]?=some rulesObj∧Below w.heap.size w W∧chkGo 0 (pre.map Item.dat)=0∧wl.heap.size≤W.heap.size)
    (fun cd pre W=>cd=.ret∧chkGo 0 (pre.map Item.dat)≠0∧W.heap[w.heap.size+1]?=some (.cells #[.int .i64 (chkGo 0 (pre.map Item.dat))] 27 (0,0))∧Below w.heap.size w W)
    (pre++[(⟨(lvl,cx,dx),hxv⟩:Item w.heap.size w)]) W .normal a W2:=fun a W2 h5 h6=>by
   refine⟨⟨by have:=kkf.size;have:=h5.size;omega,fun k o hk h0 ho=>heapExt h5 (kkf.same k o hk h0 ho)⟩,kkp.trans (Kp.ext h5 (by have:=kb.size;omega)),?_,heapExt h5 k2,heapExt h5 k3,kb.trans (h5.mono (by have:=kb.size;omega)),?_,by have:=h5.size;omega⟩
   ·rw[heapExt h5 k4,List.length_append,List.length_cons,List.length_nil,←HP.out]
    norm_cast
   ·rw[HR.out,h6]
  have LEAVE:=hid leave
  have GOON:=hid goon
  clear leave goon
  have tf:∀W2,Below W1.heap.size W1 W2→TF w.heap.size Bx cx W2:=fun W2 h5=>tfOf (heapExt h5 k2) (heapExt h5 k3) (heapExt h5 kx)
  obtain⟨g1,g2,g3,g4,g5,g6,g7,g8,_⟩:=tf W1 (Below.refl _ _)
  have TFF:=hid tf
  have k4':W1.cell? ⟨w.heap.size+1+1+1+1,0,none⟩=some (.int .i64 ((p:Int)+1)):=cellOf k4 0
  have HW1:Hid (W.setCell ⟨w.heap.size+1+1+1+1,0,none⟩ (.int .i64 ((p:Int)+1))=W1):=hid hW1.symm
  have HX:=hid hxv
  have HB1:=hid kb
  have HT1:=hid (hT.below (kb:Below w.heap.size w W1))
  have hn1:w.heap.size≤W1.heap.size:=by omega
  clear tf hW1 k4 k2 k3 kx kkp kkf h4 h2 h3 hx
  have CI:chkItem (p+1) (lvl,dx)=if 4096<p+1 then 9 else if 8<lvl then 23 else if isNullB cx.k cx.i cx.s cx.t cx.ll cx.fl=true then 19 else if cx.k<1∨10<cx.k then 11 else if usesB cx.k cx.i cx.s cx.t cx.ll cx.fl=false then 3 else ruleE dx:=by
   rw[chkItem,isNullV_of HX.out,usesV_of HX.out,kindV_of HX.out]
  have HCI:=hid CI
  clear CI
  have hp4:(p:Int)≤4096:=by omega
  have HSZ:=hid hsz
  clear hsz
  gi_upto_region 7 with (fail)
  rw[HW1.out]
  clear HW1 c4 f4
  by_cases q1:(4096:Int)<(p:Int)+1
  ·gi_wp2
   exact LEAVE.out _ _ _ (Below.refl _ _) (by rw[HCI.out,if_pos (by omega)]) (by decide)
  by_cases q2:(8:Int)<lvl
  ·gi_wp2
   exact LEAVE.out _ _ _ (Below.refl _ _) (by rw[HCI.out,if_neg (by omega),if_pos q2]) (by decide)
  clear g1 g2
  cases q3:isNullB cx.k cx.i cx.s cx.t cx.ll cx.fl with
  | true =>
    gi_wp2_with ((try refine⟨trivial,?_⟩);(try refine⟨fun h=>(by cases h),?_⟩);gi_at_call 67;refine(CallsIn.inRound l (callsIn_wide.2 (isNull_call cx.k cx.i cx.s cx.t cx.la cx.ll cx.lc cx.fa cx.fl cx.fc W1))).mono ?_;rintro e w1 ⟨he,hb1⟩;rw[q3] at he;subst he;obtain⟨j1,j2,j3,j4,j5,j6,j7,j8,j9⟩:=TFF.out w1 hb1;clear TFF)
    exact LEAVE.out _ _ _ hb1 (by rw[HCI.out,if_neg (by omega),if_neg (by omega),q3,if_pos rfl]) (by decide)
  | false =>
  by_cases q4:cx.k<1
  ·gi_wp2_with ((try refine⟨trivial,?_⟩);(try refine⟨fun h=>(by cases h),?_⟩);gi_at_call 67;refine(CallsIn.inRound l (callsIn_wide.2 (isNull_call cx.k cx.i cx.s cx.t cx.la cx.ll cx.lc cx.fa cx.fl cx.fc W1))).mono ?_;rintro e w1 ⟨he,hb1⟩;rw[q3] at he;subst he;obtain⟨j1,j2,j3,j4,j5,j6,j7,j8,j9⟩:=TFF.out w1 hb1;clear TFF)
   exact LEAVE.out _ _ _ hb1 (by rw[HCI.out,if_neg (by omega),if_neg (by omega),q3,if_neg (by decide),if_pos (by omega)]) (by decide)
  by_cases q4':10<cx.k
  ·gi_wp2_with ((try refine⟨trivial,?_⟩);(try refine⟨fun h=>(by cases h),?_⟩);gi_at_call 67;refine(CallsIn.inRound l (callsIn_wide.2 (isNull_call cx.k cx.i cx.s cx.t cx.la cx.ll cx.lc cx.fa cx.fl cx.fc W1))).mono ?_;rintro e w1 ⟨he,hb1⟩;rw[q3] at he;subst he;obtain⟨j1,j2,j3,j4,j5,j6,j7,j8,j9⟩:=TFF.out w1 hb1;clear TFF)
   exact LEAVE.out _ _ _ hb1 (by rw[HCI.out,if_neg (by omega),if_neg (by omega),q3,if_neg (by decide),if_pos (by omega)]) (by decide)
  have q45:1≤cx.k∧cx.k≤10:=by omega
  cases q5:usesB cx.k cx.i cx.s cx.t cx.ll cx.fl with
  | false =>
    gi_wp2_with (first
     | ((try refine⟨trivial,?_⟩);(try refine⟨fun h=>(by cases h),?_⟩);gi_at_call 67;refine(CallsIn.inRound l (callsIn_wide.2 (isNull_call cx.k cx.i cx.s cx.t cx.la cx.ll cx.lc cx.fa cx.fl cx.fc W1))).mono ?_;rintro e w1 ⟨he,hb1⟩;rw[q3] at he;subst he;obtain⟨j1,j2,j3,j4,j5,j6,j7,j8,j9⟩:=TFF.out w1 hb1)
     | ((try refine⟨trivial,?_⟩);(try refine⟨fun h=>(by cases h),?_⟩);gi_at_call 120;refine(CallsIn.inRound l (callsIn_wide.2 (uses_call cx.k cx.i cx.s cx.t cx.la cx.ll cx.lc cx.fa cx.fl cx.fc _ q45))).mono ?_;rintro e w2 ⟨he,hb2⟩;rw[q5] at he;subst he;have hb12:=hb1.trans (hb2.mono hb1.size);clear hb1 hb2 j1 j2 j3 j4 j5 j6 j7 j8 j9;obtain⟨j1,j2,j3,j4,j5,j6,j7,j8,j9⟩:=TFF.out w2 hb12;have j10:=j9 q45;clear j9))
    exact LEAVE.out _ _ _ hb12 (by rw[HCI.out,if_neg (by omega),if_neg (by omega),q3,if_neg (by decide),if_neg (by omega),q5,if_pos rfl]) (by decide)
  | true =>
  gi_upto_region 17 with (first
   | ((try refine⟨trivial,?_⟩);(try refine⟨fun h=>(by cases h),?_⟩);gi_at_call 67;refine(CallsIn.inRound l (callsIn_wide.2 (isNull_call cx.k cx.i cx.s cx.t cx.la cx.ll cx.lc cx.fa cx.fl cx.fc W1))).mono ?_;rintro e w1 ⟨he,hb1⟩;rw[q3] at he;subst he;obtain⟨j1,j2,j3,j4,j5,j6,j7,j8,j9⟩:=TFF.out w1 hb1)
   | ((try refine⟨trivial,?_⟩);(try refine⟨fun h=>(by cases h),?_⟩);gi_at_call 120;refine(CallsIn.inRound l (callsIn_wide.2 (uses_call cx.k cx.i cx.s cx.t cx.la cx.ll cx.lc cx.fa cx.fl cx.fc _ q45))).mono ?_;rintro e w2 ⟨he,hb2⟩;rw[q5] at he;subst he;have hb12:=hb1.trans (hb2.mono hb1.size);clear hb1 hb2 j1 j2 j3 j4 j5 j6 j7 j8 j9;obtain⟨j1,j2,j3,j4,j5,j6,j7,j8,j9⟩:=TFF.out w2 hb12;have j10:=j9 q45;clear j9))
  have hen:=ruleF_enters cx.k
  have hb12d:Below W1.heap.size W1 w2.drew:=hb12.drew
  by_cases q6:ruleE dx=0
  ·(gi_region_with ((try refine⟨trivial,?_⟩);(try refine⟨fun h=>(by cases h),?_⟩);refine(CallsIn.inRound l (callsIn_wide.2 (rule_call w w.heap.size cx dx _ HX.out (HB1.out.trans (hb12d.mono hn1)) (Nat.le_trans hn1 hb12d.size) (HT1.out.below hb12d) q45))).mono ?_;rintro e w3 ⟨rfl,hb3⟩;have hb13:=hb12d.trans (hb3.mono hb12d.size);have tf3:=TFF.out w3 hb13;clear hb12d hb3;obtain⟨i1,i2,_,_,_,_,_,_,_⟩:=tf3)) <;>
   (have r2:chkItem (p+1) (lvl,dx)=0:=(by rw[HCI.out,if_neg (by omega),if_neg (by omega),q3,if_neg (by decide),if_neg (by omega),q5,if_neg (by decide),q6])
    have R2:=hid r2
    clear r2
    gi_wp2
    exact GOON.out _ _ hb13 R2.out)
  ·(gi_region_with ((try refine⟨trivial,?_⟩);(try refine⟨fun h=>(by cases h),?_⟩);refine(CallsIn.inRound l (callsIn_wide.2 (rule_call w w.heap.size cx dx _ HX.out (HB1.out.trans (hb12d.mono hn1)) (Nat.le_trans hn1 hb12d.size) (HT1.out.below hb12d) q45))).mono ?_;rintro e w3 ⟨rfl,hb3⟩;have hb13:=hb12d.trans (hb3.mono hb12d.size);have tf3:=TFF.out w3 hb13;clear hb12d hb3;obtain⟨i1,i2,_,_,_,_,_,_,_⟩:=tf3)) <;>
   (have r2:chkItem (p+1) (lvl,dx)=ruleE dx:=(by rw[HCI.out,if_neg (by omega),if_neg (by omega),q3,if_neg (by decide),if_neg (by omega),q5,if_neg (by decide)])
    have R2:=hid r2
    clear r2
    gi_wp2
    exact LEAVE.out _ _ _ hb13 R2.out q6)
 case done =>
  rintro D ys W hD hS ⟨h4,h2,h3,hb,hch,_⟩ hK
  have c2:=cellOf h2 0
  have z2:=freeOf h2 0
  (try dsimp only at c2)
  gi_wp2
  have hKo:(W.setCell ⟨w.heap.size+1,0,none⟩ (.int .i64 0)).heap[D]?=some (.deferred (some [])):=heapSetOther _ _ hK (by dsimp only;omega)
  have hr:=heapGrown (grownBy_putObj' (W.setCell ⟨w.heap.size+1,0,none⟩ (.int .i64 0)) D (.deferred none)) (heapSet (o:=0) (.int .i64 0) h2) (fun e=>by cases e;omega)
  refine⟨by simp,.inl ⟨_,_,rfl,run_takeDeferred hKo,?_⟩⟩
  refine⟨.int .i64 0,by simp[results,Tryz.results66,go_sem,cellOf hr],?_,?_⟩
  ·rw[chkVal,←hS,hch]
  ·exact(hb.setCell (p:=⟨w.heap.size+1,0,none⟩) (by dsimp only;omega) _).trans (belowK_b (w:=w) (Nat.le_refl _) _ D _ _ (by omega) hKo rfl rfl)
 case stop =>
  rintro D cd pre W hD hpf ⟨rfl,hne,h2,hb⟩ hK
  gi_wp2
  have hr:=heapGrown (grownBy_putObj' W D (.deferred none)) h2 (fun e=>by cases e;omega)
  refine⟨by simp,.inl ⟨_,_,rfl,run_takeDeferred hK,?_⟩⟩
  refine⟨.int .i64 (chkGo 0 (List.map Item.dat pre)),by simp[results,Tryz.results66,go_sem,cellOf hr],?_,?_⟩
  ·rw[chkVal,chkGo_prefix hpf hne]
  ·exact hb.trans (belowK_b (w:=w) (Nat.le_refl _) _ D _ _ (by omega) hK rfl rfl)
end
section
open Go Go.RowKit Go.Shelf
theorem check_later (c:VC) (d:Val) (w:World) (hd:IsVal (· < w.heap.size) w c d) (hT:Tabs w) (w1:World) (hb:Below w.heap.size w w1):Calls Tryz.prog 66 #[c.v] w1 (fun e w'=>e=.returned (.int .i64 (chkVal d))∧Below w1.heap.size w1 w') :=
 check_call c d w1 (hd.same fun b h=>⟨Nat.lt_of_lt_of_le h hb.size,hb.block b h⟩) (hT.below hb)
end
section
open Go Go.RowKit Go.Shelf
end
end Go.Proofs.YtmgpghoamapfgaaGreatDoor
