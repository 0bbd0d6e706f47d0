/-
  A region that draws its order inside a loop over a function: walked as outside of one (no defer in it, nothing lets the memory run out). No program in sight.
-/
import Derived.Test.YtkljbfaemahchaaGreatDoorMP1Mrg
import Derived.OrdersIn
import Derived.RangeFuncCalls
import Derived.TacticsIn
import Derived.Test.YtkljbfaemahchaaGreatDoorMP39Mrg
import Derived.Test.YtkljbfaemahchaaGreatDoorMP19Mrg
import Derived.RangeFuncNested
import Derived.Maps.OwnIn
import Derived.Deep.AppendLies
import Derived.Test.YtkljbfaemahchaaGreatDoorMP5Mrg
namespace Go.Proofs.YtkljbfaemahchaaGreatDoor
set_option linter.unusedVariables false
set_option linter.unusedSimpArgs false
section
open Go Go.RowKit
section
variable {P : Program} {l : List Oper} {Q : Exit → Act → World → Prop}
theorem wpAny_of_split {a : Act} {w : World} (m : Nat) (S : World → Prop) (hP : P.follows .mixedOrders = true) (hok : tailOk l.toArray m = true) (hgo : guardsOk l m = true) (hm : decide (m ≤ l.length) = true) (hS : S w.drew)
 (h : S w.drew → wpAnyH P .any (l.take m).toArray (fun e a w => match e with | .normal => wpList P (l.drop m).toArray Q (l.drop m) a w | e => Q e a w) S m (Array.replicate m false) a w.drew) : wpAny P .any l.toArray Q l.toArray.size (Array.replicate l.toArray.size false) a w.drew:=by
 have hm' : m ≤ l.length:=of_decide_eq_true hm
 have h1:=wpAny_of_held _ _ _ _ (h hS)
 have mono : ∀ (fuel : Nat) (L : Array Bool) (a : Act) (w : World),wpAny P .any (l.take m).toArray (fun e a w => match e with | .normal => wpList P (l.drop m).toArray Q (l.drop m) a w | e => Q e a w) fuel L a w →
  wpAny P .any (l.take m).toArray (fun e a w => match e with | .normal => wpOps P l.toArray Q (List.range' m (l.length - m)) a w | e => Q e a w) fuel L a w:=by
  have hn : ∀ a w,wpList P (l.drop m).toArray Q (l.drop m) a w → wpOps P l.toArray Q (List.range' m (l.length - m)) a w:=fun a w h => by
   have e:=wpOps_eq_wpList (P:=P) (Q:=Q) (ops:=(l.drop m).toArray) (l.drop m) 0 (fun j => by simp)
   rw [← e] at h
   have:=wpOps_drop hok _ 0 a w h
   simpa using this
  have step : ∀ {i : Nat} {K K' : Act → World → Prop} {a : Act} {w : World},(∀ a w,K a w → K' a w) → wpOp P (l.take m).toArray (fun e a w => match e with | .normal => wpList P (l.drop m).toArray Q (l.drop m) a w | e => Q e a w) i K a w →
   wpOp P (l.take m).toArray (fun e a w => match e with | .normal => wpOps P l.toArray Q (List.range' m (l.length - m)) a w | e => Q e a w) i K' a w:=by
   intro i K K' a w hk h6
   refine wpOp_mono hk ?_
   unfold wpOp at h6 ⊢
   cases ho : (l.take m).toArray[i]? with
   | none => simpa [ho] using h6
   | some o =>
     simp only [ho] at h6 ⊢
     split
     ·rename_i hw
      simp only [hw,if_true] at h6
      rcases h6 with h6 | ⟨h6,h8⟩
      ·refine .inl ?_
       unfold Oper.wp at h6 ⊢
       generalize (execOp a.eval o).run P w = r at h6 ⊢
       cases r with
       | ok n w' =>
         cases n <;> simp only [Oper.upon] at h6 ⊢ <;> first
          | exact h6
          | (refine Calls.mono h6 fun e w'' he => ?_
             cases e <;> first | exact he | (obtain ⟨a0,w0,hq⟩:=he; exact ⟨a0,w0,hq⟩))
       | halt x w' => cases x <;> simp only [Oper.upon] at h6 ⊢ <;> exact h6
      ·exact .inr ⟨h6,h8⟩
     ·rename_i hw
      simp only [hw] at h6
      exact h6
  intro fuel
  induction fuel with
  | zero => intro L a w h; exact ⟨h.1,hn _ _ h.2⟩
  | succ fuel ih => intro L a w h; exact ⟨fun h0 => hn _ _ (h.1 h0),fun i hi => step (fun a w h => ih _ a w h) (h.2 i hi)⟩
 have h2:=wpAny_split hok hgo hm' m (Array.replicate m false) (Array.replicate l.toArray.size false) a w.drew (by simp) (by simp) (fun i hi => by rw [Array.getElem?_replicate,Array.getElem?_replicate,if_pos hi,if_pos (by simp; omega)]) (fun i _ hi => by simp [Array.getD_eq_getD_getElem?,hi]) (mono _ _ _ _ h1)
 have e : m + (l.length - m) = l.toArray.size:=by simp; omega
 rw [e] at h2
 exact h2
end
section
variable {P : Program} {ops : Array Oper} {Q : Exit → Act → World → Prop}
theorem oper_in {l n : Nat} {o : Oper} {a : Act} {w : World} {K : Act → World → Prop} (hnd : ∀ c,o.op ≠ .defer c) (h : o.wp P a w K Q) : o.wpIn (Fence.wide.inRound l) n P a w K Q:=by
 refine ⟨fun _ _ => trivial,?_⟩
 have e : (Fence.wide.inRound l).round = some l:=rfl
 rw [e,Oper.semAt_some l a.eval o hnd]
 unfold Oper.wp at h
 generalize (execOp a.eval o).run P w = r at h ⊢
 cases r with
 | ok x w' =>
   cases x <;> simp only [Oper.upon,Oper.uponIn] at h ⊢ <;> first
    | exact h
    | exact ⟨fun h => (by cases h),CallsIn.inRound l (callsIn_wide.2 h)⟩
    | exact ⟨fun h => (by cases h),fun c cs _ => by
       obtain ⟨v,w',r,s⟩:=h c cs
       exact ⟨v,w',r,stepsIn_wide.2 s⟩⟩
 | halt x w' => cases x <;> simp only [Oper.upon,Oper.uponIn] at h ⊢ <;> exact h
theorem wpOp_in {l n i : Nat} {a : Act} {w : World} {K : Act → World → Prop} (hnd : ∀ (j : Nat) (o : Oper),ops[j]? = some o → ∀ c,o.op ≠ .defer c) (hQ : ¬ LetsOut Q) (h : wpOp P ops Q i K a w) : wpOpIn (Fence.wide.inRound l) n P ops Q i K a w:=by
 unfold wpOp at h
 unfold wpOpIn
 cases ho : ops[i]? with
 | none => simpa [ho] using h
 | some o =>
   simp only [ho] at h ⊢
   split
   ·rename_i hw
    simp only [hw,if_true] at h
    rcases h with h | ⟨_,h⟩
    ·exact oper_in (hnd i o ho) h
    ·exact absurd h hQ
   ·rename_i hw
    simp only [hw] at h
    exact ⟨fun _ _ => trivial,h⟩
theorem wpAny_in {l n : Nat} {md : Region.Mode} (hnd : ∀ (j : Nat) (o : Oper),ops[j]? = some o → ∀ c,o.op ≠ .defer c) (hQ : ¬ LetsOut Q) : ∀ (fuel : Nat) (L : Array Bool) (a : Act) (w : World),wpAny P md ops Q fuel L a w → wpAnyIn (Fence.wide.inRound l) n P md ops Q fuel L a w:=by
 intro fuel
 induction fuel with
 | zero => intro L a w h; exact h
 | succ fuel ih => intro L a w h; exact ⟨h.1,fun i hi => wpOpIn_mono (fun a w h => ih _ a w h) (wpOp_in hnd hQ (h.2 i hi))⟩
def noDefers (ops : Array Oper) : Bool:=ops.all fun o => match o.op with
 | .defer _ => false
 | _ => true
theorem noDefers_of {ops : Array Oper} (h : noDefers ops = true) : ∀ (j : Nat) (o : Oper),ops[j]? = some o → ∀ c,o.op ≠ .defer c:=by
 intro j o ho c hc
 obtain ⟨hj,rfl⟩:=Array.getElem?_eq_some_iff.1 ho
 have h1:=(Array.all_eq_true.1 h) j hj
 rw [hc] at h1
 cases h1
end
theorem wpIn_region_split {P : Program} {l : List Oper} {Q : Exit → Act → World → Prop} {id lp n : Nat} {a : Act} {w : World} (m : Nat) (S : World → Prop) (hP : P.follows .mixedOrders = true) (hok : tailOk l.toArray m = true) (hgo : guardsOk l m = true) (hm : decide (m ≤ l.length) = true) (hnd : noDefers l.toArray = true) (hQ : ¬ LetsOut Q) (hS : S w.drew)
 (h : S w.drew → wpAnyH P .any (l.take m).toArray (fun e a w => match e with | .normal => wpList P (l.drop m).toArray Q (l.drop m) a w | e => Q e a w) S m (Array.replicate m false) a w.drew) : (Code.region id l.toArray true).wpIn (Fence.wide.inRound lp) n P Q a w :=
 wpIn_region_any hP (wpAny_in (noDefers_of hnd) hQ _ _ _ _ (wpAny_of_split m S hP hok hgo hm hS h))
end
section
open Go Go.RowKit Go.Shelf
attribute [local go_sem] Oper.semAt_some
theorem row_succ {w : World} {base : Nat} {e : TypeId} {size n : Nat} {v : Value} {xs : List Value} (h : w.ownsRow base e size v (n + 1) xs) : ∃ g cap,v = .slice (some ⟨g,0,none⟩) (n + 1) cap:=by
 rcases h.2 with ⟨_,h0⟩ | ⟨g,cap,cur,hv,_⟩
 ·omega
 ·exact ⟨g,cap,hv⟩
theorem infoMsg : (Tryz.prog.info? 66).map (fun i => (i.zero,i.size,i.bytes)) = some (some (.agg #[.int .i64 0,.slice none 0 0,.int .i64 0,.slice none 0 0,.int .i64 0,.int .i64 0,.int .i64 0,.string ByteArray.empty,.slice none 0 0,.slice none 0 0]),10,152):=by kernel_rfl
def noVal : Val:=.mk 0 0 0 ⟨#[]⟩ [] [] []
def partP (d : Msg) (bs : List Val) (x : Nat × Nat) : Msg:=⟨⟨d.st.e,d.st.ps ++ [(x.1 : Int)]⟩,(x.2 : Int),d.es,(bs[x.1]?).getD noVal⟩
abbrev partF {n : Nat} (d : Msg) (bs : List Val) (x : Sh n) : Msg:=partP d bs x.1
def partsL (d : Msg) (M : Nat) (bs : List Val) : List Msg:=(shareL M bs.length).map (partP d bs)
set_option maxRecDepth 100000 in
set_option maxHeartbeats 8000000 in
theorem partsM_call (c : MC) (d : Msg) (pa : Option Addr) (pn pc : Nat) (bs : List Val) (w : World) (M : Nat) (hd : IsMsg (· < w.heap.size) w c d) (hlen : pn = bs.length) (hcap : pn ≤ pc)
 (hv : bs = [] ∨ ∃ b o,pa = some ⟨b,o,none⟩ ∧ b < w.heap.size ∧ IsVals (· < w.heap.size) w b o bs) (hM : d.m = (M : Int)) (hMle : M ≤ 1099511627776) (hn : pn ≤ 1000) (hst : c.st.n ≤ 1000000) :
 Calls Tryz.prog 87 #[c.v,.slice pa pn pc] w fun e w' => ∃ a c',e = .returned (.slice a pn c') ∧ Below w.heap.size w w' ∧ IsMsgs (fun b => w.heap.size ≤ b ∧ b < w'.heap.size) w' a pn c' (partsL d M bs):=by
 have HCM : Hid (c.m = (M : Int)):=hid (hd.m.trans hM)
 have HLEN:=hid hlen
 have HD:=hid hd
 have HV:=hid hv
 clear hlen hM hv hd
 refine (callsIn_wide (n:=3)).1 ?_
 refine callsIn_of_wp_marks Tryz.func87 rfl trivial ?_ rfl
 simp only [Tryz.ntmps87,List.size_toArray,List.length_cons,List.length_nil,Nat.reduceAdd,Nat.reduceSub,Array.replicate_succ,Array.replicate_zero,List.push_toArray,List.append_toArray,List.nil_append,List.cons_append]
 gi_wp2_with ((try refine ⟨trivial,?_⟩); (try refine ⟨fun h => (by cases h),?_⟩); gi_at_call 149; refine (callsIn_wide.2 (shares_call _ _ _)).mono ?_; rintro e w' ⟨rfl,rfl⟩)
 obtain ⟨wl,hwl⟩ : ∃ wl,wl = (((((w.alloc (.cells #[.int .i64 c.st.e,.slice c.st.a c.st.n c.st.c,.int .i64 c.m,.slice c.a c.n c.c,.int .i64 c.b.k,.int .i64 c.b.i,.int .i64 c.b.s,.string c.b.t,.slice c.b.la c.b.ll c.b.lc,.slice c.b.fa c.b.fl c.b.fc] 66)).alloc (.cells #[.slice pa pn pc] 40)).alloc (.cells #[.slice none 0 0] 137)).alloc (.cells #[.int .i64 c.m] 3)).alloc (.cells #[.int .i64 pn] 3)):=⟨_,rfl⟩
 have o0 : wl.heap[w.heap.size]? = some (.cells #[.int .i64 c.st.e,.slice c.st.a c.st.n c.st.c,.int .i64 c.m,.slice c.a c.n c.c,.int .i64 c.b.k,.int .i64 c.b.i,.int .i64 c.b.s,.string c.b.t,.slice c.b.la c.b.ll c.b.lc,.slice c.b.fa c.b.fl c.b.fc] 66 (0,0)):=by rw [hwl]; exact heapAlloc _ (heapAlloc _ (heapAlloc _ (heapAlloc _ (heap_alloc_new w _))))
 have o1 : wl.heap[w.heap.size + 1]? = some (.cells #[.slice pa pn pc] 40 (0,0)):=by rw [hwl]; exact heapAlloc _ (heapAlloc _ (heapAlloc _ (heapNewAt _ _ _ (by simp))))
 have o2 : wl.heap[w.heap.size + 2]? = some (.cells #[.slice none 0 0] 137 (0,0)):=by rw [hwl]; exact heapAlloc _ (heapAlloc _ (heapNewAt _ _ _ (by simp)))
 have o3 : wl.heap[w.heap.size + 3]? = some (.cells #[.int .i64 c.m] 3 (0,0)):=by rw [hwl]; exact heapAlloc _ (heapNewAt _ _ _ (by simp))
 have o4 : wl.heap[w.heap.size + 4]? = some (.cells #[.int .i64 pn] 3 (0,0)):=by rw [hwl]; exact heapNewAt _ _ _ (by simp)
 have hsz : wl.heap.size = w.heap.size + 5:=by rw [hwl]; simp
 have hbel : Below w.heap.size w wl:=by rw [hwl]; exact ((((((Below.refl _ w).alloc (Nat.le_refl _) _).alloc (by simp) _).alloc (by simp; omega) _).alloc (by simp; omega) _).alloc (by simp; omega) _)
 rw [← hwl]
 clear hwl
 refine wpIn_rangeFunc_ownH rfl (by omega) (gf:=229) (lb:=#[.pointer (some ⟨w.heap.size + 4,0,none⟩),.pointer (some ⟨w.heap.size + 3,0,none⟩)]) rfl trivial (enters_of Tryz.func229 (by kernel_rfl) rfl)
  (shares_stops (3 - 1) (w.heap.size + 4) (w.heap.size + 3) M pn wl hMle (by omega) o4 (by rw [← HCM.out]; exact o3)) (fun h k b o hb ho hc => k b o hb (h b o hb ho hc) hc) (fun W l o o' hl => kb_b (w:=wl) W l o o' hl) (Below.refl _ _) (fun _ => rfl)
  (fun pre W => ∃ v,W.heap[w.heap.size + 2]? = some (.cells #[v] 137 (0,0)) ∧ BuiltM 66 wl.heap.size W v pre.length (pre.map (partF d bs)) ∧ W.heap[w.heap.size]? = some (.cells #[.int .i64 c.st.e,.slice c.st.a c.st.n c.st.c,.int .i64 c.m,.slice c.a c.n c.c,.int .i64 c.b.k,.int .i64 c.b.i,.int .i64 c.b.s,.string c.b.t,.slice c.b.la c.b.ll c.b.lc,.slice c.b.fa c.b.fl c.b.fc] 66 (0,0)) ∧ W.heap[w.heap.size + 1]? = some (.cells #[.slice pa pn pc] 40 (0,0)) ∧ W.heap[w.heap.size + 3]? = some (.cells #[.int .i64 c.m] 3 (0,0)) ∧ W.heap[w.heap.size + 4]? = some (.cells #[.int .i64 pn] 3 (0,0)) ∧ Below w.heap.size w W ∧ wl.heap.size ≤ W.heap.size)
  (fun cd pre W => False)
  (fun s A B row hs hg hr => ?hI)
  (fun cd s A B row hs hg hr => hs)
  ⟨_,o2,BuiltM.nil _ _ _ _,o0,o1,o3,o4,hbel,Nat.le_refl _⟩
  (fun x a' W => a' = { tmps:=#[c.v,.slice pa pn pc,.pointer (some ⟨w.heap.size,0,none⟩),.pointer (some ⟨w.heap.size + 1,0,none⟩),.slice none 0 0,.pointer (some ⟨w.heap.size + 1 + 1,0,none⟩),.int .i64 x.1.1,.int .i64 x.1.2,undef,
    .pointer (some ⟨w.heap.size,2,none⟩),.int .i64 c.m,.slice pa pn pc,.int .i64 pn,.func (.func 229) #[] #[.pointer (some ⟨w.heap.size + 1 + 1 + 1 + 1,0,none⟩),.pointer (some ⟨w.heap.size + 1 + 1 + 1,0,none⟩)],.int .i64 x.1.1,.int .i64 x.1.2,undef,undef,undef,undef,undef,undef,undef,undef,undef,undef,undef,undef,undef,undef,undef,undef,undef,undef],defers:=[] })
  (fun x a' s A B row hs hg hr => hs) ?assign ?body ?done ?stop
 case hI =>
  obtain ⟨v,h1,h2,h3,h4,h5,h6,h7,h8⟩:=hs
  have hne : ∀ k,k < wl.heap.size → some k ≠ row:=fun k hk e => by have:=(hr _ e.symm).1; omega
  exact ⟨v,heapGrown hg h1 (hne _ (by omega)),h2.grown hg (fun r e => (hr r e).2),heapGrown hg h3 (hne _ (by omega)),heapGrown hg h4 (hne _ (by omega)),heapGrown hg h5 (hne _ (by omega)),heapGrown hg h6 (hne _ (by omega)),h7.grown hg (by omega) (fun k e => by have:=(hr _ e).1; omega),by have:=hg.size; omega⟩
 case assign =>
  intro l pre x W K hi hK
  simp only [shEncs]
  gi_wp2
  exact hK _ _ (KeepsFrom.refl _ _) (fun b o _ h _ => h) hi (by first | rfl | kernel_rfl)
 case body =>
  rintro l pre x a' W hl ⟨_,hloop⟩ ⟨v,g2,hbm,g0,g1,g3,g4,hbW,hszW⟩ rfl hlt
  clear hloop hl
  have HPL:=hid hlt
  clear hlt
  obtain ⟨⟨xi,xs⟩,hxi,hxs⟩:=x
  dsimp only at hxi hxs ⊢
  have hxb : xi < bs.length:=by rw [← HLEN.out]; exact hxi
  rcases HV.out with h0 | ⟨b,o,rfl,hb,hvs⟩
  ·exfalso; rw [h0] at hxb; simp at hxb
  obtain ⟨y,hy,hyv⟩:=hvs.get xi hxb
  obtain ⟨e0,e1,e2,e3,e4,e5⟩:=hy.same (w':=W) (hbW.block b hb)
  have hWI : ∀ w',Below W.heap.size W w' → Calls Tryz.prog 150 #[.agg #[.int .i64 c.st.e,.slice c.st.a c.st.n c.st.c,.int .i64 c.m,.slice c.a c.n c.c,.int .i64 c.b.k,.int .i64 c.b.i,.int .i64 c.b.s,.string c.b.t,.slice c.b.la c.b.ll c.b.lc,.slice c.b.fa c.b.fl c.b.fc],.agg #[.int .i64 y.k,.int .i64 y.i,.int .i64 y.s,.string y.t,.slice y.la y.ll y.lc,.slice y.fa y.fl y.fc]] w' fun e w2 => ∃ c1 : MC,e = .returned c1.v ∧ Below w'.heap.size w' w2 ∧ IsMsg (fun b => w'.heap.size ≤ b ∧ b < w2.heap.size) w2 c1 { d with b:=bs[xi] }:=fun w' h => by
   have hbw:=hbW.trans (h.mono (by omega))
   have hs:=h.size
   refine (with_call c d y bs[xi] w' (HD.out.same fun b q => ⟨by omega,hbw.block b q⟩) (hyv.same fun b q => ⟨by omega,hbw.block b q⟩)).mono fun e w2 hp => ?_
   obtain ⟨c1,he,hb2,hi⟩:=hp
   exact ⟨c1,he,hb2,hi⟩
  have HWI:=hid hWI
  clear hWI hy hyv hvs
  have HC : Hid (∀ w',Below W.heap.size W w' → w'.cell? ⟨w.heap.size,0,none⟩ = some (.int .i64 c.st.e) ∧ w'.cell? ⟨w.heap.size,1,none⟩ = some (.slice c.st.a c.st.n c.st.c) ∧ w'.cell? ⟨w.heap.size,2,none⟩ = some (.int .i64 c.m) ∧ w'.cell? ⟨w.heap.size,3,none⟩ = some (.slice c.a c.n c.c) ∧ w'.cell? ⟨w.heap.size,4,none⟩ = some (.int .i64 c.b.k) ∧ w'.cell? ⟨w.heap.size,5,none⟩ = some (.int .i64 c.b.i) ∧ w'.cell? ⟨w.heap.size,6,none⟩ = some (.int .i64 c.b.s) ∧ w'.cell? ⟨w.heap.size,7,none⟩ = some (.string c.b.t) ∧ w'.cell? ⟨w.heap.size,8,none⟩ = some (.slice c.b.la c.b.ll c.b.lc) ∧ w'.cell? ⟨w.heap.size,9,none⟩ = some (.slice c.b.fa c.b.fl c.b.fc) ∧ w'.cell? ⟨w.heap.size + 1,0,none⟩ = some (.slice (some ⟨b,o,none⟩) pn pc) ∧ w'.cell? ⟨b,o + xi * 6,none⟩ = some (.int .i64 y.k) ∧ w'.cell? ⟨b,o + xi * 6 + 1,none⟩ = some (.int .i64 y.i) ∧ w'.cell? ⟨b,o + xi * 6 + 2,none⟩ = some (.int .i64 y.s) ∧ w'.cell? ⟨b,o + xi * 6 + 3,none⟩ = some (.string y.t) ∧ w'.cell? ⟨b,o + xi * 6 + 4,none⟩ = some (.slice y.la y.ll y.lc) ∧ w'.cell? ⟨b,o + xi * 6 + 5,none⟩ = some (.slice y.fa y.fl y.fc)):=hid fun w' h => by
   have h0:=heapExt h g0
   have h1:=heapExt h g1
   have hbk : ∀ j,w'.cell? ⟨b,j,none⟩ = W.cell? ⟨b,j,none⟩:=fun j => World.cell?_of_block (w:=W) (a:=⟨b,j,none⟩) (h.block b (World.block_lt_of_cell? W _ e0))
   exact ⟨cellOf h0 0,cellOf h0 1,cellOf h0 2,cellOf h0 3,cellOf h0 4,cellOf h0 5,cellOf h0 6,cellOf h0 7,cellOf h0 8,cellOf h0 9,cellOf h1 0,(hbk _).trans e0,(hbk _).trans e1,(hbk _).trans e2,(hbk _).trans e3,(hbk _).trans e4,(hbk _).trans e5⟩
  clear e0 e1 e2 e3 e4 e5
  have GG:=hid (And.intro g0 (And.intro g1 (And.intro g2 (And.intro g3 (And.intro g4 hbm)))))
  have HBW:=hid hbW
  have hlt1 : (xi : Int) < (pn : Int):=by omega
  have hxi0 : (0 : Int) ≤ (xi : Int):=by omega
  have hpn63 : (pn : Int) ≤ 9223372036854775807:=by omega
  have HSZ:=hid hszW
  have HS5:=hid hsz
  clear g0 g1 g2 g3 g4 hbm hbW hszW hsz o0 o1 o2 o3 o4 hbel
  gi_upto_region 5 with (fail)
  refine wpIn_region_split 7 (fun w' => Below W.heap.size W w') (by kernel_rfl) (by kernel_rfl) (by kernel_rfl) (by decide) (by kernel_rfl) (fun ⟨_,_,h⟩ => h) ((Below.refl _ _).drew) (fun hS => ?_)
  simp only [List.take_succ_cons,List.take_zero,List.drop_succ_cons,List.drop_zero]
  refine tkQ 0 (v:=?_) ?_ hS ?_; rotate_left; · intro w' hw'; have hcells:=HC.out w' hw'; go_simp; (try with_reducible rfl)
  simp only [Act.put,pt4,pt5,pt6]
  refine tkQ 1 (v:=?_) ?_ hS ?_; rotate_left; · intro w' hw'; have hcells:=HC.out w' hw'; go_simp; (try with_reducible rfl)
  simp only [Act.put,pt4,pt5,pt6]
  refine tkQ 2 (v:=?_) ?_ hS ?_; rotate_left; · intro w' hw'; have hcells:=HC.out w' hw'; go_simp; (try with_reducible rfl)
  simp only [Act.put,pt4,pt5,pt6]
  refine tkQ 3 (v:=?_) ?_ hS ?_; rotate_left; · intro w' hw'; have hcells:=HC.out w' hw'; go_simp; (try with_reducible rfl)
  simp only [Act.put,pt4,pt5,pt6]
  refine tkQ 4 (v:=?_) ?_ hS ?_; rotate_left; · intro w' hw'; have hcells:=HC.out w' hw'; go_simp; (try with_reducible rfl)
  simp only [Act.put,pt4,pt5,pt6]
  refine wpAnyH_ready (rs:=[5,6]) (by kernel_rfl) (by simp) ?_
  refine AllReadyH.cons (o:=_) rfl (fun K hK => ?_) ?_
  ·go_simp; go_at_call 150; refine (HWI.out _ hS).mono ?_
   rintro e w1 ⟨c1,rfl,hb1,hi1⟩
   refine hK.out _ _ (hS.trans (hb1.mono hS.size)) (fun hS => ?_)
   clear hK K
   (try simp only [Act.put,pt4,pt5,pt6])
   refine wpAnyH_ready (rs:=[6]) (by kernel_rfl) (by simp) ?_
   refine arQ fun K hK => ?_
   go_simp
   refine hK.out _ _ (hS.trans (((Below.refl _ _).alloc (Nat.le_refl _) _).mono hS.size)) (fun hS => ?_)
   clear hK K
   (try simp only [Act.put,pt4,pt5,pt6])
   refine wpAnyH_done (by kernel_rfl) ?_ _
   (try dsimp only)
   clear HC HWI
   go_wp2
   have hS1 : Below W.heap.size W w1:=by first | exact hS | exact (Below.refl _ W).drew.trans (hb1.mono (Nat.le_refl _))
   obtain ⟨w2,hw2⟩ : ∃ w2,w2 = (w1.alloc (.cells #[.int .i64 c1.st.e,.slice c1.st.a c1.st.n c1.st.c,.int .i64 c1.m,.slice c1.a c1.n c1.c,.int .i64 c1.b.k,.int .i64 c1.b.i,.int .i64 c1.b.s,.string c1.b.t,.slice c1.b.la c1.b.ll c1.b.lc,.slice c1.b.fa c1.b.fl c1.b.fc] 66)):=⟨_,rfl⟩
   obtain ⟨T,hT⟩ : ∃ T,T = w1.heap.size:=⟨_,rfl⟩
   have F1 : w2.heap[T]? = some (.cells #[.int .i64 c1.st.e,.slice c1.st.a c1.st.n c1.st.c,.int .i64 c1.m,.slice c1.a c1.n c1.c,.int .i64 c1.b.k,.int .i64 c1.b.i,.int .i64 c1.b.s,.string c1.b.t,.slice c1.b.la c1.b.ll c1.b.lc,.slice c1.b.fa c1.b.fl c1.b.fc] 66 (0,0)):=by rw [hw2,hT]; exact heap_alloc_new w1 _
   have F2 : Below W.heap.size W w2:=by rw [hw2]; exact hS1.alloc hS1.size _
   have F3 : W.heap.size ≤ T:=by rw [hT]; exact hS1.size
   have F4 : IsMsg (fun b => W.heap.size ≤ b ∧ b < w2.heap.size ∧ b ≠ T) w2 c1 { d with b:=bs[xi] }:=hi1.same fun b hb => by (have hb1':=hb.1; simp only [World.size_drew] at hb1'; rw [hw2,hT]; exact ⟨⟨hb1',by simp; omega,by omega⟩,Below.heap_alloc _ _ _ hb.2⟩)
   rw [← hw2,← hT]
   clear hS1
   clear hw2 hT
   have F1':=hid F1
   have F2':=hid F2
   have F4':=hid F4
   clear F1 F2 F4 hi1 hb1 hS
   obtain ⟨g0,g1,g2,g3,g4,hbm⟩:=GG.out
   have p0:=cellOf (heapExt F2'.out g0) 0
   have p1:=cellOf (heapExt F2'.out g0) 1
   (try dsimp only at p0 p1)
   have HBM:=hid hbm
   have G2:=hid g2
   have GK:=hid (And.intro g0 (And.intro g1 (And.intro g3 g4)))
   clear g0 g1 g2 g3 g4 hbm
   have hbw2 : Below w.heap.size w w2:=HBW.out.trans (F2'.out.mono HBW.out.size)
   have UN:=hid (under_call c.st d.st (xi : Int) w2 (show I64 (xi : Int) from ⟨by omega,by omega⟩) hst (HD.out.st.same fun b q => ⟨Nat.lt_of_lt_of_le q hbw2.size,hbw2.block b q⟩))
   clear hbw2
   gi_upto_region 7 with ((try refine ⟨trivial,?_⟩); (try refine ⟨fun h => (by cases h),?_⟩); gi_at_call 151; refine (CallsIn.inRound l (callsIn_wide.2 UN.out)).mono ?_; rintro e w3 ⟨cs,rfl,hb3,hi3⟩; have k0:=heapExt hb3 F1'.out; have z0:=cellOf k0 0; have z1:=cellOf k0 1; have z2:=cellOf k0 2; have y0:=freeOf k0 0; have y1:=freeOf k0 1; have y2:=freeOf k0 2; (try dsimp only at z0 z1 z2); have K3:=hid k0; have HB3:=hid hb3; have HI3:=hid hi3; clear k0 hb3 hi3 p0 p1)
   clear z0 z1 z2 y0 y1 y2
   obtain ⟨w4,hw4⟩ : ∃ w4,w4 = (setTwo w3 T cs).setCell ⟨T,2,none⟩ (.int .i64 xs):=⟨_,rfl⟩
   have e1 : w4.heap[T]? = some (.cells #[.int .i64 cs.e,.slice cs.a cs.n cs.c,.int .i64 xs,.slice c1.a c1.n c1.c,.int .i64 c1.b.k,.int .i64 c1.b.i,.int .i64 c1.b.s,.string c1.b.t,.slice c1.b.la c1.b.ll c1.b.lc,.slice c1.b.fa c1.b.fl c1.b.fc] 66 (0,0)):=by
    rw [hw4]
    have e:=heapSet (o:=2) (Value.int .i64 xs) (heapSet (o:=1) (Value.slice cs.a cs.n cs.c) (heapSet (o:=0) (Value.int .i64 cs.e) K3.out))
    simp only [List.setIfInBounds_toArray,List.set_cons_zero,List.set_cons_succ] at e
    exact e
   have e2 : ∀ b,b ≠ T → w4.heap[b]? = w3.heap[b]?:=fun b hb => by rw [hw4]; exact (Below.heap_setCell _ _ _ _ hb).trans (setTwo_other _ _ _ hb)
   have e3 : w4.heap.size = w3.heap.size:=by rw [hw4]; simp [World.setCell]
   have e4 : Below W.heap.size W w4:=by rw [hw4]; exact ((F2'.out.trans (HB3.out.mono F2'.out.size)).trans (setTwo_below w3 T W.heap.size F3)).setCell (p:=⟨T,2,none⟩) F3 _
   have hs3:=HB3.out.size
   have hs2:=F2'.out.size
   have e5 : IsMsg (fun b => W.heap.size ≤ b ∧ b < w4.heap.size) w4 ⟨cs,xs,c1.a,c1.n,c1.c,c1.b⟩ (partP d bs (xi,xs)):=by
    have hg : (bs[xi]?).getD noVal = bs[xi]:=by simp [hxb]
    have hsame : ∀ b,(W.heap.size ≤ b ∧ b < w2.heap.size ∧ b ≠ T) → (W.heap.size ≤ b ∧ b < w4.heap.size) ∧ w4.heap[b]? = w2.heap[b]?:=fun b hb => ⟨⟨hb.1,by omega⟩,(e2 b hb.2.2).trans (HB3.out.block b hb.2.1)⟩
    refine ⟨HI3.out.same fun b hb => ⟨⟨by omega,by omega⟩,e2 b (by have:=ltOf F1'.out; omega)⟩,rfl,⟨by simp only [partP]; omega,by simp only [partP]; omega⟩,F4'.out.es.same hsame,?_⟩
    simp only [partP,hg]
    exact F4'.out.b.same hsame
   dsimp only [setTwo] at hw4
   rw [← hw4]
   obtain ⟨va,vcap,rfl,_,_,_⟩:=HBM.out.shape
   obtain ⟨ti,hi,hz0,hz1,hz2⟩:=info_parts infoMsg
   have hpl:=HPL.out
   have hcap1 : pre.length + 1 ≤ maxLen:=by unfold maxLen; omega
   have hcap2 : (pre.length + 1) * 152 ≤ 140737488355328:=by omega
   have e6:=heapExt e4 G2.out
   obtain ⟨csl,hcl,hown,hel⟩:=HBM.out.ext e4
   have x0:=cellOf e1 0
   have x1:=cellOf e1 1
   have x2:=cellOf e1 2
   have x3:=cellOf e1 3
   have x4:=cellOf e1 4
   have x5:=cellOf e1 5
   have x6:=cellOf e1 6
   have x7:=cellOf e1 7
   have x8:=cellOf e1 8
   have x9:=cellOf e1 9
   have sv:=cellOf e6 0
   (try dsimp only at x0 x1 x2 x3 x4 x5 x6 x7 x8 x9 sv)
   have hwsz : wl.heap.size = w.heap.size + 5:=HS5.out
   have hwlW : wl.heap.size ≤ W.heap.size:=HSZ.out
   have hne : ∀ j,j < wl.heap.size → some j ≠ (Value.slice va pre.length vcap).ownBlock:=fun j hj e => by have:=(HBM.out.own j e.symm).1; omega
   have HEL:=hid hel
   have HCL:=hid hcl
   have E5:=hid e5
   have E6:=hid e6
   have E4:=hid e4
   have HNE:=hid hne
   have HOWN:=hid hown
   have HW4:=hid hw4
   clear hel hcl e5 e6 e1 e2 e3 hs3 hs2 e4 hne hown hw4
   have hbs4 : wl.heap.size ≤ w4.heap.size:=Nat.le_trans hwlW E4.out.size
   gi_wp2_with (gi_at_builtin; go_loud (refine wpListIn_append_own_at _ (by rfl) _ _ 137 (by rfl) wl.heap.size 66 ti _ 10 152 Tryz.underlying137 hi hz0 hz1 hz2 rfl (by omega) (.slice va pre.length vcap) pre.length (csl.flatMap MC.cs) (by rfl) (HOWN.out.alloc _) ⟨w4.heap.size,0,none⟩ 1 1 (MC.cs ⟨cs,xs,c1.a,c1.n,c1.c,c1.b⟩) (by rfl) (by rfl) (World.news_of_block (heap_alloc_new w4 _)) (by simp [MC.cs,Value.oneCell']) hcap1 hcap2 (by simp; omega) ?_); intro v' w5 hown2 hgrow hnil hat; obtain ⟨g,cap,rfl⟩ : ∃ g cap,v' = .slice (some ⟨g,0,none⟩) (pre.length + 1) cap:=row_succ hown2; have r0:=heapGrown hgrow (heapAlloc _ E6.out) (HNE.out (w.heap.size + 2) (by omega)); have q0:=cellOf r0 0; have q1:=freeOf r0 0; (try dsimp only at q0); have R0:=hid r0; have HO2:=hid hown2; have HGR:=hid hgrow; have HAT:=hid hat; clear r0 hown2 hgrow hat hnil)
   have hnb : ∀ k o,W.heap[k]? = some o → some k ≠ (Value.slice va pre.length vcap).ownBlock → k ≠ w.heap.size + 2 → (w5.setCell ⟨w.heap.size + 1 + 1,0,none⟩ (.slice (some ⟨g,0,none⟩) (pre.length + 1) cap)).heap[k]? = some o:=fun k o h h1 h2 => by
    refine (Below.heap_setCell _ _ _ _ (by dsimp only; omega)).trans ?_
    have hk:=ltOf (heapExt E4.out h)
    exact (HGR.out.block k (by simp; omega) h1).trans ((Below.heap_alloc _ _ _ hk).trans (heapExt E4.out h))
   have hsz5:=HGR.out.size
   simp only [World.size_alloc] at hsz5
   have hszW:=E4.out.size
   refine ⟨⟨by simp [World.setCell]; omega,fun k o hk h0 ho => hnb k o h0 (fun e => ?_) (by omega)⟩,fun b o hb ho _ => hnb b o ho (HNE.out b (by omega)) (by omega),_,heapSet (o:=0) _ R0.out,?_,hnb _ _ GK.out.1 (HNE.out _ (by omega)) (by omega),hnb _ _ GK.out.2.1 (HNE.out _ (by omega)) (by omega),hnb _ _ GK.out.2.2.1 (HNE.out _ (by omega)) (by omega),hnb _ _ GK.out.2.2.2 (HNE.out _ (by omega)) (by omega),?_,by simp [World.setCell]; omega⟩
   ·obtain ⟨_,_,hown0,_⟩:=HBM.out
    rcases hown0.2 with ⟨hv,_⟩ | ⟨g0,cap0,cur0,hv,_,hg0,_⟩
    ·rw [hv] at e; cases e
    ·rw [hv] at e; cases e; rw [hg0] at h0; cases h0; cases ho
   ·have hlen1 : (pre ++ [(⟨(xi,xs),hxi,hxs⟩ : Sh pn)]).length = pre.length + 1:=by simp
    rw [hlen1]
    refine BuiltM.set (BuiltM.push (N:=W.heap.size) (w1:=w4) (v:=.slice va pre.length vcap) (k:=pre.length) (l:=(pre ++ [(⟨(xi,xs),hxi,hxs⟩ : Sh pn)]).map (partF d bs)) (cs:=csl) (c:=⟨cs,xs,c1.a,c1.n,c1.c,c1.b⟩) HCL.out (fun j h h' => ?_) (by simp) ?_ hwlW (fun r e => (HBM.out.own r e).2) HO2.out HGR.out ?_) _ _ (by dsimp only; omega)
    ·have hj : j < pre.length:=by have:=HCL.out; omega
     have e : ((pre ++ [(⟨(xi,xs),hxi,hxs⟩ : Sh pn)]).map (partF d bs))[j] = (pre.map (partF d bs))[j]'(by simpa using hj):=by simp [List.getElem_append_left,hj]
     rw [e]
     exact HEL.out j h (by simpa using hj)
    ·have e : ((pre ++ [(⟨(xi,xs),hxi,hxs⟩ : Sh pn)]).map (partF d bs))[pre.length]'(by simp) = partP d bs (xi,xs):=by simp
     rw [e]
     exact E5.out
    ·rcases HAT.out with h | h
     ·exact .inl h.symm
     ·right; simpa [Value.ownBlock] using h
   ·exact ((((HBW.out.trans (E4.out.mono HBW.out.size)).alloc (by omega) _).grown HGR.out (by simp; omega) (fun k e => by have:=(HBM.out.own k e).1; omega)).setCell (p:=⟨w.heap.size + 1 + 1,0,none⟩) (by dsimp only; omega) _)
  refine arQ fun K hK => ?_
  go_simp
  refine hK.out _ _ (hS.trans (((Below.refl _ _).alloc (Nat.le_refl _) _).mono hS.size)) (fun hS => ?_)
  clear hK K
  (try simp only [Act.put,pt4,pt5,pt6])
  refine wpAnyH_ready (rs:=[5]) (by kernel_rfl) (by simp) ?_
  refine arQ fun K hK => ?_
  go_simp; go_at_call 150; refine (HWI.out _ hS).mono ?_
  rintro e w1 ⟨c1,rfl,hb1,hi1⟩
  refine hK.out _ _ (hS.trans (hb1.mono hS.size)) (fun hS => ?_)
  clear hK K
  (try simp only [Act.put,pt4,pt5,pt6])
  refine wpAnyH_done (by kernel_rfl) ?_ _
  (try dsimp only)
  have k0 : w1.heap[W.heap.size]? = some (.cells #[.int .i64 0,.slice none 0 0,.int .i64 0,.slice none 0 0,.int .i64 0,.int .i64 0,.int .i64 0,.string ByteArray.empty,.slice none 0 0,.slice none 0 0] 66 (0,0)):=heapExt hb1 (heap_alloc_new W.drew _)
  have z0:=cellOf k0 0
  have z1:=cellOf k0 1
  have z2:=cellOf k0 2
  have z3:=cellOf k0 3
  have z4:=cellOf k0 4
  have z5:=cellOf k0 5
  have z6:=cellOf k0 6
  have z7:=cellOf k0 7
  have z8:=cellOf k0 8
  have z9:=cellOf k0 9
  have y0:=freeOf k0 0
  have y1:=freeOf k0 1
  have y2:=freeOf k0 2
  have y3:=freeOf k0 3
  have y4:=freeOf k0 4
  have y5:=freeOf k0 5
  have y6:=freeOf k0 6
  have y7:=freeOf k0 7
  have y8:=freeOf k0 8
  have y9:=freeOf k0 9
  (try dsimp only at z0 z1 z2 z3 z4 z5 z6 z7 z8 z9)
  have K0:=hid k0
  clear k0 HC HWI
  go_wp2
  clear z0 y0 z1 y1 z2 y2 z3 y3 z4 y4 z5 y5 z6 y6 z7 y7 z8 y8 z9 y9
  obtain ⟨w2,hw2⟩ : ∃ w2,w2 = (setTen w1 W.heap.size c1):=⟨_,rfl⟩
  obtain ⟨T,hT⟩ : ∃ T,T = W.heap.size:=⟨_,rfl⟩
  have F1 : w2.heap[T]? = some (.cells #[.int .i64 c1.st.e,.slice c1.st.a c1.st.n c1.st.c,.int .i64 c1.m,.slice c1.a c1.n c1.c,.int .i64 c1.b.k,.int .i64 c1.b.i,.int .i64 c1.b.s,.string c1.b.t,.slice c1.b.la c1.b.ll c1.b.lc,.slice c1.b.fa c1.b.fl c1.b.fc] 66 (0,0)):=by rw [hw2,hT]; exact setTen_heap K0.out
  have F2 : Below W.heap.size W w2:=by rw [hw2]; exact hS.trans (setTen_below w1 _ _ (Nat.le_refl _))
  have F3 : W.heap.size ≤ T:=by rw [hT]; exact Nat.le_refl _
  have F4 : IsMsg (fun b => W.heap.size ≤ b ∧ b < w2.heap.size ∧ b ≠ T) w2 c1 { d with b:=bs[xi] }:=hi1.same fun b hb => by (have hb1':=hb.1; simp only [World.size_drew,World.size_alloc] at hb1'; rw [hw2,hT]; exact ⟨⟨by omega,by rw [setTen_size]; exact hb.2,by omega⟩,setTen_other _ _ _ (by omega)⟩)
  dsimp only [setTen] at hw2
  rw [← hw2,← hT]
  clear hw2 hT
  have F1':=hid F1
  have F2':=hid F2
  have F4':=hid F4
  clear F1 F2 F4 hi1 hb1 hS
  obtain ⟨g0,g1,g2,g3,g4,hbm⟩:=GG.out
  have p0:=cellOf (heapExt F2'.out g0) 0
  have p1:=cellOf (heapExt F2'.out g0) 1
  (try dsimp only at p0 p1)
  have HBM:=hid hbm
  have G2:=hid g2
  have GK:=hid (And.intro g0 (And.intro g1 (And.intro g3 g4)))
  clear g0 g1 g2 g3 g4 hbm
  have hbw2 : Below w.heap.size w w2:=HBW.out.trans (F2'.out.mono HBW.out.size)
  have UN:=hid (under_call c.st d.st (xi : Int) w2 (show I64 (xi : Int) from ⟨by omega,by omega⟩) hst (HD.out.st.same fun b q => ⟨Nat.lt_of_lt_of_le q hbw2.size,hbw2.block b q⟩))
  clear hbw2
  gi_upto_region 7 with ((try refine ⟨trivial,?_⟩); (try refine ⟨fun h => (by cases h),?_⟩); gi_at_call 151; refine (CallsIn.inRound l (callsIn_wide.2 UN.out)).mono ?_; rintro e w3 ⟨cs,rfl,hb3,hi3⟩; have k0:=heapExt hb3 F1'.out; have z0:=cellOf k0 0; have z1:=cellOf k0 1; have z2:=cellOf k0 2; have y0:=freeOf k0 0; have y1:=freeOf k0 1; have y2:=freeOf k0 2; (try dsimp only at z0 z1 z2); have K3:=hid k0; have HB3:=hid hb3; have HI3:=hid hi3; clear k0 hb3 hi3 p0 p1)
  clear z0 z1 z2 y0 y1 y2
  obtain ⟨w4,hw4⟩ : ∃ w4,w4 = (setTwo w3 T cs).setCell ⟨T,2,none⟩ (.int .i64 xs):=⟨_,rfl⟩
  have e1 : w4.heap[T]? = some (.cells #[.int .i64 cs.e,.slice cs.a cs.n cs.c,.int .i64 xs,.slice c1.a c1.n c1.c,.int .i64 c1.b.k,.int .i64 c1.b.i,.int .i64 c1.b.s,.string c1.b.t,.slice c1.b.la c1.b.ll c1.b.lc,.slice c1.b.fa c1.b.fl c1.b.fc] 66 (0,0)):=by
   rw [hw4]
   have e:=heapSet (o:=2) (Value.int .i64 xs) (heapSet (o:=1) (Value.slice cs.a cs.n cs.c) (heapSet (o:=0) (Value.int .i64 cs.e) K3.out))
   simp only [List.setIfInBounds_toArray,List.set_cons_zero,List.set_cons_succ] at e
   exact e
  have e2 : ∀ b,b ≠ T → w4.heap[b]? = w3.heap[b]?:=fun b hb => by rw [hw4]; exact (Below.heap_setCell _ _ _ _ hb).trans (setTwo_other _ _ _ hb)
  have e3 : w4.heap.size = w3.heap.size:=by rw [hw4]; simp [World.setCell]
  have e4 : Below W.heap.size W w4:=by rw [hw4]; exact ((F2'.out.trans (HB3.out.mono F2'.out.size)).trans (setTwo_below w3 T W.heap.size F3)).setCell (p:=⟨T,2,none⟩) F3 _
  have hs3:=HB3.out.size
  have hs2:=F2'.out.size
  have e5 : IsMsg (fun b => W.heap.size ≤ b ∧ b < w4.heap.size) w4 ⟨cs,xs,c1.a,c1.n,c1.c,c1.b⟩ (partP d bs (xi,xs)):=by
   have hg : (bs[xi]?).getD noVal = bs[xi]:=by simp [hxb]
   have hsame : ∀ b,(W.heap.size ≤ b ∧ b < w2.heap.size ∧ b ≠ T) → (W.heap.size ≤ b ∧ b < w4.heap.size) ∧ w4.heap[b]? = w2.heap[b]?:=fun b hb => ⟨⟨hb.1,by omega⟩,(e2 b hb.2.2).trans (HB3.out.block b hb.2.1)⟩
   refine ⟨HI3.out.same fun b hb => ⟨⟨by omega,by omega⟩,e2 b (by have:=ltOf F1'.out; omega)⟩,rfl,⟨by simp only [partP]; omega,by simp only [partP]; omega⟩,F4'.out.es.same hsame,?_⟩
   simp only [partP,hg]
   exact F4'.out.b.same hsame
  dsimp only [setTwo] at hw4
  rw [← hw4]
  obtain ⟨va,vcap,rfl,_,_,_⟩:=HBM.out.shape
  obtain ⟨ti,hi,hz0,hz1,hz2⟩:=info_parts infoMsg
  have hpl:=HPL.out
  have hcap1 : pre.length + 1 ≤ maxLen:=by unfold maxLen; omega
  have hcap2 : (pre.length + 1) * 152 ≤ 140737488355328:=by omega
  have e6:=heapExt e4 G2.out
  obtain ⟨csl,hcl,hown,hel⟩:=HBM.out.ext e4
  have x0:=cellOf e1 0
  have x1:=cellOf e1 1
  have x2:=cellOf e1 2
  have x3:=cellOf e1 3
  have x4:=cellOf e1 4
  have x5:=cellOf e1 5
  have x6:=cellOf e1 6
  have x7:=cellOf e1 7
  have x8:=cellOf e1 8
  have x9:=cellOf e1 9
  have sv:=cellOf e6 0
  (try dsimp only at x0 x1 x2 x3 x4 x5 x6 x7 x8 x9 sv)
  have hwsz : wl.heap.size = w.heap.size + 5:=HS5.out
  have hwlW : wl.heap.size ≤ W.heap.size:=HSZ.out
  have hne : ∀ j,j < wl.heap.size → some j ≠ (Value.slice va pre.length vcap).ownBlock:=fun j hj e => by have:=(HBM.out.own j e.symm).1; omega
  have HEL:=hid hel
  have HCL:=hid hcl
  have E5:=hid e5
  have E6:=hid e6
  have E4:=hid e4
  have HNE:=hid hne
  have HOWN:=hid hown
  have HW4:=hid hw4
  clear hel hcl e5 e6 e1 e2 e3 hs3 hs2 e4 hne hown hw4
  have hbs4 : wl.heap.size ≤ w4.heap.size:=Nat.le_trans hwlW E4.out.size
  gi_wp2_with (gi_at_builtin; go_loud (refine wpListIn_append_own_at _ (by rfl) _ _ 137 (by rfl) wl.heap.size 66 ti _ 10 152 Tryz.underlying137 hi hz0 hz1 hz2 rfl (by omega) (.slice va pre.length vcap) pre.length (csl.flatMap MC.cs) (by rfl) (HOWN.out.alloc _) ⟨w4.heap.size,0,none⟩ 1 1 (MC.cs ⟨cs,xs,c1.a,c1.n,c1.c,c1.b⟩) (by rfl) (by rfl) (World.news_of_block (heap_alloc_new w4 _)) (by simp [MC.cs,Value.oneCell']) hcap1 hcap2 (by simp; omega) ?_); intro v' w5 hown2 hgrow hnil hat; obtain ⟨g,cap,rfl⟩ : ∃ g cap,v' = .slice (some ⟨g,0,none⟩) (pre.length + 1) cap:=row_succ hown2; have r0:=heapGrown hgrow (heapAlloc _ E6.out) (HNE.out (w.heap.size + 2) (by omega)); have q0:=cellOf r0 0; have q1:=freeOf r0 0; (try dsimp only at q0); have R0:=hid r0; have HO2:=hid hown2; have HGR:=hid hgrow; have HAT:=hid hat; clear r0 hown2 hgrow hat hnil)
  have hnb : ∀ k o,W.heap[k]? = some o → some k ≠ (Value.slice va pre.length vcap).ownBlock → k ≠ w.heap.size + 2 → (w5.setCell ⟨w.heap.size + 1 + 1,0,none⟩ (.slice (some ⟨g,0,none⟩) (pre.length + 1) cap)).heap[k]? = some o:=fun k o h h1 h2 => by
   refine (Below.heap_setCell _ _ _ _ (by dsimp only; omega)).trans ?_
   have hk:=ltOf (heapExt E4.out h)
   exact (HGR.out.block k (by simp; omega) h1).trans ((Below.heap_alloc _ _ _ hk).trans (heapExt E4.out h))
  have hsz5:=HGR.out.size
  simp only [World.size_alloc] at hsz5
  have hszW:=E4.out.size
  refine ⟨⟨by simp [World.setCell]; omega,fun k o hk h0 ho => hnb k o h0 (fun e => ?_) (by omega)⟩,fun b o hb ho _ => hnb b o ho (HNE.out b (by omega)) (by omega),_,heapSet (o:=0) _ R0.out,?_,hnb _ _ GK.out.1 (HNE.out _ (by omega)) (by omega),hnb _ _ GK.out.2.1 (HNE.out _ (by omega)) (by omega),hnb _ _ GK.out.2.2.1 (HNE.out _ (by omega)) (by omega),hnb _ _ GK.out.2.2.2 (HNE.out _ (by omega)) (by omega),?_,by simp [World.setCell]; omega⟩
  ·obtain ⟨_,_,hown0,_⟩:=HBM.out
   rcases hown0.2 with ⟨hv,_⟩ | ⟨g0,cap0,cur0,hv,_,hg0,_⟩
   ·rw [hv] at e; cases e
   ·rw [hv] at e; cases e; rw [hg0] at h0; cases h0; cases ho
  ·have hlen1 : (pre ++ [(⟨(xi,xs),hxi,hxs⟩ : Sh pn)]).length = pre.length + 1:=by simp
   rw [hlen1]
   refine BuiltM.set (BuiltM.push (N:=W.heap.size) (w1:=w4) (v:=.slice va pre.length vcap) (k:=pre.length) (l:=(pre ++ [(⟨(xi,xs),hxi,hxs⟩ : Sh pn)]).map (partF d bs)) (cs:=csl) (c:=⟨cs,xs,c1.a,c1.n,c1.c,c1.b⟩) HCL.out (fun j h h' => ?_) (by simp) ?_ hwlW (fun r e => (HBM.out.own r e).2) HO2.out HGR.out ?_) _ _ (by dsimp only; omega)
   ·have hj : j < pre.length:=by have:=HCL.out; omega
    have e : ((pre ++ [(⟨(xi,xs),hxi,hxs⟩ : Sh pn)]).map (partF d bs))[j] = (pre.map (partF d bs))[j]'(by simpa using hj):=by simp [List.getElem_append_left,hj]
    rw [e]
    exact HEL.out j h (by simpa using hj)
   ·have e : ((pre ++ [(⟨(xi,xs),hxi,hxs⟩ : Sh pn)]).map (partF d bs))[pre.length]'(by simp) = partP d bs (xi,xs):=by simp
    rw [e]
    exact E5.out
   ·rcases HAT.out with h | h
    ·exact .inl h.symm
    ·right; simpa [Value.ownBlock] using h
  ·exact ((((HBW.out.trans (E4.out.mono HBW.out.size)).alloc (by omega) _).grown HGR.out (by simp; omega) (fun k e => by have:=(HBM.out.own k e).1; omega)).setCell (p:=⟨w.heap.size + 1 + 1,0,none⟩) (by dsimp only; omega) _)
 case done =>
  rintro D ys W hD hS ⟨v,g2,hbm,g0,g1,g3,g4,hbW,hszW⟩ hK
  have c2:=cellOf g2 0
  (try dsimp only at c2)
  gi_wp2
  have hlk : ys.length = pn:=by rw [← List.length_map (f:=Subtype.val),hS,shareL_len]
  have hl : partsL d M bs = ys.map (partF d bs):=by
   rw [partsL,← HLEN.out,← hS,List.map_map]; rfl
  obtain ⟨o',ho,hcells⟩ : ∃ o',W.heap[D]? = some o' ∧ o'.isCells = false:=⟨_,hK,rfl⟩
  have hbm2:=hbm.grown (grownBy_putObj' W D (.deferred none)) (fun r e => by cases e; exact ⟨o',ho,hcells⟩)
  have hbw2:=hbW.trans (belowK_b (w:=w) (Nat.le_refl _) W D (.deferred (some [])) (.deferred none) (by omega) hK rfl rfl)
  obtain ⟨a,cap,rfl,_⟩:=hbm2.shape
  have hln : (ys.map (partF d bs)).length = ys.length:=List.length_map _
  have hms:=BuiltM.msgs (l:=ys.map (partF d bs)) (a:=a) (cap:=cap) (by rw [hln]; exact hbm2) (by rw [hln]; omega)
  rw [hln,hlk] at hms
  refine ⟨by simp,.inl ⟨_,_,rfl,run_takeDeferred hK,?_⟩⟩
  refine ⟨.slice a ys.length cap,by simp [results,Tryz.results87,go_sem],a,cap,by rw [hlk],hbw2,?_⟩
  rw [hl]
  exact hms.same fun b hb => ⟨⟨by omega,hb.2⟩,rfl⟩
 case stop =>
  rintro D cd pre W hD hpf hF hK
  cases hF
end
section
open Go Go.RowKit Go.Shelf
def oneV : Val:=.mk 2 1 0 ⟨#[]⟩ [] [] []
def knownV : Val:=.mk 9 0 0 ⟨#[]⟩ [] [⟨#[97]⟩] [oneV]
def knownT : ByteArray:=⟨#[123,97,58,32,49,125]⟩
theorem known_check : chkVal knownV = 0:=by kernel_rfl
theorem known_newE : newE 7 knownV = 0:=by kernel_rfl
theorem known_msgE : msgE ⟨⟨7,[1]⟩,1048576,[7],knownV⟩ = 0:=by kernel_rfl
theorem known_encT : encT ⟨⟨7,[1]⟩,1048576,[7],knownV⟩ knownT = ⟨#[55,47,49,32,49,48,52,56,53,55,54,32,55,32,123,97,58,32,49,125]⟩:=by kernel_rfl
theorem known_text (c : VC) (w : World) (hd : IsVal (· < w.heap.size) w c knownV) : Calls Tryz.prog 98 #[c.v] w fun e w' => e = .returned (.string knownT) ∧ Below w.heap.size w w':=by
 obtain ⟨k,i,s,t,la,ll,lc,fa,fl,fc⟩:=c
 have hd':=hd
 obtain ⟨⟨hk,hi,hs,ht,hok,hll,hfl,_⟩,_,_⟩:=hd'
 dsimp only at hk hi hs ht hll hfl
 subst hk; subst hi; subst hs; subst ht
 have hfl1 : fl = 1:=hfl
 subst hfl1
 have h:=textRec_call 0 0 ⟨#[]⟩ la ll lc fa 1 fc [] [⟨#[97]⟩] [oneV] w hd [⟨#[97,58,32,49]⟩] (fun _ => ⟨#[49]⟩) (by decide) rfl (fun j h hn => by
  have hj : j = 0:=by simpa using h
  subst hj
  exact (by kernel_rfl : (⟨#[97,58,32,49]⟩ : ByteArray) = ⟨#[97]⟩ ++ ⟨#[58,32]⟩ ++ ⟨#[49]⟩)) 4 (fun x hx => by rw [List.mem_singleton] at hx; subst hx; decide) (by decide) (fun j h x w' hb hx => by
  have hj : j = 0:=by simpa using h
  subst hj
  obtain ⟨k,i,s,t,la,ll,lc,fa,fl,fc⟩:=x
  obtain ⟨⟨hk,hi,_⟩,_,_⟩:=hx
  dsimp only at hk hi ⊢
  subst hk; subst hi
  have h1:=textInt_call 1 (by decide) s t la ll lc fa fl fc w'
  have e1 : (⟨(Lib.decDigits 1).toArray⟩ : ByteArray) = ⟨#[49]⟩:=by kernel_rfl
  rw [e1] at h1
  exact h1)
 have e2 : recT [⟨#[97,58,32,49]⟩] = knownT:=by kernel_rfl
 rw [e2] at h
 exact h
theorem known_lit (c : VC) (w : World) (hd : IsVal (· < w.heap.size) w c knownV) (hT : Tabs w) : Calls Tryz.prog 42 #[c.v] w fun e w' => e = .returned (.tuple #[.string knownT,.int .i64 0]) ∧ Below w.heap.size w w' :=
 litText_call c knownV w hd hT knownT (by decide) known_check fun w' h => known_text c w' (hd.same fun b q => ⟨Nat.lt_of_lt_of_le q h.size,h.block b q⟩)
abbrev kF : Obj:=.cells #[.string ⟨#[97]⟩,.int .i64 2,.int .i64 1,.int .i64 0,.string ⟨#[]⟩,.slice none 0 0,.slice none 0 0] 95
abbrev kC (B : Nat) : VC:=⟨9,0,0,⟨#[]⟩,none,0,0,some ⟨B,0,none⟩,1,1⟩
theorem okZ : VC.ok ⟨2,1,0,⟨#[]⟩,none,0,0,none,0,0⟩:=⟨⟨by decide,by decide⟩,⟨by decide,by decide⟩,⟨by decide,by decide⟩,by decide,by decide,by decide,by decide,by decide⟩
theorem okK (B : Nat) : VC.ok (kC B):=⟨(show I64 9 from ⟨by decide,by decide⟩),(show I64 0 from ⟨by decide,by decide⟩),(show I64 0 from ⟨by decide,by decide⟩),(show (⟨#[]⟩ : ByteArray).size ≤ 140737488351232 by decide),(show 0 * 88 ≤ 140737488351232 by decide),(show 1 * 104 ≤ 140737488351232 by decide),(show 0 ≤ 0 by decide),(show 1 ≤ 1 by decide)⟩
theorem known_isVal (S : Nat → Prop) (w : World) (B : Nat) (hB : S B) (h : w.heap[B]? = some kF) : IsVal S w (kC B) knownV:=by
 refine ⟨⟨rfl,rfl,rfl,rfl,okK B,rfl,rfl,rfl⟩,.inl rfl,.inr ⟨B,0,rfl,hB,?_⟩⟩
 refine ⟨⟨⟨cellOf h 0,by decide⟩,⟨2,1,0,⟨#[]⟩,none,0,0,none,0,0⟩,⟨cellOf h 1,cellOf h 2,cellOf h 3,cellOf h 4,cellOf h 5,cellOf h 6⟩,?_⟩,trivial⟩
 exact ⟨⟨rfl,rfl,rfl,rfl,okZ,rfl,rfl,rfl⟩,.inl rfl,.inl rfl⟩
abbrev kM (m : Int) : Msg:=⟨⟨7,[1]⟩,m,[7],knownV⟩
theorem known_parts {S : Nat → Prop} {w : World} {a : Option Addr} {c : Nat} (h : IsMsgs S w a 3 c (partsL (kM 10) 10 [knownV,knownV,knownV])) :
 ∃ b o pb po pc,a = some ⟨b,o,none⟩ ∧ w.cell? ⟨b,o + 2,none⟩ = some (.int .i64 4) ∧ w.cell? ⟨b,o + 20 + 2,none⟩ = some (.int .i64 3) ∧ w.cell? ⟨b,o + 10 + 1,none⟩ = some (.slice (some ⟨pb,po,none⟩) 2 pc) ∧ w.cell? ⟨pb,po + 1,none⟩ = some (.int .i64 1):=by
 rcases h.at' with h0 | ⟨b,o,ha,hS,hx⟩
 ·have hl : (partsL (kM 10) 10 [knownV,knownV,knownV]).length = 3:=by kernel_rfl
  rw [h0] at hl
  cases hl
 ·obtain ⟨x0,h0,i0⟩:=hx 0 (by decide)
  obtain ⟨x1,h1,i1⟩:=hx 1 (by decide)
  obtain ⟨x2,h2,i2⟩:=hx 2 (by decide)
  have m0 : x0.m = 4:=i0.m.trans (by kernel_rfl)
  have m2 : x2.m = 3:=i2.m.trans (by kernel_rfl)
  have ep : (partsL (kM 10) 10 [knownV,knownV,knownV])[1].st.ps = [1,0 + 1]:=by kernel_rfl
  have en : x1.st.n = 2:=i1.st.ps.len.trans (by kernel_rfl)
  obtain ⟨pb,po,hpa,_,hpc⟩:=i1.st.ps.slot (by rw [en]; decide)
  have p1:=hpc 1 (by decide)
  refine ⟨b,o,pb,po,x1.st.c,ha,?_,?_,?_,p1⟩
  ·have:=h0.m; rw [m0] at this; simpa using this
  ·have:=h2.m; rw [m2] at this; exact this
  ·have:=h1.p; rw [en,hpa] at this; exact this
set_option maxRecDepth 100000 in
set_option maxHeartbeats 4000000 in
theorem known_call (w : World) (hT : Tabs w) : Calls Tryz.prog 37 #[] w fun e w' => e = .returned (.bool true) ∧ Below w.heap.size w w':=by
 obtain ⟨W1,hW1⟩ : ∃ W1,W1 = (w.alloc kF).alloc (vObj (kC w.heap.size)):=⟨_,rfl⟩
 have hb1 : Below w.heap.size w W1:=by rw [hW1]; exact ((Below.refl _ w).alloc (Nat.le_refl _) _).alloc (by simp) _
 have g0 : W1.heap[w.heap.size]? = some kF:=by rw [hW1]; exact heapAlloc _ (heap_alloc_new w _)
 have g1 : W1.heap[w.heap.size + 1]? = some (vObj (kC w.heap.size)):=by rw [hW1]; exact heapNewAt _ _ _ (by simp)
 have hlt0:=ltOf g1
 have hv : IsVal (· < W1.heap.size) W1 (kC w.heap.size) knownV:=known_isVal _ _ _ (by omega) g0
 have HNEW : Hid (Calls Tryz.prog 86 #[.int .i64 7,(kC w.heap.size).v] W1 (NewPost W1 7 knownV)):=hid (new_call 7 _ knownV W1 ⟨by decide,by decide⟩ hv (hT.below hb1))
 -- what is known behind New,in the message's box
 have HB : Hid (∀ (w2 : World) (c : MC),Below W1.heap.size W1 w2 → IsMsg (fun b => W1.heap.size ≤ b ∧ b < w2.heap.size) w2 c (kM 1048576) → ∀ w3,Below (w2.alloc (mObj c)).heap.size (w2.alloc (mObj c)) w3 →
  Below w.heap.size w w3 ∧ IsMsg (fun b => W1.heap.size ≤ b ∧ b < w2.heap.size) w3 c (kM 1048576) ∧ w3.heap[w2.heap.size]? = some (mObj c) ∧ w3.heap[w.heap.size]? = some kF ∧ w3.heap[w.heap.size + 1]? = some (vObj (kC w.heap.size)) ∧ Tabs w3):=hid fun w2 c h hi w3 h3 => by
  have ha : Below w2.heap.size w2 (w2.alloc (mObj c)):=(Below.refl _ w2).alloc (Nat.le_refl _) _
  have h23 : Below w2.heap.size w2 w3:=ha.trans (h3.mono ha.size)
  have h13 : Below W1.heap.size W1 w3:=h.trans (h23.mono h.size)
  have h03 : Below w.heap.size w w3:=hb1.trans (h13.mono hb1.size)
  exact ⟨h03,hi.same fun b q => ⟨q,h23.block b q.2⟩,heapExt h3 (heap_alloc_new w2 _),heapExt h13 g0,heapExt h13 g1,hT.below h03⟩
 have HENC : Hid (∀ (w2 : World) (c : MC),Below W1.heap.size W1 w2 → IsMsg (fun b => W1.heap.size ≤ b ∧ b < w2.heap.size) w2 c (kM 1048576) → Calls Tryz.prog 39 #[c.v] (w2.alloc (mObj c)) fun e w' => e = .returned (.tuple #[.string ⟨#[55,47,49,32,49,48,52,56,53,55,54,32,55,32,123,97,58,32,49,125]⟩,.int .i64 0]) ∧ Below (w2.alloc (mObj c)).heap.size (w2.alloc (mObj c)) w'):=hid fun w2 c h hi => by
  obtain ⟨q1,q2,q3,q4,q5,q6⟩:=HB.out w2 c h hi _ (Below.refl _ _)
  have hm : IsMsg (· < (w2.alloc (mObj c)).heap.size) (w2.alloc (mObj c)) c (kM 1048576):=q2.same fun b q => ⟨by simp; omega,rfl⟩
  rw [← known_encT]
  exact mEncode_call c _ _ hm q6 knownT known_msgE (by decide) fun w' hb' => known_lit _ w' (hm.b.same fun b q => ⟨Nat.lt_of_lt_of_le q hb'.size,hb'.block b q⟩) (q6.below hb')
 have HPARTS : Hid (∀ (w5 : World) (c : MC) (N : Nat),w5.heap[w.heap.size]? = some kF → w.heap.size + 2 ≤ N → N < w5.heap.size → IsMsg (fun b => w.heap.size + 2 ≤ b ∧ b < N) w5 c (kM 1048576) →
  Calls Tryz.prog 87 #[MC.v { c with m:=10 },.slice (some ⟨w5.heap.size,0,none⟩) 3 3] (w5.alloc (.cells #[.int .i64 9,.int .i64 0,.int .i64 0,.string ⟨#[]⟩,.slice none 0 0,.slice (some ⟨w.heap.size,0,none⟩) 1 1,.int .i64 9,.int .i64 0,.int .i64 0,.string ⟨#[]⟩,.slice none 0 0,.slice (some ⟨w.heap.size,0,none⟩) 1 1,.int .i64 9,.int .i64 0,.int .i64 0,.string ⟨#[]⟩,.slice none 0 0,.slice (some ⟨w.heap.size,0,none⟩) 1 1] 43)) fun e w' =>
   (∃ b o pb po pc cc,e = .returned (.slice (some ⟨b,o,none⟩) 3 cc) ∧ w'.cell? ⟨b,o + 2,none⟩ = some (.int .i64 4) ∧ w'.cell? ⟨b,o + 20 + 2,none⟩ = some (.int .i64 3) ∧ w'.cell? ⟨b,o + 10 + 1,none⟩ = some (.slice (some ⟨pb,po,none⟩) 2 pc) ∧ w'.cell? ⟨pb,po + 1,none⟩ = some (.int .i64 1)) ∧ Below w5.heap.size w5 w'):=hid fun w5 c N hF hN1 hN2 hi => by
  obtain ⟨w6,hw6⟩ : ∃ w6,w6 = (w5.alloc (.cells #[.int .i64 9,.int .i64 0,.int .i64 0,.string ⟨#[]⟩,.slice none 0 0,.slice (some ⟨w.heap.size,0,none⟩) 1 1,.int .i64 9,.int .i64 0,.int .i64 0,.string ⟨#[]⟩,.slice none 0 0,.slice (some ⟨w.heap.size,0,none⟩) 1 1,.int .i64 9,.int .i64 0,.int .i64 0,.string ⟨#[]⟩,.slice none 0 0,.slice (some ⟨w.heap.size,0,none⟩) 1 1] 43)):=⟨_,rfl⟩
  have hb6 : Below w5.heap.size w5 w6:=by rw [hw6]; exact (Below.refl _ w5).alloc (Nat.le_refl _) _
  have gl:=heap_alloc_new w5 (.cells #[.int .i64 9,.int .i64 0,.int .i64 0,.string ⟨#[]⟩,.slice none 0 0,.slice (some ⟨w.heap.size,0,none⟩) 1 1,.int .i64 9,.int .i64 0,.int .i64 0,.string ⟨#[]⟩,.slice none 0 0,.slice (some ⟨w.heap.size,0,none⟩) 1 1,.int .i64 9,.int .i64 0,.int .i64 0,.string ⟨#[]⟩,.slice none 0 0,.slice (some ⟨w.heap.size,0,none⟩) 1 1] 43)
  rw [← hw6] at gl ⊢
  have hlt:=ltOf gl
  have hF6 : w6.heap[w.heap.size]? = some kF:=heapExt hb6 hF
  have hv6 : IsVal (· < w6.heap.size) w6 (kC w.heap.size) knownV:=known_isVal _ _ _ (ltOf hF6) hF6
  have hm6 : IsMsg (· < w6.heap.size) w6 { c with m:=10 } (kM 10) :=
   ⟨hi.st.same fun b q => ⟨by omega,hb6.block b (by omega)⟩,rfl,(show I64 10 from ⟨by decide,by decide⟩),hi.es.same fun b q => ⟨by omega,hb6.block b (by omega)⟩,hi.b.same fun b q => ⟨by omega,hb6.block b (by omega)⟩⟩
  have hvs : IsVals (· < w6.heap.size) w6 w5.heap.size 0 [knownV,knownV,knownV] :=
   ⟨⟨kC w.heap.size,⟨cellOf gl 0,cellOf gl 1,cellOf gl 2,cellOf gl 3,cellOf gl 4,cellOf gl 5⟩,hv6⟩,⟨kC w.heap.size,⟨cellOf gl 6,cellOf gl 7,cellOf gl 8,cellOf gl 9,cellOf gl 10,cellOf gl 11⟩,hv6⟩,⟨kC w.heap.size,⟨cellOf gl 12,cellOf gl 13,cellOf gl 14,cellOf gl 15,cellOf gl 16,cellOf gl 17⟩,hv6⟩,trivial⟩
  have hst2 : c.st.n = 1:=hi.st.ps.len
  refine (partsM_call { c with m:=10 } (kM 10) (some ⟨w5.heap.size,0,none⟩) 3 3 [knownV,knownV,knownV] w6 10 hm6 rfl (by decide) (.inr ⟨_,_,rfl,hlt,hvs⟩) rfl (by decide) (by decide) (by show c.st.n ≤ 1000000; omega)).mono fun e w' ⟨a,c',he,hb,hms⟩ => ?_
  obtain ⟨b,o,pb,po,pc,ha,r1,r2,r3,r4⟩:=known_parts hms
  exact ⟨⟨b,o,pb,po,pc,c',by rw [he,ha],r1,r2,r3,r4⟩,hb6.trans (hb.mono hb6.size)⟩
 have HSZ : Hid (W1.heap.size = w.heap.size + 2):=hid (by rw [hW1]; simp)
 rw [hW1] at HNEW
 have HW1:=hid hW1
 clear hv g0 g1 hT hb1 hW1 hlt0
 dsimp only [kC,VC.v] at HNEW
 go_enter Tryz.func37,Tryz.ntmps37
 go_upto_region 5 with (first
  | (go_at_call 86; refine HNEW.out.mono ?_; rintro e w2 ⟨hb2,_,h2⟩; rw [← HW1.out] at hb2 h2; obtain ⟨⟨⟨ce,sa,sn,sc⟩,m,a,n,cap,⟨k,i',s,tt,la,ll,lc,fa,fl,fc⟩⟩,rfl,hi2⟩:=h2 known_newE; have HI2:=hid hi2; have HB2:=hid hb2; clear h2 hi2 hb2)
  | (go_at_call 39; refine (HENC.out w2 _ HB2.out HI2.out).mono ?_; rintro e w3 ⟨rfl,hb3⟩; obtain ⟨q1,q2,q3,q4,q5,q6⟩:=HB.out w2 _ HB2.out HI2.out w3 hb3; have z2:=cellOf q3 2; have y2:=freeOf q3 2; dsimp only at z2; have Q:=hid (And.intro q1 (And.intro q2 (And.intro q3 (And.intro q4 q5)))); clear q1 q2 q3 q4 q5 q6 hb3))
 obtain ⟨q1,q2,q3,q4,q5⟩:=Q.out
 have hs2:=HB2.out.size
 have hsz:=HSZ.out
 have hlt3:=ltOf q3
 obtain ⟨w5,hw5⟩ : ∃ w5,w5 = w3.setCell ⟨w2.heap.size,2,none⟩ (.int .i64 10):=⟨_,rfl⟩
 rw [← hw5]
 have hs5 : w5.heap.size = w3.heap.size:=by rw [hw5]; simp [World.setCell]
 have r3 : w5.heap[w2.heap.size]? = some (.cells #[.int .i64 ce,.slice sa sn sc,.int .i64 10,.slice a n cap,.int .i64 k,.int .i64 i',.int .i64 s,.string tt,.slice la ll lc,.slice fa fl fc] 66 (0,0)):=by rw [hw5]; exact heapSet _ q3
 have r4 : w5.heap[w.heap.size]? = some kF:=by rw [hw5]; exact heapSetOther _ _ q4 (by dsimp only; omega)
 have r5 : w5.heap[w.heap.size + 1]? = some (vObj (kC w.heap.size)):=by rw [hw5]; exact heapSetOther _ _ q5 (by dsimp only; omega)
 have rm:=q2.same (S':=fun b => w.heap.size + 2 ≤ b ∧ b < w2.heap.size) (w':=w5) fun b q => ⟨by omega,by rw [hw5]; exact Below.heap_setCell _ _ _ _ (by dsimp only; omega)⟩
 have hbw5 : Below w.heap.size w w5:=by rw [hw5]; exact q1.setCell (by dsimp only; omega) _
 have HP:=hid (HPARTS.out w5 _ w2.heap.size r4 (by omega) (by omega) rm)
 have HBW5:=hid hbw5
 have e0:=cellOf r3 0
 have e1:=cellOf r3 1
 have e2:=cellOf r3 2
 have e3:=cellOf r3 3
 have e4:=cellOf r3 4
 have e5:=cellOf r3 5
 have e6:=cellOf r3 6
 have e7:=cellOf r3 7
 have e8:=cellOf r3 8
 have e9:=cellOf r3 9
 have f0:=cellOf r5 0
 have f1:=cellOf r5 1
 have f2:=cellOf r5 2
 have f3:=cellOf r5 3
 have f4:=cellOf r5 4
 have f5:=cellOf r5 5
 dsimp only at e0 e1 e2 e3 e4 e5 e6 e7 e8 e9 f0 f1 f2 f3 f4 f5
 clear q1 q2 q3 q4 q5 Q hs2 hsz hlt3 hw5 hs5 r3 r4 r5 rm hbw5 z2 y2 HB HENC HPARTS HNEW HI2 HB2
 dsimp only [MC.v] at HP
 go_wp2_with (go_at_call 87; refine HP.out.mono ?_; rintro e w7 ⟨⟨b,o,pb,po,pc,cc,rfl,x0,x2,x1,p1⟩,hb7⟩)
 go_ret
 exact ⟨rfl,HBW5.out.trans (hb7.mono HBW5.out.size)⟩
end
end Go.Proofs.YtkljbfaemahchaaGreatDoor
