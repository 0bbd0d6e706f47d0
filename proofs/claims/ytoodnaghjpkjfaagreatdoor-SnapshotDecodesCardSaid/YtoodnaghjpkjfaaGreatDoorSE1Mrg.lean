/- A part. -/
import Derived.Test.YtoodnaghjpkjfaaGreatDoorSE0Mrg
import Derived.WalkKit
import Derived.Orders
import Derived.OrdersHeld
import Derived.Tactics
import Derived.Deep.RegionHeld
import Derived.WalkLawsBesides
import Derived.WalkSpells
import Derived.Outline
import Derived.BigQuiet
import Derived.Deep.QuietTactic
import Derived.Deep.RegionHeld3
import Derived.Deep.DrawnRows
import Derived.Laws.EntriesVeiled
import Derived.LoopNIn
import Derived.RangeFuncCalls
import Derived.RangeFuncLeaves
import Derived.Shelf.Abstract
namespace Go.Proofs.YtoodnaghjpkjfaaGreatDoor
open Tryz
open Go Go.RowKit Go.Shelf
theorem f9:type_of% @if_neg:=@if_neg
theorem gw:type_of% @if_pos:=@if_pos
theorem gx:type_of% @Below.refl:=@Below.refl
theorem gy:type_of% @Nat.le_refl:=@Nat.le_refl
theorem ib:type_of% @heap_alloc_new:=@heap_alloc_new
theorem ie:type_of% @And.intro:=@And.intro
theorem ig:type_of% @bodyPost_ret:=@bodyPost_ret
theorem ii:type_of% @Nat.zero_le:=@Nat.zero_le
theorem ij:type_of% @Below.heap_setCell:=@Below.heap_setCell
theorem ik:type_of% @List.length_append:=@List.length_append
theorem im:type_of% @List.length_cons:=@List.length_cons
theorem io:type_of% @Nat.le_trans:=@Nat.le_trans
theorem ip:type_of% @IntWalk.i64_in:=@IntWalk.i64_in
theorem iq:type_of% @wpAnyH_done:=@wpAnyH_done
theorem ir:type_of% @Nat.zero_add:=@Nat.zero_add
theorem iu:type_of% @results_none:=@results_none
theorem iw:type_of% @List.mem_cons_self:=@List.mem_cons_self
theorem ix:type_of% @Nat.lt_of_lt_of_le:=@Nat.lt_of_lt_of_le
theorem iy:type_of% @Below.heap_alloc:=@Below.heap_alloc
theorem iz:type_of% @wp_region_held_drew:=@wp_region_held_drew
theorem i7:type_of% @List.length_nil:=@List.length_nil
theorem i8:type_of% @List.drop_eq_getElem_cons:=@List.drop_eq_getElem_cons
theorem ja:type_of% @List.mem_cons_of_mem:=@List.mem_cons_of_mem
theorem jb:type_of% @World.size_alloc:=@World.size_alloc
theorem jc:type_of% @Array.getElem?_eq_getElem:=@Array.getElem?_eq_getElem
theorem jd:type_of% @enters_of:=@enters_of
theorem je:type_of% @if_true:=@if_true
theorem jf:type_of% @Array.getD_eq_getD_getElem?:=@Array.getD_eq_getD_getElem?
theorem jg:type_of% @World.cell?_of_block:=@World.cell?_of_block
theorem jh:type_of% @List.cons_append:=@List.cons_append
theorem ji:type_of% @List.nil_append:=@List.nil_append
theorem jj:type_of% @bodyPost_end:=@bodyPost_end
theorem jk:type_of% @rounds_succ:=@rounds_succ
theorem jm:type_of% @List.setIfInBounds_toArray:=@List.setIfInBounds_toArray
theorem jn:type_of% @List.set_cons_zero:=@List.set_cons_zero
theorem jo:type_of% @List.set_cons_succ:=@List.set_cons_succ
theorem jp:type_of% @Option.some.inj:=@Option.some.inj
theorem jq:type_of% @World.grownBy_alloc:=@World.grownBy_alloc
theorem jr:type_of% @info_parts:=@info_parts
theorem jt:type_of% @List.not_mem_nil:=@List.not_mem_nil
theorem ju:type_of% @List.length_drop:=@List.length_drop
theorem jv:type_of% @List.map_cons:=@List.map_cons
theorem jw:type_of% @decide_eq_true_eq:=@decide_eq_true_eq
theorem jx:type_of% @World.putObj_heap_other:=@World.putObj_heap_other
theorem jy:type_of% @List.length_map:=@List.length_map
theorem jz:type_of% @wpAnyH_take:=@wpAnyH_take
theorem ka:type_of% @List.append_assoc:=@List.append_assoc
theorem kc:type_of% @List.getElem_mem:=@List.getElem_mem
theorem kd:type_of% @List.mem_cons:=@List.mem_cons
theorem ke:type_of% @setRow_heap:=@setRow_heap
theorem kg:type_of% @Bool.and_eq_true:=@Bool.and_eq_true
theorem kh:type_of% @List.map_append:=@List.map_append
theorem kj:type_of% @or_false:=@or_false
theorem km:type_of% @List.drop_length:=@List.drop_length
theorem kn:type_of% @ByteArray.ext:=@ByteArray.ext
theorem ko:type_of% @setRow_other:=@setRow_other
theorem kq:type_of% @Option.getD_some:=@Option.getD_some
theorem kr:type_of% @List.eq_nil_of_length_eq_zero:=@List.eq_nil_of_length_eq_zero
theorem ku:type_of% @List.getElem_append_left:=@List.getElem_append_left
theorem kw:type_of% @ByteArray.toList_eq:=@ByteArray.toList_eq
theorem ky:type_of% @setRow_size:=@setRow_size
theorem kz:type_of% @if_false:=@if_false
theorem k8:type_of% @List.getElem_cons_zero:=@List.getElem_cons_zero
theorem k9:type_of% @ByteArray.size_extract:=@ByteArray.size_extract
theorem ld:type_of% @of_decide_eq_true:=@of_decide_eq_true
theorem lf:type_of% @World.ownsRow_nil:=@World.ownsRow_nil
theorem lg:type_of% @decide_eq_true:=@decide_eq_true
theorem lh:type_of% @wpOp_mono:=@wpOp_mono
theorem li:type_of% @List.getElem_append_right:=@List.getElem_append_right
theorem lj:type_of% @Nat.not_lt_zero:=@Nat.not_lt_zero
theorem lk:type_of% @Array.ext':=@Array.ext'
theorem lu:type_of% @Array.length_toList:=@Array.length_toList
theorem lv:type_of% @of_decide_eq_false:=@of_decide_eq_false
theorem lw:type_of% @Option.some.injEq:=@Option.some.injEq
theorem lx:type_of% @wp_loop_rounds:=@wp_loop_rounds
theorem ly:type_of% @ByteArray.size_append:=@ByteArray.size_append
theorem lz:type_of% @Value.slice.injEq:=@Value.slice.injEq
theorem ma:type_of% @List.length_take:=@List.length_take
theorem mc:type_of% @decide_eq_false:=@decide_eq_false
theorem mf:type_of% @Nat.lt_or_ge:=@Nat.lt_or_ge
theorem mg:type_of% @beq_iff_eq:=@beq_iff_eq
theorem mh:type_of% @List.take_succ_eq_append_getElem:=@List.take_succ_eq_append_getElem
theorem mj:type_of% @World.alloc_heap_new:=@World.alloc_heap_new
theorem mn:type_of% @List.flatMap_append:=@List.flatMap_append
theorem mo:type_of% @CallsIn.inRound:=@CallsIn.inRound
theorem mp:type_of% @Nat.le_succ:=@Nat.le_succ
theorem mq:type_of% @Array.getElem?_setIfInBounds:=@Array.getElem?_setIfInBounds
theorem mr:type_of% @List.take_of_length_le:=@List.take_of_length_le
theorem mv:type_of% @Array.getElem?_modify:=@Array.getElem?_modify
theorem mw:type_of% @List.getElem?_take:=@List.getElem?_take
theorem my:type_of% @run_underlying:=@run_underlying
theorem mz:type_of% @List.sum_cons:=@List.sum_cons
theorem nf:type_of% @List.getElem?_toArray:=@List.getElem?_toArray
theorem ng:type_of% @List.getElem?_eq_none:=@List.getElem?_eq_none
theorem nh:type_of% @List.flatMap_cons:=@List.flatMap_cons
theorem ni:type_of% @run_takeDeferred:=@run_takeDeferred
theorem nj:type_of% @Oper.semAt_some:=@Oper.semAt_some
theorem nk:type_of% @List.append_nil:=@List.append_nil
theorem np:type_of% @Nat.sub_self:=@Nat.sub_self
theorem nt:type_of% @getD_set_ne:=@getD_set_ne
theorem nw:type_of% @Int.tmod_eq_emod_of_nonneg:=@Int.tmod_eq_emod_of_nonneg
theorem n3:type_of% @List.getElem?_eq_getElem:=@List.getElem?_eq_getElem
theorem n5:type_of% @List.getElem_of_mem:=@List.getElem_of_mem
theorem n7:type_of% @not_true_eq_false:=@not_true_eq_false
theorem n8:type_of% @Bool.eq_iff_iff:=@Bool.eq_iff_iff
theorem oa:type_of% @List.mem_map:=@List.mem_map
theorem oc:type_of% @List.all_eq_true:=@List.all_eq_true
theorem od:type_of% @Int.tdiv_eq_ediv_of_nonneg:=@Int.tdiv_eq_ediv_of_nonneg
theorem oe:type_of% @Nat.mul_le_mul_right:=@Nat.mul_le_mul_right
theorem og:type_of% @Bool.false_eq_true:=@Bool.false_eq_true
theorem oh:type_of% @List.size_toArray:=@List.size_toArray
theorem ol:type_of% @Array.size_modify:=@Array.size_modify
theorem om:type_of% @Lib.cell_of_heap:=@Lib.cell_of_heap
theorem oo:type_of% @World.size_drew:=@World.size_drew
theorem oq:type_of% @Prod.mk.injEq:=@Prod.mk.injEq
theorem ou:type_of% @Nat.le_of_lt:=@Nat.le_of_lt
theorem ow:type_of% @Array.getElem?_eq_none:=@Array.getElem?_eq_none
theorem ox:type_of% @Array.replicate_zero:=@Array.replicate_zero
theorem oy:type_of% @Array.replicate_succ:=@Array.replicate_succ
theorem oz:type_of% @List.append_toArray:=@List.append_toArray
theorem o0:type_of% @List.push_toArray:=@List.push_toArray
theorem o4:type_of% @grownBy_putObj':=@grownBy_putObj'
theorem o5:type_of% @Oper.upon_value:=@Oper.upon_value
theorem o6:type_of% @Bool.or_eq_true:=@Bool.or_eq_true
theorem o7:type_of% @IntWalk.u8_in:=@IntWalk.u8_in
theorem o8:type_of% @Array.getElem?_replicate:=@Array.getElem?_replicate
theorem o9:type_of% @World.block_lt_of_cell?:=@World.block_lt_of_cell?
theorem pg:type_of% @List.flatMap_singleton:=@List.flatMap_singleton
theorem ph:type_of% @List.drop_eq_nil_of_le:=@List.drop_eq_nil_of_le
theorem pi:type_of% @Nat.eq_zero_or_pos:=@Nat.eq_zero_or_pos
theorem pj:type_of% @Nat.lt_succ_self:=@Nat.lt_succ_self
theorem pk:type_of% @Bool.not_eq_true:=@Bool.not_eq_true
theorem pn:type_of% @List.getD_eq_getElem?_getD:=@List.getD_eq_getElem?_getD
theorem pw:type_of% @List.singleton_append:=@List.singleton_append
theorem py:type_of% @List.length_singleton:=@List.length_singleton
theorem pz:type_of% @List.contains_iff_mem:=@List.contains_iff_mem
theorem p8:type_of% @ByteArray.data_append:=@ByteArray.data_append
theorem p9:type_of% @Bool.and_eq_false_iff:=@Bool.and_eq_false_iff
theorem qg:type_of% @beq_eq_false_iff_ne:=@beq_eq_false_iff_ne
theorem qh:type_of% @List.takeWhile_cons:=@List.takeWhile_cons
theorem qj:type_of% @run_loadCells_list:=@run_loadCells_list
theorem qm:type_of% @Array.ext_getElem?:=@Array.ext_getElem?
theorem qn:type_of% @Lib.ownsRowF_kind:=@Lib.ownsRowF_kind
theorem qo:type_of% @Array.all_eq_true_iff_forall_mem:=@Array.all_eq_true_iff_forall_mem
theorem qp:type_of% @List.getElem_cons_succ:=@List.getElem_cons_succ
theorem qq:type_of% @wpList_append_own_at:=@wpList_append_own_at
theorem qr:type_of% @List.mem_of_mem_take:=@List.mem_of_mem_take
abbrev BA:=ByteArray
abbrev Sv (s:ByteArray):Value:=.string s
abbrev Sl (a:Option Addr) (n c:Nat):Value:=.slice a n c
abbrev Z0:Value:=.slice none 0 0
abbrev So (b o:Nat):Option Addr:=some ⟨b,o,none⟩
abbrev Pt (b o:Nat):Value:=.pointer (some ⟨b,o,none⟩)
set_option linter.unusedVariables false
set_option maxRecDepth 100000
set_option maxHeartbeats 64000000
set_option linter.unusedSimpArgs false
section
theorem ga {p:Prop} (h:p:=by omega):p:=h
theorem gb {p:Prop} (h:p:=by decide):p:=h
theorem gd {p:Prop} (h:p:=by kernel_rfl):p:=h
theorem ge {p:Prop} (h:p:=by simp):p:=h
theorem gh {p:Prop} (h:p:=by rfl):p:=h
theorem gi {p:Prop} (h:p:=by simp;omega):p:=h
theorem gj {p:Prop} (h:p:=by simp[Value.oneCell']):p:=h
theorem gl {p:Prop} (h:p:=by dsimp only;omega):p:=h
theorem gn {p:Prop} (h:p:=by simp[aO]):p:=h
theorem gp {p:Prop} (h:p:=by cases h):p:=h
theorem gr {p:Prop} (h:p:=by simp[I64]):p:=h
theorem gt {p:Prop} (h:p:=by simp[ByteArray.size]):p:=h
theorem gu {p:Prop} (h:p:=by simp[eN]):p:=h
theorem gv {p:Prop} (h:p:=by simpa using h):p:=h
theorem pt1 {α:Type _} {xs:List α} {i:Nat} (h:i<xs.toArray.size):xs.toArray[i]=xs[i]' gv:=List.getElem_toArray h
theorem pt2 {α:Type _} (a:α) (l:List α) (i:Nat) (h:i+1<(a :: l).length):(a :: l)[i+1]=l[i]' gv:=qp a l i h
theorem pt3 {α:Type _} (a:α) (l:List α) (h:0<(a :: l).length):(a :: l)[0]=a:=k8 a l h
theorem pt4 {α:Type _} (l:List α) (i:Nat) (a:α):l.toArray.setIfInBounds i a=(l.set i a).toArray:=jm l i a
theorem pt5 {α:Type _} {x:α} {xs:List α} {a:α}:(x :: xs).set 0 a=a :: xs:=jn
theorem pt6 {α:Type _} {x:α} {xs:List α} {i:Nat} {a:α}:(x :: xs).set (i+1) a=x :: xs.set i a:=jo
theorem lr {n:Nat}:n<=n:=gy n
theorem cs {α:Type _} {a b:α} (h:a=b:=by kernel_rfl):some a=some b:=congrArg some h
theorem bR {n:Nat} (w:World):Below n w w:=gx n w
theorem zdm {α:Type _} {a:α} {l:List α} {n:Nat}:(a :: l).take (n+1)=a :: l.take n:=List.take_succ_cons
theorem zdn {α:Type _} {l:List α}:l.take 0=[]:=List.take_zero
theorem zdp {α:Type _} {a:α} {l:List α} {n:Nat}:(a :: l).drop (n+1)=l.drop n:=List.drop_succ_cons
theorem ry {P:Program} {ops:Array Oper} {Q:Exit->Act->World->Prop} {md:Region.Mode} {S:World->Prop} (rs:List Nat) {ab:Nat} {aa:Array Bool} {a:Act} {w:World} (h:AllReadyH P md ops Q S ab aa a w rs) (hr:Region.ready md ops aa=rs:=by kernel_rfl) (hn:rs≠[]:=by simp):wpAnyH P md ops Q S (ab+1) aa a w:=wpAnyH_ready hr hn h
theorem pr.{u}:(∀{α:Type u} (l:List α) (i:Nat) (a:α),l.toArray.setIfInBounds i a=(l.set i a).toArray)/\(∀{α:Type u} {x:α} {xs:List α} {a:α},(x :: xs).set 0 a=a :: xs)/\(∀{α:Type u} {x:α} {xs:List α} {i:Nat} {a:α},(x :: xs).set (i+1) a=x :: xs.set i a):=⟨pt4,pt5,pt6⟩
theorem pq.{u}:(∀{α:Type u} {xs:List α} {i:Nat} (h:i<xs.toArray.size),xs.toArray[i]=xs[i]' gv)/\(∀{α:Type u} (a:α) (l:List α) (i:Nat) (h:i+1<(a :: l).length),(a :: l)[i+1]=l[i]' gv)/\(∀{α:Type u} (a:α) (l:List α) (h:0<(a :: l).length),(a :: l)[0]=a)/\(∀{α:Type u} (l:List α) (i:Nat) (a:α),l.toArray.setIfInBounds i a=(l.set i a).toArray)/\(∀{α:Type u} {x:α} {xs:List α} {a:α},(x :: xs).set 0 a=a :: xs)/\(∀{α:Type u} {x:α} {xs:List α} {i:Nat} {a:α},(x :: xs).set (i+1) a=x :: xs.set i a):=⟨pt1,pt2,pt3,pt4,pt5,pt6⟩
theorem zdq {α:Type _} {l:List α}:l.drop 0=l:=List.drop_zero
theorem tkQ {P:Program} {ops:Array Oper} {Q:Exit->Act->World->Prop} {md:Region.Mode} {S:World->Prop} (i:Nat) {oi:Oper} {v:Value} {ab:Nat} {aa:Array Bool} {a:Act} {w:World} (hy:∀w,S w->(execOp a.eval oi).run P w=.ok (.value v) w) (hS:S w) (h:wpAnyH P md ops Q S ab (aa.setIfInBounds i true) (a.put oi.dst v) w) (hi:ops[i]?=some oi:=by rfl) (hs:Region.noSelect ops=true:=by kernel_rfl) (hf:Region.free md ops aa i=true:=by kernel_rfl) (hr:(Region.ready md ops aa).contains i=true:=by kernel_rfl) (hQ:∀c a w,Q (.panic c) (a.put oi.dst v) w->Q (.panic c) a w:=by exact λ_ _ _ h=>h) (hw:Region.wanted oi (yielded ops a.tmps)=true:=by rfl):wpAnyH P md ops Q S (ab+1) aa a w:=jz (i:=i) hi hs hf hr hQ (Or.inl ⟨hw,hy⟩) hS h
theorem arQ {P:Program} {md:Region.Mode} {ops:Array Oper} {Q:Exit->Act->World->Prop} {S:World->Prop} {ab:Nat} {aa:Array Bool} {a:Act} {w:World} {i:Nat} {o:Oper} (h:∀K':Act->World->Prop,Shut (∀a w,S w->(S w->wpAnyH P md ops Q S ab (aa.setIfInBounds i true) a w)->K' a w)->if Region.wanted o (yielded ops a.tmps)=true then Oper.wp P o a w K' Q else K' (a.put o.dst undef) w) (ho:ops[i]?=some o:=by rfl):AllReadyH P md ops Q S ab aa a w [i]:=AllReadyH.cons ho h AllReadyH.nil
theorem tA {P:Program} {ops:Array Oper} {Q:Exit->Act->World->Prop} {md:Region.Mode} {S:World->Prop} (i:Nat) {oi:Oper} {v:Value} {ab:Nat} {aa:Array Bool} {a a':Act} {w:World} (h:wpAnyH P md ops Q S ab (aa.setIfInBounds i true) a' w) (hi:ops[i]?=some oi:=by rfl) (hs:Region.noSelect ops=true:=by kernel_rfl) (hf:Region.free md ops aa i=true:=by kernel_rfl) (hr:(Region.ready md ops aa).contains i=true:=by kernel_rfl) (hQ:∀c a w,Q (.panic c) (a.put oi.dst v) w->Q (.panic c) a w:=by exact λ_ _ _ h=>h) (hw:Region.wanted oi (yielded ops a.tmps)=true:=by rfl) (hS:S w:=by exact hS) (hy:∀w,S w->(execOp a.eval oi).run P w=.ok (.value v) w:=by intro w' hw';(try dsimp only at hw');go_simp;(try rfl)) (ha:a.put oi.dst v=a':=by simp only[Act.put,pq];(try rfl)):wpAnyH P md ops Q S (ab+1) aa a w:=jz (i:=i) hi hs hf hr hQ (Or.inl ⟨hw,hy⟩) hS (ha▸h)
def f7 (p:Prop):Prop:=p
theorem f7.o {p:Prop} (h:f7 p):p:=h
theorem f8 {p:Prop} (h:p):f7 p:=h
theorem tC {P:Program} {ops:Array Oper} {Q:Exit->Act->World->Prop} {md:Region.Mode} {S F:World->Prop} (i:Nat) {oi:Oper} {v:Value} {ab:Nat} {aa:Array Bool} {a a':Act} {w:World} (hc:f7 (∀w,S w->F w)) (h:wpAnyH P md ops Q S ab (aa.setIfInBounds i true) a' w) (hi:ops[i]?=some oi:=by rfl) (hs:Region.noSelect ops=true:=by kernel_rfl) (hf:Region.free md ops aa i=true:=by kernel_rfl) (hr:(Region.ready md ops aa).contains i=true:=by kernel_rfl) (hQ:∀c a w,Q (.panic c) (a.put oi.dst v) w->Q (.panic c) a w:=by exact λ_ _ _ h=>h) (hw:Region.wanted oi (yielded ops a.tmps)=true:=by rfl) (hS:S w:=by exact hS) (hy:∀w,S w->F w->(execOp a.eval oi).run P w=.ok (.value v) w:=by intro w' hw' hcells;go_simp;(try rfl)) (ha:a.put oi.dst v=a':=by simp only[Act.put,pq];(try rfl)):wpAnyH P md ops Q S (ab+1) aa a w:=jz (i:=i) hi hs hf hr hQ (Or.inl ⟨hw,λw h=>hy w h (hc.o w h)⟩) hS (ha▸h)
theorem kOQ {P:Program} {ops:Array Oper} {Q:Exit->Act->World->Prop} {md:Region.Mode} {S:World->Prop} {K:Act->World->Prop} {n:Nat} {aa:Array Bool} {a a':Act} {w:World} (hK:Shut (∀a w,S w->(S w->wpAnyH P md ops Q S n aa a w)->K a w)) (hX:S w) (h:S w->wpAnyH P md ops Q S n aa a' w) (ha:a=a':=by first|(simp only[Act.put,pq];(try rfl))|rfl):K a w:=hK.out _ _ hX (λs=>by rw[ha];exact h s)
theorem yr {P:Program} {md:Region.Mode} {ops:Array Oper} {Q:Exit->Act->World->Prop} {S:World->Prop} {ab:Nat} {aa:Array Bool} {a:Act} {w:World} (i:Nat) {o:Oper} (h:∀K':Act->World->Prop,Shut (∀a w,S w->(S w->wpAnyH P md ops Q S ab (aa.setIfInBounds i true) a w)->K' a w)->if Region.wanted o (yielded ops a.tmps)=true then Oper.wp P o a w K' Q else K' (a.put o.dst undef) w) (ho:ops[i]?=some o:=by rfl) (hr:Region.ready md ops aa=[i]:=by kernel_rfl):wpAnyH P md ops Q S (ab+1) aa a w:=wpAnyH_ready hr ge (AllReadyH.cons ho h AllReadyH.nil)
theorem xe.{u} {α:Sort u} (a:α):∃x,x=a:=⟨a,rfl⟩
theorem h_2 {p0 p1:Prop} (h0:p0) (h1:p1):f7 p0/\f7 p1:=⟨h0,h1⟩
theorem h_3 {p0 p1 p2:Prop} (h0:p0) (h1:p1) (h2:p2):f7 p0/\f7 p1/\f7 p2:=⟨h0,h1,h2⟩
theorem h_4 {p0 p1 p2 p3:Prop} (h0:p0) (h1:p1) (h2:p2) (h3:p3):f7 p0/\f7 p1/\f7 p2/\f7 p3:=⟨h0,h1,h2,h3⟩
theorem h_5 {p0 p1 p2 p3 p4:Prop} (h0:p0) (h1:p1) (h2:p2) (h3:p3) (h4:p4):f7 p0/\f7 p1/\f7 p2/\f7 p3/\f7 p4:=⟨h0,h1,h2,h3,h4⟩
theorem h_6 {p0 p1 p2 p3 p4 p5:Prop} (h0:p0) (h1:p1) (h2:p2) (h3:p3) (h4:p4) (h5:p5):f7 p0/\f7 p1/\f7 p2/\f7 p3/\f7 p4/\f7 p5:=⟨h0,h1,h2,h3,h4,h5⟩
theorem h_7 {p0 p1 p2 p3 p4 p5 p6:Prop} (h0:p0) (h1:p1) (h2:p2) (h3:p3) (h4:p4) (h5:p5) (h6:p6):f7 p0/\f7 p1/\f7 p2/\f7 p3/\f7 p4/\f7 p5/\f7 p6:=⟨h0,h1,h2,h3,h4,h5,h6⟩
theorem h_8 {p0 p1 p2 p3 p4 p5 p6 p7:Prop} (h0:p0) (h1:p1) (h2:p2) (h3:p3) (h4:p4) (h5:p5) (h6:p6) (h7:p7):f7 p0/\f7 p1/\f7 p2/\f7 p3/\f7 p4/\f7 p5/\f7 p6/\f7 p7:=⟨h0,h1,h2,h3,h4,h5,h6,h7⟩
inductive Val where
 | mk (k i s:Int) (t:BA) (l:List Val) (ns:List BA) (fs:List Val)
structure VC where
 k:Int
 i:Int
 s:Int
 t:BA
 la:Option Addr
 ll:Nat
 lc:Nat
 fa:Option Addr
 fl:Nat
 fc:Nat
abbrev VC.v (c:VC):Value:=.agg #[.int .i64 c.k,.int .i64 c.i,.int .i64 c.s,.string c.t,.slice c.la c.ll c.lc,.slice c.fa c.fl c.fc]
def VC.cs (c:VC):List Value:=[.int .i64 c.k,.int .i64 c.i,.int .i64 c.s,.string c.t,.slice c.la c.ll c.lc,.slice c.fa c.fl c.fc]
def I64 (n:Int):Prop:=-9223372036854775808<=n/\n<=9223372036854775807
structure VC.ok (c:VC):Prop where
 k:I64 c.k
 i:I64 c.i
 s:I64 c.s
 t:c.t.size<=140737488351232
 l:c.ll * 88<=140737488351232
 f:c.fl * 104<=140737488351232
 lm:c.ll<=c.lc
 fm:c.fl<=c.fc
structure At (w:World) (b o:Nat) (c:VC):Prop where
 k:w.cell? ⟨b,o,none⟩=some (.int .i64 c.k)
 i:w.cell? ⟨b,o+1,none⟩=some (.int .i64 c.i)
 s:w.cell? ⟨b,o+2,none⟩=some (.int .i64 c.s)
 t:w.cell? ⟨b,o+3,none⟩=some (.string c.t)
 l:w.cell? ⟨b,o+4,none⟩=some (.slice c.la c.ll c.lc)
 f:w.cell? ⟨b,o+5,none⟩=some (.slice c.fa c.fl c.fc)
mutual
def IsVal (S:Nat->Prop) (w:World):VC->Val->Prop
 | c,.mk k i s t l ns fs=>(c.k=k/\c.i=i/\c.s=s/\c.t=t/\c.ok/\c.ll=l.length/\c.fl=fs.length/\ns.length=fs.length) /\
    (l=[]\/∃b o,c.la=some ⟨b,o,none⟩/\S b/\IsVals S w b o l)/\(fs=[]\/∃b o,c.fa=some ⟨b,o,none⟩/\S b/\IsFlds S w b o ns fs)
def IsVals (S:Nat->Prop) (w:World) (b:Nat):Nat->List Val->Prop
 | _,[]=>True
 | o,d :: l=>(∃c:VC,At w b o c/\IsVal S w c d)/\IsVals S w b (o+6) l
def IsFlds (S:Nat->Prop) (w:World) (b:Nat):Nat->List BA->List Val->Prop
 | _,_,[]=>True
 | o,ns,d :: l=>((w.cell? ⟨b,o,none⟩=some (.string (ns.headD ByteArray.empty))/\(ns.headD ByteArray.empty).size<=140737488351232)/\∃c:VC,At w b (o+1) c/\IsVal S w c d)/\IsFlds S w b (o+7) ns.tail l
end
theorem At.same {w w':World} {b o:Nat} {c:VC} (h:At w b o c) (hb:w'.heap[b]?=w.heap[b]?):At w' b o c:=by
 have e:∀j,w'.cell? ⟨b,j,none⟩=w.cell? ⟨b,j,none⟩:=λj=>jg (w:=w) (a:=⟨b,j,none⟩) hb;exact⟨(e _).trans h.k,(e _).trans h.i,(e _).trans h.s,(e _).trans h.t,(e _).trans h.l,(e _).trans h.f⟩
mutual
theorem IsVal.same {S S':Nat->Prop} {w w':World} (hs:∀b,S b->S' b/\w'.heap[b]?=w.heap[b]?):∀{c:VC} {d:Val},IsVal S w c d->IsVal S' w' c d
 | c,.mk k i s t l ns fs,h=>by
   obtain⟨h1,h2,h3⟩:=h;refine⟨h1,?_,?_⟩
   ·rcases h2 with h2|⟨b,o,ha,hb,hv⟩
    ·exact .inl h2
    ·exact .inr ⟨b,o,ha,(hs b hb).1,IsVals.same hs (hs b hb).2 hv⟩
   ·rcases h3 with h3|⟨b,o,ha,hb,hv⟩
    ·exact .inl h3
    ·exact .inr ⟨b,o,ha,(hs b hb).1,IsFlds.same hs (hs b hb).2 hv⟩
theorem IsVals.same {S S':Nat->Prop} {w w':World} (hs:∀b,S b->S' b/\w'.heap[b]?=w.heap[b]?) {b:Nat} (hb:w'.heap[b]?=w.heap[b]?):∀{o:Nat} {l:List Val},IsVals S w b o l->IsVals S' w' b o l
 | _,[],_=>trivial
 | o,d :: l,⟨⟨c,ha,hv⟩,ht⟩=>⟨⟨c,ha.same hb,IsVal.same hs hv⟩,IsVals.same hs hb ht⟩
theorem IsFlds.same {S S':Nat->Prop} {w w':World} (hs:∀b,S b->S' b/\w'.heap[b]?=w.heap[b]?) {b:Nat} (hb:w'.heap[b]?=w.heap[b]?):∀{o:Nat} {ns:List BA} {l:List Val},IsFlds S w b o ns l->IsFlds S' w' b o ns l
 | _,_,[],_=>trivial
 | o,ns,d :: l,⟨⟨⟨hn,hz⟩,c,ha,hv⟩,ht⟩=>⟨⟨⟨(jg (w:=w) (a:=⟨b,o,none⟩) hb).trans hn,hz⟩,c,ha.same hb,IsVal.same hs hv⟩,IsFlds.same hs hb ht⟩
end
theorem IsVals.get {S:Nat->Prop} {w:World} {b:Nat}:∀{l:List Val} {o:Nat},IsVals S w b o l->∀(j:Nat) (h:j<l.length),∃c,At w b (o+j * 6) c/\IsVal S w c l[j]
 | d :: l,o,⟨h0,ht⟩,0,_=>by simpa using h0
 | d :: l,o,⟨h0,ht⟩,j+1,h=>by
   obtain⟨c,ha,hv⟩:=IsVals.get ht j gv;exact⟨c,by rw[show o+(j+1) * 6=o+6+j * 6 by omega];exact ha,by simpa using hv⟩
theorem IsFlds.get {S:Nat->Prop} {w:World} {b:Nat}:∀{l:List Val} {ns:List BA} {o:Nat},IsFlds S w b o ns l->ns.length=l.length->∀(j:Nat) (h:j<l.length) (h':j<ns.length),
 (w.cell? ⟨b,o+j * 7,none⟩=some (Sv ns[j])/\ns[j].size<=140737488351232)/\∃c,At w b (o+j * 7+1) c/\IsVal S w c l[j]
 | d :: l,[],o,_,hl,_,_,h'=>by simp at h'
 | d :: l,n :: ns,o,⟨h0,ht⟩,hl,0,_,_=>by simpa using h0
 | d :: l,n :: ns,o,⟨h0,ht⟩,hl,j+1,h,h'=>by
   have:=IsFlds.get ht (by simpa using hl) j gv (by simpa using h');rw[show o+(j+1) * 7=o+7+j * 7 by omega]
   simpa using this
theorem IsVals.of {S:Nat->Prop} {w:World} {b:Nat}:∀{l:List Val} {o:Nat},(∀(j:Nat) (h:j<l.length),∃c,At w b (o+j * 6) c/\IsVal S w c l[j])->IsVals S w b o l
 | [],_,_=>trivial
 | d :: l,o,h=>⟨by have h0:=h 0 ge;rw[Nat.zero_mul,Nat.add_zero] at h0;exact h0,IsVals.of λj hj=>by
     have:=h (j+1) (by simpa using hj);rw[show o+(j+1) * 6=o+6+j * 6 by omega] at this
     simpa using this⟩
theorem IsFlds.of {S:Nat->Prop} {w:World} {b:Nat}:∀{l:List Val} {ns:List BA} {o:Nat},ns.length=l.length->(∀(j:Nat) (h:j<l.length) (h':j<ns.length),
 (w.cell? ⟨b,o+j * 7,none⟩=some (Sv ns[j])/\ns[j].size<=140737488351232)/\∃c,At w b (o+j * 7+1) c/\IsVal S w c l[j])->IsFlds S w b o ns l
 | [],_,_,_,_=>trivial
 | d :: l,[],_,hl,_=>by simp at hl
 | d :: l,n :: ns,o,hl,h=>⟨by have h0:=h 0 ge ge;rw[Nat.zero_mul,Nat.add_zero] at h0;exact h0,IsFlds.of (by simpa using hl) λj hj hj'=>by
     have:=h (j+1) (by simpa using hj) (by simpa using hj');rw[show o+(j+1) * 7=o+7+j * 7 by omega] at this
     simpa using this⟩
mutual
def Val.sz:Val->Nat
 | .mk _ _ _ _ l _ fs=>1+Val.szs l+Val.szs fs
def Val.szs:List Val->Nat
 | []=>0
 | d :: l=>Val.sz d+Val.szs l
end
theorem Val.szs_get:∀(l:List Val) (j:Nat) (h:j<l.length),Val.sz l[j]<=Val.szs l
 | d :: l,0,_=>by simp[Val.szs]
 | d :: l,j+1,h=>by
   have:=Val.szs_get l j gv;simp[Val.szs];omega
theorem aC {w:World} {k:Nat} {x:Obj} (o:Obj) (h:w.heap[k]?=some x):(w.alloc o).heap[k]?=some x :=
 (iy w o k (Array.getElem?_eq_some_iff.1 h).1).trans h
theorem aL {w w':World} {row:Option Nat} {k:Nat} {x:Obj} (hg:w.grownBy w' row) (h:w.heap[k]?=some x) (hne:some k≠row):w'.heap[k]?=some x :=
 (hg.block k (Array.getElem?_eq_some_iff.1 h).1 hne).trans h
theorem tJ {N:Nat} {w w':World} {k:Nat} {x:Obj} (hb:Below N w w') (h:w.heap[k]?=some x) (hk:k<N):w'.heap[k]?=some x :=
 (hb.block k hk).trans h
theorem aB {w w':World} {k:Nat} {x:Obj} (hb:Below w.heap.size w w') (h:w.heap[k]?=some x):w'.heap[k]?=some x :=
 (hb.block k (Array.getElem?_eq_some_iff.1 h).1).trans h
theorem aD {w:World} {k:Nat} {x:Obj} (a:Addr) (v:Value) (h:w.heap[k]?=some x) (hne:k≠a.block):(w.setCell a v).heap[k]?=some x :=
 (ij w a v k hne).trans h
theorem aG {w:World} {k o:Nat} {c:Array Value} {t:TypeId} {fr:Nat × Nat} (v:Value) (h:w.heap[k]?=some (.cells c t fr)):(w.setCell ⟨k,o,none⟩ v).heap[k]?=some (.cells (c.setIfInBounds o v) t fr):=by
 simp[World.setCell,mv,h]
theorem aA {w:World} {k:Nat} {c:Array Value} {t:TypeId} {fr:Nat × Nat} (h:w.heap[k]?=some (.cells c t fr)) (o:Nat):w.cell? ⟨k,o,none⟩=c[o]?:=by
 simp[World.cell?,h]
theorem c_2 {w:World} {k:Nat} {c:Array Value} {t:TypeId} {fr:Nat × Nat} (h:w.heap[k]?=some (.cells c t fr)):w.cell? ⟨k,0,none⟩=c[0]?/\w.cell? ⟨k,1,none⟩=c[1]?:=⟨aA h 0,aA h 1⟩
theorem c_3 {w:World} {k:Nat} {c:Array Value} {t:TypeId} {fr:Nat × Nat} (h:w.heap[k]?=some (.cells c t fr)):w.cell? ⟨k,0,none⟩=c[0]?/\w.cell? ⟨k,1,none⟩=c[1]?/\w.cell? ⟨k,2,none⟩=c[2]?:=⟨aA h 0,aA h 1,aA h 2⟩
theorem c_4 {w:World} {k:Nat} {c:Array Value} {t:TypeId} {fr:Nat × Nat} (h:w.heap[k]?=some (.cells c t fr)):w.cell? ⟨k,0,none⟩=c[0]?/\w.cell? ⟨k,1,none⟩=c[1]?/\w.cell? ⟨k,2,none⟩=c[2]?/\w.cell? ⟨k,3,none⟩=c[3]?:=⟨aA h 0,aA h 1,aA h 2,aA h 3⟩
theorem c_5 {w:World} {k:Nat} {c:Array Value} {t:TypeId} {fr:Nat × Nat} (h:w.heap[k]?=some (.cells c t fr)):w.cell? ⟨k,0,none⟩=c[0]?/\w.cell? ⟨k,1,none⟩=c[1]?/\w.cell? ⟨k,2,none⟩=c[2]?/\w.cell? ⟨k,3,none⟩=c[3]?/\w.cell? ⟨k,4,none⟩=c[4]?:=⟨aA h 0,aA h 1,aA h 2,aA h 3,aA h 4⟩
theorem c_6 {w:World} {k:Nat} {c:Array Value} {t:TypeId} {fr:Nat × Nat} (h:w.heap[k]?=some (.cells c t fr)):w.cell? ⟨k,0,none⟩=c[0]?/\w.cell? ⟨k,1,none⟩=c[1]?/\w.cell? ⟨k,2,none⟩=c[2]?/\w.cell? ⟨k,3,none⟩=c[3]?/\w.cell? ⟨k,4,none⟩=c[4]?/\w.cell? ⟨k,5,none⟩=c[5]?:=⟨aA h 0,aA h 1,aA h 2,aA h 3,aA h 4,aA h 5⟩
theorem c_9 {w:World} {k:Nat} {c:Array Value} {t:TypeId} {fr:Nat × Nat} (h:w.heap[k]?=some (.cells c t fr)):w.cell? ⟨k,0,none⟩=c[0]?/\w.cell? ⟨k,1,none⟩=c[1]?/\w.cell? ⟨k,2,none⟩=c[2]?/\w.cell? ⟨k,3,none⟩=c[3]?/\w.cell? ⟨k,4,none⟩=c[4]?/\w.cell? ⟨k,5,none⟩=c[5]?/\w.cell? ⟨k,6,none⟩=c[6]?/\w.cell? ⟨k,7,none⟩=c[7]?/\w.cell? ⟨k,8,none⟩=c[8]?:=⟨aA h 0,aA h 1,aA h 2,aA h 3,aA h 4,aA h 5,aA h 6,aA h 7,aA h 8⟩
theorem c_10 {w:World} {k:Nat} {c:Array Value} {t:TypeId} {fr:Nat × Nat} (h:w.heap[k]?=some (.cells c t fr)):w.cell? ⟨k,0,none⟩=c[0]?/\w.cell? ⟨k,1,none⟩=c[1]?/\w.cell? ⟨k,2,none⟩=c[2]?/\w.cell? ⟨k,3,none⟩=c[3]?/\w.cell? ⟨k,4,none⟩=c[4]?/\w.cell? ⟨k,5,none⟩=c[5]?/\w.cell? ⟨k,6,none⟩=c[6]?/\w.cell? ⟨k,7,none⟩=c[7]?/\w.cell? ⟨k,8,none⟩=c[8]?/\w.cell? ⟨k,9,none⟩=c[9]?:=⟨aA h 0,aA h 1,aA h 2,aA h 3,aA h 4,aA h 5,aA h 6,aA h 7,aA h 8,aA h 9⟩
theorem c_11 {w:World} {k:Nat} {c:Array Value} {t:TypeId} {fr:Nat × Nat} (h:w.heap[k]?=some (.cells c t fr)):w.cell? ⟨k,0,none⟩=c[0]?/\w.cell? ⟨k,1,none⟩=c[1]?/\w.cell? ⟨k,2,none⟩=c[2]?/\w.cell? ⟨k,3,none⟩=c[3]?/\w.cell? ⟨k,4,none⟩=c[4]?/\w.cell? ⟨k,5,none⟩=c[5]?/\w.cell? ⟨k,6,none⟩=c[6]?/\w.cell? ⟨k,7,none⟩=c[7]?/\w.cell? ⟨k,8,none⟩=c[8]?/\w.cell? ⟨k,9,none⟩=c[9]?/\w.cell? ⟨k,10,none⟩=c[10]?:=⟨aA h 0,aA h 1,aA h 2,aA h 3,aA h 4,aA h 5,aA h 6,aA h 7,aA h 8,aA h 9,aA h 10⟩
theorem c_18 {w:World} {k:Nat} {c:Array Value} {t:TypeId} {fr:Nat × Nat} (h:w.heap[k]?=some (.cells c t fr)):w.cell? ⟨k,0,none⟩=c[0]?/\w.cell? ⟨k,1,none⟩=c[1]?/\w.cell? ⟨k,2,none⟩=c[2]?/\w.cell? ⟨k,3,none⟩=c[3]?/\w.cell? ⟨k,4,none⟩=c[4]?/\w.cell? ⟨k,5,none⟩=c[5]?/\w.cell? ⟨k,6,none⟩=c[6]?/\w.cell? ⟨k,7,none⟩=c[7]?/\w.cell? ⟨k,8,none⟩=c[8]?/\w.cell? ⟨k,9,none⟩=c[9]?/\w.cell? ⟨k,10,none⟩=c[10]?/\w.cell? ⟨k,11,none⟩=c[11]?/\w.cell? ⟨k,12,none⟩=c[12]?/\w.cell? ⟨k,13,none⟩=c[13]?/\w.cell? ⟨k,14,none⟩=c[14]?/\w.cell? ⟨k,15,none⟩=c[15]?/\w.cell? ⟨k,16,none⟩=c[16]?/\w.cell? ⟨k,17,none⟩=c[17]?:=⟨aA h 0,aA h 1,aA h 2,aA h 3,aA h 4,aA h 5,aA h 6,aA h 7,aA h 8,aA h 9,aA h 10,aA h 11,aA h 12,aA h 13,aA h 14,aA h 15,aA h 16,aA h 17⟩
theorem aF {w:World} {k:Nat} {c:Array Value} {t:TypeId} (h:w.heap[k]?=some (.cells c t (0,0))) (o:Nat):w.frozen? ⟨k,o,none⟩=false:=by
 simp[World.frozen?,h]
theorem aN (w:World) (o:Obj) (n:Nat) (h:w.heap.size=n):(w.alloc o).heap[n]?=some o:=by subst h;exact ib w o
theorem retB {a b:Bool} (h:a=b):Ending.returned (.bool a)=Ending.returned (.bool b):=by rw[h]
theorem retI {k:IntKind} {a b:Int} (h:a=b):Ending.returned (.int k a)=Ending.returned (.int k b):=by rw[h]
theorem ltOf {w:World} {k:Nat} {x:Obj} (h:w.heap[k]?=some x):k<w.heap.size:=(Array.getElem?_eq_some_iff.1 h).1
theorem aU {w w':World} (hb:Below w.heap.size w w') (row:Option Nat):w.grownBy w' row:=⟨hb.os,hb.tape,hb.output,hb.size,λk hk _=>hb.block k hk⟩
theorem fS {w w':World} {base:Nat} {e:TypeId} {size:Nat} {v:Value} {n:Nat} {xs:List Value} (h:w.ownsRow base e size v n xs) (hb:Below w.heap.size w w'):w'.ownsRow base e size v n xs :=
 h.kept (aU hb none) (by cases v.ownBlock<;>simp)
def sR (ops:Array Oper) (m:Nat):Bool:=(List.range ops.size).all λj=>match ops[j]? with
 | none=>true
 | some o=>(o.after.all λe=>decide (e.on<j))&&(decide (j<m)||(o.guard.isNone&&(List.range j).all λi=>o.after.any λe=>Region.binds .any e&&e.on==i))
section
variable {P:Program} {ops:Array Oper} {Q:Exit->Act->World->Prop}
theorem kD {m j:Nat} {o:Oper} (h:sR ops m=true) (ho:ops[j]?=some o) :
 (∀e∈o.after,e.on<j)/\(m<=j->o.guard=none/\∀i<j,∃e∈o.after,Region.binds .any e=true/\e.on=i):=by
 have hj:j<ops.size:=(Array.getElem?_eq_some_iff.1 ho).1;simp only[sR,oc,List.mem_range] at h;have h1:=h j hj;simp only[ho,kg,qo,jw,o6,oc,List.mem_range] at h1;refine⟨λe he=>h1.1 e he,λhm=>?_⟩;rcases h1.2 with h2|⟨h2,h3⟩
 ·omega
 ·refine⟨by simpa using h2,λi hi=>?_⟩;have:=h3 i hi;simp only[Array.any_eq_true,kg,mg] at this;obtain⟨k,hk,hb,aa⟩:=this;exact⟨_,Array.getElem_mem hk,hb,aa⟩
theorem mT {ops:Array Oper} {md:Region.Mode} {aa:Array Bool} (ab:∀(j:Nat) (o:Oper),ops[j]?=some o->∀e∈o.after,e.on<j) (af:aa.size=ops.size) {j:Nat} (hj:j<ops.size) (hl:aa.getD j true=false) :
 Region.ready md ops aa≠[]:=by
 have ae:∀n,∀j,j<=n->j<ops.size->aa.getD j true=false->Region.ready md ops aa≠[]:=by
  intro n
  induction n with
  | zero =>
    intro j hn hj hl;obtain rfl:j=0:=ga
    have:0∈Region.ready md ops aa:=mem_ready.2 ⟨hl,_,jc hj,λe he _=>absurd (ab 0 _ (jc hj) e he) ga⟩;exact List.ne_nil_of_mem this
  | succ n ih =>
    intro j hn hj hl;by_cases ac:∀e∈(ops[j]).after,aa.getD e.on false=true
    ·have:j∈Region.ready md ops aa:=mem_ready.2 ⟨hl,_,jc hj,λe he _=>ac e he⟩;exact List.ne_nil_of_mem this
    ·simp only[Classical.not_forall] at ac;obtain⟨e,he,ad⟩:=ac;have ag:=ab j _ (jc hj) e he;refine ih e.on ga ga ?_;have hs:e.on<aa.size:=ga
     simp only[jf,jc hs,kq] at ad ⊢
     simpa using ad
 exact ae j j lr hj hl
theorem aFz {m:Nat} (aj:sR ops m=true):∀(k j:Nat) (aa:Array Bool) (a:Act) (w:World),m<=j->j+k=ops.size->aa.size=ops.size->(∀i,i<j->aa.getD i false=true)->(∀i,j<=i->i<ops.size->aa.getD i true=false) ->
 wpOps P ops Q (List.range' j k) a w->wpAny P .any ops Q k aa a w:=by
 intro k
 induction k with
 | zero =>
   intro j aa a w hm hj ag ab af h;refine⟨?_,by simpa [wpOps] using h⟩;refine List.eq_nil_iff_forall_not_mem.2 λi hi=>?_;obtain⟨h0,o,ho,_⟩:=mem_ready.1 hi;have am:i<ops.size:=(Array.getElem?_eq_some_iff.1 ho).1;have h1:=ab i ga;have hs:i<aa.size:=ga
   simp only[jf,jc hs,kq] at h0 h1;rw[h0] at h1;cases h1
 | succ k ih =>
   intro j aa a w hm hj ag ab af h;have ae:j<ops.size:=ga
   have ac:Region.ready .any ops aa=[j]:=by
    have ad:∀i,i∈Region.ready .any ops aa ↔ i=j:=by
     intro i;constructor
     ·intro hi;obtain⟨h0,o,ho,ah⟩:=mem_ready.1 hi;have am:i<ops.size:=(Array.getElem?_eq_some_iff.1 ho).1;rcases Nat.lt_trichotomy i j with hlt|heq|hgt
      ·have h1:=ab i hlt;have hs:i<aa.size:=ga
       simp only[jf,jc hs,kq] at h0 h1;rw[h0] at h1;cases h1
      ·exact heq
      ·obtain⟨e,he,hb,al⟩:=((kD aj ho).2 ga).2 j hgt;have h1:=ah e he hb;have h2:=af j lr ae;rw[al] at h1;have hs:j<aa.size:=ga
       simp only[jf,jc hs,kq] at h1 h2;rw[h2] at h1;cases h1
     ·rintro rfl;refine mem_ready.2 ⟨af i lr ae,_,jc ae,λe he _=>ab _ ((kD aj (jc ae)).1 e he)⟩
    have ai:(Region.ready .any ops aa).Nodup:=List.filter_sublist.nodup List.nodup_range;cases hr:Region.ready .any ops aa with
    | nil=>have:=(ad j).2 rfl;rw[hr] at this;cases this
    | cons x xs =>
      rw[hr] at ad ai;obtain rfl:x=j:=(ad x).1 ge;cases xs with
      | nil=>rfl
      | cons y ys =>
        obtain rfl:y=x:=(ad y).1 ge;simp at ai
   refine⟨λh0=>(by rw[ac] at h0;cases h0),λi hi=>?_⟩;rw[ac] at hi;obtain rfl:i=j:=by simpa using hi
   rw[List.range'_succ,wpOps_cons] at h;refine lh (λa' w' h'=>ih (i+1) _ a' w' ga ga (by simp[ag]) ?_ ?_ h') h
   ·intro t ht;by_cases ak:i=t
    ·subst ak;simp[jf,ag,ae]
    ·rw[nt false ak];exact ab t ga
   ·intro t ht an;rw[nt true ga];exact af t ga an
theorem sP {l:List Oper} {m i:Nat} (ad:i<m) (hg:∀o,l[i]?=some o->∀g,o.guard=some g->g.1<m) {K:Act->World->Prop} {a:Act} {w:World} (h:wpOp P (l.take m).toArray Q i K a w):wpOp P l.toArray Q i K a w:=by
 have he:(l.take m).toArray[i]?=l.toArray[i]?:=by simp[ad]
 unfold wpOp at *;rw[he] at h;cases ho:l.toArray[i]? with
 | none=>simpa [ho] using h
 | some o =>
   simp only[ho] at h ⊢;have hw:Region.wanted o (yielded (l.take m).toArray a.tmps)=Region.wanted o (yielded l.toArray a.tmps):=by
    unfold Region.wanted;cases ac:o.guard with
    | none=>rfl
    | some g =>
      obtain⟨g,aa⟩:=g;have ab:=hg o (by simpa using ho) (g,aa) ac;have:(l.take m).toArray[g]?=l.toArray[g]?:=by simp[ab]
      simp only[yielded,this]
   rwa[hw] at h
end
def mI (l:List Oper) (m:Nat):Bool:=(l.take m).all λo=>match o.guard with|none=>true|some g=>decide (g.1<m)
section
variable {P:Program} {l:List Oper} {Q:Exit->Act->World->Prop}
theorem aDg {m:Nat} (ak:sR l.toArray m=true) (au:mI l m=true) (hm:m<=l.length):∀(aa:Nat) (L1 L:Array Bool) (a:Act) (w:World),L1.size=m->L.size=l.length->(∀i,i<m->L[i]?=L1[i]?)->(∀i,m<=i->i<l.length->L.getD i true=false) ->
 wpAny P .any (l.take m).toArray (λe a w=>match e with | .normal=>wpOps P l.toArray Q (List.range' m (l.length-m)) a w|e=>Q e a w) aa L1 a w->wpAny P .any l.toArray Q (aa+(l.length-m)) L a w:=by
 have ae:∀(j:Nat) (o:Oper),(l.take m).toArray[j]?=some o->∀e∈o.after,e.on<j:=λj o ho=>by
  have:l.toArray[j]?=some o:=by
   simp only[nf,mw] at ho ⊢;split at ho
   ·exact ho
   ·cases ho
  exact(kD ak this).1
 have ag:∀i,i<m->∀o,l[i]?=some o->∀g,o.guard=some g->g.1<m:=by
  intro i hi o ho g hg;have am:o∈l.take m:=List.mem_of_getElem? (i:=i) (by simp[hi,ho]);have:=List.all_eq_true.1 au o am
  simpa [hg] using this
 have ay:(l.take m).toArray.size=m:=by simp;omega
 have ad:∀(aa:Nat) (L1 L:Array Bool) (a:Act) (w:World),L1.size=m->L.size=l.length->(∀i,i<m->L[i]?=L1[i]?)->(∀i,m<=i->i<l.length->L.getD i true=false) ->
  Region.ready .any (l.take m).toArray L1=[]->wpOps P l.toArray Q (List.range' m (l.length-m)) a w->wpAny P .any l.toArray Q (l.length-m) L a w:=by
  intro aa L1 L a w h1 h2 h3 h4 hr h;refine aFz ak _ m L a w lr gi (by simpa using h2) ?_ ?_ h
  ·intro i hi;have al:i<L1.size:=ga
   by_cases ap:L1.getD i true=false
   ·exact absurd hr (mT ae ga ga ap)
   ·simp only[jf,h3 i hi,jc al,kq] at ap ⊢
    simpa using ap
  ·intro i hi ar;exact h4 i hi (by simpa using ar)
 have ab:∀(L1 L:Array Bool),L1.size=m->L.size=l.length->(∀i,i<m->L[i]?=L1[i]?)->(∀i,m<=i->i<l.length->L.getD i true=false)->Region.ready .any (l.take m).toArray L1≠[] ->
  ∀i,i∈Region.ready .any l.toArray L->i<m/\i∈Region.ready .any (l.take m).toArray L1:=by
  intro L1 L h1 h2 h3 h4 ah i hi;obtain⟨h0,o,ho,ac⟩:=mem_ready.1 hi;have az:i<l.length:=by have:=(Array.getElem?_eq_some_iff.1 ho).1;simpa using this
  have hD:∀(t:Nat) d,t<m->L.getD t d=L1.getD t d:=λt d ht=>by simp only[jf,h3 t ht]
  by_cases af:i<m
  ·refine⟨af,mem_ready.2 ⟨by rw[<-hD i true af];exact h0,o,?_,λe he hb=>?_⟩⟩
   ·simp only[nf,mw,af,je] at ho ⊢;exact ho
   ·have ax:=(kD ak ho).1 e he;rw[<-hD e.on false ga];exact ac e he hb
  ·exfalso;apply ah;refine List.eq_nil_iff_forall_not_mem.2 λt ht=>?_;obtain⟨g0,ot,ai,_⟩:=mem_ready.1 ht;have aj:t<m:=by have:=(Array.getElem?_eq_some_iff.1 ai).1;omega
   obtain⟨e,he,hb,aw⟩:=((kD ak ho).2 ga).2 t ga;have h5:=ac e he hb;rw[aw,hD t false aj] at h5;have hs:t<L1.size:=ga
   simp only[jf,jc hs,kq] at h5 g0;rw[g0] at h5;cases h5
 intro aa
 induction aa with
 | zero =>
   intro L1 L a w h1 h2 h3 h4 h;rw[ir];exact ad 0 L1 L a w h1 h2 h3 h4 h.1 h.2
 | succ aa ih =>
   intro L1 L a w h1 h2 h3 h4 h;by_cases ah:Region.ready .any (l.take m).toArray L1=[]
   ·have h5:=ad 0 L1 L a w h1 h2 h3 h4 ah (h.1 ah)
    -- with more aa than is wanted
    have more:∀(n k:Nat) (L:Array Bool) (a:Act) (w:World),wpAny P .any l.toArray Q n L a w->wpAny P .any l.toArray Q (n+k) L a w:=by
     intro n
     induction n with
     | zero =>
       intro k L a w h;cases k with
       | zero=>exact h
       | succ k=>rw[ir];exact⟨λ_=>h.2,λi hi=>by rw[h.1] at hi;cases hi⟩
     | succ n ihn =>
       intro k L a w h;rw[show n+1+k=(n+k)+1 by omega];exact⟨h.1,λi hi=>lh (λa' w' h'=>ihn k _ a' w' h') (h.2 i hi)⟩
    rw[show aa+1+(l.length-m)=(l.length-m)+(aa+1) by omega];exact more _ _ _ _ _ h5
   ·rw[show aa+1+(l.length-m)=(aa+(l.length-m))+1 by omega];have ao:=ab L1 L h1 h2 h3 h4 ah;refine⟨λh0=>?_,λi hi=>?_⟩
    ·-- something of the first part may come up here too
     exfalso;obtain⟨t,ht⟩:=List.exists_mem_of_ne_nil _ ah;obtain⟨g0,ot,ai,ac⟩:=mem_ready.1 ht;have aj:t<m:=by have:=(Array.getElem?_eq_some_iff.1 ai).1;omega
     have an:l.toArray[t]?=some ot:=by simp only[nf,mw,aj,je] at ai ⊢;exact ai
     have hD:∀(s:Nat) d,s<m->L.getD s d=L1.getD s d:=λs d hs=>by simp only[jf,h3 s hs]
     have:t∈Region.ready .any l.toArray L:=mem_ready.2 ⟨by rw[hD t true aj];exact g0,ot,an,λe he hb=>by
      have ax:=ae t ot ai e he;rw[hD e.on false ga];exact ac e he hb⟩
     rw[h0] at this;cases this
    ·obtain⟨af,al⟩:=ao i hi;have h6:=sP af (ag i af) (Q:=λe a w=>match e with | .normal=>wpOps P l.toArray Q (List.range' m (l.length-m)) a w|e=>Q e a w) (h.2 i al);have h7:wpOp P l.toArray Q i (wpAny P .any (l.take m).toArray (λe a w=>match e with | .normal=>wpOps P l.toArray Q (List.range' m (l.length-m)) a w|e=>Q e a w) aa (L1.setIfInBounds i true)) a w:=by
      unfold wpOp at h6 ⊢;cases ho:l.toArray[i]? with
      | none=>simpa [ho] using h6
      | some o =>
        simp only[ho] at h6 ⊢;split
        ·rename_i hw;simp only[hw,je] at h6;rcases h6 with h6|⟨h6,h8⟩
         ·refine .inl ?_;unfold Oper.wp at h6 ⊢;generalize (execOp a.eval o).run P w=r at h6 ⊢;cases r with
          | ok n w' =>
            cases n<;>simp only[Oper.upon] at h6 ⊢ <;> first
             | exact h6
             | (refine Calls.mono h6 λe w'' he=>?_
                cases e<;>first|exact he|(obtain⟨a0,w0,hq⟩:=he;exact⟨a0,w0,hq⟩))
          | halt x w'=>cases x<;>simp only[Oper.upon] at h6 ⊢ <;> exact h6
         ·exact .inr ⟨h6,h8⟩
        ·rename_i hw;simp only[hw] at h6;exact h6
     refine lh (λa' w' h8=>ih (L1.setIfInBounds i true) (L.setIfInBounds i true) a' w' (by simp[h1]) (by simp[h2]) ?_ ?_ h8) h7
     ·intro t ht;by_cases aq:i=t
      ·subst aq;have:i<L.size:=ga
       simp[h1,af,this]
      ·simp[Array.getElem?_setIfInBounds_ne aq,h3 t ht]
     ·intro t ht av;rw[nt true ga];exact h4 t ht av
theorem aFx {m:Nat} (aa:sR l.toArray m=true) (k:Nat):∀(j:Nat) (a:Act) (w:World),wpOps P (l.drop m).toArray Q (List.range' j k) a w->wpOps P l.toArray Q (List.range' (m+j) k) a w:=by
 induction k with
 | zero=>intro j a w h;simpa [wpOps] using h
 | succ k ih =>
   intro j a w h;rw[List.range'_succ,wpOps_cons] at h ⊢;have he:(l.drop m).toArray[j]?=l.toArray[m+j]?:=by simp
   have h':wpOp P l.toArray Q (m+j) (wpOps P (l.drop m).toArray Q (List.range' (j+1) k)) a w:=by
    unfold wpOp at h ⊢;rw[he] at h;cases ho:l.toArray[m+j]? with
    | none=>simpa [ho] using h
    | some o =>
      simp only[ho] at h ⊢;have hg:=((kD aa ho).2 ga).1;have hw:∀y,Region.wanted o y=true:=λy=>by simp[Region.wanted,hg]
      simpa only[hw,je] using h
   refine lh (λa' w' h8=>?_) h';have:=ih (j+1) a' w' h8;rwa[show m+(j+1)=m+j+1 by omega] at this
theorem aP {id:Nat} {a:Act} {w:World} (m:Nat) (S:World->Prop) (hP:P.follows .mixedOrders=true) (ac:sR l.toArray m=true) (ad:mI l m=true) (hm:decide (m<=l.length)=true) (hS:S w.drew)
 (h:S w.drew->wpAnyH P .any (l.take m).toArray (λe a w=>match e with | .normal=>wpList P (l.drop m).toArray Q (l.drop m) a w|e=>Q e a w) S m (Array.replicate m false) a w.drew):(Code.region id l.toArray true).wp P Q a w:=by
 have ae:m<=l.length:=ld hm;have h1:=wpAny_of_held _ _ _ _ (h hS);have mono:∀(aa:Nat) (L:Array Bool) (a:Act) (w:World),wpAny P .any (l.take m).toArray (λe a w=>match e with | .normal=>wpList P (l.drop m).toArray Q (l.drop m) a w|e=>Q e a w) aa L a w ->
  wpAny P .any (l.take m).toArray (λe a w=>match e with | .normal=>wpOps P l.toArray Q (List.range' m (l.length-m)) a w|e=>Q e a w) aa L a w:=by
  have hn:∀a w,wpList P (l.drop m).toArray Q (l.drop m) a w->wpOps P l.toArray Q (List.range' m (l.length-m)) a w:=λa w h=>by
   have e:=wpOps_eq_wpList (P:=P) (Q:=Q) (ops:=(l.drop m).toArray) (l.drop m) 0 (λj=>by simp);rw[<-e] at h;have:=aFx ac _ 0 a w h
   simpa using this
  have ab:∀{i:Nat} {K K':Act->World->Prop} {a:Act} {w:World},(∀a w,K a w->K' a w)->wpOp P (l.take m).toArray (λe a w=>match e with | .normal=>wpList P (l.drop m).toArray Q (l.drop m) a w|e=>Q e a w) i K a w ->
   wpOp P (l.take m).toArray (λe a w=>match e with | .normal=>wpOps P l.toArray Q (List.range' m (l.length-m)) a w|e=>Q e a w) i K' a w:=by
   intro i K K' a w hk h6;refine lh hk ?_;unfold wpOp at h6 ⊢;cases ho:(l.take m).toArray[i]? with
   | none=>simpa [ho] using h6
   | some o =>
     simp only[ho] at h6 ⊢;split
     ·rename_i hw;simp only[hw,je] at h6;rcases h6 with h6|⟨h6,h8⟩
      ·refine .inl ?_;unfold Oper.wp at h6 ⊢;generalize (execOp a.eval o).run P w=r at h6 ⊢;cases r with
       | ok n w' =>
         cases n<;>simp only[Oper.upon] at h6 ⊢ <;> first
          | exact h6
          | (refine Calls.mono h6 λe w'' he=>?_
             cases e<;>first|exact he|(obtain⟨a0,w0,hq⟩:=he;exact⟨a0,w0,hq⟩))
       | halt x w'=>cases x<;>simp only[Oper.upon] at h6 ⊢ <;> exact h6
      ·exact .inr ⟨h6,h8⟩
     ·rename_i hw;simp only[hw] at h6;exact h6
  intro aa
  induction aa with
  | zero=>intro L a w h;exact⟨h.1,hn _ _ h.2⟩
  | succ aa ih=>intro L a w h;exact⟨λh0=>hn _ _ (h.1 h0),λi hi=>ab (λa w h=>ih _ a w h) (h.2 i hi)⟩
 refine wp_region_any hP ?_;have h2:=aDg ac ad ae m (Array.replicate m false) (Array.replicate l.toArray.size false) a w.drew ge ge (λi hi=>by rw[o8,o8,gw hi,gw gi]) (λi _ hi=>by simp[jf,hi]) (mono _ _ _ _ h1);have e:m+(l.length-m)=l.toArray.size:=by simp;omega
 rw[e] at h2;exact h2
end
/-! ### A slice of values that the call builds -/
theorem mJ {α:Type} (f:α->List Value) (n:Nat) (hf:∀c,(f c).length=n):∀(cs:List α) (j i:Nat) (h:j<cs.length),i<n->(cs.flatMap f)[j * n+i]?=(f cs[j])[i]?
 | c :: cs,0,i,_,hi=>by
   rw[nh,Nat.zero_mul,ir,List.getElem?_append_left (by rw[hf];exact hi)];rfl
 | c :: cs,j+1,i,h,hi=>by
   rw[nh,List.getElem?_append_right (by rw[hf,Nat.add_mul];omega),hf,show(j+1) * n+i-n=j * n+i by rw[Nat.add_mul];omega,mJ f n hf cs j i gv hi];rfl
theorem VC.cs_len (c:VC):c.cs.length=6:=rfl
theorem At.ofRow {w:World} {ab:Nat} {e:TypeId} {g:Nat} {n cap:Nat} {cs:List VC} (h:w.ownsRow ab e 6 (Sl (So g 0) n cap) n (cs.flatMap VC.cs)) (j:Nat) (hj:j<cs.length):At w g (j * 6) cs[j]:=by
 have hc:=h.cells (g:=g) rfl;have aa:∀i u,i<6->(cs[j].cs)[i]?=some u->w.cell? ⟨g,j * 6+i,none⟩=some u:=by
  intro i u hi hu;have:=hc (j * 6+i) u (by rw[mJ VC.cs 6 VC.cs_len cs j i hj hi];exact hu);rw[show(⟨g,0,none⟩:Addr).add (j * 6+i)=⟨g,j * 6+i,none⟩ by unfold Addr.add;split<;>simp_all] at this;exact this
 exact⟨aa 0 _ ga rfl,aa 1 _ ga rfl,aa 2 _ ga rfl,aa 3 _ ga rfl,aa 4 _ ga rfl,aa 5 _ ga rfl⟩
def BuiltV (T B:Nat) (w:World) (v:Value) (k:Nat) (l:List Val):Prop :=
 ∃cs:List VC,cs.length=k/\w.ownsRow B T 6 v k (cs.flatMap VC.cs)/\∀j (h:j<cs.length) (h':j<l.length),IsVal (λb=>B<=b/\b<w.heap.size/\some b≠v.ownBlock) w cs[j] l[j]
theorem BuiltV.nil (T B:Nat) (w:World) (l:List Val):BuiltV T B w Z0 0 l:=⟨[],rfl,lf _ _ _ _,λj h=>by simp at h⟩
theorem BuiltV.ext {T B:Nat} {w w':World} {v:Value} {k:Nat} {l:List Val} (h:BuiltV T B w v k l) (hb:Below w.heap.size w w'):BuiltV T B w' v k l:=by
 obtain⟨cs,h1,h2,h3⟩:=h;exact⟨cs,h1,fS h2 hb,λj hj hj'=>(h3 j hj hj').same λb hb'=>⟨⟨hb'.1,by have:=hb.size;omega,hb'.2.2⟩,hb.block b hb'.2.1⟩⟩
theorem BuiltV.set {T B:Nat} {w:World} {v:Value} {k:Nat} {l:List Val} (h:BuiltV T B w v k l) (a:Addr) (u:Value) (ha:a.block<B):BuiltV T B (w.setCell a u) v k l:=by
 obtain⟨cs,h1,h2,h3⟩:=h;exact⟨cs,h1,ownsRow_setCell_below h2 ha u,λj hj hj'=>(h3 j hj hj').same λb hb'=>⟨⟨hb'.1,by simpa [World.setCell] using hb'.2.1,hb'.2.2⟩,ij _ _ _ _ ga⟩⟩
theorem BuiltV.push {T B N:Nat} {w1 w2:World} {v:Value} {k:Nat} {l:List Val} {cs:List VC} {c:VC} {o:Obj} {g cap:Nat} (ad:cs.length=k)
 (ag:∀j (h:j<cs.length) (h':j<l.length),IsVal (λb=>B<=b/\b<w1.heap.size/\some b≠v.ownBlock) w1 cs[j] l[j])
 (hk:k<l.length) (hc:IsVal (λb=>N<=b/\b<w1.heap.size) w1 c l[k]) (hN:B<=N) (hv:∀r,v.ownBlock=some r->r<N)
 (ac:w2.ownsRow B T 6 (Sl (So g 0) (k+1) cap) (k+1) (cs.flatMap VC.cs++c.cs)) (aa:(w1.alloc o).grownBy w2 v.ownBlock) (ah:v.ownBlock=some g\/g=w1.heap.size+1) :
 BuiltV T B w2 (Sl (So g 0) (k+1) cap) (k+1) l:=by
 have ai:w1.heap.size+1<=w2.heap.size:=by have:=aa.size;simpa using this
 have ae:∀b,b<w1.heap.size->some b≠v.ownBlock->w2.heap[b]?=w1.heap[b]?:=λb hb ab =>
  (aa.block b gi ab).trans (iy _ _ _ hb)
 have hg:∀b,b<w1.heap.size->some b≠v.ownBlock->some b≠(Value.slice (So g 0) (k+1) cap).ownBlock:=λb hb ab e=>by
  simp only[Value.ownBlock,lw] at e;subst e;rcases ah with h|h
  ·exact ab h.symm
  ·omega
 refine⟨cs++[c],by simp[ad],by simpa using ac,λj hj hj'=>?_⟩;by_cases af:j<cs.length
 ·rw[ku af];exact(ag j af hj').same λb hb=>⟨⟨hb.1,by omega,hg b hb.2.1 hb.2.2⟩,ae b hb.2.1 hb.2.2⟩
 ·obtain rfl:j=k:=by simp at hj;omega
  rw[li ga];simp only[ad,np,k8];have ab:∀b,N<=b->some b≠v.ownBlock:=λb hb e=>by have:=hv b e.symm;omega
  exact hc.same λb hb=>⟨⟨by omega,by omega,hg b hb.2 (ab b hb.1)⟩,ae b hb.2 (ab b hb.1)⟩
theorem BuiltV.shape {T B:Nat} {w:World} {v:Value} {k:Nat} {l:List Val} (h:BuiltV T B w v k l):∃a cap,v=Sl a k cap/\k<=cap/\(a=none->k=0)/\∀r,v.ownBlock=some r->B<=r/\r<w.heap.size:=by
 obtain⟨cs,h1,h2,h3⟩:=h;have aa:=h2.lt;rcases h2.2 with ⟨rfl,rfl⟩|⟨g,cap,cur,rfl,hb,hg,hn,_⟩
 ·exact⟨none,0,rfl,gy _,λ_=>rfl,aa⟩
 ·exact⟨_,cap,rfl,hn,λh=>by simp at h,aa⟩
theorem BuiltV.own {T B:Nat} {w:World} {v:Value} {k:Nat} {l:List Val} (h:BuiltV T B w v k l):∀r,v.ownBlock=some r->B<=r/\r<w.heap.size:=by
 obtain⟨_,_,h2,_⟩:=h;exact h2.lt
theorem BuiltV.vals {T B:Nat} {w:World} {a:Option Addr} {cap:Nat} {l:List Val} (h:BuiltV T B w (Sl a l.length cap) l.length l):l=[]\/∃b o,a=some ⟨b,o,none⟩/\(B<=b/\b<w.heap.size)/\IsVals (λb=>B<=b/\b<w.heap.size) w b o l:=by
 obtain⟨cs,h1,h2,h3⟩:=h;rcases h2.2 with ⟨h4,h5⟩|⟨g,cap',cur,hv,hb,hg,_⟩
 ·exact .inl (kr h5)
 ·simp only[lz] at hv;obtain⟨rfl,_,rfl⟩:=hv;refine .inr ⟨g,0,rfl,⟨hb,ltOf hg⟩,IsVals.of λj hj=>⟨cs[j]' ga,?_,?_⟩⟩
  ·rw[ir];exact At.ofRow h2 j ga
  ·exact(h3 j ga hj).same λb hb=>⟨⟨hb.1,hb.2.1⟩,rfl⟩
/-! ### A slice of fields that the call builds -/
def FC.cs (f:BA × VC):List Value:=.string f.1 :: f.2.cs
theorem FC.cs_len (f:BA × VC):(FC.cs f).length=7:=rfl
theorem FAt.ofRow {w:World} {ab:Nat} {e:TypeId} {g:Nat} {n cap:Nat} {cs:List (ByteArray × VC)} (h:w.ownsRow ab e 7 (Sl (So g 0) n cap) n (cs.flatMap FC.cs)) (j:Nat) (hj:j<cs.length):w.cell? ⟨g,j * 7,none⟩=some (Sv cs[j].1)/\At w g (j * 7+1) cs[j].2:=by
 have hc:=h.cells (g:=g) rfl;have aa:∀i u,i<7->(FC.cs cs[j])[i]?=some u->w.cell? ⟨g,j * 7+i,none⟩=some u:=by
  intro i u hi hu;have:=hc (j * 7+i) u (by rw[mJ FC.cs 7 FC.cs_len cs j i hj hi];exact hu);rw[show(⟨g,0,none⟩:Addr).add (j * 7+i)=⟨g,j * 7+i,none⟩ by unfold Addr.add;split<;>simp_all] at this;exact this
 exact⟨aa 0 _ ga rfl,aa 1 _ ga rfl,aa 2 _ ga rfl,aa 3 _ ga rfl,aa 4 _ ga rfl,aa 5 _ ga rfl,aa 6 _ ga rfl⟩
def BuiltF (T B:Nat) (w:World) (v:Value) (k:Nat) (ns:List BA) (l:List Val):Prop :=
 ∃cs:List (ByteArray × VC),cs.length=k/\w.ownsRow B T 7 v k (cs.flatMap FC.cs)/\∀j (h:j<cs.length) (h':j<l.length) (hn:j<ns.length),cs[j].1=ns[j]/\IsVal (λb=>B<=b/\b<w.heap.size/\some b≠v.ownBlock) w cs[j].2 l[j]
theorem BuiltF.nil (T B:Nat) (w:World) (ns:List BA) (l:List Val):BuiltF T B w Z0 0 ns l:=⟨[],rfl,lf _ _ _ _,λj h=>by simp at h⟩
theorem BuiltF.ext {T B:Nat} {w w':World} {v:Value} {k:Nat} {ns:List BA} {l:List Val} (h:BuiltF T B w v k ns l) (hb:Below w.heap.size w w'):BuiltF T B w' v k ns l:=by
 obtain⟨cs,h1,h2,h3⟩:=h;exact⟨cs,h1,fS h2 hb,λj hj hj' hn=>⟨(h3 j hj hj' hn).1,(h3 j hj hj' hn).2.same λb hb'=>⟨⟨hb'.1,by have:=hb.size;omega,hb'.2.2⟩,hb.block b hb'.2.1⟩⟩⟩
theorem BuiltF.set {T B:Nat} {w:World} {v:Value} {k:Nat} {ns:List BA} {l:List Val} (h:BuiltF T B w v k ns l) (a:Addr) (u:Value) (ha:a.block<B):BuiltF T B (w.setCell a u) v k ns l:=by
 obtain⟨cs,h1,h2,h3⟩:=h;exact⟨cs,h1,ownsRow_setCell_below h2 ha u,λj hj hj' hn=>⟨(h3 j hj hj' hn).1,(h3 j hj hj' hn).2.same λb hb'=>⟨⟨hb'.1,by simpa [World.setCell] using hb'.2.1,hb'.2.2⟩,ij _ _ _ _ ga⟩⟩⟩
theorem BuiltF.push {T B N:Nat} {w1 w2:World} {v:Value} {k:Nat} {ns:List BA} {l:List Val} {cs:List (ByteArray × VC)} {n:BA} {c:VC} {o:Obj} {g cap:Nat} (ae:cs.length=k)
 (af:∀j (h:j<cs.length) (h':j<l.length) (hn:j<ns.length),cs[j].1=ns[j]/\IsVal (λb=>B<=b/\b<w1.heap.size/\some b≠v.ownBlock) w1 cs[j].2 l[j])
 (hk:k<l.length) (ai:k<ns.length) (hn:n=ns[k]) (hc:IsVal (λb=>N<=b/\b<w1.heap.size) w1 c l[k]) (hN:B<=N) (hv:∀r,v.ownBlock=some r->r<N)
 (ad:w2.ownsRow B T 7 (Sl (So g 0) (k+1) cap) (k+1) (cs.flatMap FC.cs++FC.cs (n,c))) (aa:(w1.alloc o).grownBy w2 v.ownBlock) (ah:v.ownBlock=some g\/g=w1.heap.size+1) :
 BuiltF T B w2 (Sl (So g 0) (k+1) cap) (k+1) ns l:=by
 have aj:w1.heap.size+1<=w2.heap.size:=by have:=aa.size;simpa using this
 have ag:∀b,b<w1.heap.size->some b≠v.ownBlock->w2.heap[b]?=w1.heap[b]?:=λb hb ab =>
  (aa.block b gi ab).trans (iy _ _ _ hb)
 have hg:∀b,b<w1.heap.size->some b≠v.ownBlock->some b≠(Value.slice (So g 0) (k+1) cap).ownBlock:=λb hb ab e=>by
  simp only[Value.ownBlock,lw] at e;subst e;rcases ah with h|h
  ·exact ab h.symm
  ·omega
 refine⟨cs++[(n,c)],by simp[ae],by simpa using ad,λj hj hj' hjn=>?_⟩;by_cases ac:j<cs.length
 ·rw[ku ac];exact⟨(af j ac hj' hjn).1,(af j ac hj' hjn).2.same λb hb=>⟨⟨hb.1,by omega,hg b hb.2.1 hb.2.2⟩,ag b hb.2.1 hb.2.2⟩⟩
 ·obtain rfl:j=k:=by simp at hj;omega
  rw[li ga];simp only[ae,np,k8];have ab:∀b,N<=b->some b≠v.ownBlock:=λb hb e=>by have:=hv b e.symm;omega
  exact⟨hn,hc.same λb hb=>⟨⟨by omega,by omega,hg b hb.2 (ab b hb.1)⟩,ag b hb.2 (ab b hb.1)⟩⟩
theorem BuiltF.shape {T B:Nat} {w:World} {v:Value} {k:Nat} {ns:List BA} {l:List Val} (h:BuiltF T B w v k ns l):∃a cap,v=Sl a k cap/\k<=cap/\(a=none->k=0)/\∀r,v.ownBlock=some r->B<=r/\r<w.heap.size:=by
 obtain⟨cs,h1,h2,h3⟩:=h;have aa:=h2.lt;rcases h2.2 with ⟨rfl,rfl⟩|⟨g,cap,cur,rfl,hb,hg,hn,_⟩
 ·exact⟨none,0,rfl,gy _,λ_=>rfl,aa⟩
 ·exact⟨_,cap,rfl,hn,λh=>by simp at h,aa⟩
theorem BuiltF.own {T B:Nat} {w:World} {v:Value} {k:Nat} {ns:List BA} {l:List Val} (h:BuiltF T B w v k ns l):∀r,v.ownBlock=some r->B<=r/\r<w.heap.size:=by
 obtain⟨_,_,h2,_⟩:=h;exact h2.lt
theorem BuiltF.flds {T B:Nat} {w:World} {a:Option Addr} {cap:Nat} {ns:List BA} {l:List Val} (h:BuiltF T B w (Sl a l.length cap) l.length ns l) (hl:ns.length=l.length) (hz:∀n∈ns,n.size<=140737488351232):l=[]\/∃b o,a=some ⟨b,o,none⟩/\(B<=b/\b<w.heap.size)/\IsFlds (λb=>B<=b/\b<w.heap.size) w b o ns l:=by
 obtain⟨cs,h1,h2,h3⟩:=h;rcases h2.2 with ⟨h4,h5⟩|⟨g,cap',cur,hv,hb,hg,_⟩
 ·exact .inl (kr h5)
 ·simp only[lz] at hv;obtain⟨rfl,_,rfl⟩:=hv;refine .inr ⟨g,0,rfl,⟨hb,ltOf hg⟩,IsFlds.of hl λj hj hjn=>?_⟩;have h4:=FAt.ofRow h2 j ga;have h5:=h3 j ga hj hjn;rw[ir,<-h5.1];exact⟨⟨h4.1,by rw[h5.1];exact hz _ (kc _)⟩,_,h4.2,h5.2.same λb hb=>⟨⟨hb.1,hb.2.1⟩,rfl⟩⟩
end
def eO (k i s:Int) (t:BA) (ll fl:Nat):Bool:=k==0&&(i==0&&(s==0&&(t.toList.isEmpty&&(((ll:Int)==0)&&((fl:Int)==0)))))
theorem bT (k i s:Int) (t:BA) (la:Option Addr) (ll lc:Nat) (fa:Option Addr) (fl fc:Nat) (w:World) :
 Calls prog 109 #[.agg #[.int .i64 k,.int .i64 i,.int .i64 s,Sv t,Sl la ll lc,Sl fa fl fc]] w λe w'=>e=.returned (.bool (eO k i s t ll fl))/\Below w.heap.size w w':=by
 go_enter func109,ntmps109
 go_wp2
 all_goals go_ret
 all_goals exact⟨by simp[eO, *],(bR w).alloc lr _⟩
def oG (n:Int):Bool:=decide (n<0)||decide (1099511627776<n)
theorem nE (n:Int) (w:World):Calls prog 136 #[.int .i64 n] w λe w'=>e=.returned (.bool (oG n))/\w=w':=by
 go_enter func136,ntmps136
 go_wp2
 all_goals go_ret
 all_goals exact⟨by simp[oG, *],rfl⟩
def kX (n:Int):Bool:=decide (1<=n)&&decide (n<=1048576)
theorem nG (n:Int) (w:World):Calls prog 137 #[.int .i64 n] w λe w'=>e=.returned (.bool (kX n))/\w=w':=by
 go_enter func137,ntmps137
 by_cases h1:1<=n<;>by_cases h2:n<=1048576
 all_goals go_wp2
 all_goals go_ret
 all_goals refine⟨retB ?_,rfl⟩
 all_goals rw[kX,n8]
 all_goals simp
 all_goals omega
def cP (n lo hi:Int):Int:=if n<lo\/hi<n then 2 else 0
theorem gY (n lo hi:Int) (w:World):Calls prog 234 #[.int .i64 n,.int .i64 lo,.int .i64 hi] w λe w'=>e=.returned (.int .i64 (cP n lo hi))/\w=w':=by
 go_enter func234,ntmps234
 by_cases h1:n<lo<;>by_cases h2:hi<n
 all_goals go_wp2
 all_goals go_ret
 all_goals exact⟨by simp[cP, *],rfl⟩
def fJ (n most e:Int):Int:=if most<n then e else 0
theorem iI (n aa e:Int) (w:World):Calls prog 239 #[.int .i64 n,.int .i64 aa,.int .i64 e] w λe' w'=>e'=.returned (.int .i64 (fJ n aa e))/\w=w':=by
 go_enter func239,ntmps239
 by_cases h1:aa<n
 all_goals go_wp2
 all_goals go_ret
 all_goals exact⟨retI (by first|rw[fJ,gw ga]|rw[fJ,f9 ga]),rfl⟩
def nmC (n:Nat):Bool:=(decide (97<=n)&&decide (n<=122))||((decide (48<=n)&&decide (n<=57))||n==95)
def kA:List UInt8->Bool
 | []=>false
 | c :: r=>decide ((c :: r).length<=32)&&((decide (97<=c.toNat)&&decide (c.toNat<=122))&&(c :: r).all (λb=>nmC b.toNat))
def aH (s:BA):Bool:=kA s.data.toList
theorem tQ (s:BA):s.data.toList.length=s.size:=lu
theorem bget (s:BA) (k:Nat) (h:k<s.size):s.data.toList[k]'(by rw[tQ];exact h)=s[k]:=by rw[Array.getElem_toList];rfl
theorem bhead {s:BA} {c:UInt8} {r:List UInt8} (hl:s.data.toList=c :: r) (h0:0<s.size):s[0]=c:=by
 rw[<-bget s 0 h0];simp only[hl,k8]
theorem qC {s:BA} (h:s.toList=[]):aH s=false:=by
 rw[kw] at h;simp[aH,kA,h]
theorem uH {s:BA} (h:32<s.size):aH s=false:=by
 unfold aH;have:s.data.toList.length=s.size:=tQ s;cases hl:s.data.toList with
 | nil=>rfl
 | cons c r=>rw[hl] at this;simp[kA];intro h1;simp at this;omega
theorem qB {s:BA} (h0:0<s.size) (h:s[0].toNat<97\/122<s[0].toNat):aH s=false:=by
 unfold aH;cases hl:s.data.toList with
 | nil=>rfl
 | cons c r =>
   have e:s[0]=c:=bhead hl h0;rw[e] at h;simp[kA];intro _ h1 h2;omega
theorem uJ {s:BA} (k:Nat) (hk:k<s.size) (h:nmC s[k].toNat=false):aH s=false:=by
 unfold aH;have hm:s[k]∈s.data.toList:=by
  rw[<-bget s k hk];exact kc _
 cases hl:s.data.toList with
 | nil=>rfl
 | cons c r =>
   have:(c :: r).all (λb=>nmC b.toNat)=false:=by
    rw[List.all_eq_false];exact⟨s[k],by rw[<-hl];exact hm,by simp[h]⟩
   simp only[kA,this,Bool.and_false]
theorem rX {s:BA} (h0:0<s.size) (ac:s.size<=32) (h1:97<=s[0].toNat) (h2:s[0].toNat<=122) (ab:∀k (hk:k<s.size),nmC s[k].toNat=true):aH s=true:=by
 unfold aH;have aa:s.data.toList.length=s.size:=tQ s;cases hl:s.data.toList with
 | nil=>rw[hl] at aa;simp at aa;omega
 | cons c r =>
   have e:s[0]=c:=bhead hl h0;have ha:(c :: r).all (λb=>nmC b.toNat)=true:=by
    rw[oc];intro x hx;rw[<-hl] at hx;obtain⟨k,hk,rfl⟩:=n5 hx;rw[bget s k (by rw[<-aa];exact hk)];exact ab k (by rw[<-aa];exact hk)
   rw[e] at h1 h2;rw[hl] at aa;rw[kA,ha];simp only[im] at aa ⊢;simp;omega
theorem zU {w:World} {B:Nat} {s:BA} {cap:Nat} {t:TypeId} {fr:Nat × Nat} (h:w.heap[B]?=some (.cells (bytesRow s cap) t fr)) (k:Nat) (hk:k<s.size):w.cell? ⟨B,k,none⟩=some (.int .u8 (s[k].toNat:Nat)):=by
 rw[aA h k];unfold bytesRow;have aa:k<s.data.size:=hk;rw[Array.getElem?_append_left (by rw[Array.size_map];exact aa),Array.getElem?_map,jc aa];rfl
theorem gB (s:BA) (w:World) (hs:s.size<=140737488351232) :
 Calls prog 225 #[Sv s] w λe w'=>e=.returned (.bool (aH s))/\Below w.heap.size w w':=by
 have ak:=λw s=>run_bytes_of_string (P:=prog) w 9 40 5 s underlying9 underlying40 underlying5;by_cases he:s.toList=[]
 ·have HR:=f8 (qC he);go_enter func225,ntmps225
  go_wp2;go_ret;exact⟨retB HR.symm,gx _ w⟩
 ·by_cases hb:32<s.size
  ·have HR:=f8 (uH hb);have au:(32:Int)<(s.size:Int):=ga
   go_enter func225,ntmps225
   go_wp2;go_ret;exact⟨retB HR.symm,gx _ w⟩
  ·have h0:0<s.size:=by
    rcases pi s.size with h|h
    ·exfalso;apply he;rw[kw];exact kr (by rw[tQ];exact h)
    ·exact h
   have au:(s.size:Int)<=32:=ga
   by_cases hf:s[0].toNat<97\/122<s[0].toNat
   ·have HR:=f8 (qB h0 hf);rcases hf with hf|hf
    ·have ar:(s[0].toNat:Int)<97:=ga
     go_enter func225,ntmps225
     go_wp2;go_ret;exact⟨retB HR.symm,gx _ w⟩
    ·have ar:(122:Int)<(s[0].toNat:Int):=ga
     have av:(97:Int)<=(s[0].toNat:Int):=ga
     go_enter func225,ntmps225
     go_wp2;go_ret;exact⟨retB HR.symm,gx _ w⟩
   ·have aw:(97:Int)<=(s[0].toNat:Int):=ga
    have ax:(s[0].toNat:Int)<=122:=ga
    have ap:s.toList.isEmpty=false:=by cases hh:s.toList with|nil=>exact absurd hh he|cons _ _=>rfl
    have ao:97<=s[0].toNat:=ga
    have am:s[0].toNat<=122:=ga
    have HG:=f8 (λad=>rX h0 ga ao am ad);clear hf he ao am;obtain⟨cap,ah⟩:=xe (grownCap w s.size 0 5)
    have ag:=ak w s;rw[<-ah] at ag;clear ak ah;go_enter func225,ntmps225
    go_wp2;clear ag;obtain⟨wo,aj⟩:=xe ((w.alloc (.cells (bytesRow s cap) 5 ((bytesRow s cap).size,(bytesRow s cap).size+1))).drew)
    have ae:wo.heap[w.heap.size]?=some (.cells (bytesRow s cap) 5 ((bytesRow s cap).size,(bytesRow s cap).size+1)):=by rw[aj];exact ib w _
    have aa:Below w.heap.size w wo:=by rw[aj];exact((bR w).alloc lr _).drew
    rw[<-aj];clear aj
    go_loop [25] (λi=>∃k:Nat,k<=s.size/\i=.int .i64 k/\∀j (hj:j<s.size),j<k->nmC s[j].toNat=true) (λi=>s.size-(intOf i).toNat)
    case atStart=>exact⟨0,ii _,rfl,λj _ h=>absurd h (lj _)⟩
    case round =>
     obtain⟨k,hk,rfl,ad⟩:=hrel;have HA:=f8 ad;clear ad;by_cases an:k<s.size
     ·have af:=zU ae k an;have HB:=f8 ae;clear ae;obtain⟨c,hc⟩:=xe (s[k].toNat)
      rw[<-hc] at af;have HC:=f8 hc;clear hc;have aq:(k:Int)<(s.size:Int):=ga
      have ai:nmC c=true->∀j (hj:j<s.size),j<k+1->nmC s[j].toNat=true:=λhg j hj hjk=>by
       by_cases h:j=k
       ·subst h;rw[<-HC.o];exact hg
       ·exact HA.o j hj ga
      have al:nmC c=false->aH s=false:=λhg=>uJ k an (by rw[<-HC.o];exact hg);have ab:=f8 ai;clear ai;have ac:=f8 al;clear al;have h7:c<48\/(48<=c/\c<=57)\/(57<c/\c<95)\/c=95\/(95<c/\c<97)\/(97<=c/\c<=122)\/122<c:=ga
      rcases h7 with h7|⟨h7,h8⟩|⟨h7,h8⟩|h7|⟨h7,h8⟩|⟨h7,h8⟩|h7
      case inl =>
       have i1:(c:Int)<97:=ga
       have i2:(c:Int)<48:=ga
       have i3:((c:Int) != 95)=true:=by simp;omega
       go_wp2;go_ret;exact⟨retB (ac.o (by simp[nmC];omega)).symm,aa⟩
      case inr.inl =>
       have i1:(c:Int)<97:=ga
       have i2:(48:Int)<=(c:Int):=ga
       have i3:(c:Int)<=57:=ga
       go_wp2
       go_round
       case rel=>exact⟨k+1,by omega,by go_num,ab.o (by simp[nmC];omega)⟩
       case measure=>simp[intOf];omega
      case inr.inr.inl =>
       have i1:(c:Int)<97:=ga
       have i2:(48:Int)<=(c:Int):=ga
       have i4:(57:Int)<(c:Int):=ga
       have i3:((c:Int) != 95)=true:=by simp;omega
       go_wp2;go_ret;exact⟨retB (ac.o (by simp[nmC];omega)).symm,aa⟩
      case inr.inr.inr.inl =>
       subst h7;go_wp2
       go_round
       case rel=>exact⟨k+1,by omega,by go_num,ab.o (by simp[nmC])⟩
       case measure=>simp[intOf];omega
      case inr.inr.inr.inr.inl =>
       have i1:(c:Int)<97:=ga
       have i2:(48:Int)<=(c:Int):=ga
       have i4:(57:Int)<(c:Int):=ga
       have i3:((c:Int) != 95)=true:=by simp;omega
       go_wp2;go_ret;exact⟨retB (ac.o (by simp[nmC];omega)).symm,aa⟩
      case inr.inr.inr.inr.inr.inl =>
       have i1:(97:Int)<=(c:Int):=ga
       have i2:(c:Int)<=122:=ga
       go_wp2
       go_round
       case rel=>exact⟨k+1,by omega,by go_num,ab.o (by simp[nmC];omega)⟩
       case measure=>simp[intOf];omega
      case inr.inr.inr.inr.inr.inr =>
       have i1:(97:Int)<=(c:Int):=ga
       have i4:(122:Int)<(c:Int):=ga
       have i2:(48:Int)<=(c:Int):=ga
       have i5:(57:Int)<(c:Int):=ga
       have i3:((c:Int) != 95)=true:=by simp;omega
       go_wp2;go_ret;exact⟨retB (ac.o (by simp[nmC];omega)).symm,aa⟩
     ·have ay:¬ ((k:Int)<(s.size:Int)):=ga
      go_wp2;go_ret;exact⟨retB (HG.o (λj hj=>HA.o j hj ga)).symm,aa⟩
section
attribute [local go_sem ↓] Go.wp_at_zero Go.wp_at_succ
abbrev vArg (k i s:Int) (t:BA) (la:Option Addr) (ll lc:Nat) (fa:Option Addr) (fl fc:Nat):Value:=.agg #[.int .i64 k,.int .i64 i,.int .i64 s,.string t,.slice la ll lc,.slice fa fl fc]
section
variable (k i s:Int) (t:BA) (la:Option Addr) (ll lc:Nat) (fa:Option Addr) (fl fc:Nat) (w:World)
theorem aGz:Calls prog 233 #[vArg k i s t la ll lc fa fl fc] w λe w'=>e=.returned (.int .i64 (cP i 0 1))/\Below w.heap.size w w':=by
 go_enter func233,ntmps233
 go_wp2_with (go_at_call 234;refine(gY _ _ _ _).mono ?_;rintro e w' ⟨rfl,rfl⟩)
 go_ret;exact⟨rfl,(bR w).alloc lr _⟩
theorem aGy:Calls prog 235 #[vArg k i s t la ll lc fa fl fc] w λe w'=>e=.returned (.int .i64 (cP i (-999999999999999) 999999999999999))/\Below w.heap.size w w':=by
 go_enter func235,ntmps235
 go_wp2_with (go_at_call 234;refine(gY _ _ _ _).mono ?_;rintro e w' ⟨rfl,rfl⟩)
 go_ret;exact⟨rfl,(bR w).alloc lr _⟩
theorem aGu:Calls prog 241 #[vArg k i s t la ll lc fa fl fc] w λe w'=>e=.returned (.int .i64 (cP i (-719162) 2932896))/\Below w.heap.size w w':=by
 go_enter func241,ntmps241
 go_wp2_with (go_at_call 234;refine(gY _ _ _ _).mono ?_;rintro e w' ⟨rfl,rfl⟩)
 go_ret;exact⟨rfl,(bR w).alloc lr _⟩
theorem aGt:Calls prog 242 #[vArg k i s t la ll lc fa fl fc] w λe w'=>e=.returned (.int .i64 (cP i (-62135596800000) 253402300799999))/\Below w.heap.size w w':=by
 go_enter func242,ntmps242
 go_wp2_with (go_at_call 234;refine(gY _ _ _ _).mono ?_;rintro e w' ⟨rfl,rfl⟩)
 go_ret;exact⟨rfl,(bR w).alloc lr _⟩
theorem aGv:Calls prog 240 #[vArg k i s t la ll lc fa fl fc] w λe w'=>e=.returned (.int .i64 (fJ t.size 1024 5))/\Below w.heap.size w w':=by
 go_enter func240,ntmps240
 go_wp2_with (go_at_call 239;refine(iI _ _ _ _).mono ?_;rintro e w' ⟨rfl,rfl⟩)
 go_ret;exact⟨rfl,(bR w).alloc lr _⟩
theorem aGs:Calls prog 243 #[vArg k i s t la ll lc fa fl fc] w λe w'=>e=.returned (.int .i64 (fJ ll 256 9))/\Below w.heap.size w w':=by
 go_enter func243,ntmps243
 go_wp2_with (go_at_call 239;refine(iI _ _ _ _).mono ?_;rintro e w' ⟨rfl,rfl⟩)
 go_ret;exact⟨rfl,(bR w).alloc lr _⟩
def dG (t:BA) (ll:Nat):Int:=if aH t=false then 12 else if ll=0 then 4 else fJ ll 1 3
theorem aE0 (ht:t.size<=140737488351232):Calls prog 245 #[vArg k i s t la ll lc fa fl fc] w λe w'=>e=.returned (.int .i64 (dG t ll))/\Below w.heap.size w w':=by
 by_cases hn:aH t=false
 ·have HR:=f8 (show dG t ll=12 by simp[dG,hn]);have hc:=λw=>(gB t w ht).mono (R':=λe w'=>e=.returned (.bool false)/\Below w.heap.size w w') (λe w' h=>⟨h.1.trans (by rw[hn]),h.2⟩);have HC:=f8 hc;clear hc hn;go_enter func245,ntmps245
  go_wp2_with (go_at_call 225;refine(HC.o _).mono ?_;rintro e w1 ⟨rfl,hb⟩)
  go_ret;exact⟨retI HR.symm,((bR w).alloc lr _).trans (hb.mono ge)⟩
 ·have aa:aH t=true:=by simpa using hn
  have hc:=λw=>(gB t w ht).mono (R':=λe w'=>e=.returned (.bool true)/\Below w.heap.size w w') (λe w' h=>⟨h.1.trans (by rw[aa]),h.2⟩);have HC:=f8 hc;clear hc;by_cases h0:ll=0
  ·have HR:=f8 (show dG t ll=4 by simp[dG,aa,h0]);clear hn aa;subst h0;go_enter func245,ntmps245
   go_wp2_with (go_at_call 225;refine(HC.o _).mono ?_;rintro e w1 ⟨rfl,hb⟩;have ab:w1.cell? ⟨w.heap.size,4,none⟩=some (Sl la 0 lc):=aA (aB hb (ib w _)) 4)
   go_ret;exact⟨retI HR.symm,((bR w).alloc lr _).trans (hb.mono ge)⟩
  ·have HR:=f8 (show dG t ll=fJ ll 1 3 by simp[dG,aa,h0]);clear hn aa;have ac:((ll:Int)==0)=false:=by simp;omega
   go_enter func245,ntmps245
   go_wp2_with (first|(go_at_call 225;refine(HC.o _).mono ?_;rintro e w1 ⟨rfl,hb⟩;have ab:w1.cell? ⟨w.heap.size,4,none⟩=some (.slice la ll lc):=aA (aB hb (ib w _)) 4)|(go_at_call 239;refine(iI _ _ _ _).mono ?_;rintro e w' ⟨rfl,rfl⟩))
   go_ret;exact⟨retI HR.symm,((bR w).alloc lr _).trans (hb.mono ge)⟩
def oI (a b:Int):Int:=if a≠0 then a else b
theorem aLc (a b:Int) (g:Nat) (w:World) (h:w.heap[g]?=some (.cells #[.int .i64 a,.int .i64 b] 31 (0,0))):Calls prog 237 #[Sl (So g 0) 2 2] w λe w'=>e=.returned (.int .i64 (oI a b))/\w=w':=by
 have c0:w.cell? ⟨g,0,none⟩=some (.int .i64 a):=aA h 0;have c1:w.cell? ⟨g,1,none⟩=some (.int .i64 b):=aA h 1;clear h;by_cases ha:a=0
 ·by_cases hb:b=0
  ·subst ha;subst hb;go_enter func237,ntmps237
   go_wp2;refine lx 3 ?_;rw[jk];go_wp2;rw[jk];go_wp2;rw[jk];go_wp2;go_ret;exact⟨retI (by simp[oI]),rfl⟩
  ·subst ha;have aa:(b != 0)=true:=by simpa using hb
   go_enter func237,ntmps237
   go_wp2;refine lx 2 ?_;rw[jk];go_wp2;rw[jk];go_wp2;go_ret;exact⟨retI (by simp[oI]),rfl⟩
 ·have ab:(a != 0)=true:=by simpa using ha
  go_enter func237,ntmps237
  go_wp2;refine lx 1 ?_;rw[jk];go_wp2;go_ret;exact⟨retI (by simp[oI,ha]),rfl⟩
end
end
section
attribute [local go_sem ↓] Go.wp_at_zero Go.wp_at_succ
section
variable (k i s:Int) (t:BA) (la:Option Addr) (ll lc:Nat) (fa:Option Addr) (fl fc:Nat) (w:World)
theorem aGx:Calls prog 236 #[vArg k i s t la ll lc fa fl fc] w λe w'=>e=.returned (.int .i64 (oI (cP i (-999999999999999) 999999999999999) (cP s 0 12)))/\Below w.heap.size w w':=by
 go_enter func236,ntmps236
 go_wp2;obtain⟨wa,ab⟩:=xe (w.alloc (.cells #[.int .i64 k,.int .i64 i,.int .i64 s,Sv t,Sl la ll lc,Sl fa fl fc] 67))
 rw[<-ab];have ac:w.heap.size<wa.heap.size:=by rw[ab];simp
 have aa:Below w.heap.size w wa:=by rw[ab];exact(bR w).alloc lr _
 have h0:wa.heap[w.heap.size]?=some (.cells #[.int .i64 k,.int .i64 i,.int .i64 s,Sv t,Sl la ll lc,Sl fa fl fc] 67):=by rw[ab];exact ib w _
 have c1:wa.cell? ⟨w.heap.size,1,none⟩=some (.int .i64 i):=aA h0 1;have c2:wa.cell? ⟨w.heap.size,2,none⟩=some (.int .i64 s):=aA h0 2;clear ab h0
 go_region_held3 (λw'=>w'.cell? ⟨w.heap.size,1,none⟩=some (.int .i64 i)/\w'.cell? ⟨w.heap.size,2,none⟩=some (.int .i64 s)) (go_keep)
  ((first|(go_at_call 234;refine(gY _ _ _ _).mono ?_;rintro e w' ⟨rfl,rfl⟩)|(go_at_call 237;refine(aLc _ _ _ _ (show((wa.alloc _).drew).heap[wa.heap.size]?=_ from ib wa _)).mono ?_;rintro e w' ⟨rfl,rfl⟩)))
 go_wp2;go_ret;exact⟨rfl,(aa.alloc aa.size _).drew⟩
def fN:Option BA->List BA->Int
 | _,[]=>0
 | p,n :: ns=>if aH n=false then 12 else match p with
   | none=>fN (some n) ns
   | some q=>if (n.toList==q.toList)=true then 7 else if Op.bytesLess n.toList q.toList=true then 24 else fN (some n) ns
theorem eA (p:Option BA) (n:BA) (ns:List BA):fN p (n :: ns)=if aH n=false then 12 else match p with
 | none=>fN (some n) ns
 | some q=>if (n.toList==q.toList)=true then 7 else if Op.bytesLess n.toList q.toList=true then 24 else fN (some n) ns:=by cases p<;>rfl
def fD (ns:List BA):Int:=if 64<ns.length then 9 else fN none ns
def bX (ns:List BA) (k:Nat):Int:=fN (if k=0 then none else some (ns.getD (k-1) ByteArray.empty)) (ns.drop k)
theorem zK (ns:List BA):bX ns 0=fN none ns:=by simp[bX]
theorem aD1 (ns:List BA):bX ns ns.length=0:=by
 unfold bX;rw[km];rfl
theorem zN {ns:List BA} {k:Nat} (hk:k<ns.length) (h:aH ns[k]=false):bX ns k=12:=by
 unfold bX;rw[i8 hk,eA,gw h]
theorem xQ {ns:List BA} (hk:0<ns.length) (h:aH ns[0]=true):bX ns 0=bX ns 1:=by
 unfold bX;rw[i8 hk,gw rfl,eA,f9 (by simp[h])];simp[List.getD,hk]
theorem aD2 {ns:List BA} {j:Nat} (hk:j+1<ns.length) (h:aH ns[j+1]=true) (he:(ns[j+1].toList==(ns[j]' ga).toList)=true):bX ns (j+1)=7:=by
 unfold bX;rw[i8 hk,f9 ga,eA,f9 (by simp[h])];have e:ns.getD (j+1-1) ByteArray.empty=ns[j]' ga:=by simp[List.getD,show j<ns.length by omega]
 rw[e];simp only[he,je]
theorem zO {ns:List BA} {j:Nat} (hk:j+1<ns.length) (h:aH ns[j+1]=true) (he:(ns[j+1].toList==(ns[j]' ga).toList)=false) (hl:Op.bytesLess ns[j+1].toList (ns[j]' ga).toList=true):bX ns (j+1)=24:=by
 unfold bX;rw[i8 hk,f9 ga,eA,f9 (by simp[h])];have e:ns.getD (j+1-1) ByteArray.empty=ns[j]' ga:=by simp[List.getD,show j<ns.length by omega]
 rw[e];simp only[he,hl,je,og,kz]
theorem zM {ns:List BA} {j:Nat} (hk:j+1<ns.length) (h:aH ns[j+1]=true) (he:(ns[j+1].toList==(ns[j]' ga).toList)=false) (hl:Op.bytesLess ns[j+1].toList (ns[j]' ga).toList=false):bX ns (j+1)=bX ns (j+1+1):=by
 unfold bX;rw[i8 hk,f9 ga,eA,f9 (by simp[h])];have e:ns.getD (j+1-1) ByteArray.empty=ns[j]' ga:=by simp[List.getD,show j<ns.length by omega]
 have e2:ns.getD (j+1+1-1) ByteArray.empty=ns[j+1]:=by simp[List.getD,hk]
 rw[e,e2];simp only[he,hl,og,kz];rw[f9 ga]
theorem aGr (ns:List BA) (fs:List Val) (ax:fl * 104<=140737488351232) (a6:fl=fs.length) (aq:ns.length=fs.length) (hf:fs=[]\/∃b o,fa=some ⟨b,o,none⟩/\b<w.heap.size/\IsFlds (· < w.heap.size) w b o ns fs) :
 Calls prog 244 #[vArg k i s t la ll lc fa fl fc] w λe w'=>e=.returned (.int .i64 (fD ns))/\Below w.heap.size w w':=by
 have ar:fl=ns.length:=ga
 by_cases ad:64<ns.length
 ·have HR:=f8 (show fD ns=9 by simp[fD,ad]);have ab:fJ fl 64 9=9:=by rw[fJ,gw ga]
  have hc:=λw=>(iI fl 64 9 w).mono (R':=λe w'=>e=.returned (.int .i64 9)/\w=w') (λe w' h=>⟨h.1.trans (by rw[ab]),h.2⟩);have HC:=f8 hc;clear hc ab ar a6 aq hf ad;go_enter func244,ntmps244
  go_wp2_with (go_at_call 239;refine(HC.o _).mono ?_;rintro e w' ⟨rfl,rfl⟩)
  go_ret;exact⟨retI HR.symm,(bR w).alloc lr _⟩
 ·have HR:=f8 (show fD ns=bX ns 0 by simp[fD,ad,zK]);have ab:fJ fl 64 9=0:=by rw[fJ,f9 ga]
  have hc:=λw=>(iI fl 64 9 w).mono (R':=λe w'=>e=.returned (.int .i64 0)/\w=w') (λe w' h=>⟨h.1.trans (by rw[ab]),h.2⟩);obtain⟨HC,ay,ao⟩:=h_3 hc ar aq;clear hc ab a6 ad ar aq;go_enter func244,ntmps244
  go_wp2_with (go_at_call 239;refine(HC.o _).mono ?_;rintro e w' ⟨rfl,rfl⟩)
  clear HC
  go_loopw [16] (λi' wr=>∃q:Nat,q<=fl/\i'=.int .i64 q/\bX ns 0=bX ns q /\
   wr.heap[w.heap.size]?=some (.cells #[.int .i64 k,.int .i64 i,.int .i64 s,Sv t,Sl la ll lc,Sl fa fl fc] 67 (0,0))/\Below w.heap.size w wr)
   (λi' _=>fl-(intOf i').toNat)
  case atStart=>exact⟨0,ii _,rfl,rfl,ib w _,(bR w).alloc lr _⟩
  case round =>
   obtain⟨q,hq,rfl,a4,a1,aa⟩:=hrel;have am:=f8 a4;clear a4
   have ap:=f8 a1;clear a1;have bj:=aa.size;by_cases bk:q<fl
   ·rcases hf with rfl|⟨b,o,rfl,hb,hvs⟩
    ·exfalso;have h1:=ay.o;have h2:=ao.o;simp only[i7] at h2;omega
    ·have aj:q<ns.length:=by have h1:=ay.o;omega
     have a8:q<fs.length:=by have h1:=ao.o;omega
     obtain⟨⟨a0,az⟩,x,hx,a7⟩:=hvs.get ao.o q a8 aj;obtain⟨be,bb,bh,a9,bg,bf⟩:=hx.same (w':=wr) (aa.block b hb);have al:wr.cell? ⟨b,o+q * 7,none⟩=some (Sv ns[q]):=(jg (w:=w) (a:=⟨b,o+q * 7,none⟩) (aa.block b hb)).trans a0;have ba:(q:Int)<(fl:Int):=ga
     clear hx a0;obtain⟨nm,ah⟩:=xe (ns[q])
     have a5:∀w1,Below (wr.heap.size+1) (wr.alloc (.cells #[Sv nm,.int .i64 x.k,.int .i64 x.i,.int .i64 x.s,Sv x.t,Sl x.la x.ll x.lc,Sl x.fa x.fl x.fc] 204)) w1 ->
      w1.cell? ⟨wr.heap.size,0,none⟩=some (Sv nm)/\w1.cell? ⟨w.heap.size,5,none⟩=some (Sl (So b o) fl fc)/\w1.heap[w.heap.size]?=wr.heap[w.heap.size]?/\Below w.heap.size w w1:=λw1 h1 =>
      ⟨aA (tJ h1 (ib wr _) ga) 0,aA (tJ h1 (aC _ ap.o) ga) 5,(h1.block _ ga).trans (iy _ _ _ (ltOf ap.o)),(aa.alloc ga _).trans (h1.mono ga)⟩
     have a2:=f8 a5;clear a5;rw[<-ah] at al az;have ac:=f8 ah;clear ah;by_cases hn:aH nm=false
     ·have ae:=f8 (zN aj (by rw[<-ac.o];exact hn));have ak:=λw=>(gB nm w az).mono (R':=λe w'=>e=.returned (.bool false)/\Below w.heap.size w w') (λe w' h=>⟨h.1.trans (by rw[hn]),h.2⟩);have av:=f8 ak;clear ak hn a7;go_wp2_with (go_at_call 225;refine(av.o _).mono ?_;rintro e w1 ⟨rfl,au⟩)
      go_ret;exact⟨retI (HR.trans (am.trans ae.o)).symm,(a2.o _ (by simpa using au)).2.2.2⟩
     ·have af:aH nm=true:=by simpa using hn
      have ak:=λw=>(gB nm w az).mono (R':=λe w'=>e=.returned (.bool true)/\Below w.heap.size w w') (λe w' h=>⟨h.1.trans (by rw[af]),h.2⟩);have av:=f8 ak;clear ak hn;go_wp2_with (go_at_call 225;refine(av.o _).mono ?_;rintro e w1 ⟨rfl,au⟩)
      obtain⟨d1,d2,d3,d4⟩:=a2.o w1 (by simpa using au);have D3:=f8 d3;clear d3 a7 be bb bh a9 bg bf al;cases q with
      | zero =>
        have ae:=f8 (xQ aj (by rw[<-ac.o];exact af));clear af
        go_quiet (fail)
        go_wp2
        go_quiet (fail)
        go_wp2
        go_roundw
        case rel=>exact⟨1,by omega,by go_num,ae.o,D3.trans ap.o,(by first|exact below_drewN d4 _|exact below_drewN (below_drewN d4 _) _)⟩
        case measure=>simp[intOf];omega
      | succ j =>
        have bc:j<ns.length:=ga
        obtain⟨⟨aw,bl⟩,_⟩:=hvs.get ao.o j ga bc;obtain⟨pm,ai⟩:=xe (ns[j])
        rw[<-ai] at aw;have an:=f8 ai;clear ai;have bi:w1.cell? ⟨b,o+j * 7,none⟩=some (Sv pm):=(jg (w:=w) (a:=⟨b,o+j * 7,none⟩) (d4.block b hb)).trans aw;clear aw;have g1:(0:Int)<(j:Int)+1:=ga
        have g3:(0:Int)<=(j:Int):=ga
        have g4:(j:Int)<(fl:Int):=ga
        have g2:IntKind.i64.wrap ((j:Int)+1-1)=(j:Int):=by rw[show(j:Int)+1-1=j by omega];exact ip _ ga
        have g5:IntKind.i64.wrap (j:Int)=(j:Int):=ip _ ga;have ag:((j+1:Nat):Int)=(j:Int)+1:=ga
        rw[ag];clear ag;by_cases he:(nm.toList==pm.toList)=true
        ·have ae:=f8 (aD2 aj (by rw[<-ac.o];exact af) (by rw[<-ac.o,<-an.o];exact he));clear af
         go_quiet (fail)
         go_wp2;go_ret;exact⟨retI (HR.trans (am.trans ae.o)).symm,(by first|exact below_drewN d4 _|exact below_drewN (below_drewN d4 _) _)⟩
        ·have a3:(nm.toList==pm.toList)=false:=by simpa using he
         by_cases hl:Op.bytesLess nm.toList pm.toList=true
         ·have ae:=f8 (zO aj (by rw[<-ac.o];exact af) (by rw[<-ac.o,<-an.o];exact a3) (by rw[<-ac.o,<-an.o];exact hl));clear af he
          go_quiet (fail)
          go_wp2
          go_quiet (fail)
          go_wp2;go_ret;exact⟨retI (HR.trans (am.trans ae.o)).symm,(by first|exact below_drewN d4 _|exact below_drewN (below_drewN d4 _) _)⟩
         ·have bd:Op.bytesLess nm.toList pm.toList=false:=by simpa using hl
          have ae:=f8 (zM aj (by rw[<-ac.o];exact af) (by rw[<-ac.o,<-an.o];exact a3) (by rw[<-ac.o,<-an.o];exact bd));clear af he hl
          go_quiet (fail)
          go_wp2
          go_quiet (fail)
          go_wp2
          go_roundw
          case rel=>exact⟨j+1+1,by omega,by go_num,am.trans ae.o,D3.trans ap.o,(by first|exact below_drewN d4 _|exact below_drewN (below_drewN d4 _) _)⟩
          case measure=>simp[intOf];omega
   ·obtain rfl:q=fl:=ga
    have HE:=f8 (show bX ns q=0 by rw[ay.o];exact aD1 ns);go_wp2;go_ret;exact⟨retI (HR.trans (am.trans HE.o)).symm,aa⟩
end
end
def Tabs (w : World) : Prop:=Lib.Utf8Tabs (Tryz.laysValid_ren.g 3) (Tryz.laysValid_ren.g 4) w /\ Lib.TabIs prog w "internal/strconv.uint64pow10" .u64 Lib.pow10Tab
theorem gPow : prog.globalNamed "internal/strconv.uint64pow10" = some 5:=by kernel_rfl
theorem Tabs.below {w w':World} (h:Tabs w) (hb:Below w.heap.size w w'):Tabs w':=by
 refine⟨Utf8Tabs_below h.1 hb,?_⟩;have hc:=h.2.cell gPow 0 (by rw[Lib.pow10Tab_length];omega);have aa:=o9 w _ hc;exact var?_below hb gPow aa h.2
def nT (t:BA):Int:=if fJ t.size 1024 5=0/\Lib.validD t.data.toList=false then 16 else fJ t.size 1024 5
theorem aGw (k i s:Int) (t:BA) (la:Option Addr) (ll lc:Nat) (fa:Option Addr) (fl fc:Nat) (w:World) (hT:Tabs w) (ht:t.size<=140737488351232) :
 Calls prog 238 #[vArg k i s t la ll lc fa fl fc] w λe w'=>e=.returned (.int .i64 (nT t))/\Below w.heap.size w w':=by
 by_cases hs:(1024:Int)<(t.size:Int)
 ·have aa:fJ t.size 1024 5=5:=by rw[fJ,gw hs]
  have HR:=f8 (show nT t=5 by unfold nT;rw[aa];simp);have hc:=λw=>(iI t.size 1024 5 w).mono (R':=λe w'=>e=.returned (.int .i64 5)/\w=w') (λe w' h=>⟨h.1.trans (by rw[aa]),h.2⟩);have HC:=f8 hc;clear hc aa hT;go_enter func238,ntmps238
  go_wp2_with (go_at_call 239;refine(HC.o _).mono ?_;rintro e w' ⟨rfl,rfl⟩)
  go_ret;exact⟨retI HR.symm,(bR w).alloc lr _⟩
 ·have aa:fJ t.size 1024 5=0:=by rw[fJ,f9 hs]
  have hc:=λw=>(iI t.size 1024 5 w).mono (R':=λe w'=>e=.returned (.int .i64 0)/\w=w') (λe w' h=>⟨h.1.trans (by rw[aa]),h.2⟩);have HC:=f8 hc;clear hc;have ac:Tabs (w.alloc (.cells #[.int .i64 k,.int .i64 i,.int .i64 s,Sv t,Sl la ll lc,Sl fa fl fc] 67)):=hT.below ((bR w).alloc lr _);by_cases hv:Lib.validD t.data.toList=true
  ·have HR:=f8 (show nT t=0 by unfold nT;rw[aa,hv];simp);have ab:=(Tryz.utf8_ValidString t _ ga ac.1).mono (R':=λe w'=>e=.returned (.bool true)/\Below (w.heap.size+1) _ w') (λe w' h=>⟨h.1.trans (by rw[hv]),by simpa using h.2⟩);have ae:=f8 ab;clear ab aa hv hT ac hs;go_enter func238,ntmps238
   go_wp2_with (first|(go_at_call 239;refine(HC.o _).mono ?_;rintro e w' ⟨rfl,rfl⟩)|(go_at_call 191;refine ae.mono ?_;rintro e w1 ⟨rfl,hb⟩))
   go_ret;exact⟨retI HR.symm,((bR w).alloc lr _).trans (hb.mono ga)⟩
  ·have ad:Lib.validD t.data.toList=false:=by simpa using hv
   have HR:=f8 (show nT t=16 by unfold nT;rw[aa,ad];simp);have ab:=(Tryz.utf8_ValidString t _ ga ac.1).mono (R':=λe w'=>e=.returned (.bool false)/\Below (w.heap.size+1) _ w') (λe w' h=>⟨h.1.trans (by rw[ad]),by simpa using h.2⟩);have ae:=f8 ab;clear ab aa hv ad hT ac hs;go_enter func238,ntmps238
   go_wp2_with (first|(go_at_call 239;refine(HC.o _).mono ?_;rintro e w' ⟨rfl,rfl⟩)|(go_at_call 191;refine ae.mono ?_;rintro e w1 ⟨rfl,hb⟩))
   go_ret;exact⟨retI HR.symm,((bR w).alloc lr _).trans (hb.mono ga)⟩
structure St where
 e:Int
 ps:List Int
structure Msg where
 st:St
 m:Int
 es:List Int
 b:Val
structure SC where
 e:Int
 a:Option Addr
 n:Nat
 c:Nat
structure MC where
 st:SC
 m:Int
 a:Option Addr
 n:Nat
 c:Nat
 b:VC
abbrev SC.v (c:SC):Value:=.agg #[.int .i64 c.e,.slice c.a c.n c.c]
abbrev MC.v (c:MC):Value:=.agg #[.int .i64 c.st.e,.slice c.st.a c.st.n c.st.c,.int .i64 c.m,.slice c.a c.n c.c,.int .i64 c.b.k,.int .i64 c.b.i,.int .i64 c.b.s,.string c.b.t,.slice c.b.la c.b.ll c.b.lc,.slice c.b.fa c.b.fl c.b.fc]
structure IsInts (S:Nat->Prop) (w:World) (a:Option Addr) (n c:Nat) (xs:List Int):Prop where
 len:n=xs.length
 cap:n<=c
 big:n * 8<=140737488351232
 rng:∀x∈xs,I64 x
 at':xs=[]\/∃b o,a=some ⟨b,o,none⟩/\S b/\∀(j:Nat) (h:j<xs.length),w.cell? ⟨b,o+j,none⟩=some (.int .i64 xs[j])
theorem IsInts.same {S S':Nat->Prop} {w w':World} {a:Option Addr} {n c:Nat} {xs:List Int} (hs:∀b,S b->S' b/\w'.heap[b]?=w.heap[b]?) (h:IsInts S w a n c xs):IsInts S' w' a n c xs :=
 ⟨h.len,h.cap,h.big,h.rng,h.at'.imp id λ⟨b,o,ha,hb,hx⟩=>⟨b,o,ha,(hs b hb).1,λj hj=>(jg (w:=w) (a:=⟨b,o+j,none⟩) (hs b hb).2).trans (hx j hj)⟩⟩
structure IsSt (S:Nat->Prop) (w:World) (c:SC) (d:St):Prop where
 e:c.e=d.e
 re:I64 d.e
 ps:IsInts S w c.a c.n c.c d.ps
theorem IsSt.same {S S':Nat->Prop} {w w':World} {c:SC} {d:St} (hs:∀b,S b->S' b/\w'.heap[b]?=w.heap[b]?) (h:IsSt S w c d):IsSt S' w' c d:=⟨h.e,h.re,h.ps.same hs⟩
structure IsMsg (S:Nat->Prop) (w:World) (c:MC) (d:Msg):Prop where
 st:IsSt S w c.st d.st
 m:c.m=d.m
 rm:I64 d.m
 es:IsInts S w c.a c.n c.c d.es
 b:IsVal S w c.b d.b
theorem IsMsg.same {S S':Nat->Prop} {w w':World} {c:MC} {d:Msg} (hs:∀b,S b->S' b/\w'.heap[b]?=w.heap[b]?) (h:IsMsg S w c d):IsMsg S' w' c d:=⟨h.st.same hs,h.m,h.rm,h.es.same hs,h.b.same hs⟩
def yJ (n:Int):Bool:=decide (n<0)||decide (65535<n)
theorem aFq (n:Int) (w:World):Calls prog 161 #[.int .i64 n] w λe w'=>e=.returned (.bool (yJ n))/\w=w':=by
 go_enter func161,ntmps161
 by_cases h1:n<0<;>by_cases h2:65535<n
 all_goals go_wp2
 all_goals go_ret
 all_goals exact⟨by simp[yJ, *],rfl⟩
theorem IsInts.slot {S:Nat->Prop} {w:World} {a:Option Addr} {n c:Nat} {xs:List Int} (h:IsInts S w a n c xs) (hn:0<n):∃b o,a=some ⟨b,o,none⟩/\S b/\∀(j:Nat) (h:j<xs.length),w.cell? ⟨b,o+j,none⟩=some (.int .i64 xs[j]):=by
 rcases h.at' with h0|h1
 ·exact absurd h.len (by rw[h0];simp;omega)
 ·exact h1
theorem xD (S:Nat->Prop) (a:Option Addr) (n c:Nat) (xs:List Int) (w:World) (hx:IsInts S w a n c xs) :
 Calls prog 211 #[Sl a n c,.func (.func 161) #[] #[]] w λe w'=>(∃k:Int,e=.returned (.int .i64 k)/\(0<=k ↔ xs.any yJ=true))/\w=w':=by
 have ak:∀args w,(callFunc 161 args).run prog w=.ok (.enter 161 args) w:=jd func161 gd rfl;have ah:=hx.big;have HL:=f8 hx.len;have ad:=f8 hx;clear hx;go_enter func211,ntmps211
 go_wp2
 go_loop [8] (λi=>∃k:Nat,k<=n/\i=.int .i64 k/\∀j (hj:j<xs.length),j<k->yJ xs[j]=false) (λi=>n-(intOf i).toNat)
 case atStart=>exact⟨0,ii _,rfl,λj _ h=>absurd h (lj j)⟩
 case round =>
  obtain⟨k,hk,rfl,aa⟩:=hrel;by_cases al:k<n
  ·have HA:=f8 aa;clear aa;obtain⟨b,o,rfl,hb,hc⟩:=ad.slot ga;have ag:k<xs.length:=by have:=HL.o;omega
   have aj:=hc k ag;clear hc;have af:(k:Int)<(n:Int):=ga
   have ae:(n:Int)<=9223372036854775807:=ga
   obtain⟨z,hz⟩:=xe (xs[k])
   rw[<-hz] at aj;have HZ:=f8 hz;clear hz;cases ab:yJ z with
   | true =>
     go_wp2_with (go_at_call 161;refine(aFq z w).mono ?_;rintro e w' ⟨rfl,rfl⟩)
     go_ret;exact⟨⟨k,rfl,by constructor;(intro _;rw[List.any_eq_true];exact⟨z,by rw[HZ.o];exact kc _,ab⟩);(intro _;omega)⟩,rfl⟩
   | false =>
     go_wp2_with (go_at_call 161;refine(aFq z w).mono ?_;rintro e w' ⟨rfl,rfl⟩)
     go_round
     case rel=>exact⟨k+1,by omega,by go_num,λj hj h=>by
      by_cases ai:j<k
      ·exact HA.o j hj ai
      ·obtain rfl:j=k:=ga
       rw[<-HZ.o];exact ab⟩
     case measure=>simp[intOf];omega
  ·obtain rfl:k=n:=ga
   go_wp2;go_ret;refine⟨⟨-1,rfl,⟨λh=>by omega,λh=>?_⟩⟩,rfl⟩;obtain⟨x,hm,ac⟩:=h;obtain⟨j,hj,rfl⟩:=n5 hm;rw[aa j hj (by have:=HL.o;omega)] at ac;cases ac
theorem zS (S:Nat->Prop) (a:Option Addr) (n c:Nat) (xs:List Int) (w:World) (hx:IsInts S w a n c xs) :
 Calls prog 160 #[Sl a n c,.func (.func 161) #[] #[]] w λe w'=>e=.returned (.bool (xs.any yJ))/\w=w':=by
 go_enter func160,ntmps160
 cases hb:xs.any yJ with
 | true =>
   go_wp2_with (go_at_call 211;refine(xD S a n c xs w hx).mono ?_;rintro e w' ⟨⟨k,rfl,hk⟩,rfl⟩;rw[hb] at hk;have aa:=hk.2 rfl;clear hk)
   go_ret;exact⟨retB ge,rfl⟩
 | false =>
   go_wp2_with (go_at_call 211;refine(xD S a n c xs w hx).mono ?_;rintro e w' ⟨⟨k,rfl,hk⟩,rfl⟩;rw[hb] at hk;have aa:k<0:=by(by_cases h:0<=k;exact absurd (hk.1 h) gb;omega))
   go_ret;exact⟨retB ge,rfl⟩
def mP:List Int->Int
 | []=>0
 | x :: r=>if 1<x then 11 else if x=1 then 0 else match r with
   | []=>4
   | y :: _=>if 128<=y then 2 else 0
def aZ (d:St):Int:=if d.e<1\/1048576<d.e then 2 else if d.ps=[] then 4 else if 512<d.ps.length then 9 else if d.ps.any yJ=true then 2 else mP d.ps
theorem eD (S:Nat->Prop) (c:SC) (d:St) (w0 w:World) (hx:IsSt S w0 c d) (hw:∀b,S b->b<w.heap.size/\w.heap[b]?=w0.heap[b]?):Calls prog 105 #[c.v] w λe w'=>e=.returned (.int .i64 (aZ d))/\Below w.heap.size w w':=by
 obtain⟨ce,a,n,cap⟩:=c;obtain⟨e,ps⟩:=d;obtain⟨rfl,re,ad⟩:=hx;dsimp only at ad ⊢;have ad:=ad.same hw;obtain⟨w1,ae⟩:=xe (w.alloc (.cells #[.int .i64 ce,Sl a n cap] 63))
 have af:Below w.heap.size w w1:=by rw[ae];exact(bR w).alloc lr _
 have ac:IsInts (· < w.heap.size) w1 a n cap ps:=ad.same λb hb=>⟨hb,af.block b hb⟩
 have ab:=f8 (zS _ a n cap ps w1 ac);have fin:∀r,aZ ⟨ce,ps⟩=r->(Ending.returned (.int .i64 r)=.returned (.int .i64 (aZ ⟨ce,ps⟩))/\Below w.heap.size w w1):=λr h=>⟨by rw[h],af⟩
 rw[ae] at fin ac ab;have aa:=f8 fin;have HL:=f8 ad.len;have HP:=f8 ac;clear fin ad ac ae af;go_enter func105,ntmps105
 by_cases h1:ce<1
 ·go_wp2;go_ret;exact aa.o _ (by rw[aZ];simp[h1])
 by_cases h2:1048576<ce
 ·go_wp2;go_ret;exact aa.o _ (by rw[aZ];simp[h2])
 by_cases h3:n=0
 ·subst h3;have e3:=f8 (show ps=[] by have:=HL.o;exact kr this.symm);go_wp2;go_ret;exact aa.o _ (by rw[aZ,e3.o,f9 gl];simp)
 have ah:(0:Int)<(n:Int):=ga
 have ne:ps≠[]:=λh=>h3 (by rw[HL.o,h];rfl);have NE:=f8 ne;clear ne;by_cases h4:512<n
 ·have ag:(512:Int)<(n:Int):=ga
  go_wp2;go_ret;exact aa.o _ (by rw[aZ,f9 gl,f9 NE.o,gw (by dsimp only;rw[<-HL.o];exact h4)])
 have ag:(n:Int)<=512:=ga
 cases h5:ps.any yJ with
 | true =>
   rw[h5] at ab;go_wp2_with (go_at_call 160;refine ab.o.mono ?_;rintro e w' ⟨rfl,rfl⟩)
   go_ret;exact aa.o _ (by rw[aZ,f9 gl,f9 NE.o,f9 (by dsimp only;have:=HL.o;omega),gw h5])
 | false =>
 rw[h5] at ab;have E0:=f8 (show aZ ⟨ce,ps⟩=mP ps by
  rw[aZ,f9 gl,f9 NE.o,f9 (by dsimp only;have:=HL.o;omega),f9 (by rw[h5];decide)])
 obtain⟨b,o,rfl,hb,hc⟩:=HP.slot ga;cases ps with
 | nil=>exact absurd rfl NE.o
 | cons x r =>
 have c0:=hc 0 ge;rw[Nat.add_zero,k8] at c0;by_cases h6:1<x
 ·clear hc;go_wp2_with (go_at_call 160;refine ab.o.mono ?_;rintro e w' ⟨rfl,rfl⟩)
  go_ret;exact aa.o _ (by rw[E0.o];simp[mP,h6])
 by_cases h7:x=1
 ·clear hc;subst h7;go_wp2_with (go_at_call 160;refine ab.o.mono ?_;rintro e w' ⟨rfl,rfl⟩)
  go_ret;exact aa.o _ (by rw[E0.o];simp[mP])
 cases r with
 | nil =>
   clear hc;obtain rfl:n=1:=HL.o;go_wp2_with (go_at_call 160;refine ab.o.mono ?_;rintro e w' ⟨rfl,rfl⟩)
   go_ret;exact aa.o _ (by rw[E0.o];simp[mP,h6,h7])
 | cons y r =>
 have c1:=hc 1 ge;rw[qp,k8] at c1;clear hc;have ai:(1:Int)<(n:Int):=by have:=HL.o;simp at this;omega
 by_cases h8:128<=y
 ·have E1:=f8 (show mP (x :: y :: r)=2 by simp only[mP];rw[f9 h6,f9 h7,gw h8]);go_wp2_with (go_at_call 160;refine ab.o.mono ?_;rintro e w' ⟨rfl,rfl⟩)
  go_ret;exact aa.o _ (by rw[E0.o,E1.o])
 ·have E1:=f8 (show mP (x :: y :: r)=0 by simp only[mP];rw[f9 h6,f9 h7,f9 h8]);go_wp2_with (go_at_call 160;refine ab.o.mono ?_;rintro e w' ⟨rfl,rfl⟩)
  go_ret;exact aa.o _ (by rw[E0.o,E1.o])
abbrev oM (c : MC) (n : Nat) : Obj := .cells #[.int .i64 c.st.e, .slice c.st.a c.st.n c.st.c, .int .i64 c.m, .slice c.a c.n c.c, .int .i64 c.b.k, .int .i64 c.b.i, .int .i64 c.b.s, .string c.b.t, .slice c.b.la c.b.ll c.b.lc, .slice c.b.fa c.b.fl c.b.fc] n
abbrev oV (c : VC) (n : Nat) : Obj := .cells #[.int .i64 c.k, .int .i64 c.i, .int .i64 c.s, .string c.t, .slice c.la c.ll c.lc, .slice c.fa c.fl c.fc] n
abbrev BB (w w2 : World) : Prop := Below w.heap.size w w2
abbrev Ce (w : World) (b o : Nat) (v : Value) : Prop := w.cell? ⟨b, o, none⟩ = some v
abbrev I6 (n : Int) : Value := .int .i64 n
abbrev CP (n : Nat) (a : Array Value) (w : World) (Q : Ending -> World -> Prop) : Prop := Calls prog n a w Q
abbrev Rt (v : Value) (w : World) : Ending -> World -> Prop := λe w2 => e = .returned v /\ BB w w2
end Go.Proofs.YtoodnaghjpkjfaaGreatDoor
