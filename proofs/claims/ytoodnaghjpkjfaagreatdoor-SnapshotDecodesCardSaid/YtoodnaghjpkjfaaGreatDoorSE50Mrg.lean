/- A part. -/
import Derived.Test.YtoodnaghjpkjfaaGreatDoorSE11Mrg
import Derived.ProofKit
import Derived.OpenShut
import Derived.Carry
import Derived.Test.YtoodnaghjpkjfaaGreatDoorTie
import Derived.Lib.LaidU8T
import Derived.Lib.LaidTab
import Derived.PinnedBridge
import Derived.Lay
import Derived.Test.YtoodnaghjpkjfaaGreatDoorCards
import Derived.SevenTiedAt
import Derived.Stop.Joined
import Derived.Shelf.Vars
import Derived.Stop.LaidErr
import Derived.Handed
namespace Go.Proofs.YtoodnaghjpkjfaaGreatDoor
open Go.Proofs.Tryz
set_option linter.unusedVariables false
set_option maxRecDepth 100000
set_option maxHeartbeats 64000000
set_option linter.unusedSimpArgs false
section
open Go Go.RowKit Go.ChangeShapes Go.WideShapes Go.ChangeAt
section
variable {H:Type} {enc:TypeId × Value->H} {hld:Bool} {W:World}
abbrev Light (t:TypeId) (d:DataW H):Prop:=∀n∈d.weights prog t,n<=reachBytes
end
end
section
open Go Go.RowKit Go.Shelf
theorem nU {P:Program} {W:World} {name:String} {k:IntKind} {zs:List Int} {g:Nat} {t e:TypeId} {n:Nat}
 (hg:P.globalNamed name=some g) (ac:(P.globals[g]?).map (·.type)=some t) (ht:P.underlying t=some (.array n e)) (he:P.underlying e=some (.int k)) (ag:P.cellsOf e=1) (ad:P.cellsOf t=n)
 (h:Lib.VarReads P W name (Lib.tabData k zs)):Lib.TabIs P W name k zs:=by
 obtain⟨g',t',cs,ae,p,af,ab,aa,hd⟩:=h;obtain rfl:=jp (hg.symm.trans af);obtain rfl:=jp (ac.symm.trans ab);unfold Lib.TabIs;rw[aa,<-Lib.cells_of_tab ht he ag ad hd]
theorem pow_eq:(Rows.laid_internal_strconv_uint64pow10:DataW Unit)=Lib.tabData .u64 Lib.pow10Tab:=by kernel_rfl
theorem acc_eq:(Rows.laid_unicode_utf8_acceptRanges:DataW Unit)=Lib.acceptData:=by kernel_rfl
theorem aNx:(Rows.laid_unicode_utf8_first:DataW Unit)=Lib.firstData:=Pinned.utf8First_eq
theorem aNv:(prog.globals[5]?).map (·.type)=some 293:=by kernel_rfl
theorem tabs_of {l : List (String × DataW Unit)} {W : World} (h : laidMet prog l W) (h1 : ("unicode/utf8.first",Rows.laid_unicode_utf8_first) ∈ l) (h2 : ("unicode/utf8.acceptRanges",Rows.laid_unicode_utf8_acceptRanges) ∈ l)
 (h3 : ("internal/strconv.uint64pow10",Rows.laid_internal_strconv_uint64pow10) ∈ l) : Tabs W :=
 ⟨utf8Tabs_of_readsT (ρ:=Tryz.laysValid_ren) (U8Types.of196 Tryz.laysValid) ⟨by kernel_rfl,by kernel_rfl,by kernel_rfl,by kernel_rfl,by kernel_rfl,by kernel_rfl,by kernel_rfl⟩ (aNx▸Lib.laidMet.reads h h1) (acc_eq▸Lib.laidMet.reads h h2),
   nU gPow aNv underlying293 underlying113 gd gd (pow_eq▸Lib.laidMet.reads h h3)⟩
end
section
open Go Go.RowKit Go.ChangeShapes Go.WideShapes Go.ChangeAt
theorem own:ownKnob prog.godebug=none:=by kernel_rfl
theorem laidOut:laidOutB prog=true:=by kernel_rfl
section
variable {H:Type} {enc:TypeId × Value->H} {W:World}
theorem aNd {ts:List TypeId} {ds:List (DataW H)} (h:(DataW.weightsEach prog ts ds).all (· <= reachBytes)=true):∀n∈DataW.weightsEach prog ts ds,n<=reachBytes:=λn hn=>by simpa using List.all_eq_true.1 h n hn
theorem aHk {t:TypeId} {ts:List TypeId} {d:DataW H} {ds:List (DataW H)} (h:∀n∈DataW.weightsEach prog (t :: ts) (d :: ds),n<=reachBytes):Light t d:=λn hn=>h n (by simp only[DataW.weightsEach,List.mem_append];exact .inl hn)
theorem aHj {t:TypeId} {ts:List TypeId} {d:DataW H} {ds:List (DataW H)} (h:∀n∈DataW.weightsEach prog (t :: ts) (d :: ds),n<=reachBytes):∀n∈DataW.weightsEach prog ts ds,n<=reachBytes:=λn hn=>h n (by simp only[DataW.weightsEach,List.mem_append];exact .inr hn)
end
end
section
open Go Go.RowKit Go.ChangeShapes Go.WideShapes Go.ChangeAt
section
variable {H:Type} {enc:TypeId × Value->H} {hld:Bool} {W:World}
theorem arg_str {w':World} {r:Reach} {b0:Nat} {v:Value} (hv:Value.okWide prog w' r b0 9 v):∃s:ByteArray,v=Sv s:=okWide_string underlying9 hv
end
end
section
open Go Go.RowKit Go.Shelf Go.ChangeShapes
theorem aL6 {P:Program} {W:World} {name nm:String} {g:Nat} {t:TypeId} {ms:Array (String × TypeId)} {d:DataW Unit}
 (hg:P.globalNamed name=some g) (ht:(P.globals[g]?).map (·.type)=some t) (hi:P.underlying t=some (.interface ms)) (h:Lib.VarReads P W name (.iface nm d)):IfCell g W:=by
 obtain⟨g',t',cs,ab,p,ac,aa,hv,hd⟩:=h;obtain rfl:=jp (hg.symm.trans ac);obtain rfl:=jp (ht.symm.trans aa);obtain⟨f1,u,v,ad,_⟩:=iface_of_trod hi hd;have hc:=World.var?_cell hg hv 0;have e:cs = #[.iface u v]:=by cases cs;simp_all
 refine⟨.iface u v,?_,.inr ⟨u,v,rfl⟩⟩;rw[hc,e];rfl
theorem gSyn : prog.globalNamed "strconv.ErrSyntax" = some 1:=by kernel_rfl
theorem gRan : prog.globalNamed "strconv.ErrRange" = some 2:=by kernel_rfl
theorem gSynT:(prog.globals[1]?).map (·.type)=some 101:=by kernel_rfl
theorem gRanT:(prog.globals[2]?).map (·.type)=some 101:=by kernel_rfl
theorem aKn {W:World} (h:W.ShapedOpen prog):∃m,Ce W 0 0 (I6 m) :=
 cell_of_shapedOpen_int (zero:=#[I6 0]) (t:=3) h (ld gd) gd rfl gd gd underlying3
theorem aH9 {l : List (String × DataW Unit)} {W : World} (h : laidMet prog l W) (hs : W.ShapedOpen prog) (h1 : ("strconv.ErrSyntax",Rows.laid_strconv_ErrSyntax) ∈ l) (h2 : ("strconv.ErrRange",Rows.laid_strconv_ErrRange) ∈ l) : NumVars W :=
 ⟨aL6 gSyn gSynT underlying101 (Lib.laidMet.reads h h1),aL6 gRan gRanT underlying101 (Lib.laidMet.reads h h2),aKn hs⟩
theorem qI {H:Type} {enc:TypeId × Value->H} {a:Assume} {C:Checked} {os:Os} {f:FuncId} {fn:Func} {s:ChangeSpec} {af:List PathCond} {aa fresh ad ai:Bool} {X:World->Array Value->Prop}
 (hX:∀(w w':World) (args:Array Value),w.heap=w'.heap->X w args->X w' args)
 (own:ownKnob C.prog.godebug=none) (ag:os.Started) (ak:C.prog.inits.idxOf? f=none) (ap:C.prog.funcs[f]?=some fn)
 (ah:∃(w:World) (ab:Tape) (i:Input),w.os=os/\(w.forCall ab i).Shaped C.prog/\i.vars=[]/\Input.okWide C.prog (w.forCall ab i) .any w.heap.size f i /\
   ((s.pre enc C.prog fn af aa (w.forCall ab i).memory i.args/\X (w.forCall ab i).memory i.args)/\sizedMet enc C.prog fn (OpenSpec.ofChange s) aa (w.forCall ab i).memory i.args)/\a.holds C.prog (lone (Frame.enter C.prog f i.args .normal) [] (w.forCall ab i)))
 (ae:∀(W:World) (al:Nat) (args:Array Value) (ds gs:List (DataW H)) (ac:List MemPlace),
   (∀(j:Nat) t v,fn.params[j]?=some t->args[j]?=some v->Value.okWide C.prog W .any al t v) ->
   DataW.Whole enc C.prog fn.params.toList s.vars aa W args.toList ds gs ac ->
   af.all (PathCond.test C.prog ⟨fn.params.toList,ds,s.plain.varTypes C.prog,gs⟩)=true ->
   (DataW.weightsEach C.prog (fn.params.toList++s.plain.varTypes C.prog) (ds++gs)).all (· <= reachBytes)=true->X W args->W.ShapedOpen C.prog ->
   a.holds C.prog (lone (Frame.enter C.prog f args .normal) [] W) ->
   Calls C.prog f args W λe W'=>∃v,e=.returned v/\s.post enc C.prog fn aa fresh ad ai W args v W') :
 ReturnsInHanded a C os f .any (λw args=>(s.pre enc C.prog fn af aa w args/\X w args)/\sizedMet enc C.prog fn (OpenSpec.ofChange s) aa w args) (s.post enc C.prog fn aa fresh ad ai):=by
 refine returnsInHanded_of_calls own ag ak ah ?_;intro w ab i _ aq _ ar am aj;obtain⟨_,_,_,au,an,_,_,_,_,ao⟩:=ar;have e:au=fn:=jp (an.symm.trans ap);subst e;obtain⟨⟨⟨ds,gs,ac,hw,hc⟩,hx⟩,hz⟩:=am;refine(ae (w.forCall ab i) w.heap.size i.args ds gs ac ao (DataW.Whole.of_heap (w':=w.forCall ab i) gh hw) hc (hz.weights hw) (hX _ _ _ gh hx) aq aj).mono λe W' ⟨v,he,hp⟩=>?_;subst he;exact ChangeSpec.post_blind hp
end
section
open Go Go.RowKit Go.Shelf
theorem z_eq:(Rows.laid_math_bits_deBruijn64tab:DataW Unit)=Lib.tabData .u8 (Lib.deBruijn64tab.map Int.ofNat):=by kernel_rfl
theorem gZ : prog.globalNamed "math/bits.deBruijn64tab" = some 7:=by kernel_rfl
theorem gZType:(prog.globals[7]?).map (·.type)=some 326:=by kernel_rfl
theorem zTab_of {l : List (String × DataW Unit)} {W : World} (h : laidMet prog l W) (h1 : ("math/bits.deBruijn64tab",Rows.laid_math_bits_deBruijn64tab) ∈ l) : ZTab W:=by
 have hv : Lib.TabIs prog W "math/bits.deBruijn64tab" .u8 (Lib.deBruijn64tab.map Int.ofNat) :=
  nU gZ gZType underlying326 underlying5 gd gd (z_eq▸Lib.laidMet.reads h h1)
 intro j hj;rw[World.var?_cell gZ hv j];rw[nf,List.getElem?_map,List.getElem?_map,n3 hj];simp[pn,n3 hj]
end
end Go.Proofs.YtoodnaghjpkjfaaGreatDoor
