/-
  From an argument as the row reads it (DataW) to values, stamps and messages as data (IsVal, IsSt, IsMsg). Conditions: the argument reads; each slice and string is within the reach.
-/
import Derived.Test.YtbfcokcfabbklaaGreatDoorSN27Mrg
import Derived.Test.YtbfcokcfabbklaaGreatDoorSN5Mrg
import Derived.ProofKit
import Derived.OpenShut
import Derived.Carry
import Derived.Test.YtbfcokcfabbklaaGreatDoorTie
import Derived.Lib.LaidU8T
import Derived.Lib.LaidTab
import Derived.PinnedBridge
import Derived.Lay
import Derived.Test.YtbfcokcfabbklaaGreatDoorCards
import Derived.SevenTiedAt
import Derived.Stop.Joined
import Derived.Shelf.Vars
import Derived.Stop.LaidErr
import Derived.Handed
namespace Go.Proofs.YtbfcokcfabbklaaGreatDoor
set_option linter.unusedVariables false
set_option maxRecDepth 100000
set_option maxHeartbeats 16000000
set_option linter.unusedSimpArgs false
section
open Go Go.RowKit Go.ChangeShapes Go.WideShapes Go.ChangeAt
section
variable {H:Type} {enc:TypeId × Value→H} {hld:Bool} {W:World}
abbrev Light (t:TypeId) (d:DataW H):Prop:=∀n∈d.weights Tryz.prog t,n≤reachBytes
theorem i64_of {n:Int} (h:(Lit.int .i64 n).wf=true):I64 n:=bounds_i64 h
end
end
section
open Go Go.RowKit Go.Shelf
theorem tabIs_of_reads {P:Program} {W:World} {name:String} {k:IntKind} {zs:List Int} {g:Nat} {t e:TypeId} {n:Nat}
 (hg:P.globalNamed name=some g) (hty:(P.globals[g]?).map (·.type)=some t) (ht:P.underlying t=some (.array n e)) (he:P.underlying e=some (.int k)) (hce:P.cellsOf e=1) (hct:P.cellsOf t=n)
 (h:Lib.VarReads P W name (Lib.tabData k zs)):Lib.TabIs P W name k zs:=by
 obtain⟨g',t',cs,fuel,p,hg',ht',hvar,hd⟩:=h
 obtain rfl:=Option.some.inj (hg.symm.trans hg')
 obtain rfl:=Option.some.inj (hty.symm.trans ht')
 unfold Lib.TabIs
 rw[hvar,←Lib.cells_of_tab ht he hce hct hd]
theorem pow_eq:(Rows.laid_internal_strconv_uint64pow10:DataW Unit)=Lib.tabData .u64 Lib.pow10Tab:=by kernel_rfl
theorem acc_eq:(Rows.laid_unicode_utf8_acceptRanges:DataW Unit)=Lib.acceptData:=by kernel_rfl
theorem first_eq:(Rows.laid_unicode_utf8_first:DataW Unit)=Lib.firstData:=Pinned.utf8First_eq
theorem gPowType:(Tryz.prog.globals[5]?).map (·.type)=some 329:=by kernel_rfl
theorem tabs_of {l : List (String × DataW Unit)} {W : World} (h : laidMet Tryz.prog l W) (h1 : ("unicode/utf8.first",Rows.laid_unicode_utf8_first) ∈ l) (h2 : ("unicode/utf8.acceptRanges",Rows.laid_unicode_utf8_acceptRanges) ∈ l)
 (h3 : ("internal/strconv.uint64pow10",Rows.laid_internal_strconv_uint64pow10) ∈ l) : Tabs W :=
 ⟨utf8Tabs_of_readsT (ρ:=Tryz.laysValid_ren) (U8Types.of196 Tryz.laysValid) ⟨by kernel_rfl,by kernel_rfl,by kernel_rfl,by kernel_rfl,by kernel_rfl,by kernel_rfl,by kernel_rfl⟩ (first_eq▸Lib.laidMet.reads h h1) (acc_eq▸Lib.laidMet.reads h h2),
   tabIs_of_reads gPow gPowType Tryz.underlying329 Tryz.underlying221 (by kernel_rfl) (by kernel_rfl) (pow_eq▸Lib.laidMet.reads h h3)⟩
end
section
open Go Go.RowKit Go.ChangeShapes Go.WideShapes Go.ChangeAt
theorem own:ownKnob Tryz.prog.godebug=none:=by kernel_rfl
theorem laidOut:laidOutB Tryz.prog=true:=by kernel_rfl
section
variable {H:Type} {enc:TypeId × Value→H} {W:World}
theorem light_of {ts:List TypeId} {ds:List (DataW H)} (h:(DataW.weightsEach Tryz.prog ts ds).all (· ≤ reachBytes)=true):∀n∈DataW.weightsEach Tryz.prog ts ds,n≤reachBytes:=fun n hn=>by simpa using List.all_eq_true.1 h n hn
theorem light_head {t:TypeId} {ts:List TypeId} {d:DataW H} {ds:List (DataW H)} (h:∀n∈DataW.weightsEach Tryz.prog (t :: ts) (d :: ds),n≤reachBytes):Light t d:=fun n hn=>h n (by simp only[DataW.weightsEach,List.mem_append];exact .inl hn)
theorem light_tail {t:TypeId} {ts:List TypeId} {d:DataW H} {ds:List (DataW H)} (h:∀n∈DataW.weightsEach Tryz.prog (t :: ts) (d :: ds),n≤reachBytes):∀n∈DataW.weightsEach Tryz.prog ts ds,n≤reachBytes:=fun n hn=>h n (by simp only[DataW.weightsEach,List.mem_append];exact .inr hn)
end
end
section
open Go Go.RowKit Go.ChangeShapes Go.WideShapes Go.ChangeAt
section
variable {H:Type} {enc:TypeId × Value→H} {hld:Bool} {W:World}
theorem arg_str {w':World} {r:Reach} {b0:Nat} {v:Value} (hv:Value.okWide Tryz.prog w' r b0 9 v):∃s:ByteArray,v=.string s:=okWide_string Tryz.underlying9 hv
end
end
section
open Go Go.RowKit Go.Shelf Go.ChangeShapes
theorem ifCell_of {P:Program} {W:World} {name nm:String} {g:Nat} {t:TypeId} {ms:Array (String × TypeId)} {d:DataW Unit}
 (hg:P.globalNamed name=some g) (ht:(P.globals[g]?).map (·.type)=some t) (hi:P.underlying t=some (.interface ms)) (h:Lib.VarReads P W name (.iface nm d)):IfCell g W:=by
 obtain⟨g',t',cs,fuel,p,hg',ht',hv,hd⟩:=h
 obtain rfl:=Option.some.inj (hg.symm.trans hg')
 obtain rfl:=Option.some.inj (ht.symm.trans ht')
 obtain⟨f1,u,v,hcs,_⟩:=iface_of_trod hi hd
 have hc:=World.var?_cell hg hv 0
 have e:cs = #[.iface u v]:=by cases cs;simp_all
 refine⟨.iface u v,?_,.inr ⟨u,v,rfl⟩⟩
 rw[hc,e];rfl
theorem gSyn : Tryz.prog.globalNamed "strconv.ErrSyntax" = some 2:=by kernel_rfl
theorem gRan : Tryz.prog.globalNamed "strconv.ErrRange" = some 3:=by kernel_rfl
theorem gSynT:(Tryz.prog.globals[2]?).map (·.type)=some 116:=by kernel_rfl
theorem gRanT:(Tryz.prog.globals[3]?).map (·.type)=some 116:=by kernel_rfl
theorem maxLen_of {W:World} (h:W.ShapedOpen Tryz.prog):∃m,W.cell? ⟨4,0,none⟩=some (.int .i64 m) :=
 cell_of_shapedOpen_int (zero:=#[.int .i64 0]) (t:=3) h (of_decide_eq_true (by kernel_rfl)) (by kernel_rfl) rfl (by kernel_rfl) (by kernel_rfl) Tryz.underlying3
theorem numVars_of {l : List (String × DataW Unit)} {W : World} (h : laidMet Tryz.prog l W) (hs : W.ShapedOpen Tryz.prog) (h1 : ("strconv.ErrSyntax",Rows.laid_strconv_ErrSyntax) ∈ l) (h2 : ("strconv.ErrRange",Rows.laid_strconv_ErrRange) ∈ l) : NumVars W :=
 ⟨ifCell_of gSyn gSynT Tryz.underlying116 (Lib.laidMet.reads h h1),ifCell_of gRan gRanT Tryz.underlying116 (Lib.laidMet.reads h h2),maxLen_of hs⟩
theorem returns_and_shaped {H:Type} {enc:TypeId × Value→H} {a:Assume} {C:Checked} {os:Os} {f:FuncId} {fn:Func} {s:ChangeSpec} {conds:List PathCond} {apart fresh handsOn again:Bool} {X:World→Array Value→Prop}
 (hX:∀(w w':World) (args:Array Value),w.heap=w'.heap→X w args→X w' args)
 (own:ownKnob C.prog.godebug=none) (started:os.Started) (noInit:C.prog.inits.idxOf? f=none) (hfn:C.prog.funcs[f]?=some fn)
 (witness:∃(w:World) (tape:Tape) (i:Input),w.os=os∧(w.forCall tape i).Shaped C.prog∧i.vars=[]∧Input.okWide C.prog (w.forCall tape i) .any w.heap.size f i ∧
   ((s.pre enc C.prog fn conds apart (w.forCall tape i).memory i.args∧X (w.forCall tape i).memory i.args)∧sizedMet enc C.prog fn (OpenSpec.ofChange s) apart (w.forCall tape i).memory i.args)∧a.holds C.prog (lone (Frame.enter C.prog f i.args .normal) [] (w.forCall tape i)))
 (contract:∀(W:World) (base:Nat) (args:Array Value) (ds gs:List (DataW H)) (before:List MemPlace),
   (∀(j:Nat) t v,fn.params[j]?=some t→args[j]?=some v→Value.okWide C.prog W .any base t v) →
   DataW.Whole enc C.prog fn.params.toList s.vars apart W args.toList ds gs before →
   conds.all (PathCond.test C.prog ⟨fn.params.toList,ds,s.plain.varTypes C.prog,gs⟩)=true →
   (DataW.weightsEach C.prog (fn.params.toList++s.plain.varTypes C.prog) (ds++gs)).all (· ≤ reachBytes)=true→X W args→W.ShapedOpen C.prog →
   a.holds C.prog (lone (Frame.enter C.prog f args .normal) [] W) →
   Calls C.prog f args W fun e W'=>∃v,e=.returned v∧s.post enc C.prog fn apart fresh handsOn again W args v W') :
 ReturnsInHanded a C os f .any (fun w args=>(s.pre enc C.prog fn conds apart w args∧X w args)∧sizedMet enc C.prog fn (OpenSpec.ofChange s) apart w args) (s.post enc C.prog fn apart fresh handsOn again):=by
 refine returnsInHanded_of_calls own started noInit witness ?_
 intro w tape i _ hsh _ hok hpre hholds
 obtain⟨_,_,_,fn',hfn',_,_,_,_,hval⟩:=hok
 have e:fn'=fn:=Option.some.inj (hfn'.symm.trans hfn)
 subst e
 obtain⟨⟨⟨ds,gs,before,hw,hc⟩,hx⟩,hz⟩:=hpre
 refine(contract (w.forCall tape i) w.heap.size i.args ds gs before hval (DataW.Whole.of_heap (w':=w.forCall tape i) (by rfl) hw) hc (hz.weights hw) (hX _ _ _ (by rfl) hx) hsh hholds).mono fun e W' ⟨v,he,hp⟩=>?_
 subst he
 exact ChangeSpec.post_blind hp
end
end Go.Proofs.YtbfcokcfabbklaaGreatDoor
