/-
  The device: New, check, Down. Conditions: the device's cells stand in its block.
-/
import Derived.Test.YtmgpghoamapfgaaGreatDoorJN29Mrg
import Derived.Test.YtmgpghoamapfgaaGreatDoorJN23Mrg
import Derived.Deep.Cut
import Derived.Maps.Own
import Derived.Maps.Keyed
import Derived.Maps.OwnOps
import Derived.Maps.OwnSet
import Derived.Maps.RangeWalk
import Derived.Maps.StringElems
import Derived.Lib.AppendStr
namespace Go.Proofs.YtmgpghoamapfgaaGreatDoor
set_option linter.unusedVariables false
set_option maxRecDepth 100000
set_option maxHeartbeats 16000000
set_option linter.unusedSimpArgs false
section
open Go Go.RowKit Go.Shelf
open Go.Maps (Keyed)
abbrev devO (m:Nat) (left:Int):Obj:=.cells #[.int .i64 1048576,.map (some m),.bool false,.bool false,.int .i64 left] 111
abbrev filO (v:Value):Obj:=.cells #[v,.int .i64 0] 114
abbrev rdFile (v:Value):Option (DataW Value × List MemPlace):=some (.held v,[])
theorem keyKD:Keyed Tryz.prog 9:=Maps.string_keyed Tryz.underlying9
theorem keySD {s:ByteArray} (h:s.size≤maxLen):keyOf Tryz.prog 9 (.string s)=some (.string s.data.toList):=by
 simp[keyOf,Tryz.underlying9,mapKey,h]
theorem dNew_call (w:World):Calls Tryz.prog 55 #[.int .i64 1048576] w fun e w'=>e=.returned (.tuple #[.pointer (some ⟨w.heap.size+1,0,none⟩),.int .i64 0])∧w'=(w.alloc (.map #[] 0)).alloc (devO w.heap.size 0):=by
 have hmk:=run_makeMap (P:=Tryz.prog) (w:=w) 109
 go_enter Tryz.func55,Tryz.ntmps55
 go_wp2
 go_ret2
 exact⟨rfl,rfl⟩
theorem dCheck_call (d m:Nat) (left:Int) (w:World) (h:w.heap[d]?=some (devO m left)) :
 Calls Tryz.prog 56 #[.pointer (some ⟨d,0,none⟩)] w fun e w'=>e=.returned (.int .i64 0)∧w'=w:=by
 have c:=cellOf h 2
 (try dsimp only at c)
 go_enter Tryz.func56,Tryz.ntmps56
 go_wp2
 go_ret
 exact⟨rfl,rfl⟩
theorem dDown_call (d m:Nat) (left:Int) (w:World) (h:w.heap[d]?=some (devO m left)) :
 Calls Tryz.prog 102 #[.pointer (some ⟨d,0,none⟩)] w fun e w'=>e=.returned (.bool false)∧w'=w:=by
 have c:=cellOf h 2
 (try dsimp only at c)
 go_enter Tryz.func102,Tryz.ntmps102
 go_wp2
 go_ret
 exact⟨rfl,rfl⟩
theorem dNothing_call (w:World):Calls Tryz.prog 59 #[] w fun e w'=>e=.returned (.tuple #[])∧w'=w:=by
 go_enter Tryz.func59,Tryz.ntmps59
 go_wp2
 exact bodyPost_end (results_none rfl _ _ _) rfl ⟨rfl,rfl⟩
theorem dPerform_call (d m:Nat) (left:Int) (hl:I64 left) (hl1:I64 (left-1)) (F G:Nat) (lF lG:Array Value) (w:World) (PF:World→Prop) (PG:World→Prop)
 (eF:∀args w,(callFunc F args).run Tryz.prog w=.ok (.enter F args) w) (eG:∀args w,(callFunc G args).run Tryz.prog w=.ok (.enter G args) w)
 (hF:Calls Tryz.prog F lF w fun e w'=>e=.returned (.tuple #[])∧w'.heap[d]?=some (devO m left)∧PF w')
 (hG:∀w',w'.heap[d]?=some (devO m (left-1))→(∃w1,PF w1∧w'=w1.setCell ⟨d,4,none⟩ (.int .i64 (left-1)))→Calls Tryz.prog G lG w' fun e w2=>e=.returned (.tuple #[])∧PG w2) :
 Calls Tryz.prog 58 #[.pointer (some ⟨d,0,none⟩),.func (.func F) #[] lF,.func (.func G) #[] lG] w fun e w'=>e=.returned (.int .i64 0)∧PG w':=by
 have HF:=hid hF
 have HG:=hid hG
 have hwr:IntKind.i64.wrap (left-1)=left-1:=IntWalk.i64_in _ hl1
 clear hF hG
 go_enter Tryz.func58,Tryz.ntmps58
 go_upto_region 2 with (go_at_fn F;refine HF.out.mono ?_;rintro x w1 ⟨rfl,h1,hp1⟩;have H1:=hid h1;have HP:=hid hp1;have c3:=cellOf h1 3;have c4:=cellOf h1 4;have f4:=freeOf h1 4;(try dsimp only at c3 c4);clear h1 hp1)
 go_upto_region 6 with (fail)
 clear c3 c4 f4
 have hg:=heapSet (o:=4) (.int .i64 (left-1)) H1.out
 simp only[List.setIfInBounds_toArray,List.set_cons_zero,List.set_cons_succ] at hg
 have HQ:=hid (HG.out _ hg ⟨w1,HP.out,rfl⟩)
 clear hg
 go_wp2_with (go_at_fn G;refine HQ.out.mono ?_;rintro x w3 ⟨rfl,hp3⟩)
 go_ret
 exact⟨rfl,hp3⟩
end
section
open Go Go.RowKit Go.Shelf
theorem dNamed1_call (c:Nat) (h1:33≤c) (h2:c≤126) (w:World):Calls Tryz.prog 112 #[.int .u8 c] w fun e w'=>e=.returned (.bool false)∧w'=w:=by
 have i1:(33:Int)≤(c:Int):=by omega
 have i2:(c:Int)≤126:=by omega
 go_enter Tryz.func112,Tryz.ntmps112
 go_wp2
 go_ret
 refine⟨?_,rfl⟩
 show Ending.returned (Value.bool (decide ((c:Int)<33)||decide (126<(c:Int))))=_
 rw[decide_eq_false (by omega),decide_eq_false (by omega)]
 rfl
def Seen (s:ByteArray):Prop:=∀k (hk:k<s.size),33≤s[k].toNat∧s[k].toNat≤126
theorem idxB_call (s:ByteArray) (hs:s.size≤64) (hall:Seen s) (g cap c2:Nat) (fr:Nat × Nat) (w:World) (hg:w.heap[g]?=some (.cells (bytesRow s cap) 5 fr)) :
 Calls Tryz.prog 188 #[.slice (some ⟨g,0,none⟩) s.size c2,.func (.func 112) #[] #[]] w fun e w'=>e=.returned (.int .i64 (-1))∧w'=w:=by
 have hen:∀args w,(callFunc 112 args).run Tryz.prog w=.ok (.enter 112 args) w:=enters_of Tryz.func112 (by kernel_rfl) rfl
 have HG:=hid hg
 have HA:=hid hall
 clear hg hall
 go_enter Tryz.func188,Tryz.ntmps188
 go_wp2
 go_loopw [8] (fun i wr=>∃k:Nat,wr=w∧k≤s.size∧i=.int .i64 k) (fun i _=>s.size-(intOf i).toNat)
 case atStart=>exact⟨0,rfl,Nat.zero_le _,rfl⟩
 case round =>
  obtain⟨k,rfl,hk,rfl⟩:=hrel
  obtain⟨wp,rfl⟩:∃w1:World,w1=wr:=⟨_,rfl⟩
  by_cases hlt:k<s.size
  ·have hcell:=bytesRow_cell HG.out k hlt
   have hlt':(k:Int)<(s.size:Int):=by omega
   have hk0:(0:Int)≤(k:Int):=by omega
   have HC:=hid (fun w'=>dNamed1_call s[k].toNat (HA.out k hlt).1 (HA.out k hlt).2 w')
   obtain⟨c,hc⟩:∃c,c=s[k].toNat:=⟨_,rfl⟩
   rw[←hc] at hcell HC
   clear hc
   go_wp2_with (go_at_call 112;refine(HC.out _).mono ?_;rintro e w3 ⟨rfl,hw3⟩;obtain rfl:=hw3.symm)
   go_roundw
   case rel=>exact⟨k+1,(by first | trivial | rfl),by omega,by go_num⟩
   case measure=>simp[intOf];omega
  ·obtain rfl:k=s.size:=by omega
   go_wp2
   go_ret
   exact⟨rfl,rfl⟩
theorem hasB_call (s:ByteArray) (hs:s.size≤64) (hall:Seen s) (g cap c2:Nat) (fr:Nat × Nat) (w:World) (hg:w.heap[g]?=some (.cells (bytesRow s cap) 5 fr)) :
 Calls Tryz.prog 111 #[.slice (some ⟨g,0,none⟩) s.size c2,.func (.func 112) #[] #[]] w fun e w'=>e=.returned (.bool false)∧w'=w:=by
 have HC:=hid (idxB_call s hs hall g cap c2 fr w hg)
 clear hg hall
 go_enter Tryz.func111,Tryz.ntmps111
 go_wp2_with (go_at_call 188;refine HC.out.mono ?_;rintro e w3 ⟨rfl,hw3⟩;obtain rfl:=hw3.symm)
 go_ret
 exact⟨rfl,rfl⟩
theorem dNamed_call (s:ByteArray) (h0:0<s.size) (hs:s.size≤64) (hall:Seen s) (w:World) :
 Calls Tryz.prog 57 #[.string s] w fun e w'=>e=.returned (.bool true)∧Below w.heap.size w w':=by
 have hcv1:=run_bytes_of_string (P:=Tryz.prog) w 9 72 5 s Tryz.underlying9 Tryz.underlying72 Tryz.underlying5
 obtain⟨cap,hcap⟩:∃cap,cap=grownCap w s.size 0 5:=⟨_,rfl⟩
 rw[←hcap] at hcv1
 clear hcap
 have hne:s.toList.isEmpty=false:=by
  cases hh:s.toList with
  | nil=>rw[ByteArray.toList_eq] at hh;have:=blen s;rw[hh] at this;simp at this;omega
  | cons _ _=>rfl
 have hle:(s.size:Int)≤64:=by omega
 have hb:Below w.heap.size w ((w.alloc (.cells (bytesRow s cap) 5 ((bytesRow s cap).size,(bytesRow s cap).size+1))).drew):=((Below.refl _ w).alloc (Nat.le_refl _) _).drew
 have HB:=hid hb
 have HC:=hid (fun c2=>hasB_call s hs hall w.heap.size cap c2 _ ((w.alloc (.cells (bytesRow s cap) 5 ((bytesRow s cap).size,(bytesRow s cap).size+1))).drew) (heap_alloc_new w _))
 clear hall hb
 go_enter Tryz.func57,Tryz.ntmps57
 go_wp2_with (go_at_call 111;refine(HC.out _).mono ?_;rintro e w3 ⟨rfl,hw3⟩;obtain rfl:=hw3.symm)
 go_ret
 exact⟨rfl,HB.out⟩
end
section
open Go Go.RowKit Go.Shelf
abbrev noFiles:DataW Value:=.map []
abbrev oneFile (s:ByteArray) (f:Nat):DataW Value:=DataW.put (.map []) (.string s.data.toList) (.held (.pointer (some ⟨f,0,none⟩)))
def Made (m:Nat) (s:ByteArray) (w w':World):Prop:=∃f,w'.ownsMap Tryz.prog 9 rdFile m 1 (oneFile s f)∧w'.heap[f]?=some (filO (.slice none 0 0))∧w.heap.size≤f∧Turn (fun k=>k=m) w w'
def Stuffed (f:Nat) (w w':World):Prop:=(∃v,w'.heap[f]?=some (filO v))∧Turn (fun k=>k=f) w w'
theorem create1_call (d m:Nat) (left:Int) (bd bn:Nat) (s:ByteArray) (hs:s.size≤maxLen) (w:World) (hd:w.heap[d]?=some (devO m left)) (hbd:w.heap[bd]?=some (.cells #[.pointer (some ⟨d,0,none⟩)] 56)) (hbn:w.heap[bn]?=some (.cells #[.string s] 9)) (hm:w.ownsMap Tryz.prog 9 rdFile m 0 noFiles) :
 Calls Tryz.prog 60 #[.pointer (some ⟨bd,0,none⟩),.pointer (some ⟨bn,0,none⟩)] w fun e w'=>e=.returned (.tuple #[])∧Made m s w w':=by
 have HC:=hid (fun (w':World) (h:Below w.heap.size w w')=>(show w'.cell? ⟨bd,0,none⟩=some (.pointer (some ⟨d,0,none⟩))∧w'.cell? ⟨bn,0,none⟩=some (.string s)∧w'.cell? ⟨d,1,none⟩=some (.map (some m)) from⟨cellOf (heapExt h hbd) 0,cellOf (heapExt h hbn) 0,cellOf (heapExt h hd) 1⟩))
 have HM:=hid hm
 have HS:=hid hs
 clear hd hbd hbn hm hs
 go_enter Tryz.func60,Tryz.ntmps60
 refine wp_region_split 7 (fun w'=>Below w.heap.size w w') (by kernel_rfl) (by kernel_rfl) (by kernel_rfl) (by decide) ((Below.refl _ _).drew) (fun hS=>?_)
 simp only[List.take_succ_cons,List.take_zero,List.drop_succ_cons,List.drop_zero]
 refine tkQ 0 (v:=?_) ?_ hS ?_;rotate_left;· intro w' hw';have hcells:=HC.out w' hw';go_simp;(try with_reducible rfl)
 simp only[Act.put,pt1,pt2,pt3,pt4,pt5,pt6]
 refine tkQ 1 (v:=?_) ?_ hS ?_;rotate_left;· intro w' hw';have hcells:=HC.out w' hw';go_simp;(try with_reducible rfl)
 simp only[Act.put,pt1,pt2,pt3,pt4,pt5,pt6]
 refine tkQ 2 (v:=?_) ?_ hS ?_;rotate_left;· intro w' hw';have hcells:=HC.out w' hw';go_simp;(try with_reducible rfl)
 simp only[Act.put,pt1,pt2,pt3,pt4,pt5,pt6]
 refine tkQ 3 (v:=?_) ?_ hS ?_;rotate_left;· intro w' hw';have hcells:=HC.out w' hw';go_simp;(try with_reducible rfl)
 simp only[Act.put,pt1,pt2,pt3,pt4,pt5,pt6]
 refine tkQ 4 (v:=?_) ?_ hS ?_;rotate_left;· intro w' hw';have hcells:=HC.out w' hw';go_simp;(try with_reducible rfl)
 simp only[Act.put,pt1,pt2,pt3,pt4,pt5,pt6]
 refine tkQ 5 (v:=?_) ?_ hS ?_;rotate_left;· intro w' hw';have hcells:=HC.out w' hw';go_simp;(try with_reducible rfl)
 simp only[Act.put,pt1,pt2,pt3,pt4,pt5,pt6]
 refine wpAnyH_ready (rs:=[6]) (by kernel_rfl) (by simp) ?_
 refine arQ fun K hK=>?_
 go_simp
 refine hK.out _ _ (hS.trans (((Below.refl _ _).alloc (Nat.le_refl _) _).mono hS.size)) (fun hS=>?_)
 clear hK K
 (try simp only[Act.put,pt1,pt2,pt3,pt4,pt5,pt6])
 refine wpAnyH_done (by kernel_rfl) ?_ _
 (try dsimp only)
 have hlm:=HM.out.lt
 have how:((w.alloc (filO (.slice none 0 0))).drew).ownsMap Tryz.prog 9 rdFile m 0 noFiles:=HM.out.alloc _
 refine wpList_mapUpdate_own _ rfl _ _ _ 109 rfl 9 108 keyKD Tryz.underlying109 rdFile m 0 noFiles rfl how (by unfold maxLen;omega) _ _ (.string s.data.toList) rfl rfl (keySD HS.out) (.held (.pointer (some ⟨w.heap.size,0,none⟩))) [] rfl ?_
 intro w9 ho9 hg9
 have hsz:w.heap.size<((w.alloc (filO (.slice none 0 0))).drew).heap.size:=by show _<(w.alloc _).heap.size;rw[World.size_alloc];omega
 have HQ:=hid (show Made m s w w9 from⟨w.heap.size,ho9,(hg9.block w.heap.size hsz (by intro e;cases e;omega)).trans (heap_alloc_new w _),Nat.le_refl _,(Turn.of_below ((Below.refl _ w).alloc (Nat.le_refl _) _).drew).trans (Turn.of_grown hg9 fun r e=>by cases e;rfl)⟩)
 clear ho9 hg9 how hlm hsz
 go_wp2
 exact bodyPost_end (results_none rfl _ _ _) rfl ⟨rfl,HQ.out⟩
theorem step_append_str {P:Program} {w:World} {ops:Array Oper} {o:Oper} {a:Act} {K':Act→World→Prop} {Q:Exit→Act→World→Prop} {E:Prop} (hgd:o.guard=none) (s x:Operand) (t u:TypeId)
 (ho:o.op=.call { callee:=.builtin .append,args:=#[s,x],argTypes:=#[t,u] }) (vs vx v':Value) (w':World) (hs:a.eval s=vs) (hx:a.eval x=vx)
 (hrun:(Builtin.append_ #[t,u] o.type #[vs,vx]).run P w=.ok v' w') (h:K' (a.put o.dst v') w') :
 if Region.wanted o (yielded ops a.tmps)=true then Oper.wp P o a w K' Q else E:=by
 rw[if_pos (by simp[Region.wanted,hgd])]
 unfold Oper.wp execOp
 simp only[ho,resolve,invoke,builtin,Sem.run_bind,Sem.run_pure,Result.andThen_ok,List.map_toArray,List.map_cons,List.map_nil,hs,hx,hrun]
 exact h
theorem infoU8d:(Tryz.prog.info? 5).map (fun i=>(i.zero,i.size,i.bytes))=some (some (.int .u8 0),1,1):=by kernel_rfl
theorem append1_call (f:Nat) (bf bs:Nat) (s:ByteArray) (hs:s.size≤1000) (w:World) (hf:w.heap[f]?=some (filO (.slice none 0 0))) (hbf:w.heap[bf]?=some (.cells #[.pointer (some ⟨f,0,none⟩)] 108)) (hbs:w.heap[bs]?=some (.cells #[.string s] 9)) :
 Calls Tryz.prog 62 #[.pointer (some ⟨bf,0,none⟩),.pointer (some ⟨bs,0,none⟩)] w fun e w'=>e=.returned (.tuple #[])∧Stuffed f w w':=by
 have hinf:=infoU8d
 obtain⟨ti,hi,hz0,hz1,hz2⟩:∃ti,Tryz.prog.info? 5=some ti∧ti.zero=some (.int .u8 0)∧ti.size=1∧ti.bytes=1:=by
  cases hi:Tryz.prog.info? 5 with
  | none=>rw[hi] at hinf;cases hinf
  | some i=>rw[hi] at hinf;simp only[Option.map_some,Option.some.injEq,Prod.mk.injEq] at hinf;exact⟨i,rfl,hinf.1,hinf.2.1,hinf.2.2⟩
 clear hinf
 have HC:=hid (fun (w':World) (h:Below w.heap.size w w')=>(show w'.cell? ⟨bf,0,none⟩=some (.pointer (some ⟨f,0,none⟩))∧w'.cell? ⟨bs,0,none⟩=some (.string s)∧w'.cell? ⟨f,0,none⟩=some (.slice none 0 0) from⟨cellOf (heapExt h hbf) 0,cellOf (heapExt h hbs) 0,cellOf (heapExt h hf) 0⟩))
 have HF:=hid hf
 clear hf hbf hbs
 go_enter Tryz.func62,Tryz.ntmps62
 refine wp_region_split2 7 (fun w'=>Below w.heap.size w w') (by kernel_rfl) (by kernel_rfl) (by kernel_rfl) (by decide) ((Below.refl _ _).drew) (fun hS=>?_)
 simp only[List.take_succ_cons,List.take_zero,List.drop_succ_cons,List.drop_zero]
 refine tkQ 0 (v:=?_) ?_ hS ?_;rotate_left;· intro w' hw';have hcells:=HC.out w' hw';go_simp;(try with_reducible rfl)
 simp only[Act.put,pt1,pt2,pt3,pt4,pt5,pt6]
 refine tkQ 1 (v:=?_) ?_ hS ?_;rotate_left;· intro w' hw';have hcells:=HC.out w' hw';go_simp;(try with_reducible rfl)
 simp only[Act.put,pt1,pt2,pt3,pt4,pt5,pt6]
 refine tkQ 2 (v:=?_) ?_ hS ?_;rotate_left;· intro w' hw';have hcells:=HC.out w' hw';go_simp;(try with_reducible rfl)
 simp only[Act.put,pt1,pt2,pt3,pt4,pt5,pt6]
 refine tkQ 3 (v:=?_) ?_ hS ?_;rotate_left;· intro w' hw';have hcells:=HC.out w' hw';go_simp;(try with_reducible rfl)
 simp only[Act.put,pt1,pt2,pt3,pt4,pt5,pt6]
 refine tkQ 4 (v:=?_) ?_ hS ?_;rotate_left;· intro w' hw';have hcells:=HC.out w' hw';go_simp;(try with_reducible rfl)
 simp only[Act.put,pt1,pt2,pt3,pt4,pt5,pt6]
 refine tkQ 5 (v:=?_) ?_ hS ?_;rotate_left;· intro w' hw';have hcells:=HC.out w' hw';go_simp;(try with_reducible rfl)
 simp only[Act.put,pt1,pt2,pt3,pt4,pt5,pt6]
 refine wpAnyH_ready (rs:=[6]) (by kernel_rfl) (by simp) ?_
 refine arQ fun K hK=>?_
 obtain⟨v',w6,hrun,hown,hgr,_⟩:=Lib.run_append_own_string (P:=Tryz.prog) (w:=w.drew) w.heap.size 72 9 72 5 ti Tryz.underlying72 Tryz.underlying9 hi hz0 hz1 hz2 (.slice none 0 0) 0 [] (World.ownsRow_nil _ _ _ _) s (by unfold maxLen;omega) (by omega) (Nat.le_refl _)
 obtain⟨p',n',c',rfl⟩:∃p n c,v'=.slice p n c:=by
  rcases hown.2 with ⟨h,_⟩ | ⟨g,cap,cur,h,_⟩
  ·exact⟨_,_,_,h⟩
  ·exact⟨_,_,_,h⟩
 refine step_append_str (by rfl) _ _ _ _ (by rfl) (.slice none 0 0) (.string s) (.slice p' n' c') w6 (by rfl) (by rfl) hrun ?_
 have hb6:Below w.heap.size w w6:=(Below.refl _ w).drew.grown hgr (Nat.le_refl _) (fun k hk=>by cases hk)
 refine hK.out _ _ (hb6) (fun hS=>?_)
 clear hK K
 (try simp only[Act.put,pt1,pt2,pt3,pt4,pt5,pt6])
 refine wpAnyH_done (by kernel_rfl) ?_ _
 (try dsimp only)
 have g:=heapExt hb6 HF.out
 have c:=cellOf g 0
 have fz:=freeOf g 0
 (try dsimp only at c)
 have HQ:=hid (show Stuffed f w (w6.setCell ⟨f,0,none⟩ (.slice p' n' c')) from⟨⟨.slice p' n' c',by have hq:=heapSet (o:=0) (.slice p' n' c') g;simp only[List.setIfInBounds_toArray,List.set_cons_zero,List.set_cons_succ] at hq;exact hq⟩,(Turn.of_below hb6).trans (Turn.setCell ⟨f,0,none⟩ _ rfl)⟩)
 clear hb6 hgr hown hrun g
 go_wp2
 exact bodyPost_end (results_none rfl _ _ _) rfl ⟨rfl,HQ.out⟩
end
section
open Go Go.RowKit Go.Shelf
theorem ownsMap_same {w w':World} {b n:Nat} {D:DataW Value} (h:w.ownsMap Tryz.prog 9 rdFile b n D) (hb:w'.heap[b]?=w.heap[b]?):w'.ownsMap Tryz.prog 9 rdFile b n D:=by
 obtain⟨es,clock,h1,F,hs,hD⟩:=h
 exact⟨es,clock,hb.trans h1,F,hs,hD⟩
theorem oneFile_at (s:ByteArray) (f:Nat) (kl:Lit) (zd:DataW Value):(oneFile s f).atKey kl zd=if (Lit.string s.data.toList).sameKey kl=true then .held (.pointer (some ⟨f,0,none⟩)) else zd:=by
 have e:oneFile s f=.map [(.string s.data.toList,.held (.pointer (some ⟨f,0,none⟩)))]:=rfl
 rw[e]
 unfold DataW.atKey
 by_cases h:(Lit.string s.data.toList).sameKey kl=true
 ·simp[List.find?,h]
 ·simp[List.find?,h]
theorem zeroPtr (w:World):(zeroValue 108).run Tryz.prog w=.ok (.pointer none) w:=by
 have h:(Tryz.prog.info? 108).map (·.zero)=some (some (.pointer none)):=by kernel_rfl
 cases hi:Tryz.prog.info? 108 with
 | none=>rw[hi] at h;cases h
 | some i =>
   rw[hi] at h
   have hz:i.zero=some (.pointer none):=by simpa using h
   simp[zeroValue,typeInfo,hi,hz]
theorem look0 (m:Nat) (s:ByteArray) (hs:s.size≤maxLen) (w:World) (hm:w.ownsMap Tryz.prog 9 rdFile m 0 noFiles):(Instr.lookup 109 (.map (some m)) (.string s) false).run Tryz.prog w=.ok (.pointer none) w:=by
 obtain⟨v,ps,hrun,hv⟩:=hm.lookup keyKD Tryz.underlying109 (zeroPtr w) (zd:=.held (.pointer none)) (zp:=[]) rfl (keySD hs)
 have e:(noFiles:DataW Value).atKey (.string s.data.toList) (.held (.pointer none))=.held (.pointer none):=rfl
 rw[e] at hv
 simp only[rdFile,Option.some.injEq,Prod.mk.injEq,DataW.held.injEq] at hv
 rw[hrun,hv.1]
theorem look1 (m f:Nat) (s:ByteArray) (hs:s.size≤maxLen) (w:World) (hm:w.ownsMap Tryz.prog 9 rdFile m 1 (oneFile s f)):(Instr.lookup 109 (.map (some m)) (.string s) false).run Tryz.prog w=.ok (.pointer (some ⟨f,0,none⟩)) w:=by
 obtain⟨v,ps,hrun,hv⟩:=hm.lookup keyKD Tryz.underlying109 (zeroPtr w) (zd:=.held (.pointer none)) (zp:=[]) rfl (keySD hs)
 rw[oneFile_at,if_pos (by simp[Lit.sameKey])] at hv
 simp only[rdFile,Option.some.injEq,Prod.mk.injEq,DataW.held.injEq] at hv
 rw[hrun,hv.1]
theorem keyStr {key:Value} {kl:Lit} (h:keyOf Tryz.prog 9 key=some kl):∃x,key=Value.string x:=by
 cases key<;>simp[keyOf,Tryz.underlying9,mapKey] at h
 exact⟨_,rfl⟩
theorem dUsed_call (d m f:Nat) (left:Int) (s:ByteArray) (w:World) (hd:w.heap[d]?=some (devO m left)) (hm:w.ownsMap Tryz.prog 9 rdFile m 1 (oneFile s f)) (hf:w.heap[f]?=some (filO (.slice none 0 0))) :
 Calls Tryz.prog 113 #[.pointer (some ⟨d,0,none⟩)] w fun e w'=>e=.returned (.int .i64 0)∧Below w.heap.size w w':=by
 have c1:=cellOf hd 1
 (try dsimp only at c1)
 have HF:=hid hf
 have HM:=hid hm
 clear hd hm hf
 go_enter Tryz.func113,Tryz.ntmps113
 go_wp2_with (first
  | (at_range;refine wpList_range_own _ rfl _ 109 rfl 9 108 keyKD Tryz.underlying109 rdFile m 1 (oneFile s f) rfl HM.out ?_;intro w0 hrg0 hg0 hs0)
  | go_in)
 go_frame
 clear c1
 go_loopw [3] (fun n wr=>n=.int .i64 0∧∃(left:Lit→Bool) (cnt:Nat),wr.ranges Tryz.prog 9 rdFile m w.heap.size 1 (oneFile s f) left cnt∧Below w.heap.size w wr) (fun _ wr=>wr.rangeLeft m w.heap.size)
 case atStart=>exact⟨rfl,_,_,hrg0,(Below.refl _ _).grown hg0 (Nat.le_refl _) (fun k hk=>by cases hk)⟩
 case round =>
  obtain⟨rfl,lf,cnt,hrg,hb⟩:=hrel
  have HB:=hid hb
  clear hb
  go_wp2_with (first
   | (at_next;refine wpList_next_ranges _ rfl _ rfl 9 keyKD rdFile Value.string (fun v:Value=>v) (fun key kl hk=>keyStr hk) (fun v y _=>⟨v,rfl⟩) m w.heap.size 1 (oneFile s f) _ _ rfl hrg ?_ ?_)
   | go_in)
  ·intro _ _
   go_wp2
   go_ret
   exact⟨rfl,HB.out⟩
  ·intro x c kl y z w1 cnt1 hkey hlx hy hz hat hrg1 hlt hg1 hs1 hen
   subst hy
   have hc:c=.pointer (some ⟨f,0,none⟩):=by
    have h1:=hat .nil
    rw[oneFile_at] at h1
    split at h1
    ·simp only[DataW.held.injEq] at h1;exact h1.symm
    ·cases h1
   subst hc
   have hb1:Below w.heap.size w w1:=HB.out.grown hg1 HB.out.size (fun k hk=>by cases hk;omega)
   have c0:=cellOf (heapExt hb1 HF.out) 0
   (try dsimp only at c0)
   have HB1:=hid hb1
   have HRG:=hid hrg1
   have HLT:=hid hlt
   have HRO:=hid hrg
   clear hb1 hat hrg1 hlt hg1 hs1 hkey hlx hrg
   go_wp2
   go_roundw
   case rel=>exact⟨rfl,_,cnt1,HRG.out,HB1.out⟩
   case measure=>rw[HRG.out.left_eq,HRO.out.left_eq];exact HLT.out
theorem free_call (d m f:Nat) (left:Int) (s:ByteArray) (w:World) (hd:w.heap[d]?=some (devO m left)) (hm:w.ownsMap Tryz.prog 9 rdFile m 1 (oneFile s f)) (hf:w.heap[f]?=some (filO (.slice none 0 0))) :
 Calls Tryz.prog 61 #[.pointer (some ⟨d,0,none⟩)] w fun e w'=>e=.returned (.int .i64 1048576)∧Below w.heap.size w w':=by
 have HC:=hid (fun (w':World) (h:Below w.heap.size w w')=>(show w'.cell? ⟨d,0,none⟩=some (.int .i64 1048576) from cellOf (heapExt h hd) 0))
 have HU:=hid (fun (w':World) (h:Below w.heap.size w w')=>dUsed_call d m f left s w' (heapExt h hd) (ownsMap_same hm (h.block m hm.lt)) (heapExt h hf))
 have HK:=hid (dCheck_call d m left w hd)
 clear hd hm hf
 go_enter Tryz.func61,Tryz.ntmps61
 go_upto_region 3 with (go_at_call 56;refine HK.out.mono ?_;rintro e w1 ⟨rfl,hw1⟩;obtain rfl:=hw1.symm)
 refine wp_region_held_drew (S:=(fun w'=>Below w.heap.size w w')) (by kernel_rfl) ((Below.refl _ _).drew) (fun hS=>?_)
 refine tkQ 0 (v:=?_) ?_ hS ?_;rotate_left;· intro w' hw';have hcells:=HC.out w' hw';go_simp;(try with_reducible rfl)
 simp only[Act.put,pt1,pt2,pt3,pt4,pt5,pt6]
 refine tkQ 1 (v:=?_) ?_ hS ?_;rotate_left;· intro w' hw';have hcells:=HC.out w' hw';go_simp;(try with_reducible rfl)
 simp only[Act.put,pt1,pt2,pt3,pt4,pt5,pt6]
 refine tkQ 2 (v:=?_) ?_ hS ?_;rotate_left;· intro w' hw';have hcells:=HC.out w' hw';go_simp;(try with_reducible rfl)
 simp only[Act.put,pt1,pt2,pt3,pt4,pt5,pt6]
 refine tkQ 3 (v:=?_) ?_ hS ?_;rotate_left;· intro w' hw';have hcells:=HC.out w' hw';go_simp;(try with_reducible rfl)
 simp only[Act.put,pt1,pt2,pt3,pt4,pt5,pt6]
 refine tkQ 4 (v:=?_) ?_ hS ?_;rotate_left;· intro w' hw';have hcells:=HC.out w' hw';go_simp;(try with_reducible rfl)
 simp only[Act.put,pt1,pt2,pt3,pt4,pt5,pt6]
 refine wpAnyH_ready (rs:=[5]) (by kernel_rfl) (by simp) ?_
 refine arQ fun K hK=>?_
 go_simp
 go_at_call 113
 refine(HU.out _ hS).mono ?_
 rintro e w2 ⟨rfl,hb2⟩
 refine hK.out _ _ (hS.trans (hb2.mono hS.size)) (fun hS=>?_)
 clear hK K
 (try simp only[Act.put,pt1,pt2,pt3,pt4,pt5,pt6])
 refine tkQ 6 (v:=?_) ?_ hS ?_;rotate_left;· intro w' hw';have hcells:=HC.out w' hw';go_simp;(try with_reducible rfl)
 simp only[Act.put,pt1,pt2,pt3,pt4,pt5,pt6]
 refine tkQ 7 (v:=?_) ?_ hS ?_;rotate_left;· intro w' hw';have hcells:=HC.out w' hw';go_simp;(try with_reducible rfl)
 simp only[Act.put,pt1,pt2,pt3,pt4,pt5,pt6]
 refine wpAnyH_done (by kernel_rfl) ?_ _
 (try dsimp only)
 go_wp2
 go_ret
 exact⟨rfl,hS⟩
def CreateP (d m:Nat) (left:Int) (s:ByteArray) (w w':World):Prop:=∃f,w'.heap[d]?=some (devO m (left-1))∧w'.ownsMap Tryz.prog 9 rdFile m 1 (oneFile s f)∧w'.heap[f]?=some (filO (.slice none 0 0))∧w.heap.size≤f∧Turn (fun k=>k=d∨k=m) w w'
theorem dCreate_call (d m:Nat) (left:Int) (hl:I64 left) (hl1:I64 (left-1)) (s:ByteArray) (h0:0<s.size) (hs:s.size≤64) (hall:Seen s) (w:World) (hd:w.heap[d]?=some (devO m left)) (hm:w.ownsMap Tryz.prog 9 rdFile m 0 noFiles) :
 Calls Tryz.prog 24 #[.pointer (some ⟨d,0,none⟩),.string s] w fun e w'=>e=.returned (.int .i64 0)∧CreateP d m left s w w':=by
 have hdm:d≠m:=by
  intro e
  subst e
  obtain⟨es,clock,hb,_⟩:=hm
  rw[hd] at hb
  cases hb
 obtain⟨N,hN⟩:∃N,N=w.heap.size:=⟨_,rfl⟩
 obtain⟨w0,hw0⟩:∃w0,w0=w.alloc (.cells #[.pointer (some ⟨d,0,none⟩)] 56):=⟨_,rfl⟩
 obtain⟨w1,hw1⟩:∃w1,w1=w0.alloc (.cells #[.string s] 9):=⟨_,rfl⟩
 have hs0:w0.heap.size=N+1:=by rw[hw0,World.size_alloc,←hN]
 have h0b:w0.heap[N]?=some (.cells #[.pointer (some ⟨d,0,none⟩)] 56):=by rw[hw0,hN];exact heap_alloc_new w _
 have hA:w1.heap[N]?=some (.cells #[.pointer (some ⟨d,0,none⟩)] 56):=by rw[hw1];exact heapAlloc _ h0b
 have hB:w1.heap[N+1]?=some (.cells #[.string s] 9):=by rw[hw1,←hs0];exact heap_alloc_new w0 _
 have hb1:Below w.heap.size w w1:=by rw[hw1,hw0];exact((Below.refl _ w).alloc (Nat.le_refl _) _).alloc (by simp) _
 have HD1:=hid (heapExt hb1 hd)
 have HM1:=hid (ownsMap_same hm (hb1.block m hm.lt))
 have HB1:=hid hb1
 have HAB:=hid (And.intro hA hB)
 have HDM:=hid (show d≠m∧d<N∧m<N from⟨hdm,by rw[hN];exact ltOf hd,by rw[hN];exact hm.lt⟩)
 have HK:=hid (fun (w':World) (h:Below w1.heap.size w1 w')=>dCheck_call d m left w' (heapExt h HD1.out))
 have HNM:=hid (fun (w':World)=>dNamed_call s h0 hs hall w')
 have HS:=hid (show s.size≤maxLen by unfold maxLen;omega)
 have HNN:=hid hN
 have cA:=cellOf hA 0
 have cB:=cellOf hB 0
 (try dsimp only at cA cB)
 clear hd hm hA hB h0b hall h0 hb1 hs
 go_enter Tryz.func24,Tryz.ntmps24
 go_upto_region 1 with (fail)
 rw[←hw0,←hN,←hw1]
 clear hw0 hw1 hs0 hN
 go_upto_region 6 with (first
  | (go_at_call 56;refine(HK.out w1 (Below.refl _ _)).mono ?_;rintro e w2 ⟨rfl,hw2⟩;obtain rfl:=hw2.symm)
  | (go_at_call 57;refine(HNM.out _).mono ?_;rintro e w2 ⟨rfl,hb2⟩;have HB2:=hid hb2;clear hb2))
 clear cA cB
 have HLK:=hid (fun (W:World) (h:W.heap[m]?=w2.heap[m]?)=>look0 m s HS.out W (ownsMap_same HM1.out (h.trans (HB2.out.block m HM1.out.lt))))
 have HC:=hid (fun (w':World) (h:Below w2.heap.size w2 w')=>(show w'.cell? ⟨N,0,none⟩=some (.pointer (some ⟨d,0,none⟩))∧w'.cell? ⟨N+1,0,none⟩=some (.string s)∧w'.cell? ⟨d,1,none⟩=some (.map (some m)) from
  have hx:=HB2.out.trans (h.mono HB2.out.size)
  ⟨cellOf (heapExt hx HAB.out.1) 0,cellOf (heapExt hx HAB.out.2) 0,cellOf (heapExt hx HD1.out) 1⟩))
 refine wp_region_held_drew (S:=(fun w'=>Below w2.heap.size w2 w')) (by kernel_rfl) ((Below.refl _ _).drew) (fun hS=>?_)
 refine tkQ 0 (v:=?_) ?_ hS ?_;rotate_left;· intro w' hw';have hcells:=HC.out w' hw';go_simp;(try with_reducible rfl)
 simp only[Act.put,pt1,pt2,pt3,pt4,pt5,pt6]
 refine tkQ 1 (v:=?_) ?_ hS ?_;rotate_left;· intro w' hw';have hcells:=HC.out w' hw';go_simp;(try with_reducible rfl)
 simp only[Act.put,pt1,pt2,pt3,pt4,pt5,pt6]
 refine tkQ 2 (v:=?_) ?_ hS ?_;rotate_left;· intro w' hw';have hcells:=HC.out w' hw';go_simp;(try with_reducible rfl)
 simp only[Act.put,pt1,pt2,pt3,pt4,pt5,pt6]
 refine tkQ 3 (v:=?_) ?_ hS ?_;rotate_left;· intro w' hw';have hcells:=HC.out w' hw';go_simp;(try with_reducible rfl)
 simp only[Act.put,pt1,pt2,pt3,pt4,pt5,pt6]
 refine tkQ 4 (v:=?_) ?_ hS ?_;rotate_left;· intro w' hw';have hcells:=HC.out w' hw';go_simp;(try with_reducible rfl)
 simp only[Act.put,pt1,pt2,pt3,pt4,pt5,pt6]
 refine wpAnyH_ready (rs:=[5]) (by kernel_rfl) (by simp) ?_
 refine arQ fun K hK=>?_
 have hlk:=HLK.out w2.drew rfl
 go_simp
 refine hK.out _ _ (hS) (fun hS=>?_)
 clear hK K
 (try simp only[Act.put,pt1,pt2,pt3,pt4,pt5,pt6])
 refine tkQ 6 (v:=?_) ?_ hS ?_;rotate_left;· intro w' hw';have hcells:=HC.out w' hw';go_simp;(try with_reducible rfl)
 simp only[Act.put,pt1,pt2,pt3,pt4,pt5,pt6]
 refine tkQ 7 (v:=?_) ?_ hS ?_;rotate_left;· intro w' hw';have hcells:=HC.out w' hw';go_simp;(try with_reducible rfl)
 simp only[Act.put,pt1,pt2,pt3,pt4,pt5,pt6]
 refine wpAnyH_done (by kernel_rfl) ?_ _
 (try dsimp only)
 skip
 obtain⟨w3,hw3⟩:∃w3,w3=w2.drew:=⟨_,rfl⟩
 rw[←hw3]
 have HB3:=hid (show Below w1.heap.size w1 w3 by rw[hw3];exact HB2.out.drew)
 have hln:=fun ty=>(ownsMap_same HM1.out (HB3.out.block m HM1.out.lt)).len (t:=109) Tryz.underlying109 ty
 have hz:Maps.size (noFiles:DataW Value)=0:=rfl
 simp only[hz] at hln
 obtain⟨x0,x1,x2⟩:=HC.out w3 (by rw[hw3];exact hS)
 clear hw3 hS
 have HP:Hid (Calls Tryz.prog 58 #[.pointer (some ⟨d,0,none⟩),.func (.func 59) #[] #[],.func (.func 60) #[] #[.pointer (some ⟨N,0,none⟩),.pointer (some ⟨N+1,0,none⟩)]] w3 fun e w'=>e=.returned (.int .i64 0)∧CreateP d m left s w w'):=hid (by
  refine dPerform_call d m left hl hl1 59 60 #[] _ w3 (fun w'=>w'=w3) _ (enters_of Tryz.func59 (by kernel_rfl) rfl) (enters_of Tryz.func60 (by kernel_rfl) rfl) ((dNothing_call w3).mono fun e w' h=>⟨h.1,by rw[h.2];exact heapExt HB3.out HD1.out,h.2⟩) ?_
  rintro w4 hd4 ⟨wq,hwq,hw4⟩
  rw[hwq] at hw4
  clear hwq
  have hoth:∀k,k≠d→w4.heap[k]?=w3.heap[k]?:=fun k hk=>by rw[hw4];exact Below.heap_setCell _ _ _ _ hk
  have hlt:=HDM.out
  have hNN:=HNN.out
  refine(create1_call d m (left-1) N (N+1) s HS.out w4 hd4 ((hoth N (by omega)).trans (heapExt HB3.out HAB.out.1)) ((hoth (N+1) (by omega)).trans (heapExt HB3.out HAB.out.2)) (ownsMap_same HM1.out ((hoth m (fun e=>hlt.1 e.symm)).trans (HB3.out.block m HM1.out.lt)))).mono ?_
  rintro e w5 ⟨rfl,f,ho5,hf5,hle,hT⟩
  have hb3:Below w.heap.size w w3:=HB1.out.trans (HB3.out.mono HB1.out.size)
  have h4s:w4.heap.size=w3.heap.size:=by rw[hw4];simp[World.setCell]
  exact⟨rfl,f,hT.keep hd4 hlt.1,ho5,hf5,by have:=hb3.size;omega,((Turn.of_below hb3).trans (by rw[hw4];exact Turn.setCell ⟨d,4,none⟩ _ (.inl rfl))).trans (hT.mono fun k hk=>.inr hk)⟩)
 go_wp2_with (go_at_call 58;refine HP.out.mono ?_;rintro e w6 ⟨rfl,hp6⟩)
 go_ret
 exact⟨rfl,hp6⟩
def AppendP (d m f:Nat) (left:Int) (s:ByteArray) (w w':World):Prop:=w'.heap[d]?=some (devO m (left-1))∧w'.ownsMap Tryz.prog 9 rdFile m 1 (oneFile s f)∧Turn (fun k=>k=d∨k=f) w w'
theorem dAppend_call (d m f:Nat) (left:Int) (hl:I64 left) (hl1:I64 (left-1)) (s t:ByteArray) (hs:s.size≤maxLen) (ht:t.size≤1000) (w:World) (hd:w.heap[d]?=some (devO m left)) (hm:w.ownsMap Tryz.prog 9 rdFile m 1 (oneFile s f)) (hf:w.heap[f]?=some (filO (.slice none 0 0))) :
 Calls Tryz.prog 25 #[.pointer (some ⟨d,0,none⟩),.string s,.string t] w fun e w'=>e=.returned (.int .i64 0)∧AppendP d m f left s w w':=by
 have hdm:d≠m∧d≠f∧f≠m:=by
  obtain⟨es,clock,hb,_⟩:=hm
  refine⟨fun e=>?_,fun e=>?_,fun e=>?_⟩
  ·subst e;rw[hd] at hb;cases hb
  ·subst e;rw[hd] at hf;cases hf
  ·subst e;rw[hf] at hb;cases hb
 obtain⟨N,hN⟩:∃N,N=w.heap.size:=⟨_,rfl⟩
 obtain⟨w0,hw0⟩:∃w0,w0=w.alloc (.cells #[.string t] 9):=⟨_,rfl⟩
 obtain⟨w1,hw1⟩:∃w1,w1=w0.alloc (.cells #[.pointer (some ⟨f,0,none⟩)] 108):=⟨_,rfl⟩
 have hs0:w0.heap.size=N+1:=by rw[hw0,World.size_alloc,←hN]
 have h0b:w0.heap[N]?=some (.cells #[.string t] 9):=by rw[hw0,hN];exact heap_alloc_new w _
 have hA:w1.heap[N]?=some (.cells #[.string t] 9):=by rw[hw1];exact heapAlloc _ h0b
 have hB:w1.heap[N+1]?=some (.cells #[.pointer (some ⟨f,0,none⟩)] 108):=by rw[hw1,←hs0];exact heap_alloc_new w0 _
 have hb0:Below w.heap.size w w0:=by rw[hw0];exact(Below.refl _ w).alloc (Nat.le_refl _) _
 have hb1:Below w.heap.size w w1:=by rw[hw1,hw0];exact((Below.refl _ w).alloc (Nat.le_refl _) _).alloc (by simp) _
 have HD1:=hid (heapExt hb1 hd)
 have HM1:=hid (ownsMap_same hm (hb1.block m hm.lt))
 have HF1:=hid (heapExt hb1 hf)
 have HB1:=hid hb1
 have HAB:=hid (And.intro hA hB)
 have HDM:=hid (show(d≠m∧d≠f∧f≠m)∧d<N∧m<N∧f<N from⟨hdm,by rw[hN];exact ltOf hd,by rw[hN];exact hm.lt,by rw[hN];exact ltOf hf⟩)
 have HK:=hid (dCheck_call d m left w0 (heapExt hb0 hd))
 have hlk:=look1 m f s hs w0 (ownsMap_same hm (hb0.block m hm.lt))
 have c1:=cellOf (heapExt hb0 hd) 1
 have cB:=cellOf hB 0
 (try dsimp only at c1 cB)
 have htz:(t.size:Int)≤1000:=by omega
 have hwt:IntKind.i64.wrap (t.size:Int)=(t.size:Int):=IntWalk.i64_in _ (by omega)
 have hdt:decide (16777216<(t.size:Int))=false:=decide_eq_false (by omega)
 have hdu:decide (1048576<(t.size:Int))=false:=decide_eq_false (by omega)
 have HNN:=hid hN
 have HFR:=hid (fun (w':World) (h:Below w1.heap.size w1 w')=>free_call d m f left s w' (heapExt h HD1.out) (ownsMap_same HM1.out (h.block m HM1.out.lt)) (heapExt h HF1.out))
 have HC:=hid (fun (w':World) (h:Below w1.heap.size w1 w')=>(show w'.cell? ⟨N,0,none⟩=some (.string t)∧w'.cell? ⟨N+1,0,none⟩=some (.pointer (some ⟨f,0,none⟩))∧w'.cell? ⟨f,0,none⟩=some (.slice none 0 0) from
  ⟨cellOf (heapExt h HAB.out.1) 0,cellOf (heapExt h HAB.out.2) 0,cellOf (heapExt h HF1.out) 0⟩))
 clear hd hm hf hA hB h0b hb1 hb0 hs hdm
 go_enter Tryz.func25,Tryz.ntmps25
 go_upto_region 1 with (fail)
 rw[←hw0,←hN]
 have HW1:=hid hw1
 clear hw0 hN hw1
 go_upto_region 5 with (first
  | (go_at_call 56;refine HK.out.mono ?_;rintro e w2 ⟨rfl,hw2⟩;obtain rfl:=hw2.symm))
 rw[←HW1.out]
 clear hlk c1 hs0
 go_upto_region 7 with (fail)
 clear cB
 refine wp_region_held_drew (S:=(fun w'=>Below w1.heap.size w1 w')) (by kernel_rfl) ((Below.refl _ _).drew) (fun hS=>?_)
 refine tkQ 0 (v:=?_) ?_ hS ?_;rotate_left;· intro w' hw';have hcells:=HC.out w' hw';go_simp;(try with_reducible rfl)
 simp only[Act.put,pt1,pt2,pt3,pt4,pt5,pt6]
 refine tkQ 1 (v:=?_) ?_ hS ?_;rotate_left;· intro w' hw';have hcells:=HC.out w' hw';go_simp;(try with_reducible rfl)
 simp only[Act.put,pt1,pt2,pt3,pt4,pt5,pt6]
 refine tkQ 2 (v:=?_) ?_ hS ?_;rotate_left;· intro w' hw';have hcells:=HC.out w' hw';go_simp;(try with_reducible rfl)
 simp only[Act.put,pt1,pt2,pt3,pt4,pt5,pt6]
 refine tkQ 3 (v:=?_) ?_ hS ?_;rotate_left;· intro w' hw';have hcells:=HC.out w' hw';go_simp;(try with_reducible rfl)
 simp only[Act.put,pt1,pt2,pt3,pt4,pt5,pt6]
 refine tkQ 4 (v:=?_) ?_ hS ?_;rotate_left;· intro w' hw';have hcells:=HC.out w' hw';go_simp;(try with_reducible rfl)
 simp only[Act.put,pt1,pt2,pt3,pt4,pt5,pt6]
 refine tkQ 5 (v:=?_) ?_ hS ?_;rotate_left;· intro w' hw';have hcells:=HC.out w' hw';go_simp;(try with_reducible rfl)
 simp only[Act.put,pt1,pt2,pt3,pt4,pt5,pt6]
 refine tkQ 6 (v:=?_) ?_ hS ?_;rotate_left;· intro w' hw';have hcells:=HC.out w' hw';go_simp;(try with_reducible rfl)
 simp only[Act.put,pt1,pt2,pt3,pt4,pt5,pt6]
 refine tkQ 7 (v:=?_) ?_ hS ?_;rotate_left;· intro w' hw';have hcells:=HC.out w' hw';go_simp;(try with_reducible rfl)
 simp only[Act.put,pt1,pt2,pt3,pt4,pt5,pt6]
 refine tkQ 8 (v:=?_) ?_ hS ?_;rotate_left;· intro w' hw';have hcells:=HC.out w' hw';go_simp;(try with_reducible rfl)
 simp only[Act.put,pt1,pt2,pt3,pt4,pt5,pt6]
 refine tkQ 9 (v:=?_) ?_ hS ?_;rotate_left;· intro w' hw';have hcells:=HC.out w' hw';go_simp;(try with_reducible rfl)
 simp only[Act.put,pt1,pt2,pt3,pt4,pt5,pt6]
 refine wpAnyH_done (by kernel_rfl) ?_ _
 (try dsimp only)
 skip
 go_upto_region 9 with (fail)
 refine wp_region_held_drew (S:=(fun w'=>Below w1.heap.size w1 w')) (by kernel_rfl) (((Below.refl _ _).drew).drew) (fun hS=>?_)
 refine tkQ 0 (v:=?_) ?_ hS ?_;rotate_left;· intro w' hw';have hcells:=HC.out w' hw';go_simp;(try with_reducible rfl)
 simp only[Act.put,pt1,pt2,pt3,pt4,pt5,pt6]
 refine tkQ 1 (v:=?_) ?_ hS ?_;rotate_left;· intro w' hw';have hcells:=HC.out w' hw';go_simp;(try with_reducible rfl)
 simp only[Act.put,pt1,pt2,pt3,pt4,pt5,pt6]
 refine tkQ 2 (v:=?_) ?_ hS ?_;rotate_left;· intro w' hw';have hcells:=HC.out w' hw';go_simp;(try with_reducible rfl)
 simp only[Act.put,pt1,pt2,pt3,pt4,pt5,pt6]
 refine wpAnyH_ready (rs:=[3]) (by kernel_rfl) (by simp) ?_
 refine arQ fun K hK=>?_
 go_simp
 go_at_call 61
 refine(HFR.out _ hS).mono ?_
 rintro e w2 ⟨rfl,hb2⟩
 refine hK.out _ _ (hS.trans (hb2.mono hS.size)) (fun hS=>?_)
 clear hK K
 (try simp only[Act.put,pt1,pt2,pt3,pt4,pt5,pt6])
 refine tkQ 4 (v:=?_) ?_ hS ?_;rotate_left;· intro w' hw';have hcells:=HC.out w' hw';go_simp;(try with_reducible rfl)
 simp only[Act.put,pt1,pt2,pt3,pt4,pt5,pt6]
 refine tkQ 5 (v:=?_) ?_ hS ?_;rotate_left;· intro w' hw';have hcells:=HC.out w' hw';go_simp;(try with_reducible rfl)
 simp only[Act.put,pt1,pt2,pt3,pt4,pt5,pt6]
 refine wpAnyH_done (by kernel_rfl) ?_ _
 (try dsimp only)
 skip
 have HB2:=hid hS
 clear hS
 have HP:Hid (Calls Tryz.prog 58 #[.pointer (some ⟨d,0,none⟩),.func (.func 62) #[] #[.pointer (some ⟨N+1,0,none⟩),.pointer (some ⟨N,0,none⟩)],.func (.func 59) #[] #[]] w2 fun e w'=>e=.returned (.int .i64 0)∧AppendP d m f left s w w'):=hid (by
  have hlt:=HDM.out
  refine dPerform_call d m left hl hl1 62 59 _ #[] w2 (Stuffed f w2) _ (enters_of Tryz.func62 (by kernel_rfl) rfl) (enters_of Tryz.func59 (by kernel_rfl) rfl) ((append1_call f (N+1) N t ht w2 (heapExt HB2.out HF1.out) (heapExt HB2.out HAB.out.2) (heapExt HB2.out HAB.out.1)).mono fun e w' h=>⟨h.1,h.2.2.keep (heapExt HB2.out HD1.out) hlt.1.2.1,h.2⟩) ?_
  rintro w4 hd4 ⟨wq,⟨_,hT⟩,hw4⟩
  refine(dNothing_call w4).mono ?_
  rintro e w5 ⟨rfl,hw5⟩
  rw[hw5]
  have hoth:∀k,k≠d→w4.heap[k]?=wq.heap[k]?:=fun k hk=>by rw[hw4];exact Below.heap_setCell _ _ _ _ hk
  have hb2:Below w.heap.size w w2:=HB1.out.trans (HB2.out.mono HB1.out.size)
  exact⟨rfl,hd4,ownsMap_same HM1.out ((hoth m (fun e=>hlt.1.1 e.symm)).trans ((hT.block m (by have:=hb2.size;have:=HNN.out;omega) (fun e=>hlt.1.2.2 e.symm)).trans (HB2.out.block m HM1.out.lt))),(Turn.of_below hb2).trans ((hT.mono fun k hk=>.inr hk).trans (by rw[hw4];exact Turn.setCell ⟨d,4,none⟩ _ (.inl rfl)))⟩)
 go_wp2_with (go_at_call 58;refine HP.out.mono ?_;rintro e w6 ⟨rfl,hp6⟩)
 go_ret
 exact⟨rfl,hp6⟩
end
end Go.Proofs.YtmgpghoamapfgaaGreatDoor
