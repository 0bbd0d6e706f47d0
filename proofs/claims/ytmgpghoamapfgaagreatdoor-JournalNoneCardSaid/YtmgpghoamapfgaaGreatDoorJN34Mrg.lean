/-
  slices.AppendSeq and slices.Collect over an iterator of texts, onto a slice of the call's own; maps.Keys of a map of slices of texts. Conditions: the lengths are within the reach.
-/
import Derived.Test.YtmgpghoamapfgaaGreatDoorJN33Mrg
import Derived.Shelf.SlIter.Stops
import Derived.Maps.OwnIn
import Derived.Lib.SlicesCompact
import Derived.Sort.OwnSorted
namespace Go.Proofs.YtmgpghoamapfgaaGreatDoor
set_option linter.unusedVariables false
set_option maxRecDepth 100000
set_option maxHeartbeats 16000000
set_option linter.unusedSimpArgs false
section
open Go Go.RowKit Go.Shelf Go.Sort Go.Maps
attribute [local go_sem] Oper.semAt_some
theorem row_succN {w:World} {base:Nat} {e:TypeId} {size n:Nat} {v:Value} {xs:List Value} (h:w.ownsRow base e size v (n+1) xs):∃g cap,v=.slice (some ⟨g,0,none⟩) (n+1) cap∧g<w.heap.size∧base≤g:=by
 rcases h.2 with ⟨_,h0⟩ | ⟨g,cap,cur,rfl,hb,hh,_⟩
 ·omega
 ·exact⟨g,cap,rfl,(Array.getElem?_eq_some_iff.1 hh).1,hb⟩
theorem own_atN {W W':World} {base:Nat} {e:TypeId} {size n:Nat} {v:Value} {xs:List Value} (h:W.ownsRow base e size v n xs) (hk:∀k o,v.ownBlock=some k→W.heap[k]?=some o→W'.heap[k]?=some o):W'.ownsRow base e size v n xs:=by
 refine⟨h.1,?_⟩
 rcases h.2 with h0 | ⟨g,cap,cur,rfl,hb,hh,r⟩
 ·exact .inl h0
 ·exact .inr ⟨g,cap,cur,rfl,hb,hk g _ rfl hh,r⟩
theorem own_cellsN {W:World} {base:Nat} {e:TypeId} {size n:Nat} {v:Value} {xs:List Value} (h:W.ownsRow base e size v n xs) (k:Nat) (hk:v.ownBlock=some k):base≤k∧∃c,W.heap[k]?=some (.cells c e (0,0)):=by
 rcases h.2 with ⟨rfl,_⟩ | ⟨g,cap,cur,rfl,hb,hh,r⟩
 ·cases hk
 ·cases hk;exact⟨hb,_,hh⟩
theorem tyNe:9≠75:=by decide
theorem appSeq_call (n:Nat) (hn:3≤n) (wB w:World) (hB:Below wB.heap.size wB w) (v:Value) (ss0:List (List UInt8)) (hown:w.ownsRow wB.heap.size 9 1 v ss0.length (ss0.map encStr)) (g:Nat) (lb:Array Value)
 (eg:∀args w,(callFunc g args).run Tryz.prog w=.ok (.enter g args) w) (S Sp:List (List UInt8)→Prop) (N:Nat) (hN:ss0.length+N≤1000000) (hseq:SeqStopsK Fence.wide (n-1) Tryz.prog g lb (fun x:List UInt8 => #[encStr x]) KeepsWalks S Sp N w) :
 CallsIn Fence.wide n Tryz.prog 312 #[v,.func (.func g) #[] lb] w fun e w'=>∃(v':Value) (ss:List (List UInt8)),e=.returned v'∧S ss∧w'.ownsRow wB.heap.size 9 1 v' (ss0++ss).length ((ss0++ss).map encStr)∧Below wB.heap.size wB w':=by
 obtain⟨pa,pc,rfl⟩:∃pa pc,v=.slice pa ss0.length pc:=by
  rcases hown.2 with ⟨h,h0⟩ | ⟨gg,cap,cur,h,_⟩
  ·exact⟨none,0,by rw[h0];exact h⟩
  ·exact⟨_,_,h⟩
 obtain⟨q0,hq0⟩:∃q0,q0=ss0.length:=⟨_,rfl⟩
 rw[←hq0] at hown ⊢
 have HQ0:=hid hq0
 obtain⟨ti,hi,hz0,hz1,hz2⟩:=info_parts infoStr
 have HB:=hid hB
 have HO:=hid hown
 have HSQ:=hid hseq
 have HN3:=hid hn
 have HNN:=hid hN
 clear hown hseq hn hB hN hq0
 refine callsIn_of_wp_marks Tryz.func312 rfl trivial ?_ rfl
 simp only[Tryz.ntmps312,List.size_toArray,List.length_cons,List.length_nil,Nat.reduceAdd,Nat.reduceSub,Array.replicate_succ,Array.replicate_zero,List.push_toArray,List.append_toArray,List.nil_append,List.cons_append]
 gi_wp2
 obtain⟨Bs,hBs⟩:∃Bs,Bs=w.heap.size:=⟨_,rfl⟩
 obtain⟨wl,hwl⟩:∃wl,wl=w.alloc (.cells #[.slice pa q0 pc] 75):=⟨_,rfl⟩
 rw[←hwl,←hBs]
 have l0:wl.heap[Bs]?=some (.cells #[.slice pa q0 pc] 75 (0,0)):=by rw[hwl,hBs];exact heap_alloc_new w _
 have hbw:Below w.heap.size w wl:=by rw[hwl];exact(Below.refl _ w).alloc (Nat.le_refl _) _
 have hbB:Below wB.heap.size wB wl:=HB.out.trans (hbw.mono HB.out.size)
 have hwB:wB.heap.size≤Bs:=by rw[hBs];exact HB.out.size
 have hsl:wl.heap.size=Bs+1:=by rw[hwl,hBs];simp
 have HWL:=hid hwl
 have HBS:=hid hBs
 clear hwl hBs
 refine wpIn_rangeFunc_ownH rfl (by have:=HN3.out;omega) (gf:=g) (lb:=lb) (by rfl) trivial eg HSQ.out (fun h k=>h.trans k) (fun W l o o' _ ho _ hw=>KeepsWalks.putObj o' ho hw) hbw (fun _=>rfl)
  (fun ss W=>∃v',W.heap[Bs]?=some (.cells #[v'] 75 (0,0))∧W.ownsRow wB.heap.size 9 1 v' (ss0++ss).length ((ss0++ss).map encStr)∧Below wB.heap.size wB W∧Bs+1≤W.heap.size)
  (fun _ _ _=>False)
  (fun s A B row hs hg hr=>?hI)
  (fun cd s A B row hs hg hr=>hs)
  ⟨.slice pa q0 pc,l0,by rw[List.append_nil,←HQ0.out];exact ownExt HO.out hbw,hbB,by omega⟩
  (fun x a' W=>a'={ tmps:=#[.slice pa q0 pc,.func (.func g) #[] lb,.pointer (some ⟨Bs,0,none⟩),undef,.slice none 0 0,encStr x,.func (.func g) #[] lb,encStr x,undef,undef,undef,undef,undef],defers:=[] })
  (fun x a' s A B row hs hg hr=>hs) ?assign ?body ?done ?stop
 case hI =>
  obtain⟨v',h1,h2,h3,h4⟩:=hs
  refine⟨v',(hg.block Bs (ltOf h1) (fun e=>by have:=(hr _ e.symm).1;omega)).trans h1,own_atN h2 fun k o hk ho=>(hg.block k (ltOf ho) (fun e=>?_)).trans ho,h3.grown hg (by omega) (fun k e=>by have:=(hr _ e).1;omega),Nat.le_trans h4 hg.size⟩
  obtain⟨_,o',ho',hc⟩:=hr k e.symm
  obtain⟨_,c,hcl⟩:=own_cellsN h2 k hk
  rw[hcl] at ho';cases ho';cases hc
 case assign =>
  intro l pre x W K hi2 hK
  gi_wp2
  exact hK _ _ (KeepsFrom.refl _ _) (KeepsWalks.refl _) hi2 (by first | rfl | kernel_rfl)
 case body =>
  rintro l pre x a' W hl ⟨_,hloop⟩ ⟨v',h1,h2,h3,h4⟩ rfl hlt
  clear hloop hl
  have u0:W.cell? ⟨Bs,0,none⟩=some v':=cellOf h1 0
  have t0:W.frozen? ⟨Bs,0,none⟩=false:=freeOf h1 0
  have hlen:(ss0++pre).length+1≤1000000:=by have:=HNN.out;rw[List.length_append];omega
  have hcap1:(ss0++pre).length+1≤maxLen:=by unfold maxLen;omega
  have hcap2:((ss0++pre).length+1) * 16≤140737488355328:=by omega
  obtain⟨q,hq⟩:∃q,q=(ss0++pre).length:=⟨_,rfl⟩
  rw[←hq] at hcap1 hcap2 h2
  have HQ:=hid hq
  have H1:=hid h1
  have H2:=hid h2
  have H3:=hid h3
  have hne:some Bs≠v'.ownBlock:=fun e=>by
   obtain⟨_,c,hc⟩:=own_cellsN h2 Bs e.symm
   rw[h1] at hc
   exact tyNe (by cases hc)
  have HNE:=hid hne
  have HB5:=hid (show ∀w5,(W.alloc (.cells #[encStr x] 9)).grownBy w5 v'.ownBlock→w5.heap[Bs]?=some (.cells #[v'] 75 (0,0)) from fun w5 h=>(h.block Bs (by have:=ltOf h1;simp;omega) hne).trans (heapAlloc _ h1))
  clear h1 h2 h3 hne hq hlen
  gi_wp2_with (gi_at_builtin;go_loud (refine wpListIn_append_own_at _ (by rfl) _ _ 75 (by rfl) wB.heap.size 9 ti _ 1 16 Tryz.underlying75 hi hz0 hz1 hz2 rfl (by omega) v' q _ (by rfl) (H2.out.alloc _) ⟨W.heap.size,0,none⟩ 1 1 [encStr x] (by rfl) (by rfl) (cell_one_new _ _ _) (by simp[Value.oneCell',encStr]) hcap1 hcap2 (by simp;omega) ?_;intro v2 w5 hown' hgrow hnil hloc;obtain⟨gb,cap,rfl,hgl⟩:=row_succN hown';have HO2:=hid hown';have HG:=hid hgrow;have u4:=cellOf (HB5.out w5 hgrow) 0;have t4:=freeOf (HB5.out w5 hgrow) 0;clear hown' hgrow hnil hloc u0 t0 hgl))
  have hw:∀(k:Nat) (o:Obj),W.heap[k]?=some o→o.isCells=false→(w5.setCell ⟨Bs,0,none⟩ (.slice (some ⟨gb,0,none⟩) (q+1) cap)).heap[k]?=some o:=fun k o h ho=>by
   have hk:=ltOf h
   refine(Below.heap_setCell _ _ _ _ (fun e=>?_)).trans ((HG.out.block k (by simp;omega) (fun e=>?_)).trans (heapAlloc _ h))
   ·dsimp only at e
    subst e
    rw[H1.out] at h;cases h;cases ho
   ·obtain⟨_,c,hc⟩:=own_cellsN H2.out k e.symm
    rw[hc] at h;cases h;cases ho
  have hs5:=HG.out.size
  simp only[World.size_alloc] at hs5
  have hsz:W.heap.size≤(w5.setCell ⟨Bs,0,none⟩ (.slice (some ⟨gb,0,none⟩) (q+1) cap)).heap.size:=by simp[World.setCell];omega
  refine⟨⟨hsz,fun k o _ h ho=>hw k o h ho⟩,⟨hsz,fun k o h ho=>hw k o h (Obj.not_cells_of_walk ho)⟩,.slice (some ⟨gb,0,none⟩) (q+1) cap,?_,?_,?_,Nat.le_trans h4 hsz⟩
  ·exact heapSet (o:=0) _ (HB5.out w5 HG.out)
  ·have e1:(ss0++(pre++[x])).length=q+1:=by rw[HQ.out];simp;omega
   rw[e1,←List.append_assoc,List.map_append (l₁:=ss0++pre),List.map_singleton]
   refine own_atN HO2.out fun k o hk ho=>(Below.heap_setCell _ _ _ _ (fun e=>?_)).trans ho
   dsimp only at e
   subst e
   obtain⟨_,c,hc⟩:=own_cellsN HO2.out _ hk
   rw[HB5.out w5 HG.out] at hc
   exact tyNe (by cases hc)
  ·exact((H3.out.alloc H3.out.size (.cells #[encStr x] 9)).grown HG.out (by have:=H3.out.size;simp;omega) (fun k e=>(own_cellsN H2.out k e).1)).setCell (p:=⟨Bs,0,none⟩) hwB _
 case done =>
  rintro D ys W hD hS ⟨v',h1,h2,h3,h4⟩ hK
  have u0:W.cell? ⟨Bs,0,none⟩=some v':=cellOf h1 0
  gi_wp2
  refine⟨by simp,.inl ⟨_,_,rfl,run_takeDeferred hK,?_⟩⟩
  refine⟨_,results_tmp rfl _ _ _,v',ys,rfl,hS,own_atN h2 fun k o hk ho=>(World.putObj_heap_other (fun e=>?_)).trans ho,h3.grown (grownBy_putObj' W D _) (by omega) (fun k e=>by cases e;omega)⟩
  subst e
  obtain⟨_,c,hcl⟩:=own_cellsN h2 _ hk
  rw[hcl] at hK;cases hK
 case stop =>
  rintro D cd pre W hD hpf hF hK
  cases hF
theorem collect_call (n:Nat) (hn:4≤n) (w:World) (g:Nat) (lb:Array Value) (eg:∀args w,(callFunc g args).run Tryz.prog w=.ok (.enter g args) w) (S Sp:List (List UInt8)→Prop) (N:Nat) (hN:N≤1000000)
 (hseq:SeqStopsK Fence.wide (n-1-1) Tryz.prog g lb (fun x:List UInt8 => #[encStr x]) KeepsWalks S Sp N w) :
 CallsIn Fence.wide n Tryz.prog 247 #[.func (.func g) #[] lb] w fun e w'=>∃(v':Value) (ss:List (List UInt8)),e=.returned v'∧S ss∧w'.ownsRow w.heap.size 9 1 v' ss.length (ss.map encStr)∧Below w.heap.size w w':=by
 have H:=hid (appSeq_call (n-1) (by omega) w w (Below.refl _ _) (.slice none 0 0) [] (World.ownsRow_nil _ _ _ _) g lb eg S Sp N (by simpa using hN) hseq)
 clear hseq
 refine callsIn_of_wp Tryz.func247 rfl trivial ?_ rfl
 simp only[Tryz.ntmps247,List.size_toArray,List.length_cons,List.length_nil,Nat.reduceAdd,Nat.reduceSub,Array.replicate_succ,Array.replicate_zero,List.push_toArray,List.append_toArray,List.nil_append,List.cons_append]
 gi_wp2_with ((try refine⟨trivial,?_⟩);(try refine⟨fun h=>(by cases h),?_⟩);gi_at_call 312;refine H.out.mono ?_;rintro e w' ⟨v',ss,rfl,hS,ho,hb⟩)
 go_ret
 exact⟨v',ss,rfl,hS,by simpa using ho,hb⟩
end
section
open Go Go.RowKit Go.Shelf Go.Sort
abbrev TxB:=List UInt8
abbrev srtB (zs:List TxB):List TxB:=zs.mergeSort fun x y=>decide (x≤y)
theorem srtS_call (B n:Nat) (v:Value) (zs:List TxB) (w:World) (h:w.ownsRow B 9 1 v n (zs.map encStr)) (hn:n≤4000000) :
 Calls Tryz.prog 248 #[v] w fun e w'=>e=.returned (.tuple #[])∧w'.ownsRow B 9 1 v n ((srtB zs).map encStr)∧w.grownBy w' v.ownBlock:=by
 have hl:zs.length=n:=by have:=h.1;simpa using this
 rcases h.2 with ⟨rfl,h0⟩ | ⟨g,cap,cur,rfl,hb,hc,h1,h2,h3,h4⟩
 ·subst h0
  obtain rfl:zs=[]:=List.eq_nil_of_length_eq_zero hl
  exact(Tryz.slices_Sort_string_none none 0 w).mono fun e w' ⟨he,hw⟩=>⟨he,by subst hw;simpa [srtB] using h,by subst hw;exact⟨rfl,rfl,rfl,Nat.le_refl _,fun k _ _=>rfl⟩⟩
 ·have hH:=holds_of_block (ss:=zs) hc (by rw[hl];simpa using h4)
  have hg:g<w.heap.size:=(Array.getElem?_eq_some_iff.1 hc).1
  subst hl
  refine(Tryz.slices_Sort_string g 0 cap zs w hH hg (by omega)).mono fun e w' ⟨he,k,os,hw⟩=>⟨he,?_,?_⟩
  ·subst hw
   exact ownsRow_sorted (ss:=zs) (List.length_mergeSort _) hb hc h1 h2 h3
  ·subst hw
   exact grownBy_sorted _
end
end Go.Proofs.YtmgpghoamapfgaaGreatDoor
