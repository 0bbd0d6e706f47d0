/- A part. -/
import Derived.Test.YteladbdfiannjaaGreatDoorSX36Mrg
import Derived.Test.YteladbdfiannjaaGreatDoorSX21Mrg
import Derived.Deep.Cut
import Derived.Maps.Own
import Derived.Maps.Keyed
import Derived.Maps.OwnOps
import Derived.Maps.OwnSet
import Derived.Maps.RangeWalk
import Derived.Maps.StringElems
import Derived.Lib.AppendStr
import Derived.Maps.Ext
import Derived.Sort.KeysCollected
import Derived.Shelf.SlIter.Stops
import Derived.Lib.SlicesCompact
import Derived.Sort.OwnSorted
import Derived.Deep.Onto
namespace Go.Proofs.YteladbdfiannjaaGreatDoor
set_option linter.unusedVariables false
set_option maxRecDepth 100000
set_option maxHeartbeats 64000000
set_option linter.unusedSimpArgs false
section
open Go Go.RowKit Go.Shelf
open Go.Maps (Keyed)
abbrev rdFile (v:Value):Option (DataW Value × List MemPlace):=some (.held v,[])
end
section
open Go Go.RowKit Go.Shelf
end
section
open Go Go.RowKit Go.Shelf
abbrev noFiles:DataW Value:=.map []
end
section
open Go Go.RowKit Go.Shelf
theorem lA {w w':World} {b n:Nat} {D:DataW Value} (h:w.ownsMap Tryz.prog 9 rdFile b n D) (hb:w'.heap[b]?=w.heap[b]?):w'.ownsMap Tryz.prog 9 rdFile b n D:=by
 obtain⟨es,clock,h1,F,hs,hD⟩:=h
 exact⟨es,clock,hb.trans h1,F,hs,hD⟩
end
section
open Go Go.RowKit Go.Shelf Go.ChangeMaps Go.MapKept
open Go.WideElems (Fit rd rg pl rd_val rd_key rg_of)
open Go.Maps (Keyed)
end
section
open Go Go.RowKit Go.Shelf Go.Sort Go.Maps
attribute [local go_sem] Oper.semAt_some
theorem zQ {w:World} {base:Nat} {e:TypeId} {size n:Nat} {v:Value} {xs:List Value} (h:w.ownsRow base e size v (n+1) xs):∃g cap,v=.slice (some ⟨g,0,none⟩) (n+1) cap∧g<w.heap.size∧base≤g:=by
 rcases h.2 with ⟨_,h0⟩ | ⟨g,cap,cur,rfl,hb,hh,_⟩
 ·omega
 ·exact⟨g,cap,rfl,(Array.getElem?_eq_some_iff.1 hh).1,hb⟩
theorem rO {W W':World} {base:Nat} {e:TypeId} {size n:Nat} {v:Value} {xs:List Value} (h:W.ownsRow base e size v n xs) (hk:∀k o,v.ownBlock=some k→W.heap[k]?=some o→W'.heap[k]?=some o):W'.ownsRow base e size v n xs:=by
 refine⟨h.1,?_⟩
 rcases h.2 with h0 | ⟨g,cap,cur,rfl,hb,hh,r⟩
 ·exact .inl h0
 ·exact .inr ⟨g,cap,cur,rfl,hb,hk g _ rfl hh,r⟩
theorem eP {W:World} {base:Nat} {e:TypeId} {size n:Nat} {v:Value} {xs:List Value} (h:W.ownsRow base e size v n xs) (k:Nat) (hk:v.ownBlock=some k):base≤k∧∃c,W.heap[k]?=some (.cells c e (0,0)):=by
 rcases h.2 with ⟨rfl,_⟩ | ⟨g,cap,cur,rfl,hb,hh,r⟩
 ·cases hk
 ·cases hk;exact⟨hb,_,hh⟩
theorem tyNe:9≠112:=by decide
theorem vP (n:Nat) (hn:3≤n) (wB w:World) (hB:Below wB.heap.size wB w) (v:Value) (ss0:List (List UInt8)) (hown:w.ownsRow wB.heap.size 9 1 v ss0.length (ss0.map encStr)) (g:Nat) (lb:Array Value)
 (eg:∀args w,(callFunc g args).run Tryz.prog w=.ok (.enter g args) w) (S Sp:List (List UInt8)→Prop) (N:Nat) (hN:ss0.length+N≤1000000) (hseq:SeqStopsK Fence.wide (n-1) Tryz.prog g lb (fun x:List UInt8 => #[encStr x]) KeepsWalks S Sp N w) :
 CallsIn Fence.wide n Tryz.prog 239 #[v,.func (.func g) #[] lb] w fun e w'=>∃(v':Value) (ss:List (List UInt8)),e=.returned v'∧S ss∧w'.ownsRow wB.heap.size 9 1 v' (ss0++ss).length ((ss0++ss).map encStr)∧Below wB.heap.size wB w':=by
 obtain⟨pa,pc,rfl⟩:∃pa pc,v=.slice pa ss0.length pc:=by
  rcases hown.2 with ⟨h,h0⟩ | ⟨gg,cap,cur,h,_⟩
  ·exact⟨none,0,by rw[h0];exact h⟩
  ·exact⟨_,_,h⟩
 obtain⟨q0,hq0⟩:∃q0,q0=ss0.length:=⟨_,rfl⟩
 rw[←hq0] at hown ⊢
 have HQ0:=hid hq0
 obtain⟨ti,hi,hz0,hz1,hz2⟩:=info_parts lG
 have HB:=hid hB
 have HO:=hid hown
 have HSQ:=hid hseq
 have HN3:=hid hn
 have HNN:=hid hN
 clear hown hseq hn hB hN hq0
 refine callsIn_of_wp_marks Tryz.func239 rfl trivial ?_ rfl
 simp only[Tryz.ntmps239,List.size_toArray,List.length_cons,List.length_nil,Nat.reduceAdd,Nat.reduceSub,Array.replicate_succ,Array.replicate_zero,List.push_toArray,List.append_toArray,List.nil_append,List.cons_append]
 gi_wp2
 obtain⟨Bs,hBs⟩:∃Bs,Bs=w.heap.size:=⟨_,rfl⟩
 obtain⟨wl,hwl⟩:∃wl,wl=w.alloc (.cells #[.slice pa q0 pc] 112):=⟨_,rfl⟩
 rw[←hwl,←hBs]
 have l0:wl.heap[Bs]?=some (.cells #[.slice pa q0 pc] 112 (0,0)):=by rw[hwl,hBs];exact heap_alloc_new w _
 have hbw:Below w.heap.size w wl:=by rw[hwl];exact(bR w).alloc lr _
 have hbB:Below wB.heap.size wB wl:=HB.out.trans (hbw.mono HB.out.size)
 have hwB:wB.heap.size≤Bs:=by rw[hBs];exact HB.out.size
 have hsl:wl.heap.size=Bs+1:=by rw[hwl,hBs];simp
 have HWL:=hid hwl
 have HBS:=hid hBs
 clear hwl hBs
 refine wpIn_rangeFunc_ownH rfl (by have:=HN3.out;omega) (gf:=g) (lb:=lb) (by rfl) trivial eg HSQ.out (fun h k=>h.trans k) (fun W l o o' _ ho _ hw=>KeepsWalks.putObj o' ho hw) hbw (fun _=>rfl)
  (fun ss W=>∃v',W.heap[Bs]?=some (.cells #[v'] 112 (0,0))∧W.ownsRow wB.heap.size 9 1 v' (ss0++ss).length ((ss0++ss).map encStr)∧Below wB.heap.size wB W∧Bs+1≤W.heap.size)
  (fun _ _ _=>False)
  (fun s A B row hs hg hr=>?hI)
  (fun cd s A B row hs hg hr=>hs)
  ⟨.slice pa q0 pc,l0,by rw[List.append_nil,←HQ0.out];exact cW HO.out hbw,hbB,by omega⟩
  (fun x a' W=>a'={ tmps:=#[.slice pa q0 pc,.func (.func g) #[] lb,.pointer (some ⟨Bs,0,none⟩),undef,.slice none 0 0,encStr x,.func (.func g) #[] lb,encStr x,undef,undef,undef,undef,undef],defers:=[] })
  (fun x a' s A B row hs hg hr=>hs) ?assign ?body ?done ?stop
 case hI =>
  obtain⟨v',h1,h2,h3,h4⟩:=hs
  refine⟨v',(hg.block Bs (bT h1) (fun e=>by have:=(hr _ e.symm).1;omega)).trans h1,rO h2 fun k o hk ho=>(hg.block k (bT ho) (fun e=>?_)).trans ho,h3.grown hg (by omega) (fun k e=>by have:=(hr _ e).1;omega),Nat.le_trans h4 hg.size⟩
  obtain⟨_,o',ho',hc⟩:=hr k e.symm
  obtain⟨_,c,hcl⟩:=eP h2 k hk
  rw[hcl] at ho';cases ho';cases hc
 case assign =>
  intro l pre x W K hi2 hK
  gi_wp2
  exact hK _ _ (KeepsFrom.refl _ _) (KeepsWalks.refl _) hi2 (by first | rfl | kernel_rfl)
 case body =>
  rintro l pre x a' W hl ⟨_,hloop⟩ ⟨v',h1,h2,h3,h4⟩ rfl hlt
  clear hloop hl
  have u0:W.cell? ⟨Bs,0,none⟩=some v':=aA h1 0
  have t0:W.frozen? ⟨Bs,0,none⟩=false:=aE h1 0
  have hlen:(ss0++pre).length+1≤1000000:=by have:=HNN.out;rw[List.length_append];omega
  have hcap1:(ss0++pre).length+1≤maxLen:=by unfold maxLen;omega
  have hcap2:((ss0++pre).length+1) * 16≤140737488355328:=by omega
  obtain⟨q,hq⟩:∃q,q=(ss0++pre).length:=⟨_,rfl⟩
  rw[←hq] at hcap1 hcap2 h2
  have HQ:=hid hq
  have H1:=hid h1
  have H2:=hid h2
  have H3:=hid h3
  have hne:some Bs≠v'.ownBlock:=fun e=>by
   obtain⟨_,c,hc⟩:=eP h2 Bs e.symm
   rw[h1] at hc
   exact tyNe (by cases hc)
  have HNE:=hid hne
  have HB5:=hid (show ∀w5,(W.alloc (.cells #[encStr x] 9)).grownBy w5 v'.ownBlock→w5.heap[Bs]?=some (.cells #[v'] 112 (0,0)) from fun w5 h=>(h.block Bs (by have:=bT h1;simp;omega) hne).trans (aC _ h1))
  clear h1 h2 h3 hne hq hlen
  gi_wp2_with (gi_at_builtin;go_loud (refine wpListIn_append_own_at _ (by rfl) _ _ 112 (by rfl) wB.heap.size 9 ti _ 1 16 Tryz.underlying112 hi hz0 hz1 hz2 rfl (by omega) v' q _ (by rfl) (H2.out.alloc _) ⟨W.heap.size,0,none⟩ 1 1 [encStr x] (by rfl) (by rfl) (cell_one_new _ _ _) (by simp[Value.oneCell',encStr]) hcap1 hcap2 (by simp;omega) ?_;intro v2 w5 hown' hgrow hnil hloc;obtain⟨gb,cap,rfl,hgl⟩:=zQ hown';have HO2:=hid hown';have HG:=hid hgrow;have u4:=aA (HB5.out w5 hgrow) 0;have t4:=aE (HB5.out w5 hgrow) 0;clear hown' hgrow hnil hloc u0 t0 hgl))
  have hw:∀(k:Nat) (o:Obj),W.heap[k]?=some o→o.isCells=false→(w5.setCell ⟨Bs,0,none⟩ (.slice (some ⟨gb,0,none⟩) (q+1) cap)).heap[k]?=some o:=fun k o h ho=>by
   have hk:=bT h
   refine(Below.heap_setCell _ _ _ _ (fun e=>?_)).trans ((HG.out.block k (by simp;omega) (fun e=>?_)).trans (aC _ h))
   ·dsimp only at e
    subst e
    rw[H1.out] at h;cases h;cases ho
   ·obtain⟨_,c,hc⟩:=eP H2.out k e.symm
    rw[hc] at h;cases h;cases ho
  have hs5:=HG.out.size
  simp only[World.size_alloc] at hs5
  have hsz:W.heap.size≤(w5.setCell ⟨Bs,0,none⟩ (.slice (some ⟨gb,0,none⟩) (q+1) cap)).heap.size:=by simp[World.setCell];omega
  refine⟨⟨hsz,fun k o _ h ho=>hw k o h ho⟩,⟨hsz,fun k o h ho=>hw k o h (Obj.not_cells_of_walk ho)⟩,.slice (some ⟨gb,0,none⟩) (q+1) cap,?_,?_,?_,Nat.le_trans h4 hsz⟩
  ·exact aD (o:=0) _ (HB5.out w5 HG.out)
  ·have e1:(ss0++(pre++[x])).length=q+1:=by rw[HQ.out];simp;omega
   rw[e1,←List.append_assoc,List.map_append (l₁:=ss0++pre),List.map_singleton]
   refine rO HO2.out fun k o hk ho=>(Below.heap_setCell _ _ _ _ (fun e=>?_)).trans ho
   dsimp only at e
   subst e
   obtain⟨_,c,hc⟩:=eP HO2.out _ hk
   rw[HB5.out w5 HG.out] at hc
   exact tyNe (by cases hc)
  ·exact((H3.out.alloc H3.out.size (.cells #[encStr x] 9)).grown HG.out (by have:=H3.out.size;simp;omega) (fun k e=>(eP H2.out k e).1)).setCell (p:=⟨Bs,0,none⟩) hwB _
 case done =>
  rintro D ys W hD hS ⟨v',h1,h2,h3,h4⟩ hK
  have u0:W.cell? ⟨Bs,0,none⟩=some v':=aA h1 0
  gi_wp2
  refine⟨by simp,.inl ⟨_,_,rfl,run_takeDeferred hK,?_⟩⟩
  refine⟨_,results_tmp rfl _ _ _,v',ys,rfl,hS,rO h2 fun k o hk ho=>(World.putObj_heap_other (fun e=>?_)).trans ho,h3.grown (grownBy_putObj' W D _) (by omega) (fun k e=>by cases e;omega)⟩
  subst e
  obtain⟨_,c,hcl⟩:=eP h2 _ hk
  rw[hcl] at hK;cases hK
 case stop =>
  rintro D cd pre W hD hpf hF hK
  cases hF
theorem sO (n:Nat) (hn:4≤n) (w:World) (g:Nat) (lb:Array Value) (eg:∀args w,(callFunc g args).run Tryz.prog w=.ok (.enter g args) w) (S Sp:List (List UInt8)→Prop) (N:Nat) (hN:N≤1000000)
 (hseq:SeqStopsK Fence.wide (n-1-1) Tryz.prog g lb (fun x:List UInt8 => #[encStr x]) KeepsWalks S Sp N w) :
 CallsIn Fence.wide n Tryz.prog 189 #[.func (.func g) #[] lb] w fun e w'=>∃(v':Value) (ss:List (List UInt8)),e=.returned v'∧S ss∧w'.ownsRow w.heap.size 9 1 v' ss.length (ss.map encStr)∧Below w.heap.size w w':=by
 have H:=hid (vP (n-1) (by omega) w w (Below.refl _ _) (.slice none 0 0) [] (World.ownsRow_nil _ _ _ _) g lb eg S Sp N (by simpa using hN) hseq)
 clear hseq
 refine callsIn_of_wp Tryz.func189 rfl trivial ?_ rfl
 simp only[Tryz.ntmps189,List.size_toArray,List.length_cons,List.length_nil,Nat.reduceAdd,Nat.reduceSub,Array.replicate_succ,Array.replicate_zero,List.push_toArray,List.append_toArray,List.nil_append,List.cons_append]
 gi_wp2_with ((try refine⟨trivial,?_⟩);(try refine⟨fun h=>(by cases h),?_⟩);gi_at_call 239;refine H.out.mono ?_;rintro e w' ⟨v',ss,rfl,hS,ho,hb⟩)
 go_ret
 exact⟨v',ss,rfl,hS,by simpa using ho,hb⟩
end
section
open Go Go.RowKit Go.Shelf Go.Sort
abbrev TxB:=List UInt8
abbrev srtB (zs:List TxB):List TxB:=zs.mergeSort fun x y=>decide (x≤y)
theorem zM (B n:Nat) (v:Value) (zs:List TxB) (w:World) (h:w.ownsRow B 9 1 v n (zs.map encStr)) (hn:n≤4000000) :
 Calls Tryz.prog 190 #[v] w fun e w'=>e=.returned (.tuple #[])∧w'.ownsRow B 9 1 v n ((srtB zs).map encStr)∧w.grownBy w' v.ownBlock:=by
 have hl:zs.length=n:=by have:=h.1;simpa using this
 rcases h.2 with ⟨rfl,h0⟩ | ⟨g,cap,cur,rfl,hb,hc,h1,h2,h3,h4⟩
 ·subst h0
  obtain rfl:zs=[]:=List.eq_nil_of_length_eq_zero hl
  exact(Tryz.slices_Sort_string_none none 0 w).mono fun e w' ⟨he,hw⟩=>⟨he,by subst hw;simpa [srtB] using h,by subst hw;exact⟨rfl,rfl,rfl,Nat.le_refl _,fun k _ _=>rfl⟩⟩
 ·have hH:=holds_of_block (ss:=zs) hc (by rw[hl];simpa using h4)
  have hg:g<w.heap.size:=(Array.getElem?_eq_some_iff.1 hc).1
  subst hl
  refine(Tryz.slices_Sort_string g 0 cap zs w hH hg (by omega)).mono fun e w' ⟨he,k,os,hw⟩=>⟨he,?_,?_⟩
  ·subst hw
   exact ownsRow_sorted (ss:=zs) (List.length_mergeSort _) hb hc h1 h2 h3
  ·subst hw
   exact grownBy_sorted _
end
section
open Go Go.RowKit Go.Shelf Go.Lib
theorem xT (b:Nat) (w:World):Calls Tryz.prog 132 #[.map (some b)] w fun e w' =>
 e=.returned (.func (.func 191) #[] #[.pointer (some ⟨w.heap.size,0,none⟩)])∧w'=w.alloc (.cells #[.map (some b)] 123) :=
 callsIn_wide.1 (AnyZ.keys_in Tryz.keysF Fence.wide 6 trivial rfl (some b) w)
theorem uS (n:Nat) (hn:1≤n) (Bm b nn:Nat) (D:DataW Value) {R:Value→Option (DataW Value × List MemPlace)} (w:World) (hBm:Bm<w.heap.size) (hm:w.cell? ⟨Bm,0,none⟩=some (.map (some b))) (hown:w.ownsMap Tryz.prog 9 R b nn D) :
 SeqStopsK Fence.wide n Tryz.prog 191 #[.pointer (some ⟨Bm,0,none⟩)] (fun x:List UInt8 => #[encStr x]) KeepsWalks (fun ss=>ss.Perm (strKeys D)∧∀x,x∈ss ↔ Maps.has D (.string x)=true) (fun pre=>pre.Nodup∧∀x∈pre,Maps.has D (.string x)=true) (Maps.size D) w :=
 AnyZ.keys_stops (ρ:=Tryz.keysF_ren) { Tryz.keysF with } Fence.wide n trivial rfl hn Bm b nn D w hBm hm hown
theorem sJ:∀args w,(callFunc 191 args).run Tryz.prog w=.ok (.enter 191 args) w :=
 enters_of Tryz.func191 (by kernel_rfl) rfl
def NamesP (w w':World) (D:DataW Value) (p:Option Addr) (n c:Nat):Prop:=∃ss:List (List UInt8),n=ss.length∧ss.Perm (strKeys D)∧w'.ownsRow w.heap.size 9 1 (.slice p n c) n (ss.map encStr)∧Below w.heap.size w w'
theorem pD {w:World} {B n:Nat} {e:TypeId} {v:Value} {l:List Value} (h:w.ownsRow B e 1 v n l):∃p c,v=.slice p n c:=by
 rcases h.2 with ⟨h1,h2⟩ | ⟨g,cap,cur,h1,_⟩
 ·exact⟨none,0,by rw[h1,h2]⟩
 ·exact⟨_,_,h1⟩
theorem rF (Bm b nn:Nat) (D:DataW Value) (hsz:Maps.size D≤1000) (hk:(strKeys D).length≤1000) (w:World) (hBm:Bm<w.heap.size) (hm:w.cell? ⟨Bm,0,none⟩=some (.map (some b))) (hown:w.ownsMap Tryz.prog 9 rdFile b nn D) :
 Calls Tryz.prog 131 #[.func (.func 191) #[] #[.pointer (some ⟨Bm,0,none⟩)]] w fun e w'=>∃p n c,e=.returned (.slice p n c)∧NamesP w w' D p n c:=by
 have HC:=hid (callsIn_wide.1 (sO 6 (by decide) w _ _ sJ _ _ (Maps.size D) (by omega) (uS 4 (by decide) Bm b nn D w hBm hm hown)))
 clear hm hown hBm
 go_enter Tryz.func131,Tryz.ntmps131
 go_upto_region 2 with (go_at_call 189;refine HC.out.mono ?_;rintro e w1 ⟨v,ss,rfl,hS,ho,hb⟩;obtain⟨p,c,rfl⟩:=pD ho;have HO:=hid ho;have HB:=hid hb;have HSP:=hid hS.1;clear ho hb hS)
 have HS:=hid (zM w.heap.size ss.length _ ss w1 HO.out (by rw[HSP.out.length_eq];omega))
 go_wp2_with (go_at_call 190;refine HS.out.mono ?_;rintro e w2 ⟨rfl,ho2,hg2⟩)
 go_ret
 have hl:(srtB ss).length=ss.length:=(List.mergeSort_perm _ _).length_eq
 exact⟨p,ss.length,c,rfl,srtB ss,hl.symm,(List.mergeSort_perm _ _).trans HSP.out,ho2,HB.out.grown hg2 HB.out.size (fun k hk=>by
  rcases HO.out.2 with ⟨h1,_⟩ | ⟨g,cap,cur,h1,h3,_⟩
  ·simp only[Value.slice.injEq] at h1;rw[h1.1] at hk;cases hk
  ·simp only[Value.slice.injEq] at h1;rw[h1.1] at hk;cases hk;exact h3)⟩
end
section
open Go Go.RowKit Go.Shelf
theorem rL (c:SnC) (w:World):Calls Tryz.prog 12 #[.pointer none,c.w] w fun e w'=>e=.returned (.int .i64 1)∧Below w.heap.size w w':=by
 dsimp only[SnC.w]
 go_enter Tryz.func12,Tryz.ntmps12
 go_wp2
 go_ret
 exact⟨rfl,((bR w).alloc lr _).alloc (by simp) _⟩
theorem rR (n:Int) (w:World):Calls Tryz.prog 13 #[.pointer none,.int .i64 n] w fun e w'=>e=.returned (.tuple #[.agg #[.int .i64 0,.int .i64 0,.int .i64 0,.slice none 0 0,.slice none 0 0,.slice none 0 0,.slice none 0 0,.slice none 0 0,.slice none 0 0],.bool false,.int .i64 1])∧Below w.heap.size w w':=by
 go_enter Tryz.func13,Tryz.ntmps13
 go_wp2
 have hs:∀(w:World) (a b c d e:Obj),(((((w.alloc a).alloc b).alloc c).alloc d).alloc e).heap[w.heap.size+1+1]?=some c∧(((((w.alloc a).alloc b).alloc c).alloc d).alloc e).heap[w.heap.size+1+1+1]?=some d∧(((((w.alloc a).alloc b).alloc c).alloc d).alloc e).heap[w.heap.size+1+1+1+1]?=some e:=fun w a b c d e =>
  ⟨aC _ (aC _ (aM _ _ _ (by simp))),aC _ (aM _ _ _ (by simp)),aM _ _ _ (by simp)⟩
 exact bodyPost_ret (v:=.tuple #[.agg #[.int .i64 0,.int .i64 0,.int .i64 0,.slice none 0 0,.slice none 0 0,.slice none 0 0,.slice none 0 0,.slice none 0 0,.slice none 0 0],.bool false,.int .i64 1]) (by simp[results,Tryz.results13,go_sem,aA (hs _ _ _ _ _ _).1,aA (hs _ _ _ _ _ _).2.1,aA (hs _ _ _ _ _ _).2.2]) rfl ⟨rfl,(((((bR w).alloc lr _).alloc (by simp) _).alloc (by simp;omega) _).alloc (by simp;omega) _).alloc (by simp;omega) _⟩
theorem rT (w:World):Calls Tryz.prog 14 #[.pointer none] w fun e w'=>e=.returned (.tuple #[.slice none 0 0,.int .i64 1])∧w'=w:=by
 go_enter Tryz.func14,Tryz.ntmps14
 go_wp2
 exact bodyPost_ret (v:=.tuple #[.slice none 0 0,.int .i64 1]) (by simp[results,Tryz.results14,go_sem]) rfl ⟨rfl,rfl⟩
theorem pO (n:Int) (w:World):Calls Tryz.prog 15 #[.pointer none,.int .i64 n] w fun e w'=>e=.returned (.tuple #[.int .i64 0,.int .i64 1])∧Below w.heap.size w w':=by
 go_enter Tryz.func15,Tryz.ntmps15
 go_wp2
 exact bodyPost_ret (v:=.tuple #[.int .i64 0,.int .i64 1]) (by simp[results,Tryz.results15,go_sem]) rfl ⟨rfl,(bR w).alloc lr _⟩
theorem pP (d:Nat) (n:Int) (hn:inQ n 0 1048576=false) (w:World):Calls Tryz.prog 15 #[.pointer (some ⟨d,0,none⟩),.int .i64 n] w fun e w'=>e=.returned (.tuple #[.int .i64 0,.int .i64 2])∧Below w.heap.size w w':=by
 have HN:=hid hn
 clear hn
 have HIN:=hid (fun (w':World)=>(show Calls Tryz.prog 25 #[.int .i64 n,.int .i64 0,.int .i64 1048576] w' fun e w2=>e=.returned (.bool false)∧w2=w' from by rw[←HN.out];exact aL n 0 1048576 w'))
 go_enter Tryz.func15,Tryz.ntmps15
 go_wp2_with (go_at_call 25;refine(HIN.out _).mono ?_;rintro e w3 ⟨rfl,hw3⟩;rw[hw3];clear hw3)
 exact bodyPost_ret (v:=.tuple #[.int .i64 0,.int .i64 2]) (by simp[results,Tryz.results15,go_sem]) rfl ⟨rfl,(bR w).alloc lr _⟩
end
section
open Go Go.RowKit Go.Shelf Go.Lib
abbrev devQ (m:Nat):Obj:=.cells #[.int .i64 100000,.map (some m),.bool false,.bool false,.int .i64 0] 125
theorem zS (w:World):Calls Tryz.prog 16 #[.int .i64 100000] w fun e w'=>e=.returned (.tuple #[.pointer (some ⟨w.heap.size+1,0,none⟩),.int .i64 0])∧w'=(w.alloc (.map #[] 0)).alloc (devQ w.heap.size):=by
 have hmk:=run_makeMap (P:=Tryz.prog) (w:=w) 123
 go_enter Tryz.func16,Tryz.ntmps16
 go_wp2
 go_ret2
 exact⟨rfl,rfl⟩
theorem tW (d m:Nat) (w:World) (h:w.heap[d]?=some (devQ m)) :
 Calls Tryz.prog 121 #[.pointer (some ⟨d,0,none⟩)] w fun e w'=>e=.returned (.int .i64 0)∧w'=w:=by
 have c:=aA h 2
 (try dsimp only at c)
 go_enter Tryz.func121,Tryz.ntmps121
 go_wp2
 go_ret
 exact⟨rfl,rfl⟩
def QDev (w:World) (d m:Nat):Prop:=w.heap[d]?=some (devQ m)∧w.ownsMap Tryz.prog 9 rdFile m 0 noFiles
theorem QDev.below {w w':World} {d m:Nat} (h:QDev w d m) (hb:Below w.heap.size w w'):QDev w' d m:=⟨aB hb h.1,lA h.2 (hb.block m h.2.lt)⟩
theorem nC (d m:Nat) (w:World) (h:QDev w d m) :
 Calls Tryz.prog 65 #[.pointer (some ⟨d,0,none⟩)] w fun e w'=>∃p c,e=.returned (.tuple #[.slice p 0 c,.int .i64 0])∧Below w.heap.size w w':=by
 obtain⟨hd,hm⟩:=h
 have c1:=aA hd 1
 (try dsimp only at c1)
 have HK:=hid (tW d m w hd)
 have HF:=hid (xT m w)
 have hb1:Below w.heap.size w (w.alloc (.cells #[.map (some m)] 123)):=(bR w).alloc lr _
 have HB1:=hid hb1
 have HS:=hid (rF w.heap.size m 0 noFiles (by decide) (by decide) (w.alloc (.cells #[.map (some m)] 123)) (by simp) (aA (heap_alloc_new w _) 0) (lA hm (hb1.block m hm.lt)))
 clear hd hm hb1
 go_enter Tryz.func65,Tryz.ntmps65
 go_wp2_with (first
  | (go_at_call 121;refine HK.out.mono ?_;rintro e w2 ⟨rfl,hw2⟩;obtain rfl:=hw2.symm)
  | (go_at_call 132;refine HF.out.mono ?_;rintro e w3 ⟨rfl,hw3⟩;subst hw3)
  | (go_at_call 131;refine HS.out.mono ?_;rintro e w4 ⟨p,n,c,rfl,hN⟩))
 go_ret2
 obtain⟨ss,h1,h2,h3,h4⟩:=hN
 have hsz':w.heap.size≤(w.alloc (.cells #[.map (some m)] 123)).heap.size:=HB1.out.size
 have hk:strKeys noFiles=[]:=by decide
 rw[hk] at h2
 have hss:ss=[]:=h2.eq_nil
 subst hss
 obtain rfl:n=0:=h1
 exact⟨p,c,rfl,HB1.out.trans (h4.mono HB1.out.size)⟩
theorem rH (d m:Nat) (w:World) (h:QDev w d m):Calls Tryz.prog 14 #[.pointer (some ⟨d,0,none⟩)] w fun e w'=>e=.returned (.tuple #[.slice none 0 0,.int .i64 0])∧Below w.heap.size w w':=by
 have HL:=hid (nC d m w h)
 clear h
 go_enter Tryz.func14,Tryz.ntmps14
 go_wp2_with (go_at_call 65;refine HL.out.mono ?_;rintro e w1 ⟨p,c,rfl,hb⟩;have HB:=hid hb;clear hb)
 refine wp_loop_rounds 1 ?_
 rw[rounds_succ]
 go_wp2
 exact bodyPost_ret (v:=.tuple #[.slice none 0 0,.int .i64 0]) (by simp[results,Tryz.results14,go_sem]) rfl ⟨rfl,HB.out⟩
theorem uK (p:Option Addr) (c:Nat) (s:ByteArray) (w:World):Calls Tryz.prog 138 #[.slice p 0 c,.string s] w fun e w'=>e=.returned (.int .i64 (-1))∧w'=w:=by
 go_enter Tryz.func138,Tryz.ntmps138
 go_wp2
 refine wp_loop_rounds 1 ?_
 rw[rounds_succ]
 go_wp2
 go_ret
 exact⟨rfl,rfl⟩
theorem oI (p:Option Addr) (c:Nat) (s:ByteArray) (w:World):Calls Tryz.prog 70 #[.slice p 0 c,.string s] w fun e w'=>e=.returned (.bool false)∧w'=w:=by
 have HI:=hid (uK p c s w)
 go_enter Tryz.func70,Tryz.ntmps70
 go_wp2_with (go_at_call 138;refine HI.out.mono ?_;rintro e w1 ⟨rfl,hw1⟩;obtain rfl:=hw1.symm)
 go_ret
 exact⟨rfl,rfl⟩
theorem vA (d m:Nat) (n:Int) (hn:inQ n 0 1048576=true) (w:World) (h:QDev w d m):Calls Tryz.prog 15 #[.pointer (some ⟨d,0,none⟩),.int .i64 n] w fun e w'=>e=.returned (.tuple #[.int .i64 0,.int .i64 0])∧Below w.heap.size w w':=by
 have hn2:0≤n∧n≤1048576:=by unfold inQ at hn;simpa using hn
 have HN:=hid hn
 have hba:Below w.heap.size w (w.alloc (.cells #[.pointer (some ⟨d,0,none⟩)] 45)):=(bR w).alloc lr _
 have HX:=hid (heap_alloc_new w (.cells #[.pointer (some ⟨d,0,none⟩)] 45))
 have HL:=hid (rH d m _ (h.below hba))
 have HQ:=hid (fun (w':World) (hb:Below w.heap.size w w')=>nC d m w' (h.below hb))
 have HB:=hid hba
 have HIN:=hid (fun (w':World)=>(show Calls Tryz.prog 25 #[.int .i64 n,.int .i64 0,.int .i64 1048576] w' fun e w2=>e=.returned (.bool true)∧w2=w' from by rw[←HN.out];exact aL n 0 1048576 w'))
 have hm0:IntKind.i64.wrap (0-n) = -n:=by rw[IntWalk.i64_in _ (by omega)];omega
 have hm1:(if (0:Int) < -n then -n else 0)=0:=by rw[if_neg (by omega)]
 have hm2:max (0:Int) (-n)=0:=by omega
 have hm4:wrap64 (-n) = -n:=IntWalk.wrap64_in (-n) ⟨by omega,by omega⟩
 have hm5:max (0:Int) (wrap64 (-n))=0:=by rw[hm4];exact hm2
 have hm3:¬ (0:Int) < -n:=by omega
 clear hba h hn hn2
 go_enter Tryz.func15,Tryz.ntmps15
 go_upto_region 11 with (first
  | (go_at_call 25;refine(HIN.out _).mono ?_;rintro e w3 ⟨rfl,hw3⟩;rw[hw3];clear hw3)
  | (go_at_call 14;refine HL.out.mono ?_;rintro e w1 ⟨rfl,hb1⟩;have HB1:=hid (HB.out.trans (hb1.mono HB.out.size));have x1:=aA (aB hb1 HX.out) 0;(try dsimp only at x1);clear hb1)
  | (go_at_call 65;refine(HQ.out _ HB1.out).mono ?_;rintro e w2 ⟨p,c,rfl,hb2⟩;have HB2:=hid (HB1.out.trans (hb2.mono HB1.out.size));clear hb2))
 clear x1
 have hmk:=run_makeMap (P:=Tryz.prog) (w:=w2) 121
 have HCT:=hid (fun (w':World)=>oI p c ⟨#[115,110,97,112,115,104,111,116,46,110,101,119]⟩ w')
 go_wp2
 refine wp_loop_rounds 1 ?_
 rw[rounds_succ]
 go_wp2_with (go_at_call 70;refine(HCT.out _).mono ?_;rintro e w4 ⟨rfl,hw4⟩;rw[hw4];clear hw4)
 refine wp_loop_rounds 1 ?_
 rw[rounds_succ]
 go_wp2
 exact bodyPost_ret (v:=.tuple #[.int .i64 0,.int .i64 0]) (by simp[results,Tryz.results15,go_sem]) rfl ⟨rfl,(HB2.out.alloc HB2.out.size _).alloc (by have:=HB2.out.size;simp;omega) _⟩
end
end Go.Proofs.YteladbdfiannjaaGreatDoor
