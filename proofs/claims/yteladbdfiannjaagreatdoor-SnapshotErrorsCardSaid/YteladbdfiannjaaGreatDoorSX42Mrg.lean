/- A part. -/
import Derived.Test.YteladbdfiannjaaGreatDoorSX36Mrg
import Derived.Test.YteladbdfiannjaaGreatDoorSX25Mrg
namespace Go.Proofs.YteladbdfiannjaaGreatDoor
set_option linter.unusedVariables false
set_option maxRecDepth 100000
set_option maxHeartbeats 64000000
set_option linter.unusedSimpArgs false
section
open Go Go.RowKit Go.Shelf
theorem Turn.below {S:Nat→Prop} {N:Nat} {w w':World} (h:Turn S w w') (hS:∀k,S k→N≤k) (hN:N≤w.heap.size):Below N w w' :=
 ⟨h.os,h.tape,h.output,h.size,fun k hk=>h.block k (by omega) (fun hk'=>by have:=hS k hk';omega)⟩
def NB (w:World) (N:Nat):Prop:=∃w0,Tabs w0∧NumVars w0∧Below w0.heap.size w0 w∧w0.heap.size≤N
theorem NB.num {w:World} {N:Nat} (h:NB w N):NumVars w:=by
 obtain⟨w0,h1,h2,h3,h4⟩:=h
 exact h2.below h3
theorem NB.turn {w w':World} {N:Nat} {S:Nat→Prop} (h:NB w N) (ht:Turn S w w') (hS:∀k,S k→N≤k):NB w' N:=by
 obtain⟨w0,h1,h2,h3,h4⟩:=h
 exact⟨w0,h1,h2,h3.trans (ht.below (fun k hk=>by have:=hS k hk;omega) h3.size),h4⟩
theorem NB.below {w w':World} {N:Nat} (h:NB w N) (hb:Below w.heap.size w w'):NB w' N:=h.turn (S:=fun _=>False) (Turn.of_below hb) (fun k h=>h.elim)
theorem infoCnt:(Tryz.prog.info? 58).map (fun i=>(i.zero,i.size,i.bytes))=some (some (.agg #[.string ByteArray.empty,.int .i64 0]),2,24):=by kernel_rfl
theorem aAy (N:Nat) (s a b a2 b2:ByteArray) (hs:s.size≤1000) (hc:mC s a b) (hb:b.size≤1000) (hc2:mC b a2 b2) (ha2:a2.size≤1000) (n:Int) (hok:gJ a2.data.toList=true) (hv:mM a2.data.toList=n)
 (c cb R:Nat) (lp:Value) (v e t:Int) (w:World) (hcb:w.heap[cb]?=some (.cells #[.pointer (some ⟨R,5,none⟩)] 163)) (hR:w.heap[R]?=some (rdO lp v e t none 0 0)) (hsc:w.heap[c]?=some (scO s)) (hNB:NB w N) (hcN:N≤c) (hne:R≠c∧cb≠c∧cb≠R) :
 Calls Tryz.prog 151 #[.pointer (some ⟨c,0,none⟩),.pointer (some ⟨cb,0,none⟩)] w fun r w'=>r=.returned (.tuple #[])∧∃g cap,w.heap.size≤g∧CntAt w' g a n∧1≤cap∧w'.heap[R]?=some (rdO lp v e t (some ⟨g,0,none⟩) 1 cap)∧w'.heap[c]?=some (scO b2)∧Turn (fun k=>k=c∨k=R) w w':=by
 obtain⟨ti,hi,hz0,hz1,hz2⟩:=info_parts infoCnt
 have HP:Hid (Calls Tryz.prog 95 #[.pointer (some ⟨c,0,none⟩)] w.drew _):=hid (mG s a b hs hc c w.drew hsc (hNB.below ((bR w).drew)).num)
 have HNQ:=hid (fun (w2:World) (h2:w2.heap[c]?=some (scO b)) (ht:Turn (fun k=>k=c) w.drew w2)=>iF b a2 b2 hb hc2 n ha2 hok hv c w2 h2 ((hNB.below ((bR w).drew)).turn ht (fun k hk=>by omega)).num (fun w' ht'=>(((hNB.below ((bR w).drew)).turn ht (fun k hk=>by omega)).turn ht' (fun k hk=>by omega)).num))
 have HC:=hid (fun (w':World) (h:w'.heap[cb]?=some (.cells #[.pointer (some ⟨R,5,none⟩)] 163)∧w'.heap[R]?=some (rdO lp v e t none 0 0))=>(show w'.cell? ⟨cb,0,none⟩=some (.pointer (some ⟨R,5,none⟩))∧w'.cell? ⟨R,5,none⟩=some (.slice none 0 0) from⟨aA h.1 0,aA h.2 5⟩))
 have HCB:Hid (w.drew.heap[cb]?=_):=hid hcb
 have HR:Hid (w.drew.heap[R]?=_):=hid hR
 have HNE:=hid (show R≠c∧cb≠c∧cb≠R from hne)
 clear hs hc hb hc2 ha2 hok hv hcb hR hsc hNB hcN hne
 go_enter Tryz.func151,Tryz.ntmps151
 go_upto_region 0 with (fail)
 refine aQ 11 (fun w'=>w'.heap[cb]?=some (.cells #[.pointer (some ⟨R,5,none⟩)] 163)∧w'.heap[R]?=some (rdO lp v e t none 0 0)) (by kernel_rfl) (by kernel_rfl) (by kernel_rfl) (by decide) (⟨HCB.out,HR.out⟩) (fun hS=>?_)
 simp only[zdm,zdn,zdp,zdq]
 refine tkQ 0 (v:=?_) ?_ hS ?_;rotate_left;· intro w' hw';have hcells:=HC.out w' hw';go_simp;(try rfl)
 simp only[Act.put,pq]
 refine tkQ 1 (v:=?_) ?_ hS ?_;rotate_left;· intro w' hw';have hcells:=HC.out w' hw';go_simp;(try rfl)
 simp only[Act.put,pq]
 refine tkQ 2 (v:=?_) ?_ hS ?_;rotate_left;· intro w' hw';have hcells:=HC.out w' hw';go_simp;(try rfl)
 simp only[Act.put,pq]
 refine tkQ 3 (v:=?_) ?_ hS ?_;rotate_left;· intro w' hw';have hcells:=HC.out w' hw';go_simp;(try rfl)
 simp only[Act.put,pq]
 refine tkQ 4 (v:=?_) ?_ hS ?_;rotate_left;· intro w' hw';have hcells:=HC.out w' hw';go_simp;(try rfl)
 simp only[Act.put,pq]
 refine tkQ 6 (v:=?_) ?_ hS ?_;rotate_left;· intro w' hw';have hcells:=HC.out w' hw';go_simp;(try rfl)
 simp only[Act.put,pq]
 refine ry [5] ?_
 refine arQ fun K hK=>?_
 go_simp;go_at_call 95;refine HP.out.mono ?_
 rintro x w2 ⟨rfl,h2,ht2⟩
 have H2:=hid h2;have HT2:=hid ht2
 have HQ:=hid (HNQ.out w2 h2 ht2)
 refine hK.out _ _ (⟨ht2.keep hS.1 HNE.out.2.1,ht2.keep hS.2 HNE.out.1⟩) (fun hS=>?_)
 clear hK K
 (try simp only[Act.put,pq])
 refine ry [7] ?_
 refine arQ fun K hK=>?_
 go_simp;go_at_call 87;refine HQ.out.mono ?_
 rintro x w3 ⟨rfl,h3,ht3⟩
 have H3:=hid h3;have HT3:=hid ht3
 refine hK.out _ _ (⟨ht3.keep hS.1 HNE.out.2.1,ht3.keep hS.2 HNE.out.1⟩) (fun hS=>?_)
 clear hK K
 (try simp only[Act.put,pq])
 refine tkQ 8 (v:=?_) ?_ hS ?_;rotate_left;· intro w' hw';have hcells:=HC.out w' hw';go_simp;(try rfl)
 simp only[Act.put,pq]
 refine ry [9] ?_
 refine arQ fun K hK=>?_
 go_simp
 refine hK.out _ _ (⟨aC _ hS.1,aC _ hS.2⟩) (fun hS=>?_)
 clear hK K
 (try simp only[Act.put,pq])
 refine ry [10] ?_
 refine arQ fun K hK=>?_
 refine step_append_lies _ (by rfl) _ _ _ (by rfl) w3.heap.size 58 ti _ 2 24 Tryz.underlying23 hi hz0 hz1 hz2 rfl (by omega) (.slice none 0 0) 0 [] (by rfl) (World.ownsRow_nil _ _ _ _) ⟨w3.heap.size,0,none⟩ 1 1 [.string a,.int .i64 n] (by rfl) (by rfl) (World.news_of_block (heap_alloc_new w3 _)) (by simp[Value.oneCell']) (by omega) (by unfold maxLen;omega) (by omega) (by simp) (w3.heap.size+1) (by simp) ?_
 intro gg cap w4 hown4 hgrow hat hlt4
 have HO4:=hid hown4;have HG4:=hid hgrow;have HAT:=hid hat;have H4:=hid (aY hgrow (aC (.cells #[.string a,.int .i64 n] 58) H3.out) (by simp[Value.ownBlock]))
 refine hK.out _ _ (⟨aY hgrow hS.1 (by simp[Value.ownBlock]),aY hgrow hS.2 (by simp[Value.ownBlock])⟩) (fun hS=>?_)
 clear hK K
 (try simp only[Act.put,pq])
 refine wpAnyH_done (by kernel_rfl) ?_ _
 (try dsimp only)
 have HS:=hid hS
 have r5:=aE hS.2 5
 have q5:=aA hS.2 5
 (try dsimp only at q5)
 clear hS
 go_wp2
 obtain⟨_,h | ⟨g9,cap9,cur,hv9,hb9,hg9,hn9,hm9,hs9,ht9⟩⟩:=HO4.out
 ·exact absurd h.2 (by simp)
 obtain⟨rfl,rfl⟩:gg=g9∧cap=cap9:=by injection hv9 with q1 q2 q3;injection q1 with q1;injection q1 with q1;exact⟨q1,q3⟩
 have hRR:=aD (o:=5) (.slice (some ⟨gg,0,none⟩) 1 cap) HS.out.2
 simp only[List.setIfInBounds_toArray,List.set_cons_zero,List.set_cons_succ] at hRR
 have hgR:gg≠R:=fun h=>by
  have:=HS.out.2
  rw[←h,hg9] at this
  cases this
 have e0:cur[0]?=some (.string a):=by
  have:=congrArg (·[0]?) ht9
  simpa [List.getElem?_take] using this
 have e1:cur[1]?=some (.int .i64 n):=by
  have:=congrArg (·[1]?) ht9
  simpa [List.getElem?_take] using this
 have hsz:w.heap.size≤w3.heap.size:=by have h1:=HT2.out.size;have h2:=HT3.out.size;simp at h1;omega
 exact bodyPost_end (results_none rfl _ _ _) rfl ⟨rfl,gg,cap,by omega,⟨cur,_,_,aJ _ _ hg9 (by exact hgR),e0,e1⟩,hn9,hRR,aJ _ _ H4.out (by exact HNE.out.1.symm),(((((Turn.of_below (bR w).drew:Turn _ w w.drew).trans (HT2.out.mono fun k hk=>.inl hk)).trans (HT3.out.mono fun k hk=>.inl hk)).trans (Turn.of_below ((Below.refl _ w3).alloc lr (.cells #[.string a,.int .i64 n] 58)))).trans (Turn.of_grown HG4.out (fun r hr=>by cases hr))).trans (Turn.setCell ⟨R,5,none⟩ _ (.inr rfl))⟩
theorem lJ (word ln:ByteArray) (hw:word.size≤1000) (hp:Lib.hasPrefix ln.data.toList (word++⟨#[32]⟩).data.toList=false) (R L i n cap:Nat) (v e t:Int) (ap:Option Addr) (an ac:Nat) (fv:Value) (w:World) (h:w.heap[R]?=some (rdO (.slice (some ⟨L,i,none⟩) (n+1) cap) v e t ap an ac)) (hl:w.cell? ⟨L,i,none⟩=some (.string ln)) (hn:n≤1000) :
 Calls Tryz.prog 90 #[.pointer (some ⟨R,0,none⟩),.string word,fv] w fun r w'=>r=.returned (.tuple #[])∧Below w.heap.size w w':=by
 have H:=hid (qD word ln hw hp R L i n cap v e t ap an ac w h hl hn)
 clear hp h hl
 go_enter Tryz.func90,Tryz.ntmps90
 go_wp2
 refine wp_loop_rounds 1 ?_
 rw[rounds_succ]
 go_wp2_with (go_at_call 86;refine H.out.mono ?_;rintro x w3 ⟨rfl,hb3⟩)
 exact bodyPost_ret (results_none rfl _ _ _) rfl ⟨rfl,hb3⟩
theorem zJ (ln:ByteArray) (hp:Lib.hasPrefix ln.data.toList (⟨#[115,116,97,116,101,32]⟩:ByteArray).data.toList=false) (R L i n cap:Nat) (v e t:Int) (ap:Option Addr) (an ac:Nat) (w:World) (h:w.heap[R]?=some (rdO (.slice (some ⟨L,i,none⟩) (n+1) cap) v e t ap an ac)) (hl:w.cell? ⟨L,i,none⟩=some (.string ln)) (hn:n≤1000) :
 Calls Tryz.prog 88 #[.pointer (some ⟨R,0,none⟩)] w fun r w'=>r=.returned (.tuple #[])∧Below w.heap.size w w':=by
 have H:=hid (fun (w:World)=>Tryz.strings_HasPrefix ln ⟨#[115,116,97,116,101,32]⟩ w)
 rw[hp] at H
 have c0:=aA h 0
 have c10:=aA h 10
 (try dsimp only at c0 c10)
 have hn3:(0:Int)<(n:Int)+1:=by omega
 clear hp h
 go_enter Tryz.func88,Tryz.ntmps88
 go_wp2
 refine wp_loop_rounds 1 ?_
 rw[rounds_succ]
 go_wp2_with (go_at_call 149;refine(H.out _).mono ?_;rintro x w3 ⟨rfl,hw3⟩;obtain rfl:=hw3.symm)
 exact bodyPost_end (results_none rfl _ _ _) rfl ⟨rfl,Below.refl _ _⟩
end
section
open Go Go.RowKit Go.Shelf
theorem Turn.fresh {S S2:Nat→Prop} {w w2 w3:World} (h:Turn S w w2) (h2:Turn S2 w2 w3) (hS:∀k,k<w.heap.size→S2 k→S k):Turn S w w3 :=
 ⟨h2.os.trans h.os,h2.tape.trans h.tape,h2.output.trans h.output,Nat.le_trans h.size h2.size,fun k hk hn=>(h2.block k (Nat.lt_of_lt_of_le hk h.size) (fun h'=>hn (hS k hk h'))).trans (h.block k hk hn)⟩
theorem lN {w w':World} {a:Addr} {v:Value} (hb:Below w.heap.size w w') (h:w.cell? a=some v):w'.cell? a=some v :=
 (World.cell?_of_block (hb.block _ (World.block_lt_of_cell? _ _ h))).trans h
theorem lL (R o:Nat) (w:World):Calls Tryz.prog 91 #[.pointer (some ⟨R,o,none⟩)] w fun r w'=>r=.returned (.func (.func 151) #[] #[.pointer (some ⟨w.heap.size,0,none⟩)])∧w'=w.alloc (.cells #[.pointer (some ⟨R,o,none⟩)] 163):=by
 go_enter Tryz.func91,Tryz.ntmps91
 go_wp2
 go_ret
 exact⟨rfl,rfl⟩
theorem aDa (N:Nat) (word lnA lnE s a b a2 b2:ByteArray) (hw:word.size≤1000) (hpA:Lib.hasPrefix lnA.data.toList (word++⟨#[32]⟩).data.toList=true) (hrA:(⟨(Lib.trimPrefix lnA.data.toList (word++⟨#[32]⟩).data.toList).toArray⟩:ByteArray)=s) (hpE:Lib.hasPrefix lnE.data.toList (word++⟨#[32]⟩).data.toList=false)
 (hs:s.size≤1000) (hc:mC s a b) (hb:b.size≤1000) (hc2:mC b a2 b2) (ha2:a2.size≤1000) (k:Int) (hok:gJ a2.data.toList=true) (hv:mM a2.data.toList=k)
 (cb R L i m cap:Nat) (hm:m+1≤cap∧m≤900) (v e t:Int) (la:Array Value) (LT:TypeId) (w:World) (hL:w.heap[L]?=some (.cells la LT)) (l0:la[i]?=some (.string lnA)) (l1:la[i+1]?=some (.string lnE)) (hcb:w.heap[cb]?=some (.cells #[.pointer (some ⟨R,5,none⟩)] 163)) (hR:w.heap[R]?=some (rdO (.slice (some ⟨L,i,none⟩) (m+1+1) (cap+1)) v e t none 0 0)) (hNB:NB w N) (hNR:N≤R∧N≤w.heap.size) (hne:cb≠R∧L≠R) :
 Calls Tryz.prog 90 #[.pointer (some ⟨R,0,none⟩),.string word,.func (.func 151) #[] #[.pointer (some ⟨cb,0,none⟩)]] w fun r w'=>r=.returned (.tuple #[])∧∃g gc,CntAt w' g a k∧w.heap.size≤g∧1≤gc∧w'.heap[R]?=some (rdO (.slice (some ⟨L,i+1,none⟩) (m+1) cap) v e t (some ⟨g,0,none⟩) 1 gc)∧Turn (fun q=>q=R) w w':=by
 have hen:∀args w,(callFunc 151 args).run Tryz.prog w=.ok (.enter 151 args) w:=enters_of Tryz.func151 (by kernel_rfl) rfl
 have H1:=hid (qC word lnA s hw hpA hrA R L i m cap (by omega) v e t none 0 0 w hR (by rw[aA hL];exact l0) (by omega) hm.1)
 have H2:=hid (fun (c:Nat) (w1:World) (h1:w1.heap[c]?=some (scO s)) (hc':w.heap.size≤c) (hR1:w1.heap[R]?=some (rdO (.slice (some ⟨L,i+1,none⟩) (m+1) cap) v e t none 0 0)) (ht:Turn (fun q=>q=R) w w1) =>
  aAy N s a b a2 b2 hs hc hb hc2 ha2 k hok hv c cb R _ v e t w1 (ht.keep hcb hne.1) hR1 h1 (hNB.turn ht (fun q hq=>by omega)) (by omega) ⟨by have:=bT hR;omega,by have:=bT hcb;omega,hne.1⟩)
 have H3:=hid (fun (g gc:Nat) (w':World) (h:w'.heap[R]?=some (rdO (.slice (some ⟨L,i+1,none⟩) (m+1) cap) v e t (some ⟨g,0,none⟩) 1 gc)) (hl:w'.heap[L]?=some (.cells la LT))=>qD word lnE hw hpE R L (i+1) m cap v e t (some ⟨g,0,none⟩) 1 gc w' h (by rw[aA hl];exact l1) (by omega))
 have HL:=hid hL
 have HNE:=hid hne
 have HRL:=hid (bT hR)
 have HLL:=hid (bT hL)
 clear hpA hrA hpE hc hb hc2 ha2 hok hv hL l0 l1 hcb hR hNB hNR hne hm
 go_enter Tryz.func90,Tryz.ntmps90
 go_wp2
 refine wp_loop_rounds 2 ?_
 rw[rounds_succ]
 go_upto_region 3 with (first
  | (go_at_call 86;refine H1.out.mono ?_;rintro x w1 ⟨c,rfl,hsc,hcw,hR1,ht1⟩;have HSC:=hid hsc;have HCW:=hid hcw;have HR1:=hid hR1;have HT1:=hid ht1;clear hsc hcw hR1 ht1)
  | (go_at_call 151;refine(H2.out c w1 HSC.out HCW.out HR1.out HT1.out).mono ?_;rintro x w2 ⟨rfl,g,gc,hgw,hcg,hgc,hR2,hsc2,ht2⟩;have r10:=aA hR2 10;have f10:=aE hR2 10;have s1:=aA hsc2 1;(try dsimp only at r10 s1);have HGW:=hid hgw;have HCG:=hid hcg;have HGC:=hid hgc;have HR2:=hid hR2;have HT2:=hid ht2;clear hgw hcg hgc hR2 hsc2 ht2))
 have hT:Turn (fun q=>q=R) w w2:=HT1.out.fresh HT2.out (fun q hq hk=>by have:=HCW.out;rcases hk with h | h<;>omega)
 have hL2:w2.heap[L]?=some (.cells la LT):=hT.keep HL.out HNE.out.2
 have hRR:=aD (o:=10) (.bool false) HR2.out
 simp only[List.setIfInBounds_toArray,List.set_cons_zero,List.set_cons_succ] at hRR
 have HRR:=hid hRR
 have HL2:=hid (aJ ⟨R,10,none⟩ (.bool false) hL2 HNE.out.2)
 have HTT:=hid (hT.trans (Turn.setCell (R:=fun q=>q=R) ⟨R,10,none⟩ (.bool false) rfl))
 have hgR:g≠R:=by have:=HGW.out;have:=HRL.out;have:=HT1.out.size;omega
 have HCG2:=hid (HCG.out.same (w':=w2.setCell ⟨R,10,none⟩ (.bool false)) fun o ho=>aJ _ _ ho hgR)
 clear hT hL2 hRR hgR
 go_wp2
 rw[rounds_succ]
 clear r10 f10 s1
 go_wp2_with (go_at_call 86;refine(H3.out g gc _ HRR.out HL2.out).mono ?_;rintro x w3 ⟨rfl,hb3⟩)
 exact bodyPost_ret (results_none rfl _ _ _) rfl ⟨rfl,g,gc,HCG2.out.ext hb3,by have:=HGW.out;have:=HT1.out.size;omega,HGC.out,aB hb3 HRR.out,HTT.out.trans (Turn.of_below hb3)⟩
theorem effs_no (ln:ByteArray) (hp:Lib.hasPrefix ln.data.toList (⟨#[100,101,108,105,118,101,114]⟩++⟨#[32]⟩:ByteArray).data.toList=false) (R L i n cap:Nat) (v e t:Int) (ap:Option Addr) (an ac:Nat) (w:World) (h:w.heap[R]?=some (rdO (.slice (some ⟨L,i,none⟩) (n+1) cap) v e t ap an ac)) (hl:w.cell? ⟨L,i,none⟩=some (.string ln)) (hn:n≤1000) (hp2:Lib.hasPrefix ln.data.toList (⟨#[114,101,113,117,101,115,116]⟩++⟨#[32]⟩:ByteArray).data.toList=false) :
 Calls Tryz.prog 101 #[.pointer (some ⟨R,0,none⟩)] w fun r w'=>r=.returned (.tuple #[])∧Below w.heap.size w w':=by
 have H1:=hid (fun fv (w':World) (h:w'.heap[R]?=some (rdO (.slice (some ⟨L,i,none⟩) (n+1) cap) v e t ap an ac)) (hl:w'.cell? ⟨L,i,none⟩=some (.string ln))=>lJ ⟨#[100,101,108,105,118,101,114]⟩ ln (by simp[ByteArray.size]) hp R L i n cap v e t ap an ac fv w' h hl hn)
 have H2:=hid (fun fv (w':World) (h:w'.heap[R]?=some (rdO (.slice (some ⟨L,i,none⟩) (n+1) cap) v e t ap an ac)) (hl:w'.cell? ⟨L,i,none⟩=some (.string ln))=>lJ ⟨#[114,101,113,117,101,115,116]⟩ ln (by simp[ByteArray.size]) hp2 R L i n cap v e t ap an ac fv w' h hl hn)
 have HR:=hid h
 have HL:=hid hl
 have HB:=hid ((bR w).alloc lr (.cells #[.pointer (some ⟨R,0,none⟩)] 150))
 have c9:=aA (aB HB.out h) 9
 (try dsimp only at c9)
 clear hp hp2 h hl
 go_enter Tryz.func101,Tryz.ntmps101
 go_wp2
 refine wp_loop_rounds 1 ?_
 rw[rounds_succ]
 go_upto_region 3 with (go_at_call 90;refine(H1.out _ _ (aB HB.out HR.out) (lN HB.out HL.out)).mono ?_;rintro x w3 ⟨rfl,hb3⟩;have HB3:=hid (HB.out.trans (hb3.mono (by simp)));have n9:=aA (aB HB3.out HR.out) 9;have nb:=aA (aB hb3 (heap_alloc_new w _)) 0;(try dsimp only at n9 nb);clear hb3)
 clear c9
 go_upto_region 4 with (go_at_call 90;refine(H2.out _ _ (aB HB3.out HR.out) (lN HB3.out HL.out)).mono ?_;rintro x w4 ⟨rfl,hb4⟩;have HB4:=hid (HB3.out.trans (hb4.mono HB3.out.size));have q9:=aA (aB HB4.out HR.out) 9;have qb:=lN hb4 nb;(try dsimp only at q9);clear hb4)
 clear n9 nb
 go_wp2
 exact bodyPost_ret (results_none rfl _ _ _) rfl ⟨rfl,HB4.out⟩
theorem dec3_no (ln:ByteArray) (hp:Lib.hasPrefix ln.data.toList (⟨#[113,117,101,117,101,100]⟩++⟨#[32]⟩:ByteArray).data.toList=false) (R L i n cap:Nat) (v e t:Int) (ap:Option Addr) (an ac:Nat) (w:World) (h:w.heap[R]?=some (rdO (.slice (some ⟨L,i,none⟩) (n+1) cap) v e t ap an ac)) (hl:w.cell? ⟨L,i,none⟩=some (.string ln)) (hn:n≤1000) (B4 B5:Nat) (h4:w.heap[B4]?=some (.cells #[.pointer (some ⟨R,0,none⟩)] 150)) (h5:w.heap[B5]?=some (.cells #[.pointer (some ⟨R,1,none⟩)] 51)) :
 Calls Tryz.prog 93 #[.pointer (some ⟨B4,0,none⟩),.pointer (some ⟨B5,0,none⟩)] w fun r w'=>r=.returned (.tuple #[])∧Below w.heap.size w w':=by
 have HE:=hid (fun fv=>lJ ⟨#[113,117,101,117,101,100]⟩ ln (by simp[ByteArray.size]) hp R L i n cap v e t ap an ac fv w h hl hn)
 have b4:=aA h4 0
 have b5:=aA h5 0
 (try dsimp only at b4 b5)
 clear hp h hl h4 h5
 go_enter Tryz.func93,Tryz.ntmps93
 go_wp2_with (go_at_call 90;refine(HE.out _).mono ?_;rintro x w3 ⟨rfl,hb3⟩)
 exact bodyPost_end (results_none rfl _ _ _) rfl ⟨rfl,hb3⟩
theorem dec4_no (ln:ByteArray) (hp:Lib.hasPrefix ln.data.toList (⟨#[108,101,116,116,101,114]⟩++⟨#[32]⟩:ByteArray).data.toList=false) (R L i n cap:Nat) (v e t:Int) (ap:Option Addr) (an ac:Nat) (w:World) (h:w.heap[R]?=some (rdO (.slice (some ⟨L,i,none⟩) (n+1) cap) v e t ap an ac)) (hl:w.cell? ⟨L,i,none⟩=some (.string ln)) (hn:n≤1000) (B4 B5:Nat) (h4:w.heap[B4]?=some (.cells #[.pointer (some ⟨R,0,none⟩)] 150)) (h5:w.heap[B5]?=some (.cells #[.pointer (some ⟨R,1,none⟩)] 51)) :
 Calls Tryz.prog 97 #[.pointer (some ⟨B4,0,none⟩),.pointer (some ⟨B5,0,none⟩)] w fun r w'=>r=.returned (.tuple #[])∧Below w.heap.size w w':=by
 have HE:=hid (fun fv=>lJ ⟨#[108,101,116,116,101,114]⟩ ln (by simp[ByteArray.size]) hp R L i n cap v e t ap an ac fv w h hl hn)
 have b4:=aA h4 0
 have b5:=aA h5 0
 (try dsimp only at b4 b5)
 clear hp h hl h4 h5
 go_enter Tryz.func97,Tryz.ntmps97
 go_wp2_with (go_at_call 90;refine(HE.out _).mono ?_;rintro x w3 ⟨rfl,hb3⟩)
 exact bodyPost_end (results_none rfl _ _ _) rfl ⟨rfl,hb3⟩
theorem dec2_no (ln:ByteArray) (hp:Lib.hasPrefix ln.data.toList (⟨#[115,101,110,116]⟩++⟨#[32]⟩:ByteArray).data.toList=false) (R L i n cap:Nat) (v e t:Int) (ap:Option Addr) (an ac:Nat) (w:World) (h:w.heap[R]?=some (rdO (.slice (some ⟨L,i,none⟩) (n+1) cap) v e t ap an ac)) (hl:w.cell? ⟨L,i,none⟩=some (.string ln)) (hn:n≤1000) (B4 B5:Nat) (h4:w.heap[B4]?=some (.cells #[.pointer (some ⟨R,0,none⟩)] 150)) (h5:w.heap[B5]?=some (.cells #[.pointer (some ⟨R,1,none⟩)] 51)) :
 Calls Tryz.prog 92 #[.pointer (some ⟨B4,0,none⟩),.pointer (some ⟨B5,0,none⟩)] w fun r w'=>r=.returned (.tuple #[])∧Below w.heap.size w w':=by
 have HE:=hid (fun fv (w':World) (hw':w'=w.drew.alloc (.cells #[.pointer (some ⟨R,6,none⟩)] 163))=>lJ ⟨#[115,101,110,116]⟩ ln (by simp[ByteArray.size]) hp R L i n cap v e t ap an ac fv w' (by rw[hw'];exact aC _ h) (by rw[hw'];exact lN ((bR w).drew.alloc lr _) hl) hn)
 have HC:=hid (fun (w':World) (h:w'.heap[B4]?=some (.cells #[.pointer (some ⟨R,0,none⟩)] 150)∧w'.heap[B5]?=some (.cells #[.pointer (some ⟨R,1,none⟩)] 51))=>(show w'.cell? ⟨B4,0,none⟩=some (.pointer (some ⟨R,0,none⟩))∧w'.cell? ⟨B5,0,none⟩=some (.pointer (some ⟨R,1,none⟩)) from⟨aA h.1 0,aA h.2 0⟩))
 have HB4:Hid (w.drew.heap[B4]?=_):=hid h4
 have HB5:Hid (w.drew.heap[B5]?=_):=hid h5
 clear hp h hl h4 h5
 go_enter Tryz.func92,Tryz.ntmps92
 go_upto_region 0 with (fail)
 refine wp_region_held_drew (S:=(fun w'=>w'.heap[B4]?=some (.cells #[.pointer (some ⟨R,0,none⟩)] 150)∧w'.heap[B5]?=some (.cells #[.pointer (some ⟨R,1,none⟩)] 51))) (by kernel_rfl) (⟨HB4.out,HB5.out⟩) (fun hS=>?_)
 refine tkQ 0 (v:=?_) ?_ hS ?_;rotate_left;· intro w' hw';have hcells:=HC.out w' hw';go_simp;(try rfl)
 simp only[Act.put,pq]
 refine tkQ 1 (v:=?_) ?_ hS ?_;rotate_left;· intro w' hw';have hcells:=HC.out w' hw';go_simp;(try rfl)
 simp only[Act.put,pq]
 refine tkQ 2 (v:=?_) ?_ hS ?_;rotate_left;· intro w' hw';have hcells:=HC.out w' hw';go_simp;(try rfl)
 simp only[Act.put,pq]
 refine tkQ 3 (v:=?_) ?_ hS ?_;rotate_left;· intro w' hw';have hcells:=HC.out w' hw';go_simp;(try rfl)
 simp only[Act.put,pq]
 refine ry [4] ?_
 refine arQ fun K hK=>?_
 go_simp;go_at_call 91;refine(lL _ _ _).mono ?_
 rintro x w1 ⟨rfl,rfl⟩
 refine hK.out _ _ (⟨aC _ hS.1,aC _ hS.2⟩) (fun hS=>?_)
 clear hK K
 (try simp only[Act.put,pq])
 refine ry [5] ?_
 refine arQ fun K hK=>?_
 go_simp;go_at_call 90;refine(HE.out _ _ rfl).mono ?_
 rintro x w2 ⟨rfl,hb2⟩
 have HT:=hid hb2
 refine hK.out _ _ (⟨aB hb2 hS.1,aB hb2 hS.2⟩) (fun hS=>?_)
 clear hK K
 (try simp only[Act.put,pq])
 refine wpAnyH_done (by kernel_rfl) ?_ _
 (try dsimp only)
 clear hS
 exact bodyPost_end (results_none rfl _ _ _) rfl ⟨rfl,((bR w).drew.alloc lr _).trans (HT.out.mono (by simp))⟩
theorem aDc (N:Nat) (lnA lnE s a b a2 b2:ByteArray) (hpA:Lib.hasPrefix lnA.data.toList (⟨#[97,114,114,105,118,101,100]⟩++⟨#[32]⟩:ByteArray).data.toList=true) (hrA:(⟨(Lib.trimPrefix lnA.data.toList (⟨#[97,114,114,105,118,101,100]⟩++⟨#[32]⟩:ByteArray).data.toList).toArray⟩:ByteArray)=s) (hpE:Lib.hasPrefix lnE.data.toList (⟨#[97,114,114,105,118,101,100]⟩++⟨#[32]⟩:ByteArray).data.toList=false)
 (hs:s.size≤1000) (hc:mC s a b) (hb:b.size≤1000) (hc2:mC b a2 b2) (ha2:a2.size≤1000) (k:Int) (hok:gJ a2.data.toList=true) (hv:mM a2.data.toList=k)
 (R L i m cap:Nat) (hm:m+1≤cap∧m≤900) (v e t:Int) (la:Array Value) (LT:TypeId) (w:World) (hL:w.heap[L]?=some (.cells la LT)) (l0:la[i]?=some (.string lnA)) (l1:la[i+1]?=some (.string lnE)) (hR:w.heap[R]?=some (rdO (.slice (some ⟨L,i,none⟩) (m+1+1) (cap+1)) v e t none 0 0)) (hNB:NB w N) (hNR:N≤R) (hne:L≠R) (B4 B5:Nat) (h4:w.heap[B4]?=some (.cells #[.pointer (some ⟨R,0,none⟩)] 150)) (h5:w.heap[B5]?=some (.cells #[.pointer (some ⟨R,1,none⟩)] 51)) (hne4:B4≠R∧B5≠R) :
 Calls Tryz.prog 89 #[.pointer (some ⟨B4,0,none⟩),.pointer (some ⟨B5,0,none⟩)] w fun r w'=>r=.returned (.tuple #[])∧∃g gc,CntAt w' g a k∧w.heap.size≤g∧1≤gc∧w'.heap[R]?=some (rdO (.slice (some ⟨L,i+1,none⟩) (m+1) cap) v e t (some ⟨g,0,none⟩) 1 gc)∧Turn (fun q=>q=R) w w':=by
 have hba:Below w.heap.size w (w.drew.alloc (.cells #[.pointer (some ⟨R,5,none⟩)] 163)):=(bR w).drew.alloc lr _
 have HE:=hid (fun (w':World) (hw':w'=w.drew.alloc (.cells #[.pointer (some ⟨R,5,none⟩)] 163))=>aDa N ⟨#[97,114,114,105,118,101,100]⟩ lnA lnE s a b a2 b2 (by simp[ByteArray.size]) hpA hrA hpE hs hc hb hc2 ha2 k hok hv w.heap.size R L i m cap hm v e t la LT w' (by rw[hw'];exact aC _ hL) l0 l1 (by rw[hw'];exact heap_alloc_new w.drew _) (by rw[hw'];exact aC _ hR) (by rw[hw'];exact hNB.below hba) ⟨hNR,by rw[hw'];have:=bT hR;simp;omega⟩ ⟨by have:=bT hR;omega,hne⟩)
 have HC:=hid (fun (w':World) (h:w'.heap[B4]?=some (.cells #[.pointer (some ⟨R,0,none⟩)] 150)∧w'.heap[B5]?=some (.cells #[.pointer (some ⟨R,1,none⟩)] 51))=>(show w'.cell? ⟨B4,0,none⟩=some (.pointer (some ⟨R,0,none⟩))∧w'.cell? ⟨B5,0,none⟩=some (.pointer (some ⟨R,1,none⟩)) from⟨aA h.1 0,aA h.2 0⟩))
 have HB4:Hid (w.drew.heap[B4]?=_):=hid h4
 have HB5:Hid (w.drew.heap[B5]?=_):=hid h5
 have HNE:=hid hne4
 have HBA:=hid hba
 clear hpA hrA hpE hs hc hb hc2 ha2 hok hv hm hL l0 l1 hR hNB hNR hne h4 h5 hne4 hba
 go_enter Tryz.func89,Tryz.ntmps89
 go_upto_region 0 with (fail)
 refine wp_region_held_drew (S:=(fun w'=>w'.heap[B4]?=some (.cells #[.pointer (some ⟨R,0,none⟩)] 150)∧w'.heap[B5]?=some (.cells #[.pointer (some ⟨R,1,none⟩)] 51))) (by kernel_rfl) (⟨HB4.out,HB5.out⟩) (fun hS=>?_)
 refine tkQ 0 (v:=?_) ?_ hS ?_;rotate_left;· intro w' hw';have hcells:=HC.out w' hw';go_simp;(try rfl)
 simp only[Act.put,pq]
 refine tkQ 1 (v:=?_) ?_ hS ?_;rotate_left;· intro w' hw';have hcells:=HC.out w' hw';go_simp;(try rfl)
 simp only[Act.put,pq]
 refine tkQ 2 (v:=?_) ?_ hS ?_;rotate_left;· intro w' hw';have hcells:=HC.out w' hw';go_simp;(try rfl)
 simp only[Act.put,pq]
 refine tkQ 3 (v:=?_) ?_ hS ?_;rotate_left;· intro w' hw';have hcells:=HC.out w' hw';go_simp;(try rfl)
 simp only[Act.put,pq]
 refine ry [4] ?_
 refine arQ fun K hK=>?_
 go_simp;go_at_call 91;refine(lL _ _ _).mono ?_
 rintro x w1 ⟨rfl,rfl⟩
 refine hK.out _ _ (⟨aC _ hS.1,aC _ hS.2⟩) (fun hS=>?_)
 clear hK K
 (try simp only[Act.put,pq])
 refine ry [5] ?_
 refine arQ fun K hK=>?_
 go_simp;go_at_call 90;refine(HE.out _ rfl).mono ?_
 rintro x w2 ⟨rfl,g,gc,hcg,hNg,hc1,hR2,ht2⟩
 have HX:=hid (And.intro hcg (And.intro hNg (And.intro hc1 hR2)));have HT:=hid ht2
 refine hK.out _ _ (⟨ht2.keep hS.1 (by have:=HNE.out;omega),ht2.keep hS.2 (by have:=HNE.out;omega)⟩) (fun hS=>?_)
 clear hK K
 (try simp only[Act.put,pq])
 refine wpAnyH_done (by kernel_rfl) ?_ _
 (try dsimp only)
 clear hS
 obtain⟨h1,h2,h3,h5⟩:=HX.out
 exact bodyPost_end (results_none rfl _ _ _) rfl ⟨rfl,g,gc,h1,by simp at h2;omega,h3,h5,(Turn.of_below HBA.out).trans HT.out⟩
end
end Go.Proofs.YteladbdfiannjaaGreatDoor
