/- A part. -/
import Derived.Test.YtoodnaghjpkjfaaGreatDoorSE27Mrg
import Derived.Test.YtoodnaghjpkjfaaGreatDoorSE28Mrg
namespace Go.Proofs.YtoodnaghjpkjfaaGreatDoor
open Tryz
set_option linter.unusedVariables false
set_option maxRecDepth 100000
set_option maxHeartbeats 64000000
set_option linter.unusedSimpArgs false
open Go Go.RowKit Go.Shelf
section
attribute [local go_sem] cQ fE cS dJ bV cA
theorem aAx (w:World) (r:Rd):(loadCellsFrom ⟨w.heap.size,0,none⟩ 0 8 #[]).run prog (w.alloc (tokO r))=.ok (tokA r) (w.alloc (tokO r)) :=
 run_loadCellsFrom_new w 172 (tokA r) 8 rfl
section
attribute [-go_sem] loadCellsFrom storeCells
attribute [local go_sem] mG mF pT tF tE sY aHm aHl mB mA
theorem aKk (b:Nat) (s:BA) (r:Rd) (w:World) (h:IsRd w b s r) (hf:r.Fit s) (hs:s.size<=100000) (az:TB w b) :
 CP 222 #[Pt b 0] w λx w'=>x=.returned (Sv (fW r 1).t)/\IsRd w' b s (r.name s)/\w.grownBy w' (some b):=by
 have HT:=f8 (sQ b s r 1 w h hs az);obtain⟨tk,ad⟩:=xe (fW r 1)
 obtain⟨r1,an⟩:=xe (r.take s 1)
 rw[<-ad,<-an] at HT;rw[<-ad];obtain⟨ax,aq⟩:=h_2 ad an;have a6:tk.t.size<=100000:=by
  rw[ad];unfold fW;split
  ·have:=hf.t;omega
  ·exact ii _
 clear ad an;have am:=f8 (λw2=>mC w2 #[I6 0,I6 0,Sv ⟨#[]⟩,Sv ⟨#[]⟩,I6 0,I6 0,.bool false,.bool false] rfl tk);have ai:=f8 (λ(w2:World) (h2:IsRd w2 b s r1)=>(aA h2.at_ 10:Ce w2 b 10 (I6 r1.e)));have ap:=f8 (λw'=>gB tk.t w' ga);by_cases he:r1.e=0
 ·have HE:=f8 he;have hk:r.e=0/\r.k=1:=by
   have h1:=aq.o;unfold Rd.take at h1;split at h1
   ·rename_i hx;rw[h1] at he;exact absurd he hx
   split at h1
   ·rename_i hx hy;rw[h1] at he;exact absurd he (Rd.fail_e _ _ _ gb)
   ·rename_i hx hy;exact⟨Decidable.not_not.1 hx,Decidable.not_not.1 hy⟩
  have aw:=f8 (show tk=r by rw[ax.o,fW,gw hk]);have qe:(r1.e==0)=true:=by simp[he]
  have a4:(r1.e != 0)=false:=by simp[he]
  obtain⟨q,hq⟩:=xe (aH tk.t)
  rw[<-hq] at ap;have HM:=f8 (show r.name s=if q=false then r1.fail r.p 12 else r1 by
   unfold Rd.name;dsimp only;rw[<-aq.o,hq,aw.o];simp only[HE.o,true_and])
  clear hq he hk;cases q
  ·have a3:=f8 (show r.name s=r1.fail r.p 12 from HM.trans (by first|exact gw rfl|exact gw trivial));have a2:=f8 (λ(w':World) (h':IsRd w' b s r1)=>bH b s r1 tk.p 12 w' h');go_enter func222,ntmps222
   go_upto_region 3 with (first
    | (go_at_call 225;refine(ap.o _).mono ?_;rintro e w3 ⟨rfl,ae⟩;have ac:=f8 ae;clear ae)
    | (go_at_call 267;refine HT.mono ?_;rintro e w2 ⟨rfl,h2,aa⟩;obtain⟨ah,ag⟩:=h_2 h2 aa;have av:=ai.o w2 h2;have ar:=am.o w2;have au:=h2.lt;clear h2 aa))
   have af:=jq w2 (tokO tk) (some b);have ak:=f8 (bN (ah.alloc (tokO tk)) ac.o (by rw[jb];omega));have aj:=f8 (ag.trans (af.trans (aU ac.o (some b))));have ab:w3.heap[w2.heap.size]?=some (tokO tk):=aB ac.o (ib w2 _);have a5:Ce w3 w2.heap.size 1 (I6 (tk.p:Int)):=aA ab 1;have al:=f8 (show w2.heap.size<w3.heap.size/\w2.heap.size≠b/\w3.heap[w2.heap.size]?=some (tokO tk) from⟨ltOf ab,by omega,ab⟩);clear af ab
   go_wp2_with (go_at_call 162;refine(a2.o w3 ak.o).mono ?_;rintro e w4 ⟨rfl,h4,ao⟩;obtain⟨ay,a0⟩:=h_2 h4 ao;have a1:=(aA ((ao.block w2.heap.size al.1 (by simp[al.2.1])).trans al.2.2) 2:Ce w4 w2.heap.size 2 (Sv tk.t));clear h4 ao)
   go_ret;rw[a3.o,<-aw.o];exact⟨rfl,ay.o,aj.trans a0.o⟩
  ·go_enter func222,ntmps222
   go_upto_region 4 with (first
    | (go_at_call 225;refine(ap.o _).mono ?_;rintro e w3 ⟨rfl,ae⟩;have ac:=f8 ae;clear ae)
    | (go_at_call 267;refine HT.mono ?_;rintro e w2 ⟨rfl,h2,aa⟩;obtain⟨ah,ag⟩:=h_2 h2 aa;have av:=ai.o w2 h2;have ar:=am.o w2;have au:=h2.lt;clear h2 aa))
   have af:=jq w2 (tokO tk) (some b);have ak:=f8 (bN (ah.alloc (tokO tk)) ac.o (by rw[jb];omega));have aj:=f8 (ag.trans (af.trans (aU ac.o (some b))));have ab:w3.heap[w2.heap.size]?=some (tokO tk):=aB ac.o (ib w2 _);have a1:Ce w3 w2.heap.size 2 (Sv tk.t):=aA ab 2;clear af ab;go_wp2;go_ret;rw[HM.o,f9 gb];exact⟨rfl,ak.o,aj.o⟩
 ·have HE:=f8 he;have qe:(r1.e==0)=false:=by simp[he]
  have a4:(r1.e != 0)=true:=by simp[he]
  clear he;go_enter func222,ntmps222
  go_wp2_with (go_at_call 267;refine HT.mono ?_;rintro e w2 ⟨rfl,h2,aa⟩;obtain⟨ah,ag⟩:=h_2 h2 aa;have av:=ai.o w2 h2;have ar:=am.o w2;have au:=h2.lt;clear h2 aa)
  go_ret;have HM:r.name s=r1:=by
   unfold Rd.name;dsimp only;rw[<-aq.o,f9 (λh=>HE.o h.1)]
  rw[HM];exact⟨rfl,ah.alloc _,ag.trans (jq _ _ _)⟩
theorem aEg (b:Nat) (s:BA) (r:Rd) (w:World) (h:IsRd w b s r) (hf:r.Fit s) (hs:s.size<=100000) (az:TB w b) :
 CP 229 #[Pt b 0,.func (.func 230) #[] #[]] w λx w'=>x=.returned (I6 (r.moment s gX).1)/\IsRd w' b s (r.moment s gX).2/\w.grownBy w' (some b):=by
 have HT:=f8 (sQ b s r 3 w h hs az);obtain⟨tk,ah⟩:=xe (fW r 3)
 obtain⟨r1,am⟩:=xe (r.take s 3)
 rw[<-ah,<-am] at HT;obtain⟨ax,ao⟩:=h_2 ah am;have a7:=f8 h.lt;have a6:tk.b.size<=400000:=by
  rw[ah];unfold fW;split
  ·have:=hf.b;omega
  ·exact ii _
 clear ah am;have a9:=f8 (λw2=>aAx w2 tk);have ak:=f8 (λw2=>mC w2 #[I6 0,I6 0,Sv ⟨#[]⟩,Sv ⟨#[]⟩,I6 0,I6 0,.bool false,.bool false] rfl tk);have aj:=f8 (λ(w2:World) (h2:IsRd w2 b s r1)=>(aA h2.at_ 10:Ce w2 b 10 (I6 r1.e)));by_cases he:r1.e=0
 ·have HE:=f8 he;have hk:r.e=0/\r.k=3:=by
   have h1:=ao.o;unfold Rd.take at h1;split at h1
   ·rename_i hx;rw[h1] at he;exact absurd he hx
   split at h1
   ·rename_i hx hy;rw[h1] at he;exact absurd he (Rd.fail_e _ _ _ gb)
   ·rename_i hx hy;exact⟨Decidable.not_not.1 hx,Decidable.not_not.1 hy⟩
  have aw:=f8 (show tk=r by rw[ax.o,fW,gw hk]);have qe:(r1.e==0)=true:=by simp[he]
  have a5:(r1.e != 0)=false:=by simp[he]
  have ac:=f8 (λw'=>zT tk.b ga w');obtain⟨n,hn⟩:=xe ((gX tk.b.data.toList).1)
  obtain⟨e,an⟩:=xe ((gX tk.b.data.toList).2)
  rw[<-hn,<-an] at ac;have HM:=f8 (show r.moment s gX=(n,if e≠0 then r1.fail r.p e else r1) by
   unfold Rd.moment;dsimp only;rw[<-ao.o,f9 (by simp[HE.o]),hn,an,aw.o])
  clear hn an he hk;by_cases ab:e=0
  ·have qz:(e==0)=true:=by simp[ab]
   have a3:(e != 0)=false:=by simp[ab]
   have al:=f8 ab;clear ab;go_enter func229,ntmps229
   go_wp2_with (first
    | (go_at_call 230;refine(ac.o _).mono ?_;rintro e w3 ⟨rfl,ae⟩;have ad:=f8 ae;clear ae)
    | (go_at_call 267;refine HT.mono ?_;rintro e w2 ⟨rfl,h2,aa⟩;obtain⟨ag,af⟩:=h_2 h2 aa;have au:=aj.o w2 h2;have ap:=ak.o w2;have ar:=h2.lt;clear h2 aa))
   go_ret;rw[HM.o,f9 (by simp[al.o])];have ai:=jq w2 (tokO tk) (some b);exact⟨rfl,bN (ag.alloc _) ad.o (by rw[jb];omega),af.trans (ai.trans (aU ad.o (some b)))⟩
  ·have qz:(e==0)=false:=by simp[ab]
   have a3:(e != 0)=true:=by simp[ab]
   have al:=f8 ab;have a4:=f8 (λ(w':World) (h':IsRd w' b s r1)=>bH b s r1 tk.p e w' h');clear ab;go_enter func229,ntmps229
   go_upto_region 5 with (first
    | (go_at_call 230;refine(ac.o _).mono ?_;rintro e w3 ⟨rfl,ae⟩;have ad:=f8 ae;clear ae)
    | (go_at_call 267;refine HT.mono ?_;rintro e w2 ⟨rfl,h2,aa⟩;obtain⟨ag,af⟩:=h_2 h2 aa;have au:=aj.o w2 h2;have ap:=ak.o w2;have ar:=h2.lt;clear h2 aa))
   have ai:=jq w2 (tokO tk) (some b);have a2:=f8 (bN (ag.alloc (tokO tk)) ad.o (by rw[jb];omega));have a1:=f8 (af.trans (ai.trans (aU ad.o (some b))));have aq:w3.heap[w2.heap.size]?=some (tokO tk):=aB ad.o (ib w2 _);have a8:Ce w3 w2.heap.size 1 (I6 (tk.p:Int)):=aA aq 1;clear ai aq;go_wp2_with (go_at_call 162;refine(a4.o w3 a2.o).mono ?_;rintro e w4 ⟨rfl,h4,av⟩;obtain⟨ay,a0⟩:=h_2 h4 av;clear h4 av)
   go_ret;rw[HM.o,gw al.o,<-aw.o];exact⟨rfl,ay.o,a1.trans a0.o⟩
 ·have HE:=f8 he;have qe:(r1.e==0)=false:=by simp[he]
  have a5:(r1.e != 0)=true:=by simp[he]
  clear he;go_enter func229,ntmps229
  go_wp2_with (go_at_call 267;refine HT.mono ?_;rintro e w2 ⟨rfl,h2,aa⟩;obtain⟨ag,af⟩:=h_2 h2 aa;have au:=aj.o w2 h2;have ap:=ak.o w2;have ar:=h2.lt;clear h2 aa)
  go_ret;have HM:r.moment s gX=(0,r1):=by
   unfold Rd.moment;dsimp only;rw[<-ao.o,gw HE.o]
  rw[HM];exact⟨rfl,ag.alloc _,af.trans (jq _ _ _)⟩
theorem aEf (b:Nat) (s:BA) (r:Rd) (w:World) (h:IsRd w b s r) (hf:r.Fit s) (hs:s.size<=100000) (az:TB w b) :
 CP 229 #[Pt b 0,.func (.func 232) #[] #[]] w λx w'=>x=.returned (I6 (r.moment s jN).1)/\IsRd w' b s (r.moment s jN).2/\w.grownBy w' (some b):=by
 have HT:=f8 (sQ b s r 3 w h hs az);obtain⟨tk,ah⟩:=xe (fW r 3)
 obtain⟨r1,am⟩:=xe (r.take s 3)
 rw[<-ah,<-am] at HT;obtain⟨ax,ao⟩:=h_2 ah am;have a7:=f8 h.lt;have a6:tk.b.size<=400000:=by
  rw[ah];unfold fW;split
  ·have:=hf.b;omega
  ·exact ii _
 clear ah am;have a9:=f8 (λw2=>aAx w2 tk);have ak:=f8 (λw2=>mC w2 #[I6 0,I6 0,Sv ⟨#[]⟩,Sv ⟨#[]⟩,I6 0,I6 0,.bool false,.bool false] rfl tk);have aj:=f8 (λ(w2:World) (h2:IsRd w2 b s r1)=>(aA h2.at_ 10:Ce w2 b 10 (I6 r1.e)));by_cases he:r1.e=0
 ·have HE:=f8 he;have hk:r.e=0/\r.k=3:=by
   have h1:=ao.o;unfold Rd.take at h1;split at h1
   ·rename_i hx;rw[h1] at he;exact absurd he hx
   split at h1
   ·rename_i hx hy;rw[h1] at he;exact absurd he (Rd.fail_e _ _ _ gb)
   ·rename_i hx hy;exact⟨Decidable.not_not.1 hx,Decidable.not_not.1 hy⟩
  have aw:=f8 (show tk=r by rw[ax.o,fW,gw hk]);have qe:(r1.e==0)=true:=by simp[he]
  have a5:(r1.e != 0)=false:=by simp[he]
  have ac:=f8 (λw'=>aD7 tk.b ga w');obtain⟨n,hn⟩:=xe ((jN tk.b.data.toList).1)
  obtain⟨e,an⟩:=xe ((jN tk.b.data.toList).2)
  rw[<-hn,<-an] at ac;have HM:=f8 (show r.moment s jN=(n,if e≠0 then r1.fail r.p e else r1) by
   unfold Rd.moment;dsimp only;rw[<-ao.o,f9 (by simp[HE.o]),hn,an,aw.o])
  clear hn an he hk;by_cases ab:e=0
  ·have qz:(e==0)=true:=by simp[ab]
   have a3:(e != 0)=false:=by simp[ab]
   have al:=f8 ab;clear ab;go_enter func229,ntmps229
   go_wp2_with (first
    | (go_at_call 232;refine(ac.o _).mono ?_;rintro e w3 ⟨rfl,ae⟩;have ad:=f8 ae;clear ae)
    | (go_at_call 267;refine HT.mono ?_;rintro e w2 ⟨rfl,h2,aa⟩;obtain⟨ag,af⟩:=h_2 h2 aa;have au:=aj.o w2 h2;have ap:=ak.o w2;have ar:=h2.lt;clear h2 aa))
   go_ret;rw[HM.o,f9 (by simp[al.o])];have ai:=jq w2 (tokO tk) (some b);exact⟨rfl,bN (ag.alloc _) ad.o (by rw[jb];omega),af.trans (ai.trans (aU ad.o (some b)))⟩
  ·have qz:(e==0)=false:=by simp[ab]
   have a3:(e != 0)=true:=by simp[ab]
   have al:=f8 ab;have a4:=f8 (λ(w':World) (h':IsRd w' b s r1)=>bH b s r1 tk.p e w' h');clear ab;go_enter func229,ntmps229
   go_upto_region 5 with (first
    | (go_at_call 232;refine(ac.o _).mono ?_;rintro e w3 ⟨rfl,ae⟩;have ad:=f8 ae;clear ae)
    | (go_at_call 267;refine HT.mono ?_;rintro e w2 ⟨rfl,h2,aa⟩;obtain⟨ag,af⟩:=h_2 h2 aa;have au:=aj.o w2 h2;have ap:=ak.o w2;have ar:=h2.lt;clear h2 aa))
   have ai:=jq w2 (tokO tk) (some b);have a2:=f8 (bN (ag.alloc (tokO tk)) ad.o (by rw[jb];omega));have a1:=f8 (af.trans (ai.trans (aU ad.o (some b))));have aq:w3.heap[w2.heap.size]?=some (tokO tk):=aB ad.o (ib w2 _);have a8:Ce w3 w2.heap.size 1 (I6 (tk.p:Int)):=aA aq 1;clear ai aq;go_wp2_with (go_at_call 162;refine(a4.o w3 a2.o).mono ?_;rintro e w4 ⟨rfl,h4,av⟩;obtain⟨ay,a0⟩:=h_2 h4 av;clear h4 av)
   go_ret;rw[HM.o,gw al.o,<-aw.o];exact⟨rfl,ay.o,a1.trans a0.o⟩
 ·have HE:=f8 he;have qe:(r1.e==0)=false:=by simp[he]
  have a5:(r1.e != 0)=true:=by simp[he]
  clear he;go_enter func229,ntmps229
  go_wp2_with (go_at_call 267;refine HT.mono ?_;rintro e w2 ⟨rfl,h2,aa⟩;obtain⟨ag,af⟩:=h_2 h2 aa;have au:=aj.o w2 h2;have ap:=ak.o w2;have ar:=h2.lt;clear h2 aa)
  go_ret;have HM:r.moment s jN=(0,r1):=by
   unfold Rd.moment;dsimp only;rw[<-ao.o,gw HE.o]
  rw[HM];exact⟨rfl,ag.alloc _,af.trans (jq _ _ _)⟩
end
end
structure RdI (s:BA) (r:Rd):Prop where
 t0:r.e=0->r.k=0->r.t=⟨#[]⟩
 fit:r.Fit s
 k5:r.k<=5
theorem qV (r:Rd) (p:Nat) (e:Int):(r.fail p e).k=r.k:=by unfold Rd.fail;split<;>rfl
theorem mid_k (s:BA) (a o:Nat) (c:UInt8):(kP s a o c).k<=5:=by
 unfold kP;split
 ·unfold iD;split
  ·dsimp only;omega
  ·rw[qV];exact ii _
  ·rw[qV];exact ii _
 split
 ·unfold jS;split
  ·dsimp only;omega
  ·rw[qV];exact ii _
  ·rw[qV];exact ii _
 split
 ·dsimp only;omega
 split
 ·unfold jE
  extract_lets fq tq
  split
  ·rw[qV];exact ii _
  ·exact(by decide:2<=5)
 split
 ·exact gy _
 split
 ·exact gy _
 ·rw[qV];exact ii _
theorem adv_k {s:BA} {r:Rd} (h:r.k<=5):(r.adv s).k<=5:=by
 by_cases he:r.e=0
 ·cases hc:s.data.toList[bP s.data.toList r.nx spC]? with
  | none=>rw[pP he hc];exact ii _
  | some c =>
    rw[pO he hc];have hm:=mid_k s (bP s.data.toList r.nx spC) r.o c;unfold lU;split<;>exact hm
 ·unfold Rd.adv;rw[gw he];exact h
theorem aCn (s:BA) (a o:Nat) (c:UInt8) (hc:s.data.toList[a]?=some c):(kP s a o c).e=0->(kP s a o c).k≠0/\a<(kP s a o c).nx:=by
 unfold kP;split
 ·intro he;refine⟨(aIx s a o).2 he,?_⟩;revert he;unfold iD;split
  ·rename_i i b h;intro _;have:=rF _ _ _ _ _ _ h;dsimp only;omega
  ·rename_i i e h;intro he;exact absurd he (Rd.fail_e _ _ _ (oW _ _ _ _ _ _ h))
  ·intro he;exact absurd he (Rd.fail_e _ _ _ gb)
 split
 ·intro he;refine⟨(aIz s a o).2 he,?_⟩;revert he;unfold jS;split
  ·rename_i i b h;intro _;have:=(sI _ _ _ _ _ _ h).1;dsimp only;omega
  ·intro he;exact absurd he (Rd.fail_e _ _ _ gb)
  ·intro he;exact absurd he (Rd.fail_e _ _ _ gb)
 split
 ·rename_i hl;intro _;refine⟨by simp,?_⟩;exact runI_gt _ _ _ c hc (by unfold mN;rw[hl];rfl)
 split
 ·intro he;refine⟨(aIy s a o).2 he,?_⟩;revert he;unfold jE;dsimp only;have h1:a<=(if s.data.toList[a]?=some 45 then a+1 else a):=by split<;>omega
  obtain⟨f,hf⟩:=xe ((if s.data.toList[a]?=some 45 then a+1 else a))
  rw[<-hf] at h1 ⊢;have h2:=jW s.data.toList f bI;obtain⟨tq,aa⟩:=xe (bP s.data.toList f bI)
  rw[<-aa] at h2 ⊢;have h3:=jW s.data.toList (tq+1) bI;split
  ·intro he;exact absurd he (Rd.fail_e _ _ _ gb)
  ·rename_i hne;obtain⟨q,hq⟩:=xe ((if s.data.toList[tq]?=some 46/\(s.data.toList[tq+1]?.any bI)=true then (bP s.data.toList (tq+1) bI,true,false) else if s.data.toList[tq]?=some 100 then (tq+1,true,true) else (tq,false,false)))
   rw[<-hq];have h4:tq<=q.1:=by
    rw[hq];split
    ·dsimp only;omega
    ·split<;>dsimp only<;>omega
   intro _;dsimp only;split
   ·rw[nF];dsimp only;omega
   ·dsimp only;omega
 split
 ·intro _;exact⟨by simp,by dsimp only;omega⟩
 split
 ·intro _;exact⟨by simp,by dsimp only;omega⟩
 ·intro he;exact absurd he (Rd.fail_e _ _ _ gb)
theorem rM {s:BA} {r:Rd} (h:RdI s r) (p:Nat) (e:Int) (he:e≠0):RdI s (r.fail p e):=⟨λh1=>absurd h1 (Rd.fail_e _ _ _ he),gO h.fit _ _,by rw[qV];exact h.k5⟩
theorem mU {s:BA} {r:Rd} (h:RdI s r):RdI s (r.adv s):=by
 refine⟨?_,fit_adv h.fit,adv_k h.k5⟩;by_cases he:r.e=0
 ·cases hc:s.data.toList[bP s.data.toList r.nx spC]? with
  | none=>rw[pP he hc];intro _ _;rfl
  | some c =>
    rw[pO he hc];intro h1 h2;have hm:=aCn s _ r.o c hc;unfold lU at h1 h2;split at h2
    ·rename_i h3;exact absurd h2 (hm h3).1
    ·rename_i h3;rw[f9 h3] at h1;exact absurd h1 h3
 ·unfold Rd.adv;rw[gw he];exact h.t0
theorem pE {s:BA} {r:Rd} (he:r.e=0):r.mu s=1+2 * (s.size-r.nx)+(if r.k=0 then 0 else 1):=by unfold Rd.mu;rw[f9 (by simp[he])]
theorem tR {s:BA} {r:Rd}:(r.adv s).mu s<=r.mu s:=by
 by_cases he:r.e=0
 ·rw[pE he];cases hc:s.data.toList[bP s.data.toList r.nx spC]? with
  | none =>
    rw[pP he hc,pE (r:=r1F _ _) rfl,gw (show(r1F (bP s.data.toList r.nx spC) r.o).k=0 from rfl)];have:=jW s.data.toList r.nx spC;simp only[r1F];omega
  | some c =>
    rw[pO he hc];have hm:=aCn s _ r.o c hc;have hg:=jW s.data.toList r.nx spC;have aa:bP s.data.toList r.nx spC<s.size:=(List.getElem?_eq_some_iff.1 hc).1;unfold lU;by_cases h3:(kP s (bP s.data.toList r.nx spC) r.o c).e=0
    ·rw[gw h3,pE (r:={ kP s (bP s.data.toList r.nx spC) r.o c with t:=s.extract (bP s.data.toList r.nx spC) (kP s (bP s.data.toList r.nx spC) r.o c).nx }) h3];have:=(hm h3).2;dsimp only;split<;>split<;>omega
    ·rw[f9 h3,Rd.mu_bad h3];exact ii _
 ·unfold Rd.adv;rw[gw he];exact gy _
theorem aM8 {s:BA} {r:Rd} (he:r.e=0) (hk:r.k≠0):(r.adv s).mu s<r.mu s:=by
 rw[pE he,f9 hk];cases hc:s.data.toList[bP s.data.toList r.nx spC]? with
 | none =>
   rw[pP he hc,pE (r:=r1F _ _) rfl,gw (show(r1F (bP s.data.toList r.nx spC) r.o).k=0 from rfl)];have:=jW s.data.toList r.nx spC;simp only[r1F];omega
 | some c =>
   rw[pO he hc];have hm:=aCn s _ r.o c hc;have hg:=jW s.data.toList r.nx spC;have aa:bP s.data.toList r.nx spC<s.size:=(List.getElem?_eq_some_iff.1 hc).1;unfold lU;by_cases h3:(kP s (bP s.data.toList r.nx spC) r.o c).e=0
   ·rw[gw h3,pE (r:={ kP s (bP s.data.toList r.nx spC) r.o c with t:=s.extract (bP s.data.toList r.nx spC) (kP s (bP s.data.toList r.nx spC) r.o c).nx }) h3];have:=(hm h3).2;dsimp only;split<;>omega
   ·rw[f9 h3,Rd.mu_bad h3];omega
theorem kW {s:BA} (r:Rd) (p:Nat) (e:Int) (he:e≠0):(r.fail p e).mu s<=r.mu s:=by rw[Rd.fail_mu r p e he];exact ii _
theorem iJ {s:BA} {r:Rd} (h:RdI s r) (t:BA):RdI s (r.expect s t):=by
 unfold Rd.expect;split;· exact h
 split;· exact mU h
 exact rM h _ _ gb
theorem kH {s:BA} {r:Rd} (t:BA):(r.expect s t).mu s<=r.mu s:=by
 unfold Rd.expect;split;· exact gy _
 split;· exact tR
 exact kW _ _ _ gb
theorem nY {s:BA} {r:Rd} (h:RdI s r) (k:Nat):RdI s (r.take s k):=by
 unfold Rd.take;split;· exact h
 split;· exact rM h _ _ gb
 exact mU h
theorem aBy {s:BA} {r:Rd} (k:Nat):(r.take s k).mu s<=r.mu s:=by
 unfold Rd.take;split;· exact gy _
 split;· exact kW _ _ _ gb
 exact tR
theorem aN0 {s:BA} {r:Rd} (h:RdI s r):RdI s (r.name s):=by
 unfold Rd.name;dsimp only;split
 ·exact rM (nY h 1) _ _ gb
 ·exact nY h 1
theorem name_mu {s:BA} {r:Rd}:(r.name s).mu s<=r.mu s:=by
 unfold Rd.name;dsimp only;split
 ·rw[Rd.fail_mu _ _ _ gb];exact ii _
 ·exact aBy 1
theorem wN {s:BA} {r:Rd} (h:RdI s r) (f:List UInt8->Int × Int):RdI s (r.moment s f).2:=by
 unfold Rd.moment;dsimp only;split
 ·exact nY h 3
 ·dsimp only;split
  ·rename_i h1;exact rM (nY h 3) _ _ h1
  ·exact nY h 3
theorem aAv {s:BA} {r:Rd} (f:List UInt8->Int × Int):(r.moment s f).2.mu s<=r.mu s:=by
 unfold Rd.moment;dsimp only;split
 ·exact aBy 3
 ·dsimp only;split
  ·rename_i h1;rw[Rd.fail_mu _ _ _ h1];exact ii _
  ·exact aBy 3
def aOs (s:BA) (rd:Rd->Val × Rd):Prop:=∀r,RdI s r->RdI s (rd r).2/\(rd r).2.mu s<=r.mu s/\(r.e=0->(rd r).2.mu s<r.mu s)/\((rd r).2.e=0->r.e=0)
theorem jK {s:BA} {r:Rd} {t:BA} (h:(r.expect s t).e=0):r.e=0:=by
 unfold Rd.expect at h;split at h
 ·rename_i h1;exact absurd h h1
 ·rename_i h1;exact Decidable.not_not.1 h1
theorem take_e {s:BA} {r:Rd} {k:Nat} (h:(r.take s k).e=0):r.e=0:=by
 unfold Rd.take at h;split at h
 ·rename_i h1;exact absurd h h1
 ·rename_i h1;exact Decidable.not_not.1 h1
theorem name_e {s:BA} {r:Rd} (h:(r.name s).e=0):r.e=0:=by
 unfold Rd.name at h;dsimp only at h;split at h
 ·exact absurd h (Rd.fail_e _ _ _ gb)
 ·exact take_e h
theorem fail_e0 {r:Rd} {p:Nat} {e:Int} (h:(r.fail p e).e=0):r.e=0:=by
 unfold Rd.fail at h;split at h
 ·rename_i h1;exact h1
 ·rename_i h1;exact absurd h h1
theorem wW {s:BA} {rd:Rd->Val × Rd} (ab:aOs s rd) {r:Rd} (h:RdI s r) (he:r.e=0) (aa:Bool) (t:BA) :
 RdI s (rd (if aa then r else r.expect s t)).2/\(rd (if aa then r else r.expect s t)).2.mu s<r.mu s:=by
 cases aa
 ·simp only[og,kz];have h1:=iJ h t;have h2:=kH (s:=s) (r:=r) t;obtain⟨a,b,c,d⟩:=ab _ h1;refine⟨a,?_⟩;by_cases hx:(r.expect s t).e=0
  ·exact ix (c hx) h2
  ·rw[Rd.mu_bad hx] at b;have:=Rd.mu_pos (s:=s) he;omega
 ·simp only[je];obtain⟨a,b,c,d⟩:=ab _ h;exact⟨a,c he⟩
theorem aAw {s:BA} {rd:Rd->Val × Rd} (hrd:aOs s rd):∀(F:Nat) (first:Bool) (r:Rd) (acc:List Val),RdI s r->RdI s (dN s rd F first r acc).2/\(dN s rd F first r acc).2.mu s<=r.mu s/\((dN s rd F first r acc).2.e=0->r.e=0)
 | 0,_,r,_,h=>⟨h,gy _,λh=>h⟩
 | F+1,first,r,acc,h=>by
   rw[dN];split
   ·exact⟨h,gy _,λh=>h⟩
   ·rename_i hc;have he:r.e=0:=Decidable.not_not.1 λh=>hc (.inl h);obtain⟨a,b⟩:=wW hrd h he first ⟨#[44]⟩
    obtain⟨c,d,e⟩:=aAw hrd F false _ (acc++[(rd (if first then r else r.expect s ⟨#[44]⟩)).1]) a;exact⟨c,by dsimp only;omega,λ_=>he⟩
def rJ (s:BA) (first:Bool) (r:Rd) (acc:List (ByteArray × Val)):Rd :=
 let r1:=if first then r else r.expect s ⟨#[44]⟩
 let r2:=r1.name s
 let nm:BA:=if r1.e=0/\r1.k=1 then r1.t else ⟨#[]⟩
 (if r2.e=0/\acc.any (λx=>decide (x.1=nm))=true then r2.fail r1.p 7 else r2).expect s ⟨#[58]⟩
def aK5 (s:BA) (first:Bool) (r:Rd):BA :=
 let r1:=if first then r else r.expect s ⟨#[44]⟩
 if r1.e=0/\r1.k=1 then r1.t else ⟨#[]⟩
theorem rK (s:BA) (rd:Rd->Val × Rd) (f:Nat) (aa:Bool) (r:Rd) (acc:List (ByteArray × Val)):fY s rd (f+1) aa r acc=if r.e≠0\/r.is ⟨#[125]⟩=true then (acc,r) else
 fY s rd f false (rd (rJ s aa r acc)).2 (acc++[(aK5 s aa r,(rd (rJ s aa r acc)).1)]):=by
 rw[fY];rfl
theorem aIu {s:BA} {r:Rd} (h:RdI s r) (aa:Bool) (acc:List (ByteArray × Val)):RdI s (rJ s aa r acc)/\(rJ s aa r acc).mu s<=r.mu s/\((rJ s aa r acc).e=0->r.e=0):=by
 have h1:RdI s (if aa then r else r.expect s ⟨#[44]⟩)/\(if aa then r else r.expect s ⟨#[44]⟩).mu s<=r.mu s/\((if aa then r else r.expect s ⟨#[44]⟩).e=0->r.e=0):=by
  split
  ·exact⟨h,gy _,λh=>h⟩
  ·exact⟨iJ h _,kH _,jK⟩
 unfold rJ;dsimp only;obtain⟨r1,ac⟩:=xe ((if aa then r else r.expect s ⟨#[44]⟩))
 rw[<-ac] at h1 ⊢;obtain⟨a,b,c⟩:=h1;have h2:=aN0 a;have h3:=name_mu (s:=s) (r:=r1);obtain⟨nm,ab⟩:=xe ((if r1.e=0/\r1.k=1 then r1.t else ⟨#[]⟩):BA)
 rw[<-ab];have h4:RdI s (if (r1.name s).e=0/\acc.any (λx=>decide (x.1=nm))=true then (r1.name s).fail r1.p 7 else r1.name s)/\(if (r1.name s).e=0/\acc.any (λx=>decide (x.1=nm))=true then (r1.name s).fail r1.p 7 else r1.name s).mu s<=(r1.name s).mu s/\((if (r1.name s).e=0/\acc.any (λx=>decide (x.1=nm))=true then (r1.name s).fail r1.p 7 else r1.name s).e=0->(r1.name s).e=0):=by
  split
  ·exact⟨rM h2 _ _ gb,kW _ _ _ gb,fail_e0⟩
  ·exact⟨h2,gy _,λh=>h⟩
 obtain⟨d,e,f⟩:=h4;refine⟨iJ d _,?_,λhx=>c (name_e (f (jK hx)))⟩;have:=kH (s:=s) (r:=(if (r1.name s).e=0/\acc.any (λx=>decide (x.1=nm))=true then (r1.name s).fail r1.p 7 else r1.name s)) ⟨#[58]⟩;omega
theorem aAm {s:BA} {rd:Rd->Val × Rd} (ab:aOs s rd) {r:Rd} (h:RdI s r) (he:r.e=0) (aa:Bool) (acc:List (ByteArray × Val)) :
 RdI s (rd (rJ s aa r acc)).2/\(rd (rJ s aa r acc)).2.mu s<r.mu s:=by
 obtain⟨h1,h2,h3⟩:=aIu h aa acc
 obtain⟨a,b,c,d⟩:=ab _ h1;refine⟨a,?_⟩;by_cases hx:(rJ s aa r acc).e=0
 ·have:=c hx;omega
 ·rw[Rd.mu_bad hx] at b;have:=Rd.mu_pos (s:=s) he;omega
theorem aE2 {s:BA} {rd:Rd->Val × Rd} (hrd:aOs s rd):∀(F:Nat) (first:Bool) (r:Rd) (acc:List (ByteArray × Val)),RdI s r->RdI s (fY s rd F first r acc).2/\(fY s rd F first r acc).2.mu s<=r.mu s/\((fY s rd F first r acc).2.e=0->r.e=0)
 | 0,_,r,_,h=>⟨h,gy _,λh=>h⟩
 | F+1,first,r,acc,h=>by
   rw[rK];split
   ·exact⟨h,gy _,λh=>h⟩
   ·rename_i hc;have he:r.e=0:=Decidable.not_not.1 λh=>hc (.inl h);obtain⟨a,b⟩:=aAm hrd h he first acc
    obtain⟨c,d,e⟩:=aE2 hrd F false _ (acc++[(aK5 s first r,(rd (rJ s first r acc)).1)]) a;exact⟨c,by omega,λ_=>he⟩
theorem aCg (s:BA) (f:Nat) (r:Rd) (he:r.e≠0):rdV s f r=(eS,r):=by unfold rdV;rw[gw he]
theorem aCf (s:BA):∀f,aOs s (rdV s f):=by
 intro f
 induction f with
 | zero =>
   intro r h;by_cases he:r.e=0
   ·have hp:=Rd.mu_pos (s:=s) he;unfold rdV;rw[f9 (by simp[he])];by_cases hk:(r.k=0\/r.k=5)/\r.t≠⟨#[91]⟩/\r.t≠⟨#[123]⟩
    ·rw[gw hk];exact⟨rM h _ _ gb,kW _ _ _ gb,λ_=>by dsimp only;rw[Rd.fail_mu _ _ _ gb];exact hp,λ_=>he⟩
    ·rw[f9 hk];exact⟨rM h _ _ gb,kW _ _ _ gb,λ_=>by dsimp only;rw[Rd.fail_mu _ _ _ gb];exact hp,λ_=>he⟩
   ·rw[aCg s 0 r he];exact⟨h,gy _,λh1=>absurd h1 he,λh1=>h1⟩
 | succ f ih =>
   intro r h;by_cases he:r.e=0
   ·have hp:=Rd.mu_pos (s:=s) he;have hF:∀(x:Rd) (p:Nat) (e:Int),RdI s x->e≠0->RdI s (eS,x.fail p e).2/\(eS,x.fail p e).2.mu s<=r.mu s/\(r.e=0->(eS,x.fail p e).2.mu s<r.mu s)/\((eS,x.fail p e).2.e=0->r.e=0):=λx p e hx hne=>⟨rM hx _ _ hne,by dsimp only;rw[Rd.fail_mu _ _ _ hne];exact ii _,λ_=>by dsimp only;rw[Rd.fail_mu _ _ _ hne];exact hp,λ_=>he⟩
    have hL:∀(v:Val) (x:Rd),RdI s x->x.mu s<r.mu s->RdI s (v,x).2/\(v,x).2.mu s<=r.mu s/\(r.e=0->(v,x).2.mu s<r.mu s)/\((v,x).2.e=0->r.e=0):=λv x hx hm=>⟨hx,by dsimp only;omega,λ_=>hm,λ_=>he⟩
    unfold rdV;rw[f9 (by simp[he])];by_cases hk:(r.k=0\/r.k=5)/\r.t≠⟨#[91]⟩/\r.t≠⟨#[123]⟩
    ·rw[gw hk];exact hF _ _ _ h gb
    ·rw[f9 hk];have ac:r.k≠0:=by
      intro h0;refine hk ⟨.inl h0,?_⟩;rw[h.t0 he h0];exact⟨by simp,by simp⟩
     dsimp only;have a1:=mU h;have a2:=aM8 (s:=s) he ac;obtain⟨r1,ad⟩:=xe (r.adv s)
     rw[<-ad] at a1 a2 ⊢;by_cases c0:r.k=2
     ·rw[gw c0];exact hL _ _ a1 a2
     rw[f9 c0];by_cases c1:r.k=3
     ·rw[gw c1];exact hL _ _ a1 a2
     rw[f9 c1];by_cases c2:r.k=4
     ·rw[gw c2];exact hL _ _ a1 a2
     rw[f9 c2];by_cases c3:r.t=⟨#[91]⟩
     ·rw[gw c3];obtain⟨b1,b2,_⟩:=aAw ih (r1.mu s+1) true r1 [] a1;have b3:=kH (s:=s) (r:=(dN s (rdV s f) (r1.mu s+1) true r1 []).2) ⟨#[93]⟩;exact hL _ _ (iJ b1 _) ga
     rw[f9 c3];by_cases c4:r.t=⟨#[123]⟩
     ·rw[gw c4];obtain⟨b1,b2,_⟩:=aE2 ih (r1.mu s+1) true r1 [] a1;have b3:=kH (s:=s) (r:=(fY s (rdV s f) (r1.mu s+1) true r1 []).2) ⟨#[125]⟩;exact hL _ _ (iJ b1 _) ga
     rw[f9 c4];by_cases c5:r1.e≠0
     ·rw[gw c5];exact hL _ _ a1 a2
     rw[f9 c5];by_cases c6:r1.is ⟨#[40]⟩=true
     ·rw[gw c6];by_cases cn:aH r.t=false
      ·rw[gw cn];exact hF _ _ _ a1 gb
      ·rw[f9 cn];obtain⟨c1,c2,_,_⟩:=ih _ (mU a1);have c3:=tR (s:=s) (r:=r1);have b3:=kH (s:=s) (r:=(rdV s f (r1.adv s)).2) ⟨#[41]⟩;exact hL _ _ (iJ c1 _) ga
     rw[f9 c6];by_cases c7:r.t=⟨#[116,114,117,101]⟩
     ·rw[gw c7];exact hL _ _ a1 a2
     rw[f9 c7];by_cases c8:r.t=⟨#[102,97,108,115,101]⟩
     ·rw[gw c8];exact hL _ _ a1 a2
     rw[f9 c8];by_cases c9:r.t=⟨#[100,97,116,101]⟩
     ·rw[gw c9];exact hL _ _ (wN a1 _) (Nat.lt_of_le_of_lt (aAv _) a2)
     rw[f9 c9];by_cases ab:r.t=⟨#[116,105,109,101]⟩
     ·rw[gw ab];exact hL _ _ (wN a1 _) (Nat.lt_of_le_of_lt (aAv _) a2)
     rw[f9 ab];by_cases aa:r.t=⟨#[110,117,108,108]⟩/\f=7
     ·rw[gw aa];exact hL _ _ a1 a2
     ·rw[f9 aa];exact hF _ _ _ a1 gb
   ·rw[aCg s (f+1) r he];exact⟨h,gy _,λh1=>absurd h1 he,λh1=>h1⟩
theorem aHc (n:Int) (w:World):CP 165 #[I6 n] w λx w'=>x=.returned (.agg #[I6 2,I6 n,I6 0,Sv ⟨#[]⟩,Z0,Z0])/\BB w w':=by
 go_enter func165,ntmps165
 go_wp2;refine ig (v:=.agg #[I6 2,I6 n,I6 0,Sv ⟨#[]⟩,Z0,Z0]) (by simp[results,results165,go_sem]) rfl ?_;exact⟨rfl,(bR w).alloc lr _⟩
theorem aHd (n m:Int) (w:World):CP 164 #[I6 n,I6 m] w λx w'=>x=.returned (.agg #[I6 3,I6 n,I6 m,Sv ⟨#[]⟩,Z0,Z0])/\BB w w':=by
 go_enter func164,ntmps164
 go_wp2;refine ig (v:=.agg #[I6 3,I6 n,I6 m,Sv ⟨#[]⟩,Z0,Z0]) (by simp[results,results164,go_sem]) rfl ?_;exact⟨rfl,(bR w).alloc lr _⟩
theorem aEj (z:BA) (w:World):CP 166 #[Sv z] w λx w'=>x=.returned (.agg #[I6 4,I6 0,I6 0,Sv z,Z0,Z0])/\BB w w':=by
 go_enter func166,ntmps166
 go_wp2;refine ig (v:=.agg #[I6 4,I6 0,I6 0,Sv z,Z0,Z0]) (by simp[results,results166,go_sem]) rfl ?_;exact⟨rfl,(bR w).alloc lr _⟩
theorem aCm (z:BA) (w:World):CP 167 #[Sv z] w λx w'=>x=.returned (.agg #[I6 5,I6 0,I6 0,Sv z,Z0,Z0])/\BB w w':=by
 go_enter func167,ntmps167
 go_wp2;refine ig (v:=.agg #[I6 5,I6 0,I6 0,Sv z,Z0,Z0]) (by simp[results,results167,go_sem]) rfl ?_;exact⟨rfl,(bR w).alloc lr _⟩
theorem aEk (n:Int) (w:World):CP 228 #[I6 n] w λx w'=>x=.returned (.agg #[I6 6,I6 n,I6 0,Sv ⟨#[]⟩,Z0,Z0])/\BB w w':=by
 go_enter func228,ntmps228
 go_wp2;refine ig (v:=.agg #[I6 6,I6 n,I6 0,Sv ⟨#[]⟩,Z0,Z0]) (by simp[results,results228,go_sem]) rfl ?_;exact⟨rfl,(bR w).alloc lr _⟩
theorem aEi (n:Int) (w:World):CP 231 #[I6 n] w λx w'=>x=.returned (.agg #[I6 7,I6 n,I6 0,Sv ⟨#[]⟩,Z0,Z0])/\BB w w':=by
 go_enter func231,ntmps231
 go_wp2;refine ig (v:=.agg #[I6 7,I6 n,I6 0,Sv ⟨#[]⟩,Z0,Z0]) (by simp[results,results231,go_sem]) rfl ?_;exact⟨rfl,(bR w).alloc lr _⟩
theorem aEh (w:World):CP 227 #[.bool true] w λx w'=>x=.returned (.agg #[I6 1,I6 1,I6 0,Sv ⟨#[]⟩,Z0,Z0])/\BB w w':=by
 go_enter func227,ntmps227
 go_wp2;refine ig (v:=.agg #[I6 1,I6 1,I6 0,Sv ⟨#[]⟩,Z0,Z0]) (by simp[results,results227,go_sem]) rfl ?_;exact⟨rfl,(bR w).alloc lr _⟩
theorem aCl (w:World):CP 227 #[.bool false] w λx w'=>x=.returned (.agg #[I6 1,I6 0,I6 0,Sv ⟨#[]⟩,Z0,Z0])/\BB w w':=by
 go_enter func227,ntmps227
 go_wp2;refine ig (v:=.agg #[I6 1,I6 0,I6 0,Sv ⟨#[]⟩,Z0,Z0]) (by simp[results,results227,go_sem]) rfl ?_;exact⟨rfl,(bR w).alloc lr _⟩
theorem ld6 {w:World} {N:Nat} {x0 x1 x2 x3 x4 x5:Value} {t:TypeId} {fr:Nat × Nat} (h:w.heap[N]?=some (.cells #[x0,x1,x2,x3,x4,x5] t fr)):(loadCellsFrom ⟨N,0,none⟩ 0 6 #[]).run prog w=.ok #[x0,x1,x2,x3,x4,x5] w:=by
 have:=qj (P:=prog) w ⟨N,0,none⟩ [x0,x1,x2,x3,x4,x5] (λj v hv=>by
  rw[yM,ir,aA h j];simpa using hv)
 exact this
theorem st6 {w:World} {N:Nat} {aa:Array Value} (h:w.heap[N]?=some (.cells aa 67 (0,0))) (hc:aa.size=6) (x0 x1 x2 x3 x4 x5:Value) (h1:∀v∈[x0,x1,x2,x3,x4,x5],v.oneCell'=true) :
 (storeCells ⟨N,0,none⟩ [x0,x1,x2,x3,x4,x5] 0).run prog w=.ok () (w.setRow N #[x0,x1,x2,x3,x4,x5]):=by
 have:=run_storeCells_from (P:=prog) N 67 [x0,x1,x2,x3,x4,x5] 0 aa w h (by rw[hc];rfl) h1
 simpa using this
theorem aJ4:(prog.info? 67).map (·.size)=some 6:=by kernel_rfl
theorem aC2 (w:World) (z:Array Value) (hz:z.size=6) (x0 x1 x2 x3 x4 x5:Value) (h1:∀v∈[x0,x1,x2,x3,x4,x5],v.oneCell'=true) :
 (storeCells ⟨w.heap.size,0,none⟩ [x0,x1,x2,x3,x4,x5] 0).run prog (w.alloc (.cells z 67))=.ok () (w.alloc (.cells #[x0,x1,x2,x3,x4,x5] 67)):=by
 have:=run_storeCells_new (P:=prog) w 67 z #[x0,x1,x2,x3,x4,x5] (by rw[aJ4];rfl) (by rw[hz];rfl) (by
  rw[qo];intro v hv;exact h1 v (by simpa using hv))
 exact this
abbrev valZ:Obj:=.cells #[I6 0,I6 0,I6 0,.string ⟨#[]⟩,Z0,Z0] 67
theorem BuiltV.grownB {T B b:Nat} {w w':World} {v:Value} {k:Nat} {l:List Val} (h:BuiltV T B w v k l) (hg:w.grownBy w' (some b)) (hb:b<B):BuiltV T B w' v k l:=by
 have ho:=h.own;obtain⟨cs,h1,h2,h3⟩:=h;refine⟨cs,h1,h2.kept hg ?_,λj hj hj'=>(h3 j hj hj').same λi hi=>⟨⟨hi.1,by have:=hg.size;omega,hi.2.2⟩,hg.block i hi.2.1 (by have:=hi.1;simp;omega)⟩⟩;cases hv:v.ownBlock with
 | none=>exact .inl rfl
 | some g=>right;intro e;have:=(ho g hv).1;cases e;omega
theorem aX {w w':World} {b N:Nat} {o:Obj} (hg:w.grownBy w' (some b)) (h:w.heap[N]?=some o) (hne:N≠b):w'.heap[N]?=some o:=(hg.block N (ltOf h) (by simp[hne])).trans h
def muW (w:World) (b:Nat) (s:BA):Nat:=if intOf ((w.cell? ⟨b,10,none⟩).getD undef)≠0 then 0 else 1+2 * (s.size-(intOf ((w.cell? ⟨b,1,none⟩).getD undef)).toNat)+(if intOf ((w.cell? ⟨b,2,none⟩).getD undef)=0 then 0 else 1)
theorem aCk {w:World} {b:Nat} {s:BA} {r:Rd} (h:IsRd w b s r):muW w b s=r.mu s:=by
 unfold muW Rd.mu;rw[show Ce w b 10 (I6 r.e) from aA h.at_ 10,show Ce w b 1 (I6 (r.nx:Int)) from aA h.at_ 1,show Ce w b 2 (I6 (r.k:Int)) from aA h.at_ 2];simp only[kq,intOf,Int.toNat_natCast];congr 2;have:((r.k:Int)=0)=(r.k=0):=by rw[eq_iff_iff];omega
 simp only[this]
theorem wT (t:BA) (ht:t.size<=140737488351232) (c:VC) (d:Val) (w:World) (hd:IsVal (· < w.heap.size) w c d) :
 CP 226 #[Sv t,c.v] w λx w'=>(∃c':VC,x=.returned c'.v/\IsVal (λb=>w.heap.size<=b/\b<w'.heap.size) w' c' (.mk 10 0 0 t [d] [] []))/\BB w w':=by
 have aj:∀o1 o2 o3:Obj,BB w (((w.alloc o1).alloc o2).alloc o3):=λo1 o2 o3=>(((bR w).alloc lr _).alloc ge _).alloc gi _;obtain⟨wq,ab⟩:=xe (((w.alloc (vObj c)).alloc valZ).alloc (vObj c))
 have ac:BB w wq:=by rw[ab];exact aj _ _ _
 have am:IsVal (· < wq.heap.size) wq c d:=hd.same λb hb=>⟨by have:=ac.size;omega,ac.block b hb⟩
 have hN:wq.heap[w.heap.size+2]?=some (vObj c):=by rw[ab];exact aN _ _ _ ge
 have ag:wq.heap.size=w.heap.size+3:=by rw[ab];simp
 have ai:wq.heap[w.heap.size+1]?=some valZ:=by rw[ab];exact aC _ (aN _ _ _ ge)
 have ak:IsVal (· < wq.heap.size) wq ⟨10,0,0,t,some ⟨w.heap.size+2,0,none⟩,1,1,none,0,0⟩ (.mk 10 0 0 t [d] [] []):=by
  refine⟨⟨rfl,rfl,rfl,rfl,⟨by simp[I64],by simp[I64],by simp[I64],ht,(show 1 * 88<=140737488351232 by decide),(show 0 * 104<=140737488351232 by decide),gy _,gy _⟩,rfl,rfl,rfl⟩,.inr ⟨w.heap.size+2,0,rfl,by omega,⟨⟨c,⟨aA hN 0,aA hN 1,aA hN 2,aA hN 3,aA hN 4,aA hN 5⟩,am⟩,trivial⟩⟩,.inl rfl⟩
 have af:=f8 (aId ak);obtain⟨ah,ap,an⟩:=h_3 ac ag ai;rw[ab] at af;clear aj ac am hN ag ai ak hd;dsimp only[VC.v] at af;go_enter func226,ntmps226
 go_wp2_with (go_at_call 270;refine af.mono ?_;rintro e w1 ⟨c1,rfl,ad,ae⟩;rw[<-ab] at ad ae;obtain⟨al,aq⟩:=h_2 ad ae;have aa:=aB ad an.o;obtain⟨k0,k1,k2,k3,k4,k5⟩:=c_6 aa;have f0:=aF aa 0;have f1:=aF aa 1;have f2:=aF aa 2;have f3:=aF aa 3;have f4:=aF aa 4;have f5:=aF aa 5;(try dsimp only at k0 k1 k2 k3 k4 k5);clear ad ae aa)
 refine ig (v:=c1.v) (by simp[results,results226,go_sem,k0,k1,k2,k3,k4,k5]) rfl ?_;have hs:=ap.o;have ar:=al.size;refine⟨⟨c1,rfl,?_⟩,?_⟩
 ·refine aq.same λi hi=>⟨⟨by omega,by simp[World.setCell];exact hi.2⟩,?_⟩
  iterate 6 (refine(ij _ _ _ _ gl).trans ?_)
  rfl
 ·have ao:=ah.trans (al.mono ah.size);exact(((((ao.setCell ge _).setCell ge _).setCell ge _).setCell ge _).setCell ge _).setCell ge _
section
def sM (w:World) (b:Nat) (s:BA) (q:Val × Rd) (x:Ending) (w':World):Prop:=∃(c:VC) (d:Val),x=.returned c.v/\IsVal (λi=>w.heap.size<=i/\i<w'.heap.size) w' c d/\(q.2.e=0->d=q.1)/\IsRd w' b s q.2/\w.grownBy w' (some b)
def aJf (f:Nat):Prop:=∀(b:Nat) (s:BA) (r:Rd) (dep:Int) (w:World),IsRd w b s r->RdI s r->s.size<=100000->TB w b->dep+f=8->CP 107 #[Pt b 0,I6 dep] w (sM w b s (rdV s f r))
def ListRel (w:World) (b N:Nat) (s:BA) (f:Nat) (r0:Rd) (first:Bool) (wr:World):Prop :=
 ∃(r:Rd) (acc accd:List Val) (v:Value) (F:Nat),IsRd wr b s r/\RdI s r/\accd.length=acc.length/\(r.e=0->accd=acc)/\dN s (rdV s f) (r0.mu s+1) true r0 []=dN s (rdV s f) F first r acc/\r.mu s<F/\acc.length+r.mu s<=r0.mu s /\
  wr.heap[N]?=some valZ/\wr.heap[N+1]?=some (.cells #[I6 8,I6 0,I6 0,.string ⟨#[]⟩,v,Z0] 67)/\BuiltV 67 (N+2) wr v accd.length accd/\w.grownBy wr (some b)
theorem aN4 (s:BA) (r:Rd):r.mu s<=2 * s.size+2:=by unfold Rd.mu;split<;>(try split)<;>omega
section
attribute [-go_sem] loadCellsFrom storeCells
attribute [local go_sem] mG mF pT tF tE sY mB mA
theorem aKs (f:Nat) (IH:aJf f) (b:Nat) (s:BA) (r0:Rd) (av:Int) (w:World) (h:IsRd w b s r0) (hI:RdI s r0) (hs:s.size<=100000) (b7:TB w b) (cj:av+1+f=8) (da:0<=av) :
 CP 168 #[Pt b 0,I6 av] w
  (sM w b s (.mk 8 0 0 ⟨#[]⟩ (dN s (rdV s f) (r0.mu s+1) true r0 []).1 [] [],(dN s (rdV s f) (r0.mu s+1) true r0 []).2.expect s ⟨#[93]⟩)):=by
 obtain⟨ti,hi,cm,cz,cr⟩:=jr pG;have ci:=f8 b7;have c6:=aN4 s r0;obtain⟨Q,hQ⟩:=xe (dN s (rdV s f) (r0.mu s+1) true r0 [])
 rw[<-hQ];have HQ:=f8 hQ;clear hQ;have az:=aC2 (w.alloc valZ) #[I6 0,I6 0,I6 0,Sv ⟨#[]⟩,Z0,Z0] rfl (I6 8) (I6 0) (I6 0) (Sv ⟨#[]⟩) Z0 Z0 gj;simp only[jb] at az;obtain⟨cp,cn⟩:=h_2 h hI;have c8:=h.lt;clear h hI b7;go_enter func168,ntmps168
 go_wp2;clear az;obtain⟨N,hN⟩:=xe w.heap.size
 have ah:=f8 (show N≠b/\N+1≠b by omega);have c4:b<N:=ga
 rw[<-hN];have ai:=f8 hN;clear hN
 go_loopw [6] (λfv wr=>∃first:Bool,fv=.bool first/\ListRel w b N s f r0 first wr) (λ_ wr=>muW wr b s)
 case atStart =>
  refine⟨true,rfl,r0,[],[],Z0,r0.mu s+1,(cp.alloc _).alloc _,cn.o,rfl,λ_=>rfl,rfl,pj _,by simp,?_,?_,BuiltV.nil _ _ _ _,(jq _ _ _).trans (jq _ _ _)⟩
  ·rw[ai.o];exact aC _ (ib w _)
  ·rw[ai.o,<-jb w valZ];exact ib (w.alloc valZ) _
 case round =>
  obtain⟨first,rfl,r,acc,aa,v,F,hr,hI,au,bt,b9,hF,c9,bs,b0,ao,hg⟩:=hrel;obtain⟨HR,HI,bd,bz⟩:=h_4 hr hI bt au;have db:aa.length<=200010:=by rw[au];omega
  obtain⟨be,bm,a9,HG⟩:=h_4 b9 bs b0 hg;have aj:=f8 (ci.grown hg (.inr rfl));have cq:=f8 (aCk hr);have a5:=f8 (uZ b s r ⟨#[93]⟩ wr hr);have cd:Ce wr b 10 (I6 r.e):=aA hr.at_ 10;obtain⟨F,rfl⟩:∃F',F=F'+1:=⟨F-1,by omega⟩
  obtain⟨q,hq⟩:=xe (r.is ⟨#[93]⟩:Bool)
  rw[<-hq] at a5;have b4:=f8 hq;clear au bt b9 bs b0 hg hr hI hq;by_cases he:r.e=0
  ·have HE:=f8 he;have qe:(r.e==0)=true:=by simp[he]
   clear he;cases q
   ·have b1:¬ (r.e≠0\/r.is ⟨#[93]⟩=true):=by rw[<-b4.o];simp[HE.o]
    have a1:=f8 (show Q=dN s (rdV s f) F false (rdV s f (if first=true then r else r.expect s ⟨#[44]⟩)).2 (acc++[(rdV s f (if first=true then r else r.expect s ⟨#[44]⟩)).1]) by
     rw[HQ.o,be.o,dN,f9 b1])
    have ag:=f8 (wW (aCf s f) HI.o HE.o first ⟨#[44]⟩);have bj:=f8 (iJ HI.o ⟨#[44]⟩);have bp:=f8 (dV b s r ⟨#[44]⟩ wr HR.o hs aj.o);obtain⟨r2,a6⟩:=xe ((if first=true then r else r.expect s ⟨#[44]⟩))
    rw[<-a6] at a1 ag;have bf:=f8 a6;clear a6 b1
    go_upto_if 19 with (go_at_call 220;refine a5.mono ?_;rintro e w2 ⟨rfl,a3⟩;obtain rfl:=a3.symm)
    go_cut [] (λwz=>IsRd wz b s r2/\RdI s r2/\wr.grownBy wz (some b))
    case first =>
     cases first
     ·have h2:r2=r.expect s ⟨#[44]⟩:=bf.o;go_wp2_with (go_at_call 221;refine bp.mono ?_;rintro e w2 ⟨rfl,h2,ae⟩;obtain⟨a0,ak⟩:=h_2 h2 ae;clear h2 ae)
      go_meet
      have h2:r2=r.expect s ⟨#[44]⟩:=bf.o;rw[h2];exact⟨a0.o,bj.o,ak.o⟩
     ·go_wp2
      go_meet
      have h2:r2=r:=bf.o;rw[h2];exact⟨HR.o,HI.o,⟨rfl,rfl,rfl,gy _,λ_ _ _=>rfl⟩⟩
    case rest =>
     obtain⟨aq,ca,ae⟩:=hcut;obtain⟨wb,b8⟩:=xe wc
     rw[<-b8] at aq ae ⊢;clear b8;obtain⟨k,hk⟩:=xe aa.length
     have af:=ao.grownB ae (show b<N+2 by omega);have bg:BuiltV 67 (N+2) wb.drew v k aa:=hk▸af.ext (gx _ _).drew;have co:=f8 (aX ae bm.o ah.1);have p1:wb.drew.heap[N+1]?=some (.cells #[I6 8,I6 0,I6 0,Sv ⟨#[]⟩,v,Z0] 67):=(aX ae a9.o ah.2:wb.heap[N+1]?=some (.cells #[I6 8,I6 0,I6 0,Sv ⟨#[]⟩,v,Z0] 67))
     have P1:f7 (wb.drew.heap[N+1]?=some (.cells #[I6 8,I6 0,I6 0,Sv ⟨#[]⟩,v,Z0] 67)):=f8 p1;have P2:f7 (IsRd wb.drew b s r2):=f8 (aq.grown (row:=none) ⟨rfl,rfl,rfl,gy _,λ_ _ _=>rfl⟩ ge);have cl:=f8 ae;have a8:=f8 ((aj.grown ae (.inr rfl)).grown (row:=none) ⟨rfl,rfl,rfl,gy _,λ_ _ _=>rfl⟩ (.inl rfl):TB wb.drew b);have cy:=f8 ca;have cL:=f8 (λ(h':IsRd wb.drew b s r2)=>IH b s r2 (av+1) wb.drew h' cy.o hs a8.o ga);have c7:N+1<wb.heap.size:=by have:=ltOf P1.o;simpa using this
     have HC:=f8 (λ(w':World) (h:w'.heap[N+1]?=some (.cells #[I6 8,I6 0,I6 0,Sv ⟨#[]⟩,v,Z0] 67))=>(show w'.cell? ⟨N+1,4,none⟩=some v from aA h 4));obtain⟨cs,bq,a4,bh⟩:=bg;have bo:=BuiltV.own ⟨cs,bq,a4,bh⟩;have bu:=f8 bq;have dc:k+1<=200010:=by rw[hk,bz.o];have:=Rd.mu_pos (s:=s) HE.o;omega
     have an:k+1<=maxLen:=by unfold maxLen;omega
     have am:(k+1) * 88<=140737488355328:=ga
     have bk:some (N+1)≠v.ownBlock:=λe=>by have:=(bo _ e.symm).1;omega
     have b3:=f8 (show v.ownBlock=none\/v.ownBlock≠some b by
      cases hv:v.ownBlock with
      | none=>exact .inl rfl
      | some g=>right;intro e;have:=(bo g hv).1;cases e;omega)
     have e1:IntKind.i64.wrap (av+1)=av+1:=ip _ ⟨by omega,by omega⟩;obtain⟨br,bb,HK⟩:=h_3 bh bo hk;clear aq ca ae ao af p1 bq bh hk;go_upto_region 7 with (fail)
     refine aP 8 (λw'=>w'.heap[N+1]?=some (.cells #[I6 8,I6 0,I6 0,Sv ⟨#[]⟩,v,Z0] 67)) gd gd gd gb (P1.o) (λhS=>?_);simp only[zdm,zdn,zdp,zdq];refine tC 0 HC ?_;refine tC 1 HC ?_;refine tC 2 HC ?_;refine tC 3 HC ?_;refine tC 4 HC ?_;refine yr 5 λK hK=>?_;go_simp;go_at_call 107;refine(cL.o P2.o).mono ?_;rintro e w1 ⟨c1,d1,rfl,b6,bw,ba,ar⟩;have q1:=f8 (aX ar P1.o ah.2);have cR:=ar.size;simp only[oo] at cR;refine kOQ hK (q1.o) λhS=>?_;clear hK K
     refine yr 6 λK hK=>?_;go_simp;refine kOQ hK (aC _ q1.o) λhS=>?_;clear hK K
     refine yr 7 λK hK=>?_;refine step_append_lies _ gh _ _ _ gh (N+2) 67 ti _ 6 88 underlying64 hi cm cz cr rfl ga v k (cs.flatMap VC.cs) gh ((a4.kept ar b3.o).alloc _) ⟨w1.heap.size,0,none⟩ 1 1 c1.cs gh gh (World.news_of_block (ib w1 _)) (by simp[VC.cs,Value.oneCell']) ga an am gi (w1.heap.size+1) ge ?_;intro gg cap w2 ap ad bv ck;have r1:=f8 (aL ad (aC _ q1.o) bk);refine kOQ hK (r1.o) λhS=>?_;clear hK K
     refine iq gd ?_ _
     (try dsimp only)
     have c5:w2.cell? ⟨N+1,4,none⟩=some v:=aA r1.o 4;have dd:w2.frozen? ⟨N+1,4,none⟩=false:=aF r1.o 4;have cv:=f8 (λu=>(aG (o:=4) u r1.o));clear hS HC;have ce:=f8 (show some b≠v.ownBlock from λe=>by
      rcases b3.o with h|h
      ·rw[h] at e;cases e
      ·exact h e.symm)
     have a2:=f8 (λu:Value=>(show IsRd (w2.setCell ⟨N+1,4,none⟩ u) b s (rdV s f r2).2 from⟨aD _ _ (aL ad (aC _ ba.at_) ce.o) gl,ba.ok⟩));have ct:=f8 (λu:Value=>(show(w2.setCell ⟨N+1,4,none⟩ u).heap[N]?=some valZ from aD _ _ (aL ad (aC _ (aX ar (show wb.drew.heap[N]?=some valZ from co.o) ah.1)) (λe=>by have:=(bb.o _ e.symm).1;omega)) gl))
     have ch:=f8 (show w.grownBy (w1.alloc (oV c1 67)) (some b) from((HG.trans cl.o).trans ((show wb.grownBy wb.drew (some b) from⟨rfl,rfl,rfl,gy _,λ_ _ _=>rfl⟩).trans ar)).trans (jq _ _ _));obtain⟨b2,cb,cw,ax⟩:=h_4 ad b6 bw ap;have cf:=f8 bv
     have bx:=f8 ar;have cc:N+2<=w1.heap.size:=by have:=ltOf q1.o;omega
     clear ad b6 bw ap bv ar ba an am;go_wp2
     go_roundw
     case rel =>
      refine⟨false,rfl,(rdV s f r2).2,acc++[(rdV s f r2).1],aa++[d1],_,F,a2.o _,ag.1,by rw[ik,ik,bz.o];rfl,?_,HQ.symm.trans a1.o,by have:=ag.2;omega,?_,ct.o _,cv.o _,?_,?_⟩
      ·intro hx;rw[cw.o hx,bd.o HE.o]
      ·have:=ag.2;rw[ik];simp only[im,i7];omega
      ·refine BuiltV.set ?_ _ _ gl;have cu:(aa++[d1]).length=k+1:=by rw[ik,HK.o];rfl
       rw[cu];refine BuiltV.push (N:=wb.drew.heap.size) bu.o (λj hj hj'=>?_) ga ?_ (by simp only[oo];omega) (λr e=>(bb.o r e).2) ax.o b2.o cf.o
       ·have b5:j<aa.length:=by have:=bu.o;have:=HK.o;omega
        rw[ku b5];exact(br.o j hj b5).same λi hi=>⟨⟨hi.1,by have:=bx.size;have:=hi.2.1;omega,hi.2.2⟩,bx.block i hi.2.1 (by have:=hi.1;simp;omega)⟩
       ·have e2:(aa++[d1])[k]' ga=d1:=by
         simp only[HK.o];exact List.getElem_concat_length rfl ge
        rw[e2];exact cb.o
      ·exact iP ch.o (((gx _ _).grown b2.o (by simp;have:=ai.o;omega) (λr e=>by have:=(bb.o r e).1;have:=ai.o;omega)).setCell (by dsimp only;have:=ai.o;omega) _)
     case measure =>
      rw[cq.o,aCk (a2.o _)];exact ag.2
   ·have aw:=f8 (show Q=(acc,r) by rw[HQ.o,be.o,dN,gw (.inr b4.symm)]);have bc:=f8 (dV b s r ⟨#[93]⟩ wr HR.o hs aj.o);have bl:=f8 (λ(w2:World) (hg:wr.grownBy w2 (some b))=>(show w2.heap[N]?=some valZ/\w2.heap[N+1]?=some (.cells #[I6 8,I6 0,I6 0,Sv ⟨#[]⟩,v,Z0] 67) from⟨aX hg bm.o ah.1,aX hg a9.o ah.2⟩));obtain⟨al,ab,rfl,bn,cg,cx⟩:=ao.shape;have bi:=f8 ao;clear ao
    skip
    go_upto_region 9 with (first
     | (go_at_call 221;refine bc.mono ?_;rintro e w2 ⟨rfl,h2,ae⟩;obtain⟨a0,ak⟩:=h_2 h2 ae;clear h2 ae)
     | (go_at_call 220;refine a5.mono ?_;rintro e w2 ⟨rfl,a3⟩;obtain rfl:=a3.symm))
    obtain⟨m0,m1⟩:=bl.o w2 ak.o;have c2:=ld6 m1;have c3:=st6 m0 rfl (I6 8) (I6 0) (I6 0) (Sv ⟨#[]⟩) (Sl al aa.length ab) Z0 gj;have a7:=ld6 (ke w2 N _ #[I6 8,I6 0,I6 0,Sv ⟨#[]⟩,Sl al aa.length ab,Z0] 67 (0,0) m0);clear m0 m1;go_wp2;refine ig (v:=.agg #[I6 8,I6 0,I6 0,Sv ⟨#[]⟩,Sl al aa.length ab,Z0]) (by simp[results,results168,go_sem,a7]) rfl ?_;have af:=bi.grownB ak.o (show b<N+2 by omega)
    refine⟨⟨8,0,0,⟨#[]⟩,al,aa.length,ab,none,0,0⟩,.mk 8 0 0 ⟨#[]⟩ aa [] [],rfl,?_,?_,?_,?_⟩
    ·refine⟨⟨rfl,rfl,rfl,rfl,⟨by simp[I64],by simp[I64],by simp[I64],ii _,(show aa.length * 88<=140737488351232 by omega),(show 0 * 104<=140737488351232 by decide),bn,gy _⟩,rfl,rfl,rfl⟩,?_,.inl rfl⟩;rcases af.vals with h|⟨g,o,h1,h2,h3⟩
     ·exact .inl h
     ·have ac:∀i,N+2<=i/\i<w2.heap.size->(w.heap.size<=i/\i<(w2.setRow N #[I6 8,I6 0,I6 0,Sv ⟨#[]⟩,Sl al aa.length ab,Z0]).heap.size)/\(w2.setRow N #[I6 8,I6 0,I6 0,Sv ⟨#[]⟩,Sl al aa.length ab,Z0]).heap[i]?=w2.heap[i]?:=λi hi=>⟨⟨by have:=ai.o;omega,by rw[ky];exact hi.2⟩,ko w2 N i _ ga⟩
      exact .inr ⟨g,o,h1,(ac g h2).1,IsVals.same ac (ac g h2).2 h3⟩
    ·intro he;have ay:=jK he;rw[aw.o] at ay ⊢;rw[bd.o ay]
    ·rw[aw.o];exact aI a0.o ah.1
    ·exact aK (HG.trans ak.o) N _ (by have:=ai.o;omega)
  ·have HE:=f8 he;have qe:(r.e==0)=false:=by simp[he]
   have aw:=f8 (show Q=(acc,r) by rw[HQ.o,be.o,dN,gw (.inl he)]);clear he;have bc:=f8 (dV b s r ⟨#[93]⟩ wr HR.o hs aj.o);have bl:=f8 (λ(w2:World) (hg:wr.grownBy w2 (some b))=>(show w2.heap[N]?=some valZ/\w2.heap[N+1]?=some (.cells #[I6 8,I6 0,I6 0,Sv ⟨#[]⟩,v,Z0] 67) from⟨aX hg bm.o ah.1,aX hg a9.o ah.2⟩));obtain⟨al,ab,rfl,bn,cg,cx⟩:=ao.shape;have bi:=f8 ao;clear ao
   skip
   go_upto_region 9 with (first
    | (go_at_call 221;refine bc.mono ?_;rintro e w2 ⟨rfl,h2,ae⟩;obtain⟨a0,ak⟩:=h_2 h2 ae;clear h2 ae)
    | (go_at_call 220;refine a5.mono ?_;rintro e w2 ⟨rfl,a3⟩;obtain rfl:=a3.symm))
   obtain⟨m0,m1⟩:=bl.o w2 ak.o;have c2:=ld6 m1;have c3:=st6 m0 rfl (I6 8) (I6 0) (I6 0) (Sv ⟨#[]⟩) (Sl al aa.length ab) Z0 gj;have a7:=ld6 (ke w2 N _ #[I6 8,I6 0,I6 0,Sv ⟨#[]⟩,Sl al aa.length ab,Z0] 67 (0,0) m0);clear m0 m1;go_wp2;refine ig (v:=.agg #[I6 8,I6 0,I6 0,Sv ⟨#[]⟩,Sl al aa.length ab,Z0]) (by simp[results,results168,go_sem,a7]) rfl ?_;have af:=bi.grownB ak.o (show b<N+2 by omega)
   refine⟨⟨8,0,0,⟨#[]⟩,al,aa.length,ab,none,0,0⟩,.mk 8 0 0 ⟨#[]⟩ aa [] [],rfl,?_,?_,?_,?_⟩
   ·refine⟨⟨rfl,rfl,rfl,rfl,⟨by simp[I64],by simp[I64],by simp[I64],ii _,(show aa.length * 88<=140737488351232 by omega),(show 0 * 104<=140737488351232 by decide),bn,gy _⟩,rfl,rfl,rfl⟩,?_,.inl rfl⟩;rcases af.vals with h|⟨g,o,h1,h2,h3⟩
    ·exact .inl h
    ·have ac:∀i,N+2<=i/\i<w2.heap.size->(w.heap.size<=i/\i<(w2.setRow N #[I6 8,I6 0,I6 0,Sv ⟨#[]⟩,Sl al aa.length ab,Z0]).heap.size)/\(w2.setRow N #[I6 8,I6 0,I6 0,Sv ⟨#[]⟩,Sl al aa.length ab,Z0]).heap[i]?=w2.heap[i]?:=λi hi=>⟨⟨by have:=ai.o;omega,by rw[ky];exact hi.2⟩,ko w2 N i _ ga⟩
     exact .inr ⟨g,o,h1,(ac g h2).1,IsVals.same ac (ac g h2).2 h3⟩
   ·intro he;have ay:=jK he;rw[aw.o] at ay ⊢;rw[bd.o ay]
   ·rw[aw.o];exact aI a0.o ah.1
   ·exact aK (HG.trans ak.o) N _ (by have:=ai.o;omega)
end
end
section
def sW (s:BA) (f:Nat) (r r1:Rd):Val × Rd :=
 if r1.e≠0 then (eS,r1)
 else if r1.is ⟨#[40]⟩ then (if aH r.t=false then (eS,r1.fail r.p 12) else let q:=rdV s f (r1.adv s);(.mk 10 0 0 r.t [q.1] [] [],q.2.expect s ⟨#[41]⟩))
 else if r.t=⟨#[116,114,117,101]⟩ then (.mk 1 1 0 ⟨#[]⟩ [] [] [],r1)
 else if r.t=⟨#[102,97,108,115,101]⟩ then (.mk 1 0 0 ⟨#[]⟩ [] [] [],r1)
 else if r.t=⟨#[100,97,116,101]⟩ then let q:=r1.moment s gX;(.mk 6 q.1 0 ⟨#[]⟩ [] [] [],q.2)
 else if r.t=⟨#[116,105,109,101]⟩ then let q:=r1.moment s jN;(.mk 7 q.1 0 ⟨#[]⟩ [] [] [],q.2)
 else if r.t=⟨#[110,117,108,108]⟩/\f=7 then (eS,r1)
 else (eS,r1.fail r.p 13)
theorem dT {S:Nat->Prop} {w:World} (k v:Int) (hk:I64 k) (hv:I64 v):IsVal S w ⟨k,v,0,⟨#[]⟩,none,0,0,none,0,0⟩ (.mk k v 0 ⟨#[]⟩ [] [] []) :=
 ⟨⟨rfl,rfl,rfl,rfl,⟨hk,hv,by simp[I64],ii _,(show 0 * 88<=140737488351232 by decide),(show 0 * 104<=140737488351232 by decide),gy _,gy _⟩,rfl,rfl,rfl⟩,.inl rfl,.inl rfl⟩
theorem yG (a:BA) (l:List UInt8):(a.toList==l)=decide (a=⟨l.toArray⟩):=by
 rw[kw,n8,mg,jw];exact⟨λh=>kn (lk h),λh=>by rw[h]⟩
theorem wS (s:BA) (r:Rd) (f:List UInt8->Int × Int) (h:∀l,I64 (f l).1):I64 (r.moment s f).1:=by
 unfold Rd.moment;dsimp only;split
 ·simp[I64]
 ·exact h _
theorem aB9 (y m d:Nat) : -719162<=(dC y m d).1/\(dC y m d).1<=2932896:=by
 by_cases h:(dC y m d).2=0
 ·exact aFg h
 ·unfold dC at h ⊢;split
  ·simp
  ·rename_i hn;rw[f9 hn] at h;simp at h
theorem aOj (l:List UInt8):I64 (gX l).1:=by
 unfold gX;split
 ·rename_i y m d _;have:=aB9 y m d;unfold I64;omega
 ·simp[I64]
theorem numD_lt {k:Nat} {l:List UInt8} {v:Nat} {r:List UInt8} (h:iL k 0 l=some (v,r)):v<10 ^ k:=by have:=(rR k 0 l v r h).2;simpa using this
theorem frac_bd {r:List UInt8} {z:Nat} {rr:List UInt8} (h:aB3 r=some (z,rr)):z<=999:=by
 unfold aB3 at h;split at h
 ·split at h
  ·rename_i n r' hn;split at h
   ·cases h
   ·cases h
    have:=numD_lt hn;omega
  ·cases h
 ·cases h;omega
theorem aOi (l:List UInt8):I64 (jN l).1:=by
 cases h:bL [([],4),([45],2),([45],2),([84],2),([58],2),([58],2)] l with
 | none=>rw[aFp h];simp[I64]
 | some q =>
   obtain⟨ns,r⟩:=q;obtain⟨hl,h9,_⟩:=rT _ _ _ _ gb h;obtain⟨y,m,d,hh,i,s6,rfl⟩:=aMt hl;rw[aFo h];have h1:=h9 hh ge;have h2:=h9 i ge;have h3:=h9 s6 ge;have h4:=aB9 y m d;cases hf:aB3 r with
   | none=>simp[I64]
   | some p =>
     have h5:=frac_bd hf;dsimp only;split
     ·simp[I64]
     split
     ·simp[I64]
     ·unfold I64;dsimp only;omega
section
attribute [-go_sem] loadCellsFrom storeCells
attribute [local go_sem] mG mF pT tF tE sY mB mA
theorem aHb (f:Nat) (IH:aJf f) (b:Nat) (s:BA) (tk r1:Rd) (ao:Int) (w:World) (h:IsRd w b s r1) (hI:RdI s r1) (b8:tk.Fit s) (hs:s.size<=100000) (ch:TB w b) (cv:ao+1+f=8) (dl:0<=ao) :
 CP 170 #[Pt b 0,tokV tk,I6 ao] w (sM w b s (sW s f tk r1)):=by
 obtain⟨T,hT⟩:=xe w.heap.size
 obtain⟨N,hN⟩:=xe (w.heap.size+1)
 have dh:=h.lt;obtain⟨Q,hQ⟩:=xe (sW s f tk r1)
 rw[<-hQ];have HQ:=f8 hQ;obtain⟨w0,a1⟩:=xe ((w.alloc (tokO tk)).alloc valZ)
 have ba:IsRd w0 b s r1:=by rw[a1];exact(h.alloc _).alloc _
 have bj:w.grownBy w0 (some b):=by rw[a1];exact(jq _ _ _).trans (jq _ _ _)
 have bl:w0.heap[N]?=some valZ:=by rw[a1,hN,<-jb w (tokO tk)];exact ib (w.alloc (tokO tk)) _
 have bd:w0.heap[T]?=some (tokO tk):=by rw[a1,hT];exact aC _ (ib w _)
 obtain⟨HR,HG,an,b9⟩:=h_4 ba bj bl bd;have aa:=f8 (show N≠b/\T≠b/\w.heap.size<=N/\w.heap.size<=T/\b<N/\b<T/\N<w0.heap.size/\T≠N by have:=ltOf bl;omega);have bi:=f8 (ch.grown bj (.inr rfl));have HI:=f8 hI;have cc:=f8 (show tk.t.size<=100000 by have:=b8.t;omega);obtain⟨HT,HN,HW⟩:=h_3 hT hN a1;have al:=f8 (uZ b s r1 ⟨#[40]⟩ w0 ba);have dp:Ce w0 b 10 (I6 r1.e):=aA ba.at_ 10;have dk:Ce w0 T 2 (Sv tk.t):=aA bd 2;have de:Ce w0 T 1 (I6 (tk.p:Int)):=aA bd 1;obtain⟨q,hq⟩:=xe (r1.is ⟨#[40]⟩:Bool)
 rw[<-hq] at al;have az:=f8 hq
 -- a value is stored into the result and returned
 have am:=f8 (λ(w2:World) (x0 x1 x2 x3 x4 x5:Value) (h1:∀v∈[x0,x1,x2,x3,x4,x5],v.oneCell'=true) (hz:w2.heap[N]?=some valZ) =>
  (show(storeCells ⟨N,0,none⟩ [x0,x1,x2,x3,x4,x5] 0).run prog w2=.ok () (w2.setRow N #[x0,x1,x2,x3,x4,x5])/\(loadCellsFrom ⟨N,0,none⟩ 0 6 #[]).run prog (w2.setRow N #[x0,x1,x2,x3,x4,x5])=.ok #[x0,x1,x2,x3,x4,x5] (w2.setRow N #[x0,x1,x2,x3,x4,x5]) from
    ⟨st6 hz rfl x0 x1 x2 x3 x4 x5 h1,ld6 (ke w2 N _ #[x0,x1,x2,x3,x4,x5] 67 (0,0) hz)⟩))
 clear h hI b8 ch hQ ba bj bl bd hq a1 hT hN;go_enter func170,ntmps170
 go_upto_region 1 with (fail)
 dsimp only[tokO,tokA] at HW;rw[<-HW.o];rw[show w.heap.size+1=N from HN.symm,show w.heap.size=T from HT.symm];by_cases he:r1.e=0
 ·have HE:=f8 he;have qe:(r1.e==0)=true:=by simp[he]
  have cq:(r1.e != 0)=false:=by simp[he]
  clear he;cases q
  ·obtain⟨b1,ck⟩:∃b1,(tk.t.toList==[116,114,117,101])=b1:=⟨_,rfl⟩
   obtain⟨b2,ay⟩:∃b2,(tk.t.toList==[102,97,108,115,101])=b2:=⟨_,rfl⟩
   obtain⟨b3,ad⟩:∃b3,(tk.t.toList==[100,97,116,101])=b3:=⟨_,rfl⟩
   obtain⟨b4,ct⟩:∃b4,(tk.t.toList==[116,105,109,101])=b4:=⟨_,rfl⟩
   obtain⟨b5,c7⟩:∃b5,(tk.t.toList==[110,117,108,108])=b5:=⟨_,rfl⟩
   have a0:=f8 ((yG tk.t [116,114,117,101]).symm.trans ck);have af:=f8 ((yG tk.t [102,97,108,115,101]).symm.trans ay);have au:=f8 ((yG tk.t [100,97,116,101]).symm.trans ad);have bm:=f8 ((yG tk.t [116,105,109,101]).symm.trans ct);have bz:=f8 ((yG tk.t [110,117,108,108]).symm.trans c7);cases b1
   ·cases b2
    ·cases b3
     ·cases b4
      ·by_cases bb:b5=true/\ao=0
       ·obtain⟨rfl,cg⟩:=bb;have co:=f8 (show f=7 by omega);have qd:(ao==0)=true:=by simp[cg]
        clear cg;go_upto_region 18 with (go_at_call 220;refine al.mono ?_;rintro e w2 ⟨rfl,ae⟩;obtain rfl:=ae.symm)
        obtain⟨av,ab⟩:=am.o w0 (I6 0) (I6 0) (I6 0) (Sv ⟨#[]⟩) Z0 Z0 gj an.o;go_wp2;refine ig (v:=.agg #[I6 0,I6 0,I6 0,Sv ⟨#[]⟩,Z0,Z0]) (by simp[results,results170,go_sem,ab]) rfl ?_;have ac:=f8 (show Q=(eS,r1) by rw[HQ.o,sW,f9 (by simp[HE.o]),f9 (by rw[<-az.o];decide),f9 (lv a0.o),f9 (lv af.o),f9 (lv au.o),f9 (lv bm.o),gw ⟨ld bz.o,co.o⟩])
        rw[ac.o];exact⟨⟨0,0,0,⟨#[]⟩,none,0,0,none,0,0⟩,eS,rfl,dT 0 0 gr gr,λ_=>rfl,aI (HR.o) aa.1,aK (HG.o) N _ aa.2.2.1⟩
       ·have c9:=f8 (show ¬ (tk.t=⟨#[110,117,108,108]⟩/\f=7) from λh=>bb ⟨by rw[<-bz.o];exact lg h.1,by omega⟩);have bf:=f8 (bH b s r1 tk.p 13 w0 HR.o);have ap:=f8 (show Q=(eS,r1.fail tk.p 13) by rw[HQ.o,sW,f9 (by simp[HE.o]),f9 (by rw[<-az.o];decide),f9 (lv a0.o),f9 (lv af.o),f9 (lv au.o),f9 (lv bm.o),f9 c9.o]);cases b5
        ·go_upto_region 20 with (first
          | (go_at_call 220;refine al.mono ?_;rintro e w2 ⟨rfl,ae⟩;obtain rfl:=ae.symm)
          | (go_at_call 162;refine bf.mono ?_;rintro e w2 ⟨rfl,h2,ag⟩;obtain⟨aq,aj⟩:=h_2 h2 ag;have ah:=f8 (aX ag an.o aa.1);clear h2 ag))
         obtain⟨av,ab⟩:=am.o w2 (I6 0) (I6 0) (I6 0) (Sv ⟨#[]⟩) Z0 Z0 gj ah.o;go_wp2;refine ig (v:=.agg #[I6 0,I6 0,I6 0,Sv ⟨#[]⟩,Z0,Z0]) (by simp[results,results170,go_sem,ab]) rfl ?_;have ac:=f8 (ap.o);rw[ac.o];exact⟨⟨0,0,0,⟨#[]⟩,none,0,0,none,0,0⟩,eS,rfl,dT 0 0 gr gr,λ_=>rfl,aI (aq.o) aa.1,aK (HG.trans aj.o) N _ aa.2.2.1⟩
        ·have qd:(ao==0)=false:=by
          rw[qg];intro e;exact bb ⟨rfl,e⟩
         clear bb;go_upto_region 20 with (first
          | (go_at_call 220;refine al.mono ?_;rintro e w2 ⟨rfl,ae⟩;obtain rfl:=ae.symm)
          | (go_at_call 162;refine bf.mono ?_;rintro e w2 ⟨rfl,h2,ag⟩;obtain⟨aq,aj⟩:=h_2 h2 ag;have ah:=f8 (aX ag an.o aa.1);clear h2 ag))
         obtain⟨av,ab⟩:=am.o w2 (I6 0) (I6 0) (I6 0) (Sv ⟨#[]⟩) Z0 Z0 gj ah.o;go_wp2;refine ig (v:=.agg #[I6 0,I6 0,I6 0,Sv ⟨#[]⟩,Z0,Z0]) (by simp[results,results170,go_sem,ab]) rfl ?_;have ac:=f8 (ap.o);rw[ac.o];exact⟨⟨0,0,0,⟨#[]⟩,none,0,0,none,0,0⟩,eS,rfl,dT 0 0 gr gr,λ_=>rfl,aI (aq.o) aa.1,aK (HG.trans aj.o) N _ aa.2.2.1⟩
      ·have a6:=f8 (aEf b s r1 w0 HR.o HI.fit hs bi.o);obtain⟨m,hm⟩:=xe ((r1.moment s jN).1)
       obtain⟨rm,ax⟩:=xe ((r1.moment s jN).2)
       rw[<-hm,<-ax] at a6;have bk:=f8 (show r1.moment s jN=(m,rm) by rw[hm,ax]);have bq:=f8 (show I64 m by rw[hm];exact wS s r1 jN aOi);clear hm ax;go_wp2_with (first
        | (go_at_call 220;refine al.mono ?_;rintro e w2 ⟨rfl,ae⟩;obtain rfl:=ae.symm)
        | (go_at_call 231;refine(aEi m w2).mono ?_;rintro e w3 ⟨rfl,ad⟩;have ak:=f8 ad;obtain⟨av,ab⟩:=am.o w3 (I6 7) (I6 m) (I6 0) (.string ⟨#[]⟩) Z0 Z0 gj (aB ad ah.o);clear ad)
        | (go_at_call 229;refine a6.mono ?_;rintro e w2 ⟨rfl,h2,ag⟩;obtain⟨aq,aj⟩:=h_2 h2 ag;have ah:=f8 (aX ag an.o aa.1);clear h2 ag))
       refine ig (v:=.agg #[I6 7,I6 m,I6 0,Sv ⟨#[]⟩,Z0,Z0]) (by simp[results,results170,go_sem,ab]) rfl ?_;have ac:=f8 (show Q=(.mk 7 m 0 ⟨#[]⟩ [] [] [],rm) by rw[HQ.o,sW,f9 (by simp[HE.o]),f9 (by rw[<-az.o];decide),f9 (lv a0.o),f9 (lv af.o),f9 (lv au.o),gw (ld bm.o)];dsimp only;rw[bk.o]);rw[ac.o]
       exact⟨⟨7,m,0,⟨#[]⟩,none,0,0,none,0,0⟩,_,rfl,dT 7 m gr bq.o,λ_=>rfl,aI (bN aq.o ak.o (by have:=ltOf aq.at_;exact this)) aa.1,aK ((HG.trans aj.o).trans (aU ak.o (some b))) N _ aa.2.2.1⟩
     ·have a6:=f8 (aEg b s r1 w0 HR.o HI.fit hs bi.o);obtain⟨m,hm⟩:=xe ((r1.moment s gX).1)
      obtain⟨rm,ax⟩:=xe ((r1.moment s gX).2)
      rw[<-hm,<-ax] at a6;have bk:=f8 (show r1.moment s gX=(m,rm) by rw[hm,ax]);have bq:=f8 (show I64 m by rw[hm];exact wS s r1 gX aOj);clear hm ax;go_wp2_with (first
       | (go_at_call 220;refine al.mono ?_;rintro e w2 ⟨rfl,ae⟩;obtain rfl:=ae.symm)
       | (go_at_call 228;refine(aEk m w2).mono ?_;rintro e w3 ⟨rfl,ad⟩;have ak:=f8 ad;obtain⟨av,ab⟩:=am.o w3 (I6 6) (I6 m) (I6 0) (.string ⟨#[]⟩) Z0 Z0 gj (aB ad ah.o);clear ad)
       | (go_at_call 229;refine a6.mono ?_;rintro e w2 ⟨rfl,h2,ag⟩;obtain⟨aq,aj⟩:=h_2 h2 ag;have ah:=f8 (aX ag an.o aa.1);clear h2 ag))
      refine ig (v:=.agg #[I6 6,I6 m,I6 0,Sv ⟨#[]⟩,Z0,Z0]) (by simp[results,results170,go_sem,ab]) rfl ?_;have ac:=f8 (show Q=(.mk 6 m 0 ⟨#[]⟩ [] [] [],rm) by rw[HQ.o,sW,f9 (by simp[HE.o]),f9 (by rw[<-az.o];decide),f9 (lv a0.o),f9 (lv af.o),gw (ld au.o)];dsimp only;rw[bk.o]);rw[ac.o]
      exact⟨⟨6,m,0,⟨#[]⟩,none,0,0,none,0,0⟩,_,rfl,dT 6 m gr bq.o,λ_=>rfl,aI (bN aq.o ak.o (by have:=ltOf aq.at_;exact this)) aa.1,aK ((HG.trans aj.o).trans (aU ak.o (some b))) N _ aa.2.2.1⟩
    ·go_wp2_with (first
      | (go_at_call 220;refine al.mono ?_;rintro e w2 ⟨rfl,ae⟩;obtain rfl:=ae.symm)
      | (go_at_call 227;refine(aCl w0).mono ?_;rintro e w3 ⟨rfl,ad⟩;have ak:=f8 ad;obtain⟨av,ab⟩:=am.o w3 (I6 1) (I6 0) (I6 0) (.string ⟨#[]⟩) Z0 Z0 gj (aB ad an.o);clear ad))
     refine ig (v:=.agg #[I6 1,I6 0,I6 0,Sv ⟨#[]⟩,Z0,Z0]) (by simp[results,results170,go_sem,ab]) rfl ?_;have ac:=f8 (show Q=(.mk 1 0 0 ⟨#[]⟩ [] [] [],r1) by rw[HQ.o,sW,f9 (by simp[HE.o]),f9 (by rw[<-az.o];decide),f9 (lv a0.o),gw (ld af.o)]);rw[ac.o];exact⟨⟨1,0,0,⟨#[]⟩,none,0,0,none,0,0⟩,_,rfl,dT 1 0 gr gr,λ_=>rfl,aI (bN HR.o ak.o (by have:=aa.o;omega)) aa.1,aK (HG.trans (aU ak.o (some b))) N _ aa.2.2.1⟩
   ·go_wp2_with (first
     | (go_at_call 220;refine al.mono ?_;rintro e w2 ⟨rfl,ae⟩;obtain rfl:=ae.symm)
     | (go_at_call 227;refine(aEh w0).mono ?_;rintro e w3 ⟨rfl,ad⟩;have ak:=f8 ad;obtain⟨av,ab⟩:=am.o w3 (I6 1) (I6 1) (I6 0) (.string ⟨#[]⟩) Z0 Z0 gj (aB ad an.o);clear ad))
    refine ig (v:=.agg #[I6 1,I6 1,I6 0,Sv ⟨#[]⟩,Z0,Z0]) (by simp[results,results170,go_sem,ab]) rfl ?_;have ac:=f8 (show Q=(.mk 1 1 0 ⟨#[]⟩ [] [] [],r1) by rw[HQ.o,sW,f9 (by simp[HE.o]),f9 (by rw[<-az.o];decide),gw (ld a0.o)]);rw[ac.o];exact⟨⟨1,1,0,⟨#[]⟩,none,0,0,none,0,0⟩,_,rfl,dT 1 1 gr gr,λ_=>rfl,aI (bN HR.o ak.o (by have:=aa.o;omega)) aa.1,aK (HG.trans (aU ak.o (some b))) N _ aa.2.2.1⟩
  ·have ci:=f8 az.symm;obtain⟨nb,br⟩:=xe (aH tk.t)
   have bs:=f8 (λw'=>gB tk.t w' (by have:=cc.o;omega));rw[<-br] at bs;have a5:=f8 br;clear br;cases nb
   ·have bf:=f8 (λ(w':World) (h':IsRd w' b s r1)=>bH b s r1 tk.p 12 w' h');have ap:=f8 (show Q=(eS,r1.fail tk.p 12) by rw[HQ.o,sW,f9 (by simp[HE.o]),gw ci.o,gw a5.symm]);go_upto_region 5 with (first
     | (go_at_call 220;refine al.mono ?_;rintro e w2 ⟨rfl,ae⟩;obtain rfl:=ae.symm)
     | (go_at_call 225;refine(bs.o _).mono ?_;rintro e w2 ⟨rfl,ay⟩;have af:=f8 ay;clear ay))
    have bh:=f8 (bN HR.o af.o (by have:=aa.o;omega));have aj:=f8 (HG.trans (aU af.o (some b)));have ah:=f8 (aB af.o an.o);have cw:Ce w2 T 1 (I6 (tk.p:Int)):=aA (aB af.o b9.o) 1;go_upto_region 6 with (go_at_call 162;refine(bf.o w2 bh.o).mono ?_;rintro e w3 ⟨rfl,h3,ar⟩;obtain⟨bc,be⟩:=h_2 h3 ar;have bp:=f8 (aX ar ah.o aa.1);clear h3 ar)
    obtain⟨av,ab⟩:=am.o w3 (I6 0) (I6 0) (I6 0) (Sv ⟨#[]⟩) Z0 Z0 gj bp.o;go_wp2;refine ig (v:=.agg #[I6 0,I6 0,I6 0,Sv ⟨#[]⟩,Z0,Z0]) (by simp[results,results170,go_sem,ab]) rfl ?_;have ac:=f8 (ap.o);rw[ac.o];exact⟨⟨0,0,0,⟨#[]⟩,none,0,0,none,0,0⟩,eS,rfl,dT 0 0 gr gr,λ_=>rfl,aI (bc.o) aa.1,aK (aj.trans be.o) N _ aa.2.2.1⟩
   ·obtain⟨ra,a8⟩:=xe (r1.adv s)
    obtain⟨q2,a9⟩:=xe (rdV s f ra)
    have ac:=f8 (show Q=(.mk 10 0 0 tk.t [q2.1] [] [],q2.2.expect s ⟨#[41]⟩) by rw[HQ.o,sW,f9 (by simp[HE.o]),gw ci.o,f9 (by rw[<-a5.o];decide),a9,a8]);have b0:=f8 (show RdI s ra by rw[a8];exact mU HI.o);have df:=f8 (show RdI s q2.2 by rw[a9];exact(aCf s f ra b0.o).1);have db:=f8 (λ(w':World) (h1:IsRd w' b s ra) (h2:TB w' b)=>(show CP 107 #[Pt b 0,I6 (ao+1)] w' (sM w' b s q2) from a9▸IH b s ra (ao+1) w' h1 b0.o hs h2 ga));have cp:=f8 (λ(w':World) (h1:IsRd w' b s q2.2) (h2:TB w' b)=>dV b s q2.2 ⟨#[41]⟩ w' h1 hs h2)
    have e1:IntKind.i64.wrap (ao+1)=ao+1:=ip _ ⟨by omega,by omega⟩;clear a9;go_upto_region 7 with (first
     | (go_at_call 220;refine al.mono ?_;rintro e w2 ⟨rfl,ae⟩;obtain rfl:=ae.symm)
     | (go_at_call 225;refine(bs.o _).mono ?_;rintro e w2 ⟨rfl,ay⟩;have af:=f8 ay;clear ay))
    have bh:=f8 (bN HR.o af.o (by have:=aa.o;omega));have aj:=f8 (HG.trans (aU af.o (some b)));have a4:=f8 (bi.below af.o);have ah:=f8 (aB af.o an.o);have cz:=f8 (aB af.o b9.o);have cf:=f8 (oQ b s r1 w2 bh.o hs a4.o);rw[<-a8] at cf;clear a8;go_upto_region 8 with (go_at_call 163;refine cf.mono ?_;rintro e w3 ⟨rfl,h3,ar⟩;have bc:=f8 h3;have be:=f8 (aj.trans ar);have bp:=f8 (aX ar ah.o aa.1);have cm:=f8 (aX ar cz.o aa.2.1);have a7:=f8 (a4.grown ar (.inr rfl));clear h3 ar)
    have cl:=f8 (λ(w4:World) (c1:VC)=>aC2 w4 #[I6 0,I6 0,I6 0,Sv ⟨#[]⟩,Z0,Z0] rfl (I6 c1.k) (I6 c1.i) (I6 c1.s) (Sv c1.t) (Sl c1.la c1.ll c1.lc) (Sl c1.fa c1.fl c1.fc) gj)
    go_upto_region 9 with (go_at_call 107;refine(db.o w3 bc.o a7.o).mono ?_;rintro e w4 ⟨c1,d1,rfl,cd,b6,ca,a2⟩;obtain⟨bv,cr,dd⟩:=h_3 ca cd b6;have cL:=f8 (be.trans a2);have cn:=f8 (aX a2 bp.o aa.1);have cy:=f8 (aX a2 cm.o aa.2.1);have bn:=f8 (a7.grown a2 (.inr rfl));have da:=f8 a2.size;have c5:=cl.o w4 c1;clear cd b6 ca a2)
    clear c5;obtain⟨M,hM⟩:=xe w4.heap.size
    obtain⟨w5,ai⟩:=xe (w4.alloc (vObj c1))
    have c4:=f8 (show IsRd w5 b s q2.2 by rw[ai];exact bv.alloc _);have cx:=f8 (show w.grownBy w5 (some b) by rw[ai];exact cL.trans (jq _ _ _));have cu:=f8 (show w5.heap[N]?=some valZ by rw[ai];exact aC _ cn.o);have c6:=f8 (show w5.heap[T]?=some (tokO tk) by rw[ai];exact aC _ cy.o);have c3:=f8 (show w5.heap[M]?=some (vObj c1) by rw[ai,hM];exact ib w4 _);have bg:=f8 (show TB w5 b by rw[ai];exact bn.grown (jq w4 (vObj c1) none) (.inl rfl))
    have cj:=f8 (show IsVal (λi=>w3.heap.size<=i/\i<w4.heap.size) w5 c1 d1 by rw[ai];exact cr.same λi hi=>⟨hi,iy _ _ _ hi.2⟩);have a3:=f8 (show w4.heap.size<w5.heap.size/\M≠b/\b<w3.heap.size by
     refine⟨by rw[ai,jb];exact pj _,?_,bc.lt⟩;have:=bv.lt;omega)
    dsimp only[vObj] at ai;rw[<-ai,<-hM];have dm:=f8 hM;clear ai hM;go_upto_region 10 with (go_at_call 221;refine(cp.o w5 c4.o bg.o).mono ?_;rintro e w6 ⟨rfl,h6,bt⟩;obtain⟨bw,aw⟩:=h_2 h6 bt;clear h6 bt)
    have cb:=f8 (aX aw.o cu.o aa.1);have cR:Ce w6 T 2 (Sv tk.t):=aA (aX aw.o c6.o aa.2.1) 2;have di:=ld6 (aX aw.o c3.o a3.2.1);have bx:IsVal (· < w6.heap.size) w6 c1 d1:=cj.same λi hi=>⟨by have:=aw.size;have:=a3.1;omega,aw.block i (by have:=a3.1;omega) (by have:=hi.1;have:=a3.2.2;simp;omega)⟩
    have ce:=f8 (wT tk.t (by have:=cc.o;omega) c1 d1 w6 bx);clear bx;dsimp only[VC.v] at ce;go_wp2_with (go_at_call 226;refine ce.mono ?_;rintro e w7 ⟨⟨c2,rfl,b7⟩,bo⟩;obtain⟨dc,bu⟩:=h_2 b7 bo;obtain⟨av,ab⟩:=am.o w7 (I6 c2.k) (I6 c2.i) (I6 c2.s) (Sv c2.t) (Sl c2.la c2.ll c2.lc) (Sl c2.fa c2.fl c2.fc) gj (aB bo cb.o);clear b7 bo)
    refine ig (v:=c2.v) (by simp[results,results170,go_sem,ab]) rfl ?_;rw[ac.o];refine⟨c2,.mk 10 0 0 tk.t [d1] [] [],rfl,?_,?_,aI (bN bw.o bu.o bw.lt) aa.1,aK ((cx.trans aw.o).trans (aU bu.o (some b))) N _ aa.2.2.1⟩
    ·have dn:=aw.size;have dq:=a3.1;have dj:=da.o;have c8:=be.size;have dg:=ltOf cb.o;exact dc.same λi hi=>⟨⟨by omega,by rw[ky];exact hi.2⟩,ko w7 N i _ ga⟩
    ·intro hx;rw[dd.o (jK hx)]
 ·have qe:(r1.e==0)=false:=by simp[he]
  have cq:(r1.e != 0)=true:=by simp[he]
  have HE:=f8 he;clear he;obtain⟨av,ab⟩:=am.o w0 (I6 0) (I6 0) (I6 0) (Sv ⟨#[]⟩) Z0 Z0 gj an.o;go_wp2;refine ig (v:=.agg #[I6 0,I6 0,I6 0,Sv ⟨#[]⟩,Z0,Z0]) (by simp[results,results170,go_sem,ab]) rfl ?_;have ac:=f8 (show Q=(eS,r1) by rw[HQ.o,sW,gw HE.o]);rw[ac.o];exact⟨⟨0,0,0,⟨#[]⟩,none,0,0,none,0,0⟩,eS,rfl,dT 0 0 gr gr,λ_=>rfl,aI (HR.o) aa.1,aK (HG.o) N _ aa.2.2.1⟩
end
end
end Go.Proofs.YtoodnaghjpkjfaaGreatDoor
