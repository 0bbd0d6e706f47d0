/-
  journal.forms' functions that read an entry of each kind, as JLaw's rdJ says. Conditions: the blocks hold a reader and an entry of which only kind and time are set; the sizes fit; Tabs, NumVars.
-/
import Derived.Test.YtaofolgaiipcjaaGreatDoorJP26Mrg
import Derived.Test.YtaofolgaiipcjaaGreatDoorJP38Mrg
import Derived.Test.YtaofolgaiipcjaaGreatDoorJP39Mrg
namespace Go.Proofs.YtaofolgaiipcjaaGreatDoor
set_option linter.unusedVariables false
set_option maxRecDepth 100000
set_option maxHeartbeats 16000000
set_option linter.unusedSimpArgs false
open Go Go.RowKit Go.Shelf
structure RAt (B rb eb:Nat) (s:ByteArray) (w0:World) (c:EnC) (r:JR) (w:World):Prop where
 r:IsJr rb s r w
 e:w.heap[eb]?=some (.cells c.ar 30)
 l:Below B w0 w
 n:B≤rb∧B≤eb∧rb≠eb∧B≤w.heap.size
theorem RAt.step {B rb eb:Nat} {s:ByteArray} {w0 w w':World} {c:EnC} {r r':JR} (h:RAt B rb eb s w0 c r w) (hj:IsJr rb s r' w') (hg:w.grownBy w' (some rb)):RAt B rb eb s w0 c r' w' :=
 ⟨hj,(hg.block eb (ltOf h.e) (fun e=>h.n.2.2.1 (by injection e with e;exact e.symm))).trans h.e,h.l.grown hg (Nat.le_trans (Nat.le_refl _) h.n.2.2.2) (fun k hk=>by cases hk;exact h.n.1),h.n.1,h.n.2.1,h.n.2.2.1,Nat.le_trans h.n.2.2.2 hg.size⟩
theorem RAt.set {B rb eb:Nat} {s:ByteArray} {w0 w:World} {c c':EnC} {r:JR} (h:RAt B rb eb s w0 c r w) {i:Nat} {v:Value} (hc:c'.ar=c.ar.setIfInBounds i v):RAt B rb eb s w0 c' r (w.setCell ⟨eb,i,none⟩ v) :=
 ⟨⟨(Below.heap_setCell _ _ _ _ h.n.2.2.1).trans h.r.at_,h.r.ok⟩,by rw[hc];exact set_heapJ h.e,h.l.setCell (p:=⟨eb,i,none⟩) h.n.2.1 _,h.n.1,h.n.2.1,h.n.2.2.1,by rw[World.size_setCell];exact h.n.2.2.2⟩
theorem RAt.ext {B rb eb:Nat} {s:ByteArray} {w0 w w':World} {c:EnC} {r:JR} (h:RAt B rb eb s w0 c r w) (hb:Below w.heap.size w w'):RAt B rb eb s w0 c r w' :=
 h.step ⟨heapExt hb h.r.at_,h.r.ok⟩ (grown_below hb)
theorem RAt.setR {B rb eb:Nat} {s:ByteArray} {w0 w:World} {c:EnC} {r:JR} (h:RAt B rb eb s w0 c r w) (e:Int):RAt B rb eb s w0 c ⟨r.i,e⟩ (w.setCell ⟨rb,2,none⟩ (.int .i64 e)) :=
 h.step ⟨set_heapJ (i:=2) h.r.at_,h.r.ok⟩ (grown_set (grown_below (Below.refl _ _)))
theorem rdA_call (B rb eb:Nat) (s:ByteArray) (r:JR) (k ti:Int) (hk:I64 k) (hti:I64 ti) (w0 w:World) (hs:s.size≤140737488351232) (h:RAt B rb eb s w0 { enZC with k:=k,ti:=ti } r w) :
 Calls Tryz.prog 143 #[.pointer (some ⟨rb,0,none⟩),.pointer (some ⟨eb,0,none⟩)] w fun x w'=>x=.returned (.tuple #[])∧RAt B rb eb s w0 (⟨k,ti,((r.text s).2.num s).1,(((r.text s).2.num s).2.num s).1,0,(r.text s).1,⟨#[]⟩,((((r.text s).2.num s).2.num s).2.text s).1,false,false,⟨0,0,0,⟨#[]⟩,none,0,0,none,0,0⟩,⟨0,none,0,0⟩⟩:EnC) ((((r.text s).2.num s).2.num s).2.text s).2 w':=by
 obtain⟨a,ha⟩:∃a,a=r.text s:=⟨_,rfl⟩
 rw[←ha]
 obtain⟨n1,h1⟩:∃n,n=a.2.num s:=⟨_,rfl⟩
 rw[←h1]
 obtain⟨n2,h2⟩:∃n,n=n1.2.num s:=⟨_,rfl⟩
 rw[←h2]
 obtain⟨t,ht⟩:∃t,t=n2.2.text s:=⟨_,rfl⟩
 rw[←ht]
 have H0:=hid h
 have HA:=hid ha
 have HN1:=hid h1
 have HN2:=hid h2
 have HT:=hid ht
 clear h ha h1 h2 ht
 go_enter Tryz.func143,Tryz.ntmps143
 go_wp2_with (first
  | (go_at_call 141;refine(rText_call rb s n2.2 hs _ ((H3.out.set (i:=2) (v:=.int .i64 n1.1) (c':=(⟨k,ti,n1.1,0,0,a.1,⟨#[]⟩,⟨#[]⟩,false,false,⟨0,0,0,⟨#[]⟩,none,0,0,none,0,0⟩,⟨0,none,0,0⟩⟩:EnC)) rfl).set (i:=3) (v:=.int .i64 n2.1) (c':=(⟨k,ti,n1.1,n2.1,0,a.1,⟨#[]⟩,⟨#[]⟩,false,false,⟨0,0,0,⟨#[]⟩,none,0,0,none,0,0⟩,⟨0,none,0,0⟩⟩:EnC)) rfl).r).mono ?_;rintro x w4 ⟨rfl,hj,hg⟩;rw[←HT.out] at hj;rw[←HT.out];have h4:=((H3.out.set (i:=2) (v:=.int .i64 n1.1) (c':=(⟨k,ti,n1.1,0,0,a.1,⟨#[]⟩,⟨#[]⟩,false,false,⟨0,0,0,⟨#[]⟩,none,0,0,none,0,0⟩,⟨0,none,0,0⟩⟩:EnC)) rfl).set (i:=3) (v:=.int .i64 n2.1) (c':=(⟨k,ti,n1.1,n2.1,0,a.1,⟨#[]⟩,⟨#[]⟩,false,false,⟨0,0,0,⟨#[]⟩,none,0,0,none,0,0⟩,⟨0,none,0,0⟩⟩:EnC)) rfl).step hj hg;have c7:=cellOf h4.e 7;have f7:=freeOf h4.e 7;(try dsimp only at c7);have H4:=hid h4;clear hj hg h4)
  | (go_at_call 49;refine(rNum_call rb s n1.2 hs _ H2.out.r).mono ?_;rintro x w3 ⟨rfl,hj,hg⟩;rw[←HN2.out] at hj;rw[←HN2.out];have h3:=H2.out.step hj hg;have c2:=cellOf h3.e 2;have f2:=freeOf h3.e 2;have c3:=cellOf h3.e 3;have f3:=freeOf h3.e 3;(try dsimp only at c2 c3);have H3:=hid h3;clear hj hg h3)
  | (go_at_call 49;refine(rNum_call rb s a.2 hs _ (H1.out.set (i:=5) (v:=.string a.1) (c':=(⟨k,ti,0,0,0,a.1,⟨#[]⟩,⟨#[]⟩,false,false,⟨0,0,0,⟨#[]⟩,none,0,0,none,0,0⟩,⟨0,none,0,0⟩⟩:EnC)) rfl).r).mono ?_;rintro x w2 ⟨rfl,hj,hg⟩;rw[←HN1.out] at hj;rw[←HN1.out];have H2:=hid ((H1.out.set (i:=5) (v:=.string a.1) (c':=(⟨k,ti,0,0,0,a.1,⟨#[]⟩,⟨#[]⟩,false,false,⟨0,0,0,⟨#[]⟩,none,0,0,none,0,0⟩,⟨0,none,0,0⟩⟩:EnC)) rfl).step hj hg);clear hj hg)
  | (go_at_call 141;refine(rText_call rb s r hs _ H0.out.r).mono ?_;rintro x w1 ⟨rfl,hj,hg⟩;rw[←HA.out] at hj;rw[←HA.out];have h1:=H0.out.step hj hg;have c5:=cellOf h1.e 5;have f5:=freeOf h1.e 5;(try dsimp only at c5);have H1:=hid h1;clear hj hg h1))
 refine bodyPost_end (results_none rfl _ _ _) rfl ?_
 exact⟨rfl,H4.out.set (i:=7) (v:=.string t.1) rfl⟩
theorem rdU_call (B rb eb:Nat) (s:ByteArray) (r:JR) (k ti:Int) (hk:I64 k) (hti:I64 ti) (w0 w:World) (hs:s.size≤140737488351232) (h:RAt B rb eb s w0 { enZC with k:=k,ti:=ti } r w) :
 Calls Tryz.prog 151 #[.pointer (some ⟨rb,0,none⟩),.pointer (some ⟨eb,0,none⟩)] w fun x w'=>x=.returned (.tuple #[])∧RAt B rb eb s w0 (⟨k,ti,0,(r.num s).1,0,⟨#[]⟩,⟨#[]⟩,⟨#[]⟩,false,false,⟨0,0,0,⟨#[]⟩,none,0,0,none,0,0⟩,⟨0,none,0,0⟩⟩:EnC) (r.num s).2 w':=by
 obtain⟨a,ha⟩:∃a,a=r.num s:=⟨_,rfl⟩
 rw[←ha]
 have H0:=hid h
 have HA:=hid ha
 clear h ha
 go_enter Tryz.func151,Tryz.ntmps151
 go_wp2_with (go_at_call 49;refine(rNum_call rb s r hs _ H0.out.r).mono ?_;rintro x w1 ⟨rfl,hj,hg⟩;rw[←HA.out] at hj;rw[←HA.out];have h1:=H0.out.step hj hg;have c3:=cellOf h1.e 3;have f3:=freeOf h1.e 3;(try dsimp only at c3);have H1:=hid h1;clear hj hg h1)
 refine bodyPost_end (results_none rfl _ _ _) rfl ?_
 exact⟨rfl,H1.out.set (i:=3) (v:=.int .i64 a.1) rfl⟩
theorem rdT_call (B rb eb:Nat) (s:ByteArray) (r:JR) (k ti:Int) (hk:I64 k) (hti:I64 ti) (w0 w:World) (hs:s.size≤140737488351232) (h:RAt B rb eb s w0 { enZC with k:=k,ti:=ti } r w) :
 Calls Tryz.prog 145 #[.pointer (some ⟨rb,0,none⟩),.pointer (some ⟨eb,0,none⟩)] w fun x w'=>x=.returned (.tuple #[])∧RAt B rb eb s w0 (⟨k,ti,0,0,0,⟨#[]⟩,⟨#[]⟩,⟨#[]⟩,false,false,⟨0,0,0,⟨#[]⟩,none,0,0,none,0,0⟩,⟨0,none,0,0⟩⟩:EnC) r w':=by
 have H0:=hid h
 clear h
 go_enter Tryz.func145,Tryz.ntmps145
 go_wp2
 refine bodyPost_end (results_none rfl _ _ _) rfl ?_
 exact⟨rfl,H0.out⟩
def rdLs (s:ByteArray) (r:JR):St × JR:=if (r.text s).2.e=0 then (match parseS (r.text s).1.data.toList with
 | some x=>(x,(r.text s).2)
 | none=>(⟨0,[]⟩,⟨(r.text s).2.i,13⟩)) else (⟨0,[]⟩,(r.text s).2)
theorem stZ_is (S:Nat→Prop) (w:World):IsSt S w ⟨0,none,0,0⟩ ⟨0,[]⟩:=⟨rfl,(by simp[I64]),⟨rfl,Nat.le_refl _,by simp,(fun x hx=>by cases hx),.inl rfl⟩⟩
theorem rdL_call (B rb eb:Nat) (s:ByteArray) (r:JR) (k ti:Int) (hk:I64 k) (hti:I64 ti) (w0 w:World) (hs:s.size≤140737488351232) (h:RAt B rb eb s w0 { enZC with k:=k,ti:=ti } r w) (hB:B=w0.heap.size) (hT:Tabs w0) (hNV:NumVars w0) (hsz:(r.text s).1.size≤1000000) :
 Calls Tryz.prog 139 #[.pointer (some ⟨rb,0,none⟩),.pointer (some ⟨eb,0,none⟩)] w fun x w'=>x=.returned (.tuple #[])∧∃cst:SC,RAt B rb eb s w0 (⟨k,ti,0,0,0,⟨#[]⟩,⟨#[]⟩,⟨#[]⟩,false,false,⟨0,0,0,⟨#[]⟩,none,0,0,none,0,0⟩,cst⟩:EnC) (rdLs s r).2 w'∧IsSt (fun i=>w.heap.size≤i∧i<w'.heap.size) w' cst (rdLs s r).1:=by
 have hr1:rdLs s r=rdLs s r:=rfl
 unfold rdLs at hr1
 obtain⟨R,hR⟩:∃R,R=rdLs s r:=⟨_,rfl⟩
 have hr1:R=if (r.text s).2.e=0 then (match parseS (r.text s).1.data.toList with
 | some x=>(x,(r.text s).2)
 | none=>(⟨0,[]⟩,⟨(r.text s).2.i,13⟩)) else (⟨0,[]⟩,(r.text s).2):=hR
 rw[←hR]
 obtain⟨a,ha⟩:∃a,a=r.text s:=⟨_,rfl⟩
 rw[←ha] at hr1 hsz
 obtain⟨at_,ai,ae⟩:=a
 dsimp only at hr1 hsz
 have hsp:=fun w1 (h1:Tabs w1) (h2:NumVars w1)=>stParse_call at_ hsz w1 h1 h2
 have H0:=hid h
 have HA:=hid ha
 have HTW:=hid (show Tabs w0∧NumVars w0 from⟨hT,hNV⟩)
 have HBB:=hid hB
 clear h ha hT hNV hR hB hsz
 rcases hp:parseS at_.data.toList with _ | dst
 ·rw[hp] at hr1
  have HSP:=hid (fun w1 (h1:Tabs w1) (h2:NumVars w1)=>(show Calls Tryz.prog 140 #[.string at_] w1 fun x w'=>x=.returned (.tuple #[.agg #[.int .i64 0,.slice none 0 0],.int .i64 13])∧Below w1.heap.size w1 w' from(hsp w1 h1 h2).mono fun x w' ⟨h,hb⟩=>⟨by
   rcases h with ⟨c,d,h3,_⟩ | ⟨_,h4⟩
   ·rw[hp] at h3;cases h3
   ·exact h4,hb⟩))
  clear hsp hp
  by_cases h0:ae=0
  ·subst h0
   have HR1:=hid (show R.1=⟨0,[]⟩ by rw[hr1];rfl)
   have HR2:=hid (show R.2=⟨ai,13⟩ by rw[hr1];rfl)
   clear hr1
   go_enter Tryz.func139,Tryz.ntmps139
   go_upto_region 1 with (first
    | (go_at_call 140;refine(HSP.out _ HTT.out.1 HTT.out.2).mono ?_;rintro x w2 ⟨rfl,hb2⟩;have HB2:=hid hb2;clear hb2)
    | (go_at_call 141;refine(rText_call rb s r hs _ H0.out.r).mono ?_;rintro x w1 ⟨rfl,hj,hg⟩;rw[←HA.out] at hj;rw[←HA.out];have HTT:=hid (show Tabs w1∧NumVars w1 from⟨HTW.out.1.below (HBB.out▸(H0.out.step hj hg).l),HTW.out.2.below (HBB.out▸(H0.out.step hj hg).l)⟩);have HG1:=hid hg.size;have H1:=hid (H0.out.step hj hg);clear hj hg))
   skip
   obtain⟨w3,hw3⟩:∃w3,w3=w2.alloc (.cells #[.int .i64 0,.slice none 0 0] 28):=⟨_,rfl⟩
   have h2:=H1.out.ext HB2.out
   have hb3:Below w2.heap.size w2 w3:=by rw[hw3];exact(Below.refl _ w2).alloc (Nat.le_refl _) _
   have h3:=h2.ext hb3
   have h3b:w3.heap[w2.heap.size]?=some (.cells #[.int .i64 0,.slice none 0 0] 28):=by rw[hw3];exact heap_alloc_new w2 _
   have z0:=cellOf h3b 0
   have z1:=cellOf h3b 1
   have y2:=cellOf h3.r.at_ 2
   have g2:=freeOf h3.r.at_ 2
   have x16:=cellOf h3.e 16
   have x17:=cellOf h3.e 17
   have g16:=freeOf h3.e 16
   have g17:=freeOf h3.e 17
   (try dsimp only[EnC.ar] at z0 z1 y2 x16 x17)
   rw[←hw3]
   have HSZ:=hid (show w.heap.size≤w2.heap.size from Nat.le_trans HG1.out HB2.out.size)
   have HSZ3:=hid hb3
   have HNE:=hid (show rb<w.heap.size∧eb<w.heap.size from⟨H0.out.r.lt,ltOf H0.out.e⟩)
   have H3:=hid h3
   clear hw3 h2 hb3 h3 h3b
   go_wp2
   refine bodyPost_end (results_none rfl _ _ _) rfl ?_
   have hx:=((H3.out.set (i:=16) (v:=.int .i64 0) (c':=(⟨k,ti,0,0,0,⟨#[]⟩,⟨#[]⟩,⟨#[]⟩,false,false,⟨0,0,0,⟨#[]⟩,none,0,0,none,0,0⟩,⟨0,none,0,0⟩⟩:EnC)) rfl).set (i:=17) (v:=.slice none 0 0) (c':=(⟨k,ti,0,0,0,⟨#[]⟩,⟨#[]⟩,⟨#[]⟩,false,false,⟨0,0,0,⟨#[]⟩,none,0,0,none,0,0⟩,⟨0,none,0,0⟩⟩:EnC)) rfl).setR 13
   refine⟨rfl,⟨0,none,0,0⟩,?_,?_⟩
   ·rw[HR2.out];exact hx
   ·rw[HR1.out]
    exact stZ_is _ _
  ·have q0:(ae==0)=false:=by simp[h0]
   have HR1:=hid (show R.1=⟨0,[]⟩ by rw[hr1,if_neg h0])
   have HR2:=hid (show R.2=⟨ai,ae⟩ by rw[hr1,if_neg h0])
   clear hr1 h0
   go_enter Tryz.func139,Tryz.ntmps139
   go_upto_region 1 with (first
    | (go_at_call 140;refine(HSP.out _ HTT.out.1 HTT.out.2).mono ?_;rintro x w2 ⟨rfl,hb2⟩;have HB2:=hid hb2;clear hb2)
    | (go_at_call 141;refine(rText_call rb s r hs _ H0.out.r).mono ?_;rintro x w1 ⟨rfl,hj,hg⟩;rw[←HA.out] at hj;rw[←HA.out];have HTT:=hid (show Tabs w1∧NumVars w1 from⟨HTW.out.1.below (HBB.out▸(H0.out.step hj hg).l),HTW.out.2.below (HBB.out▸(H0.out.step hj hg).l)⟩);have HG1:=hid hg.size;have H1:=hid (H0.out.step hj hg);clear hj hg))
   skip
   obtain⟨w3,hw3⟩:∃w3,w3=w2.alloc (.cells #[.int .i64 0,.slice none 0 0] 28):=⟨_,rfl⟩
   have h2:=H1.out.ext HB2.out
   have hb3:Below w2.heap.size w2 w3:=by rw[hw3];exact(Below.refl _ w2).alloc (Nat.le_refl _) _
   have h3:=h2.ext hb3
   have h3b:w3.heap[w2.heap.size]?=some (.cells #[.int .i64 0,.slice none 0 0] 28):=by rw[hw3];exact heap_alloc_new w2 _
   have z0:=cellOf h3b 0
   have z1:=cellOf h3b 1
   have y2:=cellOf h3.r.at_ 2
   have g2:=freeOf h3.r.at_ 2
   have x16:=cellOf h3.e 16
   have x17:=cellOf h3.e 17
   have g16:=freeOf h3.e 16
   have g17:=freeOf h3.e 17
   (try dsimp only[EnC.ar] at z0 z1 y2 x16 x17)
   rw[←hw3]
   have HSZ:=hid (show w.heap.size≤w2.heap.size from Nat.le_trans HG1.out HB2.out.size)
   have HSZ3:=hid hb3
   have HNE:=hid (show rb<w.heap.size∧eb<w.heap.size from⟨H0.out.r.lt,ltOf H0.out.e⟩)
   have H3:=hid h3
   clear hw3 h2 hb3 h3 h3b
   go_wp2
   refine bodyPost_end (results_none rfl _ _ _) rfl ?_
   refine⟨rfl,⟨0,none,0,0⟩,?_,?_⟩
   ·rw[HR2.out];exact H3.out
   ·rw[HR1.out];exact stZ_is _ _
 ·rw[hp] at hr1
  have HSP:=hid (fun w1 (h1:Tabs w1) (h2:NumVars w1)=>(show Calls Tryz.prog 140 #[.string at_] w1 fun x w'=>(∃c:SC,x=.returned (.tuple #[.agg #[.int .i64 c.e,.slice c.a c.n c.c],.int .i64 0])∧IsSt (fun b=>w1.heap.size≤b∧b<w'.heap.size) w' c dst)∧Below w1.heap.size w1 w' from(hsp w1 h1 h2).mono fun x w' ⟨h,hb⟩=>⟨by
   rcases h with ⟨c,d,h3,h5,h6⟩ | ⟨h4,_⟩
   ·rw[hp] at h3;cases h3;exact⟨c,h5,h6⟩
   ·rw[hp] at h4;exact absurd h4 (by simp),hb⟩))
  clear hsp hp
  by_cases h0:ae=0
  ·subst h0
   have HR1:=hid (show R.1=dst by rw[hr1];rfl)
   have HR2:=hid (show R.2=⟨ai,0⟩ by rw[hr1];rfl)
   clear hr1
   go_enter Tryz.func139,Tryz.ntmps139
   go_upto_region 1 with (first
    | (go_at_call 140;refine(HSP.out _ HTT.out.1 HTT.out.2).mono ?_;rintro x w2 ⟨⟨cst,rfl,hst⟩,hb2⟩;have HB2:=hid hb2;have HST:=hid hst;clear hst;clear hb2)
    | (go_at_call 141;refine(rText_call rb s r hs _ H0.out.r).mono ?_;rintro x w1 ⟨rfl,hj,hg⟩;rw[←HA.out] at hj;rw[←HA.out];have HTT:=hid (show Tabs w1∧NumVars w1 from⟨HTW.out.1.below (HBB.out▸(H0.out.step hj hg).l),HTW.out.2.below (HBB.out▸(H0.out.step hj hg).l)⟩);have HG1:=hid hg.size;have H1:=hid (H0.out.step hj hg);clear hj hg))
   skip
   obtain⟨w3,hw3⟩:∃w3,w3=w2.alloc (.cells #[.int .i64 cst.e,.slice cst.a cst.n cst.c] 28):=⟨_,rfl⟩
   have h2:=H1.out.ext HB2.out
   have hb3:Below w2.heap.size w2 w3:=by rw[hw3];exact(Below.refl _ w2).alloc (Nat.le_refl _) _
   have h3:=h2.ext hb3
   have h3b:w3.heap[w2.heap.size]?=some (.cells #[.int .i64 cst.e,.slice cst.a cst.n cst.c] 28):=by rw[hw3];exact heap_alloc_new w2 _
   have z0:=cellOf h3b 0
   have z1:=cellOf h3b 1
   have y2:=cellOf h3.r.at_ 2
   have g2:=freeOf h3.r.at_ 2
   have x16:=cellOf h3.e 16
   have x17:=cellOf h3.e 17
   have g16:=freeOf h3.e 16
   have g17:=freeOf h3.e 17
   (try dsimp only[EnC.ar] at z0 z1 y2 x16 x17)
   rw[←hw3]
   have HSZ:=hid (show w.heap.size≤w2.heap.size from Nat.le_trans HG1.out HB2.out.size)
   have HSZ3:=hid hb3
   have HNE:=hid (show rb<w.heap.size∧eb<w.heap.size from⟨H0.out.r.lt,ltOf H0.out.e⟩)
   have H3:=hid h3
   clear hw3 h2 hb3 h3 h3b
   go_wp2
   refine bodyPost_end (results_none rfl _ _ _) rfl ?_
   have hx:=((H3.out.set (i:=16) (v:=.int .i64 cst.e) (c':=(⟨k,ti,0,0,0,⟨#[]⟩,⟨#[]⟩,⟨#[]⟩,false,false,⟨0,0,0,⟨#[]⟩,none,0,0,none,0,0⟩,⟨cst.e,none,0,0⟩⟩:EnC)) rfl).set (i:=17) (v:=.slice cst.a cst.n cst.c) (c':=(⟨k,ti,0,0,0,⟨#[]⟩,⟨#[]⟩,⟨#[]⟩,false,false,⟨0,0,0,⟨#[]⟩,none,0,0,none,0,0⟩,cst⟩:EnC)) rfl).setR 0
   refine⟨rfl,cst,?_,?_⟩
   ·rw[HR2.out];exact hx
   ·rw[HR1.out]
    exact HST.out.same fun i hi=>⟨⟨Nat.le_trans HG1.out hi.1,by simp only[World.size_setCell];exact Nat.lt_of_lt_of_le hi.2 HSZ3.out.size⟩,by
     have h1:=HNE.out;have h2:=HG1.out;have h3:=hi.1
     rw[Below.heap_setCell _ _ _ _ (by dsimp only;omega),Below.heap_setCell _ _ _ _ (by dsimp only;omega),Below.heap_setCell _ _ _ _ (by dsimp only;omega)]
     exact HSZ3.out.block i hi.2⟩
  ·have q0:(ae==0)=false:=by simp[h0]
   have HR1:=hid (show R.1=⟨0,[]⟩ by rw[hr1,if_neg h0])
   have HR2:=hid (show R.2=⟨ai,ae⟩ by rw[hr1,if_neg h0])
   clear hr1 h0
   go_enter Tryz.func139,Tryz.ntmps139
   go_upto_region 1 with (first
    | (go_at_call 140;refine(HSP.out _ HTT.out.1 HTT.out.2).mono ?_;rintro x w2 ⟨⟨cst,rfl,hst⟩,hb2⟩;have HB2:=hid hb2;have HST:=hid hst;clear hst;clear hb2)
    | (go_at_call 141;refine(rText_call rb s r hs _ H0.out.r).mono ?_;rintro x w1 ⟨rfl,hj,hg⟩;rw[←HA.out] at hj;rw[←HA.out];have HTT:=hid (show Tabs w1∧NumVars w1 from⟨HTW.out.1.below (HBB.out▸(H0.out.step hj hg).l),HTW.out.2.below (HBB.out▸(H0.out.step hj hg).l)⟩);have HG1:=hid hg.size;have H1:=hid (H0.out.step hj hg);clear hj hg))
   skip
   obtain⟨w3,hw3⟩:∃w3,w3=w2.alloc (.cells #[.int .i64 cst.e,.slice cst.a cst.n cst.c] 28):=⟨_,rfl⟩
   have h2:=H1.out.ext HB2.out
   have hb3:Below w2.heap.size w2 w3:=by rw[hw3];exact(Below.refl _ w2).alloc (Nat.le_refl _) _
   have h3:=h2.ext hb3
   have h3b:w3.heap[w2.heap.size]?=some (.cells #[.int .i64 cst.e,.slice cst.a cst.n cst.c] 28):=by rw[hw3];exact heap_alloc_new w2 _
   have z0:=cellOf h3b 0
   have z1:=cellOf h3b 1
   have y2:=cellOf h3.r.at_ 2
   have g2:=freeOf h3.r.at_ 2
   have x16:=cellOf h3.e 16
   have x17:=cellOf h3.e 17
   have g16:=freeOf h3.e 16
   have g17:=freeOf h3.e 17
   (try dsimp only[EnC.ar] at z0 z1 y2 x16 x17)
   rw[←hw3]
   have HSZ:=hid (show w.heap.size≤w2.heap.size from Nat.le_trans HG1.out HB2.out.size)
   have HSZ3:=hid hb3
   have HNE:=hid (show rb<w.heap.size∧eb<w.heap.size from⟨H0.out.r.lt,ltOf H0.out.e⟩)
   have H3:=hid h3
   clear hw3 h2 hb3 h3 h3b
   go_wp2
   refine bodyPost_end (results_none rfl _ _ _) rfl ?_
   refine⟨rfl,⟨0,none,0,0⟩,?_,?_⟩
   ·rw[HR2.out];exact H3.out
   ·rw[HR1.out];exact stZ_is _ _
def bodT (s:ByteArray) (r:JR):ByteArray:=((((((r.text s).2.num s).2.text s).2.num s).2.num s).2.text s).1
theorem RAt.row {B rb eb:Nat} {s:ByteArray} {w0 w:World} {c c':EnC} {r:JR} (h:RAt B rb eb s w0 c r w):RAt B rb eb s w0 c' r (w.setRow eb c'.ar) :=
 ⟨⟨(setRow_other w eb rb _ h.n.2.2.1).trans h.r.at_,h.r.ok⟩,setRow_heap w eb c.ar c'.ar _ _ h.e,h.l.trans ((setRow_below w eb _).mono h.n.2.1),h.n.1,h.n.2.1,h.n.2.2.1,by rw[setRow_size];exact h.n.2.2.2⟩
section
attribute [-go_sem] loadCellsFrom storeCells
attribute [local go_sem] lcf0 lcf1 lcf2 lcf3 lcf4 lcf5 stc0 stc1
theorem rdR_call (B rb eb:Nat) (s:ByteArray) (r:JR) (k ti:Int) (hk:I64 k) (hti:I64 ti) (w0 w:World) (hs:s.size≤140737488351232) (h:RAt B rb eb s w0 { enZC with k:=k,ti:=ti } r w) (hB:B=w0.heap.size) (hT:Tabs w0) (hNV:NumVars w0) (hsz:(bodT s r).size≤65536) :
 Calls Tryz.prog 148 #[.pointer (some ⟨rb,0,none⟩),.pointer (some ⟨eb,0,none⟩)] w fun x w'=>x=.returned (.tuple #[])∧∃v:VC,RAt B rb eb s w0 (⟨k,ti,((r.text s).2.num s).1,0,((((r.text s).2.num s).2.text s).2.num s).1,(r.text s).1,(((r.text s).2.num s).2.text s).1,⟨#[]⟩,((((((r.text s).2.num s).2.text s).2.num s).2.num s).1 % 2==1),((((((r.text s).2.num s).2.text s).2.num s).2.num s).1 / 2 % 2==1),v,⟨0,none,0,0⟩⟩:EnC) (if ((((((r.text s).2.num s).2.text s).2.num s).2.num s).2.text s).2.e=0 then ⟨((((((r.text s).2.num s).2.text s).2.num s).2.num s).2.text s).2.i,(parF (bodT s r)).2.2⟩ else ((((((r.text s).2.num s).2.text s).2.num s).2.num s).2.text s).2) w'∧IsVal (fun i=>w.heap.size≤i∧i<w'.heap.size) w' v (if ((((((r.text s).2.num s).2.text s).2.num s).2.num s).2.text s).2.e=0 then (parF (bodT s r)).1 else nulV):=by
 have hn0:=(jnum_nat (s:=s) (r:=((((r.text s).2.num s).2.text s).2.num s).2)).1
 have hnm:((((((r.text s).2.num s).2.text s).2.num s).2.num s).1)≤4611686018427387903:=(jnum_nat (s:=s) (r:=((((r.text s).2.num s).2.text s).2.num s).2)).2
 unfold bodT at hsz ⊢
 obtain⟨a,ha⟩:∃a,a=r.text s:=⟨_,rfl⟩
 rw[←ha] at hsz hn0 hnm ⊢
 obtain⟨b,hb⟩:∃b,b=a.2.num s:=⟨_,rfl⟩
 rw[←hb] at hsz hn0 hnm ⊢
 obtain⟨c,hc⟩:∃c,c=b.2.text s:=⟨_,rfl⟩
 rw[←hc] at hsz hn0 hnm ⊢
 obtain⟨f,hf⟩:∃f,f=c.2.num s:=⟨_,rfl⟩
 rw[←hf] at hsz hn0 hnm ⊢
 obtain⟨g,hg⟩:∃g,g=f.2.num s:=⟨_,rfl⟩
 rw[←hg] at hsz hn0 hnm ⊢
 obtain⟨gn,gr⟩:=g
 obtain⟨n,rfl⟩:∃n:Nat,gn=n:=⟨gn.toNat,by dsimp only at hn0;omega⟩
 dsimp only at hsz hnm ⊢
 have hq1:wrap64 ((n:Int) / 2)=(n:Int) / 2:=by simp only[wrap64,IntKind.wrap_i64];omega
 have hq2:((n:Int) / 2).tmod 2=(n:Int) / 2 % 2:=Int.tmod_eq_emod_of_nonneg (by omega)
 clear hnm
 obtain⟨t,ht⟩:∃t,t=gr.text s:=⟨_,rfl⟩
 rw[←ht] at hsz ⊢
 obtain⟨tt,ti',te⟩:=t
 dsimp only at hsz ⊢
 obtain⟨p,hp⟩:∃p,p=parF tt:=⟨_,rfl⟩
 have hlp:=fun w1 (h1:Tabs w1) (h2:NumVars w1)=>parse_call tt w1 hsz h1 h2
 rw[←hp] at hlp ⊢
 obtain⟨pv,pn,e9⟩:=p
 dsimp only at hlp ⊢
 have HLP:=hid hlp
 have H0:=hid h
 have HA:=hid ha
 have HB:=hid hb
 have HC:=hid hc
 have HF:=hid hf
 have HG:=hid hg
 have HT:=hid ht
 have HTW:=hid (show Tabs w0∧NumVars w0 from⟨hT,hNV⟩)
 have HBB:=hid hB
 clear h ha hb hc hf hg ht hp hlp hT hNV hB hsz hn0
 by_cases h0:te=0
 ·subst h0
  rw[if_pos rfl,if_pos rfl]
  go_enter Tryz.func148,Tryz.ntmps148
  go_upto_region 4 with (first
   | (go_at_call 149;refine(HLP.out _ HTT.out.1 HTT.out.2).mono ?_;rintro x w7 ⟨v,rfl,hv7,hb7⟩;have HV7:=hid hv7;have HB7:=hid hb7;clear hv7 hb7;have sq:=st6New w7 #[.int .i64 0,.int .i64 0,.int .i64 0,.string ⟨#[]⟩,.slice none 0 0,.slice none 0 0] rfl (.int .i64 v.k) (.int .i64 v.i) (.int .i64 v.s) (.string v.t) (.slice v.la v.ll v.lc) (.slice v.fa v.fl v.fc) (by simp[Value.oneCell']))
   | (go_at_call 141;refine(rText_call rb s gr hs _ ((H5.out.set (i:=8) (v:=.bool ((n:Int) % 2==1)) (c':=(⟨k,ti,b.1,0,f.1,a.1,c.1,⟨#[]⟩,((n:Int) % 2==1),false,⟨0,0,0,⟨#[]⟩,none,0,0,none,0,0⟩,⟨0,none,0,0⟩⟩:EnC)) rfl).set (i:=9) (v:=.bool ((n:Int) / 2 % 2==1)) (c':=(⟨k,ti,b.1,0,f.1,a.1,c.1,⟨#[]⟩,((n:Int) % 2==1),((n:Int) / 2 % 2==1),⟨0,0,0,⟨#[]⟩,none,0,0,none,0,0⟩,⟨0,none,0,0⟩⟩:EnC)) rfl).r).mono ?_;rintro x w6 ⟨rfl,hj,hg⟩;rw[←HT.out] at hj;rw[←HT.out];have h6:=((H5.out.set (i:=8) (v:=.bool ((n:Int) % 2==1)) (c':=(⟨k,ti,b.1,0,f.1,a.1,c.1,⟨#[]⟩,((n:Int) % 2==1),false,⟨0,0,0,⟨#[]⟩,none,0,0,none,0,0⟩,⟨0,none,0,0⟩⟩:EnC)) rfl).set (i:=9) (v:=.bool ((n:Int) / 2 % 2==1)) (c':=(⟨k,ti,b.1,0,f.1,a.1,c.1,⟨#[]⟩,((n:Int) % 2==1),((n:Int) / 2 % 2==1),⟨0,0,0,⟨#[]⟩,none,0,0,none,0,0⟩,⟨0,none,0,0⟩⟩:EnC)) rfl).step hj hg;have HTT:=hid (show Tabs w6∧NumVars w6 from⟨HTW.out.1.below (HBB.out▸h6.l),HTW.out.2.below (HBB.out▸h6.l)⟩);have HG6:=hid (show w.heap.size≤w6.heap.size by have h1:=hg.size;simp only[World.size_setCell] at h1;exact Nat.le_trans HG5.out h1);have H6:=hid h6;clear hj hg h6)
   | (go_at_call 49;refine(rNum_call rb s f.2 hs _ ((((H4.out.set (i:=5) (v:=.string a.1) (c':=(⟨k,ti,0,0,0,a.1,⟨#[]⟩,⟨#[]⟩,false,false,⟨0,0,0,⟨#[]⟩,none,0,0,none,0,0⟩,⟨0,none,0,0⟩⟩:EnC)) rfl).set (i:=2) (v:=.int .i64 b.1) (c':=(⟨k,ti,b.1,0,0,a.1,⟨#[]⟩,⟨#[]⟩,false,false,⟨0,0,0,⟨#[]⟩,none,0,0,none,0,0⟩,⟨0,none,0,0⟩⟩:EnC)) rfl).set (i:=6) (v:=.string c.1) (c':=(⟨k,ti,b.1,0,0,a.1,c.1,⟨#[]⟩,false,false,⟨0,0,0,⟨#[]⟩,none,0,0,none,0,0⟩,⟨0,none,0,0⟩⟩:EnC)) rfl).set (i:=4) (v:=.int .i64 f.1) (c':=(⟨k,ti,b.1,0,f.1,a.1,c.1,⟨#[]⟩,false,false,⟨0,0,0,⟨#[]⟩,none,0,0,none,0,0⟩,⟨0,none,0,0⟩⟩:EnC)) rfl).r).mono ?_;rintro x w5 ⟨rfl,hj,hg⟩;rw[←HG.out] at hj;rw[←HG.out];have h5:=((((H4.out.set (i:=5) (v:=.string a.1) (c':=(⟨k,ti,0,0,0,a.1,⟨#[]⟩,⟨#[]⟩,false,false,⟨0,0,0,⟨#[]⟩,none,0,0,none,0,0⟩,⟨0,none,0,0⟩⟩:EnC)) rfl).set (i:=2) (v:=.int .i64 b.1) (c':=(⟨k,ti,b.1,0,0,a.1,⟨#[]⟩,⟨#[]⟩,false,false,⟨0,0,0,⟨#[]⟩,none,0,0,none,0,0⟩,⟨0,none,0,0⟩⟩:EnC)) rfl).set (i:=6) (v:=.string c.1) (c':=(⟨k,ti,b.1,0,0,a.1,c.1,⟨#[]⟩,false,false,⟨0,0,0,⟨#[]⟩,none,0,0,none,0,0⟩,⟨0,none,0,0⟩⟩:EnC)) rfl).set (i:=4) (v:=.int .i64 f.1) (c':=(⟨k,ti,b.1,0,f.1,a.1,c.1,⟨#[]⟩,false,false,⟨0,0,0,⟨#[]⟩,none,0,0,none,0,0⟩,⟨0,none,0,0⟩⟩:EnC)) rfl).step hj hg;have c8:=cellOf h5.e 8;have f8:=freeOf h5.e 8;have c9:=cellOf h5.e 9;have f9:=freeOf h5.e 9;(try dsimp only at c8 c9);have HG5:=hid (show w.heap.size≤w5.heap.size by have h1:=hg.size;simp only[World.size_setCell] at h1;exact Nat.le_trans HG4.out h1);have H5:=hid h5;clear hj hg h5)
   | (go_at_call 49;refine(rNum_call rb s c.2 hs _ H3.out.r).mono ?_;rintro x w4 ⟨rfl,hj,hg⟩;rw[←HF.out] at hj;rw[←HF.out];have h4:=H3.out.step hj hg;have c5:=cellOf h4.e 5;have f5:=freeOf h4.e 5;have c2:=cellOf h4.e 2;have f2:=freeOf h4.e 2;have c6:=cellOf h4.e 6;have f6:=freeOf h4.e 6;have c4:=cellOf h4.e 4;have f4:=freeOf h4.e 4;(try dsimp only at c5 c2 c6 c4);have HG4:=hid (Nat.le_trans HG3.out hg.size);have H4:=hid h4;clear hj hg h4)
   | (go_at_call 141;refine(rText_call rb s b.2 hs _ H2.out.r).mono ?_;rintro x w3 ⟨rfl,hj,hg⟩;rw[←HC.out] at hj;rw[←HC.out];have HG3:=hid (Nat.le_trans HG2.out hg.size);have H3:=hid (H2.out.step hj hg);clear hj hg)
   | (go_at_call 49;refine(rNum_call rb s a.2 hs _ H1.out.r).mono ?_;rintro x w2 ⟨rfl,hj,hg⟩;rw[←HB.out] at hj;rw[←HB.out];have HG2:=hid (Nat.le_trans HG1.out hg.size);have H2:=hid (H1.out.step hj hg);clear hj hg)
   | (go_at_call 141;go_loud (refine(rText_call rb s r hs _ H0.out.r).mono ?_;rintro x w1 ⟨rfl,hj,hg⟩;rw[←HA.out] at hj;rw[←HA.out];have HG1:=hid hg.size;have H1:=hid (H0.out.step hj hg);clear hj hg)))
  obtain⟨w8,hw8⟩:∃w8,w8=w7.alloc (.cells #[.int .i64 v.k,.int .i64 v.i,.int .i64 v.s,.string v.t,.slice v.la v.ll v.lc,.slice v.fa v.fl v.fc] 25):=⟨_,rfl⟩
  have hb8:Below w7.heap.size w7 w8:=by rw[hw8];exact(Below.refl _ w7).alloc (Nat.le_refl _) _
  have h8:=(H6.out.ext HB7.out).ext hb8
  have h8b:w8.heap[w7.heap.size]?=some (.cells #[.int .i64 v.k,.int .i64 v.i,.int .i64 v.s,.string v.t,.slice v.la v.ll v.lc,.slice v.fa v.fl v.fc] 25):=by rw[hw8];exact heap_alloc_new w7 _
  have l8:=ld6 h8b
  have y2:=cellOf h8.r.at_ 2
  (try dsimp only at y2)
  obtain⟨w9,hw9⟩:∃w9,w9=w8.setRow eb (EnC.ar (⟨k,ti,b.1,0,f.1,a.1,c.1,⟨#[]⟩,((n:Int) % 2==1),((n:Int) / 2 % 2==1),v,⟨0,none,0,0⟩⟩:EnC)):=⟨_,rfl⟩
  have h9:RAt B rb eb s w0 (⟨k,ti,b.1,0,f.1,a.1,c.1,⟨#[]⟩,((n:Int) % 2==1),((n:Int) / 2 % 2==1),v,⟨0,none,0,0⟩⟩:EnC) ⟨ti',0⟩ w9:=by rw[hw9];exact h8.row
  have s8:(storeCells ⟨eb,10,none⟩ [.int .i64 v.k,.int .i64 v.i,.int .i64 v.s,.string v.t,.slice v.la v.ll v.lc,.slice v.fa v.fl v.fc] 0).run Tryz.prog w8=.ok () w9:=by
   have:=run_storeCells_at (P:=Tryz.prog) eb 10 30 [.int .i64 v.k,.int .i64 v.i,.int .i64 v.s,.string v.t,.slice v.la v.ll v.lc,.slice v.fa v.fl v.fc] 0 (EnC.ar (⟨k,ti,b.1,0,f.1,a.1,c.1,⟨#[]⟩,((n:Int) % 2==1),((n:Int) / 2 % 2==1),⟨0,0,0,⟨#[]⟩,none,0,0,none,0,0⟩,⟨0,none,0,0⟩⟩:EnC)) w8 h8.e (by simp) (by simp[Value.oneCell'])
   rw[this,hw9]
   rfl
  have y9:=cellOf h9.r.at_ 2
  have g9:=freeOf h9.r.at_ 2
  (try dsimp only at y9)
  have H9:=hid h9
  have HW9:=hid hw9
  clear h9 hw9
  clear sq
  rw[←hw8]
  have HSZ:=hid (show w.heap.size≤w7.heap.size from Nat.le_trans HG6.out HB7.out.size)
  have HB8:=hid hb8
  have HNE:=hid (show rb<w.heap.size∧eb<w.heap.size from⟨H0.out.r.lt,ltOf H0.out.e⟩)
  have H8:=hid h8
  clear hw8 hb8 h8 h8b
  go_wp2
  refine bodyPost_end (results_none rfl _ _ _) rfl ?_
  refine⟨rfl,v,H9.out.setR e9,?_⟩
  have h1:=HV7.out
  exact h1.same fun i hi=>⟨⟨Nat.le_trans HG6.out hi.1,by rw[World.size_setCell,HW9.out,setRow_size];exact Nat.lt_of_lt_of_le hi.2 HB8.out.size⟩,by
   have h1:=HNE.out;have h2:=HG6.out;have h3:=hi.1
   rw[Below.heap_setCell _ _ _ _ (by dsimp only;omega),HW9.out,setRow_other _ _ _ _ (by omega)]
   exact HB8.out.block i hi.2⟩
 ·have q0:(te==0)=false:=by simp[h0]
  rw[if_neg h0,if_neg h0]
  clear h0
  go_enter Tryz.func148,Tryz.ntmps148
  go_upto_region 4 with (first
   | (go_at_call 149;refine(HLP.out _ HTT.out.1 HTT.out.2).mono ?_;rintro x w7 ⟨v,rfl,hv7,hb7⟩;have HV7:=hid hv7;have HB7:=hid hb7;clear hv7 hb7;have sq:=st6New w7 #[.int .i64 0,.int .i64 0,.int .i64 0,.string ⟨#[]⟩,.slice none 0 0,.slice none 0 0] rfl (.int .i64 v.k) (.int .i64 v.i) (.int .i64 v.s) (.string v.t) (.slice v.la v.ll v.lc) (.slice v.fa v.fl v.fc) (by simp[Value.oneCell']))
   | (go_at_call 141;refine(rText_call rb s gr hs _ ((H5.out.set (i:=8) (v:=.bool ((n:Int) % 2==1)) (c':=(⟨k,ti,b.1,0,f.1,a.1,c.1,⟨#[]⟩,((n:Int) % 2==1),false,⟨0,0,0,⟨#[]⟩,none,0,0,none,0,0⟩,⟨0,none,0,0⟩⟩:EnC)) rfl).set (i:=9) (v:=.bool ((n:Int) / 2 % 2==1)) (c':=(⟨k,ti,b.1,0,f.1,a.1,c.1,⟨#[]⟩,((n:Int) % 2==1),((n:Int) / 2 % 2==1),⟨0,0,0,⟨#[]⟩,none,0,0,none,0,0⟩,⟨0,none,0,0⟩⟩:EnC)) rfl).r).mono ?_;rintro x w6 ⟨rfl,hj,hg⟩;rw[←HT.out] at hj;rw[←HT.out];have h6:=((H5.out.set (i:=8) (v:=.bool ((n:Int) % 2==1)) (c':=(⟨k,ti,b.1,0,f.1,a.1,c.1,⟨#[]⟩,((n:Int) % 2==1),false,⟨0,0,0,⟨#[]⟩,none,0,0,none,0,0⟩,⟨0,none,0,0⟩⟩:EnC)) rfl).set (i:=9) (v:=.bool ((n:Int) / 2 % 2==1)) (c':=(⟨k,ti,b.1,0,f.1,a.1,c.1,⟨#[]⟩,((n:Int) % 2==1),((n:Int) / 2 % 2==1),⟨0,0,0,⟨#[]⟩,none,0,0,none,0,0⟩,⟨0,none,0,0⟩⟩:EnC)) rfl).step hj hg;have HTT:=hid (show Tabs w6∧NumVars w6 from⟨HTW.out.1.below (HBB.out▸h6.l),HTW.out.2.below (HBB.out▸h6.l)⟩);have HG6:=hid (show w.heap.size≤w6.heap.size by have h1:=hg.size;simp only[World.size_setCell] at h1;exact Nat.le_trans HG5.out h1);have H6:=hid h6;clear hj hg h6)
   | (go_at_call 49;refine(rNum_call rb s f.2 hs _ ((((H4.out.set (i:=5) (v:=.string a.1) (c':=(⟨k,ti,0,0,0,a.1,⟨#[]⟩,⟨#[]⟩,false,false,⟨0,0,0,⟨#[]⟩,none,0,0,none,0,0⟩,⟨0,none,0,0⟩⟩:EnC)) rfl).set (i:=2) (v:=.int .i64 b.1) (c':=(⟨k,ti,b.1,0,0,a.1,⟨#[]⟩,⟨#[]⟩,false,false,⟨0,0,0,⟨#[]⟩,none,0,0,none,0,0⟩,⟨0,none,0,0⟩⟩:EnC)) rfl).set (i:=6) (v:=.string c.1) (c':=(⟨k,ti,b.1,0,0,a.1,c.1,⟨#[]⟩,false,false,⟨0,0,0,⟨#[]⟩,none,0,0,none,0,0⟩,⟨0,none,0,0⟩⟩:EnC)) rfl).set (i:=4) (v:=.int .i64 f.1) (c':=(⟨k,ti,b.1,0,f.1,a.1,c.1,⟨#[]⟩,false,false,⟨0,0,0,⟨#[]⟩,none,0,0,none,0,0⟩,⟨0,none,0,0⟩⟩:EnC)) rfl).r).mono ?_;rintro x w5 ⟨rfl,hj,hg⟩;rw[←HG.out] at hj;rw[←HG.out];have h5:=((((H4.out.set (i:=5) (v:=.string a.1) (c':=(⟨k,ti,0,0,0,a.1,⟨#[]⟩,⟨#[]⟩,false,false,⟨0,0,0,⟨#[]⟩,none,0,0,none,0,0⟩,⟨0,none,0,0⟩⟩:EnC)) rfl).set (i:=2) (v:=.int .i64 b.1) (c':=(⟨k,ti,b.1,0,0,a.1,⟨#[]⟩,⟨#[]⟩,false,false,⟨0,0,0,⟨#[]⟩,none,0,0,none,0,0⟩,⟨0,none,0,0⟩⟩:EnC)) rfl).set (i:=6) (v:=.string c.1) (c':=(⟨k,ti,b.1,0,0,a.1,c.1,⟨#[]⟩,false,false,⟨0,0,0,⟨#[]⟩,none,0,0,none,0,0⟩,⟨0,none,0,0⟩⟩:EnC)) rfl).set (i:=4) (v:=.int .i64 f.1) (c':=(⟨k,ti,b.1,0,f.1,a.1,c.1,⟨#[]⟩,false,false,⟨0,0,0,⟨#[]⟩,none,0,0,none,0,0⟩,⟨0,none,0,0⟩⟩:EnC)) rfl).step hj hg;have c8:=cellOf h5.e 8;have f8:=freeOf h5.e 8;have c9:=cellOf h5.e 9;have f9:=freeOf h5.e 9;(try dsimp only at c8 c9);have HG5:=hid (show w.heap.size≤w5.heap.size by have h1:=hg.size;simp only[World.size_setCell] at h1;exact Nat.le_trans HG4.out h1);have H5:=hid h5;clear hj hg h5)
   | (go_at_call 49;refine(rNum_call rb s c.2 hs _ H3.out.r).mono ?_;rintro x w4 ⟨rfl,hj,hg⟩;rw[←HF.out] at hj;rw[←HF.out];have h4:=H3.out.step hj hg;have c5:=cellOf h4.e 5;have f5:=freeOf h4.e 5;have c2:=cellOf h4.e 2;have f2:=freeOf h4.e 2;have c6:=cellOf h4.e 6;have f6:=freeOf h4.e 6;have c4:=cellOf h4.e 4;have f4:=freeOf h4.e 4;(try dsimp only at c5 c2 c6 c4);have HG4:=hid (Nat.le_trans HG3.out hg.size);have H4:=hid h4;clear hj hg h4)
   | (go_at_call 141;refine(rText_call rb s b.2 hs _ H2.out.r).mono ?_;rintro x w3 ⟨rfl,hj,hg⟩;rw[←HC.out] at hj;rw[←HC.out];have HG3:=hid (Nat.le_trans HG2.out hg.size);have H3:=hid (H2.out.step hj hg);clear hj hg)
   | (go_at_call 49;refine(rNum_call rb s a.2 hs _ H1.out.r).mono ?_;rintro x w2 ⟨rfl,hj,hg⟩;rw[←HB.out] at hj;rw[←HB.out];have HG2:=hid (Nat.le_trans HG1.out hg.size);have H2:=hid (H1.out.step hj hg);clear hj hg)
   | (go_at_call 141;go_loud (refine(rText_call rb s r hs _ H0.out.r).mono ?_;rintro x w1 ⟨rfl,hj,hg⟩;rw[←HA.out] at hj;rw[←HA.out];have HG1:=hid hg.size;have H1:=hid (H0.out.step hj hg);clear hj hg)))
  obtain⟨w8,hw8⟩:∃w8,w8=w7.alloc (.cells #[.int .i64 v.k,.int .i64 v.i,.int .i64 v.s,.string v.t,.slice v.la v.ll v.lc,.slice v.fa v.fl v.fc] 25):=⟨_,rfl⟩
  have hb8:Below w7.heap.size w7 w8:=by rw[hw8];exact(Below.refl _ w7).alloc (Nat.le_refl _) _
  have h8:=(H6.out.ext HB7.out).ext hb8
  have h8b:w8.heap[w7.heap.size]?=some (.cells #[.int .i64 v.k,.int .i64 v.i,.int .i64 v.s,.string v.t,.slice v.la v.ll v.lc,.slice v.fa v.fl v.fc] 25):=by rw[hw8];exact heap_alloc_new w7 _
  have l8:=ld6 h8b
  have y2:=cellOf h8.r.at_ 2
  (try dsimp only at y2)
  clear sq
  rw[←hw8]
  have HSZ:=hid (show w.heap.size≤w7.heap.size from Nat.le_trans HG6.out HB7.out.size)
  have HB8:=hid hb8
  have HNE:=hid (show rb<w.heap.size∧eb<w.heap.size from⟨H0.out.r.lt,ltOf H0.out.e⟩)
  have H8:=hid h8
  clear hw8 hb8 h8 h8b
  go_wp2
  refine bodyPost_end (results_none rfl _ _ _) rfl ?_
  exact⟨rfl,⟨0,0,0,⟨#[]⟩,none,0,0,none,0,0⟩,H8.out,leaf_val 0 0 (by simp[I64]) (by simp[I64])⟩
end
end Go.Proofs.YtaofolgaiipcjaaGreatDoor
