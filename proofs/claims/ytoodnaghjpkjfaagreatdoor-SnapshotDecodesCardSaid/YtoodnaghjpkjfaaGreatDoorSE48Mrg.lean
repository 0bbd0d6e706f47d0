/- A part. -/
import Derived.Test.YtoodnaghjpkjfaaGreatDoorSE45Mrg
import Derived.Laws.StructEq
import Derived.Sort.AtCall
namespace Go.Proofs.YtoodnaghjpkjfaaGreatDoor
open Tryz
set_option linter.unusedVariables false
set_option maxRecDepth 100000
set_option maxHeartbeats 64000000
set_option linter.unusedSimpArgs false
open Go Go.RowKit Go.Shelf
def snT3:ByteArray:=⟨#[115,110,97,112,115,104,111,116,32,49,32,51,32,53,48,10,97,114,114,105,118,101,100,32,105,110,32,51,10,101,110,100,10]⟩
theorem rd_set1 {lp:Value} {v e t:Int} {ap:Option Addr} {an ac R:Nat} {w:World} (x:Int) (h:w.heap[R]?=some (rdO lp v e t ap an ac)):(w.setCell ⟨R,1,none⟩ (I6 x)).heap[R]?=some (rdO lp x e t ap an ac):=by
 have:=aG (o:=1) (I6 x) h
 simpa only[jm,jn,jo] using this
theorem rd_set2 {lp:Value} {v e t:Int} {ap:Option Addr} {an ac R:Nat} {w:World} (x:Int) (h:w.heap[R]?=some (rdO lp v e t ap an ac)):(w.setCell ⟨R,2,none⟩ (I6 x)).heap[R]?=some (rdO lp v x t ap an ac):=by
 have:=aG (o:=2) (I6 x) h
 simpa only[jm,jn,jo] using this
theorem rd_set3 {lp:Value} {v e t:Int} {ap:Option Addr} {an ac R:Nat} {w:World} (x:Int) (h:w.heap[R]?=some (rdO lp v e t ap an ac)):(w.setCell ⟨R,3,none⟩ (I6 x)).heap[R]?=some (rdO lp v e x ap an ac):=by
 have:=aG (o:=3) (I6 x) h
 simpa only[jm,jn,jo] using this
theorem aMy {lp:Value} {v e t:Int} {ap:Option Addr} {an ac R:Nat} {w:World} (h:w.heap[R]?=some (rdO lp v e t ap an ac)):(w.setCell ⟨R,10,none⟩ (.bool false)).heap[R]?=some (rdO lp v e t ap an ac):=by
 have:=aG (o:=10) (.bool false) h
 simpa only[jm,jn,jo] using this
theorem split3:Lib.countB snT3 ⟨#[10]⟩=3/\Lib.splitB ⟨#[10]⟩ 0 3 snT3=[⟨#[115,110,97,112,115,104,111,116,32,49,32,51,32,53,48]⟩,⟨#[97,114,114,105,118,101,100,32,105,110,32,51]⟩,⟨#[101,110,100]⟩,⟨#[]⟩]:=by
 constructor
 ·kernel_rfl
 ·kernel_rfl
theorem cut1:tO ⟨#[49,32,51,32,53,48]⟩ ⟨#[49]⟩ ⟨#[51,32,53,48]⟩:=⟨by kernel_rfl,by kernel_rfl⟩
theorem cut2:tO ⟨#[51,32,53,48]⟩ ⟨#[51]⟩ ⟨#[53,48]⟩:=⟨by kernel_rfl,by kernel_rfl⟩
theorem cut3:tO ⟨#[53,48]⟩ ⟨#[53,48]⟩ ⟨#[]⟩:=⟨by kernel_rfl,by kernel_rfl⟩
theorem cut4:tO ⟨#[105,110,32,51]⟩ ⟨#[105,110]⟩ ⟨#[51]⟩:=⟨by kernel_rfl,by kernel_rfl⟩
theorem cut5:tO ⟨#[51]⟩ ⟨#[51]⟩ ⟨#[]⟩:=⟨by kernel_rfl,by kernel_rfl⟩
def Enc3 (w:World):Prop:=∀(g c:Nat) (w':World),BB w w'->1<=c->CntAt w' g ⟨#[105,110]⟩ 3->CP 27 #[.agg #[I6 1,I6 3,I6 50,Z0,.slice (So g 0) 1 c,Z0,Z0,Z0,Z0]] w' λr w2=>r=.returned (.tuple #[.string snT3,I6 0])/\BB w' w2
theorem aLo (w:World) (hT:Tabs w) (hN:NumVars w) (hE:Enc3 w) :
 CP 5 #[Sv snT3] w λr w'=>∃g gc,r=.returned (.tuple #[.agg #[I6 1,I6 3,I6 50,Z0,Sl (So g 0) 1 gc,Z0,Z0,Z0,Z0],I6 0])/\CntAt w' g ⟨#[105,110]⟩ 3/\BB w w':=by
 obtain⟨mx,b9⟩:=hN.2.2;obtain⟨W,hW⟩:=xe ((((((w.alloc (.cells #[I6 0,I6 0,I6 0,Z0,Z0,Z0,Z0,Z0,Z0] 30)).alloc (.cells #[.string ⟨#[115,110,97,112,115,104,111,116,32,49,32,51,32,53,48]⟩,.string ⟨#[97,114,114,105,118,101,100,32,105,110,32,51]⟩,.string ⟨#[101,110,100]⟩,.string ⟨#[]⟩] 9)).alloc (rdO (Sl (So (w.heap.size+1) 0) 4 4) 0 0 0 none 0 0)).alloc (.cells #[Pt (w.heap.size+2) 0] 42)).alloc (.cells #[Pt (w.heap.size+2) 1] 47)))
 have br:BB w W:=by rw[hW];exact((((((bR w).alloc lr _).alloc ge _).alloc gi _).alloc gi _).alloc gi _)
 have gZ:W.heap[w.heap.size]?=some (.cells #[I6 0,I6 0,I6 0,Z0,Z0,Z0,Z0,Z0,Z0] 30):=by rw[hW];exact aC _ (aC _ (aC _ (aC _ (ib w _))))
 have gL:W.heap[w.heap.size+1]?=some (.cells #[.string ⟨#[115,110,97,112,115,104,111,116,32,49,32,51,32,53,48]⟩,.string ⟨#[97,114,114,105,118,101,100,32,105,110,32,51]⟩,.string ⟨#[101,110,100]⟩,.string ⟨#[]⟩] 9):=by rw[hW];exact aC _ (aC _ (aC _ (aN _ _ _ ge)))
 have gR:W.heap[w.heap.size+2]?=some (rdO (Sl (So (w.heap.size+1) 0) 4 4) 0 0 0 none 0 0):=by rw[hW];exact aC _ (aC _ (aN _ _ _ ge))
 have g4:W.heap[w.heap.size+3]?=some (.cells #[Pt (w.heap.size+2) 0] 42):=by rw[hW];exact aC _ (aN _ _ _ ge)
 have g5:W.heap[w.heap.size+4]?=some (.cells #[Pt (w.heap.size+2) 1] 47):=by rw[hW];exact aN _ _ _ ge
 have zW:W.heap.size=w.heap.size+5:=by rw[hW];simp
 have b5:f7 (CP 10 #[Sv snT3,.string ⟨#[10]⟩] (w.alloc (.cells #[I6 0,I6 0,I6 0,Z0,Z0,Z0,Z0,Z0,Z0] 30)) λe w'=>e=.returned (Sl (some ⟨(w.alloc (.cells #[I6 0,I6 0,I6 0,Z0,Z0,Z0,Z0,Z0,Z0] 30)).heap.size,0,none⟩) 4 4)/\w'=(w.alloc (.cells #[I6 0,I6 0,I6 0,Z0,Z0,Z0,Z0,Z0,Z0] 30)).alloc (.cells #[.string ⟨#[115,110,97,112,115,104,111,116,32,49,32,51,32,53,48]⟩,.string ⟨#[97,114,114,105,118,101,100,32,105,110,32,51]⟩,.string ⟨#[101,110,100]⟩,.string ⟨#[]⟩] 9)):=f8 (by
  have h:=Tryz.strings_Split snT3 ⟨#[10]⟩ mx (w.alloc (.cells #[I6 0,I6 0,I6 0,Z0,Z0,Z0,Z0,Z0,Z0] 30)) (by simp[snT3,ByteArray.size]) (pN ((bR w).alloc lr _) b9) gt;rw[split3.1,split3.2] at h;exact h)
 have ci:NB W w.heap.size:=⟨w,hT,hN,br,gy _⟩
 have ey:=f8 (aAp ⟨#[115,110,97,112,115,104,111,116]⟩ ⟨#[115,110,97,112,115,104,111,116,32,49,32,51,32,53,48]⟩ ⟨#[49,32,51,32,53,48]⟩ gt gd gd (w.heap.size+2) (w.heap.size+1) 0 2 3 gb 0 0 0 none 0 0 W gR ((aA gL _).trans rfl) gb gb);obtain⟨em,HW,e0,GZ,GL,bt,c8,bp⟩:=h_8 ci hW br gZ gL g4 g5 zW;have c4:=aA g4 0
 (try dsimp only at c4)
 obtain⟨tx,bw⟩:=xe snT3
 rw[<-bw] at b5 ⊢;obtain⟨eo,ez,ew,ep⟩:=h_4 bw hT hE hN;clear b9 hW gZ gL gR g4 g5 ci hT hN br zW bw hE;go_enter func5,ntmps5
 go_upto_region 3 with (go_at_call 10;refine b5.mono ?_;rintro r w3 ⟨rfl,dk⟩;rw[dk];clear dk)
 rw[<-HW.o];go_upto_region 6 with (go_at_call 11;refine ey.mono ?_;rintro r w1 ⟨c,rfl,cd,cn,c7,cb⟩;obtain⟨ec,bu,bj,bq⟩:=h_4 cd cn c7 cb;clear cd cn c7 cb)
 clear c4;have ag:f7 (w.heap.size+5<=c):=f8 (by have:=bu.o;have:=bp.o;omega);have H5:f7 (w1.drew.heap[w.heap.size+4]?=some (.cells #[Pt (w.heap.size+2) 1] 47)):=f8 (bq.keep c8.o ga);have d8:f7 (w1.drew.heap[w.heap.size+2]?=some (rdO (Sl (So (w.heap.size+1) (0+1)) (2+1) 3) 0 0 0 none 0 0)):=f8 bj.o;have bm:f7 (w1.drew.heap[c]?=some (scO ⟨#[49,32,51,32,53,48]⟩)):=f8 ec.o;have a0:f7 (NB w1.drew w.heap.size):=f8 ((em.turn bq.o (λk hk=>by omega)).below (gx _ w1).drew)
 have dq:=f8 (mS ⟨#[49,32,51,32,53,48]⟩ ⟨#[49]⟩ ⟨#[51,32,53,48]⟩ gt cut1 1 gt gd gd c w1.drew bm.o a0.num (λw' ht=>(a0.turn ht (λk hk=>by have:=ag.o;omega)).num))
 have N2:=f8 (λ(w2:World) (h2:w2.heap[c]?=some (scO ⟨#[51,32,53,48]⟩)) (ht:Turn (λk=>k=c) w1.drew w2)=>mS ⟨#[51,32,53,48]⟩ ⟨#[51]⟩ ⟨#[53,48]⟩ gt cut2 3 gt gd gd c w2 h2 (a0.turn ht (λk hk=>by have:=ag.o;omega)).num (λw' ht'=>((a0.turn ht (λk hk=>by have:=ag.o;omega)).turn ht' (λk hk=>by have:=ag.o;omega)).num))
 have N3:=f8 (λ(w2:World) (h2:w2.heap[c]?=some (scO ⟨#[53,48]⟩)) (ht:Turn (λk=>k=c) w1.drew w2)=>mS ⟨#[53,48]⟩ ⟨#[53,48]⟩ ⟨#[]⟩ gt cut3 50 gt gd gd c w2 h2 (a0.turn ht (λk hk=>by have:=ag.o;omega)).num (λw' ht'=>((a0.turn ht (λk hk=>by have:=ag.o;omega)).turn ht' (λk hk=>by have:=ag.o;omega)).num))
 have aj:=f8 (λ(w':World) (h:w'.heap[w.heap.size+4]?=some (.cells #[Pt (w.heap.size+2) 1] 47))=>(show w'.cell? ⟨w.heap.size+4,0,none⟩=some (Pt (w.heap.size+2) 1) from aA h 0));refine iz (S:=(λw'=>w'.heap[w.heap.size+4]?=some (.cells #[Pt (w.heap.size+2) 1] 47))) gd (H5.o) (λhS=>?_);refine tC 0 aj ?_;refine tC 1 aj ?_;refine tC 2 aj ?_;refine tC 3 aj ?_;refine tC 5 aj ?_;refine tC 7 aj ?_;refine yr 4 λK hK=>?_;go_simp;go_at_call 12;refine dq.mono ?_;rintro r en ⟨rfl,d0,ax⟩;have bl:=f8 ax;have e6:=f8 (N2.o en d0 ax);refine kOQ hK (ax.keep hS (by have:=ag.o;omega)) λhS=>?_;clear hK K
 refine yr 6 λK hK=>?_;go_simp;go_at_call 12;refine e6.mono ?_;rintro r e3 ⟨rfl,e1,a4⟩;have a1:=f8 (bl.trans a4);have eb:=f8 (N3.o e3 e1 a1.o);refine kOQ hK (a4.keep hS (by have:=ag.o;omega)) λhS=>?_;clear hK K
 refine yr 8 λK hK=>?_;go_simp;go_at_call 12;refine eb.mono ?_;rintro r cw ⟨rfl,ee,a9⟩;have a6:=f8 (a1.trans a9);have bs:=f8 ee;have az:=f8 (a6.keep d8.o (by have:=ag.o;omega));refine kOQ hK (a9.keep hS (by have:=ag.o;omega)) λhS=>?_;clear hK K
 refine tC 9 aj ?_;refine tC 10 aj ?_;refine yr 11 λK hK=>?_;have fd:=aF az.o 1;have ex:=aA az.o 1;(try dsimp only at ex);go_simp;have ay:=f8 (rd_set1 1 az.o);refine kOQ hK (aD _ _ hS ge) λhS=>?_;clear hK K
 refine tC 12 aj ?_;refine tC 13 aj ?_;refine yr 14 λK hK=>?_;have fj:=aF ay.o 2;have dm:=aA ay.o 2;(try dsimp only at dm);go_simp;have aw:=f8 (rd_set2 3 ay.o);refine kOQ hK (aD _ _ hS ge) λhS=>?_;clear hK K
 refine tC 15 aj ?_;refine tC 16 aj ?_;refine yr 17 λK hK=>?_;have ff:=aF aw.o 3;have ei:=aA aw.o 3;(try dsimp only at ei);go_simp;have bv:=f8 (rd_set3 50 aw.o);refine kOQ hK (aD _ _ hS ge) λhS=>?_;clear hK K
 refine iq gd ?_ _
 (try dsimp only)
 skip
 have au:Turn (λk=>k=w.heap.size+2\/w.heap.size+5<=k) W (((cw.setCell ⟨w.heap.size+2,1,none⟩ (I6 1)).setCell ⟨w.heap.size+2,2,none⟩ (I6 3)).setCell ⟨w.heap.size+2,3,none⟩ (I6 50)):=(((((bq.mono λk hk=>.inl hk).trans (Turn.of_below (gx _ w1).drew)).trans (a6.mono λk hk=>.inr (by have:=ag.o;omega))).trans (Turn.setCell ⟨w.heap.size+2,1,none⟩ _ (.inl rfl))).trans (Turn.setCell ⟨w.heap.size+2,2,none⟩ _ (.inl rfl))).trans (Turn.setCell ⟨w.heap.size+2,3,none⟩ _ (.inl rfl))
 obtain⟨W7,bg⟩:=xe ((((cw.setCell ⟨w.heap.size+2,1,none⟩ (I6 1)).setCell ⟨w.heap.size+2,2,none⟩ (I6 3)).setCell ⟨w.heap.size+2,3,none⟩ (I6 50)))
 rw[<-bg] at au ⊢;have GR:f7 (W7.drew.heap[w.heap.size+2]?=some (rdO (Sl (So (w.heap.size+1) (0+1)) (2+1) 3) 1 3 50 none 0 0)):=f8 (by rw[bg];exact bv.o);have GC:f7 (W7.drew.heap[c]?=some (scO ⟨#[]⟩)):=f8 (by rw[bg];exact aD _ _ (aD _ _ (aD _ _ bs.o (by have:=ag.o;simp;omega)) (by have:=ag.o;simp;omega)) (by have:=ag.o;simp;omega));have G4:f7 (W7.drew.heap[w.heap.size+3]?=some (.cells #[Pt (w.heap.size+2) 0] 42)):=f8 (au.keep bt.o ga);have bo:=f8 au;clear au bg
 have av:=f8 (λ(w':World) (h:w'.heap[w.heap.size+3]?=some (.cells #[Pt (w.heap.size+2) 0] 42)/\w'.heap[c]?=some (scO ⟨#[]⟩))=>(show w'.cell? ⟨w.heap.size+3,0,none⟩=some (Pt (w.heap.size+2) 0)/\Ce w' c 1 (.bool false) from⟨aA h.1 0,aA h.2 1⟩));go_upto_region 7 with (fail)
 refine iz (S:=(λw'=>w'.heap[w.heap.size+3]?=some (.cells #[Pt (w.heap.size+2) 0] 42)/\w'.heap[c]?=some (scO ⟨#[]⟩))) gd (⟨G4.o,GC.o⟩) (λhS=>?_);refine tC 0 av ?_;refine tC 1 av ?_;refine tC 2 av ?_;refine tC 3 av ?_;refine tC 4 av ?_;refine tC 5 av ?_;refine tC 6 av ?_;refine yr 7 λK hK=>?_;have q7:=aF GR.o 10;have p7:=aA GR.o 10;(try dsimp only at p7);go_simp;refine kOQ hK (⟨aD _ _ hS.1 ge,aD _ _ hS.2 (by have:=ag.o;simp;omega)⟩) λhS=>?_;clear hK K
 refine iq gd ?_ _
 (try dsimp only)
 clear hS;obtain⟨W8,bi⟩:=xe ((W7.setCell ⟨w.heap.size+2,10,none⟩ (.bool false)).drew)
 rw[<-bi];have bh:Turn (λk=>k=w.heap.size+2\/w.heap.size+5<=k) W W8:=by rw[bi];exact(bo.trans (Turn.setCell ⟨w.heap.size+2,10,none⟩ _ (.inl rfl))).trans (Turn.of_below (gx _ _).drew)
 have df:W8.heap[w.heap.size+2]?=some (rdO (Sl (So (w.heap.size+1) (0+1)) (2+1) 3) 1 3 50 none 0 0):=by rw[bi];exact aMy GR.o
 have c4:=aA (bh.keep bt.o ga) 0
 (try dsimp only at c4)
 have cq:BB w W8:=e0.trans (bh.below (λk hk=>by omega) (by have:=bp.o;omega));obtain⟨bb,ej,ca⟩:=h_3 bh df cq;clear bi bh df cq;go_wp2;clear c4
 obtain⟨WF,be⟩:=xe (W8.alloc (.cells #[.func (.func 13) #[Pt (w.heap.size+2) 0] #[],.func (.func 14) #[] #[Pt (w.heap.size+3) 0,Pt (w.heap.size+4) 0],.func (.func 17) #[] #[Pt (w.heap.size+3) 0,Pt (w.heap.size+4) 0],.func (.func 18) #[] #[Pt (w.heap.size+3) 0,Pt (w.heap.size+4) 0],.func (.func 22) #[] #[Pt (w.heap.size+3) 0,Pt (w.heap.size+4) 0],.func (.func 26) #[Pt (w.heap.size+2) 0] #[]] 1))
 obtain⟨fb,bd⟩:=xe W8.heap.size
 rw[<-be,<-bd];have ar:BB W8 WF:=by rw[be];exact(gx _ _).alloc lr _
 have cR:f7 (WF.heap[fb]?=some (.cells #[.func (.func 13) #[Pt (w.heap.size+2) 0] #[],.func (.func 14) #[] #[Pt (w.heap.size+3) 0,Pt (w.heap.size+4) 0],.func (.func 17) #[] #[Pt (w.heap.size+3) 0,Pt (w.heap.size+4) 0],.func (.func 18) #[] #[Pt (w.heap.size+3) 0,Pt (w.heap.size+4) 0],.func (.func 22) #[] #[Pt (w.heap.size+3) 0,Pt (w.heap.size+4) 0],.func (.func 26) #[Pt (w.heap.size+2) 0] #[]] 1)):=f8 (by rw[be,bd];exact ib W8 _)
 have dj:f7 (w.heap.size+5<=fb):=f8 (by rw[bd];have:=bb.size;have:=bp.o;omega);have cz:=f8 (aB ar ej.o);have cy:=f8 (aB ar (bb.keep GL.o ga));have e8:=f8 (aB ar (bb.keep bt.o ga));have ek:=f8 (aB ar (bb.keep c8.o ga));have d7:=f8 (aB ar (bb.keep GZ.o ga));have cL:=f8 (ca.trans (ar.mono ca.size));clear be bd ar;have dr:∀args w,(callFunc 13 args).run prog w=.ok (.enter 13 args) w:=jd func13 gd rfl
 have d1:∀args w,(callFunc 14 args).run prog w=.ok (.enter 14 args) w:=jd func14 gd rfl;have eu:∀args w,(callFunc 17 args).run prog w=.ok (.enter 17 args) w:=jd func17 gd rfl;have e2:∀args w,(callFunc 18 args).run prog w=.ok (.enter 18 args) w:=jd func18 gd rfl;have e7:∀args w,(callFunc 22 args).run prog w=.ok (.enter 22 args) w:=jd func22 gd rfl;have dx:∀args w,(callFunc 26 args).run prog w=.ok (.enter 26 args) w:=jd func26 gd rfl
 refine lx 7 ?_;rw[jk];have f0:=aA cR.o 0
 (try dsimp only at f0)
 go_wp2_with (go_at_call 13;refine(aJs ⟨#[97,114,114,105,118,101,100,32,105,110,32,51]⟩ gd (w.heap.size+2) (w.heap.size+1) (0+1) 2 3 1 3 50 none 0 0 WF cz.o ((aA cy.o _).trans rfl) gb).mono ?_;rintro r du ⟨rfl,a8⟩;have ah:=f8 a8;clear a8)
 clear f0;have bk:=f8 (aB ah.o cR.o);have et:=f8 (aB ah.o cz.o);have c5:=f8 (aB ah.o cy.o);have c9:=f8 (aB ah.o e8.o);have b1:=f8 (aB ah.o ek.o);have d5:=f8 (aB ah.o d7.o);have bc:=f8 (cL.trans (ah.mono cL.size))
 have er:=f8 (aO6 w.heap.size ⟨#[97,114,114,105,118,101,100,32,105,110,32,51]⟩ ⟨#[101,110,100]⟩ ⟨#[105,110,32,51]⟩ ⟨#[105,110]⟩ ⟨#[51]⟩ ⟨#[51]⟩ ⟨#[]⟩ gd gd gd gt cut4 gt cut5 gt 3 gd gd (w.heap.size+2) (w.heap.size+1) (0+1) 1 2 gb 1 3 50 _ _ du c5.o rfl rfl et.o ⟨w,ez.o,ep.o,bc.o,gy _⟩ ga ga (w.heap.size+3) (w.heap.size+4) c9.o b1.o ⟨by omega,by omega⟩);rw[jk];have f1:=aA bk.o 1
 (try dsimp only at f1)
 go_wp2_with (go_at_call 14;refine er.mono ?_;rintro r fi ⟨rfl,g,gc,dg,ak,cr,ba,a5⟩;obtain⟨a7,eg,dz,ai,de⟩:=h_5 dg cr ak a5 ba;clear dg ak cr ba a5)
 clear f1;have dl:=f8 (ai.keep bk.o (by have:=dj.o;omega));have dd:=f8 (ai.keep c5.o ga);have dh:=f8 (ai.keep c9.o ga);have b6:=f8 (ai.keep b1.o ga);have dy:=f8 (ai.keep d5.o ga);have b0:=f8 (bc.trans (ai.below (λk hk=>by omega) bc.size));rw[jk];have f2:=aA dl.o 2
 (try dsimp only at f2)
 go_wp2_with (go_at_call 17;refine(dec2_no ⟨#[101,110,100]⟩ gd (w.heap.size+2) (w.heap.size+1) (0+1+1) 1 2 1 3 50 _ 1 gc _ de.o ((aA dd.o _).trans rfl) gb _ _ dh.o b6.o).mono ?_;rintro r fg ⟨rfl,ap⟩;have ad:=f8 ap;clear ap)
 clear f2;have b3:=f8 (aB ad.o dl.o);have cv:=f8 (aB ad.o de.o);have ce:=f8 (aB ad.o dd.o);have dc:=f8 (aB ad.o dh.o);have b7:=f8 (aB ad.o b6.o);have dp:=f8 (aB ad.o dy.o);have c2:=f8 (b0.trans (ad.mono b0.size));rw[jk];have f3:=aA b3.o 3
 (try dsimp only at f3)
 go_wp2_with (go_at_call 18;refine(dec3_no ⟨#[101,110,100]⟩ gd (w.heap.size+2) (w.heap.size+1) (0+1+1) 1 2 1 3 50 _ 1 gc _ cv.o ((aA ce.o _).trans rfl) gb _ _ dc.o b7.o).mono ?_;rintro r fh ⟨rfl,an⟩;have ab:=f8 an;clear an)
 clear f3;have db:=f8 (aB ab.o b3.o);have da:=f8 (aB ab.o cv.o);have cm:=f8 (aB ab.o ce.o);have bz:=f8 (aB ab.o dc.o);have bx:=f8 (aB ab.o b7.o);have d3:=f8 (aB ab.o dp.o);have cl:=f8 (c2.trans (ab.mono c2.size));rw[jk];have f4:=aA db.o 4
 (try dsimp only at f4)
 go_wp2_with (go_at_call 22;refine(dec4_no ⟨#[101,110,100]⟩ gd (w.heap.size+2) (w.heap.size+1) (0+1+1) 1 2 1 3 50 _ 1 gc _ da.o ((aA cm.o _).trans rfl) gb _ _ bz.o bx.o).mono ?_;rintro r fe ⟨rfl,am⟩;have ac:=f8 am;clear am)
 clear f4;have b2:=f8 (aB ac.o db.o);have cg:=f8 (aB ac.o da.o);have ch:=f8 (aB ac.o cm.o);have dn:=f8 (aB ac.o bz.o);have dw:=f8 (aB ac.o bx.o);have ea:=f8 (aB ac.o d3.o);have b8:=f8 (cl.trans (ac.mono cl.size));rw[jk];have f5:=aA b2.o 5
 (try dsimp only at f5)
 go_wp2_with (go_at_call 26;refine(effs_no ⟨#[101,110,100]⟩ gd (w.heap.size+2) (w.heap.size+1) (0+1+1) 1 2 1 3 50 _ 1 gc _ cg.o ((aA ch.o _).trans rfl) gb gd).mono ?_;rintro r dt ⟨rfl,ao⟩;have ae:=f8 ao;clear ao)
 clear f5;have e9:=f8 (aB ae.o b2.o);have aq:=f8 (aB ae.o cg.o);have fa:=f8 (aB ae.o ch.o);have di:=f8 (aB ae.o dn.o);have fc:=f8 (aB ae.o dw.o);have ev:=f8 (aB ae.o ea.o);have bn:=f8 (b8.trans (ae.mono b8.size));have a3:=f8 ((((a7.ext ad.o).ext ab.o).ext ac.o).ext ae.o);have c3:=f8 (ew.o g gc dt bn.o eg.o a3.o);rw[<-eo.o] at c3;rw[jk];have c4:=aA di.o 0;have r1:=aA aq.o 1;have r2:=aA aq.o 2;have r3:=aA aq.o 3;have r4:=aA aq.o 4
 have r5:=aA aq.o 5;have r6:=aA aq.o 6;have r7:=aA aq.o 7;have r8:=aA aq.o 8;have r9:=aA aq.o 9
 (try dsimp only at c4 r1 r2 r3 r4 r5 r6 r7 r8 r9)
 go_upto_region 14 with (go_at_call 27;refine c3.mono ?_;rintro r bf ⟨rfl,a2⟩;have al:=f8 a2;clear a2)
 clear c4 r1 r2 r3 r4 r5 r6 r7 r8 r9;have af:=f8 (aB al.o aq.o);have aa:=f8 (aB al.o ev.o);have c4:=aA (aB al.o di.o) 0;have r1:=aA af.o 1;have r2:=aA af.o 2;have r3:=aA af.o 3;have r4:=aA af.o 4;have r5:=aA af.o 5;have r6:=aA af.o 6;have r7:=aA af.o 7;have r8:=aA af.o 8;have r9:=aA af.o 9;have cu:=aA af.o 10
 (try dsimp only at c4 r1 r2 r3 r4 r5 r6 r7 r8 r9 cu)
 have q1:(tx.toList==tx.toList)=true:=beq_self_eq_true _;have q2:(tx.toList != tx.toList)=false:=by simp[bne]
 go_upto_region 16 with (fail)
 have ed:=aF aa.o 0;have cp:=aA aa.o 0;have eh:=aF aa.o 1;have co:=aA aa.o 1;have ds:=aF aa.o 2;have b4:=aA aa.o 2;have e5:=aF aa.o 3;have cf:=aA aa.o 3;have dv:=aF aa.o 4;have ct:=aA aa.o 4;have el:=aF aa.o 5;have c6:=aA aa.o 5;have es:=aF aa.o 6;have ck:=aA aa.o 6;have d6:=aF aa.o 7;have cx:=aA aa.o 7;have d9:=aF aa.o 8;have cc:=aA aa.o 8
 (try dsimp only at cp co b4 cf ct c6 ck cx cc)
 go_wp2;clear c4 r1 r2 r3 r4 r5 r6 r7 r8 r9 cu q1 q2 ed cp eh co ds b4 e5 cf dv ct el c6 es ck d6 cx d9 cc;have e4:BB w bf:=bn.trans (al.mono bn.size);have hF:=(aG (o:=8) Z0 (aG (o:=7) Z0 (aG (o:=6) Z0 (aG (o:=5) Z0 (aG (o:=4) (Sl (So g 0) 1 gc) (aG (o:=3) Z0 (aG (o:=2) (I6 50) (aG (o:=1) (I6 3) (aG (o:=0) (I6 1) aa.o)))))))))
 simp only[jm,jn,jo] at hF;have ak:g≠w.heap.size:=by have:=dz.o;have h1:=bc.size;have h2:=dj.o;have h3:=ltOf bk.o;omega
 have cj:CntAt (((((((((bf.setCell ⟨w.heap.size,0,none⟩ (I6 1)).setCell ⟨w.heap.size,1,none⟩ (I6 3)).setCell ⟨w.heap.size,2,none⟩ (I6 50)).setCell ⟨w.heap.size,3,none⟩ Z0).setCell ⟨w.heap.size,4,none⟩ (Sl (So g 0) 1 gc)).setCell ⟨w.heap.size,5,none⟩ Z0).setCell ⟨w.heap.size,6,none⟩ Z0).setCell ⟨w.heap.size,7,none⟩ Z0).setCell ⟨w.heap.size,8,none⟩ Z0) g ⟨#[105,110]⟩ 3:=(a3.ext al.o).same λo ho=>aD _ _ (aD _ _ (aD _ _ (aD _ _ (aD _ _ (aD _ _ (aD _ _ (aD _ _ (aD _ _ (ho) (by exact ak)) (by exact ak)) (by exact ak)) (by exact ak)) (by exact ak)) (by exact ak)) (by exact ak)) (by exact ak)) (by exact ak)
 have ar:BB w (((((((((bf.setCell ⟨w.heap.size,0,none⟩ (I6 1)).setCell ⟨w.heap.size,1,none⟩ (I6 3)).setCell ⟨w.heap.size,2,none⟩ (I6 50)).setCell ⟨w.heap.size,3,none⟩ Z0).setCell ⟨w.heap.size,4,none⟩ (Sl (So g 0) 1 gc)).setCell ⟨w.heap.size,5,none⟩ Z0).setCell ⟨w.heap.size,6,none⟩ Z0).setCell ⟨w.heap.size,7,none⟩ Z0).setCell ⟨w.heap.size,8,none⟩ Z0):=(((((((((e4.setCell (p:=⟨w.heap.size,0,none⟩) lr _).setCell (p:=⟨w.heap.size,1,none⟩) lr _).setCell (p:=⟨w.heap.size,2,none⟩) lr _).setCell (p:=⟨w.heap.size,3,none⟩) lr _).setCell (p:=⟨w.heap.size,4,none⟩) lr _).setCell (p:=⟨w.heap.size,5,none⟩) lr _).setCell (p:=⟨w.heap.size,6,none⟩) lr _).setCell (p:=⟨w.heap.size,7,none⟩) lr _).setCell (p:=⟨w.heap.size,8,none⟩) lr _)
 obtain⟨Wf,d2⟩:=xe ((((((((((bf.setCell ⟨w.heap.size,0,none⟩ (I6 1)).setCell ⟨w.heap.size,1,none⟩ (I6 3)).setCell ⟨w.heap.size,2,none⟩ (I6 50)).setCell ⟨w.heap.size,3,none⟩ Z0).setCell ⟨w.heap.size,4,none⟩ (Sl (So g 0) 1 gc)).setCell ⟨w.heap.size,5,none⟩ Z0).setCell ⟨w.heap.size,6,none⟩ Z0).setCell ⟨w.heap.size,7,none⟩ Z0).setCell ⟨w.heap.size,8,none⟩ Z0))
 rw[<-d2] at hF cj ar ⊢;exact ig (v:=.tuple #[.agg #[I6 1,I6 3,I6 50,Z0,Sl (So g 0) 1 gc,Z0,Z0,Z0,Z0],I6 0]) (by simp[results,results5,go_sem,aA hF]) rfl ⟨g,gc,rfl,cj,ar⟩
theorem yZ (s:ByteArray) (n:Int) (g c g2 c2:Nat) (w:World) (hg:CntAt w g s n) (aa:CntAt w g2 s n) :
 CP 70 #[Sl (So g 0) 1 c,Sl (So g2 0) 1 c2] w λr w'=>r=.returned (.bool true)/\BB w w':=by
 have HA:f7 (CntAt w.drew g s n):=f8 (hg.ext (bR w).drew);have HB:f7 (CntAt w.drew g2 s n):=f8 (aa.ext (bR w).drew);have HC:=f8 (λ(w':World) (h:CntAt w' g s n/\CntAt w' g2 s n)=>(show Ce w' g 0 (Sv s)/\Ce w' g 1 (I6 n)/\Ce w' g2 0 (Sv s)/\Ce w' g2 1 (I6 n) from⟨h.1.c0,h.1.c1,h.2.c0,h.2.c1⟩));clear hg aa;go_enter func70,ntmps70
 go_wp2;refine lx 2 ?_;rw[jk];go_upto_region 6 with (fail)
 refine iz (S:=(λw'=>CntAt w' g s n/\CntAt w' g2 s n)) gd (⟨HA.o,HB.o⟩) (λhS=>?_);refine tC 0 HC ?_;refine tC 1 HC ?_;refine tC 2 HC ?_;refine tC 3 HC ?_;refine tC 4 HC ?_;refine tC 5 HC ?_;refine tC 6 HC ?_;refine tC 7 HC ?_;refine tC 8 HC ?_;refine iq gd ?_ _
 (try dsimp only)
 clear hS;go_wp2;rw[jk];go_wp2;go_ret;exact⟨rfl,(bR w).drew⟩
theorem pY (w:World):CP 70 #[Z0,Z0] w λr w'=>r=.returned (.bool true)/\w'=w:=by
 go_enter func70,ntmps70
 go_wp2;refine lx 1 ?_;rw[jk];go_wp2;go_ret;exact⟨rfl,rfl⟩
theorem yY (w:World):CP 31 #[Z0,Z0] w λr w'=>r=.returned (.bool true)/\w'=w:=by
 go_enter func31,ntmps31
 go_wp2;refine lx 1 ?_;rw[jk];go_wp2;go_ret;exact⟨rfl,rfl⟩
theorem yX (v e t:Int) (p p2:Option Addr) (l c c2:Nat) (w:World) (hS:∀w',BB w w'->CP 70 #[.slice p l c,.slice p2 l c2] w' λr w2=>r=.returned (.bool true)/\BB w' w2) :
 CP 30 #[.agg #[I6 v,I6 e,I6 t,.slice none 0 0,.slice p l c,.slice none 0 0,.slice none 0 0,.slice none 0 0],.agg #[I6 v,I6 e,I6 t,.slice none 0 0,.slice p2 l c2,.slice none 0 0,.slice none 0 0,.slice none 0 0]] w λr w'=>r=.returned (.bool true)/\BB w w':=by
 obtain⟨W,hW⟩:=xe ((w.alloc (.cells #[I6 v,I6 e,I6 t,.slice none 0 0,.slice p l c,.slice none 0 0,.slice none 0 0,.slice none 0 0] 27)).alloc (.cells #[I6 v,I6 e,I6 t,.slice none 0 0,.slice p2 l c2,.slice none 0 0,.slice none 0 0,.slice none 0 0] 27))
 have ab:BB w W:=by rw[hW];exact((bR w).alloc lr _).alloc ge _
 have g1:W.heap[w.heap.size]?=some (.cells #[I6 v,I6 e,I6 t,.slice none 0 0,.slice p l c,.slice none 0 0,.slice none 0 0,.slice none 0 0] 27):=by rw[hW];exact aC _ (ib w _)
 have g3:W.heap[w.heap.size+1]?=some (.cells #[I6 v,I6 e,I6 t,.slice none 0 0,.slice p2 l c2,.slice none 0 0,.slice none 0 0,.slice none 0 0] 27):=by rw[hW];exact aN _ _ _ ge
 have ag:=f8 (hS W ab);have ae:=f8 (λw=>pY w);have a0:=aA g1 0;have b0:=aA g3 0;have a1:=aA g1 1;have b1:=aA g3 1;have a2:=aA g1 2;have b2:=aA g3 2;have a3:=aA g1 3;have b3:=aA g3 3;have a4:=aA g1 4;have b4:=aA g3 4;have a5:=aA g1 5;have b5:=aA g3 5;have a6:=aA g1 6;have b6:=aA g3 6;have a7:=aA g1 7;have b7:=aA g3 7
 (try dsimp only at a0 b0 a1 b1 a2 b2 a3 b3 a4 b4 a5 b5 a6 b6 a7 b7)
 obtain⟨G1,G3,HW,ad⟩:=h_4 g1 g3 hW ab;clear hS g1 g3 hW ab;go_enter func30,ntmps30
 go_upto_region 1 with (fail)
 rw[<-HW.o];go_upto_region 3 with (first
  | (go_at_call_has 70 (Value.slice none 0 0);refine(ae.o _).mono ?_;rintro r w4 ⟨rfl,ac⟩;rw[ac];clear ac)
  | (go_at_call 70;refine ag.mono ?_;rintro r w3 ⟨rfl,aa⟩;have x3:=aA (aB aa G1.o) 3;have y3:=aA (aB aa G3.o) 3;have x5:=aA (aB aa G1.o) 5;have y5:=aA (aB aa G3.o) 5;have x6:=aA (aB aa G1.o) 6;have y6:=aA (aB aa G3.o) 6;have x7:=aA (aB aa G1.o) 7;have y7:=aA (aB aa G3.o) 7;(try dsimp only at x3 y3 x5 y5 x6 y6 x7 y7);have af:=f8 aa;clear aa))
 clear a0 b0 a1 b1 a2 b2 a3 b3 a4 b4 a5 b5 a6 b6 a7 b7;go_wp2;refine lx 1 ?_;rw[jk];go_wp2;refine lx 1 ?_;rw[jk];go_wp2;refine lx 1 ?_;rw[jk];go_wp2;go_ret;exact⟨rfl,ad.trans (af.mono ad.size)⟩
theorem wE (v e t:Int) (p p2:Option Addr) (l c c2:Nat) (w:World) (hS:∀w',BB w w'->CP 70 #[Sl p l c,Sl p2 l c2] w' λr w2=>r=.returned (.bool true)/\BB w' w2) :
 CP 7 #[.agg #[I6 v,I6 e,I6 t,Z0,Sl p l c,Z0,Z0,Z0,Z0],.agg #[I6 v,I6 e,I6 t,Z0,Sl p2 l c2,Z0,Z0,Z0,Z0]] w λr w'=>r=.returned (.bool true)/\BB w w':=by
 obtain⟨W,hW⟩:=xe ((w.alloc (.cells #[I6 v,I6 e,I6 t,Z0,Sl p l c,Z0,Z0,Z0,Z0] 30)).alloc (.cells #[I6 v,I6 e,I6 t,Z0,Sl p2 l c2,Z0,Z0,Z0,Z0] 30))
 have ab:BB w W:=by rw[hW];exact((bR w).alloc lr _).alloc ge _
 have g1:W.heap[w.heap.size]?=some (.cells #[I6 v,I6 e,I6 t,Z0,Sl p l c,Z0,Z0,Z0,Z0] 30):=by rw[hW];exact aC _ (ib w _)
 have g3:W.heap[w.heap.size+1]?=some (.cells #[I6 v,I6 e,I6 t,Z0,Sl p2 l c2,Z0,Z0,Z0,Z0] 30):=by rw[hW];exact aN _ _ _ ge
 have ag:=f8 (yX v e t p p2 l c c2 W (λw' h=>hS w' (ab.trans (h.mono ab.size))));have ae:=f8 (λw=>yY w);have a0:=aA g1 0;have b0:=aA g3 0;have a1:=aA g1 1;have b1:=aA g3 1;have a2:=aA g1 2;have b2:=aA g3 2;have a3:=aA g1 3;have b3:=aA g3 3;have a4:=aA g1 4;have b4:=aA g3 4;have a5:=aA g1 5;have b5:=aA g3 5;have a6:=aA g1 6;have b6:=aA g3 6;have a7:=aA g1 7;have b7:=aA g3 7;have a8:=aA g1 8;have b8:=aA g3 8
 (try dsimp only at a0 b0 a1 b1 a2 b2 a3 b3 a4 b4 a5 b5 a6 b6 a7 b7 a8 b8)
 obtain⟨G1,G3,HW,ad⟩:=h_4 g1 g3 hW ab;clear hS g1 g3 hW ab;go_enter func7,ntmps7
 go_upto_region 1 with (fail)
 rw[<-HW.o];go_wp2_with (first
  | (go_at_call 30;refine ag.mono ?_;rintro r w3 ⟨rfl,aa⟩;have x8:=aA (aB aa G1.o) 8;have y8:=aA (aB aa G3.o) 8;(try dsimp only at x8 y8);have af:=f8 aa;clear aa)
  | (go_at_call 31;refine(ae.o _).mono ?_;rintro r w4 ⟨rfl,ac⟩;rw[ac];clear ac))
 go_ret;exact⟨rfl,ad.trans (af.mono ad.size)⟩
theorem aDz (n:Int) (w:World):CP 28 #[I6 n] w λr w'=>∃g,r=.returned (.agg #[I6 1,I6 n,I6 50,Z0,Sl (So g 0) 1 1,Z0,Z0,Z0,Z0])/\CntAt w' g ⟨#[105,110]⟩ n/\BB w w':=by
 go_enter func28,ntmps28
 go_wp2;have h1:((w.alloc (.cells #[I6 1,I6 n,I6 50,Z0,Sl (So (w.heap.size+1) 0) 1 1,Z0,Z0,Z0,Z0] 30)).alloc (.cells #[.string ⟨#[105,110]⟩,I6 n] 87)).heap[w.heap.size]?=some (.cells #[I6 1,I6 n,I6 50,Z0,Sl (So (w.heap.size+1) 0) 1 1,Z0,Z0,Z0,Z0] 30):=aC _ (ib w _)
 have h2:CntAt ((w.alloc (.cells #[I6 1,I6 n,I6 50,Z0,Sl (So (w.heap.size+1) 0) 1 1,Z0,Z0,Z0,Z0] 30)).alloc (.cells #[.string ⟨#[105,110]⟩,I6 n] 87)) (w.heap.size+1) ⟨#[105,110]⟩ n:=⟨_,_,_,aN _ _ _ ge,rfl,rfl⟩
 exact ig (v:=.agg #[I6 1,I6 n,I6 50,Z0,Sl (So (w.heap.size+1) 0) 1 1,Z0,Z0,Z0,Z0]) (by simp[results,results28,go_sem,aA h1]) rfl ⟨w.heap.size+1,rfl,h2,((bR w).alloc lr _).alloc ge _⟩
theorem snName3:qH 3=⟨#[115,110,97,112,115,104,111,116,46,48,48,48,48,48,48,51]⟩:=by
 unfold qH dO;rw[show Lib.decDigits 3=[51] from by rw[Lib.decDigits,dif_pos gb];rfl];rfl
theorem rV (w:World) (hT:Tabs w) (hN:NumVars w) (hE:Enc3 w):CP 6 #[] w λr w'=>r=.returned (.bool true)/\BB w w':=by
 have ax:=f8 (λw=>aDz 3 w);have ay:=f8 (λ(g:Nat) (w':World) (h:CntAt w' g ⟨#[105,110]⟩ 3) (hb:BB w w')=>hE g 1 w' hb lr h);have aw:=f8 (λ(w':World) (hb:BB w w')=>aLo w' (hT.below hb) (hN.below hb) (λg c w2 h2=>hE g c w2 (hb.trans (h2.mono hb.size))));have aq:=f8 (λ(w':World) (hb:BB w w')=>aDu 3 gb w' (hT.below hb));obtain⟨tx,ap⟩:=xe snT3
 obtain⟨nm,ah⟩:=xe (qH 3)
 have q1:(tx.toList==[115,110,97,112,115,104,111,116,32,49,32,51,32,53,48,10,97,114,114,105,118,101,100,32,105,110,32,51,10,101,110,100,10])=true:=by rw[ap,kw];rfl
 have q2:(nm.toList==[115,110,97,112,115,104,111,116,46,48,48,48,48,48,48,51])=true:=by rw[ah,snName3,kw];rfl
 rw[<-ap] at ay aw;rw[<-ah] at aq;clear ap ah hT hN hE;go_enter func6,ntmps6
 go_upto_region 2 with (first
  | (go_at_call 28;refine(ax.o _).mono ?_;rintro r w1 ⟨g1,rfl,af,au⟩;obtain⟨ao,an⟩:=h_2 af au;clear af au)
  | (go_at_call 27;refine(ay.o g1 w1 ao.o an.o).mono ?_;rintro r w2 ⟨rfl,ar⟩;have ai:=f8 (an.trans (ar.mono an.size));clear ar))
 go_upto_region 4 with (first
  | (go_at_call 5;refine(aw.o w2 ai.o).mono ?_;rintro r w3 ⟨g2,gc,rfl,ae,av⟩;have ad:=f8 ae;have ag:=f8 (ai.trans (av.mono ai.size));clear ae av)
  | (go_at_call 29;refine(aq.o (w3.alloc (.cells #[I6 1,I6 3,I6 50,Z0,.slice (So g2 0) 1 gc,Z0,Z0,Z0,Z0] 30)) (ag.alloc ag.size _)).mono ?_;rintro r w4 ⟨rfl,az⟩;have ak:=f8 az;clear az))
 obtain⟨XB,aj⟩:=xe w3.heap.size
 rw[<-aj];have HX:f7 (w4.drew.heap[XB]?=some (.cells #[I6 1,I6 3,I6 50,Z0,Sl (So g2 0) 1 gc,Z0,Z0,Z0,Z0] 30)):=f8 (by rw[aj];have:=aB ak.o (ib w3 (.cells #[I6 1,I6 3,I6 50,Z0,Sl (So g2 0) 1 gc,Z0,Z0,Z0,Z0] 30));exact this)
 have a1:f7 (CntAt w4.drew g2 ⟨#[105,110]⟩ 3):=f8 (((ad.alloc (.cells #[I6 1,I6 3,I6 50,Z0,Sl (So g2 0) 1 gc,Z0,Z0,Z0,Z0] 30)).ext ak.o).ext (gx _ w4).drew);have a3:f7 (BB w w4):=f8 ((ag.alloc ag.size (.cells #[I6 1,I6 3,I6 50,Z0,Sl (So g2 0) 1 gc,Z0,Z0,Z0,Z0] 30)).trans (ak.mono (by have:=ag.size;simp;omega)))
 have aa:=f8 (λ(w':World) (h:w'.heap[XB]?=some (.cells #[I6 1,I6 3,I6 50,Z0,Sl (So g2 0) 1 gc,Z0,Z0,Z0,Z0] 30)/\CntAt w' g2 ⟨#[105,110]⟩ 3/\BB w w')=>(show Ce w' XB 0 (I6 1)/\Ce w' XB 1 (I6 3)/\Ce w' XB 2 (I6 50)/\Ce w' XB 3 Z0/\Ce w' XB 4 (Sl (So g2 0) 1 gc)/\Ce w' XB 5 Z0/\Ce w' XB 6 Z0/\Ce w' XB 7 Z0/\Ce w' XB 8 Z0 from⟨aA h.1 0,aA h.1 1,aA h.1 2,aA h.1 3,aA h.1 4,aA h.1 5,aA h.1 6,aA h.1 7,aA h.1 8⟩));clear aj
 refine iz (S:=(λw'=>w'.heap[XB]?=some (.cells #[I6 1,I6 3,I6 50,Z0,Sl (So g2 0) 1 gc,Z0,Z0,Z0,Z0] 30)/\CntAt w' g2 ⟨#[105,110]⟩ 3/\BB w w')) gd (⟨HX.o,a1.o,a3.drew⟩) (λhS=>?_);refine tC 0 aa ?_;refine tC 1 aa ?_;refine tC 2 aa ?_;refine tC 3 aa ?_;refine tC 4 aa ?_;refine tC 5 aa ?_;refine tC 6 aa ?_;refine tC 7 aa ?_;refine tC 8 aa ?_;refine tC 9 aa ?_;refine tC 10 aa ?_;refine tC 11 aa ?_;refine yr 12 λK hK=>?_;go_simp;go_at_call 28;refine(ax.o _).mono ?_;rintro r a0 ⟨g5,rfl,al,ab⟩;have am:=f8 al;have ad:=f8 (hS.2.1.ext ab);refine kOQ hK (⟨aB ab hS.1,hS.2.1.ext ab,hS.2.2.trans (ab.mono hS.2.2.size)⟩) λhS=>?_;clear hK K
 refine yr 13 λK hK=>?_;have a2:=f8 (wE 1 3 50 _ _ 1 gc 1 a0 (λw' h=>yZ ⟨#[105,110]⟩ 3 g2 gc g5 1 w' (ad.ext h) (am.ext h)));go_simp;go_at_call 7;refine a2.mono ?_;rintro r a4 ⟨rfl,ac⟩;refine kOQ hK (⟨aB ac hS.1,hS.2.1.ext ac,hS.2.2.trans (ac.mono hS.2.2.size)⟩) λhS=>?_;clear hK K
 refine tC 14 aa ?_;refine tC 15 aa ?_;refine tC 16 aa ?_;refine tC 17 aa ?_;refine tC 18 aa ?_;refine tC 19 aa ?_;refine tC 20 aa ?_;refine tC 21 aa ?_;refine tC 22 aa ?_;refine tC 23 aa ?_;refine iq gd ?_ _
 (try dsimp only)
 have HS:=f8 hS;clear hS;go_wp2;go_ret;exact⟨rfl,HS.2.2⟩
theorem ito1:aE 1=⟨#[49]⟩:=by
 unfold aE Lib.itoa;rw[f9 gb,show Int.toNat 1=1 from rfl,Lib.decDigits,dif_pos gb];rfl
theorem ito3:aE 3=⟨#[51]⟩:=by
 unfold aE Lib.itoa;rw[f9 gb,show Int.toNat 3=3 from rfl,Lib.decDigits,dif_pos gb];rfl
theorem ito50:aE 50=⟨#[53,48]⟩:=by
 unfold aE Lib.itoa;rw[f9 gb,show Int.toNat 50=50 from rfl,Lib.decDigits,dif_neg gb,show 50 / 10=5 from rfl,Lib.decDigits,dif_pos gb];rfl
def aDx:Snp:=⟨1,3,50,[],[⟨⟨#[105,110]⟩,3⟩],[],[],[],[]⟩
theorem aDw:lF aDx=snT3.data.toList:=by
 unfold lF aHp aDx;simp only[List.flatMap_nil,nh,cC];rw[ito1,ito3,ito50]
 kernel_rfl
theorem snD3_ok:jL aDx=(snT3,0):=by
 have h:=aDw;unfold jL;rw[f9 (show ¬ snE aDx≠0 from by rw[show snE aDx=0 by kernel_rfl];simp),f9 (show ¬ aJz aDx≠0 from by rw[show aJz aDx=0 by kernel_rfl];simp),h]
theorem aFa (w:World) (hT:Tabs w) (hZ:ZTab w):Enc3 w:=λg c w' hb hc hg=>by
 have i1:I64 1:=⟨by decide,by decide⟩
 have i3:I64 3:=⟨by decide,by decide⟩
 have i5:I64 50:=⟨by decide,by decide⟩
 have z:∀(C D:Type) (K:Kit C D) (S:Nat->Prop),IsRow K S w' none 0 0 []:=λC D K S=>⟨rfl,gy _,by simp,.inl rfl⟩
 have h:=pX ⟨1,3,50,none,0,0,some ⟨g,0,none⟩,1,c,none,0,0,none,0,0,none,0,0,none,0,0⟩ aDx w'
  ⟨rfl,i1,rfl,i3,rfl,i5,z _ _ _ _,⟨rfl,hc,(show 1 * 24<=140737488351232 by decide),.inr ⟨g,0,rfl,by obtain⟨_,_,_,h1,_⟩:=hg;exact ltOf h1,λj hj=>⟨⟨⟨#[105,110]⟩,3⟩,λi hi=>by
    have e:j=0:=by have:j<1:=hj;omega
    subst e;have:i<2:=hi;rcases (show i=0\/i=1 by omega) with rfl|rfl
    ·exact hg.c0
    ·exact hg.c1,by
    have e:j=0:=by have:j<1:=hj;omega
    subst e;exact⟨rfl,(show 2<=140737488351232 by decide),i3⟩⟩⟩⟩,z _ _ _ _,z _ _ _ _,z _ _ _ _,z _ _ _ _⟩
  (hT.below hb) (hZ.below hb) (λs h=>by cases h) (λs h=>by cases h) (λ_=>by rw[aDw];decide)
 rw[snD3_ok] at h;exact h
end Go.Proofs.YtoodnaghjpkjfaaGreatDoor
