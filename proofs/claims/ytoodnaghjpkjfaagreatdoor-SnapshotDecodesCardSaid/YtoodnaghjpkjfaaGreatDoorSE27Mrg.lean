/- A part. -/
import Derived.Test.YtoodnaghjpkjfaaGreatDoorSE12Mrg
namespace Go.Proofs.YtoodnaghjpkjfaaGreatDoor
open Tryz
set_option linter.unusedVariables false
set_option maxRecDepth 100000
set_option maxHeartbeats 64000000
set_option linter.unusedSimpArgs false
open Go Go.RowKit Go.Shelf
section
attribute [local go_sem] cQ fE cS dJ bV cA
def aOu (w:World) (b N:Nat) (s:BA) (r:Rd) (a:Nat) (wz:World):Prop :=
 ∃r2:Rd,IsRd wz b s r2/\r.adv s=lU s a r2/\aBm s a r2/\w.grownBy wz (some b)/\wz.heap[N]?=some tokZ/\wz.heap[N+1]?=some (tokO r)
theorem tS {w W wz:World} {b N a:Nat} {s:BA} {r r2:Rd} {ab cs:Array Value} (HG:w.grownBy (cT W b ab) (some b)) (H0:W.heap[N]?=some tokZ) (H1:W.heap[N+1]?=some (tokO r)) (aa:N≠b/\N+1≠b) (hg:(cT W b cs).grownBy wz (some b)) (h2:IsRd wz b s r2)
 (ac:r.adv s=lU s a r2) (hm:aBm s a r2):aOu w b N s r a wz:=by
 have l0:N<(cT W b cs).heap.size:=by rw[cA];exact ltOf H0
 have l1:N+1<(cT W b cs).heap.size:=by rw[cA];exact ltOf H1
 exact⟨r2,h2,ac,hm,(HG.trans (bQ W b ab cs)).trans hg,(hg.block N l0 (by simp[aa.1])).trans ((aJ W b cs N aa.1).trans H0),(hg.block (N+1) l1 (by simp[aa.2])).trans ((aJ W b cs (N+1) aa.2).trans H1)⟩
theorem aK {w w':World} {row:Option Nat} (hg:w.grownBy w' row) (N:Nat) (cs:Array Value) (hN:w.heap.size<=N):w.grownBy (w'.setRow N cs) row :=
 ⟨hg.os,hg.tape,hg.output,by rw[ky];exact hg.size,λi hi hne=>by rw[ko w' N i cs ga];exact hg.block i hi hne⟩
theorem aI {w:World} {b N:Nat} {s:BA} {r:Rd} {cs:Array Value} (h:IsRd w b s r) (hN:N≠b):IsRd (w.setRow N cs) b s r:=⟨(ko w N b cs (λe=>hN e.symm)).trans h.at_,h.ok⟩
theorem aN2 {s:BA} {a:Nat} (o:Nat) (h:a<=s.size):(r1F a o).Ok s:=⟨λ_=>rfl,h,h⟩
theorem sym_tab:∀n:Fin 256,symL.contains (UInt8.ofNat n.val)=decide (0<=Lib.indexByte symL (UInt8.ofNat n.val)):=by decide +kernel
theorem sym_idx (c:UInt8):symL.contains c=decide (0<=Lib.indexByte symL c):=by
 have:=sym_tab ⟨c.toNat,c.toNat_lt⟩
 simpa using this
theorem mid_word (s:BA) (a o:Nat):aBm s a { r1F a o with nx:=bP s.data.toList a mN,k:=1 }:=⟨jW _ _ _,λ_=>by simp⟩
section
attribute [-go_sem] loadCellsFrom storeCells
attribute [local go_sem] mG mF pT tF tE sY aHm aHl mB mA
theorem aOo (b:Nat) (s:BA) (r:Rd) (w:World) (h:IsRd w b s r) (hs:s.size<=100000) (ci:TB w b) (he:r.e=0) :
 CP 163 #[Pt b 0] w λx w'=>x=.returned (tokV r)/\IsRd w' b s (r.adv s)/\w.grownBy w' (some b):=by
 have a8:s.data.toList.length=s.size:=rfl;obtain⟨HR,ct,HE⟩:=h_3 h ci he;have qe:(r.e==0)=true:=by simp[he]
 have b5:(r.e != 0)=false:=by simp[he]
 have c2:=ld_rd (h.alloc tokZ);have co:=mC (w.alloc tokZ) #[I6 0,I6 0,Sv ⟨#[]⟩,Sv ⟨#[]⟩,I6 0,I6 0,.bool false,.bool false] rfl r;have c3:Ce w b 10 (I6 r.e):=aA h.at_ 10;have a5:=h.lt;simp only[jb] at co;clear h ci he;go_enter func163,ntmps163
 go_upto_region 4 with (fail)
 obtain⟨N,hN⟩:=xe w.heap.size
 obtain⟨w1,a3⟩:=xe ((w.alloc tokZ).alloc (tokO r))
 rw[<-a3,<-hN];have bl:IsRd w1 b s r:=by rw[a3];exact(HR.alloc _).alloc _
 have bm:w.grownBy w1 (some b):=by rw[a3];exact(jq _ _ _).trans (jq _ _ _)
 have h0:w1.heap[N]?=some tokZ:=by rw[a3,hN];exact aC _ (ib w _)
 have h1:w1.heap[N+1]?=some (tokO r):=by rw[a3,hN,<-jb w tokZ];exact ib (w.alloc tokZ) _
 have aw:=f8 (ct.grown bm (.inr rfl));have aa:=f8 (show N≠b/\N+1≠b by omega);have be:=f8 (show w.heap.size<=N by omega);clear a3 hN c2 co c3 a5;obtain⟨a,ha⟩:=xe (bP s.data.toList r.nx spC)
 have ca:r.nx<=s.size:=HR.ok.nx;have ar:a<=s.size:=by rw[ha,<-a8];exact aCb _ _ _ ca
 have ah:=f8 (aK1 b s r r.nx w1 bl ca ga);rw[<-ha] at ah;obtain⟨W,hW,hw⟩:=bl.put;subst hw;have al:=f8 bm;have H0:=f8 ((aJ W b _ N aa.1).symm.trans h0);have H1:=f8 ((aJ W b _ (N+1) aa.2).symm.trans h1);have HA:=f8 ha;clear bm h0 h1 ha bl;have cj:=λk0 p0 t0 b0 n0 sc0 d0 x0=>st_rd hW s r.nx k0 p0 t0 b0 n0 sc0 d0 x0 r.e r.o 0 a ⟨#[]⟩ ⟨#[]⟩ 0 0 false false;have cp:=f8 (cj r.k r.p r.t r.b r.n r.sc r.d r.x);clear cj;have qz:=cp.o;by_cases av:a=s.size
 ·have qa:((a:Int)==(s.size:Int))=true:=by simp;omega
  have br:=f8 av;clear av;have da:=H0;have bs:=lT (t:=172) (fr:=(0,0)) ((aJ W b (rdA s a 0 a ⟨#[]⟩ ⟨#[]⟩ 0 0 false false r.e r.o) (N+1) aa.2).trans H1.o);have bw:=aC1 ((aJ W b (rdA s a 0 a ⟨#[]⟩ ⟨#[]⟩ 0 0 false false r.e r.o) N aa.1).trans H0.o) rfl r;have ay:=lT (ke (cT W b (rdA s a 0 a ⟨#[]⟩ ⟨#[]⟩ 0 0 false false r.e r.o)) N _ (tokA r) 172 (0,0) ((aJ W b (rdA s a 0 a ⟨#[]⟩ ⟨#[]⟩ 0 0 false false r.e r.o) N aa.1).trans H0.o));go_wp2_with (go_at_call 212;refine ah.mono ?_;rintro e w2 ⟨rfl,rfl⟩)
  refine ig (v:=tokV r) (by simp[results,results163,go_sem,ay]) rfl ?_;have a0:r.adv s=r1F a r.o:=by
   rw[pP HE.o (by rw[<-HA.o,br.o];exact ng (Nat.le_of_eq a8)),<-HA.o]
  refine⟨rfl,?_,?_⟩
  ·rw[a0];exact aI (dK W b s (r1F a r.o) hW (aN2 _ ar) _ (by rw[HE.o];rfl)) aa.1
  ·exact aK (al.trans (bQ _ _ _ _)) N _ be.o
 ·have a6:a<s.size:=ga
  have qa:((a:Int)==(s.size:Int))=false:=by simp;omega
  have cL:(a:Int)<(s.size:Int):=ga
  have cw:(a:Int)<=(s.size:Int):=ga
  have c9:(0:Int)<=(a:Int):=ga
  have hg:=lQ s a a6;have ak:=f8 (show r.adv s=lU s a (kP s a r.o s[a]) by
   have h1:=pO HE.o (c:=s[a]) (by rw[<-HA.o];exact hg);rw[<-HA.o] at h1;exact h1)
  obtain⟨c,hc⟩:=xe (s[a])
  rw[<-hc] at ak;have HC:=f8 hc;have ae:=f8 (dK W b s (r1F a r.o) hW (aN2 _ ar) (rdA s a 0 a ⟨#[]⟩ ⟨#[]⟩ 0 0 false false 0 r.o) rfl);have ai:=f8 (aw.grown (bQ W b (rdA s r.nx r.k r.p r.t r.b r.n r.sc r.d r.x r.e r.o) (rdA s a 0 a ⟨#[]⟩ ⟨#[]⟩ 0 0 false false 0 r.o)) (.inr rfl));clear hg hc av;rw[show r.e=0 from HE.o] at *
  go_upto_block 0 with (go_at_call 212;refine ah.mono ?_;rintro e w2 ⟨rfl,rfl⟩)
  rw[<-HC.o];clear qz cp
  go_cut [] (λwz=>aOu w b N s r a wz)
  case first =>
   clear ah aw qe b5;obtain⟨es,ba⟩:=xe (s.extract a s.size)
   have au:es.data.toList=s.data.toList.drop a:=by rw[ba,rY]
   obtain⟨px,bo⟩:=xe (Lib.hasPrefix (s.data.toList.drop a) [120,34]:Bool)
   obtain⟨pd,bp⟩:=xe (Lib.hasPrefix (s.data.toList.drop a) [46,46]:Bool)
   obtain⟨lt,a5⟩:=xe (nQ c:Bool)
   obtain⟨dg,bv⟩:=xe (bI c:Bool)
   obtain⟨iv,bx⟩:=xe (Lib.indexByte symL c:Int)
   have cn:=f8 (λw'=>Tryz.strings_HasPrefix (s.extract a s.size) ⟨#[120,34]⟩ w');have bg:=f8 (λw'=>Tryz.strings_HasPrefix (s.extract a s.size) ⟨#[46,46]⟩ w');have ax:=f8 (λw'=>uF c w');have am:=f8 (λw'=>nH c w');have az:=f8 (λw'=>Tryz.strings_IndexByte ⟨#[91,93,123,125,40,41,58,44,61,63,124]⟩ (c.toNat:Int) w');rw[show(s.extract a s.size).data.toList=s.data.toList.drop a by rw[<-ba];exact au,<-bo] at cn;rw[show(s.extract a s.size).data.toList=s.data.toList.drop a by rw[<-ba];exact au,<-bp] at bg;rw[<-a5] at ax;rw[<-bv] at am
   rw[show((c.toNat:Int).toNat.toUInt8)=c by simp,show(⟨#[91,93,123,125,40,41,58,44,61,63,124]⟩:BA).data.toList=symL from rfl,<-bx] at az;have b4:=f8 (show symL.contains c=decide (0<=iv) by rw[bx];exact sym_idx c);obtain⟨HX,HD,HL,HG⟩:=h_4 bo bp a5 bv;clear bo bp a5 bv bx ba au;by_cases bh:c.toNat=34
   ·have cR:((c.toNat:Int)==34)=true:=by simp;omega
    have aq:=f8 bh;clear bh;have HS:=f8 (uQ b s (r1F a r.o) a _ ae.o ga hs ai.tabs ai.nums);go_wp2_with ((go_at_call 214;refine HS.mono ?_;rintro e w2 ⟨rfl,h2,ad⟩;obtain⟨ag,af⟩:=h_2 h2 ad;clear h2 ad))
    go_meet
    exact tS al.o H0.o H1.o aa.o af.o ag.o ((ak.o).trans (congrArg (lU s a) (by rw[kP,gw aq.o]))) (aIx s a r.o)
   have cR:((c.toNat:Int)==34)=false:=by simp;omega
   have aq:=f8 bh;clear bh;obtain⟨q1,cd⟩:=xe ((decide (c.toNat=120)&&px):Bool)
   have bu:=f8 cd;clear cd;go_upto_region 14 with (fail)
   go_cut [55] (λv wz=>v=.bool q1/\wz=(cT W b (rdA s a 0 a ⟨#[]⟩ ⟨#[]⟩ 0 0 false false 0 r.o)))
   case first =>
    have hq:=bu.o;by_cases an:c.toNat=120
    ·have bk:((c.toNat:Int)==120)=true:=by simp;omega
     have aj:q1=px:=by rw[hq];simp[an]
     clear hq an;go_wp2_with ((go_at_call 46;refine(cn.o _).mono ?_;rintro e w2 ⟨rfl,ab⟩;obtain rfl:=ab.symm))
     go_meet
     exact⟨by rw[aj],rfl⟩
    ·have bk:((c.toNat:Int)==120)=false:=by simp;omega
     have aj:q1=false:=by rw[hq];simp[an]
     clear hq an;go_wp2
     go_meet
     exact⟨by rw[aj],rfl⟩
   case rest =>
   obtain⟨rfl,a7⟩:=hcut;obtain⟨wb,ap⟩:=xe wc
   rw[<-ap] at a7 ⊢;clear ap;subst a7;cases q1
   ·have ao:=f8 (show ¬ (c.toNat=120/\Lib.hasPrefix (s.data.toList.drop a) [120,34]=true) from λh=>by
     have:=bu.o;rw[HX.o,h.2] at this;simp[h.1] at this)
    cases lt
    ·have a4:=f8 (show ¬ nQ c=true by rw[<-HL.o];decide);obtain⟨q2,b9⟩:=xe ((dg||decide (c.toNat=45)):Bool)
     have b2:=f8 b9;clear b9;go_upto_region 19 with (go_at_call 216;refine(ax.o _).mono ?_;rintro e w2 ⟨rfl,ab⟩;obtain rfl:=ab.symm)
     go_cut [83] (λv wz=>v=.bool q2/\wz=(cT W b (rdA s a 0 a ⟨#[]⟩ ⟨#[]⟩ 0 0 false false 0 r.o)))
     case first =>
      have hq:=b2.o;cases dg
      ·by_cases bf:c.toNat=45
       ·have cy:((c.toNat:Int)==45)=true:=by simp;omega
        have aj:q2=true:=by rw[hq];simp[bf]
        clear hq bf;go_wp2_with ((go_at_call 218;refine(am.o _).mono ?_;rintro e w2 ⟨rfl,ab⟩;obtain rfl:=ab.symm))
        go_meet
        exact⟨by rw[aj],rfl⟩
       ·have cy:((c.toNat:Int)==45)=false:=by simp;omega
        have aj:q2=false:=by rw[hq];simp[bf]
        clear hq bf;go_wp2_with ((go_at_call 218;refine(am.o _).mono ?_;rintro e w2 ⟨rfl,ab⟩;obtain rfl:=ab.symm))
        go_meet
        exact⟨by rw[aj],rfl⟩
      ·have aj:q2=true:=by rw[hq];rfl
       clear hq;go_wp2_with ((go_at_call 218;refine(am.o _).mono ?_;rintro e w2 ⟨rfl,ab⟩;obtain rfl:=ab.symm))
       go_meet
       exact⟨by rw[aj],rfl⟩
     case rest =>
     obtain⟨rfl,a7⟩:=hcut;obtain⟨wb,ap⟩:=xe wc
     rw[<-ap] at a7 ⊢;clear ap;subst a7;have b1:=f8 (show(bI c||c.toNat==45)=q2 by
      rw[b2.o,HG.o];congr 1)
     cases q2
     ·have bj:=f8 (show ¬ (bI c||c.toNat==45)=true by rw[b1.o];decide);cases pd
      ·have a9:=f8 (show ¬ Lib.hasPrefix (s.data.toList.drop a) [46,46]=true by rw[<-HD.o];decide);by_cases a2:0<=iv
       ·have bq:=f8 (show symL.contains c=true by rw[b4.o];exact lg a2);have qi:decide (0<=iv)=true:=lg a2;clear a2;go_wp2_with (first
  | (go_at_call 46; refine (bg.o _).mono ?_; rintro e w2 ⟨rfl, ab⟩; obtain rfl := ab.symm)
  | (go_at_call 55; refine (az.o _).mono ?_; rintro e w2 ⟨rfl, ab⟩; obtain rfl := ab.symm))
        go_meet
        exact tS al.o H0.o H1.o aa.o (bQ W b (rdA s a 0 a ⟨#[]⟩ ⟨#[]⟩ 0 0 false false 0 r.o) _) (dK W b s { r1F a r.o with nx:=a+1,k:=5 } hW ⟨λe=>(by cases e),by dsimp only;omega,ar⟩ _ rfl) ((ak.o).trans (congrArg (lU s a) (by rw[kP,f9 aq.o,f9 ao.o,f9 a4.o,f9 bj.o,f9 a9.o,gw bq.o]))) (⟨mp _,λ_=>by simp⟩)
       ·have bq:=f8 (show ¬ symL.contains c=true by rw[b4.o];simp[a2]);have qi:decide (0<=iv)=false:=mc a2;clear a2;have HF:=f8 (bH b s (r1F a r.o) a 13 _ ae.o);go_upto_region 11 with (first
         | (go_at_call 46;refine(bg.o _).mono ?_;rintro e w2 ⟨rfl,ab⟩;obtain rfl:=ab.symm)
         | (go_at_call 55;refine(az.o _).mono ?_;rintro e w2 ⟨rfl,ab⟩;obtain rfl:=ab.symm)
         | (go_at_call 162;refine HF.mono ?_;rintro e w2 ⟨rfl,h2,ad⟩;obtain⟨ag,af⟩:=h_2 h2 ad;clear h2 ad))
        obtain⟨W2,bi,ab⟩:=ag.put;subst ab;have l0:N<(cT W b (rdA s a 0 a ⟨#[]⟩ ⟨#[]⟩ 0 0 false false 0 r.o)).heap.size:=by rw[cA];exact ltOf H0.o
        have l1:N+1<(cT W b (rdA s a 0 a ⟨#[]⟩ ⟨#[]⟩ 0 0 false false 0 r.o)).heap.size:=by rw[cA];exact ltOf H1.o
        have b7:=f8 ((aJ W2 b _ N aa.1).symm.trans ((af.block N l0 (by simp[aa.1])).trans ((aJ W b _ N aa.1).trans H0.o)));have cv:=f8 ((aJ W2 b _ (N+1) aa.2).symm.trans ((af.block (N+1) l1 (by simp[aa.2])).trans ((aJ W b _ (N+1) aa.2).trans H1.o)));clear l0 l1;obtain⟨rf,bn⟩:=xe ((r1F a r.o).fail a 13)
        rw[<-bn] at ag af ⊢;have cb:=f8 bn;clear bn;have bs:=lT (t:=172) (fr:=(0,0)) ((aJ W2 b (rdA s rf.nx rf.k rf.p rf.t rf.b rf.n rf.sc rf.d rf.x rf.e rf.o) (N+1) aa.2).trans cv.o);have bw:=aC1 ((aJ W2 b (rdA s rf.nx rf.k rf.p rf.t rf.b rf.n rf.sc rf.d rf.x rf.e rf.o) N aa.1).trans b7.o) rfl r;have ay:=lT (ke (cT W2 b (rdA s rf.nx rf.k rf.p rf.t rf.b rf.n rf.sc rf.d rf.x rf.e rf.o)) N _ (tokA r) 172 (0,0) ((aJ W2 b (rdA s rf.nx rf.k rf.p rf.t rf.b rf.n rf.sc rf.d rf.x rf.e rf.o) N aa.1).trans b7.o));go_wp2
        refine ig (v:=tokV r) (by simp[results,results163,go_sem,ay]) rfl ?_;have a0:r.adv s=rf:=by
         rw[ak.o,kP,f9 aq.o,f9 ao.o,f9 a4.o,f9 bj.o,f9 a9.o,f9 bq.o,<-cb.o,lU,f9 (by rw[cb.o];exact Rd.fail_e _ _ _ gb)]
        refine⟨rfl,?_,?_⟩
        ·rw[a0];exact aI ag.o aa.1
        ·exact aK ((al.trans (bQ _ _ _ _)).trans af.o) N _ be.o
      ·have a9:=f8 (show Lib.hasPrefix (s.data.toList.drop a) [46,46]=true from HD.symm);have cx:=f8 (show a+2<=s.size by
        have h:=a9.o;rw[Lib.hasPrefix,List.isPrefixOf_iff_prefix] at h;have:=h.length_le;rw[ju,a8] at this;simp at this;omega)
       go_wp2_with ((go_at_call 46;refine(bg.o _).mono ?_;rintro e w2 ⟨rfl,ab⟩;obtain rfl:=ab.symm))
       go_meet
       exact tS al.o H0.o H1.o aa.o (bQ W b (rdA s a 0 a ⟨#[]⟩ ⟨#[]⟩ 0 0 false false 0 r.o) _) (dK W b s { r1F a r.o with nx:=a+2,k:=5 } hW ⟨λe=>(by cases e),cx.o,ar⟩ _ rfl) ((ak.o).trans (congrArg (lU s a) (by rw[kP,f9 aq.o,f9 ao.o,f9 a4.o,f9 bj.o,gw a9.o]))) (⟨Nat.le_add_right _ _,λ_=>by simp⟩)
     ·have HS:=f8 (uR b s (r1F a r.o) a _ ae.o ga hs ⟨rfl,rfl⟩ ai.o);go_wp2_with ((go_at_call 219;refine HS.mono ?_;rintro e w2 ⟨rfl,h2,ad⟩;obtain⟨ag,af⟩:=h_2 h2 ad;clear h2 ad))
      go_meet
      exact tS al.o H0.o H1.o aa.o af.o ag.o ((ak.o).trans (congrArg (lU s a) (by rw[kP,f9 aq.o,f9 ao.o,f9 a4.o,gw b1.o]))) (aIy s a r.o)
    ·have a4:=f8 (show nQ c=true from HL.symm);have b3:=f8 (aMu b s (r1F a r.o) a _ ae.o ar ga);obtain⟨cl,bc⟩:=xe (bP s.data.toList a mN)
     have c4:=f8 (show cl<=s.size by rw[bc,<-a8];exact aCb _ _ _ ar);rw[<-bc] at b3;have cf:=f8 bc;clear bc;go_wp2_with (first
  | (go_at_call 216; refine (ax.o _).mono ?_; rintro e w2 ⟨rfl, ab⟩; obtain rfl := ab.symm)
  | (go_at_call 212; refine b3.mono ?_; rintro e w2 ⟨rfl, rfl⟩))
     go_meet
     exact tS al.o H0.o H1.o aa.o (bQ W b (rdA s a 0 a ⟨#[]⟩ ⟨#[]⟩ 0 0 false false 0 r.o) _) (dK W b s { r1F a r.o with nx:=cl,k:=1 } hW ⟨λe=>(by cases e),c4.o,ar⟩ _ rfl) ((ak.o).trans (congrArg (lU s a) (by rw[kP,f9 aq.o,f9 ao.o,gw a4.o,cf.o]))) (cf.o▸mid_word s a r.o)
   ·have ao:=f8 (show c.toNat=120/\Lib.hasPrefix (s.data.toList.drop a) [120,34]=true by
     have:=bu.symm;rw[kg,jw] at this;exact⟨this.1,HX.symm.trans this.2⟩)
    have cu:a+2<=s.size:=by
     have h:=ao.2;rw[Lib.hasPrefix,List.isPrefixOf_iff_prefix] at h;have:=h.length_le;rw[ju,a8] at this;simp at this;omega
    have HS:=f8 (wK b s (r1F a r.o) a _ ae.o cu ga);go_wp2_with ((go_at_call 215;refine HS.mono ?_;rintro e w2 ⟨rfl,h2,ad⟩;obtain⟨ag,af⟩:=h_2 h2 ad;clear h2 ad))
    go_meet
    exact tS al.o H0.o H1.o aa.o af.o ag.o ((ak.o).trans (congrArg (lU s a) (by rw[kP,f9 aq.o,gw ao.o]))) (aIz s a r.o)
  case rest =>
  obtain⟨r2,h2,ck,hm,ad,h0,h1⟩:=hcut;obtain⟨wb,ap⟩:=xe wc
  rw[<-ap] at h2 ad h0 h1 ⊢;clear ap;obtain⟨ag,b6,HM,af,ch,cg⟩:=h_6 h2 ck hm ad h0 h1;have c8:=h2.ok.nx;have c7:=hm.1;clear ck hm ad h0 h1 ah aw ai ae ak HC H0 H1 al HA qe b5 a6 qa cL cw hW;by_cases a1:r2.e=0
  ·have bb:=f8 a1;have cz:(r2.e==0)=true:=by simp[a1]
   have ac:=f8 (λ(w':World) (h:IsRd w' b s r2/\w'.heap[N]?=some tokZ/\w'.heap[N+1]?=some (tokO r)/\w.grownBy w' (some b))=>(show Ce w' b 0 (Sv s)/\Ce w' b 1 (I6 (r2.nx:Int)) from⟨aA h.1.at_ 0,aA h.1.at_ 1⟩));have c5:(a:Int)<=(r2.nx:Int):=ga
   have db:(r2.nx:Int)<=(s.size:Int):=ga
   have c6:(0:Int)<=(r2.nx:Int):=ga
   have cc:Ce wb b 10 (I6 r2.e):=aA h2.at_ 10;have bd:=f8 (show IsRd wb b s r2/\wb.heap[N]?=some tokZ/\wb.heap[N+1]?=some (tokO r)/\w.grownBy wb (some b) from⟨h2,ch.o,cg.o,af.o⟩);clear a1 h2;go_upto_region 26 with (fail)
   refine bK 11 (λw'=>IsRd w' b s r2/\w'.heap[N]?=some tokZ/\w'.heap[N+1]?=some (tokO r)/\w.grownBy w' (some b)) gd gd gd gb (⟨bd.o.1.grown (row:=none) ⟨rfl,rfl,rfl,gy _,λ_ _ _=>rfl⟩ ge,bd.o.2.1,bd.o.2.2.1,bd.o.2.2.2.trans ⟨rfl,rfl,rfl,gy _,λ_ _ _=>rfl⟩⟩) (λhS=>?_);simp only[zdm,zdn,zdp,zdq];refine tC 0 ac ?_;refine tC 1 ac ?_;refine tC 2 ac ?_;refine tC 3 ac ?_;refine tC 4 ac ?_;refine tC 5 ac ?_;refine tC 6 ac ?_;refine tC 7 ac ?_;refine tC 8 ac ?_;refine tC 9 ac ?_;refine tC 10 ac ?_;refine iq gd ?_ _
   (try dsimp only)
   obtain⟨w6,bz⟩:=xe wb.drew
   rw[<-bz] at hS ⊢;clear bz;obtain⟨bt,b8,cm,ce⟩:=hS;obtain⟨cr,cq⟩:=h_2 bt ce;obtain⟨W2,bi,ab⟩:=bt.put;subst ab;have H0:=f8 ((aJ W2 b _ N aa.1).symm.trans b8);have H1:=f8 ((aJ W2 b _ (N+1) aa.2).symm.trans cm);clear b8 cm ce bt;have bs:=lT (t:=172) (fr:=(0,0)) ((aJ W2 b (rdA s r2.nx r2.k r2.p (s.extract a r2.nx) r2.b r2.n r2.sc r2.d r2.x r2.e r2.o) (N+1) aa.2).trans H1.o);have bw:=aC1 ((aJ W2 b (rdA s r2.nx r2.k r2.p (s.extract a r2.nx) r2.b r2.n r2.sc r2.d r2.x r2.e r2.o) N aa.1).trans H0.o) rfl r
   have ay:=lT (ke (cT W2 b (rdA s r2.nx r2.k r2.p (s.extract a r2.nx) r2.b r2.n r2.sc r2.d r2.x r2.e r2.o)) N _ (tokA r) 172 (0,0) ((aJ W2 b (rdA s r2.nx r2.k r2.p (s.extract a r2.nx) r2.b r2.n r2.sc r2.d r2.x r2.e r2.o) N aa.1).trans H0.o));go_wp2;refine ig (v:=tokV r) (by simp[results,results163,go_sem,ay]) rfl ?_;have a0:r.adv s={ r2 with t:=s.extract a r2.nx }:=by rw[b6.o,lU,gw bb.o]
   refine⟨rfl,?_,?_⟩
   ·rw[a0];exact aI (dK W2 b s { r2 with t:=s.extract a r2.nx } bi (by have h:=fin_ok cr.ok HM.o;rw[lU,gw bb.o] at h;exact h) _ rfl) aa.1
   ·exact aK (cq.trans (bQ _ _ _ _)) N _ be.o
  ·have bb:=f8 a1;have cz:(r2.e==0)=false:=by simp[a1]
   have cc:Ce wb b 10 (I6 r2.e):=aA h2.at_ 10;clear a1;obtain⟨W2,bi,ab⟩:=h2.put;subst ab;have H0:=f8 ((aJ W2 b _ N aa.1).symm.trans ch.o);have H1:=f8 ((aJ W2 b _ (N+1) aa.2).symm.trans cg.o);clear cc;have bs:=lT (t:=172) (fr:=(0,0)) ((aJ W2 b (rdA s r2.nx r2.k r2.p r2.t r2.b r2.n r2.sc r2.d r2.x r2.e r2.o) (N+1) aa.2).trans H1.o);have bw:=aC1 ((aJ W2 b (rdA s r2.nx r2.k r2.p r2.t r2.b r2.n r2.sc r2.d r2.x r2.e r2.o) N aa.1).trans H0.o) rfl r
   have ay:=lT (ke (cT W2 b (rdA s r2.nx r2.k r2.p r2.t r2.b r2.n r2.sc r2.d r2.x r2.e r2.o)) N _ (tokA r) 172 (0,0) ((aJ W2 b (rdA s r2.nx r2.k r2.p r2.t r2.b r2.n r2.sc r2.d r2.x r2.e r2.o) N aa.1).trans H0.o));go_wp2;refine ig (v:=tokV r) (by simp[results,results163,go_sem,ay]) rfl ?_;have a0:r.adv s=r2:=by rw[b6.o,lU,f9 bb.o]
   refine⟨rfl,?_,?_⟩
   ·rw[a0];exact aI ag.o aa.1
   ·exact aK af.o N _ be.o
end
end
structure Rd.Fit (s:BA) (r:Rd):Prop where
 t:r.t.size<=s.size
 b:r.b.size<=4 * s.size
 n:I64 r.n
 sc:0<=r.sc/\r.sc<=s.size
theorem gO {s:BA} {r:Rd} (h:r.Fit s) (p:Nat) (e:Int):(r.fail p e).Fit s:=by
 unfold Rd.fail;split
 ·exact⟨h.t,h.b,h.n,h.sc⟩
 ·exact h
theorem aJ9 (s:BA) (a o:Nat):(r1F a o).Fit s:=⟨ii _,ii _,by simp[r1F,I64],by simp[r1F]⟩
theorem aBz:∀(f:Nat) (l:List UInt8) (i:Nat) (acc:List UInt8) (j:Nat) (a:List UInt8),cN f l i acc=.inl (j,a)->a.length<=acc.length+4 * l.length
 | 0,_,_,_,_,_,h=>by simp[cN] at h
 | _+1,[],_,_,_,_,h=>by simp[cN] at h
 | f+1,c :: l,i,acc,j,a,h=>by
   unfold cN at h;split at h
   ·simp only[Sum.inl.injEq,oq] at h;rw[<-h.2];omega
   split at h
   ·cases h
   split at h
   ·have:=aBz f _ _ _ _ _ h;simp only[ik,im,i7] at this ⊢;omega
   split at h
   ·cases h
   dsimp only at h;split at h
   ·cases h
   ·have:=aBz f _ _ _ _ _ h;have h4:=(aJa l).2;simp only[ik,im,ju] at this ⊢;omega
theorem aD8:∀(l:List UInt8) (i:Nat) (odd:Int) (acc:List UInt8) (j:Nat) (a:List UInt8),eG l i odd acc=.inl (j,a)->a.length<=acc.length+l.length
 | [],_,_,_,_,_,h=>by simp[eG] at h
 | c :: l,i,odd,acc,j,a,h=>by
   unfold eG at h;split at h
   ·simp only[Sum.inl.injEq,oq] at h;rw[<-h.2];omega
   split at h
   ·cases h
   split at h
   ·have:=aD8 l _ _ _ _ _ h;simp only[im];omega
   ·have:=aD8 l _ _ _ _ _ h;simp only[ik,im,i7] at this ⊢;omega
theorem decP_bd (l:List UInt8):I64 (jM l).1/\(jM l).2.1<=l.length:=by
 unfold jM;split
 ·exact⟨⟨by decide,by decide⟩,ii _⟩
 split
 ·exact⟨⟨by decide,by decide⟩,ii _⟩
 dsimp only;split
 ·exact⟨⟨by decide,by decide⟩,ii _⟩
 ·exact⟨eC _,by have:=sC l [46];dsimp only;omega⟩
theorem aJo (l p:List UInt8):(Lib.trimSuffix l p).length<=l.length:=by
 unfold Lib.trimSuffix;split
 ·rw[ma];omega
 ·exact gy _
theorem ext_len (s:BA) (a b:Nat):(s.extract a b).size<=s.size:=by
 have h:(s.extract a b).data.toList.length=(s.extract a b).size:=rfl;rw[<-h,Lib.extract_data,ma,ju];have:s.data.toList.length=s.size:=rfl;omega
theorem fit_str {s:BA} {r:Rd} (h:r.Fit s) (a:Nat):(iD s.data.toList a r).Fit s:=by
 unfold iD;split
 ·rename_i i b hq;have h1:=aBz _ _ _ _ _ _ hq;rw[ju] at h1;have h0:s.data.toList.length=s.size:=rfl;have hb:(⟨b.toArray⟩:BA).size<=4 * s.size:=by rw[bE];simp at h1;omega
  split
  ·have h2:=gO h a 16;exact⟨h2.t,hb,h2.n,h2.sc⟩
  ·exact⟨h.t,hb,h.n,h.sc⟩
 ·exact gO h _ _
 ·exact gO h _ _
theorem fit_byt {s:BA} {r:Rd} (h:r.Fit s) (a:Nat):(jS s.data.toList a r).Fit s:=by
 unfold jS;split
 ·rename_i i b hq;have h1:=aD8 _ _ _ _ _ _ hq;rw[ju] at h1;have h0:s.data.toList.length=s.size:=rfl;have hb:(⟨b.toArray⟩:BA).size<=4 * s.size:=by rw[bE];simp at h1;omega
  exact⟨h.t,hb,h.n,h.sc⟩
 ·exact gO h _ _
 ·exact gO h _ _
theorem fit_num {s:BA} {r:Rd} (h:r.Fit s) (a:Nat):(jE s.data.toList s a r).Fit s:=by
 unfold jE;dsimp only;obtain⟨f,hf⟩:=xe ((if s.data.toList[a]?=some 45 then a+1 else a))
 rw[<-hf];obtain⟨tq,ab⟩:=xe (bP s.data.toList f bI)
 rw[<-ab];split
 ·exact gO h _ _
 ·obtain⟨q,hq⟩:=xe ((if s.data.toList[tq]?=some 46/\(s.data.toList[tq+1]?.any bI)=true then (bP s.data.toList (tq+1) bI,true,false) else if s.data.toList[tq]?=some 100 then (tq+1,true,true) else (tq,false,false)))
  rw[<-hq];obtain⟨l,hl⟩:=xe (Lib.trimSuffix (s.extract a q.1).data.toList [100])
  have ac:l.length<=s.size:=by
   have h1:=aJo (s.extract a q.1).data.toList [100];have h2:=ext_len s a q.1;have h3:(s.extract a q.1).data.toList.length=(s.extract a q.1).size:=rfl;rw[hl];omega
  rw[<-hl];obtain⟨d1,d2⟩:=decP_bd l;have aa:(0:Int)<=(((jM l).2.1:Nat):Int)/\(((jM l).2.1:Nat):Int)<=(s.size:Int):=ga
  split
  ·have h2:=gO (s:=s) (r:={ r with nx:=q.1,d:=q.2.1,x:=q.2.2 }) ⟨h.t,h.b,h.n,h.sc⟩ a (jM l).2.2;exact⟨h2.t,h2.b,d1,aa⟩
  ·exact⟨h.t,h.b,d1,aa⟩
theorem fit_mid (s:BA) (a o:Nat) (c:UInt8):(kP s a o c).Fit s:=by
 have h:=aJ9 s a o;unfold kP;split;· exact fit_str h a
 split;· exact fit_byt h a
 split;· exact⟨h.t,h.b,h.n,h.sc⟩
 split;· exact fit_num h a
 split;· exact⟨h.t,h.b,h.n,h.sc⟩
 split;· exact⟨h.t,h.b,h.n,h.sc⟩
 exact gO h _ _
theorem fit_adv {s:BA} {r:Rd} (h:r.Fit s):(r.adv s).Fit s:=by
 by_cases he:r.e=0
 ·cases hc:s.data.toList[bP s.data.toList r.nx spC]? with
  | none=>rw[pP he hc];exact aJ9 _ _ _
  | some c =>
    rw[pO he hc];have hm:=fit_mid s (bP s.data.toList r.nx spC) r.o c;unfold lU;split
    ·exact⟨ext_len _ _ _,hm.b,hm.n,hm.sc⟩
    ·exact hm
 ·unfold Rd.adv;rw[gw he];exact h
section
attribute [local go_sem] cQ fE cS dJ bV cA
theorem oQ (b:Nat) (s:BA) (r:Rd) (w:World) (h:IsRd w b s r) (hs:s.size<=100000) (aa:TB w b) :
 CP 163 #[Pt b 0] w λx w'=>x=.returned (tokV r)/\IsRd w' b s (r.adv s)/\w.grownBy w' (some b):=by
 by_cases he:r.e=0
 ·exact aOo b s r w h hs aa he
 ·exact adv_bad b s r w h he
def Rd.acc (s:BA) (r:Rd) (t:BA):Rd:=if r.is t=true then r.adv s else r
theorem aFs (b:Nat) (s:BA) (r:Rd) (t:BA) (w:World) (h:IsRd w b s r) (hs:s.size<=100000) (ac:TB w b) :
 CP 266 #[Pt b 0,Sv t] w λx w'=>x=.returned (.bool (r.is t))/\IsRd w' b s (r.acc s t)/\w.grownBy w' (some b):=by
 have HI:=f8 (uZ b s r t w h);have HA:=f8 (oQ b s r w h hs ac);have HR:=f8 h;obtain⟨q,hq⟩:=xe (r.is t)
 rw[<-hq] at HI ⊢;have HQ:=f8 (show r.acc s t=if q=true then r.adv s else r by rw[hq];rfl);clear h hq;cases q
 ·go_enter func266,ntmps266
  go_wp2_with (go_at_call 220;refine HI.mono ?_;rintro e w2 ⟨rfl,aa⟩;obtain rfl:=aa.symm)
  go_ret;exact⟨rfl,by rw[HQ.o];exact HR.o,⟨rfl,rfl,rfl,gy _,λ_ _ _=>rfl⟩⟩
 ·go_enter func266,ntmps266
  go_wp2_with (first
   | (go_at_call 163;refine HA.mono ?_;rintro e w2 ⟨rfl,h2,ab⟩;obtain⟨ae,ad⟩:=h_2 h2 ab;clear h2 ab)
   | (go_at_call 220;refine HI.mono ?_;rintro e w2 ⟨rfl,aa⟩;obtain rfl:=aa.symm))
  go_ret;exact⟨rfl,by rw[HQ.o];exact ae.o,ad.o⟩
theorem dV (b:Nat) (s:BA) (r:Rd) (t:BA) (w:World) (h:IsRd w b s r) (hs:s.size<=100000) (af:TB w b) :
 CP 221 #[Pt b 0,Sv t] w λx w'=>x=.returned (.tuple #[])/\IsRd w' b s (r.expect s t)/\w.grownBy w' (some b):=by
 have HA:=f8 (aFs b s r t w h hs af);have HR:=f8 h;have ae:=f8 (λ(w':World) (h':IsRd w' b s r)=>bH b s r r.p 13 w' h');obtain⟨q,hq⟩:=xe (r.is t)
 rw[<-hq] at HA;have HQ:=f8 (show r.expect s t=if r.e≠0 then r else if q=true then r.adv s else r.fail r.p 13 by rw[hq];rfl);have HC:=f8 (show r.acc s t=if q=true then r.adv s else r by rw[hq];rfl);clear hq;by_cases he:r.e=0
 ·have HE:=f8 he;have qe:(r.e==0)=true:=by simp[he]
  have qc:Ce w b 10 (I6 r.e):=aA h.at_ 10;clear he h;cases q
  ·have ag:=f8 (λ(w2:World) (h2:IsRd w2 b s r)=>(aA h2.at_ 3:Ce w2 b 3 (I6 (r.p:Int))));go_enter func221,ntmps221
   go_wp2_with (first
    | (go_at_call 162;refine(ae.o w2 ac.o).mono ?_;rintro e w3 ⟨rfl,h3,ad⟩;obtain⟨ah,ai⟩:=h_2 h3 ad;clear h3 ad)
    | (go_at_call 266;refine HA.mono ?_;rintro e w2 ⟨rfl,h2,aa⟩;rw[HC.o] at h2;simp only[og,kz] at h2;obtain⟨ac,ab⟩:=h_2 h2 aa;have aj:=ag.o w2 h2;clear h2 aa))
   refine jj (iu rfl _ _ _) rfl ?_;refine⟨rfl,?_,ab.trans ai.o⟩;rw[HQ.o,f9 (by simp[HE.o]),f9 gb];exact ah.o
  ·go_enter func221,ntmps221
   go_wp2_with (go_at_call 266;refine HA.mono ?_;rintro e w2 ⟨rfl,h2,aa⟩;rw[HC.o] at h2;simp only[je] at h2;obtain⟨ac,ab⟩:=h_2 h2 aa;clear h2 aa)
   refine jj (iu rfl _ _ _) rfl ?_;refine⟨rfl,?_,ab.o⟩;rw[HQ.o,f9 (by simp[HE.o])]
   first|rw[gw rfl]|rw[gw trivial]
   exact ac.o
 ·have HE:=f8 he;have qe:(r.e==0)=false:=by simp[he]
  have qc:Ce w b 10 (I6 r.e):=aA h.at_ 10;clear he h;go_enter func221,ntmps221
  go_wp2;refine jj (iu rfl _ _ _) rfl ?_;refine⟨rfl,?_,⟨rfl,rfl,rfl,gy _,λ_ _ _=>rfl⟩⟩;rw[HQ.o,gw HE.o];exact HR.o
def fW (r:Rd) (k:Nat):Rd:=if r.e=0/\r.k=k then r else r1F 0 0
section
attribute [-go_sem] loadCellsFrom storeCells
attribute [local go_sem] mG mF pT tF tE sY aHm aHl mB mA
theorem sQ (b:Nat) (s:BA) (r:Rd) (k:Nat) (w:World) (h:IsRd w b s r) (hs:s.size<=100000) (an:TB w b) :
 CP 267 #[Pt b 0,I6 k] w λx w'=>x=.returned (tokV (fW r k))/\IsRd w' b s (r.take s k)/\w.grownBy w' (some b):=by
 obtain⟨N,hN⟩:=xe w.heap.size
 have ag:=f8 (jq w tokZ (some b));have af:=f8 (show N≠b by rw[hN];exact λe=>Nat.lt_irrefl _ (e▸h.lt));have ac:=h.alloc tokZ;have am:(w.alloc tokZ).heap[N]?=some tokZ:=by rw[hN];exact ib w _
 have ao:N<(w.alloc tokZ).heap.size:=by rw[hN,jb];exact pj _
 have a1:=f8 (show w.heap.size<=N by omega);have ah:=f8 (an.grown ag.o (.inr rfl));have ai:=f8 (oQ b s r (w.alloc tokZ) ac hs ah.o);have aq:=f8 (bH b s r r.p 13 (w.alloc tokZ) ac);obtain⟨HZ,ax⟩:=h_2 am ao;have au:Ce (w.alloc tokZ) b 10 (I6 r.e):=aA ac.at_ 10;have a0:Ce (w.alloc tokZ) b 2 (I6 (r.k:Int)):=aA ac.at_ 2;have a3:Ce (w.alloc tokZ) b 3 (I6 (r.p:Int)):=aA ac.at_ 3;have az:=f8 ac;clear am ao ac h an
 -- the end: token z stored into the result's block of w2
 have ad:=f8 (λ(w2:World) (hg:(w.alloc tokZ).grownBy w2 (some b)) (z:Rd)=>(show(storeCells ⟨N,0,none⟩ [I6 z.k,I6 z.p,Sv z.t,Sv z.b,I6 z.n,I6 z.sc,.bool z.d,.bool z.x] 0).run prog w2=.ok () (w2.setRow N (tokA z))/\(loadCellsFrom ⟨N,0,none⟩ 0 8 #[]).run prog (w2.setRow N (tokA z))=.ok (tokA z) (w2.setRow N (tokA z)) from by
  have h0:=(hg.block N ax.o (by simp[af.o])).trans HZ.o;exact⟨aC1 h0 rfl z,lT (ke w2 N _ (tokA z) 172 (0,0) h0)⟩))
 have ap:=f8 (λ(w2:World) (hg:(w.alloc tokZ).grownBy w2 (some b))=>(show(storeCells ⟨N,0,none⟩ [I6 0,I6 0,Sv ⟨#[]⟩,Sv ⟨#[]⟩,I6 0,I6 0,.bool false,.bool false] 0).run prog w2=.ok () (w2.setRow N #[I6 0,I6 0,Sv ⟨#[]⟩,Sv ⟨#[]⟩,I6 0,I6 0,.bool false,.bool false])/\(loadCellsFrom ⟨N,0,none⟩ 0 8 #[]).run prog (w2.setRow N #[I6 0,I6 0,Sv ⟨#[]⟩,Sv ⟨#[]⟩,I6 0,I6 0,.bool false,.bool false])=.ok #[I6 0,I6 0,Sv ⟨#[]⟩,Sv ⟨#[]⟩,I6 0,I6 0,.bool false,.bool false] (w2.setRow N #[I6 0,I6 0,Sv ⟨#[]⟩,Sv ⟨#[]⟩,I6 0,I6 0,.bool false,.bool false]) from ad.o w2 hg (r1F 0 0)))
 by_cases he:r.e=0
 ·have HE:=f8 he;have qe:(r.e==0)=true:=by simp[he]
  have ay:(r.e != 0)=false:=by simp[he]
  by_cases hk:r.k=k
  ·have HT:=f8 (show fW r k=r by rw[fW,gw ⟨he,hk⟩]);have HS:=f8 (show r.take s k=r.adv s by rw[Rd.take,f9 (by simp[he]),f9 (by simp[hk])]);have qk:((r.k:Int)==(k:Int))=true:=by simp;omega
   have av:((r.k:Int) != (k:Int))=false:=by simp;omega
   clear he hk;go_enter func267,ntmps267
   go_wp2_with (go_at_call 163;refine ai.mono ?_;rintro e w2 ⟨rfl,h2,ab⟩;obtain⟨al,ak⟩:=h_2 h2 ab;obtain⟨ae,aa⟩:=ad.o w2 ab r;rw[hN] at ae aa;clear h2 ab)
   refine ig (v:=tokV r) (by simp[results,results267,go_sem,aa]) rfl ?_;rw[HT.o,HS.o];exact⟨rfl,aI al.o (hN▸af.o),aK (ag.trans ak.o) _ _ lr⟩
  ·have HT:=f8 (show fW r k=r1F 0 0 by rw[fW,f9 (λh=>hk h.2)]);have HS:=f8 (show r.take s k=r.fail r.p 13 by rw[Rd.take,f9 (by simp[he]),gw hk]);have aj:=f8 (show(r.fail r.p 13).e≠0 from Rd.fail_e _ _ _ gb);have qk:((r.k:Int)==(k:Int))=false:=by simp;omega
   have av:((r.k:Int) != (k:Int))=true:=by simp;omega
   obtain⟨rf,ar⟩:=xe (r.fail r.p 13)
   rw[<-ar] at aj aq HS;have qf:(rf.e==0)=false:=by simp[aj.o]
   have a2:(rf.e != 0)=true:=by simp[aj.o]
   clear he hk ar;go_enter func267,ntmps267
   go_wp2_with (go_at_call 162;refine aq.mono ?_;rintro e w2 ⟨rfl,h2,ab⟩;obtain⟨al,ak⟩:=h_2 h2 ab;obtain⟨ae,aa⟩:=ap.o w2 ab;rw[hN] at ae aa;have aw:=(aA h2.at_ 10:Ce w2 b 10 (I6 rf.e));clear h2 ab)
   refine ig (v:=.agg #[I6 0,I6 0,Sv ⟨#[]⟩,Sv ⟨#[]⟩,I6 0,I6 0,.bool false,.bool false]) (by simp[results,results267,go_sem,aa]) rfl ?_;rw[HT.o,HS.o];exact⟨rfl,aI al.o (hN▸af.o),aK (ag.trans ak.o) _ _ lr⟩
 ·have HT:=f8 (show fW r k=r1F 0 0 by rw[fW,f9 (λh=>he h.1)]);have HS:=f8 (show r.take s k=r by rw[Rd.take,gw he]);have qe:(r.e==0)=false:=by simp[he]
  have ay:(r.e != 0)=true:=by simp[he]
  obtain⟨ae,aa⟩:=ap.o (w.alloc tokZ) ⟨rfl,rfl,rfl,gy _,λ_ _ _=>rfl⟩;rw[hN] at ae aa;clear he;go_enter func267,ntmps267
  go_wp2;refine ig (v:=.agg #[I6 0,I6 0,Sv ⟨#[]⟩,Sv ⟨#[]⟩,I6 0,I6 0,.bool false,.bool false]) (by simp[results,results267,go_sem,aa]) rfl ?_;rw[HT.o,HS.o];exact⟨rfl,aI az.o (hN▸af.o),aK ag.o _ _ lr⟩
end
end
end Go.Proofs.YtoodnaghjpkjfaaGreatDoor
