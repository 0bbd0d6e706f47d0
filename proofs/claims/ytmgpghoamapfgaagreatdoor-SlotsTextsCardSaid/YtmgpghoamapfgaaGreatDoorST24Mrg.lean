/- A part. -/
import Derived.Test.YtmgpghoamapfgaaGreatDoorST23Mrg
import Derived.Test.YtmgpghoamapfgaaGreatDoorST9Mrg
import Derived.Maps.OwnSet
namespace Go.Proofs.YtmgpghoamapfgaaGreatDoor
set_option linter.unusedVariables false
set_option maxRecDepth 100000
set_option maxHeartbeats 16000000
set_option linter.unusedSimpArgs false
section
open Go Go.RowKit Go.Shelf
open Go.Maps (Keyed)
theorem aDo {H:Type} {P:Program} {k:TypeId} {w:World} {b n:Nat} {D:DataW H} {t e:TypeId} (h:w.ownsMap P k (plainElem P e) b n D) (K:Keyed P k) (ht:P.underlying t=some (.map k e)) (he:P.underlying e=some .bool) (hz:(zeroValue e).run P w=.ok (.bool false) w)
 {key:Value} {kl:Lit} (hkey:keyOf P k key=some kl):∃x:Bool,(Instr.lookup t (.map (some b)) key false).run P w=.ok (.bool x) w/\D.atKey kl (.lit (.bool false))=.lit (.bool x):=by
 obtain⟨v,ps,hrun,hv⟩:=h.lookup K ht hz (plainElem_bool he false) hkey;unfold plainElem at hv;rw[he] at hv;cases v with
 | bool x =>
   simp only[Option.some.injEq,Prod.mk.injEq] at hv;exact⟨x,hrun,hv.1.symm⟩
 | _=>simp at hv
theorem aIf {H:Type} (u z:DataW H) (k:Lit):∀(acc:List Lit) (m:DataW H),Maps.IsMap m->(∀x∈acc,WideAt.IsKeyLit x)->(k∈acc->(acc.foldl (fun m x=>m.put x u) m).atKey k z=u)/\(k ∉ acc->(acc.foldl (fun m x=>m.put x u) m).atKey k z=m.atKey k z)
 | [],m,_,_=>⟨fun h=>gp,fun _=>rfl⟩
 | x :: acc,m,hm,ha=>by
   obtain⟨i1,i2⟩:=aIf u z k acc (m.put x u) (hm.put x u) (fun y hy=>ha y (List.mem_cons_of_mem _ hy));rw[List.foldl_cons];refine⟨fun h=>?_,fun h=>?_⟩
   ·by_cases h1:k∈acc
    ·exact i1 h1
    ·rw[i2 h1];rcases List.mem_cons.1 h with h2 | h2
     ·rw[h2,Maps.atKey_put_same hm (ha x (List.mem_cons_self ..))]
     ·exact absurd h2 h1
   ·rw[List.mem_cons] at h;rw[i2 (fun h1=>h (.inr h1)),Maps.atKey_put_other (fun h2=>h (.inl h2))]
theorem seen_at (acc:List (ByteArray × Val)) (nm:ByteArray) (x:Bool) (hk:∀n:ByteArray,WideAt.IsKeyLit (.string n.data.toList)) (h:(Maps.setOf (H:=Unit) (.lit (.bool true)) ((acc.map (·.1)).map fun n=>.string n.data.toList)).atKey (.string nm.data.toList) (.lit (.bool false))=.lit (.bool x)):x=acc.any (fun y=>decide (y.1=nm)):=by
 unfold Maps.setOf at h;obtain⟨i1,i2⟩:=aIf (H:=Unit) (.lit (.bool true)) (.lit (.bool false)) (.string nm.data.toList) ((acc.map (·.1)).map fun n:ByteArray=>Lit.string n.data.toList) (.map []) Maps.isMap_empty (by intro y hy;obtain⟨n,_,rfl⟩:=List.mem_map.1 hy;exact hk n);have hmm:(Lit.string nm.data.toList∈(acc.map (·.1)).map fun n:ByteArray=>Lit.string n.data.toList) ↔ (acc.any (fun y=>decide (y.1=nm)))=true:=by
  rw[List.mem_map,List.any_eq_true];constructor
  ·rintro⟨n,hn,he⟩;have hnn:n=nm:=ByteArray.ext (Array.ext' (by simpa using he));obtain⟨y,hy,rfl⟩:=List.mem_map.1 hn;exact⟨y,hy,decide_eq_true hnn⟩
  ·rintro⟨y,hy,he⟩;exact⟨y.1,List.mem_map.2 ⟨y,hy,rfl⟩,by rw[of_decide_eq_true he]⟩
 cases hx:acc.any (fun y=>decide (y.1=nm)) with
 | true =>
   rw[i1 (hmm.2 hx)] at h;simp at h
   first | exact h | exact h.symm
 | false =>
   rw[i2 (fun h=>by rw[hmm.1 h] at hx;cases hx)] at h;have h2:(DataW.map []:DataW Unit).atKey (.string nm.data.toList) (.lit (.bool false))=.lit (.bool false):=rfl;rw[h2] at h;simp at h;exact h.symm▸rfl
def SrtA (T B:Nat) (w:World) (v:Value) (k:Nat) (ns:List ByteArray) (l:List Val) (e:Ending) (w':World):Prop:=e=.returned (.tuple #[])/\∃(ns':List ByteArray) (l':List Val),ns'.length=k/\l'.length=k/\(ns.zip l).Perm (ns'.zip l')/\(ns'.zip l').Pairwise (fun a b=>leN a.1 b.1=true)/\BuiltF T B w' v k ns' l'/\w.grownBy w' v.ownBlock
theorem yI (T B:Nat) (w:World) (al:Option Addr) (cap k:Nat) (ns:List ByteArray) (l:List Val) (hb:BuiltF T B w (.slice al k cap) k ns l) (hk:l.length=k) (hn:ns.length=k) (hbig:k<=1000000) :
 CP 296 #[.slice al k cap,.func (.func 297) #[] #[]] w (SrtA T B w (.slice al k cap) k ns l):=by
 have hpw:k<=1->(ns.zip l).Pairwise (fun a b=>leN a.1 b.1=true):=by
  intro h1;rw[List.pairwise_iff_getElem];intro i j hi hj hij;simp[hn,hk] at hj;omega
 by_cases h0:k=0
 ·subst h0;exact(aCy al cap _ w).mono fun e w' ⟨he,hw⟩=>by subst hw;exact⟨he,ns,l,hn,hk,List.Perm.refl _,hpw gc,hb,⟨rfl,rfl,rfl,Nat.le_refl _,fun _ _ _=>rfl⟩⟩
 by_cases h1:k=1
 ·subst h1;exact(aCx al cap _ w).mono fun e w' ⟨he,hw⟩=>by subst hw;exact⟨he,ns,l,hn,hk,List.Perm.refl _,hpw gc,hb,⟨rfl,rfl,rfl,Nat.le_refl _,fun _ _ _=>rfl⟩⟩
 ·obtain⟨g,rfl⟩:∃g,al=some ⟨g,0,none⟩:=by
   obtain⟨cs,_,hown,_⟩:=hb;rcases hown.2 with ⟨_,h⟩ | ⟨g,cap',cur,hv,_⟩
   ·exact absurd h h0
   ·cases hv;exact⟨g,rfl⟩
  exact aJ5 T B w g cap k ns l hb hk hn hbig
theorem BuiltF.grownB {T B b:Nat} {w w':World} {v:Value} {k:Nat} {ns:List ByteArray} {l:List Val} (h:BuiltF T B w v k ns l) (hg:w.grownBy w' (some b)) (hb:b<B):BuiltF T B w' v k ns l:=by
 have ho:=h.own;obtain⟨cs,h1,h2,h3⟩:=h;refine⟨cs,h1,h2.kept hg ?_,fun j hj hj' hn=>⟨(h3 j hj hj' hn).1,(h3 j hj hj' hn).2.same fun i hi=>⟨⟨hi.1,by have:=hg.size;omega,hi.2.2⟩,hg.block i hi.2.1 (by have:=hi.1;simp;omega)⟩⟩⟩;cases hv:v.ownBlock with
 | none=>exact .inl rfl
 | some g=>right;intro e;have:=(ho g hv).1;cases e;omega
def RecRel (w:World) (b N:Nat) (s:ByteArray) (f:Nat) (r0:Rd) (first:Bool) (wr:World):Prop :=
 ∃(r:Rd) (acc:List (ByteArray × Val)) (nsd:List ByteArray) (fsd:List Val) (v:Value) (F:Nat),IsRd wr b s r/\RdI s r/\nsd=acc.map (·.1)/\fsd.length=acc.length/\(r.e=0->fsd=acc.map (·.2)/\(acc.map (·.1)).Nodup)/\(∀n∈nsd,n.size<=100000)/\fW s (rdV s f) (r0.mu s+1) true r0 []=fW s (rdV s f) F first r acc/\r.mu s<F/\acc.length+r.mu s<=r0.mu s /\
  wr.heap[N]?=some valZ/\wr.heap[N+1]?=some (.cells #[.int .i64 9,.int .i64 0,.int .i64 0,.string ⟨#[]⟩,.slice none 0 0,v] 36)/\BuiltF 202 (N+3) wr v fsd.length nsd fsd/\wr.ownsMap Tryz.prog 9 (plainElem (H:=Unit) Tryz.prog 4) (N+2) (acc.length) (Maps.setOf (.lit (.bool true)) ((nsd).map fun n=>.string n.data.toList))/\w.grownBy wr (some b)
section
attribute [-go_sem] loadCellsFrom storeCells
attribute [local go_sem] aBr aBq aBp aBo aBn aBm aAt aAs
theorem aD3 (f:Nat) (IH:aIs f) (b:Nat) (s:ByteArray) (r0:Rd) (dep:Int) (w:World) (h:IsRd w b s r0) (hI:RdI s r0) (hs:s.size<=100000) (hTB:TB w b) (hdep:dep+1+f=8) (hd0:0<=dep) :
 CP 237 #[.pointer (some ⟨b,0,none⟩),.int .i64 dep] w
  (rA w b s (aGh (fW s (rdV s f) (r0.mu s+1) true r0 []).1,(fW s (rdV s f) (r0.mu s+1) true r0 []).2.expect s ⟨#[125]⟩)):=by
 obtain⟨tf,hi,hz0,hz1,hz2⟩:=info_parts zR;have hmm:=@run_makeMap Tryz.prog;have HTB:=hid hTB;have hmx:=aMe s r0;obtain⟨Q,hQ⟩:=ez (fW s (rdV s f) (r0.mu s+1) true r0 [])
 rw[<-hQ];have HQ:=hid hQ;clear hQ;have hst1:=aAw (w.alloc valZ) #[.int .i64 0,.int .i64 0,.int .i64 0,.string ⟨#[]⟩,.slice none 0 0,.slice none 0 0] rfl (.int .i64 9) (.int .i64 0) (.int .i64 0) (.string ⟨#[]⟩) (.slice none 0 0) (.slice none 0 0) gm;simp only[World.size_alloc] at hst1;have HR0:=hid h;have HI0:=hid hI;have hbl:=h.lt;clear h hI hTB;go_enter Tryz.func237,Tryz.ntmps237
 go_wp2;clear hst1 hmm;obtain⟨N,hN⟩:=ez w.heap.size
 have HNB:=hid (show N≠b/\N+1≠b/\N+2≠b by omega);have hbN:b<N:=by omega
 have e2:w.heap.size+1+1=N+2:=by omega
 rw[e2,<-hN];have HNN:=hid hN;clear hN e2
 go_loopw [7] (fun fv wr=>∃first:Bool,fv=.bool first/\RecRel w b N s f r0 first wr) (fun _ wr=>muW wr b s)
 case atStart =>
  refine⟨true,rfl,r0,[],[],[],.slice none 0 0,r0.mu s+1,((HR0.out.alloc _).alloc _).alloc _,HI0.out,rfl,rfl,fun _=>⟨rfl,List.nodup_nil⟩,(fun n hn=>by cases hn),rfl,Nat.lt_succ_self _,by simp,?_,?_,BuiltF.nil _ _ _ _ _,?_,((World.grownBy_alloc _ _ _).trans (World.grownBy_alloc _ _ _)).trans (World.grownBy_alloc _ _ _)⟩
  ·rw[HNN.out];exact aD _ (aD _ (heap_alloc_new w _))
  ·rw[HNN.out];refine aD _ ?_;rw[<-World.size_alloc w valZ];exact heap_alloc_new (w.alloc valZ) _
  ·have hh:=World.ownsMap_made (H:=Unit) ((w.alloc valZ).alloc (.cells #[.int .i64 9,.int .i64 0,.int .i64 0,.string ⟨#[]⟩,.slice none 0 0,(.slice none 0 0)] 36)) Tryz.prog 9 (plainElem Tryz.prog 4);rw[World.size_alloc,World.size_alloc] at hh;rw[HNN.out];exact hh
 case round =>
  obtain⟨first,rfl,r,acc,nsd,fsd,v,F,hr,hI,hna,hfl,hac,hnz,heq,hF,hmu,hn0,hn1,hbu,how,hg⟩:=hrel;have HR:=hid hr;have HI:=hid hI;have HNA:=hid hna;have HFL:=hid hfl;have HNL:=hid (show nsd.length=acc.length by rw[hna,List.length_map]);have HAC:=hid hac;have HNZ:=hid hnz;have HEQ:=hid heq;have HN0:=hid hn0;have HN1:=hid hn1;have HOW:=hid how;have HG:=hid hg;have hak:fsd.length<=200010:=by rw[hfl];omega
  have HTBr:=hid (HTB.out.grown hg (.inr rfl));have HMW:=hid (aBd hr);have HIS:=hid (tE b s r ⟨#[125]⟩ wr hr);have qe10:Ce wr b 10 (.int .i64 r.e):=aA hr.at_ 10;obtain⟨F,rfl⟩:∃F',F=F'+1:=⟨F-1,by omega⟩
  obtain⟨q,hq⟩:=ez (r.is ⟨#[125]⟩:Bool)
  rw[<-hq] at HIS;have HQq:=hid hq;clear hna hfl hac hnz heq hn0 hn1 how hg hr hI hq;by_cases he:r.e=0
  ·have HE:=hid he;have qe:(r.e==0)=true:=by simp[he]
   clear he;cases q
   ·have hnd:¬ (r.e≠0\/r.is ⟨#[125]⟩=true):=by rw[<-HQq.out];simp[HE.out]
    have HEQ2:=hid (show Q=fW s (rdV s f) F false (rdV s f (pU s first r acc)).2 (acc++[(aJb s first r,(rdV s f (pU s first r acc)).1)]) by
     rw[HQ.out,HEQ.out,pV,if_neg hnd])
    have HRND:=hid (yT (aBa s f) HI.out HE.out first acc);have HEXI:=hid (gT HI.out ⟨#[44]⟩);have HEXC:=hid (dX b s r ⟨#[44]⟩ wr HR.out hs HTBr.out);have HRI:=hid (aI3 HI.out first acc).1;obtain⟨r1,hr1⟩:=ez ((if first=true then r else r.expect s ⟨#[44]⟩))
    obtain⟨nm,hnm⟩:=ez ((fS r1 1).t)
    have hrn:aJb s first r=nm:=by
     unfold aJb fS at *;dsimp only;rw[<-hr1,hnm];split<;>rfl
    obtain⟨r2,hr2⟩:=ez (r1.name s)
    obtain⟨r3,hr3⟩:=ez ((if r2.e=0/\acc.any (fun x=>decide (x.1=nm))=true then r2.fail r1.p 7 else r2))
    have hrr:pU s first r acc=r3.expect s ⟨#[58]⟩:=by
     unfold pU aJb at *;dsimp only at hrn ⊢;rw[<-hr1] at hrn ⊢;rw[hrn,<-hr2,<-hr3]
    obtain⟨r4,hr4⟩:=ez (r3.expect s ⟨#[58]⟩)
    rw[hrr,<-hr4] at HEQ2 HRND HRI;rw[hrn] at HEQ2;have HR1:=hid hr1;have HNM:=hid hnm;have HR2:=hid hr2;have HR3:=hid hr3;have HR4:=hid hr4;clear hr1 hnm hrn hr2 hr3 hrr hr4 hnd
    go_upto_if 23 with (go_at_call 293;refine HIS.out.mono ?_;rintro e w2 ⟨rfl,hw2⟩;obtain rfl:=hw2.symm)
    go_cut [] (fun wz=>IsRd wz b s r1/\RdI s r1/\wr.grownBy wz (some b))
    case first =>
     cases first
     ·go_wp2_with (go_at_call 294;refine HEXC.out.mono ?_;rintro e w2 ⟨rfl,h2,hg2⟩;have H2R:=hid h2;have HG2:=hid hg2;clear h2 hg2)
      go_meet
      have h2:r1=r.expect s ⟨#[44]⟩:=HR1.out;rw[h2];exact⟨H2R.out,HEXI.out,HG2.out⟩
     ·go_wp2
      go_meet
      have h2:r1=r:=HR1.out;rw[h2];exact⟨HR.out,HI.out,⟨rfl,rfl,rfl,Nat.le_refl _,fun _ _ _=>rfl⟩⟩
    case rest =>
     obtain⟨hra,hI1,hga⟩:=hcut;obtain⟨wa,hwa⟩:=ez wc
     rw[<-hwa] at hra hga ⊢;clear hwa;have hTBa:=HTBr.out.grown hga (.inr rfl);have HNMC:=hid (aJp b s r1 wa hra hI1.fit hs hTBa);rw[<-HNM.out,<-HR2.out] at HNMC;have hnmz:nm.size<=100000:=by
      rw[HNM.out];unfold fS;split
      ·have:=hI1.fit.t;omega
      ·exact Nat.zero_le _
     have qp3:Ce wa b 3 (.int .i64 (r1.p:Int)):=aA hra.at_ 3;have HGA:=hid hga;have HTBA:=hid hTBa;clear hra hI1 hga hTBa;go_upto_region 10 with (go_at_call 295;refine HNMC.out.mono ?_;rintro e w2 ⟨rfl,h2,hg2⟩;have H2R:=hid h2;have HG2:=hid (HGA.out.trans hg2);have HTB2:=hid (HTBA.out.grown hg2 (.inr rfl));clear h2 hg2)
     obtain⟨wb,hwb⟩:=ez w2
     rw[<-hwb] at H2R HG2 HTB2 ⊢;clear hwb qp3;have HOWb:=hid (HOW.out.kept HG2.out (by simp[HNB.out.2.2]));have hkey:keyOf Tryz.prog 9 (.string nm)=some (.string nm.data.toList):=WideMaps.keyOf_string_mk Tryz.underlying9 (by unfold maxLen;omega);have hlk:=aDo (H:=Unit) HOWb.out (Maps.string_keyed Tryz.underlying9) Tryz.underlying315 Tryz.underlying4 ge hkey;obtain⟨x,hrun,hat⟩:=hlk;have hx:x=acc.any (fun y=>decide (y.1=nm)):=seen_at acc nm x (fun n=>by first | exact trivial | exact⟨_,rfl⟩ | simp[WideAt.IsKeyLit]) (by rw[<-HNA.out];exact hat);have HX:=hid hx
     have qc10:Ce wb b 10 (.int .i64 r2.e):=aA H2R.out.at_ 10;have HFL7:=hid (bC b s r2 r1.p 7 wb H2R.out);clear hat hx
     go_cut [42] (fun v wz=>v=.bool (decide (r2.e=0)&&x)/\wz=wb)
     case first =>
      by_cases he2:r2.e=0
      ·have qe2:(r2.e==0)=true:=by simp[he2]
       have HE2:=hid he2;clear he2;go_wp2
       go_meet
       exact⟨by rw[decide_eq_true HE2.out];rfl,rfl⟩
      ·have qe2:(r2.e==0)=false:=by simp[he2]
       have HE2:=hid he2;clear he2;go_wp2
       go_meet
       exact⟨by rw[decide_eq_false HE2.out];rfl,rfl⟩
     case rest =>
     obtain⟨rfl,hwc⟩:=hcut;obtain⟨wz,hwz⟩:=ez wc
     rw[<-hwz] at hwc ⊢;clear hwz;subst hwc;clear hrun;obtain⟨dup,hdup⟩:=ez ((decide (r2.e=0)&&x))
     rw[<-hdup];have HDUP:=hid hdup;clear hdup qc10
     go_upto_if 42 with (fail)
     go_cut [] (fun wy=>IsRd wy b s r3/\wz.grownBy wy (some b))
     case first =>
      cases dup
      ·go_wp2
       go_meet
       have h3:r3=r2:=by
        rw[HR3.out,if_neg];intro h;have:=HDUP.out;rw[decide_eq_true h.1,HX.out,h.2] at this;cases this
       rw[h3];exact⟨H2R.out,⟨rfl,rfl,rfl,Nat.le_refl _,fun _ _ _=>rfl⟩⟩
      ·go_wp2_with (go_at_call 232;refine HFL7.out.mono ?_;rintro e w3 ⟨rfl,h3,hg3⟩;have H3R:=hid h3;have HG3:=hid hg3;clear h3 hg3)
       go_meet
       have h3:r3=r2.fail r1.p 7:=by
        have:=HDUP.out.symm;rw[Bool.and_eq_true,decide_eq_true_eq] at this;rw[HR3.out,if_pos ⟨this.1,by rw[<-HX.out];exact this.2⟩]
       rw[h3];exact⟨H3R.out,HG3.out⟩
     case rest =>
     obtain⟨hr3z,hg3⟩:=hcut;obtain⟨wy,hwy⟩:=ez wc
     rw[<-hwy] at hr3z hg3 ⊢;clear hwy;have HR3z:=hid hr3z;have HG3:=hid (HG2.out.trans hg3);have HOW3:=hid (HOWb.out.kept hg3 (by simp[HNB.out.2.2]));have HTB3:=hid (HTB2.out.grown hg3 (.inr rfl));clear hr3z hg3;have hacz:acc.length<maxLen:=by unfold maxLen;omega
     go_upto_region 13 with (at_mapUpdate;refine wpList_mapUpdate_own _ rfl _ _ _ 315 rfl 9 4 (Maps.string_keyed Tryz.underlying9) Tryz.underlying315 (plainElem (H:=Unit) Tryz.prog 4) (N+2) acc.length _ rfl HOW3.out hacz _ _ _ rfl rfl hkey _ [] (plainElem_bool Tryz.underlying4 true) ?_;intro w4 hown4 hgrow4;have HOW4:=hid hown4;have HGR4:=hid hgrow4;clear hown4 hgrow4)
     have hr4:IsRd w4 b s r3:=HR3z.out.grown HGR4.out (by have:=HNB.out.2.2;simp;omega);have hTB4:TB w4 b:=by
      obtain⟨u0,k1,k2,k3,k4⟩:=HTB3.out;exact⟨u0,k1,k2,k3.trans (⟨HGR4.out.os,HGR4.out.tape,HGR4.out.output,HGR4.out.size,fun i hi=>HGR4.out.block i (Nat.lt_of_lt_of_le hi k3.size) gj⟩),k4⟩
     have HEX4:=hid (dX b s r3 ⟨#[58]⟩ w4 hr4 hs hTB4);rw[<-HR4.out] at HEX4;have HTB4:=hid hTB4;clear hr4 hTB4;go_upto_region 14 with (go_at_call 294;refine HEX4.out.mono ?_;rintro e w5 ⟨rfl,h5,hg5⟩;have H5R:=hid h5;have HG5:=hid hg5;clear h5 hg5)
     obtain⟨k,hk⟩:=ez fsd.length
     have hbu2:=((hbu.grownB HG3.out (show b<N+3 by omega)).grownB HGR4.out (show N+2<N+3 by omega)).grownB HG5.out (show b<N+3 by omega);have hbu3:BuiltF 202 (N+3) w5.drew v k nsd fsd:=hk▸hbu2.ext (Below.refl _ _).drew;have HP0:=hid (aV HG5.out (aV HGR4.out (aV HG3.out HN0.out HNB.out.1) ga) HNB.out.1);have p1:w5.heap[N+1]?=some (.cells #[.int .i64 9,.int .i64 0,.int .i64 0,.string ⟨#[]⟩,.slice none 0 0,v] 36):=aV HG5.out (aV HGR4.out (aV HG3.out HN1.out HNB.out.2.1) ga) HNB.out.2.1
     have P1:Hid (w5.drew.heap[N+1]?=some (.cells #[.int .i64 9,.int .i64 0,.int .i64 0,.string ⟨#[]⟩,.slice none 0 0,v] 36)):=hid p1;have P2:Hid (IsRd w5.drew b s r4):=hid (H5R.out.grown (row:=none) ⟨rfl,rfl,rfl,Nat.le_refl _,fun _ _ _=>rfl⟩ gd);have HOW5:=hid (HOW4.out.kept HG5.out (by simp[HNB.out.2.2]));have HTBz:=hid ((HTB4.out.grown HG5.out (.inr rfl)).grown (row:=none) ⟨rfl,rfl,rfl,Nat.le_refl _,fun _ _ _=>rfl⟩ (.inl rfl):TB w5.drew b);have HIH:=hid (fun (h':IsRd w5.drew b s r4)=>IH b s r4 (dep+1) w5.drew h' HRI.out hs HTBz.out ga);have hNz:N+1<w5.heap.size:=ltOf p1
     have hMz:N+2<w5.heap.size:=HOW5.out.lt;have HC:=hid (fun (w':World) (h:w'.heap[N+1]?=some (.cells #[.int .i64 9,.int .i64 0,.int .i64 0,.string ⟨#[]⟩,.slice none 0 0,v] 36))=>(show w'.cell? ⟨N+1,5,none⟩=some v from aA h 5));have HWLOW:=hid (show w.grownBy w5 (some b) from(iB (HG.out.trans HG3.out) ⟨HGR4.out.os,HGR4.out.tape,HGR4.out.output,HGR4.out.size,fun i hi=>HGR4.out.block i (Nat.lt_of_lt_of_le hi (HG.out.trans HG3.out).size) (by have:=HNN.out;simp;omega)⟩).trans HG5.out);obtain⟨cs,hcs,hown,hel⟩:=hbu3;have hvb:=BuiltF.own ⟨cs,hcs,hown,hel⟩;have HCS:=hid hcs
     have hkb:k+1<=200012:=by rw[hk];omega
     have hcap1:k+1<=maxLen:=by unfold maxLen;omega
     have hcap2:(k+1) * 104<=140737488355328:=by omega
     have hne3:some (N+1)≠v.ownBlock:=fun e=>by have:=(hvb _ e.symm).1;omega
     have HKP:=hid (show v.ownBlock=none\/v.ownBlock≠some b by
      cases hv:v.ownBlock with
      | none=>exact .inl rfl
      | some g=>right;intro e;have:=(hvb g hv).1;cases e;omega)
     have e1:IntKind.i64.wrap (dep+1)=dep+1:=IntWalk.i64_in _ ⟨by omega,by omega⟩;have HHEL:=hid hel;have HVB:=hid hvb;have HK:=hid hk;clear hbu hbu2 p1 hcs hel hk hkey;refine aG 10 (fun w'=>w'.heap[N+1]?=some (.cells #[.int .i64 9,.int .i64 0,.int .i64 0,.string ⟨#[]⟩,.slice none 0 0,v] 36)) ge ge ge gc (P1.out) (fun hS=>?_);simp only[zdm,zdn,zdp,zdq];refine tc 0 HC ?_;refine tc 1 HC ?_;refine tc 2 HC ?_;refine tc 3 HC ?_;refine tc 4 HC ?_;refine tc 5 HC ?_;refine yr 6 fun K hK=>?_;go_simp;go_at_call 150;refine(HIH.out P2.out).mono ?_;rintro e w1 ⟨c1,d1,rfl,hv1,hd1,hr1,hg1⟩;have q1:=hid (aV hg1 P1.out HNB.out.2.1);have hs1:=hg1.size;simp only[World.size_drew] at hs1;refine hK.out _ _ (q1.out) (fun hS=>?_);clear hK K
     (try simp only[Act.put,pq])
     refine tc 7 HC ?_;refine yr 8 fun K hK=>?_;go_simp;refine hK.out _ _ (aD _ q1.out) (fun hS=>?_);clear hK K
     (try simp only[Act.put,pq])
     refine yr 9 fun K hK=>?_;refine step_append_lies _ gh _ _ _ gh (N+3) 202 tf _ 7 104 Tryz.underlying34 hi hz0 hz1 hz2 rfl ga v k (cs.flatMap FC.cs) gh ((hown.kept hg1 HKP.out).alloc _) ⟨w1.heap.size,0,none⟩ 1 1 (FC.cs (nm,c1)) gh gh (World.news_of_block (heap_alloc_new w1 _)) (by simp[FC.cs,VC.cs,Value.oneCell']) ga hcap1 hcap2 gj (w1.heap.size+1) gd ?_;intro gg cap w2x hown2 hgrow hat hlt2;have r1x:=hid (aT hgrow (aD _ q1.out) hne3);refine hK.out _ _ (r1x.out) (fun hS=>?_);clear hK K
     (try simp only[Act.put,pq])
     refine wpAnyH_done ge ?_ _
     (try dsimp only)
     have hc2:w2x.cell? ⟨N+1,5,none⟩=some v:=aA r1x.out 5;have hf2:w2x.frozen? ⟨N+1,5,none⟩=false:=aC r1x.out 5;have HWN:=hid (fun u=>(aE (o:=5) u r1x.out));clear hS HC;have HOB:=hid (show some b≠v.ownBlock from fun e=>by
      rcases HKP.out with h | h
      ·rw[h] at e;cases e
      ·exact h e.symm)
     have HFIN:=hid (fun u:Value=>(show IsRd (w2x.setCell ⟨N+1,5,none⟩ u) b s (rdV s f r4).2 from⟨cB _ _ (aT hgrow (aD _ hr1.at_) HOB.out) gi,hr1.ok⟩));have HF0:=hid (fun u:Value=>(show(w2x.setCell ⟨N+1,5,none⟩ u).heap[N]?=some valZ from cB _ _ (aT hgrow (aD _ (aV hg1 (show w5.drew.heap[N]?=some valZ from HP0.out) HNB.out.1)) (fun e=>by have:=(HVB.out _ e.symm).1;omega)) gi))
     have hOW6:=(((show w5.drew.ownsMap Tryz.prog 9 (plainElem (H:=Unit) Tryz.prog 4) (N+2) (acc.length+1) _ from HOW5.out.drew).kept hg1 (by simp[HNB.out.2.2])).alloc (.cells (FC.cs (nm,c1)).toArray 202)).kept hgrow (fun e=>by have:=(HVB.out _ e.symm).1;omega);have HOWF:=hid (fun u:Value=>hOW6.setCell (a:=⟨N+1,5,none⟩) gi u);have HGW:=hid (show w.grownBy (w1.alloc (.cells (FC.cs (nm,c1)).toArray 202)) (some b) from(HWLOW.out.trans ((show w5.grownBy w5.drew (some b) from⟨rfl,rfl,rfl,Nat.le_refl _,fun _ _ _=>rfl⟩).trans hg1)).trans (World.grownBy_alloc _ _ _))
     have HGR:=hid hgrow;have HV1:=hid hv1;have HD1:=hid hd1;have HOWN2:=hid hown2;have HAT:=hid hat
     have HG1:=hid hg1;have hsz2:N+3<=w1.heap.size:=by have h1:=hg1.size;simp only[World.size_drew] at h1;omega
     clear hgrow hv1 hd1 hown2 hat hg1 hr1 hcap1 hcap2 hOW6;go_wp2
     go_roundw
     case rel =>
      refine⟨false,rfl,(rdV s f r4).2,acc++[(nm,(rdV s f r4).1)],nsd++[nm],fsd++[d1],_,F,HFIN.out _,HRND.out.1,by rw[List.map_append,<-HNA.out];rfl,by rw[List.length_append,List.length_append,HFL.out];rfl,?_,?_,HQ.out.symm.trans HEQ2.out,by have:=HRND.out.2;omega,?_,HF0.out _,HWN.out _,?_,?_,?_⟩
      ·intro hx;have h4:=(aBa s f r4 HRI.out).2.2.2 hx;have h3:r3.e=0:=iR (s:=s) (t:=⟨#[58]⟩) (by rw[<-HR4.out];exact h4);obtain⟨a1,a2⟩:=HAC.out HE.out;have hnod:¬ (acc.any (fun y=>decide (y.1=nm))=true):=by
        intro hd;by_cases h2:r2.e=0
        ·have:=HR3.out;rw[if_pos ⟨h2,hd⟩] at this;rw[this] at h3;exact absurd h3 (Rd.fail_e _ _ _ gc)
        ·have:=HR3.out;rw[if_neg (fun h=>h2 h.1)] at this;rw[this] at h3;exact h2 h3
       refine⟨by rw[HD1.out hx,a1,List.map_append];rfl,?_⟩;rw[List.map_append,List.nodup_append];refine⟨a2,by simp,?_⟩;intro a ha c hc e;simp only[List.map_cons,List.map_nil,List.mem_singleton] at hc;obtain⟨y,hy,rfl⟩:=List.mem_map.1 ha;exact hnod (List.any_eq_true.2 ⟨y,hy,decide_eq_true (e.trans hc)⟩)
      ·intro n hn;rcases List.mem_append.1 hn with h | h
       ·exact HNZ.out n h
       ·simp at h;subst h;exact hnmz
      ·have:=HRND.out.2;rw[List.length_append];simp only[List.length_cons,List.length_nil];omega
      ·refine BuiltF.set ?_ _ _ gi;have hlk:(fsd++[d1]).length=k+1:=by rw[List.length_append,HK.out];rfl
       have hnk:nsd.length=k:=by rw[HNL.out,HK.out,HFL.out]
       rw[hlk];refine BuiltF.push (N:=w5.drew.heap.size) HCS.out (fun j hj hj' hjn=>?_) ga (by rw[List.length_append,hnk];simp) ?_ ?_ (by simp only[World.size_drew];omega) (fun r e=>(HVB.out r e).2) HOWN2.out HGR.out HAT.out
       ·have hjk:j<fsd.length:=by have:=HCS.out;have:=HK.out;omega
        have hjn2:j<nsd.length:=by have:=HK.out;omega
        rw[List.getElem_append_left hjk,List.getElem_append_left hjn2];obtain⟨x1,x2⟩:=HHEL.out j hj hjk hjn2;exact⟨x1,x2.same fun i hi=>⟨⟨hi.1,by have:=HG1.out.size;have:=hi.2.1;omega,hi.2.2⟩,HG1.out.block i hi.2.1 (by have:=hi.1;simp;omega)⟩⟩
       ·simp only[<-hnk];exact(List.getElem_concat_length rfl gd).symm
       ·have e2:(fsd++[d1])[k]' ga=d1:=by
         simp only[HK.out];exact List.getElem_concat_length rfl gd
        rw[e2];exact HV1.out
      ·have h:=HOWF.out (.slice (some ⟨gg,0,none⟩) (k+1) cap);rw[List.length_append,List.map_append];simp only[List.length_cons,List.length_nil,List.map_cons,List.map_nil];rw[Maps.setOf_snoc];exact h
      ·exact iB HGW.out (((Below.refl _ _).grown HGR.out (by simp;have:=HNN.out;omega) (fun r e=>by have:=(HVB.out r e).1;have:=HNN.out;omega)).setCell (by dsimp only;have:=HNN.out;omega) _)
     case measure =>
      rw[HMW.out,aBd (HFIN.out _)];exact HRND.out.2
   ·have HSP:=hid (show Q=(acc,r) by rw[HQ.out,HEQ.out,pV,if_pos (.inr HQq.out.symm)]);have HEX:=hid (dX b s r ⟨#[125]⟩ wr HR.out hs HTBr.out);obtain⟨al,capl,rfl,hcl,hal,hvo⟩:=hbu.shape;have HBU:=hid hbu;have HVO:=hid hvo;clear hbu hvo hal;have HCL:=hid hcl;clear hcl;go_upto_region 16 with (first
     | (go_at_call 294;refine HEX.out.mono ?_;rintro e w2 ⟨rfl,h2,hg2⟩;have H2R:=hid h2;have HG2:=hid hg2;clear h2 hg2)
     | (go_at_call 293;refine HIS.out.mono ?_;rintro e w2 ⟨rfl,hw2⟩;obtain rfl:=hw2.symm))
    have hbu2:=HBU.out.grownB HG2.out (show b<N+3 by omega);have HSA:=hid (yI 202 (N+3) w2 al capl fsd.length nsd fsd hbu2 rfl (by rw[HNL.out,HFL.out]) ga);have h0:=aV HG2.out HN0.out HNB.out.1;have h1:=aV HG2.out HN1.out HNB.out.2.1;have hcv:=(aA h1 5:w2.cell? ⟨N+1,5,none⟩=some (.slice al fsd.length capl))
    have hvo2:=hbu2.own;have HPR:=hid (fun (w3:World) (hg:w2.grownBy w3 (Value.slice al fsd.length capl).ownBlock)=>(show w3.heap[N]?=some valZ/\w3.heap[N+1]?=some (.cells #[.int .i64 9,.int .i64 0,.int .i64 0,.string ⟨#[]⟩,.slice none 0 0,(.slice al fsd.length capl)] 36)/\IsRd w3 b s (r.expect s ⟨#[125]⟩)/\w2.grownBy w3 (Value.slice al fsd.length capl).ownBlock from by
     have hne:∀i,i<N+3->some i≠(Value.slice al fsd.length capl).ownBlock:=fun i hi e=>by have:=(hvo2 _ e.symm).1;omega
     exact⟨(hg.block N (ltOf h0) (hne _ ga)).trans h0,(hg.block (N+1) (ltOf h1) (hne _ ga)).trans h1,H2R.out.grown hg (hne _ ga),hg⟩))
    have HV2:=hid hvo2;clear h0 h1 hbu2 hvo2;go_upto_region 17 with (go_at_call 296;refine HSA.out.mono ?_;rintro e w3 ⟨rfl,hpost⟩;have HPS:=hid hpost;clear hpost)
    obtain⟨ns',fs',hl1,hl2,hpm,hpw,hbf,hg3⟩:=HPS.out;obtain⟨m0,m1,hr3,_⟩:=HPR.out w3 hg3;have hL1:=ld6 m1;have hS1:=st6 m0 rfl (.int .i64 9) (.int .i64 0) (.int .i64 0) (.string ⟨#[]⟩) (.slice none 0 0) (.slice al fsd.length capl) gm;have hL2:=ld6 (setRow_heap w3 N _ #[.int .i64 9,.int .i64 0,.int .i64 0,.string ⟨#[]⟩,.slice none 0 0,.slice al fsd.length capl] 36 (0,0) m0);have HL1:=hid hl1;have HL2:=hid hl2;have HPM:=hid hpm;have HPW:=hid hpw;have HBF:=hid hbf;have HG3:=hid hg3;have HR3:=hid hr3;clear m0 m1 hl1 hl2 hpm hpw hbf hg3 hr3 hcv;go_wp2
    refine bodyPost_ret (v:=.agg #[.int .i64 9,.int .i64 0,.int .i64 0,.string ⟨#[]⟩,.slice none 0 0,.slice al fsd.length capl]) (by simp[results,Tryz.results237,go_sem,hL2]) rfl ?_;rw[HSP.out];refine⟨⟨9,0,0,⟨#[]⟩,none,0,0,al,fsd.length,capl⟩,.mk 9 0 0 ⟨#[]⟩ [] ns' fs',rfl,?_,?_,aH HR3.out HNB.out.1,?_⟩
    ·have hl2:=HL2.out;have hl1:=HL1.out;refine⟨⟨rfl,rfl,rfl,rfl,⟨by simp[I64],by simp[I64],by simp[I64],Nat.zero_le _,(show 0 * 88<=140737488351232 by decide),(show fsd.length * 104<=140737488351232 by omega),Nat.le_refl _,HCL.out⟩,rfl,hl2.symm,hl1.trans hl2.symm⟩,.inl rfl,?_⟩;have hbf:=HBF.out;rw[<-hl2] at hbf;have hnz:∀n∈ns',n.size<=140737488351232:=by
      intro n hn;obtain⟨j,hj,rfl⟩:=List.mem_iff_getElem.1 hn;have hm:(ns'[j],fs'[j]' ga)∈ns'.zip fs':=by
       rw[List.mem_iff_getElem];exact⟨j,by simp;omega,by simp⟩
      have hm2:=(List.of_mem_zip (HPM.out.symm.mem_iff.1 hm)).1;have:=HNZ.out _ hm2;omega
     rcases hbf.flds ga hnz with h | ⟨g,o,h1,h2,h3⟩
     ·exact .inl h
     ·have hsame:∀i,N+3<=i/\i<w3.heap.size->(w.heap.size<=i/\i<(w3.setRow N #[.int .i64 9,.int .i64 0,.int .i64 0,.string ⟨#[]⟩,.slice none 0 0,.slice al fsd.length capl]).heap.size)/\(w3.setRow N #[.int .i64 9,.int .i64 0,.int .i64 0,.string ⟨#[]⟩,.slice none 0 0,.slice al fsd.length capl]).heap[i]?=w3.heap[i]?:=fun i hi=>⟨⟨by have:=HNN.out;omega,by rw[setRow_size];exact hi.2⟩,setRow_other w3 N i _ ga⟩
      exact .inr ⟨g,o,h1,(hsame g h2).1,IsFlds.same hsame (hsame g h2).2 h3⟩
    ·intro he;obtain⟨a1,a2⟩:=HAC.out (iR he);have hz:nsd.zip fsd=acc:=by
      rw[a1,HNA.out];apply List.ext_getElem
      ·simp
      ·intro i h1 h2;simp
     have hpm:=HPM.out;rw[hz] at hpm;exact(yU (by rw[HL1.out,HL2.out]) hpm HPW.out a2).symm
    ·refine aK (iB (HG.out.trans HG2.out) ⟨HG3.out.os,HG3.out.tape,HG3.out.output,HG3.out.size,fun i hi=>HG3.out.block i ?_ ?_⟩) N _ (by have:=HNN.out;omega)
     ·exact Nat.lt_of_lt_of_le hi (HG.out.trans HG2.out).size
     ·intro e;have:=(HV2.out _ e.symm).1;have:=HNN.out;omega
  ·have HE:=hid he;have qe:(r.e==0)=false:=by simp[he]
   have HSP:=hid (show Q=(acc,r) by rw[HQ.out,HEQ.out,pV,if_pos (.inl he)]);clear he;have HEX:=hid (dX b s r ⟨#[125]⟩ wr HR.out hs HTBr.out);obtain⟨al,capl,rfl,hcl,hal,hvo⟩:=hbu.shape;have HBU:=hid hbu;have HVO:=hid hvo;clear hbu hvo hal;have HCL:=hid hcl;clear hcl;go_upto_region 16 with (first
    | (go_at_call 294;refine HEX.out.mono ?_;rintro e w2 ⟨rfl,h2,hg2⟩;have H2R:=hid h2;have HG2:=hid hg2;clear h2 hg2)
    | (go_at_call 293;refine HIS.out.mono ?_;rintro e w2 ⟨rfl,hw2⟩;obtain rfl:=hw2.symm))
   have hbu2:=HBU.out.grownB HG2.out (show b<N+3 by omega);have HSA:=hid (yI 202 (N+3) w2 al capl fsd.length nsd fsd hbu2 rfl (by rw[HNL.out,HFL.out]) ga);have h0:=aV HG2.out HN0.out HNB.out.1;have h1:=aV HG2.out HN1.out HNB.out.2.1;have hcv:=(aA h1 5:w2.cell? ⟨N+1,5,none⟩=some (.slice al fsd.length capl))
   have hvo2:=hbu2.own;have HPR:=hid (fun (w3:World) (hg:w2.grownBy w3 (Value.slice al fsd.length capl).ownBlock)=>(show w3.heap[N]?=some valZ/\w3.heap[N+1]?=some (.cells #[.int .i64 9,.int .i64 0,.int .i64 0,.string ⟨#[]⟩,.slice none 0 0,(.slice al fsd.length capl)] 36)/\IsRd w3 b s (r.expect s ⟨#[125]⟩)/\w2.grownBy w3 (Value.slice al fsd.length capl).ownBlock from by
    have hne:∀i,i<N+3->some i≠(Value.slice al fsd.length capl).ownBlock:=fun i hi e=>by have:=(hvo2 _ e.symm).1;omega
    exact⟨(hg.block N (ltOf h0) (hne _ ga)).trans h0,(hg.block (N+1) (ltOf h1) (hne _ ga)).trans h1,H2R.out.grown hg (hne _ ga),hg⟩))
   have HV2:=hid hvo2;clear h0 h1 hbu2 hvo2;go_upto_region 17 with (go_at_call 296;refine HSA.out.mono ?_;rintro e w3 ⟨rfl,hpost⟩;have HPS:=hid hpost;clear hpost)
   obtain⟨ns',fs',hl1,hl2,hpm,hpw,hbf,hg3⟩:=HPS.out;obtain⟨m0,m1,hr3,_⟩:=HPR.out w3 hg3;have hL1:=ld6 m1;have hS1:=st6 m0 rfl (.int .i64 9) (.int .i64 0) (.int .i64 0) (.string ⟨#[]⟩) (.slice none 0 0) (.slice al fsd.length capl) gm;have hL2:=ld6 (setRow_heap w3 N _ #[.int .i64 9,.int .i64 0,.int .i64 0,.string ⟨#[]⟩,.slice none 0 0,.slice al fsd.length capl] 36 (0,0) m0);have HL1:=hid hl1;have HL2:=hid hl2;have HPM:=hid hpm;have HPW:=hid hpw;have HBF:=hid hbf;have HG3:=hid hg3;have HR3:=hid hr3;clear m0 m1 hl1 hl2 hpm hpw hbf hg3 hr3 hcv;go_wp2
   refine bodyPost_ret (v:=.agg #[.int .i64 9,.int .i64 0,.int .i64 0,.string ⟨#[]⟩,.slice none 0 0,.slice al fsd.length capl]) (by simp[results,Tryz.results237,go_sem,hL2]) rfl ?_;rw[HSP.out];refine⟨⟨9,0,0,⟨#[]⟩,none,0,0,al,fsd.length,capl⟩,.mk 9 0 0 ⟨#[]⟩ [] ns' fs',rfl,?_,?_,aH HR3.out HNB.out.1,?_⟩
   ·have hl2:=HL2.out;have hl1:=HL1.out;refine⟨⟨rfl,rfl,rfl,rfl,⟨by simp[I64],by simp[I64],by simp[I64],Nat.zero_le _,(show 0 * 88<=140737488351232 by decide),(show fsd.length * 104<=140737488351232 by omega),Nat.le_refl _,HCL.out⟩,rfl,hl2.symm,hl1.trans hl2.symm⟩,.inl rfl,?_⟩;have hbf:=HBF.out;rw[<-hl2] at hbf;have hnz:∀n∈ns',n.size<=140737488351232:=by
     intro n hn;obtain⟨j,hj,rfl⟩:=List.mem_iff_getElem.1 hn;have hm:(ns'[j],fs'[j]' ga)∈ns'.zip fs':=by
      rw[List.mem_iff_getElem];exact⟨j,by simp;omega,by simp⟩
     have hm2:=(List.of_mem_zip (HPM.out.symm.mem_iff.1 hm)).1;have:=HNZ.out _ hm2;omega
    rcases hbf.flds ga hnz with h | ⟨g,o,h1,h2,h3⟩
    ·exact .inl h
    ·have hsame:∀i,N+3<=i/\i<w3.heap.size->(w.heap.size<=i/\i<(w3.setRow N #[.int .i64 9,.int .i64 0,.int .i64 0,.string ⟨#[]⟩,.slice none 0 0,.slice al fsd.length capl]).heap.size)/\(w3.setRow N #[.int .i64 9,.int .i64 0,.int .i64 0,.string ⟨#[]⟩,.slice none 0 0,.slice al fsd.length capl]).heap[i]?=w3.heap[i]?:=fun i hi=>⟨⟨by have:=HNN.out;omega,by rw[setRow_size];exact hi.2⟩,setRow_other w3 N i _ ga⟩
     exact .inr ⟨g,o,h1,(hsame g h2).1,IsFlds.same hsame (hsame g h2).2 h3⟩
   ·intro he;obtain⟨a1,a2⟩:=HAC.out (iR he);have hz:nsd.zip fsd=acc:=by
     rw[a1,HNA.out];apply List.ext_getElem
     ·simp
     ·intro i h1 h2;simp
    have hpm:=HPM.out;rw[hz] at hpm;exact(yU (by rw[HL1.out,HL2.out]) hpm HPW.out a2).symm
   ·refine aK (iB (HG.out.trans HG2.out) ⟨HG3.out.os,HG3.out.tape,HG3.out.output,HG3.out.size,fun i hi=>HG3.out.block i ?_ ?_⟩) N _ (by have:=HNN.out;omega)
    ·exact Nat.lt_of_lt_of_le hi (HG.out.trans HG2.out).size
    ·intro e;have:=(HV2.out _ e.symm).1;have:=HNN.out;omega
end
end
section
open Go Go.RowKit Go.Shelf
theorem jA (a:ByteArray) (l:List UInt8) (h:a≠⟨l.toArray⟩):(a.toList==l)=false:=by rw[wO];exact decide_eq_false h
theorem qY (a:ByteArray) (l:List UInt8) (h:a=⟨l.toArray⟩):(a.toList==l)=true:=by rw[wO];exact decide_eq_true h
theorem namF_eq (s:ByteArray) (f:Nat) (r:Rd) (he:¬ r.e≠0) (h1:¬ ((r.k=0\/r.k=5)/\r.t≠⟨#[91]⟩/\r.t≠⟨#[123]⟩)) (h2:¬ r.k=2) (h3:¬ r.k=3) (h4:¬ r.k=4) (h5:¬ r.t=⟨#[91]⟩) (h6:¬ r.t=⟨#[123]⟩):rdV s (f+1) r=rO s f r (r.adv s):=by
 unfold rdV;rw[if_neg he,if_neg h1];dsimp only;rw[if_neg h2,if_neg h3,if_neg h4,if_neg h5,if_neg h6];rfl
section
attribute [-go_sem] loadCellsFrom storeCells
attribute [local go_sem] aBr aBq aBp aBo aBn aBm aAt aAs
theorem tJ (f:Nat) (hf8:f<=8) (IH:∀g,f=g+1->aIs g):aIs f:=by
 intro b s r dep w h hI hs hTB hdep;obtain⟨N,hN⟩:=ez w.heap.size
 have hbl:=h.lt;obtain⟨Q,hQ⟩:=ez (rdV s f r)
 rw[<-hQ];have HQ:=hid hQ;obtain⟨w0,hw0⟩:=ez (w.alloc valZ)
 have hr0:IsRd w0 b s r:=by rw[hw0];exact h.alloc _
 have hg0:w.grownBy w0 (some b):=by rw[hw0];exact World.grownBy_alloc _ _ _
 have hz0:w0.heap[N]?=some valZ:=by rw[hw0,hN];exact heap_alloc_new w _
 have HST:=hid (fun (w2:World) (x0 x1 x2 x3 x4 x5:Value) (h1:∀v∈[x0,x1,x2,x3,x4,x5],v.oneCell'=true) (hz:w2.heap[N]?=some valZ) =>
  (show(storeCells ⟨N,0,none⟩ [x0,x1,x2,x3,x4,x5] 0).run Tryz.prog w2=.ok () (w2.setRow N #[x0,x1,x2,x3,x4,x5])/\(loadCellsFrom ⟨N,0,none⟩ 0 6 #[]).run Tryz.prog (w2.setRow N #[x0,x1,x2,x3,x4,x5])=.ok #[x0,x1,x2,x3,x4,x5] (w2.setRow N #[x0,x1,x2,x3,x4,x5]) from
    ⟨st6 hz rfl x0 x1 x2 x3 x4 x5 h1,ld6 (setRow_heap w2 N _ #[x0,x1,x2,x3,x4,x5] 36 (0,0) hz)⟩))
 have hce:Ce w0 b 10 (.int .i64 r.e):=aA hr0.at_ 10;have hl0:=ld_rd hr0;have hst0:=lB w0 #[.int .i64 0,.int .i64 0,.string ⟨#[]⟩,.string ⟨#[]⟩,.int .i64 0,.int .i64 0,.bool false,.bool false] rfl r;have HR:=hid hr0;have HG:=hid hg0;have HZ:=hid hz0;have HTB:=hid (hTB.grown hg0 (.inr rfl));have HI:=hid hI;have HW:=hid hw0;have HN:=hid hN;have HNB:=hid (show N≠b/\b<N/\w.heap.size<=N/\N<w0.heap.size by have:=ltOf hz0;omega);clear h hI hTB hQ hr0 hg0 hz0 hw0 hN;by_cases he:r.e=0
 ·have HE:=hid he;have qe:(r.e==0)=true:=by simp[he]
  have qe':(r.e != 0)=false:=by simp[he]
  clear he;go_enter Tryz.func150,Tryz.ntmps150
  go_upto_region 1 with (fail)
  rw[<-HW.out,<-HN.out];go_upto_region 4 with (fail)
  clear hl0 hst0 hce;obtain⟨T,hT⟩:=ez w0.heap.size
  obtain⟨w1,hw1⟩:=ez (w0.alloc (tokO r))
  have hr1:IsRd w1 b s r:=by rw[hw1];exact HR.out.alloc _
  have hg1:w0.grownBy w1 (some b):=by rw[hw1];exact World.grownBy_alloc _ _ _
  have hz1:w1.heap[N]?=some valZ:=by rw[hw1];exact aD _ HZ.out
  have ht1:w1.heap[T]?=some (tokO r):=by rw[hw1,hT];exact heap_alloc_new w0 _
  have HW1:=hid hw1;dsimp only[tokO,tokA] at HW1;rw[<-HW1.out,<-hT];have HR1:=hid hr1;have HG1:=hid (HG.out.trans hg1);have HZ1:=hid hz1;have HT1:=hid ht1;have HTB1:=hid (HTB.out.grown hg1 (.inr rfl));have HTT:=hid (show T≠b/\T≠N by have:=HNB.out;have:=HR.out.lt;omega);have c0:Ce w1 T 0 (.int .i64 (r.k:Int)):=aA ht1 0;have c1:Ce w1 T 1 (.int .i64 (r.p:Int)):=aA ht1 1;have c2:Ce w1 T 2 (.string r.t):=aA ht1 2;clear hr1 hg1 hz1 ht1 hw1 hT
  -- the token's kind: may a value begin so?
  obtain⟨bd,hbd⟩:=ez (decide ((r.k=0\/r.k=5)/\r.t≠⟨#[91]⟩/\r.t≠⟨#[123]⟩):Bool)
  have HBD:=hid hbd;clear hbd
  go_upto_block 0 with (fail)
  have hk5:=HI.out.k5;cases bd
  ·have HKK:=hid (show ¬ ((r.k=0\/r.k=5)/\r.t≠⟨#[91]⟩/\r.t≠⟨#[123]⟩) from of_decide_eq_false HBD.out.symm)
   go_cut [] (fun wz=>wz=w1)
   case first =>
    have hk:=HKK.out;have HLT:r.k=1\/r.k=2\/r.k=3\/r.k=4\/((r.k=0\/r.k=5)/\(r.t=⟨#[91]⟩\/r.t=⟨#[123]⟩)):=by
     by_cases h91:r.t=⟨#[91]⟩
     ·by_cases h05:r.k=0\/r.k=5
      ·exact .inr (.inr (.inr (.inr ⟨h05,.inl h91⟩)))
      ·omega
     ·by_cases h123:r.t=⟨#[123]⟩
      ·by_cases h05:r.k=0\/r.k=5
       ·exact .inr (.inr (.inr (.inr ⟨h05,.inr h123⟩)))
       ·omega
      ·by_cases h05:r.k=0\/r.k=5
       ·exact absurd ⟨h05,h91,h123⟩ hk
       ·omega
    clear hk;rcases HLT with hk | hk | hk | hk | ⟨hk,ht⟩
    ·have k1:((r.k:Int)==1)=true:=by simp;omega
     have k2:((r.k:Int)==2)=false:=by simp;omega
     have k3:((r.k:Int)==3)=false:=by simp;omega
     have k4:((r.k:Int)==4)=false:=by simp;omega
     clear hk;go_wp2
     go_meet
     rfl
    ·have k2:((r.k:Int)==2)=true:=by simp;omega
     clear hk;go_wp2
     go_meet
     rfl
    ·have k2:((r.k:Int)==2)=false:=by simp;omega
     have k3:((r.k:Int)==3)=true:=by simp;omega
     clear hk;go_wp2
     go_meet
     rfl
    ·have k2:((r.k:Int)==2)=false:=by simp;omega
     have k3:((r.k:Int)==3)=false:=by simp;omega
     have k4:((r.k:Int)==4)=true:=by simp;omega
     clear hk;go_wp2
     go_meet
     rfl
    ·have k1:((r.k:Int)==1)=false:=by simp;omega
     have k2:((r.k:Int)==2)=false:=by simp;omega
     have k3:((r.k:Int)==3)=false:=by simp;omega
     have k4:((r.k:Int)==4)=false:=by simp;omega
     clear hk;rcases ht with ht | ht
     ·have b1:=qY r.t [91] ht;have b2:(r.t.toList != [91])=false:=by rw[bne,b1];rfl
      clear ht;go_wp2
      go_meet
      rfl
     ·have b1:=jA r.t [91] (by rw[ht];intro h;cases h);have b2:(r.t.toList != [91])=true:=by rw[bne,b1];rfl
      have b3:=qY r.t [123] ht;have b4:(r.t.toList != [123])=false:=by rw[bne,b3];rfl
      clear ht;go_wp2
      go_meet
      rfl
   case rest =>
   obtain⟨wz,hwz⟩:=ez wc
   rw[<-hwz] at hcut ⊢;clear hwz;subst hcut;cases f with
   | zero =>
     have hdz:dep=8:=by omega
     have qd:(8:Int)<=dep:=by omega
     have HFL:=hid (bC b s r r.p 23 wz HR1.out);clear hdz;go_upto_region 14 with (go_at_call 232;refine HFL.out.mono ?_;rintro e w2 ⟨rfl,h2,hg2⟩;have H2R:=hid h2;have HG2:=hid hg2;have HZ2:=hid (aV hg2 HZ1.out HNB.out.1);clear h2 hg2)
     obtain⟨hS1,hL2⟩:=HST.out w2 (.int .i64 0) (.int .i64 0) (.int .i64 0) (.string ⟨#[]⟩) (.slice none 0 0) (.slice none 0 0) gm HZ2.out;go_wp2;refine bodyPost_ret (v:=.agg #[.int .i64 0,.int .i64 0,.int .i64 0,.string ⟨#[]⟩,.slice none 0 0,.slice none 0 0]) (by simp[results,Tryz.results150,go_sem,hL2]) rfl ?_;have HSP:=hid (show Q=(dA,r.fail r.p 23) by rw[HQ.out];unfold rdV;rw[if_neg (by simp[HE.out]),if_neg HKK.out]);rw[HSP.out]
     exact⟨⟨0,0,0,⟨#[]⟩,none,0,0,none,0,0⟩,dA,rfl,dT 0 0 gn gn,fun _=>rfl,aH (H2R.out) HNB.out.1,aK (HG1.out.trans HG2.out) N _ HNB.out.2.2.1⟩
   | succ g =>
     have qd:¬ (8:Int)<=dep:=by omega
     have hd0:0<=dep:=by omega
     have hd1:dep+1+(g:Int)=8:=by omega
     have HIH:=hid (IH g rfl);have HAD:=hid (nP b s r wz HR1.out hs HTB1.out);obtain⟨ra,hra⟩:=ez (r.adv s)
     rw[<-hra] at HAD;have HRA:=hid hra;have HAI:=hid (show RdI s ra by rw[hra];exact lU HI.out);have HFT:=hid HI.out.fit;clear hra c0 c1 c2 hdep hf8 qd
     go_upto_block 1 with (go_at_call 233;refine HAD.out.mono ?_;rintro e w3 ⟨rfl,h3,hg3⟩;have H3R:=hid h3;have HG3:=hid hg3;have HZ3:=hid (aV hg3 HZ1.out HNB.out.1);have HT3:=hid (aV hg3 HT1.out HTT.out.1);clear h3 hg3)
     have HTB3:=hid (HTB1.out.grown HG3.out (.inr rfl));have d0:Ce w3 T 0 (.int .i64 (r.k:Int)):=aA HT3.out 0;have d2:Ce w3 T 2 (.string r.t):=aA HT3.out 2;have d3:Ce w3 T 3 (.string r.b):=aA HT3.out 3;have d4:Ce w3 T 4 (.int .i64 r.n):=aA HT3.out 4;have d5:Ce w3 T 5 (.int .i64 r.sc):=aA HT3.out 5;have d6:Ce w3 T 6 (.bool r.d):=aA HT3.out 6;by_cases h2:r.k=2
     ·have H2:=hid h2;have k2:((r.k:Int)==2)=true:=by simp;omega
      clear h2 hk5;obtain⟨dd,hdd⟩:=ez r.d
      rw[<-hdd] at d6;have HDD:=hid hdd;clear hdd;cases dd
      ·have hdf:r.d=false:=HDD.out.symm;have HDF:=hid hdf;clear hdf;go_wp2_with (go_at_call 27;refine(aGs r.n w3).mono ?_;rintro e w4 ⟨rfl,hb4⟩;have HB4:=hid hb4;obtain⟨hS1,hL2⟩:=HST.out w4 (.int .i64 2) (.int .i64 r.n) (.int .i64 0) (.string ⟨#[]⟩) (.slice none 0 0) (.slice none 0 0) gm (aB hb4 HZ3.out);clear hb4)
       refine bodyPost_ret (v:=.agg #[.int .i64 2,.int .i64 r.n,.int .i64 0,.string ⟨#[]⟩,.slice none 0 0,.slice none 0 0]) (by simp[results,Tryz.results150,go_sem,hL2]) rfl ?_;have HSP:=hid (show Q=(.mk 2 r.n 0 ⟨#[]⟩ [] [] [],ra) by rw[HQ.out];unfold rdV;rw[if_neg (by simp[HE.out]),if_neg HKK.out];dsimp only;rw[<-HRA.out,if_pos H2.out];rw[HDF.out];rfl);rw[HSP.out]
       exact⟨⟨2,r.n,0,⟨#[]⟩,none,0,0,none,0,0⟩,(.mk 2 r.n 0 ⟨#[]⟩ [] [] []),rfl,⟨⟨rfl,rfl,rfl,rfl,⟨by simp[I64],HFT.out.n,by simp[I64],Nat.zero_le _,(show 0 * 88<=140737488351232 by decide),(show 0 * 104<=140737488351232 by decide),Nat.le_refl _,Nat.le_refl _⟩,rfl,rfl,rfl⟩,.inl rfl,.inl rfl⟩,fun _=>rfl,aH (bK H3R.out HB4.out H3R.out.lt) HNB.out.1,aK ((HG1.out.trans HG3.out).trans (aQ HB4.out (some b))) N _ HNB.out.2.2.1⟩
      ·have hdf:r.d=true:=HDD.out.symm;have HDF:=hid hdf;clear hdf;go_wp2_with (go_at_call 234;refine(aGt r.n (r.sc:Int) w3).mono ?_;rintro e w4 ⟨rfl,hb4⟩;have HB4:=hid hb4;obtain⟨hS1,hL2⟩:=HST.out w4 (.int .i64 3) (.int .i64 r.n) (.int .i64 r.sc) (.string ⟨#[]⟩) (.slice none 0 0) (.slice none 0 0) gm (aB hb4 HZ3.out);clear hb4)
       refine bodyPost_ret (v:=.agg #[.int .i64 3,.int .i64 r.n,.int .i64 r.sc,.string ⟨#[]⟩,.slice none 0 0,.slice none 0 0]) (by simp[results,Tryz.results150,go_sem,hL2]) rfl ?_;have HSP:=hid (show Q=(.mk 3 r.n r.sc ⟨#[]⟩ [] [] [],ra) by rw[HQ.out];unfold rdV;rw[if_neg (by simp[HE.out]),if_neg HKK.out];dsimp only;rw[<-HRA.out,if_pos H2.out];rw[HDF.out];rfl);rw[HSP.out]
       exact⟨⟨3,r.n,r.sc,⟨#[]⟩,none,0,0,none,0,0⟩,(.mk 3 r.n r.sc ⟨#[]⟩ [] [] []),rfl,⟨⟨rfl,rfl,rfl,rfl,⟨by simp[I64],HFT.out.n,(show I64 (r.sc:Int) from by have:=HFT.out.sc;unfold I64;omega),Nat.zero_le _,(show 0 * 88<=140737488351232 by decide),(show 0 * 104<=140737488351232 by decide),Nat.le_refl _,Nat.le_refl _⟩,rfl,rfl,rfl⟩,.inl rfl,.inl rfl⟩,fun _=>rfl,aH (bK H3R.out HB4.out H3R.out.lt) HNB.out.1,aK ((HG1.out.trans HG3.out).trans (aQ HB4.out (some b))) N _ HNB.out.2.2.1⟩
     by_cases h3:r.k=3
     ·have H3:=hid h3;have H2:=hid h2;have k2:((r.k:Int)==2)=false:=by simp;omega
      have k3:((r.k:Int)==3)=true:=by simp;omega
      clear h2 h3 hk5;go_wp2_with (go_at_call 26;refine(aDl r.b w3).mono ?_;rintro e w4 ⟨rfl,hb4⟩;have HB4:=hid hb4;obtain⟨hS1,hL2⟩:=HST.out w4 (.int .i64 4) (.int .i64 0) (.int .i64 0) (.string r.b) (.slice none 0 0) (.slice none 0 0) gm (aB hb4 HZ3.out);clear hb4)
      refine bodyPost_ret (v:=.agg #[.int .i64 4,.int .i64 0,.int .i64 0,.string r.b,.slice none 0 0,.slice none 0 0]) (by simp[results,Tryz.results150,go_sem,hL2]) rfl ?_;have HSP:=hid (show Q=(.mk 4 0 0 r.b [] [] [],ra) by rw[HQ.out];unfold rdV;rw[if_neg (by simp[HE.out]),if_neg HKK.out];dsimp only;rw[<-HRA.out,if_neg H2.out,if_pos H3.out]);rw[HSP.out]
      exact⟨⟨4,0,0,r.b,none,0,0,none,0,0⟩,(.mk 4 0 0 r.b [] [] []),rfl,⟨⟨rfl,rfl,rfl,rfl,⟨by simp[I64],by simp[I64],by simp[I64],(show r.b.size<=140737488351232 from by have:=HFT.out.b;omega),(show 0 * 88<=140737488351232 by decide),(show 0 * 104<=140737488351232 by decide),Nat.le_refl _,Nat.le_refl _⟩,rfl,rfl,rfl⟩,.inl rfl,.inl rfl⟩,fun _=>rfl,aH (bK H3R.out HB4.out H3R.out.lt) HNB.out.1,aK ((HG1.out.trans HG3.out).trans (aQ HB4.out (some b))) N _ HNB.out.2.2.1⟩
     by_cases h4:r.k=4
     ·have H4:=hid h4;have H3:=hid h3;have H2:=hid h2;have k2:((r.k:Int)==2)=false:=by simp;omega
      have k3:((r.k:Int)==3)=false:=by simp;omega
      have k4:((r.k:Int)==4)=true:=by simp;omega
      clear h2 h3 h4 hk5;go_wp2_with (go_at_call 235;refine(aBg r.b w3).mono ?_;rintro e w4 ⟨rfl,hb4⟩;have HB4:=hid hb4;obtain⟨hS1,hL2⟩:=HST.out w4 (.int .i64 5) (.int .i64 0) (.int .i64 0) (.string r.b) (.slice none 0 0) (.slice none 0 0) gm (aB hb4 HZ3.out);clear hb4)
      refine bodyPost_ret (v:=.agg #[.int .i64 5,.int .i64 0,.int .i64 0,.string r.b,.slice none 0 0,.slice none 0 0]) (by simp[results,Tryz.results150,go_sem,hL2]) rfl ?_;have HSP:=hid (show Q=(.mk 5 0 0 r.b [] [] [],ra) by rw[HQ.out];unfold rdV;rw[if_neg (by simp[HE.out]),if_neg HKK.out];dsimp only;rw[<-HRA.out,if_neg H2.out,if_neg H3.out,if_pos H4.out]);rw[HSP.out]
      exact⟨⟨5,0,0,r.b,none,0,0,none,0,0⟩,(.mk 5 0 0 r.b [] [] []),rfl,⟨⟨rfl,rfl,rfl,rfl,⟨by simp[I64],by simp[I64],by simp[I64],(show r.b.size<=140737488351232 from by have:=HFT.out.b;omega),(show 0 * 88<=140737488351232 by decide),(show 0 * 104<=140737488351232 by decide),Nat.le_refl _,Nat.le_refl _⟩,rfl,rfl,rfl⟩,.inl rfl,.inl rfl⟩,fun _=>rfl,aH (bK H3R.out HB4.out H3R.out.lt) HNB.out.1,aK ((HG1.out.trans HG3.out).trans (aQ HB4.out (some b))) N _ HNB.out.2.2.1⟩
     have H4:=hid h4;have H3:=hid h3;have H2:=hid h2;have k2:((r.k:Int)==2)=false:=by simp;omega
     have k3:((r.k:Int)==3)=false:=by simp;omega
     have k4:((r.k:Int)==4)=false:=by simp;omega
     clear h2 h3 h4 hk5 d3 d4 d5 d6;have hs3:=HG3.out.size;by_cases h5:r.t=⟨#[91]⟩
     ·have H5:=hid h5;have b1:=qY r.t [91] h5;clear h5;have HSUB:=hid (aJz g HIH.out b s ra dep w3 H3R.out HAI.out hs HTB3.out hd1 hd0);have HSP:=hid (show Q=(.mk 8 0 0 ⟨#[]⟩ (dL s (rdV s g) (ra.mu s+1) true ra []).1 [] [],(dL s (rdV s g) (ra.mu s+1) true ra []).2.expect s ⟨#[93]⟩) by rw[HQ.out];unfold rdV;rw[if_neg (by simp[HE.out]),if_neg HKK.out];dsimp only;rw[<-HRA.out,if_neg H2.out,if_neg H3.out,if_neg H4.out,if_pos H5.out]);rw[<-HSP.out] at HSUB
      go_wp2_with (go_at_call 236;refine HSUB.out.mono ?_;rintro e w4 ⟨c4,d4,rfl,hv4,hd4,hr4,hg4⟩;have HV4:=hid hv4;have HD4:=hid hd4;have HR4:=hid hr4;have HG4:=hid hg4;obtain⟨hS1,hL2⟩:=HST.out w4 (.int .i64 c4.k) (.int .i64 c4.i) (.int .i64 c4.s) (.string c4.t) (.slice c4.la c4.ll c4.lc) (.slice c4.fa c4.fl c4.fc) gm (aV hg4 HZ3.out HNB.out.1);clear hv4 hd4 hr4 hg4)
      refine bodyPost_ret (v:=c4.v) (by simp[results,Tryz.results150,go_sem,hL2]) rfl ?_;have hn3:=ltOf HZ3.out;exact⟨c4,d4,rfl,HV4.out.same fun i hi=>⟨⟨by have:=(HG1.out.trans HG3.out).size;omega,by rw[setRow_size];exact hi.2⟩,setRow_other w4 N i _ ga⟩,HD4.out,aH HR4.out HNB.out.1,aK ((HG1.out.trans HG3.out).trans HG4.out) N _ HNB.out.2.2.1⟩
     by_cases h6:r.t=⟨#[123]⟩
     ·have H5:=hid h5;have H6:=hid h6;have b1:=jA r.t [91] h5;have b3:=qY r.t [123] h6;clear h5 h6;have HSUB:=hid (aD3 g HIH.out b s ra dep w3 H3R.out HAI.out hs HTB3.out hd1 hd0);have HSP:=hid (show Q=(aGh (fW s (rdV s g) (ra.mu s+1) true ra []).1,(fW s (rdV s g) (ra.mu s+1) true ra []).2.expect s ⟨#[125]⟩) by rw[HQ.out];unfold rdV;rw[if_neg (by simp[HE.out]),if_neg HKK.out];dsimp only;rw[<-HRA.out,if_neg H2.out,if_neg H3.out,if_neg H4.out,if_neg H5.out,if_pos H6.out]);rw[<-HSP.out] at HSUB
      go_wp2_with (go_at_call 237;refine HSUB.out.mono ?_;rintro e w4 ⟨c4,d4,rfl,hv4,hd4,hr4,hg4⟩;have HV4:=hid hv4;have HD4:=hid hd4;have HR4:=hid hr4;have HG4:=hid hg4;obtain⟨hS1,hL2⟩:=HST.out w4 (.int .i64 c4.k) (.int .i64 c4.i) (.int .i64 c4.s) (.string c4.t) (.slice c4.la c4.ll c4.lc) (.slice c4.fa c4.fl c4.fc) gm (aV hg4 HZ3.out HNB.out.1);clear hv4 hd4 hr4 hg4)
      refine bodyPost_ret (v:=c4.v) (by simp[results,Tryz.results150,go_sem,hL2]) rfl ?_;have hn3:=ltOf HZ3.out;exact⟨c4,d4,rfl,HV4.out.same fun i hi=>⟨⟨by have:=(HG1.out.trans HG3.out).size;omega,by rw[setRow_size];exact hi.2⟩,setRow_other w4 N i _ ga⟩,HD4.out,aH HR4.out HNB.out.1,aK ((HG1.out.trans HG3.out).trans HG4.out) N _ HNB.out.2.2.1⟩
     have H5:=hid h5;have H6:=hid h6;have b1:=jA r.t [91] h5;have b3:=jA r.t [123] h6;have hld:=kV HT3.out;clear h5 h6;have HSUB:=hid (aGr g HIH.out b s r ra dep w3 H3R.out HAI.out HFT.out hs HTB3.out hd1 hd0);have HSP:=hid (show Q=rO s g r ra by rw[HQ.out,namF_eq s g r (by simp[HE.out]) HKK.out H2.out H3.out H4.out H5.out H6.out,<-HRA.out]);rw[<-HSP.out] at HSUB
     go_wp2_with (go_at_call 238;refine HSUB.out.mono ?_;rintro e w4 ⟨c4,d4,rfl,hv4,hd4,hr4,hg4⟩;have HV4:=hid hv4;have HD4:=hid hd4;have HR4:=hid hr4;have HG4:=hid hg4;obtain⟨hS1,hL2⟩:=HST.out w4 (.int .i64 c4.k) (.int .i64 c4.i) (.int .i64 c4.s) (.string c4.t) (.slice c4.la c4.ll c4.lc) (.slice c4.fa c4.fl c4.fc) gm (aV hg4 HZ3.out HNB.out.1);clear hv4 hd4 hr4 hg4)
     refine bodyPost_ret (v:=c4.v) (by simp[results,Tryz.results150,go_sem,hL2]) rfl ?_;have hn3:=ltOf HZ3.out;exact⟨c4,d4,rfl,HV4.out.same fun i hi=>⟨⟨by have:=(HG1.out.trans HG3.out).size;omega,by rw[setRow_size];exact hi.2⟩,setRow_other w4 N i _ ga⟩,HD4.out,aH HR4.out HNB.out.1,aK ((HG1.out.trans HG3.out).trans HG4.out) N _ HNB.out.2.2.1⟩
  ·have hb:=of_decide_eq_true HBD.out.symm;have k1:((r.k:Int)==1)=false:=by simp;omega
   have k2:((r.k:Int)==2)=false:=by simp;omega
   have k3:((r.k:Int)==3)=false:=by simp;omega
   have k4:((r.k:Int)==4)=false:=by simp;omega
   have b1:=jA r.t [91] hb.2.1;have b2:(r.t.toList != [91])=true:=by rw[bne,b1];rfl
   have b3:=jA r.t [123] hb.2.2;have b4:(r.t.toList != [123])=true:=by rw[bne,b3];rfl
   have HBB:=hid hb;have HFL:=hid (bC b s r r.p 13 w1 HR1.out);clear hb;go_upto_region 7 with (go_at_call 232;refine HFL.out.mono ?_;rintro e w2 ⟨rfl,h2,hg2⟩;have H2R:=hid h2;have HG2:=hid hg2;have HZ2:=hid (aV hg2 HZ1.out HNB.out.1);clear h2 hg2)
   obtain⟨hS1,hL2⟩:=HST.out w2 (.int .i64 0) (.int .i64 0) (.int .i64 0) (.string ⟨#[]⟩) (.slice none 0 0) (.slice none 0 0) gm HZ2.out;go_wp2;refine bodyPost_ret (v:=.agg #[.int .i64 0,.int .i64 0,.int .i64 0,.string ⟨#[]⟩,.slice none 0 0,.slice none 0 0]) (by simp[results,Tryz.results150,go_sem,hL2]) rfl ?_;have HSP:=hid (show Q=(dA,r.fail r.p 13) by rw[HQ.out];unfold rdV;rw[if_neg (by simp[HE.out]),if_pos HBB.out]);rw[HSP.out]
   exact⟨⟨0,0,0,⟨#[]⟩,none,0,0,none,0,0⟩,dA,rfl,dT 0 0 gn gn,fun _=>rfl,aH (H2R.out) HNB.out.1,aK (HG1.out.trans HG2.out) N _ HNB.out.2.2.1⟩
 ·have HE:=hid he;have qe:(r.e==0)=false:=by simp[he]
  have qe':(r.e != 0)=true:=by simp[he]
  clear he hl0 hst0;go_enter Tryz.func150,Tryz.ntmps150
  go_upto_region 1 with (fail)
  rw[<-HW.out,<-HN.out];obtain⟨hS1,hL2⟩:=HST.out w0 (.int .i64 0) (.int .i64 0) (.int .i64 0) (.string ⟨#[]⟩) (.slice none 0 0) (.slice none 0 0) gm HZ.out;go_wp2;refine bodyPost_ret (v:=.agg #[.int .i64 0,.int .i64 0,.int .i64 0,.string ⟨#[]⟩,.slice none 0 0,.slice none 0 0]) (by simp[results,Tryz.results150,go_sem,hL2]) rfl ?_;have HSP:=hid (show Q=(dA,r) by rw[HQ.out,aBb s f r HE.out]);rw[HSP.out];exact⟨⟨0,0,0,⟨#[]⟩,none,0,0,none,0,0⟩,dA,rfl,dT 0 0 gn gn,fun _=>rfl,aH (HR.out) HNB.out.1,aK (HG.out) N _ HNB.out.2.2.1⟩
end
theorem tK:∀f:Nat,f<=8->aIs f
 | 0,h=>tJ 0 h (fun g hg=>absurd hg ga)
 | f+1,h=>tJ (f+1) h (fun g hg=>by
   have e:g=f:=by omega
   rw[e];exact tK f ga)
end
end Go.Proofs.YtmgpghoamapfgaaGreatDoor
