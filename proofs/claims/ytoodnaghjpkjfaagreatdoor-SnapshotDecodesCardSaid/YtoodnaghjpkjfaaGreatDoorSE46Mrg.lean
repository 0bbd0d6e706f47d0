/- A part. -/
import Derived.Test.YtoodnaghjpkjfaaGreatDoorSE45Mrg
import Derived.Test.YtoodnaghjpkjfaaGreatDoorSE40Mrg
namespace Go.Proofs.YtoodnaghjpkjfaaGreatDoor
open Tryz
set_option linter.unusedVariables false
set_option maxRecDepth 100000
set_option maxHeartbeats 64000000
set_option linter.unusedSimpArgs false
open Go Go.RowKit Go.Shelf
theorem oZ {C D:Type} {K:Kit C D} {S:Nat->Prop} {w:World} {a:Option Addr} {n c:Nat} {l:List D} (h:IsRow K S w a n c l) {x:D} (hx:x∈l):∃y,K.Is S w y x:=by
 obtain⟨k,hk,rfl⟩:=n5 hx;obtain⟨b,o,_,_,hs⟩:=h.slot (by have:=h.len;omega);obtain⟨y,_,hy⟩:=hs k hk;exact⟨y,hy⟩
theorem aMn {S:Nat->Prop} {w:World} {c:StC} {d:Sta} (h:IsSta S w c d) (hz:Sz 2000 d.l):(jD d).length<=704000000100:=by
 unfold jD jQ;by_cases h1:bZ d≠0
 ·rw[gw h1];simp
 rw[f9 h1];by_cases h2:nX d≠0
 ·rw[gw h2];simp
 rw[f9 h2];have:=aA2 hz ⟨⟨h.rn,h.rt⟩,λx hx=>by obtain⟨y,hy⟩:=oZ h.l hx;exact⟨hy.rn,hy.rt⟩⟩ 2000 lr;rw[aA3 d 2000 hz.1] at this;show(aGf d).toArray.toList.length<=_
 simpa using this
theorem sX (xs:List BA) (n L:Nat) (hn:xs.length<=n) (h:∀x∈xs,x.size<=L):(lnB xs).length<=n * (L+1)+1 :=
 io (aHh xs L h) (Nat.add_le_add_right (oe _ hn) 1)
theorem vN (l:List UInt8):(⟨l.toArray⟩:BA).size=l.length:=by simp[ByteArray.size]
theorem aO7 (s:BA):s.data.toList.length=s.size:=by rw[lu];rfl
theorem pH {α:Type} (f:α->List UInt8) (M n:Nat) (l:List α) (h:∀x∈l,(f x).length<=M) (hn:l.length<=n):(l.flatMap f).length<=n * M:=io (lK f M l h) (oe _ hn)
theorem snE_nl {d:Snp} (h:snE d=0):d.ns.length<=128:=by
 unfold snE at h;by_cases h1:inQ d.v 0 999=false\/inQ d.e 0 1048576=false\/inQ d.t 0 17592186044416=false
 ·rw[gw h1] at h;exact absurd h gb
 rw[f9 h1] at h;by_cases h2:128<d.ns.length
 ·rw[gw h2] at h;exact absurd h gb
 ·omega
theorem aAe {S:Nat->Prop} {w:World} {c:SnC} (d:Snp) (h:IsSn S w c d) (hB:SnB 0 d) (hE:snE d=0):(lF d).length<=100000000000000:=by
 have ac:=aGi hE;have h0:(aHp d).length<=4 * (100+1)+1:=sX _ 4 100 ge (by
  intro x hx;simp only[kd,jt,kj] at hx;have a:=cG d.v (by rw[<-h.v];exact h.rv);have b:=cG d.e (by rw[<-h.e];exact h.re);have e:=cG d.t (by rw[<-h.t];exact h.rt);rcases hx with rfl|rfl|rfl|rfl
  ·decide
  all_goals omega)
 have h1:(d.ns.flatMap jD).length<=128 * 704000000100:=pH jD _ _ _ (λx hx=>by obtain⟨y,hy⟩:=oZ h.ns hx;exact aMn hy (hB.zn x hx)) (snE_nl hE);have hc:∀(wd:BA) (hw:wd.size<=100) (x:Cnt),I64 x.nu->x.nm.size<=100000->(cC wd x).length<=3 * (100000+1)+1:=λwd hw x hx hn=>sX _ 3 100000 ge (by
  intro y hy;simp only[kd,jt,kj] at hy;have a:=cG x.nu hx;rcases hy with rfl|rfl|rfl<;>omega)
 have ab:∀{a n c l},IsRow cntK S w a n c l->∀x∈l,I64 x.nu:=λ{a n c l} hr x hx=>by
  obtain⟨y,hy⟩:=oZ hr hx;rw[<-hy.e];exact hy.rn
 have h2:(d.ar.flatMap (cC pS)).length<=5000 * 300004:=pH (cC pS) _ _ _ (λx hx=>hc pS gb x (ab h.ar x hx) (hB.za x hx)) hB.ar;have h3:(d.se.flatMap (cC jR)).length<=5000 * 300004:=pH (cC jR) _ _ _ (λx hx=>hc jR gb x (ab h.se x hx) (hB.zs x hx)) hB.se;have h4:(d.qs.flatMap iE).length<=5000 * 5000006:=pH iE _ _ _ (λx hx=>by
  obtain⟨y,hy⟩:=oZ h.qs hx;refine sX _ 5 1000000 ge (by
   intro z hz;simp only[kd,jt,kj] at hz;have a:=cG x.nu (by rw[<-hy.e];exact hy.rn);have b:=cG x.vr (by rw[<-hy.e];exact hy.rv);have e:=hB.zq x hx;have g:=pL x.tx.data.toList;rw[aO7] at g;rcases hz with rfl|rfl|rfl|rfl|rfl
   ·decide
   ·omega
   ·omega
   ·omega
   ·unfold qxT;rw[vN];omega)) hB.qs
 have h5:(d.ls.flatMap iF).length<=5000 * 10000006:=pH iF _ _ _ (λx hx=>by
  obtain⟨y,hy⟩:=oZ h.ls hx;refine sX _ 5 2000000 ge (by
   intro z hz;simp only[kd,jt,kj] at hz;have a:=cG x.vr (by rw[<-hy.vr];exact hy.rv);have e:=hB.zl x hx;have g:=iK x.tx.data.toList;rw[aO7] at g;have m:=tN x.m;rcases hz with rfl|rfl|rfl|rfl|rfl
   ·decide
   ·omega
   ·omega
   ·rw[vN];omega
   ·omega)) hB.ls
 have h6:(d.ps.flatMap lA).length<=5000 * 16000009:=pH lA _ _ _ (λx hx=>by
  obtain⟨y,hy⟩:=oZ h.ps hx;obtain⟨k,hk,af⟩:=n5 hx;have aa:=aHv (ac.ps k hk);rw[af] at aa;have ad:I64 x.nu:=by have h1:=aa.2.1;unfold I64;omega
  have ae:x.st.ps.length<=512:=by
   have h1:=aa.2.2.1;unfold aZ at h1;split at h1
   ·cases h1
   ·split at h1
    ·cases h1
    ·split at h1
     ·cases h1
     ·omega
  have a:=cG x.nu ad;have b:=cG x.ca (by rw[<-hy.ca];exact hy.rca);have e:=hB.zp x hx;have g:=pL x.tx.data.toList;rw[aO7] at g;have s:=nV x.st hy.st.re hy.st.ps.rng ae;have l:=gA x.bd;unfold lA;split
  ·refine io (sX _ 5 2000000 ge (by
    intro z hz;simp only[kd,jt,kj] at hz;rcases hz with rfl|rfl|rfl|rfl|rfl
    ·decide
    ·omega
    ·omega
    ·omega
    ·unfold qxT;rw[vN];omega)) gb
  ·refine sX _ 8 2000000 ge (by
    intro z hz;simp only[kd,jt,kj] at hz;rcases hz with rfl|rfl|rfl|rfl|rfl|rfl|rfl|rfl
    ·decide
    ·omega
    ·omega
    ·omega
    ·omega
    ·omega
    ·unfold wDo;split<;>decide
    ·omega)) hB.ps
 have h7:(lnB [aG0]).length=4:=rfl;unfold lF;simp only[ik];omega
section
theorem aMr (c:UInt8):∀l:List UInt8,((spl c l).map (λx=>x.length+1)).sum=l.length+1
 | []=>rfl
 | x :: r=>by
   have ih:=aMr c r;rw[spl];by_cases h:x=c
   ·rw[gw h,jv,mz,ih];simp only[im,i7];omega
   ·rw[f9 h];cases hl:spl c r with
    | nil=>exact absurd hl (spl_ne c r)
    | cons a t=>rw[hl,jv,mz] at ih;show(((x :: a) :: t).map (λx=>x.length+1)).sum=_;rw[jv,mz,im,im];omega
theorem splS_wt (c:UInt8) (s:BA):Wt (fC c s)=s.size+1:=by
 have h:=aMr c s.data.toList;rw[tQ] at h;unfold Wt fC;rw[List.map_map,<-h];rfl
theorem aMq (s:BA):Wt (Lib.splitB ⟨#[10]⟩ 0 (Lib.countB s ⟨#[10]⟩) s)=s.size+1/\(Lib.splitB ⟨#[10]⟩ 0 (Lib.countB s ⟨#[10]⟩) s).length=Lib.countB s ⟨#[10]⟩+1:=by
 obtain⟨h1,h2⟩:=vV 10 s.size s lr;rw[h1];exact⟨splS_wt 10 s,h2⟩
def zSnC:SnC:=⟨0,0,0,none,0,0,none,0,0,none,0,0,none,0,0,none,0,0,none,0,0⟩
theorem SnRI.begin {N R L n i cap:Nat} {v e t:Int} {aa:Bool} {kp:List (Nat × Obj)} {ls:List BA} {w:World} (hv:I64 v) (he:I64 e) (ht:I64 t) (hn:ls.length=n) (hc:n<=cap) (hw:Wt ls<=4001) (hR:w.heap[R]?=some (snrO (Sl (So L i) n cap) ⟨v,e,t,none,0,0,none,0,0,none,0,0,none,0,0,none,0,0,none,0,0⟩ aa)) (hl:LinesAt w L i ls) (hL:L<w.heap.size) (ab:L≠R) (hk:∀p∈kp,p.1≠R/\p.1≠L/\p.1<w.heap.size/\w.heap[p.1]?=some p.2) (hT:TB3 w N):SnRI (RdK N R L kp 0 10000) R L n aa w:=by
 have h4:n<=4001:=by rw[<-hn];exact io (yN ls) hw
 refine⟨⟨v,e,t,none,0,0,none,0,0,none,0,0,none,0,0,none,0,0,none,0,0⟩,i,cap,ls,hn,hc,hw,by rw[hn];exact hR,hl,⟨(show 0<=0/\0+n<=10000 by omega),⟨v,e,t,[],[],[],[],[],[]⟩,λb=>if b=R then 7 else if b=L then 8 else 9,⟨rfl,hv,rfl,he,rfl,ht,RowAt.nil _ _ _ _ _,RowAt.nil _ _ _ _ _,RowAt.nil _ _ _ _ _,RowAt.nil _ _ _ _ _,RowAt.nil _ _ _ _ _,RowAt.nil _ _ _ _ _,gw rfl,by rw[f9 ab,gw rfl],ltOf hR,hL⟩,?_,λp hp=>?_,hT⟩,hL⟩
 ·have h5:0+n<=5000:=ga
  exact⟨h5,h5,h5,h5,h5,h5,λx h=>gp,λx h=>gp,λx h=>gp,λx h=>gp,λx h=>gp,λx h=>gp⟩
 ·obtain⟨h1,h2,h3,h4⟩:=hk p hp;exact⟨by show(if p.1=R then 7 else if p.1=L then 8 else 9)=(9:Nat);rw[f9 h1,f9 h2],h3,h4⟩
theorem SnK.isSn {N R L:Nat} {col:Nat->Nat} {w:World} {c:SnC} {d:Snp} {n:Nat} (h:SnK N R L col w c d) (hB:SnB n d):IsSn (λb=>N<=b/\b<w.heap.size/\col b<=6) w c d :=
 ⟨h.v,h.rv,h.e,h.re,h.t,h.rt,h.ns.isRow gb (by have:=hB.ns;have:=h.ns.len;show c.nl * 40<=_;omega),h.ar.isRow gb (by have:=hB.ar;have:=h.ar.len;show c.al * 24<=_;omega),h.se.isRow gb (by have:=hB.se;have:=h.se.len;show c.sl * 24<=_;omega),h.qs.isRow gb (by have:=hB.qs;have:=h.qs.len;show c.ql * 48<=_;omega),h.ls.isRow gb (by have:=hB.ls;have:=h.ls.len;show c.ll * 192<=_;omega),h.ps.isRow gb (by have:=hB.ps;have:=h.ps.len;show c.pl * 248<=_;omega)⟩
def DecWP (s:BA) (w:World) (e:Ending) (w':World):Prop :=
 ((∃(c:SnC) (d:Snp),e=.returned (.tuple #[c.w,I6 0])/\IsSn (λb=>w.heap.size<=b/\b<w'.heap.size) w' c d/\SnB 0 d/\jL d=(s,0)) \/
  e=.returned (.tuple #[.agg #[I6 0,I6 0,I6 0,Z0,Z0,Z0,Z0,Z0,Z0],I6 3]))/\BB w w'
theorem ldMid {w:World} {R:Nat} {lp x:Value} {vs:List Value} {t:TypeId} (h:w.heap[R]?=some (.cells (lp :: (vs++[x])).toArray t (0,0))):(loadCellsFrom ⟨R,1,none⟩ 0 vs.length #[]).run prog w=.ok vs.toArray w :=
 qj (P:=prog) w ⟨R,1,none⟩ vs (λq v hv=>by
  rw[yM,aA h (1+q),Nat.add_comm,nf,List.getElem?_cons_succ,List.getElem?_append_left (List.getElem?_eq_some_iff.1 hv).1];exact hv)
section
attribute [-go_sem] loadCellsFrom storeCells
attribute [local go_sem] mG mF mB mA
theorem aFf {tmps:Array Value} {W:World} {N:Nat} {vs:List Value} {v3:Value} (hl:vs.length=9) (h2:tmps.getD 2 undef=.pointer (So N 0)) (h3:tmps.getD 3 undef=v3)
 (hN:W.heap[N]?=some (.cells vs.toArray 30)):(results Tryz.f5 tmps).run prog W=.ok (.tuple #[.agg vs.toArray,v3]) W:=by
 have ac:tmps[2]?.getD undef=.pointer (So N 0):=by simpa using h2
 have ab:tmps[3]?.getD undef=v3:=by simpa using h3
 have aa:=nO (P:=prog) hN;rw[hl] at aa;simp[results,results5,go_sem,ac,ab,aa]
end
end
end Go.Proofs.YtoodnaghjpkjfaaGreatDoor
