/- A part. -/
import Derived.Test.YteladbdfiannjaaGreatDoorSX32Mrg
import Derived.Test.YteladbdfiannjaaGreatDoorSX39Mrg
namespace Go.Proofs.YteladbdfiannjaaGreatDoor
set_option linter.unusedVariables false
set_option linter.unusedSimpArgs false
open Go Go.RowKit
theorem jO {C D:Type} {K:Kit C D} {S:Nat→Prop} {w:World} {a:Option Addr} {n c:Nat} {l:List D} (h:IsRow K S w a n c l) {x:D} (hx:x∈l):∃y,K.Is S w y x:=by
 obtain⟨k,hk,rfl⟩:=List.getElem_of_mem hx
 obtain⟨b,o,_,_,hs⟩:=h.slot (by have:=h.len;omega)
 obtain⟨y,_,hy⟩:=hs k hk
 exact⟨y,hy⟩
theorem dQ {α β:Type} {n:Nat} {f:α→β} {l:List α} {y:β} (h:y∈bE n f l):∃x∈l,y=f x:=by
 unfold bE at h
 obtain⟨x,hx,rfl⟩:=List.mem_map.1 h
 exact⟨x,List.mem_of_mem_take hx,rfl⟩
theorem dE {α β:Type} (n:Nat) (f:α→β) (l:List α):(bE n f l).length≤n:=by unfold bE;simp;omega
theorem tK (d:Snp):∀s∈(fO d).ns,Sz 2000 s.l:=by
 intro s hs
 obtain⟨s0,_,rfl⟩:=dQ (show s∈bE 4 jY d.ns from hs)
 refine⟨Nat.le_trans (dE 6 nA s0.l) (by decide),fun x hx=>?_⟩
 obtain⟨x0,_,rfl⟩:=dQ (show x∈bE 6 nA s0.l from hx)
 exact⟨Nat.le_trans (dE 4 tT x0.items) (by decide),Nat.le_trans (dE 4 (shV 3) x0.vals) (by decide)⟩
theorem aBq (d:Snp):∀s∈(fO d).ls,s.tx.size≤1000000:=by
 intro s hs
 obtain⟨s0,_,rfl⟩:=dQ (show s∈bE 4 gB d.ls from hs)
 exact Nat.le_trans (aW s0.tx).1 (by decide)
theorem aC3 {S:Nat→Prop} {w:World} {c:StC} {d:Sta} (h:IsSta S w c d) (hz:Sz 2000 d.l):(cE d).length≤704000000100:=by
 unfold cE fQ
 by_cases h1:bB d≠0
 ·rw[if_pos h1];simp
 rw[if_neg h1]
 by_cases h2:iZ d≠0
 ·rw[if_pos h2];simp
 rw[if_neg h2]
 have:=pW hz ⟨⟨h.rn,h.rt⟩,fun x hx=>by obtain⟨y,hy⟩:=jO h.l hx;exact⟨hy.rn,hy.rt⟩⟩ 2000 lr
 rw[pX d 2000 hz.1] at this
 show(wL d).toArray.toList.length≤_
 simpa using this
theorem lV (xs:List ByteArray) (n L:Nat) (hn:xs.length≤n) (h:∀x∈xs,x.size≤L):(lnB xs).length≤n * (L+1)+1 :=
 Nat.le_trans (xQ xs L h) (Nat.add_le_add_right (Nat.mul_le_mul_right _ hn) 1)
theorem mV (l:List UInt8):(⟨l.toArray⟩:ByteArray).size=l.length:=by simp[ByteArray.size]
theorem aDd (s:ByteArray):s.data.toList.length=s.size:=by rw[Array.length_toList];rfl
theorem tN {S:Nat→Prop} {w:World} {c:SnC} (d:Snp) (h:IsSn S w c (fO d)) (hE:snE (fO d)=0):(iS (fO d)).length≤100000000000000:=by
 have h0:(aAl (fO d)).length≤4 * (100+1)+1:=lV _ 4 100 (by simp) (by
  intro x hx
  simp only[List.mem_cons,List.not_mem_nil,or_false] at hx
  have a:=bN (fO d).v (by rw[←h.v];exact h.rv)
  have b:=bN (fO d).e (by rw[←h.e];exact h.re)
  have e:=bN (fO d).t (by rw[←h.t];exact h.rt)
  rcases hx with rfl | rfl | rfl | rfl
  ·decide
  all_goals omega)
 have h1:((fO d).ns.flatMap cE).length≤4 * 704000000100:=Nat.le_trans (dD cE 704000000100 _ (fun x hx=>by obtain⟨y,hy⟩:=jO h.ns hx;exact aC3 hy (tK d x hx))) (Nat.mul_le_mul_right _ (dE 4 jY d.ns))
 have hc:∀(wd:ByteArray) (hw:wd.size≤100) (x:Cnt),I64 x.nu→x.nm.size≤60→(aR wd x).length≤3 * (100+1)+1:=fun wd hw x hx hn=>lV _ 3 100 (by simp) (by
  intro y hy
  simp only[List.mem_cons,List.not_mem_nil,or_false] at hy
  have a:=bN x.nu hx
  rcases hy with rfl | rfl | rfl<;>omega)
 have hcs:∀{a n c l},IsRow cntK S w a n c (bE 4 eH l)→∀x∈bE 4 eH l,I64 x.nu∧x.nm.size≤60:=fun {a n c l} hr x hx=>by
  obtain⟨y,hy⟩:=jO hr hx
  obtain⟨x0,_,rfl⟩:=dQ hx
  exact⟨by rw[←hy.e];exact hy.rn,(aW x0.nm).1⟩
 have h2:((fO d).ar.flatMap (aR dY)).length≤4 * 304:=Nat.le_trans (dD (aR dY) 304 _ (fun x hx=>hc dY (by decide) x (hcs h.ar x hx).1 (hcs h.ar x hx).2)) (Nat.mul_le_mul_right _ (dE 4 eH d.ar))
 have h3:((fO d).se.flatMap (aR cF)).length≤4 * 304:=Nat.le_trans (dD (aR cF) 304 _ (fun x hx=>hc cF (by decide) x (hcs h.se x hx).1 (hcs h.se x hx).2)) (Nat.mul_le_mul_right _ (dE 4 eH d.se))
 have h4:((fO d).qs.flatMap cA).length≤4 * 1006:=Nat.le_trans (dD cA 1006 _ (fun x hx=>by
  obtain⟨y,hy⟩:=jO h.qs hx
  obtain⟨x0,_,rfl⟩:=dQ (show x∈bE 4 gP d.qs from hx)
  refine lV _ 5 200 (by simp) (by
   intro z hz
   simp only[List.mem_cons,List.not_mem_nil,or_false] at hz
   have a:=bN (gP x0).nu (by rw[←hy.e];exact hy.rn)
   have b:=bN (gP x0).vr (by rw[←hy.e];exact hy.rv)
   have e:=(aW x0.nm).1
   have f:=(aW x0.tx).1
   have g:=jS (gP x0).tx.data.toList
   rw[aDd] at g
   have g2:(gP x0).tx.size≤60:=f
   have g3:(gP x0).nm.size≤60:=e
   rcases hz with rfl | rfl | rfl | rfl | rfl
   ·decide
   ·omega
   ·omega
   ·omega
   ·unfold qxT;rw[mV];omega))) (Nat.mul_le_mul_right _ (dE 4 gP d.qs))
 have h5:((fO d).ls.flatMap cC).length≤4 * 550006:=Nat.le_trans (dD cC 550006 _ (fun x hx=>by
  obtain⟨y,hy⟩:=jO h.ls hx
  obtain⟨x0,_,rfl⟩:=dQ (show x∈bE 4 gB d.ls from hx)
  refine lV _ 5 110000 (by simp) (by
   intro z hz
   simp only[List.mem_cons,List.not_mem_nil,or_false] at hz
   have a:=bN (gB x0).vr (by rw[←hy.vr];exact hy.rv)
   have e:(gB x0).nd.size≤60:=(aW x0.nd).1
   have f:(gB x0).tx.size≤60:=(aW x0.tx).1
   have g:=eN (gB x0).tx.data.toList
   rw[aDd] at g
   have m:=mB (gB x0).m
   rcases hz with rfl | rfl | rfl | rfl | rfl
   ·decide
   ·omega
   ·omega
   ·rw[mV];omega
   ·exact m))) (Nat.mul_le_mul_right _ (dE 4 gB d.ls))
 have h6:((fO d).ps.flatMap cY).length≤4 * 524297:=Nat.le_trans (dD cY 524297 _ (fun x hx=>by
  obtain⟨y,hy⟩:=jO h.ps hx
  obtain⟨x0,_,rfl⟩:=dQ (show x∈bE 4 iU d.ps from hx)
  have hnu:I64 (iU x0).nu:=by
   obtain⟨k,hk,hkx⟩:=List.getElem_of_mem hx
   have h1:=(xU ((wN hE).ps k hk)).2.1
   rw[hkx] at h1
   unfold I64;omega
  have a:=bN (iU x0).nu hnu
  have b:=bN (iU x0).ca (by rw[←hy.ca];exact hy.rca)
  have e:(iU x0).nm.size≤60:=(aW x0.nm).1
  have e2:(iU x0).nd.size≤60:=(aW x0.nd).1
  have f:(iU x0).tx.size≤60:=(aW x0.tx).1
  have g:=jS (iU x0).tx.data.toList
  rw[aDd] at g
  have s:=iX (iU x0).st hy.st.re hy.st.ps.rng (by show(x0.st.ps.take 6).length≤512;simp;omega)
  have l:=dT (iU x0).bd
  unfold cY
  split
  ·refine Nat.le_trans (lV _ 5 65536 (by simp) (by
    intro z hz
    simp only[List.mem_cons,List.not_mem_nil,or_false] at hz
    rcases hz with rfl | rfl | rfl | rfl | rfl
    ·decide
    ·omega
    ·omega
    ·omega
    ·unfold qxT;rw[mV];omega)) (by decide)
  ·refine lV _ 8 65536 (by simp) (by
    intro z hz
    simp only[List.mem_cons,List.not_mem_nil,or_false] at hz
    rcases hz with rfl | rfl | rfl | rfl | rfl | rfl | rfl | rfl
    ·decide
    ·omega
    ·omega
    ·omega
    ·omega
    ·omega
    ·unfold wDo;split<;>decide
    ·exact l))) (Nat.mul_le_mul_right _ (dE 4 iU d.ps))
 have h7:(lnB [vW]).length=4:=rfl
 unfold iS
 simp only[List.length_append]
 omega
end Go.Proofs.YteladbdfiannjaaGreatDoor
