/- A part. -/
import Derived.Test.YtoodnaghjpkjfaaGreatDoorSE4Mrg
import Derived.Lib.AtoiAll
import Derived.Lib.IndexMore
import Derived.Lib.ItoaNum
import Derived.Lib.ItoaMem
import Derived.Lib.AtoiErrMem
namespace Go.Proofs.YtoodnaghjpkjfaaGreatDoor
open Tryz
set_option linter.unusedVariables false
set_option maxRecDepth 100000
set_option maxHeartbeats 64000000
set_option linter.unusedSimpArgs false
open Go Go.RowKit Go.Shelf
theorem bD (a b:List UInt8):(⟨a.toArray⟩:BA)++⟨b.toArray⟩=⟨(a++b).toArray⟩:=by
 apply kn;simp[p8]
theorem bE (a:List UInt8):(⟨a.toArray⟩:BA).size=a.length:=by simp[ByteArray.size]
theorem lM (k:Nat) (h:k<10):(UInt8.ofNat (48+k)).toNat=48+k:=by simp[UInt8.toNat_ofNat'];omega
theorem nI (n:Nat):Lib.decDigits n≠[]:=by
 rw[Lib.decDigits];split<;>simp
theorem lX (n:Nat):∀c∈Lib.decDigits n,48<=c.toNat/\c.toNat<=57:=by
 induction n using Nat.strongRecOn with
 | _ n ih =>
   intro c hc;rw[Lib.decDigits] at hc;split at hc
   ·rename_i h;simp only[List.mem_singleton] at hc;subst hc;rw[lM n h];omega
   ·rename_i h;rcases List.mem_append.1 hc with hc|hc
    ·exact ih (n / 10) ga c hc
    ·simp only[List.mem_singleton] at hc;subst hc;rw[lM _ ga];omega
theorem tX (c:UInt8) (hc:48<=c.toNat/\c.toNat<=57):∀(l:List UInt8) (a u:Nat),Lib.parseUint10 a l=.ok u->u * 10+(c.toNat-48)<18446744073709551616->Lib.parseUint10 a (l++[c])=.ok (u * 10+(c.toNat-48))
 | [],a,u,h,hb=>by
   simp only[Lib.parseUint10] at h;injection h with h;subst h;simp only[ji,Lib.parseUint10];rw[gw hc,f9 ga,f9 ga]
 | d :: l,a,u,h,hb=>by
   simp only[jh,Lib.parseUint10] at h ⊢;split at h
   ·rename_i h1;rw[gw h1];split at h
    ·cases h
    ·rename_i h2;rw[f9 h2];split at h
     ·cases h
     ·rename_i h3;rw[f9 h3];exact tX c hc l _ u h hb
   ·cases h
theorem aMf (n:Nat) (h:n<18446744073709551616):Lib.parseUint10 0 (Lib.decDigits n)=.ok n:=by
 induction n using Nat.strongRecOn with
 | _ n ih =>
   rw[Lib.decDigits];split
   ·rename_i h10;simp only[Lib.parseUint10,lM n h10];rw[gw ga,f9 ga,f9 ga];congr 1;omega
   ·rename_i h10;have e:=tX (UInt8.ofNat (48+n % 10)) (by rw[lM _ ga];omega) _ 0 _ (ih (n / 10) ga ga) (by rw[lM _ ga];omega);rw[e,lM _ ga];congr 1;omega
def aHw (s:List UInt8):Int × Bool :=
 match Lib.atoiAll s with
 | .ok v=>(v,decide (Lib.itoa v=s))
 | .range=>(Lib.atoiSat s,false)
 | _=>(0,false)
def aV (n:Nat):BA:=⟨(Lib.decDigits n).toArray⟩
theorem cB (n:Nat):aE (n:Int)=aV n:=by unfold aE aV;rw[Lib.itoa_nonneg]
theorem xV (n:Nat) (h:(n:Int)<=9223372036854775807):(aV n).size<=21:=by
 have:=Lib.itoa_length_le (n:Int) ga h;rw[Lib.itoa_nonneg] at this;exact this
def IfCell (g:Nat) (w:World):Prop:=∃ev,w.cell? ⟨g,0,none⟩=some ev/\(ev=.nilIface\/∃te pe,ev=.iface te pe)
def NumVars (w:World):Prop:=IfCell 1 w/\IfCell 2 w/\∃m,w.cell? ⟨0,0,none⟩=some (I6 m)
theorem qX {w w':World} {g:Nat} {v:Value} (hb:BB w w') (h:w.cell? ⟨g,0,none⟩=some v):w'.cell? ⟨g,0,none⟩=some v:=by
 have aa:g<w.heap.size:=by
  rcases mf g w.heap.size with h1|h1
  ·exact h1
  ·exfalso;unfold World.cell? at h;simp only[ow h1] at h;cases h
 exact(jg (w:=w) (a:=⟨g,0,none⟩) (hb.block g aa)).trans h
theorem IfCell.below {g:Nat} {w w':World} (h:IfCell g w) (hb:BB w w'):IfCell g w':=h.elim λev h=>⟨ev,qX hb h.1,h.2⟩
theorem NumVars.below {w w':World} (h:NumVars w) (hb:BB w w'):NumVars w':=⟨h.1.below hb,h.2.1.below hb,h.2.2.elim λm h=>⟨m,qX hb h⟩⟩
theorem below_drewN (w:World) (n:Nat):BB w (w.drewN n):=⟨rfl,rfl,rfl,gy _,λ_ _=>rfl⟩
theorem aIr (a b:BA):(a.toList==b.toList)=decide (a.data.toList=b.data.toList):=by
 rw[kw,kw,n8];simp
theorem aFr (s:BA) (aa:s.size<=281474976710656) (h1:∀v,Lib.atoiAll s.data.toList≠.ok v) (h2:Lib.atoiAll s.data.toList≠.range) (ev:Value) (w:World) (hv:w.cell? ⟨1,0,none⟩=some ev) (ab:ev=.nilIface\/∃te pe,ev=.iface te pe) :
 CP 45 #[Sv s] w λe w'=>∃N,e=.returned (.tuple #[I6 (0),.iface 211 (Pt N 0)])/\w.heap.size<=N/\w'.heap[N]?=some (.cells #[Sv ⟨#[65,116,111,105]⟩,Sv s,ev] 264 (0,0))/\BB w w':=by
 cases hx:Lib.atoiAll s.data.toList
 ·exact absurd hx (h1 _)
 ·exact Any.strconv_Atoi_syntax Tryz.laysC172 s aa hx ev w hv ab
 ·exact absurd hx h2
theorem pI (s:BA) (k:Nat) (h:k<s.size):s.data.toList.drop k=s[k] :: s.data.toList.drop (k+1):=by
 have h':k<s.data.toList.length:=h;rw[i8 h'];rfl
theorem aS (s:BA) (w:World):CP 78 #[Sv s] w λe w'=>e=.returned (.bool (aH s))/\w=w':=by
 by_cases h0:s.size=0
 ·have HR:=f8 (show aH s=false from qC (by rw[kw];exact kr (by rw[tQ];exact h0)));have h1:(s.size:Int)<1:=ga
  clear h0;go_enter func78,ntmps78
  go_wp2;go_ret;exact⟨retB HR.symm,rfl⟩
 by_cases hb:32<s.size
 ·have HR:=f8 (uH hb);have h1:¬ (s.size:Int)<1:=ga
  have h2:(32:Int)<(s.size:Int):=ga
  clear h0 hb;go_enter func78,ntmps78
  go_wp2;go_ret;exact⟨retB HR.symm,rfl⟩
 have h1:¬ (s.size:Int)<1:=ga
 have h2:¬ (32:Int)<(s.size:Int):=ga
 have HZ:=f8 (show 0<s.size/\s.size<=32 by omega);clear h0 hb;go_enter func78,ntmps78
 go_wp2
 go_loopw [16] (λi wr=>∃k:Nat,wr=w/\k<=s.size/\i=I6 k/\(∀j (h:j<k) (hs:j<s.size),nmC s[j].toNat=true)/\(∀h:0<s.size,0<k->97<=s[0].toNat/\s[0].toNat<=122)) (λi _=>s.size-(intOf i).toNat)
 case atStart=>exact⟨0,rfl,ii _,rfl,λj h=>absurd h ga,λ_ h=>absurd h ga⟩
 case round =>
  obtain⟨k,rfl,hk,rfl,ag,ae⟩:=hrel;obtain⟨wl,rfl⟩:=xe (wr:World)
  obtain⟨af,ad⟩:=h_2 ag ae;clear ag ae;by_cases ah:k<s.size
  ·have aj:(k:Int)<(s.size:Int):=ga
   have ak:(0:Int)<=(k:Int):=ga
   obtain⟨c,hc⟩:∃c:Nat,s[k].toNat=c:=⟨_,rfl⟩
   have HC:=f8 hc;have ac:(97<=c/\c<=122)\/(k=0/\c<97)\/(k=0/\122<c)\/(0<k/\c=95)\/(0<k/\48<=c/\c<=57)\/(0<k/\c<48)\/(0<k/\57<c/\c<97/\c≠95)\/(0<k/\122<c):=ga
   have ai:=f8 (λ(hn:nmC c=true) (hf:0<k\/(97<=c/\c<=122))=>(show(∀j (h:j<k+1) (hs:j<s.size),nmC s[j].toNat=true)/\(∀h:0<s.size,0<k+1->97<=s[0].toNat/\s[0].toNat<=122) from
    ⟨λj h hs=>(Nat.lt_succ_iff_lt_or_eq.1 h).elim (λh=>af.o j h hs) (λh=>by subst h;rw[HC.o];exact hn),λh _=>by
      rcases pi k with h0|h0
      ·subst h0;rw[HC.o];omega
      ·exact ad.o h h0⟩))
   have ab:=f8 (λ(hn:nmC c=false)=>uJ k ah (by rw[hc];exact hn));have aa:=f8 (λ(h:k=0) (hn:c<97\/122<c)=>(show aH s=false from qB ga (by subst h;rw[HC.o];exact hn)));go_upto_region 7 with (fail)
   clear hc;rcases ac with h|h|h|h|h|h|h|h
   ·have q1:(97:Int)<=(c:Int):=ga
    have q2:(c:Int)<=122:=ga
    have HN:=f8 (ai.o (by simp[nmC];omega) (.inr h));clear h;go_wp2
    go_roundw
    case rel=>exact⟨k+1,trivial,ah,by go_num,HN.1,HN.2⟩
    case measure=>simp[intOf];omega
   ·have q1:¬ (97:Int)<=(c:Int):=ga
    have HN:=f8 (aa.o h.1 (.inl h.2));obtain⟨rfl,_⟩:=h;go_wp2;go_ret;exact⟨retB HN.symm,rfl⟩
   ·have q1:(97:Int)<=(c:Int):=ga
    have q2:¬ (c:Int)<=122:=ga
    have HN:=f8 (aa.o h.1 (.inr h.2));obtain⟨rfl,_⟩:=h;go_wp2;go_ret;exact⟨retB HN.symm,rfl⟩
   ·have q1:¬ (97:Int)<=(c:Int):=ga
    have q3:((k:Int)==0)=false:=by simp;omega
    have q4:((c:Int)==95)=true:=by simp;omega
    have n4:((c:Int) != 95)=false:=by simp;omega
    have HN:=f8 (ai.o (by simp[nmC];omega) (.inl h.1));clear h;go_wp2
    go_roundw
    case rel=>exact⟨k+1,trivial,ah,by go_num,HN.1,HN.2⟩
    case measure=>simp[intOf];omega
   ·have q1:¬ (97:Int)<=(c:Int):=ga
    have q3:((k:Int)==0)=false:=by simp;omega
    have q4:((c:Int)==95)=false:=by simp;omega
    have n4:((c:Int) != 95)=true:=by simp;omega
    have q5:¬ (c:Int)<48:=ga
    have r5:decide ((c:Int)<48)=false:=by simp;omega
    have q6:¬ (57:Int)<(c:Int):=ga
    have r7:(decide ((c:Int)<48)||decide ((57:Int)<(c:Int)))=false:=by simp;omega
    have r6:decide ((57:Int)<(c:Int))=false:=by simp;omega
    have HN:=f8 (ai.o (by simp[nmC];omega) (.inl h.1));clear h;go_wp2
    go_roundw
    case rel=>exact⟨k+1,trivial,ah,by go_num,HN.1,HN.2⟩
    case measure=>simp[intOf];omega
   ·have q1:¬ (97:Int)<=(c:Int):=ga
    have q3:((k:Int)==0)=false:=by simp;omega
    have q4:((c:Int)==95)=false:=by simp;omega
    have n4:((c:Int) != 95)=true:=by simp;omega
    have q5:(c:Int)<48:=ga
    have r5:decide ((c:Int)<48)=true:=by simp;omega
    have r7:(decide ((c:Int)<48)||decide ((57:Int)<(c:Int)))=true:=by simp;omega
    have HN:=f8 (ab.o (by simp[nmC];omega));clear h;go_wp2;go_ret;exact⟨retB HN.symm,rfl⟩
   ·have q1:¬ (97:Int)<=(c:Int):=ga
    have q3:((k:Int)==0)=false:=by simp;omega
    have q4:((c:Int)==95)=false:=by simp;omega
    have n4:((c:Int) != 95)=true:=by simp;omega
    have q5:¬ (c:Int)<48:=ga
    have r5:decide ((c:Int)<48)=false:=by simp;omega
    have q6:(57:Int)<(c:Int):=ga
    have r7:(decide ((c:Int)<48)||decide ((57:Int)<(c:Int)))=true:=by simp;omega
    have r6:decide ((57:Int)<(c:Int))=true:=by simp;omega
    have HN:=f8 (ab.o (by simp[nmC];omega));clear h;go_wp2;go_ret;exact⟨retB HN.symm,rfl⟩
   ·have q1:(97:Int)<=(c:Int):=ga
    have q2:¬ (c:Int)<=122:=ga
    have q3:((k:Int)==0)=false:=by simp;omega
    have q4:((c:Int)==95)=false:=by simp;omega
    have n4:((c:Int) != 95)=true:=by simp;omega
    have q5:¬ (c:Int)<48:=ga
    have r5:decide ((c:Int)<48)=false:=by simp;omega
    have q6:(57:Int)<(c:Int):=ga
    have r7:(decide ((c:Int)<48)||decide ((57:Int)<(c:Int)))=true:=by simp;omega
    have r6:decide ((57:Int)<(c:Int))=true:=by simp;omega
    have HN:=f8 (ab.o (by simp[nmC];omega));clear h;go_wp2;go_ret;exact⟨retB HN.symm,rfl⟩
  ·obtain rfl:k=s.size:=ga
   have HR:=f8 (show aH s=true from rX HZ.1 HZ.2 (ad.o HZ.1 HZ.1).1 (ad.o HZ.1 HZ.1).2 (λj hj=>af.o j hj hj));go_wp2;go_ret;exact⟨retB HR.symm,rfl⟩
end Go.Proofs.YtoodnaghjpkjfaaGreatDoor
