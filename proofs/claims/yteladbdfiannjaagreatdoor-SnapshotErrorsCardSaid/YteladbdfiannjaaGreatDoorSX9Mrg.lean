/- A part. -/
import Derived.Test.YteladbdfiannjaaGreatDoorSX5Mrg
import Derived.Lib.AtoiAll
import Derived.Lib.IndexMore
import Derived.Lib.ItoaNum
import Derived.Lib.ItoaMem
import Derived.Lib.AtoiErrMem
namespace Go.Proofs.YteladbdfiannjaaGreatDoor
set_option linter.unusedVariables false
set_option maxRecDepth 100000
set_option maxHeartbeats 64000000
set_option linter.unusedSimpArgs false
section
open Go Go.RowKit
theorem aG (s:ByteArray) (w:World):Calls Tryz.prog 39 #[.string s] w fun e w'=>e=.returned (.bool (aI s))∧w=w':=by
 by_cases h0:s.size=0
 ·have HR:=hid (show aI s=false from kD (by rw[ByteArray.toList_eq];exact List.eq_nil_of_length_eq_zero (by rw[vL];exact h0)))
  have h1:(s.size:Int)<1:=by omega
  clear h0
  go_enter Tryz.func39,Tryz.ntmps39
  go_wp2
  go_ret
  exact⟨retB HR.out.symm,rfl⟩
 by_cases hb:32<s.size
 ·have HR:=hid (mI hb)
  have h1:¬ (s.size:Int)<1:=by omega
  have h2:(32:Int)<(s.size:Int):=by omega
  clear h0 hb
  go_enter Tryz.func39,Tryz.ntmps39
  go_wp2
  go_ret
  exact⟨retB HR.out.symm,rfl⟩
 have h1:¬ (s.size:Int)<1:=by omega
 have h2:¬ (32:Int)<(s.size:Int):=by omega
 have HZ:=hid (show 0<s.size∧s.size≤32 by omega)
 clear h0 hb
 go_enter Tryz.func39,Tryz.ntmps39
 go_wp2
 go_loopw [16] (fun i wr=>∃k:Nat,wr=w∧k≤s.size∧i=.int .i64 k∧(∀j (h:j<k) (hs:j<s.size),nmC s[j].toNat=true)∧(∀h:0<s.size,0<k→97≤s[0].toNat∧s[0].toNat≤122)) (fun i _=>s.size-(intOf i).toNat)
 case atStart=>exact⟨0,rfl,Nat.zero_le _,rfl,fun j h=>absurd h (by omega),fun _ h=>absurd h (by omega)⟩
 case round =>
  obtain⟨k,rfl,hk,rfl,hall,hfst⟩:=hrel
  obtain⟨wl,rfl⟩:∃wl:World,wl=wr:=⟨_,rfl⟩
  have HALL:=hid hall
  have HFST:=hid hfst
  clear hall hfst
  by_cases hlt:k<s.size
  ·have hlt':(k:Int)<(s.size:Int):=by omega
   have hk0:(0:Int)≤(k:Int):=by omega
   obtain⟨c,hc⟩:∃c:Nat,s[k].toNat=c:=⟨_,rfl⟩
   have HC:=hid hc
   have hcases:(97≤c∧c≤122)∨(k=0∧c<97)∨(k=0∧122<c)∨(0<k∧c=95)∨(0<k∧48≤c∧c≤57)∨(0<k∧c<48)∨(0<k∧57<c∧c<97∧c≠95)∨(0<k∧122<c):=by omega
   have HNX:=hid (fun (hn:nmC c=true) (hf:0<k∨(97≤c∧c≤122))=>(show(∀j (h:j<k+1) (hs:j<s.size),nmC s[j].toNat=true)∧(∀h:0<s.size,0<k+1→97≤s[0].toNat∧s[0].toNat≤122) from
    ⟨fun j h hs=>(Nat.lt_succ_iff_lt_or_eq.1 h).elim (fun h=>HALL.out j h hs) (fun h=>by subst h;rw[HC.out];exact hn),fun h _=>by
      rcases Nat.eq_zero_or_pos k with h0 | h0
      ·subst h0;rw[HC.out];omega
      ·exact HFST.out h h0⟩))
   have HBAD:=hid (fun (hn:nmC c=false)=>mJ k hlt (by rw[hc];exact hn))
   have HBAD0:=hid (fun (h:k=0) (hn:c<97∨122<c)=>(show aI s=false from kC (by omega) (by subst h;rw[HC.out];exact hn)))
   go_upto_region 7 with (fail)
   clear hc
   rcases hcases with h | h | h | h | h | h | h | h
   ·have q1:(97:Int)≤(c:Int):=by omega
    have q2:(c:Int)≤122:=by omega
    have HN:=hid (HNX.out (by simp[nmC];omega) (.inr h))
    clear h
    go_wp2
    go_roundw
    case rel=>exact⟨k+1,trivial,hlt,by go_num,HN.out.1,HN.out.2⟩
    case measure=>simp[intOf];omega
   ·have q1:¬ (97:Int)≤(c:Int):=by omega
    have HN:=hid (HBAD0.out h.1 (.inl h.2))
    obtain⟨rfl,_⟩:=h
    go_wp2
    go_ret
    exact⟨retB HN.out.symm,rfl⟩
   ·have q1:(97:Int)≤(c:Int):=by omega
    have q2:¬ (c:Int)≤122:=by omega
    have HN:=hid (HBAD0.out h.1 (.inr h.2))
    obtain⟨rfl,_⟩:=h
    go_wp2
    go_ret
    exact⟨retB HN.out.symm,rfl⟩
   ·have q1:¬ (97:Int)≤(c:Int):=by omega
    have q3:((k:Int)==0)=false:=by simp;omega
    have q4:((c:Int)==95)=true:=by simp;omega
    have n4:((c:Int) != 95)=false:=by simp;omega
    have HN:=hid (HNX.out (by simp[nmC];omega) (.inl h.1))
    clear h
    go_wp2
    go_roundw
    case rel=>exact⟨k+1,trivial,hlt,by go_num,HN.out.1,HN.out.2⟩
    case measure=>simp[intOf];omega
   ·have q1:¬ (97:Int)≤(c:Int):=by omega
    have q3:((k:Int)==0)=false:=by simp;omega
    have q4:((c:Int)==95)=false:=by simp;omega
    have n4:((c:Int) != 95)=true:=by simp;omega
    have q5:¬ (c:Int)<48:=by omega
    have r5:decide ((c:Int)<48)=false:=by simp;omega
    have q6:¬ (57:Int)<(c:Int):=by omega
    have r7:(decide ((c:Int)<48)||decide ((57:Int)<(c:Int)))=false:=by simp;omega
    have r6:decide ((57:Int)<(c:Int))=false:=by simp;omega
    have HN:=hid (HNX.out (by simp[nmC];omega) (.inl h.1))
    clear h
    go_wp2
    go_roundw
    case rel=>exact⟨k+1,trivial,hlt,by go_num,HN.out.1,HN.out.2⟩
    case measure=>simp[intOf];omega
   ·have q1:¬ (97:Int)≤(c:Int):=by omega
    have q3:((k:Int)==0)=false:=by simp;omega
    have q4:((c:Int)==95)=false:=by simp;omega
    have n4:((c:Int) != 95)=true:=by simp;omega
    have q5:(c:Int)<48:=by omega
    have r5:decide ((c:Int)<48)=true:=by simp;omega
    have r7:(decide ((c:Int)<48)||decide ((57:Int)<(c:Int)))=true:=by simp;omega
    have HN:=hid (HBAD.out (by simp[nmC];omega))
    clear h
    go_wp2
    go_ret
    exact⟨retB HN.out.symm,rfl⟩
   ·have q1:¬ (97:Int)≤(c:Int):=by omega
    have q3:((k:Int)==0)=false:=by simp;omega
    have q4:((c:Int)==95)=false:=by simp;omega
    have n4:((c:Int) != 95)=true:=by simp;omega
    have q5:¬ (c:Int)<48:=by omega
    have r5:decide ((c:Int)<48)=false:=by simp;omega
    have q6:(57:Int)<(c:Int):=by omega
    have r7:(decide ((c:Int)<48)||decide ((57:Int)<(c:Int)))=true:=by simp;omega
    have r6:decide ((57:Int)<(c:Int))=true:=by simp;omega
    have HN:=hid (HBAD.out (by simp[nmC];omega))
    clear h
    go_wp2
    go_ret
    exact⟨retB HN.out.symm,rfl⟩
   ·have q1:(97:Int)≤(c:Int):=by omega
    have q2:¬ (c:Int)≤122:=by omega
    have q3:((k:Int)==0)=false:=by simp;omega
    have q4:((c:Int)==95)=false:=by simp;omega
    have n4:((c:Int) != 95)=true:=by simp;omega
    have q5:¬ (c:Int)<48:=by omega
    have r5:decide ((c:Int)<48)=false:=by simp;omega
    have q6:(57:Int)<(c:Int):=by omega
    have r7:(decide ((c:Int)<48)||decide ((57:Int)<(c:Int)))=true:=by simp;omega
    have r6:decide ((57:Int)<(c:Int))=true:=by simp;omega
    have HN:=hid (HBAD.out (by simp[nmC];omega))
    clear h
    go_wp2
    go_ret
    exact⟨retB HN.out.symm,rfl⟩
  ·obtain rfl:k=s.size:=by omega
   have HR:=hid (show aI s=true from lF HZ.out.1 HZ.out.2 (HFST.out HZ.out.1 HZ.out.1).1 (HFST.out HZ.out.1 HZ.out.1).2 (fun j hj=>HALL.out j hj hj))
   go_wp2
   go_ret
   exact⟨retB HR.out.symm,rfl⟩
end
section
open Go
theorem aX (a b:List UInt8):(⟨a.toArray⟩:ByteArray)++⟨b.toArray⟩=⟨(a++b).toArray⟩:=by
 apply ByteArray.ext
 simp[ByteArray.data_append]
theorem cD (a:List UInt8):(⟨a.toArray⟩:ByteArray).size=a.length:=by simp[ByteArray.size]
end
section
open Go Go.RowKit
def aT (n:Nat):ByteArray:=⟨(Lib.decDigits n).toArray⟩
theorem bJ (n:Nat):aF (n:Int)=aT n:=by unfold aF aT;rw[Lib.itoa_nonneg]
theorem oG (n:Nat) (h:(n:Int)≤9223372036854775807):(aT n).size≤21:=by
 have:=Lib.itoa_length_le (n:Int) (by omega) h
 rw[Lib.itoa_nonneg] at this
 exact this
end
section
open Go Go.RowKit
end
section
open Go Go.RowKit Go.Shelf
def IfCell (g:Nat) (w:World):Prop:=∃ev,w.cell? ⟨g,0,none⟩=some ev∧(ev=.nilIface∨∃te pe,ev=.iface te pe)
def NumVars (w:World):Prop:=IfCell 3 w∧IfCell 4 w∧∃m,w.cell? ⟨2,0,none⟩=some (.int .i64 m)
theorem oL {w w':World} {g:Nat} {v:Value} (hb:Below w.heap.size w w') (h:w.cell? ⟨g,0,none⟩=some v):w'.cell? ⟨g,0,none⟩=some v:=by
 have hlt:g<w.heap.size:=by
  rcases Nat.lt_or_ge g w.heap.size with h1 | h1
  ·exact h1
  ·exfalso
   unfold World.cell? at h
   simp only[Array.getElem?_eq_none h1] at h
   cases h
 exact(World.cell?_of_block (w:=w) (a:=⟨g,0,none⟩) (hb.block g hlt)).trans h
theorem IfCell.below {g:Nat} {w w':World} (h:IfCell g w) (hb:Below w.heap.size w w'):IfCell g w':=h.elim fun ev h=>⟨ev,oL hb h.1,h.2⟩
theorem NumVars.below {w w':World} (h:NumVars w) (hb:Below w.heap.size w w'):NumVars w':=⟨h.1.below hb,h.2.1.below hb,h.2.2.elim fun m h=>⟨m,oL hb h⟩⟩
theorem below_drewN (w:World) (n:Nat):Below w.heap.size w (w.drewN n):=⟨rfl,rfl,rfl,Nat.le_refl _,fun _ _=>rfl⟩
theorem aDu (s:ByteArray) (hlim:s.size≤281474976710656) (h1:∀v,Lib.atoiAll s.data.toList≠.ok v) (h2:Lib.atoiAll s.data.toList≠.range) (ev:Value) (w:World) (hv:w.cell? ⟨3,0,none⟩=some ev) (hev:ev=.nilIface∨∃te pe,ev=.iface te pe) :
 Calls Tryz.prog 135 #[.string s] w fun e w'=>∃N,e=.returned (.tuple #[.int .i64 (0),.iface 296 (.pointer (some ⟨N,0,none⟩))])∧w.heap.size≤N∧w'.heap[N]?=some (.cells #[.string ⟨#[65,116,111,105]⟩,.string s,ev] 333 (0,0))∧Below w.heap.size w w':=by
 cases hx:Lib.atoiAll s.data.toList
 ·exact absurd hx (h1 _)
 ·exact Any.strconv_Atoi_syntax Tryz.laysC172 s hlim hx ev w hv hev
 ·exact absurd hx h2
end
end Go.Proofs.YteladbdfiannjaaGreatDoor
