/- A part. -/
import Derived.Test.YteladbdfiannjaaGreatDoorSX15Mrg
import Derived.Test.YteladbdfiannjaaGreatDoorSX19Mrg
import Derived.Test.YteladbdfiannjaaGreatDoorSX20Mrg
namespace Go.Proofs.YteladbdfiannjaaGreatDoor
set_option linter.unusedVariables false
set_option maxRecDepth 100000
set_option maxHeartbeats 64000000
set_option linter.unusedSimpArgs false
section
open Go Go.RowKit
def aP {D:Type} (f:Nat→D→Int):Nat→List D→Int
 | _,[]=>0
 | k,d :: r=>if f k d=0 then aP f (k+1) r else f k d
theorem dV {D:Type} {f:Nat→D→Int}:∀{l:List D} {m:Nat} (k:Nat) (h:k<l.length),(∀j (h1:j<l.length),j<k→f (m+j) l[j]=0)→f (m+k) l[k]≠0→aP f m l=f (m+k) l[k]
 | [],_,_,h,_,_=>absurd h (by simp)
 | d :: r,m,0,_,_,hn=>by
   have hn':f m d≠0:=hn
   show(if f m d=0 then aP f (m+1) r else f m d)=f m d
   rw[if_neg hn']
 | d :: r,m,k+1,h,hz,hn=>by
   have h0:f m d=0:=hz 0 (by simp) (by omega)
   have h':k<r.length:=by simpa using h
   show(if f m d=0 then aP f (m+1) r else f m d)=f (m+(k+1)) r[k]
   rw[if_pos h0,dV (m:=m+1) k h' (fun j h1 h2=>by
    have:=hz (j+1) (by simpa using h1) (by omega)
    rw[show m+1+j=m+(j+1) by omega]
    simpa using this) (by
    rw[show m+1+k=m+(k+1) by omega]
    simpa using hn),show m+1+k=m+(k+1) by omega]
theorem cX {D:Type} {f:Nat→D→Int}:∀{l:List D} {m:Nat},(∀j (h1:j<l.length),f (m+j) l[j]=0)→aP f m l=0
 | [],_,_=>rfl
 | d :: r,m,hz=>by
   have h0:f m d=0:=hz 0 (by simp)
   show(if f m d=0 then aP f (m+1) r else f m d)=0
   rw[if_pos h0,cX (m:=m+1) (fun j h1=>by
    have:=hz (j+1) (by simpa using h1)
    rw[show m+1+j=m+(j+1) by omega]
    simpa using this)]
def leS (a b:ByteArray):Bool:=Op.bytesLess a.toList b.toList||a.toList==b.toList
def eG (l:List Cnt) (k:Nat) (c:Cnt):Int:=if aI c.nm=false then 12 else if 0<k∧leS c.nm (l.getD (k-1) c).nm=true then 24 else if inQ c.nu 0 999999999999999=false then 2 else 0
def fP (c:Que):Int:=if aI c.nm=false then 12 else if inQ c.nu 1 999999999999999=false then 2 else if inQ c.vr 1 999=false then 2 else if 65536<c.tx.size then 5 else 0
def kL (c:Let):Int:=if inQ c.vr 1 999=false then 2 else if aI c.nd=false then 12 else if Lib.validD c.tx.data.toList=false then 16 else dB c.m
def zV:Val:=.mk 0 0 0 ⟨#[]⟩ [] [] []
def jC (x:Ef):Bool:=decide (x.rs.e=0)&&(decide (x.rs.ps.length=0)&&(x.sv.toList.isEmpty&&(decide (x.ca=0)&&(!x.un&&dM x.bd))))
def efE (x:Ef):Int :=
 if x.k≠1∧x.k≠2 then 11 else if aI x.nm=false then 12 else if inQ x.nu 1 999999999999999=false then 2 else if aS x.st≠0 then aS x.st
 else if x.k=1 then (if 65536<x.tx.size then 5 else if jC x=false∨x.nd.toList.isEmpty=false then 3 else 0)
 else if x.tx.toList.isEmpty=false∨(x.sv.toList==x.nm.toList)=false∨hU x.rs x.st=false then 3 else if aI x.nd=false then 12 else if inQ x.ca 0 999999999999999=false then 2 else bP x.bd
def snE (x:Snp):Int :=
 if inQ x.v 0 999=false∨inQ x.e 0 1048576=false∨inQ x.t 0 17592186044416=false then 2 else if 128<x.ns.length then 9
 else orL [aP (fun _ s=>bB s) 0 x.ns,aP (eG x.ar) 0 x.ar,aP (eG x.se) 0 x.se,aP (fun _ q=>fP q) 0 x.qs,aP (fun _ s=>kL s) 0 x.ls,aP (fun _ s=>efE s) 0 x.ps]
theorem aDf (d:Val):(dJ d zV==0)=dM d:=by
 obtain⟨k,i,s,t,l,ns,fs⟩:=d
 rw[Bool.eq_iff_iff,beq_iff_eq]
 show dJ _ (.mk 0 0 0 ⟨#[]⟩ [] [] [])=0 ↔ dC k i s t l.length fs.length=true
 unfold dC
 rw[dJ]
 simp only[aC8,Bool.and_eq_true,beq_iff_eq]
 constructor
 ·rintro⟨h1,h2,h3,h4,h5,h6,_⟩
  refine⟨jG h1,jG h2,jG h3,?_,?_,?_⟩
  ·have:=qQ h4
   rw[ByteArray.toList_eq,this];rfl
  ·cases l with
   | nil=>rfl
   | cons a r=>rw[fL] at h5;cases h5
  ·cases fs with
   | nil=>rfl
   | cons a r=>rw[fM] at h6;cases h6
 ·rintro⟨rfl,rfl,rfl,h4,h5,h6⟩
  have h5':l=[]:=List.eq_nil_of_length_eq_zero (by omega)
  have h6':fs=[]:=List.eq_nil_of_length_eq_zero (by omega)
  subst h5' h6'
  have ht:t.data.toList=[]:=by rw[ByteArray.toList_eq] at h4;simpa using h4
  refine⟨gV 0,gV 0,gV 0,?_,by rw[fL],by rw[fM],rfl⟩
  rw[ht]
  exact qR []
def nB (a b:Ef):Bool:=hU a.rs b.rs&&((a.sv.toList==b.sv.toList)&&(decide (a.ca=b.ca)&&((a.un==b.un)&&(dJ a.bd b.bd==0))))
end
section
open Go Go.RowKit Go.Shelf
theorem rY (F:Nat) (hen:∀args w,(callFunc F args).run Tryz.prog w=.ok (.enter F args) w) (f:Nat→Sta→Int) (a:Option Addr) (n c:Nat) (l:List Sta) (w:World) (hd:IsRow staK (· < w.heap.size) w a n c l)
 (HF:∀(k:Nat) (h:k<l.length) (x:StC) (w':World),Below w.heap.size w w'→staK.Is (· < w'.heap.size) w' x l[k]→Calls Tryz.prog F #[.int .i64 k,.agg #[.int .i64 x.n,.int .i64 x.t,.slice x.a x.l x.c]] w' fun e w2=>e=.returned (.int .i64 (f k l[k]))∧Below w'.heap.size w' w2) :
 Calls Tryz.prog 29 #[.slice a n c,.func (.func F) #[] #[]] w fun e w'=>e=.returned (.int .i64 (aP f 0 l))∧Below w.heap.size w w':=by
 have hbig:=hd.big
 have HL:=hid hd.len
 have HD:=hid hd
 have HFF:=hid HF
 clear hd HF
 go_enter Tryz.func29,Tryz.ntmps29
 go_wp2
 go_loopw [10] (fun i wr=>∃k:Nat,k≤n∧i=.int .i64 k∧(∀j (h1:j<l.length),j<k→f j l[j]=0)∧Below w.heap.size w wr) (fun i _=>n-(intOf i).toNat)
 case atStart=>exact⟨0,Nat.zero_le _,rfl,fun j _ h=>absurd h (Nat.not_lt_zero j),Below.refl _ _⟩
 case round =>
  obtain⟨k,hk,rfl,hall,hbr⟩:=hrel
  have HA:=hid hall
  clear hall
  obtain⟨wp,rfl⟩:∃w1:World,w1=wr:=⟨_,rfl⟩
  have HBR:=hid hbr
  have hn63:(n:Int)≤9223372036854775807:=by omega
  by_cases hlt:k<n
  ·have hkl:k<l.length:=by have:=HL.out;omega
   obtain⟨b,o,rfl,hb,hx⟩:=HD.out.slot (show 0<n by omega)
   obtain⟨x,hxa,hxi⟩:=hx k hkl
   clear hx
   obtain⟨x0,x1,x2⟩:=AtG.sta (hxa.same (hbr.block b hb))
   have hlt':(k:Int)<(n:Int):=by omega
   have hk0:(0:Int)≤(k:Int):=by omega
   obtain⟨u,hu⟩:∃u,u=f k l[k]:=⟨_,rfl⟩
   have hba:Below w.heap.size w (wp.alloc (.cells #[.int .i64 x.n,.int .i64 x.t,.slice x.a x.l x.c] 55)):=hbr.alloc hbr.size _
   have HC:Hid (Calls Tryz.prog F #[.int .i64 k,.agg #[.int .i64 x.n,.int .i64 x.t,.slice x.a x.l x.c]] (wp.alloc (.cells #[.int .i64 x.n,.int .i64 x.t,.slice x.a x.l x.c] 55)) fun e w'=>e=.returned (.int .i64 u)∧Below (wp.alloc (.cells #[.int .i64 x.n,.int .i64 x.t,.slice x.a x.l x.c] 55)).heap.size (wp.alloc (.cells #[.int .i64 x.n,.int .i64 x.t,.slice x.a x.l x.c] 55)) w'):=hid (by
    rw[hu]
    have hs:=hba.size
    exact HFF.out k hkl x (wp.alloc (.cells #[.int .i64 x.n,.int .i64 x.t,.slice x.a x.l x.c] 55)) hba (staK.same (fun b q=>⟨by omega,hba.block b q⟩) hxi))
   have HBA:=hid hba
   have HU:=hid hu
   clear hu hba hxa hxi hbr hb
   by_cases hz:u=0
   ·subst hz
    go_wp2_with (go_at_fn F;refine HC.out.mono ?_;rintro e w3 ⟨rfl,hb3⟩)
    go_roundw
    case rel=>exact⟨k+1,by omega,by go_num,fun j h1 h=>by
     by_cases hjk:j<k
     ·exact HA.out j h1 hjk
     ·obtain rfl:j=k:=by omega
      exact HU.out.symm,HBA.out.trans (hb3.mono HBA.out.size)⟩
    case measure=>simp[intOf];omega
   ·have hz1:(u==0)=false:=by simp[hz]
    have HZ:=hid hz
    clear hz
    go_wp2_with (go_at_fn F;refine HC.out.mono ?_;rintro e w3 ⟨rfl,hb3⟩)
    go_ret
    exact⟨retI (by
     rw[HU.out]
     have h0:=dV (f:=f) (m:=0) k hkl (fun j h1 h2=>by rw[Nat.zero_add];exact HA.out j h1 h2) (by rw[Nat.zero_add,←HU.out];exact HZ.out)
     rw[Nat.zero_add] at h0
     exact h0.symm),HBA.out.trans (hb3.mono HBA.out.size)⟩
  ·obtain rfl:k=n:=by omega
   have r:=hid (cX (f:=f) (m:=0) (l:=l) fun j h1=>by rw[Nat.zero_add];exact HA.out j h1 (by have:=HL.out;omega))
   go_wp2
   go_ret
   exact⟨retI r.out.symm,HBR.out⟩
theorem sC (F:Nat) (hen:∀args w,(callFunc F args).run Tryz.prog w=.ok (.enter F args) w) (lb:Nat) (f:Nat→Cnt→Int) (a:Option Addr) (n c:Nat) (l:List Cnt) (w:World) (hd:IsRow cntK (· < w.heap.size) w a n c l)
 (HF:∀(k:Nat) (h:k<l.length) (x:Cnt) (w':World),Below w.heap.size w w'→cntK.Is (· < w'.heap.size) w' x l[k]→Calls Tryz.prog F #[.int .i64 k,.agg #[.string x.nm,.int .i64 x.nu],.pointer (some ⟨lb,0,none⟩)] w' fun e w2=>e=.returned (.int .i64 (f k l[k]))∧Below w'.heap.size w' w2) :
 Calls Tryz.prog 108 #[.slice a n c,.func (.func F) #[] #[.pointer (some ⟨lb,0,none⟩)]] w fun e w'=>e=.returned (.int .i64 (aP f 0 l))∧Below w.heap.size w w':=by
 have hbig:=hd.big
 have HL:=hid hd.len
 have HD:=hid hd
 have HFF:=hid HF
 clear hd HF
 go_enter Tryz.func108,Tryz.ntmps108
 go_wp2
 go_loopw [10] (fun i wr=>∃k:Nat,k≤n∧i=.int .i64 k∧(∀j (h1:j<l.length),j<k→f j l[j]=0)∧Below w.heap.size w wr) (fun i _=>n-(intOf i).toNat)
 case atStart=>exact⟨0,Nat.zero_le _,rfl,fun j _ h=>absurd h (Nat.not_lt_zero j),Below.refl _ _⟩
 case round =>
  obtain⟨k,hk,rfl,hall,hbr⟩:=hrel
  have HA:=hid hall
  clear hall
  obtain⟨wp,rfl⟩:∃w1:World,w1=wr:=⟨_,rfl⟩
  have HBR:=hid hbr
  have hn63:(n:Int)≤9223372036854775807:=by omega
  by_cases hlt:k<n
  ·have hkl:k<l.length:=by have:=HL.out;omega
   obtain⟨b,o,rfl,hb,hx⟩:=HD.out.slot (show 0<n by omega)
   obtain⟨x,hxa,hxi⟩:=hx k hkl
   clear hx
   obtain⟨x0,x1⟩:=AtG.cnt (hxa.same (hbr.block b hb))
   have hlt':(k:Int)<(n:Int):=by omega
   have hk0:(0:Int)≤(k:Int):=by omega
   obtain⟨u,hu⟩:∃u,u=f k l[k]:=⟨_,rfl⟩
   have hba:Below w.heap.size w (wp.alloc (.cells #[.string x.nm,.int .i64 x.nu] 58)):=hbr.alloc hbr.size _
   have HC:Hid (Calls Tryz.prog F #[.int .i64 k,.agg #[.string x.nm,.int .i64 x.nu],.pointer (some ⟨lb,0,none⟩)] (wp.alloc (.cells #[.string x.nm,.int .i64 x.nu] 58)) fun e w'=>e=.returned (.int .i64 u)∧Below (wp.alloc (.cells #[.string x.nm,.int .i64 x.nu] 58)).heap.size (wp.alloc (.cells #[.string x.nm,.int .i64 x.nu] 58)) w'):=hid (by
    rw[hu]
    have hs:=hba.size
    exact HFF.out k hkl x (wp.alloc (.cells #[.string x.nm,.int .i64 x.nu] 58)) hba (cntK.same (fun b q=>⟨by omega,hba.block b q⟩) hxi))
   have HBA:=hid hba
   have HU:=hid hu
   clear hu hba hxa hxi hbr hb
   by_cases hz:u=0
   ·subst hz
    go_wp2_with (go_at_fn F;refine HC.out.mono ?_;rintro e w3 ⟨rfl,hb3⟩)
    go_roundw
    case rel=>exact⟨k+1,by omega,by go_num,fun j h1 h=>by
     by_cases hjk:j<k
     ·exact HA.out j h1 hjk
     ·obtain rfl:j=k:=by omega
      exact HU.out.symm,HBA.out.trans (hb3.mono HBA.out.size)⟩
    case measure=>simp[intOf];omega
   ·have hz1:(u==0)=false:=by simp[hz]
    have HZ:=hid hz
    clear hz
    go_wp2_with (go_at_fn F;refine HC.out.mono ?_;rintro e w3 ⟨rfl,hb3⟩)
    go_ret
    exact⟨retI (by
     rw[HU.out]
     have h0:=dV (f:=f) (m:=0) k hkl (fun j h1 h2=>by rw[Nat.zero_add];exact HA.out j h1 h2) (by rw[Nat.zero_add,←HU.out];exact HZ.out)
     rw[Nat.zero_add] at h0
     exact h0.symm),HBA.out.trans (hb3.mono HBA.out.size)⟩
  ·obtain rfl:k=n:=by omega
   have r:=hid (cX (f:=f) (m:=0) (l:=l) fun j h1=>by rw[Nat.zero_add];exact HA.out j h1 (by have:=HL.out;omega))
   go_wp2
   go_ret
   exact⟨retI r.out.symm,HBR.out⟩
theorem rZ (F:Nat) (hen:∀args w,(callFunc F args).run Tryz.prog w=.ok (.enter F args) w) (f:Nat→Que→Int) (a:Option Addr) (n c:Nat) (l:List Que) (w:World) (hd:IsRow queK (· < w.heap.size) w a n c l)
 (HF:∀(k:Nat) (h:k<l.length) (x:Que) (w':World),Below w.heap.size w w'→queK.Is (· < w'.heap.size) w' x l[k]→Calls Tryz.prog F #[.int .i64 k,.agg #[.string x.nm,.int .i64 x.nu,.int .i64 x.vr,.string x.tx]] w' fun e w2=>e=.returned (.int .i64 (f k l[k]))∧Below w'.heap.size w' w2) :
 Calls Tryz.prog 31 #[.slice a n c,.func (.func F) #[] #[]] w fun e w'=>e=.returned (.int .i64 (aP f 0 l))∧Below w.heap.size w w':=by
 have hbig:=hd.big
 have HL:=hid hd.len
 have HD:=hid hd
 have HFF:=hid HF
 clear hd HF
 go_enter Tryz.func31,Tryz.ntmps31
 go_wp2
 go_loopw [10] (fun i wr=>∃k:Nat,k≤n∧i=.int .i64 k∧(∀j (h1:j<l.length),j<k→f j l[j]=0)∧Below w.heap.size w wr) (fun i _=>n-(intOf i).toNat)
 case atStart=>exact⟨0,Nat.zero_le _,rfl,fun j _ h=>absurd h (Nat.not_lt_zero j),Below.refl _ _⟩
 case round =>
  obtain⟨k,hk,rfl,hall,hbr⟩:=hrel
  have HA:=hid hall
  clear hall
  obtain⟨wp,rfl⟩:∃w1:World,w1=wr:=⟨_,rfl⟩
  have HBR:=hid hbr
  have hn63:(n:Int)≤9223372036854775807:=by omega
  by_cases hlt:k<n
  ·have hkl:k<l.length:=by have:=HL.out;omega
   obtain⟨b,o,rfl,hb,hx⟩:=HD.out.slot (show 0<n by omega)
   obtain⟨x,hxa,hxi⟩:=hx k hkl
   clear hx
   obtain⟨x0,x1,x2,x3⟩:=AtG.que (hxa.same (hbr.block b hb))
   have hlt':(k:Int)<(n:Int):=by omega
   have hk0:(0:Int)≤(k:Int):=by omega
   obtain⟨u,hu⟩:∃u,u=f k l[k]:=⟨_,rfl⟩
   have hba:Below w.heap.size w (wp.alloc (.cells #[.string x.nm,.int .i64 x.nu,.int .i64 x.vr,.string x.tx] 60)):=hbr.alloc hbr.size _
   have HC:Hid (Calls Tryz.prog F #[.int .i64 k,.agg #[.string x.nm,.int .i64 x.nu,.int .i64 x.vr,.string x.tx]] (wp.alloc (.cells #[.string x.nm,.int .i64 x.nu,.int .i64 x.vr,.string x.tx] 60)) fun e w'=>e=.returned (.int .i64 u)∧Below (wp.alloc (.cells #[.string x.nm,.int .i64 x.nu,.int .i64 x.vr,.string x.tx] 60)).heap.size (wp.alloc (.cells #[.string x.nm,.int .i64 x.nu,.int .i64 x.vr,.string x.tx] 60)) w'):=hid (by
    rw[hu]
    have hs:=hba.size
    exact HFF.out k hkl x (wp.alloc (.cells #[.string x.nm,.int .i64 x.nu,.int .i64 x.vr,.string x.tx] 60)) hba (queK.same (fun b q=>⟨by omega,hba.block b q⟩) hxi))
   have HBA:=hid hba
   have HU:=hid hu
   clear hu hba hxa hxi hbr hb
   by_cases hz:u=0
   ·subst hz
    go_wp2_with (go_at_fn F;refine HC.out.mono ?_;rintro e w3 ⟨rfl,hb3⟩)
    go_roundw
    case rel=>exact⟨k+1,by omega,by go_num,fun j h1 h=>by
     by_cases hjk:j<k
     ·exact HA.out j h1 hjk
     ·obtain rfl:j=k:=by omega
      exact HU.out.symm,HBA.out.trans (hb3.mono HBA.out.size)⟩
    case measure=>simp[intOf];omega
   ·have hz1:(u==0)=false:=by simp[hz]
    have HZ:=hid hz
    clear hz
    go_wp2_with (go_at_fn F;refine HC.out.mono ?_;rintro e w3 ⟨rfl,hb3⟩)
    go_ret
    exact⟨retI (by
     rw[HU.out]
     have h0:=dV (f:=f) (m:=0) k hkl (fun j h1 h2=>by rw[Nat.zero_add];exact HA.out j h1 h2) (by rw[Nat.zero_add,←HU.out];exact HZ.out)
     rw[Nat.zero_add] at h0
     exact h0.symm),HBA.out.trans (hb3.mono HBA.out.size)⟩
  ·obtain rfl:k=n:=by omega
   have r:=hid (cX (f:=f) (m:=0) (l:=l) fun j h1=>by rw[Nat.zero_add];exact HA.out j h1 (by have:=HL.out;omega))
   go_wp2
   go_ret
   exact⟨retI r.out.symm,HBR.out⟩
theorem sA (F:Nat) (hen:∀args w,(callFunc F args).run Tryz.prog w=.ok (.enter F args) w) (f:Nat→Let→Int) (a:Option Addr) (n c:Nat) (l:List Let) (w:World) (hd:IsRow letK (· < w.heap.size) w a n c l)
 (HF:∀(k:Nat) (h:k<l.length) (x:LetC) (w':World),Below w.heap.size w w'→letK.Is (· < w'.heap.size) w' x l[k]→Calls Tryz.prog F #[.int .i64 k,.agg #[.int .i64 x.m.st.e,.slice x.m.st.a x.m.st.n x.m.st.c,.int .i64 x.m.m,.slice x.m.a x.m.n x.m.c,.int .i64 x.m.b.k,.int .i64 x.m.b.i,.int .i64 x.m.b.s,.string x.m.b.t,.slice x.m.b.la x.m.b.ll x.m.b.lc,.slice x.m.b.fa x.m.b.fl x.m.b.fc,.string x.nd,.string x.tx,.int .i64 x.vr]] w' fun e w2=>e=.returned (.int .i64 (f k l[k]))∧Below w'.heap.size w' w2) :
 Calls Tryz.prog 33 #[.slice a n c,.func (.func F) #[] #[]] w fun e w'=>e=.returned (.int .i64 (aP f 0 l))∧Below w.heap.size w w':=by
 have hbig:=hd.big
 have HL:=hid hd.len
 have HD:=hid hd
 have HFF:=hid HF
 clear hd HF
 go_enter Tryz.func33,Tryz.ntmps33
 go_wp2
 go_loopw [10] (fun i wr=>∃k:Nat,k≤n∧i=.int .i64 k∧(∀j (h1:j<l.length),j<k→f j l[j]=0)∧Below w.heap.size w wr) (fun i _=>n-(intOf i).toNat)
 case atStart=>exact⟨0,Nat.zero_le _,rfl,fun j _ h=>absurd h (Nat.not_lt_zero j),Below.refl _ _⟩
 case round =>
  obtain⟨k,hk,rfl,hall,hbr⟩:=hrel
  have HA:=hid hall
  clear hall
  obtain⟨wp,rfl⟩:∃w1:World,w1=wr:=⟨_,rfl⟩
  have HBR:=hid hbr
  have hn63:(n:Int)≤9223372036854775807:=by omega
  by_cases hlt:k<n
  ·have hkl:k<l.length:=by have:=HL.out;omega
   obtain⟨b,o,rfl,hb,hx⟩:=HD.out.slot (show 0<n by omega)
   obtain⟨x,hxa,hxi⟩:=hx k hkl
   clear hx
   obtain⟨x0,x1,x2,x3,x4,x5,x6,x7,x8,x9,x10,x11,x12⟩:=AtG.let' (hxa.same (hbr.block b hb))
   have hlt':(k:Int)<(n:Int):=by omega
   have hk0:(0:Int)≤(k:Int):=by omega
   obtain⟨u,hu⟩:∃u,u=f k l[k]:=⟨_,rfl⟩
   have hba:Below w.heap.size w (wp.alloc (.cells #[.int .i64 x.m.st.e,.slice x.m.st.a x.m.st.n x.m.st.c,.int .i64 x.m.m,.slice x.m.a x.m.n x.m.c,.int .i64 x.m.b.k,.int .i64 x.m.b.i,.int .i64 x.m.b.s,.string x.m.b.t,.slice x.m.b.la x.m.b.ll x.m.b.lc,.slice x.m.b.fa x.m.b.fl x.m.b.fc,.string x.nd,.string x.tx,.int .i64 x.vr] 70)):=hbr.alloc hbr.size _
   have HC:Hid (Calls Tryz.prog F #[.int .i64 k,.agg #[.int .i64 x.m.st.e,.slice x.m.st.a x.m.st.n x.m.st.c,.int .i64 x.m.m,.slice x.m.a x.m.n x.m.c,.int .i64 x.m.b.k,.int .i64 x.m.b.i,.int .i64 x.m.b.s,.string x.m.b.t,.slice x.m.b.la x.m.b.ll x.m.b.lc,.slice x.m.b.fa x.m.b.fl x.m.b.fc,.string x.nd,.string x.tx,.int .i64 x.vr]] (wp.alloc (.cells #[.int .i64 x.m.st.e,.slice x.m.st.a x.m.st.n x.m.st.c,.int .i64 x.m.m,.slice x.m.a x.m.n x.m.c,.int .i64 x.m.b.k,.int .i64 x.m.b.i,.int .i64 x.m.b.s,.string x.m.b.t,.slice x.m.b.la x.m.b.ll x.m.b.lc,.slice x.m.b.fa x.m.b.fl x.m.b.fc,.string x.nd,.string x.tx,.int .i64 x.vr] 70)) fun e w'=>e=.returned (.int .i64 u)∧Below (wp.alloc (.cells #[.int .i64 x.m.st.e,.slice x.m.st.a x.m.st.n x.m.st.c,.int .i64 x.m.m,.slice x.m.a x.m.n x.m.c,.int .i64 x.m.b.k,.int .i64 x.m.b.i,.int .i64 x.m.b.s,.string x.m.b.t,.slice x.m.b.la x.m.b.ll x.m.b.lc,.slice x.m.b.fa x.m.b.fl x.m.b.fc,.string x.nd,.string x.tx,.int .i64 x.vr] 70)).heap.size (wp.alloc (.cells #[.int .i64 x.m.st.e,.slice x.m.st.a x.m.st.n x.m.st.c,.int .i64 x.m.m,.slice x.m.a x.m.n x.m.c,.int .i64 x.m.b.k,.int .i64 x.m.b.i,.int .i64 x.m.b.s,.string x.m.b.t,.slice x.m.b.la x.m.b.ll x.m.b.lc,.slice x.m.b.fa x.m.b.fl x.m.b.fc,.string x.nd,.string x.tx,.int .i64 x.vr] 70)) w'):=hid (by
    rw[hu]
    have hs:=hba.size
    exact HFF.out k hkl x (wp.alloc (.cells #[.int .i64 x.m.st.e,.slice x.m.st.a x.m.st.n x.m.st.c,.int .i64 x.m.m,.slice x.m.a x.m.n x.m.c,.int .i64 x.m.b.k,.int .i64 x.m.b.i,.int .i64 x.m.b.s,.string x.m.b.t,.slice x.m.b.la x.m.b.ll x.m.b.lc,.slice x.m.b.fa x.m.b.fl x.m.b.fc,.string x.nd,.string x.tx,.int .i64 x.vr] 70)) hba (letK.same (fun b q=>⟨by omega,hba.block b q⟩) hxi))
   have HBA:=hid hba
   have HU:=hid hu
   clear hu hba hxa hxi hbr hb
   by_cases hz:u=0
   ·subst hz
    go_wp2_with (go_at_fn F;refine HC.out.mono ?_;rintro e w3 ⟨rfl,hb3⟩)
    go_roundw
    case rel=>exact⟨k+1,by omega,by go_num,fun j h1 h=>by
     by_cases hjk:j<k
     ·exact HA.out j h1 hjk
     ·obtain rfl:j=k:=by omega
      exact HU.out.symm,HBA.out.trans (hb3.mono HBA.out.size)⟩
    case measure=>simp[intOf];omega
   ·have hz1:(u==0)=false:=by simp[hz]
    have HZ:=hid hz
    clear hz
    go_wp2_with (go_at_fn F;refine HC.out.mono ?_;rintro e w3 ⟨rfl,hb3⟩)
    go_ret
    exact⟨retI (by
     rw[HU.out]
     have h0:=dV (f:=f) (m:=0) k hkl (fun j h1 h2=>by rw[Nat.zero_add];exact HA.out j h1 h2) (by rw[Nat.zero_add,←HU.out];exact HZ.out)
     rw[Nat.zero_add] at h0
     exact h0.symm),HBA.out.trans (hb3.mono HBA.out.size)⟩
  ·obtain rfl:k=n:=by omega
   have r:=hid (cX (f:=f) (m:=0) (l:=l) fun j h1=>by rw[Nat.zero_add];exact HA.out j h1 (by have:=HL.out;omega))
   go_wp2
   go_ret
   exact⟨retI r.out.symm,HBR.out⟩
section
attribute [-go_sem] loadCellsFrom storeCells
attribute [local go_sem] aAf aAe aAd aAc aAb aAa aA9 aA8 zI zH
theorem sB (F:Nat) (hen:∀args w,(callFunc F args).run Tryz.prog w=.ok (.enter F args) w) (f:Nat→Ef→Int) (a:Option Addr) (n c:Nat) (l:List Ef) (w:World) (hd:IsRow efK (· < w.heap.size) w a n c l)
 (HF:∀(k:Nat) (h:k<l.length) (x:EfC) (w':World),Below w.heap.size w w'→efK.Is (· < w'.heap.size) w' x l[k]→Calls Tryz.prog F #[.int .i64 k,.agg #[.int .i64 x.k,.string x.nm,.int .i64 x.nu,.string x.tx,.int .i64 x.st.e,.slice x.st.a x.st.n x.st.c,.int .i64 x.rs.e,.slice x.rs.a x.rs.n x.rs.c,.string x.sv,.int .i64 x.ca,.bool x.un,.int .i64 x.bd.k,.int .i64 x.bd.i,.int .i64 x.bd.s,.string x.bd.t,.slice x.bd.la x.bd.ll x.bd.lc,.slice x.bd.fa x.bd.fl x.bd.fc,.string x.nd]] w' fun e w2=>e=.returned (.int .i64 (f k l[k]))∧Below w'.heap.size w' w2) :
 Calls Tryz.prog 35 #[.slice a n c,.func (.func F) #[] #[]] w fun e w'=>e=.returned (.int .i64 (aP f 0 l))∧Below w.heap.size w w':=by
 have hbig:=hd.big
 have HL:=hid hd.len
 have HD:=hid hd
 have HFF:=hid HF
 clear hd HF
 go_enter Tryz.func35,Tryz.ntmps35
 go_wp2
 go_loopw [10] (fun i wr=>∃k:Nat,k≤n∧i=.int .i64 k∧(∀j (h1:j<l.length),j<k→f j l[j]=0)∧Below w.heap.size w wr) (fun i _=>n-(intOf i).toNat)
 case atStart=>exact⟨0,Nat.zero_le _,rfl,fun j _ h=>absurd h (Nat.not_lt_zero j),Below.refl _ _⟩
 case round =>
  obtain⟨k,hk,rfl,hall,hbr⟩:=hrel
  have HA:=hid hall
  clear hall
  obtain⟨wp,rfl⟩:∃w1:World,w1=wr:=⟨_,rfl⟩
  have HBR:=hid hbr
  have hn63:(n:Int)≤9223372036854775807:=by omega
  by_cases hlt:k<n
  ·have hkl:k<l.length:=by have:=HL.out;omega
   obtain⟨b,o,rfl,hb,hx⟩:=HD.out.slot (show 0<n by omega)
   obtain⟨x,hxa,hxi⟩:=hx k hkl
   clear hx
   have hld:=qG (o:=o+k * 18) (hxa.same (hbr.block b hb))
   have hst:=fun z hz=>yS wp z hz x
   have hln:=aCq wp x
   dsimp only[EfC.cs] at hld hst hln
   have hlt':(k:Int)<(n:Int):=by omega
   have hk0:(0:Int)≤(k:Int):=by omega
   obtain⟨u,hu⟩:∃u,u=f k l[k]:=⟨_,rfl⟩
   have hba:Below w.heap.size w (wp.alloc (.cells #[.int .i64 x.k,.string x.nm,.int .i64 x.nu,.string x.tx,.int .i64 x.st.e,.slice x.st.a x.st.n x.st.c,.int .i64 x.rs.e,.slice x.rs.a x.rs.n x.rs.c,.string x.sv,.int .i64 x.ca,.bool x.un,.int .i64 x.bd.k,.int .i64 x.bd.i,.int .i64 x.bd.s,.string x.bd.t,.slice x.bd.la x.bd.ll x.bd.lc,.slice x.bd.fa x.bd.fl x.bd.fc,.string x.nd] 75)):=hbr.alloc hbr.size _
   have HC:Hid (Calls Tryz.prog F #[.int .i64 k,.agg #[.int .i64 x.k,.string x.nm,.int .i64 x.nu,.string x.tx,.int .i64 x.st.e,.slice x.st.a x.st.n x.st.c,.int .i64 x.rs.e,.slice x.rs.a x.rs.n x.rs.c,.string x.sv,.int .i64 x.ca,.bool x.un,.int .i64 x.bd.k,.int .i64 x.bd.i,.int .i64 x.bd.s,.string x.bd.t,.slice x.bd.la x.bd.ll x.bd.lc,.slice x.bd.fa x.bd.fl x.bd.fc,.string x.nd]] (wp.alloc (.cells #[.int .i64 x.k,.string x.nm,.int .i64 x.nu,.string x.tx,.int .i64 x.st.e,.slice x.st.a x.st.n x.st.c,.int .i64 x.rs.e,.slice x.rs.a x.rs.n x.rs.c,.string x.sv,.int .i64 x.ca,.bool x.un,.int .i64 x.bd.k,.int .i64 x.bd.i,.int .i64 x.bd.s,.string x.bd.t,.slice x.bd.la x.bd.ll x.bd.lc,.slice x.bd.fa x.bd.fl x.bd.fc,.string x.nd] 75)) fun e w'=>e=.returned (.int .i64 u)∧Below (wp.alloc (.cells #[.int .i64 x.k,.string x.nm,.int .i64 x.nu,.string x.tx,.int .i64 x.st.e,.slice x.st.a x.st.n x.st.c,.int .i64 x.rs.e,.slice x.rs.a x.rs.n x.rs.c,.string x.sv,.int .i64 x.ca,.bool x.un,.int .i64 x.bd.k,.int .i64 x.bd.i,.int .i64 x.bd.s,.string x.bd.t,.slice x.bd.la x.bd.ll x.bd.lc,.slice x.bd.fa x.bd.fl x.bd.fc,.string x.nd] 75)).heap.size (wp.alloc (.cells #[.int .i64 x.k,.string x.nm,.int .i64 x.nu,.string x.tx,.int .i64 x.st.e,.slice x.st.a x.st.n x.st.c,.int .i64 x.rs.e,.slice x.rs.a x.rs.n x.rs.c,.string x.sv,.int .i64 x.ca,.bool x.un,.int .i64 x.bd.k,.int .i64 x.bd.i,.int .i64 x.bd.s,.string x.bd.t,.slice x.bd.la x.bd.ll x.bd.lc,.slice x.bd.fa x.bd.fl x.bd.fc,.string x.nd] 75)) w'):=hid (by
    rw[hu]
    have hs:=hba.size
    exact HFF.out k hkl x (wp.alloc (.cells #[.int .i64 x.k,.string x.nm,.int .i64 x.nu,.string x.tx,.int .i64 x.st.e,.slice x.st.a x.st.n x.st.c,.int .i64 x.rs.e,.slice x.rs.a x.rs.n x.rs.c,.string x.sv,.int .i64 x.ca,.bool x.un,.int .i64 x.bd.k,.int .i64 x.bd.i,.int .i64 x.bd.s,.string x.bd.t,.slice x.bd.la x.bd.ll x.bd.lc,.slice x.bd.fa x.bd.fl x.bd.fc,.string x.nd] 75)) hba (efK.same (fun b q=>⟨by omega,hba.block b q⟩) hxi))
   have HBA:=hid hba
   have HU:=hid hu
   clear hu hba hxa hxi hbr hb
   by_cases hz:u=0
   ·subst hz
    go_wp2_with (go_at_fn F;refine HC.out.mono ?_;rintro e w3 ⟨rfl,hb3⟩)
    go_roundw
    case rel=>exact⟨k+1,by omega,by go_num,fun j h1 h=>by
     by_cases hjk:j<k
     ·exact HA.out j h1 hjk
     ·obtain rfl:j=k:=by omega
      exact HU.out.symm,HBA.out.trans (hb3.mono HBA.out.size)⟩
    case measure=>simp[intOf];omega
   ·have hz1:(u==0)=false:=by simp[hz]
    have HZ:=hid hz
    clear hz
    go_wp2_with (go_at_fn F;refine HC.out.mono ?_;rintro e w3 ⟨rfl,hb3⟩)
    go_ret
    exact⟨retI (by
     rw[HU.out]
     have h0:=dV (f:=f) (m:=0) k hkl (fun j h1 h2=>by rw[Nat.zero_add];exact HA.out j h1 h2) (by rw[Nat.zero_add,←HU.out];exact HZ.out)
     rw[Nat.zero_add] at h0
     exact h0.symm),HBA.out.trans (hb3.mono HBA.out.size)⟩
  ·obtain rfl:k=n:=by omega
   have r:=hid (cX (f:=f) (m:=0) (l:=l) fun j h1=>by rw[Nat.zero_add];exact HA.out j h1 (by have:=HL.out;omega))
   go_wp2
   go_ret
   exact⟨retI r.out.symm,HBR.out⟩
end
end
section
open Go Go.RowKit
theorem pM (l:List Cnt) (k:Nat) (hk:k<l.length) (x:Cnt) (lb:Nat) (a:Option Addr) (n c:Nat) (w:World) (hlb:w.heap[lb]?=some (.cells #[.slice a n c] 23)) (hd:IsRow cntK (· < w.heap.size) w a n c l) :
 Calls Tryz.prog 109 #[.int .i64 k,.agg #[.string x.nm,.int .i64 x.nu],.pointer (some ⟨lb,0,none⟩)] w fun e w'=>e=.returned (.int .i64 (eG l k x))∧Below w.heap.size w w':=by
 obtain⟨nm,nu⟩:=x
 dsimp only
 cases h0:aI nm
 ·have HE:=hid (show eG l k ⟨nm,nu⟩=12 by simp[eG,h0])
  clear hd hlb
  go_enter Tryz.func109,Tryz.ntmps109
  go_wp2_with (go_at_call 39;refine(aG _ _).mono ?_;rintro e w3 ⟨rfl,hw3⟩;obtain rfl:=hw3)
  go_ret
  exact⟨by rw[HE.out];rfl,((Below.refl _ _).alloc lr _)⟩
 ·by_cases hk0:k=0
  ·subst hk0
   have HE:Hid (eG l 0 ⟨nm,nu⟩=if inQ nu 0 999999999999999=false then 2 else 0):=hid (by simp[eG,h0])
   clear hd hlb hk
   go_enter Tryz.func109,Tryz.ntmps109
   go_upto_region 3 with (go_at_call 39;refine(aG _ _).mono ?_;rintro e w3 ⟨rfl,hw3⟩;obtain rfl:=hw3)
   refine wp_region_held_drew (S:=(fun _=>True)) (by kernel_rfl) (trivial) (fun hS=>?_)
   refine tkQ 0 (v:=?_) ?_ hS ?_;rotate_left;· intro w' hw';(try dsimp only at hw');go_simp;(try rfl)
   simp only[Act.put,pq]
   refine tkQ 1 (v:=?_) ?_ hS ?_;rotate_left;· intro w' hw';(try dsimp only at hw');go_simp;(try rfl)
   simp only[Act.put,pq]
   refine tkQ 2 (v:=?_) ?_ hS ?_;rotate_left;· intro w' hw';(try dsimp only at hw');go_simp;(try rfl)
   simp only[Act.put,pq]
   refine wpAnyH_take (i:=3) (oi:=_) (v:=undef) rfl (by kernel_rfl) (by kernel_rfl) (by kernel_rfl) (fun _ _ _ h=>h) (Or.inr ⟨by rfl,rfl⟩) hS ?_
   simp only[Act.put,pq]
   refine wpAnyH_take (i:=4) (oi:=_) (v:=undef) rfl (by kernel_rfl) (by kernel_rfl) (by kernel_rfl) (fun _ _ _ h=>h) (Or.inr ⟨by rfl,rfl⟩) hS ?_
   simp only[Act.put,pq]
   refine wpAnyH_take (i:=5) (oi:=_) (v:=undef) rfl (by kernel_rfl) (by kernel_rfl) (by kernel_rfl) (fun _ _ _ h=>h) (Or.inr ⟨by rfl,rfl⟩) hS ?_
   simp only[Act.put,pq]
   refine wpAnyH_take (i:=6) (oi:=_) (v:=undef) rfl (by kernel_rfl) (by kernel_rfl) (by kernel_rfl) (fun _ _ _ h=>h) (Or.inr ⟨by rfl,rfl⟩) hS ?_
   simp only[Act.put,pq]
   refine wpAnyH_take (i:=7) (oi:=_) (v:=undef) rfl (by kernel_rfl) (by kernel_rfl) (by kernel_rfl) (fun _ _ _ h=>h) (Or.inr ⟨by rfl,rfl⟩) hS ?_
   simp only[Act.put,pq]
   refine wpAnyH_take (i:=8) (oi:=_) (v:=undef) rfl (by kernel_rfl) (by kernel_rfl) (by kernel_rfl) (fun _ _ _ h=>h) (Or.inr ⟨by rfl,rfl⟩) hS ?_
   simp only[Act.put,pq]
   refine wpAnyH_take (i:=9) (oi:=_) (v:=undef) rfl (by kernel_rfl) (by kernel_rfl) (by kernel_rfl) (fun _ _ _ h=>h) (Or.inr ⟨by rfl,rfl⟩) hS ?_
   simp only[Act.put,pq]
   refine wpAnyH_take (i:=10) (oi:=_) (v:=undef) rfl (by kernel_rfl) (by kernel_rfl) (by kernel_rfl) (fun _ _ _ h=>h) (Or.inr ⟨by rfl,rfl⟩) hS ?_
   simp only[Act.put,pq]
   refine wpAnyH_take (i:=11) (oi:=_) (v:=undef) rfl (by kernel_rfl) (by kernel_rfl) (by kernel_rfl) (fun _ _ _ h=>h) (Or.inr ⟨by rfl,rfl⟩) hS ?_
   simp only[Act.put,pq]
   refine tkQ 12 (v:=?_) ?_ hS ?_;rotate_left;· intro w' hw';(try dsimp only at hw');go_simp;(try rfl)
   simp only[Act.put,pq]
   refine tkQ 13 (v:=?_) ?_ hS ?_;rotate_left;· intro w' hw';(try dsimp only at hw');go_simp;(try rfl)
   simp only[Act.put,pq]
   refine wpAnyH_done (by kernel_rfl) ?_ _
   (try dsimp only)
   skip
   cases h2:inQ nu 0 999999999999999
   ·go_wp2_with (go_at_call 25;refine(aL _ _ _ _).mono ?_;rintro e w3 ⟨rfl,hw3⟩;obtain rfl:=hw3)
    go_ret
    exact⟨by rw[HE.out,h2];rfl,((Below.refl _ _).alloc lr _).drew⟩
   ·go_wp2_with (go_at_call 25;refine(aL _ _ _ _).mono ?_;rintro e w3 ⟨rfl,hw3⟩;obtain rfl:=hw3)
    go_ret
    exact⟨by rw[HE.out,h2];rfl,((Below.refl _ _).alloc lr _).drew⟩
  ·have hl:=hd.len
   obtain⟨b,o,rfl,hb,hx⟩:=hd.slot (show 0<n by omega)
   obtain⟨y,hya,hyi⟩:=hx (k-1) (by omega)
   have hyc:=hya.cnt
   have hye:l.getD (k-1) ⟨nm,nu⟩=y:=by rw[List.getD_eq_getElem?_getD,List.getElem?_eq_getElem (by omega:k-1<l.length)];exact hyi.e.symm
   obtain⟨q,hq⟩:∃q,q=leS nm y.nm:=⟨_,rfl⟩
   have hq':(Op.bytesLess nm.toList y.nm.toList||nm.toList==y.nm.toList)=q:=hq.symm
   have HE:Hid (eG l k ⟨nm,nu⟩=if q=true then 24 else if inQ nu 0 999999999999999=false then 2 else 0):=hid (by unfold eG;rw[hye,hq];simp[h0,show 0<k by omega])
   have hk1:0<k:=by omega
   have hk2:IntKind.i64.wrap ((k:Int)-1)=((k-1:Nat):Int):=by rw[IntWalk.i64_in _ (by have:=hd.big;have:n * 24≤140737488351232:=this;omega)];omega
   have hk3:((k-1:Nat):Int)<(n:Int):=by omega
   have hk4:(0:Int)≤((k-1:Nat):Int):=by omega
   have HS0:Hid ((w.alloc (.cells #[.string nm,.int .i64 nu] 58)).drew.heap[w.heap.size]?=some (.cells #[.string nm,.int .i64 nu] 58)∧(w.alloc (.cells #[.string nm,.int .i64 nu] 58)).drew.heap[lb]?=some (.cells #[.slice (some ⟨b,o,none⟩) n c] 23)∧(w.alloc (.cells #[.string nm,.int .i64 nu] 58)).drew.heap[b]?=w.heap[b]?):=hid ⟨heap_alloc_new w _,aC _ hlb,(Below.heap_alloc _ _ _ hb)⟩
   have HCC:=hid (fun (w':World) (h:w'.heap[w.heap.size]?=some (.cells #[.string nm,.int .i64 nu] 58)∧w'.heap[lb]?=some (.cells #[.slice (some ⟨b,o,none⟩) n c] 23)∧w'.heap[b]?=w.heap[b]?)=>(show w'.cell? ⟨w.heap.size,0,none⟩=some (.string nm)∧w'.cell? ⟨lb,0,none⟩=some (.slice (some ⟨b,o,none⟩) n c)∧w'.cell? ⟨b,o+(k-1) * 2,none⟩=some (.string y.nm) from⟨aA h.1 0,aA h.2.1 0,(World.cell?_of_block (w:=w) (a:=⟨b,o+(k-1) * 2,none⟩) h.2.2).trans hyc.1⟩))
   clear hd hlb hx hya hyi hyc hye hq hl hb
   go_enter Tryz.func109,Tryz.ntmps109
   go_upto_region 3 with (go_at_call 39;refine(aG _ _).mono ?_;rintro e w3 ⟨rfl,hw3⟩;obtain rfl:=hw3)
   refine wp_region_held_drew (S:=(fun w'=>w'.heap[w.heap.size]?=some (.cells #[.string nm,.int .i64 nu] 58)∧w'.heap[lb]?=some (.cells #[.slice (some ⟨b,o,none⟩) n c] 23)∧w'.heap[b]?=w.heap[b]?)) (by kernel_rfl) (HS0.out) (fun hS=>?_)
   refine tkQ 0 (v:=?_) ?_ hS ?_;rotate_left;· intro w' hw';have hcells:=HCC.out w' hw';go_simp;(try rfl)
   simp only[Act.put,pq]
   refine tkQ 1 (v:=?_) ?_ hS ?_;rotate_left;· intro w' hw';have hcells:=HCC.out w' hw';go_simp;(try rfl)
   simp only[Act.put,pq]
   refine tkQ 2 (v:=?_) ?_ hS ?_;rotate_left;· intro w' hw';have hcells:=HCC.out w' hw';go_simp;(try rfl)
   simp only[Act.put,pq]
   refine tkQ 3 (v:=?_) ?_ hS ?_;rotate_left;· intro w' hw';have hcells:=HCC.out w' hw';go_simp;(try rfl)
   simp only[Act.put,pq]
   refine tkQ 4 (v:=?_) ?_ hS ?_;rotate_left;· intro w' hw';have hcells:=HCC.out w' hw';go_simp;(try rfl)
   simp only[Act.put,pq]
   refine tkQ 5 (v:=?_) ?_ hS ?_;rotate_left;· intro w' hw';have hcells:=HCC.out w' hw';go_simp;(try rfl)
   simp only[Act.put,pq]
   refine tkQ 6 (v:=?_) ?_ hS ?_;rotate_left;· intro w' hw';have hcells:=HCC.out w' hw';go_simp;(try rfl)
   simp only[Act.put,pq]
   refine tkQ 7 (v:=?_) ?_ hS ?_;rotate_left;· intro w' hw';have hcells:=HCC.out w' hw';go_simp;(try rfl)
   simp only[Act.put,pq]
   refine tkQ 8 (v:=?_) ?_ hS ?_;rotate_left;· intro w' hw';have hcells:=HCC.out w' hw';go_simp;(try rfl)
   simp only[Act.put,pq]
   refine tkQ 9 (v:=?_) ?_ hS ?_;rotate_left;· intro w' hw';have hcells:=HCC.out w' hw';go_simp;(try rfl)
   simp only[Act.put,pq]
   refine tkQ 10 (v:=?_) ?_ hS ?_;rotate_left;· intro w' hw';have hcells:=HCC.out w' hw';go_simp;(try rfl)
   simp only[Act.put,pq]
   refine tkQ 11 (v:=?_) ?_ hS ?_;rotate_left;· intro w' hw';have hcells:=HCC.out w' hw';go_simp;(try rfl)
   simp only[Act.put,pq]
   refine tkQ 12 (v:=?_) ?_ hS ?_;rotate_left;· intro w' hw';have hcells:=HCC.out w' hw';go_simp;(try rfl)
   simp only[Act.put,pq]
   refine tkQ 13 (v:=?_) ?_ hS ?_;rotate_left;· intro w' hw';have hcells:=HCC.out w' hw';go_simp;(try rfl)
   simp only[Act.put,pq]
   refine wpAnyH_done (by kernel_rfl) ?_ _
   (try dsimp only)
   skip
   cases q
   ·cases h2:inQ nu 0 999999999999999
    ·go_wp2_with (go_at_call 25;refine(aL _ _ _ _).mono ?_;rintro e w3 ⟨rfl,hw3⟩;obtain rfl:=hw3)
     go_ret
     exact⟨by rw[HE.out,h2];rfl,((Below.refl _ _).alloc lr _).drew⟩
    ·go_wp2_with (go_at_call 25;refine(aL _ _ _ _).mono ?_;rintro e w3 ⟨rfl,hw3⟩;obtain rfl:=hw3)
     go_ret
     exact⟨by rw[HE.out,h2];rfl,((Below.refl _ _).alloc lr _).drew⟩
   ·go_wp2
    go_ret
    exact⟨by rw[HE.out];rfl,((Below.refl _ _).alloc lr _).drew⟩
end
section
open Go Go.RowKit
theorem tV (k:Int) (x:Que) (w:World):Calls Tryz.prog 32 #[.int .i64 k,.agg #[.string x.nm,.int .i64 x.nu,.int .i64 x.vr,.string x.tx]] w fun e w'=>e=.returned (.int .i64 (fP x))∧Below w.heap.size w w':=by
 obtain⟨nm,nu,vr,tx⟩:=x
 have hz:Below w.heap.size w w:=Below.refl _ _
 cases h0:aI nm
 ·have HE:=hid (show fP ⟨nm,nu,vr,tx⟩=12 by simp[fP,h0])
  go_enter Tryz.func32,Tryz.ntmps32
  go_wp2_with (first | (go_at_call 39;refine(aG _ _).mono ?_;rintro e w3 ⟨rfl,hw3⟩;obtain rfl:=hw3) | (go_at_call 25;refine(aL _ _ _ _).mono ?_;rintro e w3 ⟨rfl,hw3⟩;obtain rfl:=hw3))
  go_ret
  exact⟨by rw[HE.out];rfl,(Below.refl _ _).alloc lr _⟩
 ·skip
  cases h1:inQ nu 1 999999999999999
  ·have HE:=hid (show fP ⟨nm,nu,vr,tx⟩=2 by simp[fP,h0,h1])
   go_enter Tryz.func32,Tryz.ntmps32
   go_wp2_with (first | (go_at_call 39;refine(aG _ _).mono ?_;rintro e w3 ⟨rfl,hw3⟩;obtain rfl:=hw3) | (go_at_call 25;refine(aL _ _ _ _).mono ?_;rintro e w3 ⟨rfl,hw3⟩;obtain rfl:=hw3))
   go_ret
   exact⟨by rw[HE.out];rfl,(Below.refl _ _).alloc lr _⟩
  ·skip
   cases h2:inQ vr 1 999
   ·have HE:=hid (show fP ⟨nm,nu,vr,tx⟩=2 by simp[fP,h0,h1,h2])
    go_enter Tryz.func32,Tryz.ntmps32
    go_wp2_with (first | (go_at_call 39;refine(aG _ _).mono ?_;rintro e w3 ⟨rfl,hw3⟩;obtain rfl:=hw3) | (go_at_call 25;refine(aL _ _ _ _).mono ?_;rintro e w3 ⟨rfl,hw3⟩;obtain rfl:=hw3))
    go_ret
    exact⟨by rw[HE.out];rfl,(Below.refl _ _).alloc lr _⟩
   ·skip
    by_cases h3:(65536:Int)<(tx.size:Int)
    ·have HE:=hid (show fP ⟨nm,nu,vr,tx⟩=5 by simp[fP,h0,h1,h2,h3]<;>omega)
     go_enter Tryz.func32,Tryz.ntmps32
     go_wp2_with (first | (go_at_call 39;refine(aG _ _).mono ?_;rintro e w3 ⟨rfl,hw3⟩;obtain rfl:=hw3) | (go_at_call 25;refine(aL _ _ _ _).mono ?_;rintro e w3 ⟨rfl,hw3⟩;obtain rfl:=hw3))
     go_ret
     exact⟨by rw[HE.out];rfl,(Below.refl _ _).alloc lr _⟩
    ·skip
     go_enter Tryz.func32,Tryz.ntmps32
     go_wp2_with (first | (go_at_call 39;refine(aG _ _).mono ?_;rintro e w3 ⟨rfl,hw3⟩;obtain rfl:=hw3) | (go_at_call 25;refine(aL _ _ _ _).mono ?_;rintro e w3 ⟨rfl,hw3⟩;obtain rfl:=hw3))
     go_ret
     have HE:=hid (show fP ⟨nm,nu,vr,tx⟩=0 by simp[fP,h0,h1,h2]<;>omega)
     exact⟨by rw[HE.out];rfl,(Below.refl _ _).alloc lr _⟩
end
section
open Go Go.RowKit Go.Shelf
theorem aC9 (a:Option Addr) (n c:Nat) (xs:List Int) (w:World) (hlen:n=xs.length) (hbig:n * 8≤140737488351232) (hsl:0<n→∃b o,a=some ⟨b,o,none⟩∧∀(j:Nat) (h:j<xs.length),w.cell? ⟨b,o+j,none⟩=some (.int .i64 xs[j])):Calls Tryz.prog 28 #[.slice a n c] w fun e w'=>e=.returned (.int .i64 (orL xs))∧w=w':=by
 have HL:=hid hlen
 have HXX:=hid hsl
 clear hlen hsl
 go_enter Tryz.func28,Tryz.ntmps28
 go_wp2
 go_loop [8] (fun i=>∃k:Nat,k≤n∧i=.int .i64 k∧orL xs=orL (xs.drop k)) (fun i=>n-(intOf i).toNat)
 case atStart=>exact⟨0,Nat.zero_le _,rfl,rfl⟩
 case round =>
  obtain⟨k,hk,rfl,hall⟩:=hrel
  have HA:=hid hall
  clear hall
  by_cases hlt:k<n
  ·obtain⟨b,o,rfl,hc⟩:=HXX.out (show 0<n by omega)
   have hkl:k<xs.length:=by have:=HL.out;omega
   have hck:=hc k hkl
   clear hc
   have hlt':(k:Int)<(n:Int):=by omega
   have hn63:(n:Int)≤9223372036854775807:=by omega
   have hd:=tX xs k hkl
   obtain⟨z,hz⟩:∃z,z=xs[k]:=⟨_,rfl⟩
   rw[←hz] at hck hd
   have HD:=hid hd
   clear hz hd
   by_cases h0:z=0
   ·subst h0
    go_wp2
    go_round
    case rel=>exact⟨k+1,by omega,by go_num,by rw[HA.out,HD.out,if_neg (by simp)]⟩
    case measure=>simp[intOf];omega
   ·have H0:=hid h0
    go_wp2
    go_ret
    exact⟨by rw[HA.out,HD.out,if_pos H0.out];rfl,rfl⟩
  ·obtain rfl:k=n:=by omega
   go_wp2
   go_ret
   exact⟨by rw[HA.out,HL.out,List.drop_length];rfl,rfl⟩
theorem yU (xs:List Int) (w:World) (t:TypeId) (hbig:xs.length * 8≤140737488351232):Calls Tryz.prog 28 #[.slice (some ⟨w.heap.size,0,none⟩) xs.length xs.length] (w.alloc (.cells (xs.map (Value.int .i64)).toArray t)) fun e w'=>e=.returned (.int .i64 (orL xs))∧w.alloc (.cells (xs.map (Value.int .i64)).toArray t)=w' :=
 aC9 _ _ _ xs _ rfl hbig fun _=>⟨_,_,rfl,fun j hj=>by rw[aA (heap_alloc_new w _)];simp[hj]⟩
theorem aB7 (k:Int) (x:StC) (d:Sta) (w:World) (hd:IsSta (· < w.heap.size) w x d) (hT:Tabs w):Calls Tryz.prog 26 #[.int .i64 k,.agg #[.int .i64 x.n,.int .i64 x.t,.slice x.a x.l x.c]] w fun e w'=>e=.returned (.int .i64 (bB d))∧Below w.heap.size w w':=by
 have hba:Below w.heap.size w (w.alloc (.cells #[.int .i64 x.n,.int .i64 x.t,.slice x.a x.l x.c] 55)):=(Below.refl _ _).alloc lr _
 have HC:=hid (dK x d _ (hd.same (S':=(· < (w.alloc (.cells #[.int .i64 x.n,.int .i64 x.t,.slice x.a x.l x.c] 55)).heap.size)) (w':=w.alloc (.cells #[.int .i64 x.n,.int .i64 x.t,.slice x.a x.l x.c] 55)) fun b hb=>⟨by simp;omega,hba.block b hb⟩) (hT.below hba))
 dsimp only[StC.v] at HC
 have HB:=hid hba
 clear hba hd hT
 go_enter Tryz.func26,Tryz.ntmps26
 go_wp2_with (go_at_call 27;refine HC.out.mono ?_;rintro e w3 ⟨rfl,hb3⟩)
 go_ret
 exact⟨rfl,HB.out.trans (hb3.mono HB.out.size)⟩
theorem lK (a:Option Addr) (n c:Nat) (l:List Cnt) (w:World) (hd:IsRow cntK (· < w.heap.size) w a n c l):Calls Tryz.prog 30 #[.slice a n c] w fun e w'=>e=.returned (.int .i64 (aP (eG l) 0 l))∧Below w.heap.size w w':=by
 have hen:∀args w,(callFunc 109 args).run Tryz.prog w=.ok (.enter 109 args) w:=enters_of Tryz.func109 (by kernel_rfl) rfl
 obtain⟨w1,hw1⟩:∃w1,w1=w.alloc (.cells #[.slice a n c] 23):=⟨_,rfl⟩
 have hba:Below w.heap.size w w1:=by rw[hw1];exact(Below.refl _ _).alloc lr _
 have hz:w1.heap.size=w.heap.size+1:=by rw[hw1];simp
 have hg:w1.heap[w.heap.size]?=some (.cells #[.slice a n c] 23):=by rw[hw1];exact heap_alloc_new w _
 have hd1:IsRow cntK (· < w1.heap.size) w1 a n c l:=hd.same fun b hb=>⟨by omega,hba.block b hb⟩
 have HC:=hid (sC 109 hen w.heap.size (eG l) a n c l w1 hd1 (fun k hk x w' hb hx=>by
  have he:x=l[k]:=hx.e
  rw[←he]
  exact pM l k hk x w.heap.size a n c w' (aB hb hg) (hd1.same fun b hb'=>⟨by have:=hb.size;omega,hb.block b hb'⟩)))
 have HB:=hid hba
 have HW:=hid hw1
 clear hba hz hg hd1 hd hw1
 go_enter Tryz.func30,Tryz.ntmps30
 go_upto_region 1 with (fail)
 rw[←HW.out]
 have e0:=aA (heap_alloc_new w (.cells #[.slice a n c] 23)) 0
 rw[←HW.out] at e0
 (try dsimp only at e0)
 go_wp2_with (go_at_call 108;refine HC.out.mono ?_;rintro e w3 ⟨rfl,hb3⟩)
 go_ret
 exact⟨rfl,HB.out.trans (hb3.mono HB.out.size)⟩
end
end Go.Proofs.YteladbdfiannjaaGreatDoor
