/-
  The law's name of an entry: as snapshot.Name's. Conditions: as the contracts say.
-/
import Derived.Test.YtbfcokcfabbklaaGreatDoorSN12Mrg
import Derived.Test.YtbfcokcfabbklaaGreatDoorSN11Mrg
namespace Go.Proofs.YtbfcokcfabbklaaGreatDoor
set_option linter.unusedVariables false
set_option maxRecDepth 100000
set_option maxHeartbeats 16000000
set_option linter.unusedSimpArgs false
open Go Go.RowKit Go.Shelf
def bOf:Value→ByteArray
 | .string x=>x
 | _=>ByteArray.empty
def padD (k n:Nat):ByteArray:=⟨(List.replicate k (48:UInt8)++Lib.decDigits n).toArray⟩
theorem padD_size (k n:Nat):(padD k n).size=k+(Lib.decDigits n).length:=by unfold padD;simp[ByteArray.size]
theorem padD_succ (k n:Nat):(⟨#[48]⟩:ByteArray)++padD k n=padD (k+1) n:=by
 apply ByteArray.ext
 apply Array.ext'
 simp[padD,List.replicate_succ]
theorem padD_zero (n:Nat):decB n=padD 0 n:=by
 apply ByteArray.ext
 apply Array.ext'
 simp[padD,decB]
theorem padD_name (k n:Nat) (h:(padD k n).size=7):(⟨#[115,110,97,112,115,104,111,116,46]⟩:ByteArray)++padD k n=snName n:=by
 rw[padD_size] at h
 apply ByteArray.ext
 apply Array.ext'
 rw[snName_list]
 unfold digZ snPre padD
 rw[show 6+1-(Lib.decDigits n).length=k by omega]
 simp
theorem name47_call (n:Nat) (hn:n≤1048576) (w:World):Calls Tryz.prog 15 #[.int .i64 n] w fun e w'=>e=.returned (.string (snName n))∧w'=w:=by
 have HD:=hid (dec47_call n (by omega) w)
 rw[padD_zero] at HD
 have hl7:=hid (show(padD 0 n).size≤7 by rw[padD_size];have:=decDigits_le7 n hn;omega)
 have hn0:(0:Int)≤(n:Int):=by omega
 go_enter Tryz.func15,Tryz.ntmps15
 go_wp2_with (go_at_call 63;refine HD.out.mono ?_;rintro e w3 ⟨rfl,hw3⟩;obtain rfl:=hw3.symm)
 go_loopw [3] (fun t wr=>wr=w∧∃k:Nat,t=.string (padD k n)∧(padD k n).size≤7) (fun t _=>7-(bOf t).size)
 case atStart=>exact⟨rfl,0,rfl,hl7.out⟩
 case round =>
  obtain⟨rfl,k,rfl,hk⟩:=hrel
  obtain⟨wl,rfl⟩:∃wl:World,wl=wr:=⟨_,rfl⟩
  have HK:=hid hk
  have HS:=hid (padD_succ k n)
  have HM:=hid (padD_name k n)
  have HZ:=hid (show(padD (k+1) n).size=(padD k n).size+1 by rw[padD_size,padD_size];omega)
  obtain⟨x,hx⟩:∃x,x=padD k n:=⟨_,rfl⟩
  obtain⟨y,hy⟩:∃y,y=padD (k+1) n:=⟨_,rfl⟩
  rw[←hx] at hk HM HS HK HZ
  rw[←hx]
  rw[←hy] at HS HZ
  have HY:=hid hy
  clear hx hy
  have hlow:¬ 9223372036854775807<1+x.size:=by omega
  have hlow9:¬ 9223372036854775807<9+x.size:=by omega
  by_cases hlt:x.size<7
  ·have hlt':(x.size:Int)<7:=by omega
   have hs:=HS.out
   go_wp2
   go_roundw
   case rel=>exact⟨trivial,k+1,by rw[←HY.out],by rw[←HY.out,HZ.out];omega⟩
   case measure=>show 7-(bOf (.string y)).size<7-(bOf (.string x)).size;simp only[bOf];rw[HZ.out];omega
  ·have hlt':¬ (x.size:Int)<7:=by omega
   have hm:=HM.out (by have:=HK.out;omega)
   go_wp2
   go_ret
   exact⟨rfl,rfl⟩
end Go.Proofs.YtbfcokcfabbklaaGreatDoor
