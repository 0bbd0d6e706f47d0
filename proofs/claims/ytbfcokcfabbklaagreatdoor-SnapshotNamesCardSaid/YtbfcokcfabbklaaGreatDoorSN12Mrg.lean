/-
  The law's decimal, name and isNumber. Conditions: as the contracts say.
-/
import Derived.Test.YtbfcokcfabbklaaGreatDoorSN7Mrg
namespace Go.Proofs.YtbfcokcfabbklaaGreatDoor
set_option linter.unusedVariables false
set_option maxRecDepth 100000
set_option maxHeartbeats 16000000
set_option linter.unusedSimpArgs false
open Go Go.RowKit Go.Shelf
theorem dig10 (r:Nat) (h:r<10):(⟨#[48,49,50,51,52,53,54,55,56,57]⟩:ByteArray).extract r (r+1)=⟨#[UInt8.ofNat (48+r)]⟩:=by
 have:∀r:Fin 10,(⟨#[48,49,50,51,52,53,54,55,56,57]⟩:ByteArray).extract r.val (r.val+1)=⟨#[UInt8.ofNat (48+r.val)]⟩:=by decide +kernel
 exact this ⟨r,h⟩
theorem decB_step (n:Nat) (h:9<n):decB n=decB (n / 10)++⟨#[UInt8.ofNat (48+n % 10)]⟩:=by
 unfold decB
 rw[Lib.decDigits,dif_neg (by omega)]
 apply ByteArray.ext
 simp[ByteArray.data_append]
theorem dec47_call (n:Nat) (hn:n≤1000000000000000) (w:World):Calls Tryz.prog 63 #[.int .i64 n] w fun e w'=>e=.returned (.string (decB n))∧w'=w:=by
 induction n using Nat.strongRecOn generalizing w with
 | _ n ih =>
   have hq:(n:Int).tdiv 10=((n / 10:Nat):Int):=by rw[Int.tdiv_eq_ediv_of_nonneg (by omega)];omega
   have hr:(n:Int).tmod 10=((n % 10:Nat):Int):=by rw[Int.tmod_eq_emod_of_nonneg (by omega)];omega
   have hE:=dig10 (n % 10) (by omega)
   by_cases h:9<n
   ·have HI:=hid (ih (n / 10) (by omega) (by omega) w)
    have hs:=decB_step n h
    have hzz:=dec_size (n / 10) (by omega)
    obtain⟨z,hz⟩:∃z,z=decB (n / 10):=⟨_,rfl⟩
    rw[←hz] at HI hs hzz
    have h9:(9:Int)<(n:Int):=by omega
    have hsz:¬ 9223372036854775807<z.size+1:=by omega
    have HS:=hid hs
    obtain⟨r,hr'⟩:∃r,r=n % 10:=⟨_,rfl⟩
    obtain⟨q,hq'⟩:∃q,q=n / 10:=⟨_,rfl⟩
    rw[←hr'] at hr hE HS
    rw[←hq'] at hq HI
    have hq1:q≤1000000000000000:=by omega
    have hqI:(q:Int)≤1000000000000000:=by omega
    have hqJ:(0:Int)≤(q:Int):=by omega
    have hr10:r<10:=by omega
    have hrI:(r:Int)<10:=by omega
    have hr0:(0:Int)≤(r:Int):=by omega
    obtain⟨y,hy⟩:∃y:ByteArray,y=⟨#[UInt8.ofNat (48+r)]⟩:=⟨_,rfl⟩
    have hys:y.size=1:=by rw[hy];rfl
    rw[←hy] at hE HS
    have hsy:¬ 9223372036854775807<z.size+y.size:=by omega
    clear hz hs ih hr' hq' hy hsz hys
    go_enter Tryz.func63,Tryz.ntmps63
    go_upto_region 3 with (fail)
    clear hE hr hr10 hrI hr0
    go_wp2_with (go_at_call 63;refine HI.out.mono ?_;rintro e w3 ⟨rfl,hw3⟩;obtain rfl:=hw3.symm)
    go_ret
    exact⟨by first | (rw[HS.out];done) | (rw[HS.out];rfl),rfl⟩
   ·have h9:¬ (9:Int)<(n:Int):=by omega
    have hs:decB n=⟨#[UInt8.ofNat (48+n % 10)]⟩:=by
     unfold decB
     rw[Lib.decDigits,dif_pos (by omega),show n % 10=n by omega]
    obtain⟨r,hr'⟩:∃r,r=n % 10:=⟨_,rfl⟩
    rw[←hr'] at hr hE hs
    have hr10:r<10:=by omega
    have hrI:(r:Int)<10:=by omega
    have hr0:(0:Int)≤(r:Int):=by omega
    have HS:=hid hs
    obtain⟨u,hu⟩:∃u:UInt8,u=UInt8.ofNat (48+r):=⟨_,rfl⟩
    rw[←hu] at hE HS
    clear ih hr' hq hs hu
    go_enter Tryz.func63,Tryz.ntmps63
    go_wp2
    go_ret
    exact⟨by first | (rw[HS.out];done) | (rw[HS.out];rfl),rfl⟩
end Go.Proofs.YtbfcokcfabbklaaGreatDoor
