/-
  The law's isNumber: digits alone, and not above the cap. Condition: not longer than fifteen bytes.
-/
import Derived.Test.YtbfcokcfabbklaaGreatDoorSN7Mrg
namespace Go.Proofs.YtbfcokcfabbklaaGreatDoor
set_option linter.unusedVariables false
set_option maxRecDepth 100000
set_option maxHeartbeats 16000000
set_option linter.unusedSimpArgs false
open Go Go.RowKit Go.Shelf
def isNumB (l:List UInt8):Bool:=l.all digC&&decide (snVal l≤1048576)
theorem isNumB_bad (l:List UInt8) (c:UInt8) (hc:c∈l) (h:digC c=false):isNumB l=false:=by
 unfold isNumB
 rw[List.all_eq_false.2 ⟨c,hc,by simp[h]⟩]
 rfl
theorem take_at (s:ByteArray) (i:Nat) (h:i<s.size):s.data.toList.take (i+1)=s.data.toList.take i++[s[i]]:=by
 rw[List.take_succ_eq_append_getElem (by exact h)]
 rfl
theorem isNum_call (s:ByteArray) (hs:s.size≤15) (w:World):Calls Tryz.prog 16 #[.string s] w fun e w'=>e=.returned (.bool (isNumB s.data.toList))∧w'=w:=by
 go_enter Tryz.func16,Tryz.ntmps16
 go_wp2
 go_loopw [3,4] (fun nv iv wr=>∃n i:Nat,nv=.int .i64 n∧iv=.int .i64 i∧i≤s.size∧n<10 ^ i∧n=snVal (s.data.toList.take i)∧(s.data.toList.take i).all digC=true∧wr=w) (fun _ iv _=>s.size-(intOf iv).toNat)
 case atStart=>exact⟨0,0,rfl,rfl,Nat.zero_le _,by decide,rfl,rfl,rfl⟩
 case round =>
  obtain⟨n,i,rfl,rfl,hi,hn,heq,hall,hwr⟩:=hrel
  obtain rfl:=hwr.symm
  have HEQ:=hid heq
  have HALL:=hid hall
  clear heq hall
  by_cases hlt:i<s.size
  ·have hlt':(i:Int)<(s.size:Int):=by omega
   have hi0:(0:Int)≤(i:Int):=by omega
   have ht:=take_at s i hlt
   have HV:=hid (show snVal (s.data.toList.take (i+1))=10 * n+(s[i].toNat-48) by rw[ht,snVal_snoc,HEQ.out])
   have HA:=hid (fun (h:digC s[i]=true)=>(show(s.data.toList.take (i+1)).all digC=true by rw[ht,List.all_append,HALL.out];simp[h]))
   have HB:=hid (fun (h:digC s[i]=false)=>isNumB_bad s.data.toList s[i] (by show s.data.toList[i]∈_;exact List.getElem_mem _) h)
   have hd10:n<10 ^ 15 / 10:=Nat.lt_of_lt_of_le hn (by have:10 ^ i≤10 ^ 14:=Nat.pow_le_pow_right (by decide) (by omega);omega)
   have hcv:=s[i].toNat_lt
   have HP:=hid (show 10 * n+10≤10 ^ (i+1) by rw[Nat.pow_succ];omega)
   have hdg:=digC_iff s[i]
   have HDG:=hid hdg
   clear hdg ht hn HEQ HALL
   by_cases h1:s[i].toNat<48
   ·have q1:(s[i].toNat:Int)<48:=by omega
    have HN:=hid (HB.out (by rw[Bool.eq_false_iff];intro h;have:=HDG.out.1 h;omega))
    clear h1
    go_wp2
    go_ret
    exact⟨retB HN.out.symm,rfl⟩
   ·by_cases h2:57<s[i].toNat
    ·have q1:¬ (s[i].toNat:Int)<48:=by omega
     have q2:(57:Int)<(s[i].toNat:Int):=by omega
     have HN:=hid (HB.out (by rw[Bool.eq_false_iff];intro h;have:=HDG.out.1 h;omega))
     clear h1 h2
     go_wp2
     go_ret
     exact⟨retB HN.out.symm,rfl⟩
    ·have q1:¬ (s[i].toNat:Int)<48:=by omega
     have q2:¬ (57:Int)<(s[i].toNat:Int):=by omega
     have HA2:=hid (HA.out (HDG.out.2 ⟨by omega,by omega⟩))
     have e1:IntKind.i64.wrap (10 * (n:Int))=10 * n:=IntWalk.i64_in _ ⟨by omega,by omega⟩
     have e2:IntKind.u8.wrap ((s[i].toNat:Int)-48)=(s[i].toNat:Int)-48:=IntWalk.u8_in _ ⟨by omega,by omega⟩
     have e3:IntKind.i64.wrap ((s[i].toNat:Int)-48)=(s[i].toNat:Int)-48:=IntWalk.i64_in _ ⟨by omega,by omega⟩
     have e4:IntKind.i64.wrap (10 * (n:Int)+((s[i].toNat:Int)-48))=10 * (n:Int)+((s[i].toNat:Int)-48):=IntWalk.i64_in _ ⟨by omega,by omega⟩
     have HC:=hid (And.intro h1 h2)
     clear h1 h2
     go_wp2
     have hc2:=HC.out
     have hp2:=HP.out
     refine⟨⟨10 * n+(s[i].toNat-48),i+1,by congr 1;omega,by go_num,by omega,by omega,HV.out.symm,HA2.out,trivial⟩,by simp[intOf];omega⟩
  ·obtain rfl:i=s.size:=by omega
   have hfull:s.data.toList.take s.size=s.data.toList:=List.take_of_length_le (Nat.le_refl _)
   have HE:=hid (show isNumB s.data.toList=decide ((n:Int)≤1048576) by
    have h1:=HALL.out
    have h2:=HEQ.out
    rw[hfull] at h1 h2
    unfold isNumB
    rw[h1,←h2]
    simp only[Bool.true_and]
    congr 1
    exact propext (by omega))
   have hb:n<10 ^ 15:=Nat.lt_of_lt_of_le hn (Nat.pow_le_pow_right (by decide) hs)
   clear hfull hn HEQ HALL
   by_cases hle:(n:Int)≤1048576
   ·go_wp2
    go_ret
    exact⟨retB (by rw[HE.out];simp[hle]),rfl⟩
   ·go_wp2
    go_ret
    exact⟨retB (by rw[HE.out];simp[hle]),rfl⟩
end Go.Proofs.YtbfcokcfabbklaaGreatDoor
