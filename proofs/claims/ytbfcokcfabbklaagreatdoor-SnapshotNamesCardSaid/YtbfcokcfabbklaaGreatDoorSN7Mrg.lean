/-
  Plain: the names of the files of snapshots, and the entry of a name. No program is stepped through here.
-/
import Derived.Test.YtbfcokcfabbklaaGreatDoorSN6Mrg
namespace Go.Proofs.YtbfcokcfabbklaaGreatDoor
set_option linter.unusedVariables false
set_option linter.unusedSimpArgs false
open Go Go.RowKit Go.Shelf
def snPre:List UInt8:=[115,110,97,112,115,104,111,116,46]
def snName (v:Nat):ByteArray:=⟨(snPre++digZ v 6).toArray⟩
def snEntry (s:ByteArray):Int × Bool :=
 let r:=s.data.toList.drop 9
 if s.data.toList.take 9=snPre∧atoiOK r=true∧0≤atoiV r∧atoiV r≤1048576∧snName (atoiV r).toNat=s then (atoiV r,true) else (0,false)
def snVal (l:List UInt8):Nat:=l.foldl (fun n c=>10 * n+(c.toNat-48)) 0
theorem snVal_snoc (r:List UInt8) (c:UInt8):snVal (r++[c])=10 * snVal r+(c.toNat-48):=by
 unfold snVal;rw[List.foldl_append];rfl
theorem u8_of (c:UInt8) (h1:48≤c.toNat) (h2:c.toNat≤57):UInt8.ofNat (48+(c.toNat-48))=c:=by
 rw[show 48+(c.toNat-48)=c.toNat by omega];exact UInt8.ofNat_toNat
theorem digZ_val:∀(n:Nat) (l:List UInt8),l.length=n+1→(∀x∈l,digC x=true)→digZ (snVal l) n=l
 | 0,l,hl,hd=>by
   obtain⟨c,rfl⟩:∃c,l=[c]:=List.length_eq_one_iff.1 hl
   have hc:=(digC_iff c).1 (hd c (by simp))
   have hv:snVal [c]=c.toNat-48:=by simp[snVal]
   have hdd:Lib.decDigits (c.toNat-48)=[c]:=by
    rw[Lib.decDigits,dif_pos (by omega),u8_of c hc.1 hc.2]
   rw[hv]
   unfold digZ
   rw[hdd]
   rfl
 | n+1,l,hl,hd=>by
   obtain⟨r,c,rfl⟩:∃r c,l=r++[c]:=by
    rcases List.eq_nil_or_concat l with h | ⟨r,c,h⟩
    ·rw[h] at hl;simp at hl
    ·exact⟨r,c,by rw[h,List.concat_eq_append]⟩
   have hrl:r.length=n+1:=by simpa using hl
   have hc:=(digC_iff c).1 (hd c (by simp))
   have ih:=digZ_val n r hrl (fun x hx=>hd x (by simp[hx]))
   rw[snVal_snoc]
   obtain⟨m,hm⟩:∃m,m=snVal r:=⟨_,rfl⟩
   rw[←hm] at ih ⊢
   by_cases h0:m=0
   ·subst h0
    have e:Lib.decDigits 0=[48]:=by rw[Lib.decDigits,dif_pos (by omega)];rfl
    have hdd:Lib.decDigits (10 * 0+(c.toNat-48))=[c]:=by
     rw[show 10 * 0+(c.toNat-48)=c.toNat-48 by omega,Lib.decDigits,dif_pos (by omega),u8_of c hc.1 hc.2]
    unfold digZ at ih ⊢
    rw[hdd]
    rw[e] at ih
    have ih':List.replicate n (48:UInt8)++[48]=r:=ih
    show List.replicate (n+1) (48:UInt8)++[c]=r++[c]
    rw[←ih',List.replicate_succ']
   ·have hdd:Lib.decDigits (10 * m+(c.toNat-48))=Lib.decDigits m++[c]:=by
     rw[Lib.decDigits,dif_neg (by omega),show(10 * m+(c.toNat-48)) / 10=m by omega,show(10 * m+(c.toNat-48)) % 10=c.toNat-48 by omega,u8_of c hc.1 hc.2]
    unfold digZ at ih ⊢
    rw[hdd,List.length_append,List.length_singleton,show n+1+1-((Lib.decDigits m).length+1)=n+1-(Lib.decDigits m).length by omega,←List.append_assoc,ih]
theorem atoi_digZ (v s:Nat) (h:v<9223372036854775808):atoiOK (digZ v s)=true∧atoiV (digZ v s)=v:=by
 have e:=atoi_sgn (v:Int) s (by simpa using h)
 have hs:sgnL (v:Int)=[]:=by unfold sgnL;rw[if_neg (by omega)]
 rw[hs,List.nil_append,Int.natAbs_natCast] at e
 unfold atoiOK atoiV
 rw[e]
 exact⟨rfl,rfl⟩
theorem snName_list (v:Nat):(snName v).data.toList=snPre++digZ v 6:=by unfold snName;simp
theorem snEntry_name (v:Nat) (h:v≤1048576):snEntry (snName v)=((v:Int),true):=by
 have hd:(snName v).data.toList.drop 9=digZ v 6:=by rw[snName_list];exact List.drop_left' rfl
 have ht:(snName v).data.toList.take 9=snPre:=by rw[snName_list];exact List.take_left' rfl
 obtain⟨h1,h2⟩:=atoi_digZ v 6 (by omega)
 unfold snEntry
 simp only[hd,ht,h1,h2,Int.toNat_natCast]
 rw[if_pos ⟨trivial,trivial,by omega,by omega,trivial⟩]
theorem snEntry_is {s:ByteArray} (h:(snEntry s).2=true):0≤(snEntry s).1∧(snEntry s).1≤1048576∧s=snName (snEntry s).1.toNat:=by
 unfold snEntry at h ⊢
 dsimp only at h ⊢
 split at h
 ·rename_i hc
  rw[if_pos hc]
  exact⟨hc.2.2.1,hc.2.2.2.1,hc.2.2.2.2.symm⟩
 ·cases h
theorem snEntry_not {s:ByteArray} (h:(snEntry s).2=false):(snEntry s).1=0∧¬ (s.size=16∧s.data.toList.take 9=snPre∧(∀x∈s.data.toList.drop 9,digC x=true)∧snVal (s.data.toList.drop 9)≤1048576):=by
 constructor
 ·unfold snEntry at h ⊢
  dsimp only at h ⊢
  split at h
  ·cases h
  ·rename_i hc;rw[if_neg hc]
 ·rintro⟨hz,hp,hd,hv⟩
  have hl:s.data.toList.length=16:=by rw[Array.length_toList];exact hz
  have hr:(s.data.toList.drop 9).length=6+1:=by rw[List.length_drop,hl]
  have e:=digZ_val 6 _ hr hd
  have es:s=snName (snVal (s.data.toList.drop 9)):=by
   apply ByteArray.ext
   apply Array.ext'
   rw[snName_list,e,←hp,List.take_append_drop]
  rw[es,snEntry_name _ hv] at h
  cases h
end Go.Proofs.YtbfcokcfabbklaaGreatDoor
