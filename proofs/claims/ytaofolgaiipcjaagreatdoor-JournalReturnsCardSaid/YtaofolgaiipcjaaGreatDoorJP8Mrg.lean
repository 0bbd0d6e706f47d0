/-
  The plain law of numbers in texts: Atoi and the law's own reading agree at decimal digits. No program in sight.
-/
import Derived.Test.YtaofolgaiipcjaaGreatDoorJP7Mrg
import Derived.Lib.AtoiAll
import Derived.Lib.IndexMore
import Derived.Lib.ItoaNum
import Derived.Lib.ItoaMem
import Derived.Lib.AtoiErrMem
namespace Go.Proofs.YtaofolgaiipcjaaGreatDoor
set_option linter.unusedVariables false
set_option linter.unusedSimpArgs false
section
open Go
theorem bAppend (a b:List UInt8):(⟨a.toArray⟩:ByteArray)++⟨b.toArray⟩=⟨(a++b).toArray⟩:=by
 apply ByteArray.ext
 simp[ByteArray.data_append]
theorem bSize (a:List UInt8):(⟨a.toArray⟩:ByteArray).size=a.length:=by simp[ByteArray.size]
theorem dig_nat (k:Nat) (h:k<10):(UInt8.ofNat (48+k)).toNat=48+k:=by simp[UInt8.toNat_ofNat'];omega
theorem decDigits_ne (n:Nat):Lib.decDigits n≠[]:=by
 rw[Lib.decDigits];split<;>simp
theorem decDigits_all (n:Nat):∀c∈Lib.decDigits n,48≤c.toNat∧c.toNat≤57:=by
 induction n using Nat.strongRecOn with
 | _ n ih =>
   intro c hc
   rw[Lib.decDigits] at hc
   split at hc
   ·rename_i h
    simp only[List.mem_singleton] at hc
    subst hc
    rw[dig_nat n h];omega
   ·rename_i h
    rcases List.mem_append.1 hc with hc | hc
    ·exact ih (n / 10) (by omega) c hc
    ·simp only[List.mem_singleton] at hc
     subst hc
     rw[dig_nat _ (by omega)];omega
theorem uint_append (c:UInt8) (hc:48≤c.toNat∧c.toNat≤57):∀(l:List UInt8) (a u:Nat),Lib.parseUint10 a l=.ok u→u * 10+(c.toNat-48)<18446744073709551616→Lib.parseUint10 a (l++[c])=.ok (u * 10+(c.toNat-48))
 | [],a,u,h,hb=>by
   simp only[Lib.parseUint10] at h
   injection h with h
   subst h
   simp only[List.nil_append,Lib.parseUint10]
   rw[if_pos hc,if_neg (by omega),if_neg (by omega)]
 | d :: l,a,u,h,hb=>by
   simp only[List.cons_append,Lib.parseUint10] at h ⊢
   split at h
   ·rename_i h1
    rw[if_pos h1]
    split at h
    ·cases h
    ·rename_i h2
     rw[if_neg h2]
     split at h
     ·cases h
     ·rename_i h3
      rw[if_neg h3]
      exact uint_append c hc l _ u h hb
   ·cases h
theorem uint_dec (n:Nat) (h:n<18446744073709551616):Lib.parseUint10 0 (Lib.decDigits n)=.ok n:=by
 induction n using Nat.strongRecOn with
 | _ n ih =>
   rw[Lib.decDigits]
   split
   ·rename_i h10
    simp only[Lib.parseUint10,dig_nat n h10]
    rw[if_pos (by omega),if_neg (by omega),if_neg (by omega)]
    congr 1;omega
   ·rename_i h10
    have e:=uint_append (UInt8.ofNat (48+n % 10)) (by rw[dig_nat _ (by omega)];omega) _ 0 _ (ih (n / 10) (by omega) (by omega)) (by rw[dig_nat _ (by omega)];omega)
    rw[e,dig_nat _ (by omega)]
    congr 1;omega
theorem atoi_dec (n:Nat) (h:n<9223372036854775808):Lib.atoiAll (Lib.decDigits n)=.ok (n:Int):=by
 have hp:=uint_dec n (by omega)
 have ha:=decDigits_all n
 have hne:=decDigits_ne n
 obtain⟨l,hl⟩:∃l,l=Lib.decDigits n:=⟨_,rfl⟩
 rw[←hl] at hp ha hne ⊢
 cases l with
 | nil=>exact absurd rfl hne
 | cons c r =>
   have hc:=ha c (List.mem_cons_self ..)
   unfold Lib.atoiAll Lib.parseMag
   dsimp only
   rw[if_neg (show ¬ (c.toNat=43∨c.toNat=45) by omega),if_neg (by simp),hp]
   dsimp only
   rw[if_neg (by omega),if_neg (by omega),if_neg (by omega)]
def eNum (s:List UInt8):Int × Bool :=
 match Lib.atoiAll s with
 | .ok v=>(v,decide (Lib.itoa v=s))
 | .range=>(Lib.atoiSat s,false)
 | _=>(0,false)
theorem decDigits_lt (n k:Nat) (h:n<10 ^ k) (hk:0<k):(Lib.decDigits n).length≤k:=by
 induction k generalizing n with
 | zero=>omega
 | succ k ih =>
   rw[Lib.decDigits]
   split
   ·simp
   ·rename_i h10
    have hk':0<k:=by rcases k with _ | k;(· simp at h;omega);omega
    have:=ih (n / 10) (by rw[Nat.pow_succ] at h;omega) hk'
    simp;omega
theorem eNum_dec (n:Nat) (h:n<9223372036854775808):eNum (Lib.decDigits n)=((n:Int),true):=by
 unfold eNum
 rw[atoi_dec n h]
 simp[Lib.itoa]
end
section
open Go Go.RowKit
end
section
open Go Go.RowKit
end
section
open Go Go.RowKit Go.Shelf
def IfCell (g:Nat) (w:World):Prop:=∃ev,w.cell? ⟨g,0,none⟩=some ev∧(ev=.nilIface∨∃te pe,ev=.iface te pe)
def NumVars (w:World):Prop:=IfCell 3 w∧IfCell 4 w∧∃m,w.cell? ⟨2,0,none⟩=some (.int .i64 m)
theorem cell_below {w w':World} {g:Nat} {v:Value} (hb:Below w.heap.size w w') (h:w.cell? ⟨g,0,none⟩=some v):w'.cell? ⟨g,0,none⟩=some v:=by
 have hlt:g<w.heap.size:=by
  rcases Nat.lt_or_ge g w.heap.size with h1 | h1
  ·exact h1
  ·exfalso
   unfold World.cell? at h
   simp only[Array.getElem?_eq_none h1] at h
   cases h
 exact(World.cell?_of_block (w:=w) (a:=⟨g,0,none⟩) (hb.block g hlt)).trans h
theorem IfCell.below {g:Nat} {w w':World} (h:IfCell g w) (hb:Below w.heap.size w w'):IfCell g w':=h.elim fun ev h=>⟨ev,cell_below hb h.1,h.2⟩
theorem NumVars.below {w w':World} (h:NumVars w) (hb:Below w.heap.size w w'):NumVars w':=⟨h.1.below hb,h.2.1.below hb,h.2.2.elim fun m h=>⟨m,cell_below hb h⟩⟩
theorem below_drewN (w:World) (n:Nat):Below w.heap.size w (w.drewN n):=⟨rfl,rfl,rfl,Nat.le_refl _,fun _ _=>rfl⟩
theorem strEq (a b:ByteArray):(a.toList==b.toList)=decide (a.data.toList=b.data.toList):=by
 rw[ByteArray.toList_eq,ByteArray.toList_eq,Bool.eq_iff_iff];simp
theorem atoi_bad (s:ByteArray) (hlim:s.size≤281474976710656) (h1:∀v,Lib.atoiAll s.data.toList≠.ok v) (h2:Lib.atoiAll s.data.toList≠.range) (ev:Value) (w:World) (hv:w.cell? ⟨3,0,none⟩=some ev) (hev:ev=.nilIface∨∃te pe,ev=.iface te pe) :
 Calls Tryz.prog 133 #[.string s] w fun e w'=>∃N,e=.returned (.tuple #[.int .i64 (0),.iface 306 (.pointer (some ⟨N,0,none⟩))])∧w.heap.size≤N∧w'.heap[N]?=some (.cells #[.string ⟨#[65,116,111,105]⟩,.string s,ev] 337 (0,0))∧Below w.heap.size w w':=by
 cases hx:Lib.atoiAll s.data.toList
 ·exact absurd hx (h1 _)
 ·exact Any.strconv_Atoi_syntax Tryz.laysC172 s hlim hx ev w hv hev
 ·exact absurd hx h2
theorem drop_at (s:ByteArray) (k:Nat) (h:k<s.size):s.data.toList.drop k=s[k] :: s.data.toList.drop (k+1):=by
 have h':k<s.data.toList.length:=h
 rw[List.drop_eq_getElem_cons h']
 rfl
end
end Go.Proofs.YtaofolgaiipcjaaGreatDoor
