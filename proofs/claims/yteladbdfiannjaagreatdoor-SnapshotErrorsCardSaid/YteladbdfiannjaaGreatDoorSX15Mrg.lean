/- A part. -/
import Derived.Test.YteladbdfiannjaaGreatDoorSX14Mrg
namespace Go.Proofs.YteladbdfiannjaaGreatDoor
set_option linter.unusedVariables false
set_option linter.unusedSimpArgs false
open Go Go.RowKit Go.Shelf
theorem lT (n a b:Int) (p:Bool) (hp:p=(decide (a≤n)&&decide (n≤b))) (w:World):Calls Tryz.prog 25 #[.int .i64 n,.int .i64 a,.int .i64 b] w fun e w'=>e=.returned (.bool p)∧w'=w:=by
 by_cases h1:a≤n
 ·by_cases h2:n≤b
  ·have hq:p=true:=by rw[hp,decide_eq_true h1,decide_eq_true h2];rfl
   clear hp
   subst hq
   go_enter Tryz.func25,Tryz.ntmps25
   go_wp2
   go_ret
   exact⟨rfl,rfl⟩
  ·have hq:p=false:=by rw[hp,decide_eq_true h1,decide_eq_false h2];rfl
   clear hp
   subst hq
   go_enter Tryz.func25,Tryz.ntmps25
   go_wp2
   go_ret
   exact⟨rfl,rfl⟩
 ·have hq:p=false:=by rw[hp,decide_eq_false h1];rfl
  clear hp
  subst hq
  go_enter Tryz.func25,Tryz.ntmps25
  go_wp2
  go_ret
  exact⟨rfl,rfl⟩
def inQ (n a b:Int):Bool:=decide (a≤n)&&decide (n≤b)
theorem nQ {n a b:Int} (h:a≤n∧n≤b):inQ n a b=true:=by unfold inQ;rw[decide_eq_true h.1,decide_eq_true h.2];rfl
theorem aL (n a b:Int) (w:World):Calls Tryz.prog 25 #[.int .i64 n,.int .i64 a,.int .i64 b] w fun e w'=>e=.returned (.bool (inQ n a b))∧w'=w:=lT n a b _ rfl w
theorem zO (v:Nat) (h:v≤1048576):((⟨#[115,110,97,112,115,104,111,116,46]⟩:ByteArray)++⟨(Lib.repeatL [48] (7-(aF (v:Int)).size)).toArray⟩)++aF (v:Int)=kG v:=by
 apply ByteArray.ext
 apply Array.ext'
 have hi:Lib.itoa (v:Int)=Lib.decDigits v:=by unfold Lib.itoa;rw[if_neg (by omega)];rfl
 have hz:(aF (v:Int)).size=(Lib.decDigits v).length:=by unfold aF;rw[hi];simp[ByteArray.size]
 have hr:∀c:Nat,Lib.repeatL [48] c=List.replicate c (48:UInt8):=by
  intro c
  induction c with
  | zero=>rfl
  | succ c ih=>rw[List.replicate_succ,←ih];rfl
 rw[tO,hz,hr]
 unfold xW aC5 aF
 rw[hi]
 simp
theorem pL (v:Nat) (h:v≤1048576):(Lib.decDigits v).length≤7:=by
 have hd:=aDb v 6
 by_cases hl:(Lib.decDigits v).length≤7
 ·exact hl
 ·exfalso
  have h1:∀(k n:Nat),n<10 ^ k→0<k→(Lib.decDigits n).length≤k:=by
   intro k
   induction k with
   | zero=>intro n _ h;omega
   | succ k ih =>
     intro n hn _
     rw[Lib.decDigits]
     split
     ·simp
     ·rename_i hg
      have hk:0<k:=by
       rcases Nat.eq_zero_or_pos k with h0 | h0
       ·subst h0;omega
       ·exact h0
      have:=ih (n / 10) (by rw[Nat.pow_succ] at hn;omega) hk
      rw[List.length_append,List.length_singleton]
      omega
  exact hl (h1 7 v (by omega) (by omega))
theorem tM (v:Nat) (h:v≤1048576) (w:World) (hT:Tabs w) :
 Calls Tryz.prog 24 #[.int .i64 v] w fun e w'=>e=.returned (.tuple #[.string (kG v),.int .i64 0])∧Below w.heap.size w w':=by
 have HI:=hid (bD (v:Int) (by unfold I64;omega) w hT)
 have HN:=hid (lT v 0 1048576 true (by rw[decide_eq_true (by omega),decide_eq_true (by omega)];rfl) w)
 have hi:Lib.itoa (v:Int)=Lib.decDigits v:=by unfold Lib.itoa;rw[if_neg (by omega)];rfl
 have hz:(aF (v:Int)).size≤7:=by
  have:=pL v h
  unfold aF
  rw[hi]
  simpa [ByteArray.size] using this
 have hE:=zO v h
 obtain⟨s,hs⟩:∃s,s=aF (v:Int):=⟨_,rfl⟩
 rw[←hs] at HI hz hE
 obtain⟨c,hc⟩:∃c,c=7-s.size:=⟨_,rfl⟩
 rw[←hc] at hE
 have HR:=hid (fun w=>Tryz.strings_Repeat ⟨#[48]⟩ c w (by omega) (by have:(⟨#[48]⟩:ByteArray).size=1:=rfl;rw[this];omega))
 have e7:(⟨#[48]⟩:ByteArray).data.toList=[48]:=rfl
 simp only[e7] at HR
 obtain⟨r,hr⟩:∃r:ByteArray,r=⟨(Lib.repeatL [48] c).toArray⟩:=⟨_,rfl⟩
 rw[←hr] at hE
 simp only[←hr] at HR
 have hrz:r.size≤7:=by
  rw[hr]
  have hq:∀c:Nat,Lib.repeatL [48] c=List.replicate c (48:UInt8):=by
   intro c
   induction c with
   | zero=>rfl
   | succ c ih=>rw[List.replicate_succ,←ih];rfl
  rw[hq]
  simp[ByteArray.size]
  omega
 have hw7:IntKind.i64.wrap (7-(s.size:Int))=(c:Int):=(IntWalk.i64_in _ (by omega)).trans (by omega)
 have hsz:(s.size:Int)≤7:=by omega
 have HE:=hid hE
 clear hE hs hc hi h hr e7 hz
 go_enter Tryz.func24,Tryz.ntmps24
 go_wp2_with (first
  | (go_at_call 25;refine HN.out.mono ?_;rintro e w3 ⟨rfl,hw3⟩;obtain rfl:=hw3.symm)
  | (go_at_call 102;refine(HR.out _).mono ?_;rintro e w4 ⟨rfl,hb4⟩)
  | (go_at_call 80;refine HI.out.mono ?_;rintro e w5 ⟨rfl,hb5⟩))
 go_ret2
 exact⟨by first | rfl | (rw[HE.out];rfl),hb5.trans (hb4.mono hb5.size)⟩
end Go.Proofs.YteladbdfiannjaaGreatDoor
