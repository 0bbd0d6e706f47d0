/-
  snapshot.in, snapshot.Name, snapshot.Entry. Conditions: Tabs, NumVars; the text is not longer than 1000 bytes.
-/
import Derived.Test.YtbfcokcfabbklaaGreatDoorSN7Mrg
import Derived.Test.YtbfcokcfabbklaaGreatDoorSN10Mrg
namespace Go.Proofs.YtbfcokcfabbklaaGreatDoor
set_option linter.unusedVariables false
set_option maxRecDepth 100000
set_option maxHeartbeats 16000000
set_option linter.unusedSimpArgs false
section
open Go Go.RowKit Go.Shelf
theorem snIn_call (n a b:Int) (p:Bool) (hp:p=(decide (a≤n)&&decide (n≤b))) (w:World):Calls Tryz.prog 29 #[.int .i64 n,.int .i64 a,.int .i64 b] w fun e w'=>e=.returned (.bool p)∧w'=w:=by
 by_cases h1:a≤n
 ·by_cases h2:n≤b
  ·have hq:p=true:=by rw[hp,decide_eq_true h1,decide_eq_true h2];rfl
   clear hp
   subst hq
   go_enter Tryz.func29,Tryz.ntmps29
   go_wp2
   go_ret
   exact⟨rfl,rfl⟩
  ·have hq:p=false:=by rw[hp,decide_eq_true h1,decide_eq_false h2];rfl
   clear hp
   subst hq
   go_enter Tryz.func29,Tryz.ntmps29
   go_wp2
   go_ret
   exact⟨rfl,rfl⟩
 ·have hq:p=false:=by rw[hp,decide_eq_false h1];rfl
  clear hp
  subst hq
  go_enter Tryz.func29,Tryz.ntmps29
  go_wp2
  go_ret
  exact⟨rfl,rfl⟩
def inQ (n a b:Int):Bool:=decide (a≤n)&&decide (n≤b)
theorem inQ_true {n a b:Int} (h:a≤n∧n≤b):inQ n a b=true:=by unfold inQ;rw[decide_eq_true h.1,decide_eq_true h.2];rfl
theorem snInQ_call (n a b:Int) (w:World):Calls Tryz.prog 29 #[.int .i64 n,.int .i64 a,.int .i64 b] w fun e w'=>e=.returned (.bool (inQ n a b))∧w'=w:=snIn_call n a b _ rfl w
theorem snName_eq (v:Nat) (h:v≤1048576):((⟨#[115,110,97,112,115,104,111,116,46]⟩:ByteArray)++⟨(Lib.repeatL [48] (7-(itoaB (v:Int)).size)).toArray⟩)++itoaB (v:Int)=snName v:=by
 apply ByteArray.ext
 apply Array.ext'
 have hi:Lib.itoa (v:Int)=Lib.decDigits v:=by unfold Lib.itoa;rw[if_neg (by omega)];rfl
 have hz:(itoaB (v:Int)).size=(Lib.decDigits v).length:=by unfold itoaB;rw[hi];simp[ByteArray.size]
 have hr:∀c:Nat,Lib.repeatL [48] c=List.replicate c (48:UInt8):=by
  intro c
  induction c with
  | zero=>rfl
  | succ c ih=>rw[List.replicate_succ,←ih];rfl
 rw[snName_list,hz,hr]
 unfold digZ snPre itoaB
 rw[hi]
 simp
theorem decDigits_le7 (v:Nat) (h:v≤1048576):(Lib.decDigits v).length≤7:=by
 have hd:=digZ_len v 6
 by_cases hl:(Lib.decDigits v).length≤7
 ·exact hl
 ·exfalso
  have h1:∀(k n:Nat),n<10 ^ k→0<k→(Lib.decDigits n).length≤k:=by
   intro k
   induction k with
   | zero=>intro n _ h;omega
   | succ k ih =>
     intro n hn _
     rw[Lib.decDigits]
     split
     ·simp
     ·rename_i hg
      have hk:0<k:=by
       rcases Nat.eq_zero_or_pos k with h0 | h0
       ·subst h0;omega
       ·exact h0
      have:=ih (n / 10) (by rw[Nat.pow_succ] at hn;omega) hk
      rw[List.length_append,List.length_singleton]
      omega
  exact hl (h1 7 v (by omega) (by omega))
theorem snapName_ok (v:Nat) (h:v≤1048576) (w:World) (hT:Tabs w) :
 Calls Tryz.prog 13 #[.int .i64 v] w fun e w'=>e=.returned (.tuple #[.string (snName v),.int .i64 0])∧Below w.heap.size w w':=by
 have HI:=hid (itoa_call (v:Int) (by unfold I64;omega) w hT)
 have HN:=hid (snIn_call v 0 1048576 true (by rw[decide_eq_true (by omega),decide_eq_true (by omega)];rfl) w)
 have hi:Lib.itoa (v:Int)=Lib.decDigits v:=by unfold Lib.itoa;rw[if_neg (by omega)];rfl
 have hz:(itoaB (v:Int)).size≤7:=by
  have:=decDigits_le7 v h
  unfold itoaB
  rw[hi]
  simpa [ByteArray.size] using this
 have hE:=snName_eq v h
 obtain⟨s,hs⟩:∃s,s=itoaB (v:Int):=⟨_,rfl⟩
 rw[←hs] at HI hz hE
 obtain⟨c,hc⟩:∃c,c=7-s.size:=⟨_,rfl⟩
 rw[←hc] at hE
 have HR:=hid (fun w=>Tryz.strings_Repeat ⟨#[48]⟩ c w (by omega) (by have:(⟨#[48]⟩:ByteArray).size=1:=rfl;rw[this];omega))
 have e7:(⟨#[48]⟩:ByteArray).data.toList=[48]:=rfl
 simp only[e7] at HR
 obtain⟨r,hr⟩:∃r:ByteArray,r=⟨(Lib.repeatL [48] c).toArray⟩:=⟨_,rfl⟩
 rw[←hr] at hE
 simp only[←hr] at HR
 have hrz:r.size≤7:=by
  rw[hr]
  have hq:∀c:Nat,Lib.repeatL [48] c=List.replicate c (48:UInt8):=by
   intro c
   induction c with
   | zero=>rfl
   | succ c ih=>rw[List.replicate_succ,←ih];rfl
  rw[hq]
  simp[ByteArray.size]
  omega
 have hw7:IntKind.i64.wrap (7-(s.size:Int))=(c:Int):=(IntWalk.i64_in _ (by omega)).trans (by omega)
 have hsz:(s.size:Int)≤7:=by omega
 have HE:=hid hE
 clear hE hs hc hi h hr e7 hz
 go_enter Tryz.func13,Tryz.ntmps13
 go_wp2_with (first
  | (go_at_call 29;refine HN.out.mono ?_;rintro e w3 ⟨rfl,hw3⟩;obtain rfl:=hw3.symm)
  | (go_at_call 60;refine(HR.out _).mono ?_;rintro e w4 ⟨rfl,hb4⟩)
  | (go_at_call 59;refine HI.out.mono ?_;rintro e w5 ⟨rfl,hb5⟩))
 go_ret2
 exact⟨by first | rfl | (rw[HE.out];rfl),hb5.trans (hb4.mono hb5.size)⟩
theorem snapName_bad (n:Int) (h:n<0∨1048576<n) (w:World) :
 Calls Tryz.prog 13 #[.int .i64 n] w fun e w'=>e=.returned (.tuple #[.string ⟨#[]⟩,.int .i64 2])∧Below w.heap.size w w':=by
 have HN:=hid (snIn_call n 0 1048576 false (by
  rcases h with h | h
  ·rw[decide_eq_false (show ¬ (0:Int)≤n by omega)];rfl
  ·rw[decide_eq_false (show ¬ n≤(1048576:Int) by omega),Bool.and_false]) w)
 clear h
 go_enter Tryz.func13,Tryz.ntmps13
 go_wp2_with (go_at_call 29;refine HN.out.mono ?_;rintro e w3 ⟨rfl,hw3⟩;obtain rfl:=hw3.symm)
 go_ret2
 exact⟨rfl,Below.refl _ _⟩
end
section
open Go Go.RowKit Go.Shelf
theorem pre_take (l:List UInt8):Lib.hasPrefix l snPre=true ↔ l.take 9=snPre:=by
 rw[←Lib.hasPrefix_of_take]
 constructor
 ·intro h
  simp only[Bool.and_eq_true,decide_eq_true_eq,beq_iff_eq] at h
  exact h.2
 ·intro h
  have hl:9≤l.length:=by
   have:=congrArg List.length h
   rw[List.length_take] at this
   have e:snPre.length=9:=rfl
   rw[e] at this
   omega
  simp only[Bool.and_eq_true,decide_eq_true_eq,beq_iff_eq]
  exact⟨hl,h⟩
theorem snEntry_no {s:ByteArray} (h:¬ (s.data.toList.take 9=snPre∧atoiOK (s.data.toList.drop 9)=true∧0≤atoiV (s.data.toList.drop 9)∧atoiV (s.data.toList.drop 9)≤1048576∧snName (atoiV (s.data.toList.drop 9)).toNat=s)):snEntry s=(0,false):=by
 unfold snEntry
 dsimp only
 rw[if_neg h]
theorem snEntry_yes {s:ByteArray} (h:s.data.toList.take 9=snPre∧atoiOK (s.data.toList.drop 9)=true∧0≤atoiV (s.data.toList.drop 9)∧atoiV (s.data.toList.drop 9)≤1048576∧snName (atoiV (s.data.toList.drop 9)).toNat=s):snEntry s=(atoiV (s.data.toList.drop 9),true):=by
 unfold snEntry
 dsimp only
 rw[if_pos h]
theorem snapEntry_call (s:ByteArray) (hs:s.size≤1000) (w:World) (hT:Tabs w) (hN:NumVars w) :
 Calls Tryz.prog 14 #[.string s] w fun e w'=>e=.returned (.tuple #[.int .i64 (snEntry s).1,.bool (snEntry s).2])∧Below w.heap.size w w':=by
 have HC:=hid (fun (w:World)=>Tryz.strings_CutPrefix s ⟨#[115,110,97,112,115,104,111,116,46]⟩ w)
 have e0:(⟨#[115,110,97,112,115,104,111,116,46]⟩:ByteArray).data.toList=snPre:=rfl
 rw[e0] at HC
 obtain⟨hp,hhp⟩:∃hp,hp=Lib.hasPrefix s.data.toList snPre:=⟨_,rfl⟩
 obtain⟨r,hr⟩:∃r:ByteArray,r=⟨(Lib.trimPrefix s.data.toList snPre).toArray⟩:=⟨_,rfl⟩
 have hrz:r.size≤1000:=by
  have hl:s.data.toList.length≤1000:=by rw[Array.length_toList];exact hs
  rw[hr]
  show((Lib.trimPrefix s.data.toList snPre).toArray).size≤1000
  rw[List.size_toArray]
  unfold Lib.trimPrefix
  split
  ·rw[List.length_drop];omega
  ·exact hl
 simp only[←hhp,←hr] at HC
 obtain⟨v,hv⟩:∃v,v=atoiV r.data.toList:=⟨_,rfl⟩
 obtain⟨ok,hok⟩:∃ok,ok=atoiOK r.data.toList:=⟨_,rfl⟩
 have hI:=atoiV_bounds r.data.toList
 rw[←hv] at hI
 have HA:=hid (fun (w':World) (h:Below w.heap.size w w')=>atoi_call r (by omega) w' (hN.below h))
 rw[←hv,←hok] at HA
 have hdrop:hp=true→r.data.toList=s.data.toList.drop 9:=fun h=>by
  rw[hr]
  show(Lib.trimPrefix s.data.toList snPre)=_
  unfold Lib.trimPrefix
  rw[←hhp,h,if_pos rfl]
  rfl
 have HTB:=hid (fun (w':World) (h:Below w.heap.size w w')=>hT.below h)
 have R:=hid (Below.refl w.heap.size w)
 have hpt:=pre_take s.data.toList
 rw[←hhp] at hpt
 cases hp with
 | false =>
   have hE:snEntry s=(0,false):=snEntry_no (fun h=>by have:=hpt.2 h.1;cases this)
   have HE:=hid hE
   clear hE hdrop hpt hhp hr hv hok hN hT e0
   go_enter Tryz.func14,Tryz.ntmps14
   go_wp2_with (first
    | (go_at_call 61;refine(HC.out _).mono ?_;rintro e w3 ⟨rfl,hw3⟩;obtain rfl:=hw3.symm)
    | (go_at_call 62;refine(HA.out _ R.out).mono ?_;rintro e w4 ⟨ev,rfl,hev,hb4⟩))
   go_ret2
   exact⟨by first | (rw[HE.out];rfl) | rw[HE.out],hb4⟩
 | true =>
   have hd:=hdrop rfl
   have hp9:=hpt.1 rfl
   rw[hd] at hv hok
   cases ok with
   | false =>
     have hE:snEntry s=(0,false):=snEntry_no (fun h=>by have:=h.2.1;rw[←hok] at this;cases this)
     have HE:=hid hE
     clear hE hdrop hpt hhp hr hv hok hN hT hd hp9 e0
     go_enter Tryz.func14,Tryz.ntmps14
     go_wp2_with (first
      | (go_at_call 61;refine(HC.out _).mono ?_;rintro e w3 ⟨rfl,hw3⟩;obtain rfl:=hw3.symm)
      | (go_at_call 62;refine(HA.out _ R.out).mono ?_;rintro e w4 ⟨ev,rfl,hev,hb4⟩;obtain⟨p,rfl⟩:∃p,ev=.iface 258 p:=hev.elim (fun h=>by cases h.1) (fun h=>h.2)))
     go_ret2
     exact⟨by first | (rw[HE.out];rfl) | rw[HE.out],hb4⟩
   | true =>
     by_cases hin:0≤v∧v≤1048576
     ·obtain⟨n,rfl⟩:∃n:Nat,v=(n:Int):=⟨v.toNat,by omega⟩
      have hn:n≤1048576:=by omega
      have HNM:=hid (fun (w':World) (h:Tabs w')=>snapName_ok n hn w' h)
      by_cases heq:snName n=s
      ·have hE:snEntry s=((n:Int),true):=by
        rw[snEntry_yes ⟨hp9,hok.symm,by rw[←hv];exact hin.1,by rw[←hv];exact hin.2,by rw[←hv];simpa using heq⟩,←hv]
       have HE:=hid hE
       obtain⟨z,hz⟩:∃z,z=snName n:=⟨_,rfl⟩
       have q1:(z.toList==s.toList)=true:=by rw[hz,heq];exact beq_self_eq_true _
       have q2:(z.toList != s.toList)=false:=by rw[hz,heq];simp
       rw[←hz] at HNM
       clear hE hdrop hpt hhp hr hv hok hN hT hd hp9 heq hz hI hin hn e0
       go_enter Tryz.func14,Tryz.ntmps14
       go_wp2_with (first
        | (go_at_call 61;refine(HC.out _).mono ?_;rintro e w3 ⟨rfl,hw3⟩;obtain rfl:=hw3.symm)
        | (go_at_call 62;refine(HA.out _ R.out).mono ?_;rintro e w4 ⟨ev,rfl,hev,hb4⟩;obtain rfl:ev=.nilIface:=hev.elim (fun h=>h.2) (fun h=>by cases h.1))
        | (go_at_call 13;refine(HNM.out _ (HTB.out _ hb4)).mono ?_;rintro e w5 ⟨rfl,hb5⟩))
       go_ret2
       exact⟨by first | (rw[HE.out];rfl) | rw[HE.out],hb4.trans (hb5.mono hb4.size)⟩
      ·have hE:snEntry s=(0,false):=snEntry_no (fun h=>heq (by have:=h.2.2.2.2;rw[←hv] at this;simpa using this))
       have HE:=hid hE
       obtain⟨z,hz⟩:∃z,z=snName n:=⟨_,rfl⟩
       have hne:z.toList≠s.toList:=fun h=>heq (by
        rw[←hz]
        rw[ByteArray.toList_eq,ByteArray.toList_eq] at h
        exact ByteArray.ext (Array.ext' h))
       have q1:(z.toList==s.toList)=false:=by simp[hne]
       have q2:(z.toList != s.toList)=true:=by simp[bne,q1]
       rw[←hz] at HNM
       clear hE hdrop hpt hhp hr hv hok hN hT hd hp9 heq hz hI hin hn hne e0
       go_enter Tryz.func14,Tryz.ntmps14
       go_wp2_with (first
        | (go_at_call 61;refine(HC.out _).mono ?_;rintro e w3 ⟨rfl,hw3⟩;obtain rfl:=hw3.symm)
        | (go_at_call 62;refine(HA.out _ R.out).mono ?_;rintro e w4 ⟨ev,rfl,hev,hb4⟩;obtain rfl:ev=.nilIface:=hev.elim (fun h=>h.2) (fun h=>by cases h.1))
        | (go_at_call 13;refine(HNM.out _ (HTB.out _ hb4)).mono ?_;rintro e w5 ⟨rfl,hb5⟩))
       go_ret2
       exact⟨by first | (rw[HE.out];rfl) | rw[HE.out],hb4.trans (hb5.mono hb4.size)⟩
     ·have hE:snEntry s=(0,false):=snEntry_no (fun h=>hin (by rw[hv];exact⟨h.2.2.1,h.2.2.2.1⟩))
      have HE:=hid hE
      have HNM:=hid (fun (w':World)=>snapName_bad v (by omega) w')
      clear hE hdrop hpt hhp hr hv hok hN hT hd hp9 hin e0
      go_enter Tryz.func14,Tryz.ntmps14
      go_wp2_with (first
       | (go_at_call 61;refine(HC.out _).mono ?_;rintro e w3 ⟨rfl,hw3⟩;obtain rfl:=hw3.symm)
       | (go_at_call 62;refine(HA.out _ R.out).mono ?_;rintro e w4 ⟨ev,rfl,hev,hb4⟩;obtain rfl:ev=.nilIface:=hev.elim (fun h=>h.2) (fun h=>by cases h.1))
       | (go_at_call 13;refine(HNM.out _).mono ?_;rintro e w5 ⟨rfl,hb5⟩))
      go_ret2
      exact⟨by first | (rw[HE.out];rfl) | rw[HE.out],hb4.trans (hb5.mono hb4.size)⟩
end
end Go.Proofs.YtbfcokcfabbklaaGreatDoor
