/-
  The scanner of a snapshot's line: part, number. Conditions: the scanner's cells stand in its block; NumVars.
-/
import Derived.Test.YtbfcokcfabbklaaGreatDoorSN16Mrg
import Derived.Test.YtbfcokcfabbklaaGreatDoorSN10Mrg
namespace Go.Proofs.YtbfcokcfabbklaaGreatDoor
set_option linter.unusedVariables false
set_option linter.unusedSimpArgs false
section
open Go Go.RowKit Go.Shelf
abbrev scO (s:ByteArray):Obj:=.cells #[.string s,.bool false] 163
def cutS (s a b:ByteArray):Prop:=(⟨(Lib.cut s.data.toList [32]).1.toArray⟩:ByteArray)=a∧(⟨(Lib.cut s.data.toList [32]).2.1.toArray⟩:ByteArray)=b
theorem scPart_call (s a b:ByteArray) (hs:s.size≤1000) (hc:cutS s a b) (c:Nat) (w:World) (h:w.heap[c]?=some (scO s)) (hN:NumVars w) :
 Calls Tryz.prog 101 #[.pointer (some ⟨c,0,none⟩)] w fun e w'=>e=.returned (.string a)∧w'.heap[c]?=some (scO b)∧Turn (fun k=>k=c) w w':=by
 obtain⟨m,hm⟩:=hN.2.2
 obtain⟨fl,hfl⟩:∃fl,fl=(Lib.cut s.data.toList [32]).2.2:=⟨_,rfl⟩
 have HCUT:Hid (Calls Tryz.prog 161 #[.string s,.string ⟨#[32]⟩] w fun e w'=>e=.returned (.tuple #[.string a,.string b,.bool fl])∧Below w.heap.size w w'):=hid ((Tryz.strings_Cut s ⟨#[32]⟩ m w (by omega) hm).mono fun e w' ⟨he,k,hw⟩=>⟨by rw[he,←hc.1,←hc.2,hfl],by rw[hw];exact below_drewN _ _⟩)
 have H:=hid h
 have c0:=cellOf h 0
 (try dsimp only at c0)
 clear hm hfl hc hN h
 go_enter Tryz.func101,Tryz.ntmps101
 go_upto_region 2 with (go_at_call 161;refine HCUT.out.mono ?_;rintro e w2 ⟨rfl,hb2⟩;have g:=heapExt hb2 H.out;have HB:=hid hb2;have G:=hid g;clear hb2)
 clear c0
 have c0:=cellOf g 0
 have f0:=freeOf g 0
 (try dsimp only at c0)
 have hg:=heapSet (o:=0) (.string b) G.out
 simp only[List.setIfInBounds_toArray,List.set_cons_zero,List.set_cons_succ] at hg
 have HG:=hid hg
 clear g hg
 go_wp2
 go_ret
 exact⟨rfl,HG.out,(Turn.of_below HB.out).trans (Turn.setCell ⟨c,0,none⟩ _ rfl)⟩
theorem scNum_call (s a b:ByteArray) (hs:s.size≤1000) (hc:cutS s a b) (n:Int) (ha:a.size≤1000) (hok:atoiOK a.data.toList=true) (hv:atoiV a.data.toList=n) (c:Nat) (w:World) (h:w.heap[c]?=some (scO s)) (hN:NumVars w) (hNc:∀w',Turn (fun k=>k=c) w w'→NumVars w') :
 Calls Tryz.prog 93 #[.pointer (some ⟨c,0,none⟩)] w fun e w'=>e=.returned (.int .i64 n)∧w'.heap[c]?=some (scO b)∧Turn (fun k=>k=c) w w':=by
 have HP:=hid (scPart_call s a b hs hc c w h hN)
 have HA:=hid (fun (w':World) (h:Turn (fun k=>k=c) w w')=>atoi_call a (by omega) w' (hNc w' h))
 rw[hok,hv] at HA
 clear hc hok hv h hN hNc
 go_enter Tryz.func93,Tryz.ntmps93
 go_upto_region 2 with (first
  | (go_at_call 101;refine HP.out.mono ?_;rintro e w2 ⟨rfl,h2,ht2⟩;have H2:=hid h2;have HT2:=hid ht2;clear h2 ht2)
  | (go_at_call 62;refine(HA.out _ HT2.out).mono ?_;rintro e w3 ⟨ev,rfl,hev,hb3⟩;obtain rfl:ev=.nilIface:=hev.elim (fun h=>h.2) (fun h=>by cases h.1);have HB3:=hid hb3;clear hb3 hev))
 have g:=heapExt HB3.out H2.out
 have c1:=cellOf g 1
 have f1:=freeOf g 1
 (try dsimp only at c1)
 have hg:=heapSet (o:=1) (.bool false) g
 simp only[List.setIfInBounds_toArray,List.set_cons_zero,List.set_cons_succ] at hg
 have HG:=hid hg
 clear g hg
 go_wp2
 go_ret
 exact⟨rfl,HG.out,(HT2.out.trans (Turn.of_below HB3.out)).trans (Turn.setCell ⟨c,1,none⟩ _ rfl)⟩
end
section
open Go Go.RowKit Go.Shelf
abbrev rdO (lp:Value) (v e t:Int) (ap:Option Addr) (an ac:Nat):Obj:=.cells #[lp,.int .i64 v,.int .i64 e,.int .i64 t,.slice none 0 0,.slice ap an ac,.slice none 0 0,.slice none 0 0,.slice none 0 0,.slice none 0 0,.bool false] 157
theorem rdNext_no (word ln:ByteArray) (hw:word.size≤1000) (hp:Lib.hasPrefix ln.data.toList (word++⟨#[32]⟩).data.toList=false) (R L i n cap:Nat) (v e t:Int) (ap:Option Addr) (an ac:Nat) (w:World) (h:w.heap[R]?=some (rdO (.slice (some ⟨L,i,none⟩) (n+1) cap) v e t ap an ac)) (hl:w.cell? ⟨L,i,none⟩=some (.string ln)) (hn:n≤1000) :
 Calls Tryz.prog 92 #[.pointer (some ⟨R,0,none⟩),.string word] w fun e w'=>e=.returned (.tuple #[.pointer none,.bool false])∧Below w.heap.size w w':=by
 have HC:=hid (fun (w:World)=>Tryz.strings_CutPrefix ln (word++⟨#[32]⟩) w)
 rw[hp] at HC
 obtain⟨tr,htr⟩:∃tr:ByteArray,tr=⟨(Lib.trimPrefix ln.data.toList (word++⟨#[32]⟩).data.toList).toArray⟩:=⟨_,rfl⟩
 simp only[←htr] at HC
 have c0:=cellOf h 0
 have c10:=cellOf h 10
 (try dsimp only at c0 c10)
 have hz:¬ 9223372036854775807<word.size+1:=by omega
 have hn1:(((n+1:Nat):Int)==0)=false:=by simp;omega
 have hn2:((n:Int)+1==0)=false:=by simp;omega
 have hn3:(0:Int)<((n+1:Nat):Int):=by omega
 clear htr hp h
 go_enter Tryz.func92,Tryz.ntmps92
 go_wp2_with (go_at_call 61;refine(HC.out _).mono ?_;rintro e w3 ⟨rfl,hw3⟩;obtain rfl:=hw3.symm)
 go_ret2
 exact⟨rfl,Below.refl _ _⟩
theorem rdNext_ok (word ln rest:ByteArray) (hw:word.size≤1000) (hp:Lib.hasPrefix ln.data.toList (word++⟨#[32]⟩).data.toList=true) (hr:(⟨(Lib.trimPrefix ln.data.toList (word++⟨#[32]⟩).data.toList).toArray⟩:ByteArray)=rest) (R L i n cap:Nat) (hcap:1≤cap) (v e t:Int) (ap:Option Addr) (an ac:Nat) (w:World) (h:w.heap[R]?=some (rdO (.slice (some ⟨L,i,none⟩) (n+1+1) (cap+1)) v e t ap an ac)) (hl:w.cell? ⟨L,i,none⟩=some (.string ln)) (hn:n≤1000) (hnc:n+1≤cap) :
 Calls Tryz.prog 92 #[.pointer (some ⟨R,0,none⟩),.string word] w fun e' w'=>∃c,e'=.returned (.tuple #[.pointer (some ⟨c,0,none⟩),.bool true])∧w'.heap[c]?=some (scO rest)∧w.heap.size≤c∧w'.heap[R]?=some (rdO (.slice (some ⟨L,i+1,none⟩) (n+1) cap) v e t ap an ac)∧Turn (fun k=>k=R) w w':=by
 have HC:=hid (fun (w:World)=>Tryz.strings_CutPrefix ln (word++⟨#[32]⟩) w)
 rw[hp,hr] at HC
 have c0:=cellOf h 0
 have c10:=cellOf h 10
 have f0:=freeOf h 0
 (try dsimp only at c0 c10)
 have hz:¬ 9223372036854775807<word.size+1:=by omega
 have H:=hid h
 clear hr hp h
 go_enter Tryz.func92,Tryz.ntmps92
 go_upto_region 6 with (go_at_call 61;refine(HC.out _).mono ?_;rintro e w3 ⟨rfl,hw3⟩;obtain rfl:=hw3.symm)
 go_upto_region 7 with (fail)
 go_wp2
 go_ret2
 have hR:=heapSet (o:=0) (.slice (some ⟨L,i+1,none⟩) (n+1) cap) H.out
 simp only[List.setIfInBounds_toArray,List.set_cons_zero,List.set_cons_succ] at hR
 refine⟨w.heap.size,rfl,?_,Nat.le_refl _,?_,?_⟩
 ·exact heapNewAt _ _ _ (by simp[World.setCell])
 ·exact heapAlloc _ hR
 ·exact Turn.trans (Turn.setCell ⟨R,0,none⟩ _ rfl) (Turn.of_below ((Below.refl _ _).alloc (Nat.le_refl _) _))
end
end Go.Proofs.YtbfcokcfabbklaaGreatDoor
