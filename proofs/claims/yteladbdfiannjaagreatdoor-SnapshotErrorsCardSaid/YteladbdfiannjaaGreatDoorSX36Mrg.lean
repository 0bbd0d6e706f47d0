/- A part. -/
import Derived.Test.YteladbdfiannjaaGreatDoorSX14Mrg
import Derived.RangeFuncBox
namespace Go.Proofs.YteladbdfiannjaaGreatDoor
set_option linter.unusedVariables false
set_option linter.unusedSimpArgs false
section
open Go Go.RowKit
end
section
open Go Go.RowKit
structure Turn (R:Nat→Prop) (X Y:World):Prop where
 os:Y.os=X.os
 tape:Y.tape=X.tape
 output:Y.output=X.output
 size:X.heap.size≤Y.heap.size
 block:∀k,k<X.heap.size→¬ R k→Y.heap[k]?=X.heap[k]?
theorem Turn.of_grown {R:Nat→Prop} {X Y:World} {row:Option Nat} (h:X.grownBy Y row) (hr:∀r,row=some r→R r):Turn R X Y :=
 ⟨h.os,h.tape,h.output,h.size,fun k hk hR=>h.block k hk (fun e=>hR (hr k e.symm))⟩
theorem Turn.of_below {R:Nat→Prop} {X Y:World} (h:Below X.heap.size X Y):Turn R X Y :=
 ⟨h.os,h.tape,h.output,h.size,fun k hk _=>h.block k hk⟩
theorem Turn.mono {R R':Nat→Prop} {X Y:World} (h:Turn R X Y) (hr:∀k,R k→R' k):Turn R' X Y :=
 ⟨h.os,h.tape,h.output,h.size,fun k hk hR=>h.block k hk (fun e=>hR (hr k e))⟩
theorem Turn.refl (R:Nat→Prop) (w:World):Turn R w w:=⟨rfl,rfl,rfl,Nat.le_refl _,fun _ _ _=>rfl⟩
theorem Turn.trans {R:Nat→Prop} {a b c:World} (h:Turn R a b) (k:Turn R b c):Turn R a c :=
 ⟨k.os.trans h.os,k.tape.trans h.tape,k.output.trans h.output,Nat.le_trans h.size k.size,fun i hi hR=>(k.block i (Nat.lt_of_lt_of_le hi h.size) hR).trans (h.block i hi hR)⟩
theorem Turn.setCell {R:Nat→Prop} {w:World} (a:Addr) (v:Value) (h:R a.block):Turn R w (w.setCell a v) :=
 ⟨rfl,rfl,rfl,by simp[World.setCell],fun k _ hR=>Below.heap_setCell _ _ _ _ (fun e=>hR (e▸h))⟩
theorem Turn.keep {R:Nat→Prop} {X Y:World} (h:Turn R X Y) {k:Nat} {o:Obj} (hk:X.heap[k]?=some o) (hR:¬ R k):Y.heap[k]?=some o:=(h.block k (Array.getElem?_eq_some_iff.1 hk).1 hR).trans hk
section
variable {α:Type}
end
end
section
open Go Go.RowKit Go.Shelf
abbrev scO (s:ByteArray):Obj:=.cells #[.string s,.bool false] 159
def mC (s a b:ByteArray):Prop:=(⟨(Lib.cut s.data.toList [32]).1.toArray⟩:ByteArray)=a∧(⟨(Lib.cut s.data.toList [32]).2.1.toArray⟩:ByteArray)=b
theorem mG (s a b:ByteArray) (hs:s.size≤1000) (hc:mC s a b) (c:Nat) (w:World) (h:w.heap[c]?=some (scO s)) (hN:NumVars w) :
 Calls Tryz.prog 95 #[.pointer (some ⟨c,0,none⟩)] w fun e w'=>e=.returned (.string a)∧w'.heap[c]?=some (scO b)∧Turn (fun k=>k=c) w w':=by
 obtain⟨m,hm⟩:=hN.2.2
 obtain⟨fl,hfl⟩:∃fl,fl=(Lib.cut s.data.toList [32]).2.2:=⟨_,rfl⟩
 have HCUT:Hid (Calls Tryz.prog 152 #[.string s,.string ⟨#[32]⟩] w fun e w'=>e=.returned (.tuple #[.string a,.string b,.bool fl])∧Below w.heap.size w w'):=hid ((Tryz.strings_Cut s ⟨#[32]⟩ m w (by omega) hm).mono fun e w' ⟨he,k,hw⟩=>⟨by rw[he,←hc.1,←hc.2,hfl],by rw[hw];exact below_drewN _ _⟩)
 have H:=hid h
 have c0:=aA h 0
 (try dsimp only at c0)
 clear hm hfl hc hN h
 go_enter Tryz.func95,Tryz.ntmps95
 go_upto_region 2 with (go_at_call 152;refine HCUT.out.mono ?_;rintro e w2 ⟨rfl,hb2⟩;have g:=aB hb2 H.out;have HB:=hid hb2;have G:=hid g;clear hb2)
 clear c0
 have c0:=aA g 0
 have f0:=aE g 0
 (try dsimp only at c0)
 have hg:=aD (o:=0) (.string b) G.out
 simp only[List.setIfInBounds_toArray,List.set_cons_zero,List.set_cons_succ] at hg
 have HG:=hid hg
 clear g hg
 go_wp2
 go_ret
 exact⟨rfl,HG.out,(Turn.of_below HB.out).trans (Turn.setCell ⟨c,0,none⟩ _ rfl)⟩
theorem iF (s a b:ByteArray) (hs:s.size≤1000) (hc:mC s a b) (n:Int) (ha:a.size≤1000) (hok:gJ a.data.toList=true) (hv:mM a.data.toList=n) (c:Nat) (w:World) (h:w.heap[c]?=some (scO s)) (hN:NumVars w) (hNc:∀w',Turn (fun k=>k=c) w w'→NumVars w') :
 Calls Tryz.prog 87 #[.pointer (some ⟨c,0,none⟩)] w fun e w'=>e=.returned (.int .i64 n)∧w'.heap[c]?=some (scO b)∧Turn (fun k=>k=c) w w':=by
 have HP:=hid (mG s a b hs hc c w h hN)
 have HA:=hid (fun (w':World) (h:Turn (fun k=>k=c) w w')=>aBj a (by omega) w' (hNc w' h))
 rw[hok,hv] at HA
 clear hc hok hv h hN hNc
 go_enter Tryz.func87,Tryz.ntmps87
 go_upto_region 2 with (first
  | (go_at_call 95;refine HP.out.mono ?_;rintro e w2 ⟨rfl,h2,ht2⟩;have H2:=hid h2;have HT2:=hid ht2;clear h2 ht2)
  | (go_at_call 135;refine(HA.out _ HT2.out).mono ?_;rintro e w3 ⟨ev,rfl,hev,hb3⟩;obtain rfl:ev=.nilIface:=hev.elim (fun h=>h.2) (fun h=>by cases h.1);have HB3:=hid hb3;clear hb3 hev))
 have g:=aB HB3.out H2.out
 have c1:=aA g 1
 have f1:=aE g 1
 (try dsimp only at c1)
 have hg:=aD (o:=1) (.bool false) g
 simp only[List.setIfInBounds_toArray,List.set_cons_zero,List.set_cons_succ] at hg
 have HG:=hid hg
 clear g hg
 go_wp2
 go_ret
 exact⟨rfl,HG.out,(HT2.out.trans (Turn.of_below HB3.out)).trans (Turn.setCell ⟨c,1,none⟩ _ rfl)⟩
end
section
open Go Go.RowKit Go.Shelf
abbrev rdO (lp:Value) (v e t:Int) (ap:Option Addr) (an ac:Nat):Obj:=.cells #[lp,.int .i64 v,.int .i64 e,.int .i64 t,.slice none 0 0,.slice ap an ac,.slice none 0 0,.slice none 0 0,.slice none 0 0,.slice none 0 0,.bool false] 153
theorem qD (word ln:ByteArray) (hw:word.size≤1000) (hp:Lib.hasPrefix ln.data.toList (word++⟨#[32]⟩).data.toList=false) (R L i n cap:Nat) (v e t:Int) (ap:Option Addr) (an ac:Nat) (w:World) (h:w.heap[R]?=some (rdO (.slice (some ⟨L,i,none⟩) (n+1) cap) v e t ap an ac)) (hl:w.cell? ⟨L,i,none⟩=some (.string ln)) (hn:n≤1000) :
 Calls Tryz.prog 86 #[.pointer (some ⟨R,0,none⟩),.string word] w fun e w'=>e=.returned (.tuple #[.pointer none,.bool false])∧Below w.heap.size w w':=by
 have HC:=hid (fun (w:World)=>Tryz.strings_CutPrefix ln (word++⟨#[32]⟩) w)
 rw[hp] at HC
 obtain⟨tr,htr⟩:∃tr:ByteArray,tr=⟨(Lib.trimPrefix ln.data.toList (word++⟨#[32]⟩).data.toList).toArray⟩:=⟨_,rfl⟩
 simp only[←htr] at HC
 have c0:=aA h 0
 have c10:=aA h 10
 (try dsimp only at c0 c10)
 have hz:¬ 9223372036854775807<word.size+1:=by omega
 have hn1:(((n+1:Nat):Int)==0)=false:=by simp;omega
 have hn2:((n:Int)+1==0)=false:=by simp;omega
 have hn3:(0:Int)<((n+1:Nat):Int):=by omega
 clear htr hp h
 go_enter Tryz.func86,Tryz.ntmps86
 go_wp2_with (go_at_call 134;refine(HC.out _).mono ?_;rintro e w3 ⟨rfl,hw3⟩;obtain rfl:=hw3.symm)
 go_ret2
 exact⟨rfl,Below.refl _ _⟩
theorem qC (word ln rest:ByteArray) (hw:word.size≤1000) (hp:Lib.hasPrefix ln.data.toList (word++⟨#[32]⟩).data.toList=true) (hr:(⟨(Lib.trimPrefix ln.data.toList (word++⟨#[32]⟩).data.toList).toArray⟩:ByteArray)=rest) (R L i n cap:Nat) (hcap:1≤cap) (v e t:Int) (ap:Option Addr) (an ac:Nat) (w:World) (h:w.heap[R]?=some (rdO (.slice (some ⟨L,i,none⟩) (n+1+1) (cap+1)) v e t ap an ac)) (hl:w.cell? ⟨L,i,none⟩=some (.string ln)) (hn:n≤1000) (hnc:n+1≤cap) :
 Calls Tryz.prog 86 #[.pointer (some ⟨R,0,none⟩),.string word] w fun e' w'=>∃c,e'=.returned (.tuple #[.pointer (some ⟨c,0,none⟩),.bool true])∧w'.heap[c]?=some (scO rest)∧w.heap.size≤c∧w'.heap[R]?=some (rdO (.slice (some ⟨L,i+1,none⟩) (n+1) cap) v e t ap an ac)∧Turn (fun k=>k=R) w w':=by
 have HC:=hid (fun (w:World)=>Tryz.strings_CutPrefix ln (word++⟨#[32]⟩) w)
 rw[hp,hr] at HC
 have c0:=aA h 0
 have c10:=aA h 10
 have f0:=aE h 0
 (try dsimp only at c0 c10)
 have hz:¬ 9223372036854775807<word.size+1:=by omega
 have H:=hid h
 clear hr hp h
 go_enter Tryz.func86,Tryz.ntmps86
 go_upto_region 6 with (go_at_call 134;refine(HC.out _).mono ?_;rintro e w3 ⟨rfl,hw3⟩;obtain rfl:=hw3.symm)
 go_upto_region 7 with (fail)
 go_wp2
 go_ret2
 have hR:=aD (o:=0) (.slice (some ⟨L,i+1,none⟩) (n+1) cap) H.out
 simp only[List.setIfInBounds_toArray,List.set_cons_zero,List.set_cons_succ] at hR
 refine⟨w.heap.size,rfl,?_,Nat.le_refl _,?_,?_⟩
 ·exact aM _ _ _ (by simp[World.setCell])
 ·exact aC _ hR
 ·exact Turn.trans (Turn.setCell ⟨R,0,none⟩ _ rfl) (Turn.of_below ((Below.refl _ _).alloc lr _))
end
end Go.Proofs.YteladbdfiannjaaGreatDoor
