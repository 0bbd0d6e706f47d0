/-
  The methods of a nil journal, Open of a nil device. Conditions: none.
-/
import Derived.Test.YtmgpghoamapfgaaGreatDoorJN28Mrg
import Derived.Test.YtmgpghoamapfgaaGreatDoorJN30Mrg
import Derived.Test.YtmgpghoamapfgaaGreatDoorJN31Mrg
namespace Go.Proofs.YtmgpghoamapfgaaGreatDoor
set_option linter.unusedVariables false
set_option maxRecDepth 100000
set_option maxHeartbeats 16000000
set_option linter.unusedSimpArgs false
section
open Go Go.RowKit Go.Shelf
section
attribute [-go_sem] loadCellsFrom storeCells
attribute [local go_sem] lcf0 lcf1 lcf2 lcf3 lcf4 lcf5 stc0 stc1
theorem nilAppend_call (c:EnC) (w:World) :
 Calls Tryz.prog 13 #[.pointer none,c.v] w fun e w'=>e=.returned (.tuple #[.int .i64 0,.int .i64 1])∧Below w.heap.size w w':=by
 go_enter Tryz.func13,Tryz.ntmps13
 go_wp2
 go_ret2
 exact⟨rfl,(Below.refl _ _).alloc (Nat.le_refl _) _⟩
theorem nilFrom_call (n:Int) (w:World) :
 Calls Tryz.prog 15 #[.pointer none,.int .i64 n] w fun e w'=>e=.returned (.tuple #[.slice none 0 0,.int .i64 1])∧Below w.heap.size w w':=by
 go_enter Tryz.func15,Tryz.ntmps15
 go_wp2
 go_ret2
 exact⟨rfl,Below.refl _ _⟩
theorem nilDrop_call (n:Int) (w:World) :
 Calls Tryz.prog 16 #[.pointer none,.int .i64 n] w fun e w'=>e=.returned (.tuple #[.int .i64 0,.int .i64 1])∧Below w.heap.size w w':=by
 go_enter Tryz.func16,Tryz.ntmps16
 go_wp2
 go_ret2
 exact⟨rfl,Below.refl _ _⟩
theorem nilSync_call (w:World) :
 Calls Tryz.prog 18 #[.pointer none] w fun e w'=>e=.returned (.int .i64 1)∧Below w.heap.size w w':=by
 go_enter Tryz.func18,Tryz.ntmps18
 go_wp2
 go_ret
 exact⟨rfl,Below.refl _ _⟩
theorem nilFirst_call (w:World) :
 Calls Tryz.prog 19 #[.pointer none] w fun e w'=>e=.returned (.int .i64 0)∧Below w.heap.size w w':=by
 go_enter Tryz.func19,Tryz.ntmps19
 go_wp2
 go_ret
 exact⟨rfl,Below.refl _ _⟩
theorem nilLast_call (w:World) :
 Calls Tryz.prog 20 #[.pointer none] w fun e w'=>e=.returned (.int .i64 0)∧Below w.heap.size w w':=by
 go_enter Tryz.func20,Tryz.ntmps20
 go_wp2
 go_ret
 exact⟨rfl,Below.refl _ _⟩
theorem nilDurable_call (w:World) :
 Calls Tryz.prog 21 #[.pointer none] w fun e w'=>e=.returned (.int .i64 0)∧Below w.heap.size w w':=by
 go_enter Tryz.func21,Tryz.ntmps21
 go_wp2
 go_ret
 exact⟨rfl,Below.refl _ _⟩
theorem nilTime_call (w:World) :
 Calls Tryz.prog 22 #[.pointer none] w fun e w'=>e=.returned (.int .i64 0)∧Below w.heap.size w w':=by
 go_enter Tryz.func22,Tryz.ntmps22
 go_wp2
 go_ret
 exact⟨rfl,Below.refl _ _⟩
theorem nilRead_call (n:Int) (w:World) :
 Calls Tryz.prog 14 #[.pointer none,.int .i64 n] w fun e w'=>e=.returned (.tuple #[enZC.v,.int .i64 1])∧Below w.heap.size w w':=by
 have hst:=stEnN w #[.int .i64 0,.int .i64 0,.int .i64 0,.int .i64 0,.int .i64 0,.string ⟨#[]⟩,.string ⟨#[]⟩,.string ⟨#[]⟩,.bool false,.bool false,.int .i64 0,.int .i64 0,.int .i64 0,.string ⟨#[]⟩,.slice none 0 0,.slice none 0 0,.int .i64 0,.slice none 0 0] rfl enZC
 have hld:=ldEn (w:=w.alloc (.cells enZC.ar 41)) (c:=enZC) (heap_alloc_new w _)
 dsimp only[EnC.ar,EnC.cs] at hst hld
 go_enter Tryz.func14,Tryz.ntmps14
 go_wp2
 refine bodyPost_ret (v:=.tuple #[enZC.v,.int .i64 1]) (by simp[results,Tryz.results14,go_sem,hld]) rfl ?_
 exact⟨rfl,(Below.refl _ _).alloc (Nat.le_refl _) _⟩
theorem nilSOpen_call (s:ByteArray) (n:Int) (w:World) :
 Calls Tryz.prog 51 #[.pointer none,.string s,.int .i64 n] w fun e w'=>e=.returned (.tuple #[.pointer none,.int .i64 1])∧Below w.heap.size w w':=by
 go_enter Tryz.func51,Tryz.ntmps51
 go_wp2
 go_ret2
 exact⟨rfl,Below.refl _ _⟩
theorem nilOpen_call (n:Int) (w:World) :
 Calls Tryz.prog 17 #[.pointer none,.int .i64 n] w fun e w'=>e=.returned (.tuple #[.pointer none,.int .i64 1])∧Below w.heap.size w w':=by
 have H:=hid (nilSOpen_call ⟨#[106,111,117,114,110,97,108]⟩ n)
 go_enter Tryz.func17,Tryz.ntmps17
 go_wp2_with (first
  | (go_at_call 51;refine(H.out _).mono ?_;rintro e w1 ⟨rfl,hb1⟩))
 go_ret2
 exact⟨rfl,hb1⟩
end
end
section
open Go Go.RowKit Go.Shelf
abbrev sOther:ByteArray:=⟨#[111,116,104,101,114,45,48,48,48,48,48,48,48,49]⟩
abbrev logO (d:Nat):Obj:=.cells #[.pointer (some ⟨d,0,none⟩),.string ⟨#[106,111,117,114,110,97,108]⟩,.int .i64 100,.slice none 0 0,.int .i64 0] 163
abbrev jrnO (l:Nat):Obj:=.cells #[.pointer (some ⟨l,0,none⟩),.int .i64 0] 99
theorem lFirst_call (l d:Nat) (w:World) (h:w.heap[l]?=some (logO d)) :
 Calls Tryz.prog 52 #[.pointer (some ⟨l,0,none⟩)] w fun e w'=>e=.returned (.int .i64 1)∧w'=w:=by
 have c:=cellOf h 3
 (try dsimp only at c)
 go_enter Tryz.func52,Tryz.ntmps52
 go_wp2
 go_ret
 exact⟨rfl,rfl⟩
theorem lLast_call (l d:Nat) (w:World) (h:w.heap[l]?=some (logO d)) :
 Calls Tryz.prog 46 #[.pointer (some ⟨l,0,none⟩)] w fun e w'=>e=.returned (.int .i64 0)∧w'=w:=by
 have c:=cellOf h 3
 (try dsimp only at c)
 go_enter Tryz.func46,Tryz.ntmps46
 go_wp2
 go_ret
 exact⟨rfl,rfl⟩
theorem lSync_call (l d:Nat) (w:World) (h:w.heap[l]?=some (logO d)) :
 Calls Tryz.prog 53 #[.pointer (some ⟨l,0,none⟩)] w fun e w'=>e=.returned (.int .i64 0)∧w'=w:=by
 have c:=cellOf h 3
 (try dsimp only at c)
 go_enter Tryz.func53,Tryz.ntmps53
 go_wp2
 go_ret
 exact⟨rfl,rfl⟩
theorem jLast_call (j l d:Nat) (w:World) (hj:w.heap[j]?=some (jrnO l)) (h:w.heap[l]?=some (logO d)) :
 Calls Tryz.prog 20 #[.pointer (some ⟨j,0,none⟩)] w fun e w'=>e=.returned (.int .i64 0)∧w'=w:=by
 have c:=cellOf hj 0
 (try dsimp only at c)
 have H:=hid (lLast_call l d w h)
 go_enter Tryz.func20,Tryz.ntmps20
 go_wp2_with (go_at_call 46;refine H.out.mono ?_;rintro e w2 ⟨rfl,hw⟩;obtain rfl:=hw.symm)
 go_ret
 exact⟨rfl,rfl⟩
end
section
open Go Go.RowKit Go.Shelf
theorem segIn_call (w:World):Calls Tryz.prog 173 #[.int .i64 1] w fun e w'=>e=.returned (.bool true)∧w'=w:=by
 go_enter Tryz.func173,Tryz.ntmps173
 go_wp2
 go_ret
 exact⟨rfl,rfl⟩
theorem file1_call (w:World) (hT:Tabs w):Calls Tryz.prog 176 #[.string ⟨#[106,111,117,114,110,97,108]⟩,.int .i64 1] w fun e w'=>e=.returned (.tuple #[.string ⟨#[106,111,117,114,110,97,108,45,48,48,48,48,48,48,48,49]⟩,.int .i64 0])∧Below w.heap.size w w':=by
 have hi:itoaB 1=⟨#[49]⟩:=by decide +kernel
 have HI:=hid (itoa_call 1 (by unfold I64;omega) w hT)
 rw[hi] at HI
 have hr:(⟨(Lib.repeatL [48] 7).toArray⟩:ByteArray)=⟨#[48,48,48,48,48,48,48]⟩:=by decide +kernel
 have HR:=hid (fun w=>Tryz.strings_Repeat ⟨#[48]⟩ 7 w (by omega) (by decide))
 have e7:(⟨#[48]⟩:ByteArray).data.toList=[48]:=rfl
 simp only[e7,hr] at HR
 have HN:=hid (cName_call ⟨#[106,111,117,114,110,97,108]⟩ w)
 have hn:isNameB ⟨#[106,111,117,114,110,97,108]⟩=true:=by decide +kernel
 rw[hn] at HN
 clear hi hr hn e7
 go_enter Tryz.func176,Tryz.ntmps176
 go_wp2_with (first
  | (go_at_call 103;refine HN.out.mono ?_;rintro e w3 ⟨rfl,hw3⟩;obtain rfl:=hw3)
  | (go_at_call 173;refine(segIn_call _).mono ?_;rintro e w3 ⟨rfl,hw3⟩;obtain rfl:=hw3.symm)
  | (go_at_call 245;refine(HR.out _).mono ?_;rintro e w4 ⟨rfl,hb4⟩)
  | (go_at_call 35;refine HI.out.mono ?_;rintro e w3 ⟨rfl,hb3⟩))
 go_ret2
 exact⟨rfl,hb3.trans (hb4.mono hb3.size)⟩
theorem number_other (w:World) (hT:Tabs w) (hN:NumVars w):Calls Tryz.prog 105 #[.string ⟨#[106,111,117,114,110,97,108]⟩,.string ⟨#[111,116,104,101,114,45,48,48,48,48,48,48,48,49]⟩] w fun e w'=>e=.returned (.tuple #[.int .i64 0,.bool false])∧Below w.heap.size w w':=by
 have HL:=hid (Tryz.strings_LastIndexByte ⟨#[111,116,104,101,114,45,48,48,48,48,48,48,48,49]⟩ 45 (by decide) w)
 have hl:Lib.lastIndexByte ⟨#[111,116,104,101,114,45,48,48,48,48,48,48,48,49]⟩ 45=5:=by decide +kernel
 rw[hl] at HL
 have HA:=hid (atoi_call ⟨#[48,48,48,48,48,48,48,49]⟩ (by decide) w hN)
 have ha:atoiV (⟨#[48,48,48,48,48,48,48,49]⟩:ByteArray).data.toList=1:=by decide +kernel
 have ho:atoiOK (⟨#[48,48,48,48,48,48,48,49]⟩:ByteArray).data.toList=true:=by decide +kernel
 rw[ha,ho] at HA
 have HF:=hid (fun (w':World) (h:Below w.heap.size w w')=>file1_call w' (hT.below h))
 clear hl ha ho hT hN
 go_enter Tryz.func105,Tryz.ntmps105
 go_wp2_with (first
  | (go_at_call 182;refine HL.out.mono ?_;rintro e w3 ⟨rfl,hw3⟩;obtain rfl:=hw3.symm)
  | (go_at_call 148;refine HA.out.mono ?_;rintro e w4 ⟨ev,rfl,hev,hb4⟩;obtain rfl:ev=.nilIface:=hev.elim (fun h=>h.2) (fun h=>by cases h.1))
  | (go_at_call 176;refine(HF.out _ hb4).mono ?_;rintro e w5 ⟨rfl,hb5⟩))
 go_ret2
 exact⟨rfl,hb4.trans (hb5.mono hb4.size)⟩
end
end Go.Proofs.YtmgpghoamapfgaaGreatDoor
