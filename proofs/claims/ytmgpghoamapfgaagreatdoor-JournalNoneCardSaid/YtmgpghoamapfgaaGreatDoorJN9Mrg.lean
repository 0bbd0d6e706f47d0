/-
  Equality: manifoldlaw29.sameStamp, manifoldlaw29.same, value.Equal, stamp.Compare's and message.Equal's parts. Condition: all can be read as data.
-/
import Derived.Test.YtmgpghoamapfgaaGreatDoorJN8Mrg
import Derived.Test.YtmgpghoamapfgaaGreatDoorJN4Mrg
namespace Go.Proofs.YtmgpghoamapfgaaGreatDoor
set_option linter.unusedVariables false
set_option maxRecDepth 100000
set_option maxHeartbeats 16000000
set_option linter.unusedSimpArgs false
section
open Go Go.RowKit Go.Shelf
theorem valEqual_call (c c2:VC) (d d2:Val) (w:World) (hd:IsVal (· < w.heap.size) w c d) (hd2:IsVal (· < w.heap.size) w c2 d2) :
 Calls Tryz.prog 155 #[c.v,c2.v] w fun e w'=>e=.returned (.bool (cmpV d d2==0))∧Below w.heap.size w w':=by
 obtain⟨wb,hwb⟩:∃wb,wb=((w.alloc (vObj c)).alloc (vObj c2)):=⟨_,rfl⟩
 have hb:Below w.heap.size w wb:=by rw[hwb];exact((Below.refl _ w).alloc (Nat.le_refl _) _).alloc (by simp) _
 have hs:=hb.size
 have hc:=compare_call c c2 d d2 wb (hd.same fun b q=>⟨by omega,hb.block b q⟩) (hd2.same fun b q=>⟨by omega,hb.block b q⟩)
 have HB:=hid hb
 rw[hwb] at hc
 have HWB:=hid hwb
 have HC:=hid hc
 clear hwb hb hc hs hd hd2
 go_enter Tryz.func155,Tryz.ntmps155
 go_wp2_with (go_at_call 68;refine HC.out.mono ?_;rintro e w1 ⟨rfl,hb1⟩)
 go_ret
 rw[←HWB.out] at hb1
 exact⟨rfl,HB.out.trans (hb1.mono HB.out.size)⟩
end
section
open Go Go.RowKit Go.Shelf
end
section
open Go Go.RowKit
theorem cmpInt_zero {x y:Int} (h:Lib.compareInt x y=0):x=y:=by
 unfold Lib.compareInt at h
 repeat' split at h
 all_goals first | omega | cases h
end
section
open Go Go.RowKit
theorem orL_cons (x:Int) (r:List Int):orL (x :: r)=0 ↔ x=0∧orL r=0:=by
 rw[orL]
 by_cases h:x=0
 ·simp[h]
 ·simp[h]
theorem cmpB_zero:∀{xs ys:List UInt8},Lib.compareBytes xs ys=0→xs=ys
 | [],[],_=>rfl
 | [],_ :: _,h=>by simp[Lib.compareBytes] at h
 | _ :: _,[],h=>by simp[Lib.compareBytes] at h
 | a :: r,b :: q,h=>by
   rw[Lib.compareBytes] at h
   split at h
   ·simp at h
   ·rename_i h1
    split at h
    ·simp at h
    ·rename_i h2
     have hab:a=b:=UInt8.le_antisymm (UInt8.not_lt.1 h2) (UInt8.not_lt.1 h1)
     rw[hab,cmpB_zero h]
end
section
open Go Go.RowKit
end
end Go.Proofs.YtmgpghoamapfgaaGreatDoor
