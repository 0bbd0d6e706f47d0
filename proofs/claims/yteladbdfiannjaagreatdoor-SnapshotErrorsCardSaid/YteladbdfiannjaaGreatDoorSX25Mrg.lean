/- A part. -/
import Derived.Test.YteladbdfiannjaaGreatDoorSX15Mrg
import Derived.Deep.Cut
namespace Go.Proofs.YteladbdfiannjaaGreatDoor
set_option linter.unusedVariables false
set_option linter.unusedSimpArgs false
open Go Go.RowKit Go.Shelf
theorem uL (fv:Value) (w:World):Calls Tryz.prog 29 #[.slice none 0 0,fv] w fun e w'=>e=.returned (.int .i64 0)∧w'=w:=by
 go_enter Tryz.func29,Tryz.ntmps29
 go_wp2
 refine wp_loop_rounds 1 ?_
 rw[rounds_succ]
 go_wp2
 go_ret
 exact⟨rfl,rfl⟩
theorem uM (fv:Value) (w:World):Calls Tryz.prog 31 #[.slice none 0 0,fv] w fun e w'=>e=.returned (.int .i64 0)∧w'=w:=by
 go_enter Tryz.func31,Tryz.ntmps31
 go_wp2
 refine wp_loop_rounds 1 ?_
 rw[rounds_succ]
 go_wp2
 go_ret
 exact⟨rfl,rfl⟩
theorem uN (fv:Value) (w:World):Calls Tryz.prog 33 #[.slice none 0 0,fv] w fun e w'=>e=.returned (.int .i64 0)∧w'=w:=by
 go_enter Tryz.func33,Tryz.ntmps33
 go_wp2
 refine wp_loop_rounds 1 ?_
 rw[rounds_succ]
 go_wp2
 go_ret
 exact⟨rfl,rfl⟩
theorem uO (fv:Value) (w:World):Calls Tryz.prog 35 #[.slice none 0 0,fv] w fun e w'=>e=.returned (.int .i64 0)∧w'=w:=by
 go_enter Tryz.func35,Tryz.ntmps35
 go_wp2
 refine wp_loop_rounds 1 ?_
 rw[rounds_succ]
 go_wp2
 go_ret
 exact⟨rfl,rfl⟩
theorem sE (fv:Value) (w:World):Calls Tryz.prog 108 #[.slice none 0 0,fv] w fun e w'=>e=.returned (.int .i64 0)∧w'=w:=by
 go_enter Tryz.func108,Tryz.ntmps108
 go_wp2
 refine wp_loop_rounds 1 ?_
 rw[rounds_succ]
 go_wp2
 go_ret
 exact⟨rfl,rfl⟩
abbrev cntO (s:ByteArray) (n:Int):Obj:=.cells #[.string s,.int .i64 n] 58
theorem sN (s:ByteArray) (hs:aI s=true) (n:Int) (hn:0≤n∧n≤999999999999999) (lb:Nat) (w:World) :
 Calls Tryz.prog 109 #[.int .i64 0,.agg #[.string s,.int .i64 n],.pointer (some ⟨lb,0,none⟩)] w fun e w'=>e=.returned (.int .i64 0)∧Below w.heap.size w w':=by
 have HI:=hid (fun (w:World)=>aG s w)
 rw[hs] at HI
 have HN:=hid (fun (w:World)=>lT n 0 999999999999999 true (by rw[decide_eq_true hn.1,decide_eq_true hn.2];rfl) w)
 clear hs hn
 go_enter Tryz.func109,Tryz.ntmps109
 go_upto_region 3 with (go_at_call 39;refine(HI.out _).mono ?_;rintro e w3 ⟨rfl,hw3⟩;obtain rfl:=hw3)
 refine wp_region_held_drew (S:=(fun _=>True)) (by kernel_rfl) (trivial) (fun hS=>?_)
 refine tkQ 0 (v:=?_) ?_ hS ?_;rotate_left;· intro w' hw';(try dsimp only at hw');go_simp;(try rfl)
 simp only[Act.put,pq]
 refine tkQ 1 (v:=?_) ?_ hS ?_;rotate_left;· intro w' hw';(try dsimp only at hw');go_simp;(try rfl)
 simp only[Act.put,pq]
 refine tkQ 2 (v:=?_) ?_ hS ?_;rotate_left;· intro w' hw';(try dsimp only at hw');go_simp;(try rfl)
 simp only[Act.put,pq]
 refine wpAnyH_take (i:=3) (oi:=_) (v:=undef) rfl (by kernel_rfl) (by kernel_rfl) (by kernel_rfl) (fun _ _ _ h=>h) (Or.inr ⟨by rfl,rfl⟩) hS ?_
 simp only[Act.put,pq]
 refine wpAnyH_take (i:=4) (oi:=_) (v:=undef) rfl (by kernel_rfl) (by kernel_rfl) (by kernel_rfl) (fun _ _ _ h=>h) (Or.inr ⟨by rfl,rfl⟩) hS ?_
 simp only[Act.put,pq]
 refine wpAnyH_take (i:=5) (oi:=_) (v:=undef) rfl (by kernel_rfl) (by kernel_rfl) (by kernel_rfl) (fun _ _ _ h=>h) (Or.inr ⟨by rfl,rfl⟩) hS ?_
 simp only[Act.put,pq]
 refine wpAnyH_take (i:=6) (oi:=_) (v:=undef) rfl (by kernel_rfl) (by kernel_rfl) (by kernel_rfl) (fun _ _ _ h=>h) (Or.inr ⟨by rfl,rfl⟩) hS ?_
 simp only[Act.put,pq]
 refine wpAnyH_take (i:=7) (oi:=_) (v:=undef) rfl (by kernel_rfl) (by kernel_rfl) (by kernel_rfl) (fun _ _ _ h=>h) (Or.inr ⟨by rfl,rfl⟩) hS ?_
 simp only[Act.put,pq]
 refine wpAnyH_take (i:=8) (oi:=_) (v:=undef) rfl (by kernel_rfl) (by kernel_rfl) (by kernel_rfl) (fun _ _ _ h=>h) (Or.inr ⟨by rfl,rfl⟩) hS ?_
 simp only[Act.put,pq]
 refine wpAnyH_take (i:=9) (oi:=_) (v:=undef) rfl (by kernel_rfl) (by kernel_rfl) (by kernel_rfl) (fun _ _ _ h=>h) (Or.inr ⟨by rfl,rfl⟩) hS ?_
 simp only[Act.put,pq]
 refine wpAnyH_take (i:=10) (oi:=_) (v:=undef) rfl (by kernel_rfl) (by kernel_rfl) (by kernel_rfl) (fun _ _ _ h=>h) (Or.inr ⟨by rfl,rfl⟩) hS ?_
 simp only[Act.put,pq]
 refine wpAnyH_take (i:=11) (oi:=_) (v:=undef) rfl (by kernel_rfl) (by kernel_rfl) (by kernel_rfl) (fun _ _ _ h=>h) (Or.inr ⟨by rfl,rfl⟩) hS ?_
 simp only[Act.put,pq]
 refine tkQ 12 (v:=?_) ?_ hS ?_;rotate_left;· intro w' hw';(try dsimp only at hw');go_simp;(try rfl)
 simp only[Act.put,pq]
 refine tkQ 13 (v:=?_) ?_ hS ?_;rotate_left;· intro w' hw';(try dsimp only at hw');go_simp;(try rfl)
 simp only[Act.put,pq]
 refine wpAnyH_done (by kernel_rfl) ?_ _
 (try dsimp only)
 skip
 obtain⟨w4,hw4⟩:∃w4,w4=(w.alloc (cntO s n)).drew:=⟨_,rfl⟩
 go_upto_region 5 with (fail)
 rw[←hw4]
 have g4:w4.heap[w.heap.size]?=some (cntO s n):=by rw[hw4];exact heap_alloc_new w _
 have c1:=aA g4 1
 (try dsimp only at c1)
 have HB4:=hid (show Below w.heap.size w w4 by rw[hw4];exact((Below.refl _ _).alloc lr _).drew)
 clear hw4 g4 hS
 go_wp2_with (go_at_call 25;refine(HN.out _).mono ?_;rintro e w3 ⟨rfl,hw3⟩;obtain rfl:=hw3.symm)
 go_ret
 exact⟨rfl,HB4.out⟩
theorem xZ (w:World):Calls Tryz.prog 30 #[.slice none 0 0] w fun e w'=>e=.returned (.int .i64 0)∧Below w.heap.size w w':=by
 have H:=hid (fun fv w=>sE fv w)
 go_enter Tryz.func30,Tryz.ntmps30
 go_wp2_with (go_at_call 108;refine(H.out _ _).mono ?_;rintro e w3 ⟨rfl,hw3⟩;obtain rfl:=hw3.symm)
 go_ret
 exact⟨rfl,(Below.refl _ _).alloc lr _⟩
theorem aCa (g n c:Nat) (hn:n≤1000) (w:World) (h:∀k,k<n→w.cell? ⟨g,k,none⟩=some (.int .i64 0)) :
 Calls Tryz.prog 28 #[.slice (some ⟨g,0,none⟩) n c] w fun e w'=>e=.returned (.int .i64 0)∧w'=w:=by
 have H:=hid h
 clear h
 have hn63:(n:Int)≤1000:=by omega
 go_enter Tryz.func28,Tryz.ntmps28
 go_wp2
 go_loopw [8] (fun i wr=>∃k:Nat,wr=w∧k≤n∧i=.int .i64 k) (fun i _=>n-(intOf i).toNat)
 case atStart=>exact⟨0,rfl,Nat.zero_le _,rfl⟩
 case round =>
  obtain⟨k,rfl,hk,rfl⟩:=hrel
  obtain⟨wp,rfl⟩:∃w1:World,w1=wr:=⟨_,rfl⟩
  by_cases hlt:k<n
  ·have hcell:=H.out k hlt
   have hlt':(k:Int)<(n:Int):=by omega
   have hk0:(0:Int)≤(k:Int):=by omega
   go_wp2
   go_roundw
   case rel=>exact⟨k+1,(by first | trivial | rfl),by omega,by go_num⟩
   case measure=>simp[intOf];omega
  ·obtain rfl:k=n:=by omega
   go_wp2
   go_ret
   exact⟨rfl,rfl⟩
def CntAt (w:World) (g:Nat) (s:ByteArray) (n:Int):Prop:=∃cs T fz,w.heap[g]?=some (.cells cs T fz)∧cs[0]?=some (.string s)∧cs[1]?=some (.int .i64 n)
theorem CntAt.same {w w':World} {g:Nat} {s:ByteArray} {n:Int} (h:CntAt w g s n) (hs:∀o,w.heap[g]?=some o→w'.heap[g]?=some o):CntAt w' g s n:=by
 obtain⟨cs,T,fz,h1,h2,h3⟩:=h
 exact⟨cs,T,fz,hs _ h1,h2,h3⟩
theorem CntAt.ext {w w':World} {g:Nat} {s:ByteArray} {n:Int} (h:CntAt w g s n) (hb:Below w.heap.size w w'):CntAt w' g s n:=h.same fun o ho=>aB hb ho
theorem CntAt.alloc {w:World} {g:Nat} {s:ByteArray} {n:Int} (h:CntAt w g s n) (o:Obj):CntAt (w.alloc o) g s n:=h.same fun x hx=>aC o hx
theorem CntAt.c0 {w:World} {g:Nat} {s:ByteArray} {n:Int} (h:CntAt w g s n):w.cell? ⟨g,0,none⟩=some (.string s):=by
 obtain⟨cs,T,fz,h1,h2,h3⟩:=h
 rw[aA h1];exact h2
theorem CntAt.c1 {w:World} {g:Nat} {s:ByteArray} {n:Int} (h:CntAt w g s n):w.cell? ⟨g,1,none⟩=some (.int .i64 n):=by
 obtain⟨cs,T,fz,h1,h2,h3⟩:=h
 rw[aA h1];exact h3
theorem sD (s:ByteArray) (hs:aI s=true) (n:Int) (hn:0≤n∧n≤999999999999999) (g c lb:Nat) (w:World) (hg:CntAt w g s n) :
 Calls Tryz.prog 108 #[.slice (some ⟨g,0,none⟩) 1 c,.func (.func 109) #[] #[.pointer (some ⟨lb,0,none⟩)]] w fun e w'=>e=.returned (.int .i64 0)∧Below w.heap.size w w':=by
 have hen:∀args w,(callFunc 109 args).run Tryz.prog w=.ok (.enter 109 args) w:=enters_of Tryz.func109 (by kernel_rfl) rfl
 have HC:=hid (fun w=>sN s hs n hn lb w)
 have c0:=hg.c0
 have c1:=hg.c1
 clear hg hs hn
 go_enter Tryz.func108,Tryz.ntmps108
 go_wp2
 refine wp_loop_rounds 2 ?_
 rw[rounds_succ]
 go_wp2_with (go_at_call 109;refine(HC.out _).mono ?_;rintro e w3 ⟨rfl,hb3⟩)
 rw[rounds_succ]
 go_wp2
 go_ret
 exact⟨rfl,((Below.refl _ _).alloc lr _).trans (hb3.mono (by simp))⟩
end Go.Proofs.YteladbdfiannjaaGreatDoor
