/-
  Equality: manifoldlaw29.sameStamp, manifoldlaw29.same, value.Equal, stamp.Compare's and message.Equal's parts. Condition: all can be read as data.
-/
import Derived.Test.YtaofolgaiipcjaaGreatDoorJE9Mrg
import Derived.Test.YtaofolgaiipcjaaGreatDoorJE5Mrg
namespace Go.Proofs.YtaofolgaiipcjaaGreatDoor
set_option linter.unusedVariables false
set_option linter.unusedSimpArgs false
section
open Go Go.RowKit Go.Shelf
set_option maxRecDepth 100000 in
theorem valEqual_call (c c2 : VC) (d d2 : Val) (w : World) (hd : IsVal (· < w.heap.size) w c d) (hd2 : IsVal (· < w.heap.size) w c2 d2) :
 Calls Tryz.prog 50 #[c.v,c2.v] w fun e w' => e = .returned (.bool (cmpV d d2 == 0)) ∧ Below w.heap.size w w':=by
 obtain ⟨wb,hwb⟩ : ∃ wb,wb = ((w.alloc (vObj c)).alloc (vObj c2)):=⟨_,rfl⟩
 have hb : Below w.heap.size w wb:=by rw [hwb]; exact ((Below.refl _ w).alloc (Nat.le_refl _) _).alloc (by simp) _
 have hs:=hb.size
 have hc:=compare_call c c2 d d2 wb (hd.same fun b q => ⟨by omega,hb.block b q⟩) (hd2.same fun b q => ⟨by omega,hb.block b q⟩)
 have HB:=hid hb
 rw [hwb] at hc
 have HWB:=hid hwb
 have HC:=hid hc
 clear hwb hb hc hs hd hd2
 go_enter Tryz.func50,Tryz.ntmps50
 go_wp2_with (go_at_call 72; refine HC.out.mono ?_; rintro e w1 ⟨rfl,hb1⟩)
 go_ret
 rw [← HWB.out] at hb1
 exact ⟨rfl,HB.out.trans (hb1.mono HB.out.size)⟩
end
section
open Go Go.RowKit Go.Shelf
end
section
open Go Go.RowKit
theorem cmpInt_refl (x : Int) : Lib.compareInt x x = 0:=by simp [Lib.compareInt]
theorem cmpInt_zero {x y : Int} (h : Lib.compareInt x y = 0) : x = y:=by
 unfold Lib.compareInt at h
 repeat' split at h
 all_goals first | omega | cases h
theorem cmpB_refl : ∀ (xs : List UInt8),Lib.compareBytes xs xs = 0
 | [] => rfl
 | a :: r => by
   rw [Lib.compareBytes,if_neg (by simp),if_neg (by simp)]
   exact cmpB_refl r
mutual
theorem cmpV_refl : ∀ (d : Val),cmpV d d = 0
 | .mk k i s t l ns fs => by
   rw [cmpV,cmpInt_refl,cmpInt_refl,cmpInt_refl,cmpB_refl,cmpVs_refl l,cmpFs_refl fs ns]
   rfl
theorem cmpVs_refl : ∀ (l : List Val),cmpVs l l = 0
 | [] => rfl
 | d :: l => by
   rw [cmpVs,cmpV_refl d,if_neg (by simp)]
   exact cmpVs_refl l
theorem cmpFs_refl : ∀ (l : List Val) (ns : List ByteArray),cmpFs ns l ns l = 0
 | [],ns => by rw [cmpFs]
 | d :: l,ns => by
   rw [cmpFs,cmpB_refl,cmpV_refl d,if_neg (by simp [orL])]
   exact cmpFs_refl l ns.tail
end
end
section
open Go Go.RowKit
theorem orL_cons (x : Int) (r : List Int) : orL (x :: r) = 0 ↔ x = 0 ∧ orL r = 0:=by
 rw [orL]
 by_cases h : x = 0
 ·simp [h]
 ·simp [h]
theorem cmpB_zero : ∀ {xs ys : List UInt8},Lib.compareBytes xs ys = 0 → xs = ys
 | [],[],_ => rfl
 | [],_ :: _,h => by simp [Lib.compareBytes] at h
 | _ :: _,[],h => by simp [Lib.compareBytes] at h
 | a :: r,b :: q,h => by
   rw [Lib.compareBytes] at h
   split at h
   ·simp at h
   ·rename_i h1
    split at h
    ·simp at h
    ·rename_i h2
     have hab : a = b:=UInt8.le_antisymm (UInt8.not_lt.1 h2) (UInt8.not_lt.1 h1)
     rw [hab,cmpB_zero h]
mutual
theorem cmpV_symm : ∀ (d d2 : Val),cmpV d d2 = 0 → cmpV d2 d = 0
 | .mk k i s t l ns fs,.mk k' i' s' t' l' ns' fs',h => by
   rw [cmpV] at h ⊢
   simp only [orL_cons] at h ⊢
   obtain ⟨h1,h2,h3,h4,h5,h6,h7⟩:=h
   refine ⟨?_,?_,?_,?_,cmpVs_symm l l' h5,cmpFs_symm fs ns ns' fs' h6,h7⟩
   ·rw [cmpInt_zero h1,cmpInt_refl]
   ·rw [cmpInt_zero h2,cmpInt_refl]
   ·rw [cmpInt_zero h3,cmpInt_refl]
   ·rw [cmpB_zero h4,cmpB_refl]
theorem cmpVs_symm : ∀ (l l' : List Val),cmpVs l l' = 0 → cmpVs l' l = 0
 | [],[],_ => rfl
 | [],_ :: _,h => by rw [cmpVs] at h; cases h
 | _ :: _,[],h => by rw [cmpVs] at h; cases h
 | d :: l,d' :: l',h => by
   rw [cmpVs] at h ⊢
   by_cases h1 : cmpV d d' = 0
   ·rw [if_neg (by simpa using h1)] at h
    rw [if_neg (by simpa using cmpV_symm d d' h1)]
    exact cmpVs_symm l l' h
   ·rw [if_pos h1] at h
    exact absurd h h1
theorem cmpFs_symm : ∀ (l : List Val) (ns ns' : List ByteArray) (l' : List Val),cmpFs ns l ns' l' = 0 → cmpFs ns' l' ns l = 0
 | [],ns,ns',[],_ => by rw [cmpFs]
 | [],ns,ns',_ :: _,h => by rw [cmpFs] at h; cases h
 | _ :: _,ns,ns',[],h => by rw [cmpFs] at h; cases h
 | d :: l,ns,ns',d' :: l',h => by
   rw [cmpFs] at h ⊢
   by_cases h1 : orL [Lib.compareBytes (ns.headD ByteArray.empty).data.toList (ns'.headD ByteArray.empty).data.toList,cmpV d d'] = 0
   ·rw [if_neg (by simpa using h1)] at h
    simp only [orL_cons] at h1
    obtain ⟨h2,h3,h4⟩:=h1
    have h5 : orL [Lib.compareBytes (ns'.headD ByteArray.empty).data.toList (ns.headD ByteArray.empty).data.toList,cmpV d' d] = 0:=by
     simp only [orL_cons]
     exact ⟨by rw [cmpB_zero h2,cmpB_refl],cmpV_symm d d' h3,h4⟩
    rw [if_neg (fun h => h h5)]
    exact cmpFs_symm l ns.tail ns'.tail l' h
   ·rw [if_pos h1] at h
    exact absurd h h1
end
end
section
open Go Go.RowKit
def lex (x y : Int) : Int:=if x ≠ 0 then x else y
theorem orL_lex (x : Int) (r : List Int) : orL (x :: r) = lex x (orL r):=rfl
theorem lex_neg {x y x' y' : Int} (h : x' = -x) (h' : y' = -y) : lex x' y' = -lex x y:=by
 subst h; subst h'; unfold lex; split <;> split <;> omega
def Tri (x y z : Int) : Prop:=(x ≤ 0 → y ≤ 0 → z ≤ 0) ∧ (z ≤ 0 → 0 ≤ y → x ≤ 0) ∧ (0 ≤ x → z ≤ 0 → y ≤ 0) ∧ (y ≤ 0 → 0 ≤ z → 0 ≤ x) ∧ (0 ≤ z → x ≤ 0 → 0 ≤ y) ∧ (0 ≤ y → 0 ≤ x → 0 ≤ z)
theorem lex_tri {x y z x' y' z' : Int} (h : Tri x y z) (h' : Tri x' y' z') : Tri (lex x x') (lex y y') (lex z z'):=by
 unfold Tri at *
 unfold lex
 by_cases hx : x = 0 <;> by_cases hy : y = 0 <;> by_cases hz : z = 0 <;> simp only [hx,hy,hz,ne_eq,not_true_eq_false,not_false_eq_true,if_true,if_false] <;> first | exact h' | omega
def Sg (x : Int) : Prop:=x = -1 ∨ x = 0 ∨ x = 1
theorem lex_sg {x y : Int} (h : Sg x) (h' : Sg y) : Sg (lex x y):=by unfold lex; split <;> assumption
theorem tri0 : Tri 0 0 0:=by unfold Tri; omega
theorem sg0 : Sg 0:=.inr (.inl rfl)
theorem cmpInt_anti (x y : Int) : Lib.compareInt y x = -Lib.compareInt x y:=by unfold Lib.compareInt; split <;> split <;> (try split) <;> omega
theorem cmpInt_sg (x y : Int) : Sg (Lib.compareInt x y):=by unfold Lib.compareInt Sg; split <;> (try split) <;> omega
theorem cmpInt_tri (x y z : Int) : Tri (Lib.compareInt x y) (Lib.compareInt y z) (Lib.compareInt x z):=by
 unfold Lib.compareInt Tri
 by_cases h1 : x < y <;> by_cases h2 : y < z <;> by_cases h3 : x < z <;> by_cases h4 : x > y <;> by_cases h5 : y > z <;> by_cases h6 : x > z <;> simp [h1,h2,h3,h4,h5,h6] <;> omega
theorem cmpB_lex (a b : UInt8) (r q : List UInt8) : Lib.compareBytes (a :: r) (b :: q) = lex (Lib.compareInt a.toNat b.toNat) (Lib.compareBytes r q):=by
 rw [Lib.compareBytes,lex,Lib.compareInt]
 by_cases h1 : a < b
 ·have : (a.toNat : Int) < b.toNat:=by have:=UInt8.lt_iff_toNat_lt.1 h1; omega
  simp [h1,this]
 ·by_cases h2 : b < a
  ·have h3 : (b.toNat : Int) < a.toNat:=by have:=UInt8.lt_iff_toNat_lt.1 h2; omega
   have h4 : ¬ (a.toNat : Int) < b.toNat:=by omega
   simp [h1,h2,h3,h4]
  ·have h3 : ¬ (b.toNat : Int) < a.toNat:=fun h => h2 (UInt8.lt_iff_toNat_lt.2 (by omega))
   have h4 : ¬ (a.toNat : Int) < b.toNat:=fun h => h1 (UInt8.lt_iff_toNat_lt.2 (by omega))
   simp [h1,h2,h3,h4]
theorem cmpB_anti : ∀ (xs ys : List UInt8),Lib.compareBytes ys xs = -Lib.compareBytes xs ys
 | [],[] => rfl
 | [],_ :: _ => rfl
 | _ :: _,[] => rfl
 | a :: r,b :: q => by rw [cmpB_lex,cmpB_lex]; exact lex_neg (cmpInt_anti _ _) (cmpB_anti r q)
theorem cmpB_sg : ∀ (xs ys : List UInt8),Sg (Lib.compareBytes xs ys)
 | [],[] => .inr (.inl rfl)
 | [],_ :: _ => .inl rfl
 | _ :: _,[] => .inr (.inr rfl)
 | a :: r,b :: q => by rw [cmpB_lex]; exact lex_sg (cmpInt_sg _ _) (cmpB_sg r q)
theorem cmpB_tri : ∀ (xs ys zs : List UInt8),Tri (Lib.compareBytes xs ys) (Lib.compareBytes ys zs) (Lib.compareBytes xs zs)
 | [],[],[] => tri0
 | [],[],_ :: _ => by simp only [Lib.compareBytes,Tri]; omega
 | [],_ :: _,[] => by simp only [Lib.compareBytes,Tri]; omega
 | _ :: _,[],[] => by simp only [Lib.compareBytes,Tri]; omega
 | [],b :: q,c :: t => by
   have h:=cmpB_sg (b :: q) (c :: t)
   rw [show Lib.compareBytes [] (b :: q) = -1 from rfl,show Lib.compareBytes [] (c :: t) = -1 from rfl]
   simp only [Tri,Sg] at *; omega
 | a :: r,[],c :: t => by
   have h:=cmpB_sg (a :: r) (c :: t)
   rw [show Lib.compareBytes [] (c :: t) = -1 from rfl,show Lib.compareBytes (a :: r) [] = 1 from rfl]
   simp only [Tri,Sg] at *; omega
 | a :: r,b :: q,[] => by
   have h:=cmpB_sg (a :: r) (b :: q)
   rw [show Lib.compareBytes (a :: r) [] = 1 from rfl,show Lib.compareBytes (b :: q) [] = 1 from rfl]
   simp only [Tri,Sg] at *; omega
 | a :: r,b :: q,c :: t => by rw [cmpB_lex,cmpB_lex,cmpB_lex]; exact lex_tri (cmpInt_tri _ _ _) (cmpB_tri r q t)
theorem cmpVs_lex (d d' : Val) (l l' : List Val) : cmpVs (d :: l) (d' :: l') = lex (cmpV d d') (cmpVs l l'):=by rw [cmpVs,lex]
theorem cmpFs_lex (ns ns' : List ByteArray) (d d' : Val) (l l' : List Val) : cmpFs ns (d :: l) ns' (d' :: l') = lex (lex (Lib.compareBytes (ns.headD ByteArray.empty).data.toList (ns'.headD ByteArray.empty).data.toList) (lex (cmpV d d') 0)) (cmpFs ns.tail l ns'.tail l'):=by rw [cmpFs,lex]; rfl
mutual
theorem cmpV_anti : ∀ (d d2 : Val),cmpV d2 d = -cmpV d d2
 | .mk k i s t l ns fs,.mk k' i' s' t' l' ns' fs' => by
   rw [cmpV,cmpV]
   simp only [orL_lex]
   exact lex_neg (cmpInt_anti _ _) (lex_neg (cmpInt_anti _ _) (lex_neg (cmpInt_anti _ _) (lex_neg (cmpB_anti _ _) (lex_neg (cmpVs_anti l l') (lex_neg (cmpFs_anti fs ns ns' fs') rfl)))))
theorem cmpVs_anti : ∀ (l l' : List Val),cmpVs l' l = -cmpVs l l'
 | [],[] => by simp [cmpVs]
 | [],_ :: _ => by simp [cmpVs]
 | _ :: _,[] => by simp [cmpVs]
 | d :: l,d' :: l' => by rw [cmpVs_lex,cmpVs_lex]; exact lex_neg (cmpV_anti d d') (cmpVs_anti l l')
theorem cmpFs_anti : ∀ (l : List Val) (ns ns' : List ByteArray) (l' : List Val),cmpFs ns' l' ns l = -cmpFs ns l ns' l'
 | [],ns,ns',[] => by simp [cmpFs]
 | [],ns,ns',_ :: _ => by simp [cmpFs]
 | _ :: _,ns,ns',[] => by simp [cmpFs]
 | d :: l,ns,ns',d' :: l' => by rw [cmpFs_lex,cmpFs_lex]; exact lex_neg (lex_neg (cmpB_anti _ _) (lex_neg (cmpV_anti d d') rfl)) (cmpFs_anti l ns.tail ns'.tail l')
end
mutual
theorem cmpV_sg : ∀ (d d2 : Val),Sg (cmpV d d2)
 | .mk k i s t l ns fs,.mk k' i' s' t' l' ns' fs' => by
   rw [cmpV]
   simp only [orL_lex]
   exact lex_sg (cmpInt_sg _ _) (lex_sg (cmpInt_sg _ _) (lex_sg (cmpInt_sg _ _) (lex_sg (cmpB_sg _ _) (lex_sg (cmpVs_sg l l') (lex_sg (cmpFs_sg fs ns ns' fs') sg0)))))
theorem cmpVs_sg : ∀ (l l' : List Val),Sg (cmpVs l l')
 | [],[] => by rw [cmpVs]; exact sg0
 | [],_ :: _ => by rw [cmpVs]; exact .inl rfl
 | _ :: _,[] => by rw [cmpVs]; exact .inr (.inr rfl)
 | d :: l,d' :: l' => by rw [cmpVs_lex]; exact lex_sg (cmpV_sg d d') (cmpVs_sg l l')
theorem cmpFs_sg : ∀ (l : List Val) (ns ns' : List ByteArray) (l' : List Val),Sg (cmpFs ns l ns' l')
 | [],ns,ns',[] => by rw [cmpFs]; exact sg0
 | [],ns,ns',_ :: _ => by rw [cmpFs]; exact .inl rfl
 | _ :: _,ns,ns',[] => by rw [cmpFs]; exact .inr (.inr rfl)
 | d :: l,ns,ns',d' :: l' => by rw [cmpFs_lex]; exact lex_sg (lex_sg (cmpB_sg _ _) (lex_sg (cmpV_sg d d') sg0)) (cmpFs_sg l ns.tail ns'.tail l')
end
mutual
theorem cmpV_tri : ∀ (a b c : Val),Tri (cmpV a b) (cmpV b c) (cmpV a c)
 | .mk k i s t l ns fs,.mk k' i' s' t' l' ns' fs',.mk k2 i2 s2 t2 l2 ns2 fs2 => by
   rw [cmpV,cmpV,cmpV]
   simp only [orL_lex]
   exact lex_tri (cmpInt_tri _ _ _) (lex_tri (cmpInt_tri _ _ _) (lex_tri (cmpInt_tri _ _ _) (lex_tri (cmpB_tri _ _ _) (lex_tri (cmpVs_tri l l' l2) (lex_tri (cmpFs_tri fs ns ns' fs' ns2 fs2) tri0)))))
theorem cmpVs_tri : ∀ (l l' l2 : List Val),Tri (cmpVs l l') (cmpVs l' l2) (cmpVs l l2)
 | [],[],[] => by simp only [cmpVs]; exact tri0
 | [],[],_ :: _ => by simp only [cmpVs,Tri]; omega
 | [],_ :: _,[] => by simp only [cmpVs,Tri]; omega
 | _ :: _,[],[] => by simp only [cmpVs,Tri]; omega
 | [],b :: q,c :: t => by
   have h:=cmpVs_sg (b :: q) (c :: t)
   rw [show cmpVs [] (b :: q) = -1 by rw [cmpVs],show cmpVs [] (c :: t) = -1 by rw [cmpVs]]
   simp only [Tri,Sg] at *; omega
 | a :: r,[],c :: t => by
   have h:=cmpVs_sg (a :: r) (c :: t)
   rw [show cmpVs [] (c :: t) = -1 by rw [cmpVs],show cmpVs (a :: r) [] = 1 by rw [cmpVs]]
   simp only [Tri,Sg] at *; omega
 | a :: r,b :: q,[] => by
   have h:=cmpVs_sg (a :: r) (b :: q)
   rw [show cmpVs (a :: r) [] = 1 by rw [cmpVs],show cmpVs (b :: q) [] = 1 by rw [cmpVs]]
   simp only [Tri,Sg] at *; omega
 | a :: r,b :: q,c :: t => by rw [cmpVs_lex,cmpVs_lex,cmpVs_lex]; exact lex_tri (cmpV_tri a b c) (cmpVs_tri r q t)
theorem cmpFs_tri : ∀ (l : List Val) (ns ns' : List ByteArray) (l' : List Val) (ns2 : List ByteArray) (l2 : List Val),Tri (cmpFs ns l ns' l') (cmpFs ns' l' ns2 l2) (cmpFs ns l ns2 l2)
 | [],ns,ns',[],ns2,[] => by simp only [cmpFs]; exact tri0
 | [],ns,ns',[],ns2,_ :: _ => by simp only [cmpFs,Tri]; omega
 | [],ns,ns',_ :: _,ns2,[] => by simp only [cmpFs,Tri]; omega
 | _ :: _,ns,ns',[],ns2,[] => by simp only [cmpFs,Tri]; omega
 | [],ns,ns',b :: q,ns2,c :: t => by
   have h:=cmpFs_sg (b :: q) ns' ns2 (c :: t)
   rw [show cmpFs ns [] ns' (b :: q) = -1 by rw [cmpFs],show cmpFs ns [] ns2 (c :: t) = -1 by rw [cmpFs]]
   simp only [Tri,Sg] at *; omega
 | a :: r,ns,ns',[],ns2,c :: t => by
   have h:=cmpFs_sg (a :: r) ns ns2 (c :: t)
   rw [show cmpFs ns' [] ns2 (c :: t) = -1 by rw [cmpFs],show cmpFs ns (a :: r) ns' [] = 1 by rw [cmpFs]]
   simp only [Tri,Sg] at *; omega
 | a :: r,ns,ns',b :: q,ns2,[] => by
   have h:=cmpFs_sg (a :: r) ns ns' (b :: q)
   rw [show cmpFs ns (a :: r) ns2 [] = 1 by rw [cmpFs],show cmpFs ns' (b :: q) ns2 [] = 1 by rw [cmpFs]]
   simp only [Tri,Sg] at *; omega
 | a :: r,ns,ns',b :: q,ns2,c :: t => by rw [cmpFs_lex,cmpFs_lex,cmpFs_lex]; exact lex_tri (lex_tri (cmpB_tri _ _ _) (lex_tri (cmpV_tri a b c) tri0)) (cmpFs_tri r ns.tail ns'.tail q ns2.tail t)
end
end
end Go.Proofs.YtaofolgaiipcjaaGreatDoor
