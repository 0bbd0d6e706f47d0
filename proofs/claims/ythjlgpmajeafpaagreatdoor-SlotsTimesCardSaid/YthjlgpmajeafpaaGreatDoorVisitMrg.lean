/-
  value.preorder yields a value and all that it consists of, in order, with their levels. Condition: the value can be read as data.
-/
import Derived.RangeFuncNested
import Derived.RangeFuncBound
import Derived.RangeFuncCalls
import Derived.RangeFuncLeaves
import Derived.Shelf.Abstract
import Derived.Shelf.RegionOpen
import Derived.WalkKit
import Derived.OwnWalkIn
import Derived.TacticsInMore
import Derived.LoopNIn
import Derived.LoopIn
import Derived.Outline
import Derived.Test.YthjlgpmajeafpaaGreatDoorPartsMrg
namespace Go.Proofs.YthjlgpmajeafpaaGreatDoor
open Go Go.RowKit Go.Shelf
set_option linter.unusedVariables false
set_option linter.unusedSimpArgs false
attribute [local go_sem] Oper.semAt_some

mutual
def preL (lvl : Int) : Val → List (Int × Val)
  | .mk k i s t l ns fs => (lvl, .mk k i s t l ns fs) :: (if k = 8 ∨ k = 10 then preLs (wrap64 (lvl + 1)) l else if k = 9 then preLs (wrap64 (lvl + 1)) fs else [])
def preLs (lvl : Int) : List Val → List (Int × Val)
  | [] => []
  | d :: l => preL lvl d ++ preLs lvl l
end
theorem preL_eq (lvl : Int) (d : Val) : preL lvl d = (lvl, d) :: preLs (wrap64 (lvl + 1)) (kids d) := by
  obtain ⟨k, i, s, t, l, ns, fs⟩ := d
  rw [preL, kids]
  split
  · rfl
  · split
    · rfl
    · rfl
theorem preLs_take (lvl : Int) : ∀ (l : List Val) (k : Nat) (h : k < l.length), preLs lvl (l.take (k + 1)) = preLs lvl (l.take k) ++ preL lvl l[k]
  | d :: l, 0, _ => by simp [preLs]
  | d :: l, k + 1, h => by
    simp only [List.take_succ_cons, preLs, List.append_assoc, List.getElem_cons_succ]
    rw [preLs_take lvl l k (by simpa using h)]
theorem preLs_take_len (lvl : Int) (l : List Val) (k : Nat) (h : k < l.length) : (preLs lvl (l.take k)).length + (preL lvl l[k]).length ≤ (preLs lvl l).length := by
  have h1 := congrArg List.length (preLs_take lvl l k h)
  rw [List.length_append] at h1
  rw [← h1]
  have : ∀ (l : List Val) (m : Nat), (preLs lvl (l.take m)).length ≤ (preLs lvl l).length := by
    intro l
    induction l with
    | nil => intro m; simp [preLs]
    | cons d l ih =>
      intro m
      cases m with
      | zero => simp [preLs]
      | succ m => simp only [List.take_succ_cons, preLs, List.length_append]; have := ih m; omega
  exact this l (k + 1)
theorem preLs_take_prefix (lvl : Int) (l : List Val) (k : Nat) (h : k < l.length) (q : List (Int × Val)) (hq : q <+: preL lvl l[k]) : preLs lvl (l.take k) ++ q <+: preLs lvl l := by
  have : ∀ (l : List Val) (m : Nat), preLs lvl (l.take m) <+: preLs lvl l := by
    intro l
    induction l with
    | nil => intro m; simp [preLs]
    | cons d l ih =>
      intro m
      cases m with
      | zero => simp [preLs]
      | succ m => simp only [List.take_succ_cons, preLs]; exact (List.prefix_append_right_inj _).2 (ih m)
  have h1 := this l (k + 1)
  rw [preLs_take lvl l k h] at h1
  exact ((List.prefix_append_right_inj _).2 hq).trans h1

/-- What preorder hands to a round: a level, and a value that is known in the world in which the loop began. -/
abbrev Item (n₀ : Nat) (W0 : World) := { x : Int × VC × Val // IsVal (· < n₀) W0 x.2.1 x.2.2 }
def Item.dat {n₀ : Nat} {W0 : World} (x : Item n₀ W0) : Int × Val := (x.1.1, x.1.2.2)
def Item.encs {n₀ : Nat} {W0 : World} (x : Item n₀ W0) : Array Value := #[.int .i64 x.1.1, x.1.2.1.v]

/-- What a round keeps: whatever lies below n₀, and the cells from n₁ on. -/
def Kp (n₀ n₁ : Nat) (W W' : World) : Prop := Below n₀ W W' ∧ ∀ (b : Nat) (o : Obj), n₁ ≤ b → W.heap[b]? = some o → o.isCells = true → W'.heap[b]? = some o
theorem Kp.refl (n₀ n₁ : Nat) (W : World) : Kp n₀ n₁ W W := ⟨Below.refl _ _, fun _ _ _ h _ => h⟩
theorem Kp.trans {n₀ n₁ : Nat} {A B C : World} (h : Kp n₀ n₁ A B) (k : Kp n₀ n₁ B C) : Kp n₀ n₁ A C := ⟨h.1.trans k.1, fun b o hb ho hc => k.2 b o hb (h.2 b o hb ho hc) hc⟩
theorem Kp.ext {n₀ n₁ : Nat} {A B : World} (h : Below A.heap.size A B) (hn : n₀ ≤ A.heap.size) : Kp n₀ n₁ A B := ⟨h.mono hn, fun b o _ ho _ => heapExt h ho⟩
theorem Kp.cells {n₀ n₁ : Nat} {A B : World} (h : Kp n₀ n₁ A B) {b : Nat} {cs : Array Value} {t : TypeId} {fr : Nat × Nat} (hb : b < n₀ ∨ n₁ ≤ b) (hc : A.heap[b]? = some (.cells cs t fr)) : B.heap[b]? = some (.cells cs t fr) := by
  rcases hb with hb | hb
  · exact (h.1.block b hb).trans hc
  · exact h.2 b _ hb hc rfl
theorem kp_b {n₀ n₁ : Nat} {w : World} (hn : n₀ ≤ w.heap.size) (W : World) (l : Nat) (o o' : Obj) (hl : w.heap.size ≤ l) (h : W.heap[l]? = some o) (hc : o.isCells = false) (hw : o.isWalk = false) : Kp n₀ n₁ W (W.putObj l o') :=
  ⟨belowK_b hn W l o o' hl h hc hw, fun b o2 _ h2 hc2 => by
    refine (World.putObj_heap_other (fun e => ?_)).trans h2
    subst e
    rw [h] at h2; cases h2; rw [hc] at hc2; cases hc2⟩

theorem RoundIn.anyDepth {m m' : Nat} {P : Program} {l : Nat} {f : FuncId} {tmps : Array Value} {assign body : Code} {w : World} {R : Ending → World → Prop}
    (h : RoundIn Fence.wide m P l f tmps assign body w R) : RoundIn Fence.wide m' P l f tmps assign body w R := ⟨h.1, fun c cs _ => h.2 c cs (fun d h => by cases h)⟩
theorem YieldAt.anyDepth {m : Nat} (m' : Nat) {P : Program} {l : Nat} {args : Array Value} {W : World} {R : Ending → World → Prop} (h : YieldAt Fence.wide m P l args W R) : YieldAt Fence.wide m' P l args W R := by
  obtain ⟨fn, tmps, assign, body, hy, hR⟩ := h
  exact ⟨fn, tmps, assign, body, hy, RoundIn.anyDepth hR⟩

def Six (W : World) (B : Nat) (c : VC) : Prop := W.cell? ⟨B, 0, none⟩ = some (.int .i64 c.k) ∧ W.cell? ⟨B, 1, none⟩ = some (.int .i64 c.i) ∧ W.cell? ⟨B, 2, none⟩ = some (.int .i64 c.s) ∧ W.cell? ⟨B, 3, none⟩ = some (.string c.t) ∧ W.cell? ⟨B, 4, none⟩ = some (.slice c.la c.ll c.lc) ∧ W.cell? ⟨B, 5, none⟩ = some (.slice c.fa c.fl c.fc)
theorem sixOf {W : World} {B : Nat} {c : VC} {t : TypeId} {fr : Nat × Nat} (h : W.heap[B]? = some (.cells #[.int .i64 c.k, .int .i64 c.i, .int .i64 c.s, .string c.t, .slice c.la c.ll c.lc, .slice c.fa c.fl c.fc] t fr)) : Six W B c :=
  ⟨cellOf h 0, cellOf h 1, cellOf h 2, cellOf h 3, cellOf h 4, cellOf h 5⟩
/-- What is behind a visit. -/
def VisitPost {n₀ : Nat} {W0 : World} (n₁ : Nat) (J Jx : List (Item n₀ W0) → World → Prop) (pre : List (Item n₀ W0)) (L : List (Int × Val)) (W : World) (e : Ending) (W' : World) : Prop :=
  (e = .returned (.bool true) ∧ ∃ ys : List (Item n₀ W0), ys.map Item.dat = L ∧ J (pre ++ ys) W' ∧ Kp n₀ n₁ W W' ∧ W.heap.size ≤ W'.heap.size) ∨
  (e = .returned (.bool false) ∧ ∃ ys : List (Item n₀ W0), ys.map Item.dat <+: L ∧ Jx (pre ++ ys) W')

set_option maxRecDepth 100000 in
set_option maxHeartbeats 4000000 in
theorem visit_step (l n₀ n₁ N : Nat) (W0 : World) (hn0 : n₀ ≤ W0.heap.size) (h01 : n₀ ≤ n₁) (J Jx : List (Item n₀ W0) → World → Prop) (hJ : ∀ pre W W', J pre W → Below W.heap.size W W' → J pre W')
    (hY : ∀ m pre (x : Item n₀ W0) W, J pre W → pre.length < N → YieldAt Fence.wide m Tryz.prog l x.encs W fun e W' => (e = .returned (.bool true) ∧ J (pre ++ [x]) W' ∧ Kp n₀ n₁ W W') ∨ (e = .returned (.bool false) ∧ Jx (pre ++ [x]) W'))
    (d : Val) (ih : ∀ d' ∈ kids d, ∀ (m : Nat) (c : VC) (lvl : Int) (pre : List (Item n₀ W0)) (W : World), IsVal (· < n₀) W0 c d' → Below n₀ W0 W → n₁ ≤ W.heap.size → J pre W → pre.length + (preL lvl d').length ≤ N → CallsIn Fence.wide m Tryz.prog 141 #[c.v, .int .i64 lvl, .func (.yield l) #[] #[]] W (VisitPost n₁ J Jx pre (preL lvl d') W))
    (m : Nat) (c : VC) (lvl : Int) (pre : List (Item n₀ W0)) (W : World) (hd : IsVal (· < n₀) W0 c d) (hW : Below n₀ W0 W) (hn1 : n₁ ≤ W.heap.size) (hj : J pre W) (hN : pre.length + (preL lvl d).length ≤ N) :
    CallsIn Fence.wide m Tryz.prog 141 #[c.v, .int .i64 lvl, .func (.yield l) #[] #[]] W (VisitPost n₁ J Jx pre (preL lvl d) W) := by
  obtain ⟨Wa, hWa⟩ : ∃ Wa, Wa = W.alloc (.cells #[.int .i64 c.k, .int .i64 c.i, .int .i64 c.s, .string c.t, .slice c.la c.ll c.lc, .slice c.fa c.fl c.fc] 28) := ⟨_, rfl⟩
  have hba : Below W.heap.size W Wa := by rw [hWa]; exact (Below.refl _ W).alloc (Nat.le_refl _) _
  have hbox : Wa.heap[W.heap.size]? = some (.cells #[.int .i64 c.k, .int .i64 c.i, .int .i64 c.s, .string c.t, .slice c.la c.ll c.lc, .slice c.fa c.fl c.fc] 28 (0, 0)) := by rw [hWa]; exact heap_alloc_new W _
  have hja : J pre Wa := hJ _ _ _ hj hba
  have hpl := preL_eq lvl d
  have hN1 : pre.length + 1 + (preLs (wrap64 (lvl + 1)) (kids d)).length ≤ N := by rw [hpl] at hN; simp only [List.length_cons] at hN; omega
  have hx0 := YieldAt.mono (R' := fun e W2 => (e = .returned (.bool true) ∧ (J (pre ++ [⟨(lvl, c, d), hd⟩]) W2 ∧ Kp n₀ n₁ W W2 ∧ Below n₀ W0 W2 ∧ W.heap.size < W2.heap.size) ∧ Six W2 W.heap.size c) ∨ (e = .returned (.bool false) ∧ Jx (pre ++ [⟨(lvl, c, d), hd⟩]) W2)) (hY (m - 1) pre ⟨(lvl, c, d), hd⟩ Wa hja (by omega))
    (fun e W2 h => h.elim (fun ⟨he, hj2, hk2⟩ => .inl ⟨he, ⟨hj2, (Kp.ext hba (by omega)).trans hk2, (hW.trans (hba.mono (by omega))).trans hk2.1, ltOf (hk2.cells (.inr hn1) hbox)⟩, sixOf (hk2.cells (.inr hn1) hbox)⟩) .inr)
  have HPL := hid hpl
  clear hpl hN
  obtain ⟨fn, tmps, assign, body, hy, hR⟩ := hx0
  dsimp only [Item.encs] at hy
  clear hbox
  refine callsIn_of_wp Tryz.func141 rfl trivial ?_ rfl
  simp only [Tryz.ntmps141, List.size_toArray, List.length_cons, List.length_nil, Nat.reduceAdd, Nat.reduceSub, Array.replicate_succ, Array.replicate_zero, List.push_toArray, List.append_toArray, List.nil_append, List.cons_append]
  rw [hWa] at hy hR
  clear hWa hba hja
  gi_wp2_with (first
    | ((try refine ⟨fun h => (by cases h), ?_⟩); refine hR.mono ?_; clear hR; rintro e W2 (⟨rfl, h2, e0, e1, e2, e3, e4, e5⟩ | ⟨rfl, hx2⟩))
    | ((try refine ⟨trivial, ?_⟩); (try refine ⟨fun h => (by cases h), ?_⟩); gi_at_call 175; refine (callsIn_wide.2 (parts_call n₀ W0 d c _ h2.2.2.1 (by have := h2.2.2.2; omega) hd)).mono ?_; rintro e W3 ⟨a, n, cap, rfl, h3⟩))
  · obtain ⟨hJ2, hk2, hW2, hs2⟩ := h2
    obtain ⟨hb3, hn3, hnl, hka⟩ := h3
    clear e0 e1 e2 e3 e4 e5
    have hs3 := hb3.size
    have hj3 := hJ _ _ _ hJ2 hb3
    have hk3 : Kp n₀ n₁ W W3 := hk2.trans (Kp.ext hb3 (by omega))
    have hW3 : Below n₀ W0 W3 := hW2.trans (hb3.mono (by omega))
    clear hJ2 hk2 hW2
    gi_loopw [17] (fun i wr => ∃ (k : Nat) (ys : List (Item n₀ W0)), k ≤ n ∧ i = .int .i64 k ∧ ys.map Item.dat = preLs (wrap64 (lvl + 1)) ((kids d).take k) ∧ J (pre ++ [⟨(lvl, c, d), hd⟩] ++ ys) wr ∧ Kp n₀ n₁ W3 wr ∧ W3.heap.size ≤ wr.heap.size)
      (fun i _ => n - (intOf i).toNat)
    case atStart => exact ⟨0, [], Nat.zero_le _, rfl, rfl, by simpa using hj3, Kp.refl _ _ _, Nat.le_refl _⟩
    case round =>
      obtain ⟨k, ys, hk, rfl, hys, hjr, hkr, hsr⟩ := hrel
      have HYS := hid hys; clear hys
      have HNL := hid hnl
      by_cases hlt : k < n
      · have hkl : k < (kids d).length := by omega
        clear hnl
        rcases hka with h0 | ⟨b, o, rfl, hb, hbn, hblk, hat⟩
        · exfalso; rw [h0] at hkl; simp at hkl
        · obtain ⟨cs, t, fr, hblk⟩ := hblk
          obtain ⟨x, hx, hxv⟩ := hat k hkl
          have hsame : wr.heap[b]? = W3.heap[b]? := (hkr.cells (by omega) hblk).trans hblk.symm
          obtain ⟨hx0, hx1, hx2, hx3, hx4, hx5⟩ := hx.same hsame
          clear hblk hsame hx hat
          have hlt' : (k : Int) < (n : Int) := by omega
          have hWr : Below n₀ W0 wr := hW3.trans hkr.1
          obtain ⟨wb, hwb⟩ : ∃ wb, wb = wr.alloc (.cells #[.int .i64 x.k, .int .i64 x.i, .int .i64 x.s, .string x.t, .slice x.la x.ll x.lc, .slice x.fa x.fl x.fc] 28) := ⟨_, rfl⟩
          have hbb : Below wr.heap.size wr wb := by rw [hwb]; exact (Below.refl _ wr).alloc (Nat.le_refl _) _
          have hsb : wr.heap.size ≤ wb.heap.size := hbb.size
          have htl := preLs_take_len (wrap64 (lvl + 1)) (kids d) k hkl
          have hyl : ys.length = (preLs (wrap64 (lvl + 1)) ((kids d).take k)).length := by rw [← HYS.out, List.length_map]
          have hc := ih (kids d)[k] (List.getElem_mem hkl) (m - 1) x (wrap64 (lvl + 1)) (pre ++ [⟨(lvl, c, d), hd⟩] ++ ys) wb hxv (hWr.trans (hbb.mono (by omega))) (by omega) (hJ _ _ _ hjr hbb) (by simp only [List.length_append, List.length_cons, List.length_nil]; omega)
          have htk := hid (preLs_take (wrap64 (lvl + 1)) (kids d) k hkl)
          have hpf := hid (preLs_take_prefix (wrap64 (lvl + 1)) (kids d) k hkl)
          clear htl hyl hxv
          have HBB := hid hbb
          rw [hwb] at hc
          have HC := hid hc
          have HWB := hid hwb
          clear hwb hc hbb
          have hn63 : (n : Int) ≤ 9223372036854775807 := by omega
          gi_wp2_with ((try refine ⟨trivial, ?_⟩); (try refine ⟨fun h => (by cases h), ?_⟩); gi_at_call 141; refine HC.out.mono ?_; rintro e W4 (⟨rfl, h4⟩ | ⟨rfl, h4⟩))
          · obtain ⟨zs, hzs, hj4, hk4, hs4⟩ := h4
            rw [← HWB.out] at hk4 hs4
            go_roundw
            case rel => exact ⟨k + 1, ys ++ zs, by omega, by go_num, by rw [List.map_append, HYS.out, hzs, htk.out], by simpa using hj4, hkr.trans ((Kp.ext HBB.out (by omega)).trans hk4), by omega⟩
            case measure => simp [intOf]; omega
          · obtain ⟨zs, hzs, hx4⟩ := h4
            go_ret
            refine .inr ⟨rfl, ⟨(lvl, c, d), hd⟩ :: (ys ++ zs), ?_, by simpa using hx4⟩
            rw [HPL.out, List.map_cons, List.map_append, HYS.out]
            exact (List.prefix_cons_inj _).2 (hpf.out _ hzs)
      · obtain rfl : k = n := by omega
        gi_wp2
        go_ret
        refine .inl ⟨rfl, ⟨(lvl, c, d), hd⟩ :: ys, ?_, by simpa using hjr, hk3.trans hkr, by omega⟩
        rw [HPL.out, List.map_cons, HYS.out, HNL.out, List.take_length]
        rfl
  · go_ret
    refine .inr ⟨rfl, [⟨(lvl, c, d), hd⟩], ?_, hx2⟩
    rw [HPL.out]
    exact ⟨_, rfl⟩

theorem kids_sz {d d' : Val} (h : d' ∈ kids d) : Val.sz d' < Val.sz d := by
  obtain ⟨k, i, s, t, l, ns, fs⟩ := d
  have key : ∀ r : List Val, d' ∈ r → Val.sz d' ≤ Val.szs r := fun r hl => by
    obtain ⟨j, hj, rfl⟩ := List.getElem_of_mem hl
    exact Val.szs_get r j hj
  simp only [kids] at h
  simp only [Val.sz]
  by_cases h1 : k = 8 ∨ k = 10
  · rw [if_pos h1] at h; have := key l h; omega
  · rw [if_neg h1] at h
    by_cases h2 : k = 9
    · rw [if_pos h2] at h; have := key fs h; omega
    · rw [if_neg h2] at h; cases h

theorem visit_in (l n₀ n₁ N : Nat) (W0 : World) (hn0 : n₀ ≤ W0.heap.size) (h01 : n₀ ≤ n₁) (J Jx : List (Item n₀ W0) → World → Prop) (hJ : ∀ pre W W', J pre W → Below W.heap.size W W' → J pre W')
    (hY : ∀ m pre (x : Item n₀ W0) W, J pre W → pre.length < N → YieldAt Fence.wide m Tryz.prog l x.encs W fun e W' => (e = .returned (.bool true) ∧ J (pre ++ [x]) W' ∧ Kp n₀ n₁ W W') ∨ (e = .returned (.bool false) ∧ Jx (pre ++ [x]) W')) :
    ∀ (z : Nat) (d : Val), Val.sz d ≤ z → ∀ (m : Nat) (c : VC) (lvl : Int) (pre : List (Item n₀ W0)) (W : World), IsVal (· < n₀) W0 c d → Below n₀ W0 W → n₁ ≤ W.heap.size → J pre W → pre.length + (preL lvl d).length ≤ N →
      CallsIn Fence.wide m Tryz.prog 141 #[c.v, .int .i64 lvl, .func (.yield l) #[] #[]] W (VisitPost n₁ J Jx pre (preL lvl d) W) := by
  intro z
  induction z using Nat.strongRecOn with
  | _ z ih =>
    intro d hz m c lvl pre W hd hW hn1 hj hN
    exact visit_step l n₀ n₁ N W0 hn0 h01 J Jx hJ hY d (fun d' hd' => ih (Val.sz d') (by have := kids_sz hd'; omega) d' (Nat.le_refl _)) m c lvl pre W hd hW hn1 hj hN

theorem preorder_call (c : VC) (w : World) : Calls Tryz.prog 112 #[c.v] w fun e w' => e = .returned (.func (.func 140) #[] #[.pointer (some ⟨w.heap.size, 0, none⟩)]) ∧
    w.alloc (.cells #[.int .i64 c.k, .int .i64 c.i, .int .i64 c.s, .string c.t, .slice c.la c.ll c.lc, .slice c.fa c.fl c.fc] 28) = w' := by
  go_enter Tryz.func112, Tryz.ntmps112
  go_wp2
  go_ret
  exact ⟨rfl, rfl⟩

set_option maxRecDepth 100000 in
set_option maxHeartbeats 1000000 in
/-- What value.preorder returns yields the value and all that it consists of. -/
theorem preorder_stops (m n₀ B : Nat) (W0 w : World) (c : VC) (d : Val) (hn0 : n₀ ≤ W0.heap.size) (hw : Below n₀ W0 w) (hB : n₀ ≤ B) (hd : IsVal (· < n₀) W0 c d)
    (hbox : w.heap[B]? = some (.cells #[.int .i64 c.k, .int .i64 c.i, .int .i64 c.s, .string c.t, .slice c.la c.ll c.lc, .slice c.fa c.fl c.fc] 28 (0, 0))) (n₁ : Nat) (hn1 : n₁ ≤ w.heap.size) (h01 : n₀ ≤ n₁) :
    SeqStopsK Fence.wide m Tryz.prog 140 #[.pointer (some ⟨B, 0, none⟩)] (Item.encs (n₀ := n₀) (W0 := W0)) (Kp n₀ n₁) (fun ys => ys.map Item.dat = preL 1 d) (fun ys => ys.map Item.dat <+: preL 1 d) (preL 1 d).length w := by
  intro l J Jx W hW hJ hJx hY h0
  have hsW := hW.size
  have hbW := sixOf (heapExt hW hbox)
  -- the invariant with what it abides
  have hv := visit_in l n₀ n₁ (preL 1 d).length W0 hn0 h01 (fun pre W1 => J pre W1 ∧ W.heap.size ≤ W1.heap.size ∧ Below n₀ W0 W1) Jx
    (fun pre W1 W2 h hb => ⟨hJ _ _ _ none h.1 (grownOf hb none) (fun r e => by cases e), by have := hb.size; omega, h.2.2.trans (hb.mono (by omega))⟩)
    (fun m' pre x W1 h hl => YieldAt.anyDepth m' (YieldAt.mono (hY pre x W1 h.1 hl) fun e W2 h2 => h2.imp (fun ⟨he, hj2, hk2⟩ => ⟨he, ⟨hj2, Nat.le_trans h.2.1 hk2.1.size, h.2.2.trans hk2.1⟩, hk2⟩) id))
    (Val.sz d) d (Nat.le_refl _) (m - 1) c 1 [] W hd (hw.trans (hW.mono (by omega))) (by omega) ⟨h0, Nat.le_refl _, hw.trans (hW.mono (by omega))⟩ (by simp)
  obtain ⟨e0, e1, e2, e3, e4, e5⟩ := hbW
  have HV := hid hv
  clear hv hY
  refine callsIn_of_wp Tryz.func140 rfl trivial ?_ rfl
  simp only [Tryz.ntmps140, List.size_toArray, List.length_cons, List.length_nil, Nat.reduceAdd, Nat.reduceSub, Array.replicate_succ, Array.replicate_zero, List.push_toArray, List.append_toArray, List.nil_append, List.cons_append]
  gi_wp2_with ((try refine ⟨trivial, ?_⟩); (try refine ⟨fun h => (by cases h), ?_⟩); gi_at_call 141; refine HV.out.mono ?_; rintro e W1 (⟨rfl, h4⟩ | ⟨rfl, h4⟩))
  · obtain ⟨ys, hys, hj, _⟩ := h4
    go_end0
    exact ⟨⟨_, rfl⟩, .inl ⟨ys, hys, by simpa using hj.1⟩⟩
  · obtain ⟨ys, hys, hj⟩ := h4
    go_end0
    exact ⟨⟨_, rfl⟩, .inr ⟨ys, hys, by simpa using hj⟩⟩
end Go.Proofs.YthjlgpmajeafpaaGreatDoor
