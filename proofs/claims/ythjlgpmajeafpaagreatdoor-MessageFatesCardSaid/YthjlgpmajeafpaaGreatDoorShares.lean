/-
  message.shares yields the numbers from 0 to n - 1 with the shares of a mass. Conditions: the mass is not negative and not great, n is not great.
-/
import Derived.Test.YthjlgpmajeafpaaGreatDoorUnder
import Derived.Test.YthjlgpmajeafpaaGreatDoorVisit
import Derived.Laws.EntriesVeiled
namespace Go.Proofs.YthjlgpmajeafpaaGreatDoor
open Go Go.RowKit Go.Shelf
set_option linter.unusedVariables false
set_option linter.unusedSimpArgs false
attribute [local go_sem] Oper.semAt_some

def shareN (M n i : Nat) : Nat := M / n + if i < M % n then 1 else 0
def shareL (M n : Nat) : List (Nat × Nat) := (List.range n).map fun i => (i, shareN M n i)
theorem shareL_take (M n k : Nat) (h : k < n) : (shareL M n).take (k + 1) = (shareL M n).take k ++ [(k, shareN M n k)] := by
  unfold shareL
  rw [← List.map_take, ← List.map_take, List.take_range, List.take_range, Nat.min_eq_left (by omega), Nat.min_eq_left (by omega), List.range_succ, List.map_append]
  rfl
theorem shareL_len (M n : Nat) : (shareL M n).length = n := by simp [shareL]
theorem shareN_le (M n i : Nat) (hM : M ≤ 1099511627776) : shareN M n i ≤ 1099511627777 := by
  unfold shareN
  have := Nat.div_le_self M n
  split <;> omega
/-- What a round is handed: a number below n, and a share. -/
abbrev Sh (n : Nat) := { x : Nat × Nat // x.1 < n ∧ x.2 ≤ 1099511627777 }
def shEncs {n : Nat} (x : Sh n) : Array Value := #[.int .i64 x.1.1, .int .i64 x.1.2]
/-- What a round keeps: the two boxes. -/
def Kb (B1 B2 : Nat) (W W' : World) : Prop := ∀ (b : Nat) (o : Obj), b = B1 ∨ b = B2 → W.heap[b]? = some o → o.isCells = true → W'.heap[b]? = some o
theorem kb_b {B1 B2 : Nat} {w : World} (W : World) (l : Nat) (o o' : Obj) (hl : w.heap.size ≤ l) (h : W.heap[l]? = some o) (hc : o.isCells = false) (hw : o.isWalk = false) : Kb B1 B2 W (W.putObj l o') := fun b o2 _ h2 hc2 => by
  refine (World.putObj_heap_other (fun e => ?_)).trans h2
  subst e
  rw [h] at h2; cases h2; rw [hc] at hc2; cases hc2

theorem shares_call (mass n : Int) (w : World) : Calls Tryz.prog 62 #[.int .i64 mass, .int .i64 n] w fun e w' => e = .returned (.func (.func 113) #[] #[.pointer (some ⟨w.heap.size + 1, 0, none⟩), .pointer (some ⟨w.heap.size, 0, none⟩)]) ∧
    (w.alloc (.cells #[.int .i64 mass] 3)).alloc (.cells #[.int .i64 n] 3) = w' := by
  go_enter Tryz.func62, Tryz.ntmps62
  go_wp2
  go_ret
  exact ⟨rfl, rfl⟩

set_option maxRecDepth 100000 in
set_option maxHeartbeats 4000000 in
theorem shares_stops (m B1 B2 M n : Nat) (w : World) (hM : M ≤ 1099511627776) (hn : n ≤ 1000000)
    (h1 : w.heap[B1]? = some (.cells #[.int .i64 n] 3 (0, 0))) (h2 : w.heap[B2]? = some (.cells #[.int .i64 M] 3 (0, 0))) :
    SeqStopsK Fence.wide m Tryz.prog 113 #[.pointer (some ⟨B1, 0, none⟩), .pointer (some ⟨B2, 0, none⟩)] (shEncs (n := n)) (Kb B1 B2) (fun ys => ys.map Subtype.val = shareL M n) (fun ys => ys.map Subtype.val <+: shareL M n) n w := by
  intro l J Jx W hW hJ hJx hY h0
  have b1 := heapExt hW h1
  have b2 := heapExt hW h2
  clear h1 h2
  have c1 := cellOf b1 0
  (try dsimp only at c1)
  refine callsIn_of_wp Tryz.func113 rfl trivial ?_ rfl
  simp only [Tryz.ntmps113, List.size_toArray, List.length_cons, List.length_nil, Nat.reduceAdd, Nat.reduceSub, Array.replicate_succ, Array.replicate_zero, List.push_toArray, List.append_toArray, List.nil_append, List.cons_append]
  gi_wp2
  gi_loopw [7] (fun i wr => ∃ (k : Nat) (ys : List (Sh n)), k ≤ n ∧ i = .int .i64 k ∧ ys.map Subtype.val = (shareL M n).take k ∧ J ys wr ∧ wr.heap[B1]? = some (.cells #[.int .i64 n] 3 (0, 0)) ∧ wr.heap[B2]? = some (.cells #[.int .i64 M] 3 (0, 0)))
    (fun i _ => n - (intOf i).toNat)
  case atStart => exact ⟨0, [], Nat.zero_le _, rfl, rfl, h0, b1, b2⟩
  case round =>
    obtain ⟨k, ys, hk, rfl, hys, hj, g1, g2⟩ := hrel
    have HYS := hid hys
    clear hys
    clear c1
    have c1 := cellOf g1 0
    have c2 := cellOf g2 0
    (try dsimp only at c1 c2)
    have G := hid (And.intro g1 g2)
    clear g1 g2 b1 b2
    by_cases hlt : k < n
    · have hlt' : (k : Int) < (n : Int) := by omega
      have hlen : ys.length = k := by
        have := congrArg List.length HYS.out
        rw [List.length_map, List.length_take, shareL_len] at this
        omega
      have hx := hY ys ⟨(k, shareN M n k), hlt, shareN_le M n k hM⟩ wr hj (by omega)
      have HST : Hid (((ys ++ [(⟨(k, shareN M n k), hlt, shareN_le M n k hM⟩ : Sh n)])).map Subtype.val = (shareL M n).take (k + 1)) := hid (by rw [List.map_append, HYS.out, shareL_take M n k hlt]; rfl)
      clear hlen
      obtain ⟨zs, hzs⟩ : ∃ zs, zs = ys ++ [(⟨(k, shareN M n k), hlt, shareN_le M n k hM⟩ : Sh n)] := ⟨_, rfl⟩
      rw [← hzs] at hx HST
      clear hzs
      simp only [shEncs] at hx
      have HX := hid hx
      clear hx
      have hnz : ¬ (n : Int) = 0 := by omega
      obtain ⟨sq, hsq⟩ : ∃ sq, sq = M / n := ⟨_, rfl⟩
      have hq : wrap64 ((M : Int) / (n : Int)) = (sq : Int) := by
        rw [hsq, Int.natCast_ediv]
        have : ((M / n : Nat) : Int) ≤ M := by exact_mod_cast Nat.div_le_self M n
        rw [Int.natCast_ediv] at this
        have h0 : (0 : Int) ≤ ((M / n : Nat) : Int) := Int.natCast_nonneg _
        rw [Int.natCast_ediv] at h0
        obtain ⟨z, hz⟩ : ∃ z : Int, z = (M : Int) / (n : Int) := ⟨_, rfl⟩
        rw [← hz] at h0 this ⊢
        exact IntWalk.wrap64_in z (by have h5 : z ≤ (M : Int) := this; have h6 : (M : Int) ≤ 1099511627776 := Int.ofNat_le.2 hM; clear hY hj this; omega)
      have hsqb : (sq : Int) ≤ 1099511627776 := by have := Nat.div_le_self M n; omega
      have HQ := hid hq
      clear hq
      have HSQ := hid hsq
      clear hsq
      obtain ⟨sh, hsh⟩ : ∃ sh, sh = shareN M n k := ⟨_, rfl⟩
      rw [← hsh] at HX
      have HSH := hid hsh
      clear hsh
      gi_upto_region 4 with (fail)
      rw [HQ.out]
      by_cases r : k < M % n
      · have hr : (k : Int) < (M : Int) % (n : Int) := by exact_mod_cast r
        have hs1 := hid (show sh = sq + 1 by rw [HSH.out, HSQ.out, shareN, if_pos r])
        clear r
        gi_upto_region 6 with (fail)
        rw [show (sq : Int) + 1 = (sh : Int) by rw [hs1.out]; push_cast; rfl]
        have hx := HX.out
        obtain ⟨fn, tmps, assign, body, hy, hR⟩ := hx
        (try dsimp only at hy)
        have HR := hid hR
        clear hR
        gi_wp2_with ((try refine ⟨fun h => (by cases h), ?_⟩); refine HR.out.mono ?_; clear HR; rintro e W2 (⟨rfl, h4⟩ | ⟨rfl, h4⟩))
        · go_roundw
          case rel => exact ⟨k + 1, zs, by omega, by go_num, HST.out, h4.1, h4.2 _ _ (.inl rfl) G.out.1 rfl, h4.2 _ _ (.inr rfl) G.out.2 rfl⟩
          case measure => simp [intOf]; omega
        · exact bodyPost_ret (results_none rfl _ _ _) rfl ⟨⟨_, rfl⟩, .inr ⟨zs, by rw [HST.out]; exact List.take_prefix _ _, h4⟩⟩
      · have hr : ¬ (k : Int) < (M : Int) % (n : Int) := by intro h; exact r (by exact_mod_cast h)
        have hs1 := hid (show sh = sq by rw [HSH.out, HSQ.out, shareN, if_neg r]; rfl)
        clear r
        gi_upto_region 6 with (fail)
        rw [show (sq : Int) = (sh : Int) by rw [hs1.out]]
        have hx := HX.out
        obtain ⟨fn, tmps, assign, body, hy, hR⟩ := hx
        (try dsimp only at hy)
        have HR := hid hR
        clear hR
        gi_wp2_with ((try refine ⟨fun h => (by cases h), ?_⟩); refine HR.out.mono ?_; clear HR; rintro e W2 (⟨rfl, h4⟩ | ⟨rfl, h4⟩))
        · go_roundw
          case rel => exact ⟨k + 1, zs, by omega, by go_num, HST.out, h4.1, h4.2 _ _ (.inl rfl) G.out.1 rfl, h4.2 _ _ (.inr rfl) G.out.2 rfl⟩
          case measure => simp [intOf]; omega
        · exact bodyPost_ret (results_none rfl _ _ _) rfl ⟨⟨_, rfl⟩, .inr ⟨zs, by rw [HST.out]; exact List.take_prefix _ _, h4⟩⟩
    · obtain rfl : k = n := by omega
      gi_wp2
      go_end0
      exact ⟨⟨_, rfl⟩, .inl ⟨ys, by rw [HYS.out, List.take_of_length_le (by rw [shareL_len]; exact Nat.le_refl _)], hj⟩⟩
end Go.Proofs.YthjlgpmajeafpaaGreatDoor
