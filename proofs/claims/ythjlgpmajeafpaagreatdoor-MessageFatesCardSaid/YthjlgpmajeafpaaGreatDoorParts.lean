/-
  value.parts returns the values of which a value consists directly, and leaves what was there as it was. Condition: the value can be read as data.
-/
import Derived.Test.YthjlgpmajeafpaaGreatDoorBase
import Derived.Test.YthjlgpmajeafpaaGreatDoorClone
import Derived.Test.YthjlgpmajeafpaaGreatDoorProg
import Derived.WalkKit
import Derived.WalkLawsBesides
import Derived.WalkSpells
import Derived.Outline
import Derived.Deep.AppendLies
namespace Go.Proofs.YthjlgpmajeafpaaGreatDoor
open Go Go.RowKit
set_option linter.unusedVariables false
set_option linter.unusedSimpArgs false

def kids : Val → List Val
  | .mk k _ _ _ l _ fs => if k = 8 ∨ k = 10 then l else if k = 9 then fs else []

/-- A slice of values in w', whose own slices lie in w below n. -/
def KidsAt (n₀ m : Nat) (w w' : World) (a : Option Addr) (n : Nat) (l : List Val) : Prop :=
  n = l.length ∧ (l = [] ∨ ∃ b o, a = some ⟨b, o, none⟩ ∧ b < w'.heap.size ∧ (b < n₀ ∨ m ≤ b) ∧ (∃ cs t fr, w'.heap[b]? = some (.cells cs t fr)) ∧ ∀ j (h : j < l.length), ∃ x, At w' b (o + j * 6) x ∧ IsVal (· < n₀) w x l[j])
def PartsPost (n₀ : Nat) (w0 : World) (d : Val) (w : World) (e : Ending) (w' : World) : Prop := ∃ a n cap, e = .returned (.slice a n cap) ∧ Below w.heap.size w w' ∧ n * 88 ≤ 140737488351232 * 2 ∧ KidsAt n₀ w.heap.size w0 w' a n (kids d)

theorem blockOf {w : World} {b o : Nat} {v : Value} (h : w.cell? ⟨b, o, none⟩ = some v) : ∃ cs t fr, w.heap[b]? = some (.cells cs t fr) := by
  unfold World.cell? at h
  dsimp only at h
  split at h
  · rename_i c t fr e; exact ⟨_, _, _, e⟩
  · cases h

set_option maxRecDepth 100000 in
set_option maxHeartbeats 2000000 in
theorem parts_call (n₀ : Nat) (w0 : World) (d : Val) (c : VC) (w : World) (hw : Below n₀ w0 w) (hn₀ : n₀ ≤ w.heap.size) (hd : IsVal (· < n₀) w0 c d) :
    Calls Tryz.prog 175 #[c.v] w (PartsPost n₀ w0 d w) := by
  obtain ⟨k0, i0, s0, t0, l, ns, fs⟩ := d
  obtain ⟨k1, i1, s1, t1, la, ll, lc, fa, fl, fc⟩ := c
  obtain ⟨⟨h1, h2, h3, h4, hok, hll, hfl, hns⟩, hv, hf⟩ := hd
  dsimp only at h1 h2 h3 h4 hll hfl hv hf
  subst h1 h2 h3 h4
  have hrl : ll * 88 ≤ 140737488351232 := hok.l
  have hrf : fl * 104 ≤ 140737488351232 := hok.f
  clear hok
  have HLL := hid hll; clear hll
  have HFL := hid hfl; clear hfl
  have HNS := hid hns; clear hns
  by_cases h8 : k1 = 8 ∨ k1 = 10
  · have HR := hid (show kids (.mk k1 i1 s1 t1 l ns fs) = l by simp [kids, h8])
    have hpost : ∀ w', Below w.heap.size w w' → PartsPost n₀ w0 (.mk k1 i1 s1 t1 l ns fs) w (.returned (.slice la ll lc)) w' := fun w' hb => by
      refine ⟨_, _, _, rfl, hb, by omega, ?_⟩
      rw [HR.out]
      refine ⟨HLL.out, ?_⟩
      rcases hv with rfl | ⟨b, o, rfl, hb', hvs⟩
      · exact .inl rfl
      · by_cases hl0 : l = []
        · exact .inl hl0
        · have hlp : 0 < l.length := List.length_pos_iff.2 hl0
          have hs := hb.size
          refine .inr ⟨b, o, rfl, by omega, .inl hb', ?_, fun j hj => ?_⟩
          · obtain ⟨x, hx, _⟩ := hvs.get 0 hlp
            exact blockOf ((hx.same ((hb.block b (by omega)).trans (hw.block b hb'))).k)
          · obtain ⟨x, hx, hxv⟩ := hvs.get j hj
            exact ⟨x, hx.same ((hb.block b (by omega)).trans (hw.block b hb')), hxv⟩
    have HP := hid hpost
    clear hpost hv hf
    rcases h8 with rfl | rfl
    all_goals
      go_enter Tryz.func175, Tryz.ntmps175
      go_wp2
      go_ret
      exact HP.out _ ((Below.refl _ w).alloc (Nat.le_refl _) _)
  · by_cases h9 : k1 = 9
    · have HR := hid (show kids (.mk k1 i1 s1 t1 l ns fs) = fs by subst h9; simp [kids])
      subst h9
      obtain ⟨ti, hi, hz0, hz1, hz2⟩ := info_parts infoValue
      clear h8 hv
      have HW := hid hw
      go_enter Tryz.func175, Tryz.ntmps175
      go_wp2
      go_loopw [3, 18] (fun v i wr => ∃ (k : Nat) (cs : List VC), k ≤ fl ∧ i = .int .i64 k ∧ cs.length = k ∧ wr.ownsRow (w.heap.size + 1) 28 6 v k (cs.flatMap VC.cs) ∧
          (∀ j (h : j < cs.length) (h' : j < fs.length), IsVal (· < n₀) w0 cs[j] fs[j]) ∧ Below w.heap.size w wr ∧ w.heap.size + 1 ≤ wr.heap.size)
        (fun _ i _ => fl - (intOf i).toNat)
      case atStart => exact ⟨0, [], Nat.zero_le _, rfl, rfl, World.ownsRow_nil _ _ _ _, fun j h => by simp at h, (Below.refl _ w).alloc (Nat.le_refl _) _, by simp⟩
      case round =>
        obtain ⟨k, cs, hk, rfl, hcs, hown, hel, hbel, hszr⟩ := hrel
        have HCS := hid hcs; clear hcs
        have HEL := hid hel; clear hel
        by_cases hlt : k < fl
        · rcases hf with rfl | ⟨b, o, rfl, hb, hvs⟩
          · exfalso; have h1 := HFL.out; simp only [List.length_nil] at h1; omega
          · have hkl : k < fs.length := by have h1 := HFL.out; omega
            have hkn : k < ns.length := by have h1 := HFL.out; have h2 := HNS.out; omega
            obtain ⟨⟨hnm, hnz⟩, x, hx, hxv⟩ := hvs.get HNS.out k hkl hkn
            obtain ⟨nm, hnmd⟩ : ∃ nm, nm = ns[k] := ⟨_, rfl⟩
            rw [← hnmd] at hnm
            clear hnmd hnz
            obtain ⟨hx0, hx1, hx2, hx3, hx4, hx5⟩ := hx.same (w' := wr) ((hbel.block b (by omega)).trans (HW.out.block b hb))
            have hnm' : wr.cell? ⟨b, o + k * 7, none⟩ = some (.string nm) := (World.cell?_of_block (w := w0) (a := ⟨b, o + k * 7, none⟩) ((hbel.block b (by omega)).trans (HW.out.block b hb))).trans hnm
            have hlt' : (k : Int) < (fl : Int) := by omega
            have hcap1 : k + 1 ≤ maxLen := by unfold maxLen; omega
            have hcap2 : (k + 1) * 88 ≤ 140737488355328 := by omega
            clear hx hnm hw
            have HX := hid hxv; clear hxv
            go_wp2_with (at_builtin; (refine wpList_append_lies _ (by rfl) _ _ 25 (by rfl) (w.heap.size + 1) 28 ti _ 6 88 Tryz.underlying25 hi hz0 hz1 hz2 rfl (by omega) _ k (cs.flatMap VC.cs) (by rfl) ((hown.alloc _).alloc _) ⟨wr.heap.size + 1, 0, none⟩ 1 1 x.cs (by rfl) (by rfl) (World.news_of_block (heapNewAt _ _ _ (by simp))) (by simp [VC.cs, Value.oneCell']) (by omega) hcap1 hcap2 (by simp; omega) (wr.heap.size + 1 + 1) (by simp) ?_); intro gg cap w2 hown2 hgrow hat hlt2)
            go_roundw
            case rel =>
              refine ⟨k + 1, cs ++ [x], by omega, by go_num, by simp [HCS.out], by simpa using hown2, fun j hj hj' => ?_, ((hbel.alloc (by omega) _).alloc (by simp; omega) _).grown hgrow (by simp; omega) (fun r e => by have := (hown.lt r e).1; omega), by have := hgrow.size; simp at this; omega⟩
              by_cases hjk : j < cs.length
              · rw [List.getElem_append_left hjk]; exact HEL.out j hjk hj'
              · obtain rfl : j = k := by have := HCS.out; simp at hj; omega
                rw [List.getElem_append_right (by omega)]
                simp only [HCS.out, Nat.sub_self, List.getElem_cons_zero]
                exact HX.out
            case measure => simp [intOf]; omega
        · obtain rfl : k = fl := by omega
          go_wp2
          go_ret
          have hsh : ∃ a cap, (∀ r, a = some r → ∃ g, r = ⟨g, 0, none⟩) ∧ u3 = .slice a k cap := by
            rcases hown.2 with ⟨rfl, rfl⟩ | ⟨g, cap, cur, rfl, _⟩
            · exact ⟨none, 0, fun r h => (by cases h), rfl⟩
            · exact ⟨_, cap, fun r h => ⟨g, (by cases h; rfl)⟩, rfl⟩
          obtain ⟨a, cap, ha, rfl⟩ := hsh
          refine ⟨a, k, cap, rfl, hbel, by omega, ?_⟩
          rw [HR.out]
          refine ⟨HFL.out, ?_⟩
          by_cases hl0 : fs = []
          · exact .inl hl0
          · have hlp : 0 < fs.length := List.length_pos_iff.2 hl0
            have h1 := HFL.out
            rcases hown.2 with ⟨h2, h3⟩ | ⟨g, cap', cur, hv, hb, hg, _⟩
            · omega
            · simp only [Value.slice.injEq] at hv
              obtain ⟨rfl, _, rfl⟩ := hv
              have h2 := HCS.out
              exact .inr ⟨g, 0, rfl, ltOf hg, .inr (by omega), ⟨_, _, _, hg⟩, fun j hj => ⟨cs[j]'(by omega), by rw [Nat.zero_add]; exact At.ofRow hown j (by omega), HEL.out j (by omega) hj⟩⟩
    · have HR := hid (show kids (.mk k1 i1 s1 t1 l ns fs) = [] by simp [kids, h8, h9])
      have e8 : (k1 == 8) = false := by simp; omega
      have e9 : (k1 == 9) = false := by simp; omega
      have e10 : (k1 == 10) = false := by simp; omega
      clear hv hf h8 h9 hw
      go_enter Tryz.func175, Tryz.ntmps175
      go_wp2
      go_ret
      exact ⟨_, _, _, rfl, (Below.refl _ w).alloc (Nat.le_refl _) _, by omega, by rw [HR.out]; exact ⟨rfl, .inl rfl⟩⟩
end Go.Proofs.YthjlgpmajeafpaaGreatDoor
