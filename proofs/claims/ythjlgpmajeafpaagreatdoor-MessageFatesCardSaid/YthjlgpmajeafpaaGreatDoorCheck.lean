/-
  value.Check returns the first error of a value, as the Lean function chkVal says. Conditions: the value can be read as data; Tabs.
-/
import Derived.Test.YthjlgpmajeafpaaGreatDoorSize
import Derived.Test.YthjlgpmajeafpaaGreatDoorTabs
import Derived.Test.YthjlgpmajeafpaaGreatDoorUses
import Derived.WalkLawsBesides
import Derived.Laws.EntriesVeiled
namespace Go.Proofs.YthjlgpmajeafpaaGreatDoor
open Go Go.RowKit Go.Shelf
set_option linter.unusedVariables false
set_option linter.unusedSimpArgs false
attribute [local go_sem] Oper.semAt_some

def isNullV : Val → Bool
  | .mk k i s t l ns fs => isNullB k i s t l.length fs.length
def usesV : Val → Bool
  | .mk k i s t l ns fs => usesB k i s t l.length fs.length
def ruleE : Val → Int
  | .mk k i s t l ns fs => if k = 1 then betweenE i 0 1 else if k = 2 then betweenE i (-999999999999999) 999999999999999
      else if k = 3 then first2 (betweenE i (-999999999999999) 999999999999999) (betweenE s 0 12) else if k = 4 then textE t else if k = 5 then sizeE t.size 1024 5
      else if k = 6 then betweenE i (-719162) 2932896 else if k = 7 then betweenE i (-62135596800000) 253402300799999 else if k = 8 then sizeE l.length 256 9
      else if k = 9 then recordE ns else variantE t l.length
def kindV : Val → Int
  | .mk k _ _ _ _ _ _ => k
/-- The error of a value at place p (from 1) of the whole, on a level. -/
def chkItem (p : Nat) (x : Int × Val) : Int :=
  if 4096 < p then 9 else if 8 < x.1 then 23 else if isNullV x.2 = true then 19 else if kindV x.2 < 1 ∨ 10 < kindV x.2 then 11 else if usesV x.2 = false then 3 else ruleE x.2
def chkGo (p : Nat) : List (Int × Val) → Int
  | [] => 0
  | x :: r => if chkItem (p + 1) x ≠ 0 then chkItem (p + 1) x else chkGo (p + 1) r
def chkVal (d : Val) : Int := chkGo 0 (preL 1 d)

theorem chkGo_append : ∀ (p : Nat) (xs ys : List (Int × Val)), chkGo p (xs ++ ys) = if chkGo p xs ≠ 0 then chkGo p xs else chkGo (p + xs.length) ys
  | p, [], ys => by simp [chkGo]
  | p, x :: xs, ys => by
    simp only [List.cons_append, chkGo, List.length_cons]
    by_cases h : chkItem (p + 1) x ≠ 0
    · simp only [h, if_true, ne_eq, not_false_eq_true]
    · simp only [h, if_false]
      rw [chkGo_append (p + 1) xs ys, show p + 1 + xs.length = p + (xs.length + 1) by omega]
theorem chkGo_snoc (xs : List (Int × Val)) (x : Int × Val) (h : chkGo 0 xs = 0) : chkGo 0 (xs ++ [x]) = chkItem (xs.length + 1) x := by
  rw [chkGo_append, if_neg (by simp [h])]
  simp only [chkGo, Nat.zero_add]
  split
  · rfl
  · rename_i h1; simp at h1; exact h1.symm
theorem chkGo_len' : ∀ (xs : List (Int × Val)) (p : Nat), p ≤ 4096 → chkGo p xs = 0 → p + xs.length ≤ 4096
  | [], p, hp, _ => by simpa using hp
  | x :: xs, p, hp, h => by
    simp only [chkGo] at h
    by_cases h1 : chkItem (p + 1) x ≠ 0
    · rw [if_pos h1] at h; exact absurd h h1
    · rw [if_neg h1] at h
      have h2 : ¬ 4096 < p + 1 := fun h2 => h1 (by unfold chkItem; rw [if_pos h2]; decide)
      have := chkGo_len' xs (p + 1) (by omega) h
      simp only [List.length_cons]; omega
theorem chkGo_len (xs : List (Int × Val)) (h : chkGo 0 xs = 0) : xs.length ≤ 4096 := by
  have := chkGo_len' xs 0 (by omega) h; omega
theorem chkGo_prefix {xs L : List (Int × Val)} (h : xs <+: L) (hne : chkGo 0 xs ≠ 0) : chkGo 0 L = chkGo 0 xs := by
  obtain ⟨t, rfl⟩ := h
  rw [chkGo_append, if_pos hne]

/-- The function of a kind. -/
def ruleF (k : Int) : FuncId := if k = 1 then 143 else if k = 2 then 145 else if k = 3 then 146 else if k = 4 then 148 else if k = 5 then 151
  else if k = 6 then 152 else if k = 7 then 153 else if k = 8 then 154 else if k = 9 then 155 else 157
abbrev rulesObj : Obj := .cells #[.nilFunc, .func (.func 143) #[] #[], .func (.func 145) #[] #[], .func (.func 146) #[] #[], .func (.func 148) #[] #[], .func (.func 151) #[] #[],
  .func (.func 152) #[] #[], .func (.func 153) #[] #[], .func (.func 154) #[] #[], .func (.func 155) #[] #[], .func (.func 157) #[] #[]] 163
theorem rules_call (w : World) : Calls Tryz.prog 120 #[] w fun e w' => e = .returned (.agg #[.nilFunc, .func (.func 143) #[] #[], .func (.func 145) #[] #[], .func (.func 146) #[] #[], .func (.func 148) #[] #[], .func (.func 151) #[] #[],
  .func (.func 152) #[] #[], .func (.func 153) #[] #[], .func (.func 154) #[] #[], .func (.func 155) #[] #[], .func (.func 157) #[] #[]]) ∧ w.alloc rulesObj = w' := by
  go_enter Tryz.func120, Tryz.ntmps120
  go_wp2
  exact bodyPost_ret (v := .agg #[.nilFunc, .func (.func 143) #[] #[], .func (.func 145) #[] #[], .func (.func 146) #[] #[], .func (.func 148) #[] #[], .func (.func 151) #[] #[],
  .func (.func 152) #[] #[], .func (.func 153) #[] #[], .func (.func 154) #[] #[], .func (.func 155) #[] #[], .func (.func 157) #[] #[]]) (by simp [results, Tryz.results120, go_sem]) rfl ⟨rfl, rfl⟩

theorem rule_call (w0 : World) (n₀ : Nat) (c : VC) (d : Val) (w : World) (hd : IsVal (· < n₀) w0 c d) (hw : Below n₀ w0 w) (hn : n₀ ≤ w.heap.size) (hT : Tabs w) (hk : 1 ≤ c.k ∧ c.k ≤ 10) :
    Calls Tryz.prog (ruleF c.k) #[c.v] w fun e w' => e = .returned (.int .i64 (ruleE d)) ∧ Below w.heap.size w w' := by
  have hd' : IsVal (· < w.heap.size) w c d := hd.same fun b hb => ⟨by omega, hw.block b hb⟩
  obtain ⟨k, i, s, t, l, ns, fs⟩ := d
  obtain ⟨k1, i1, s1, t1, la, ll, lc, fa, fl, fc⟩ := c
  obtain ⟨⟨h1, h2, h3, h4, hok, hll, hfl, hns⟩, hv, hf⟩ := hd'
  dsimp only at h1 h2 h3 h4 hll hfl hv hf hk ⊢
  subst h1 h2 h3 h4
  have : k1 = 1 ∨ k1 = 2 ∨ k1 = 3 ∨ k1 = 4 ∨ k1 = 5 ∨ k1 = 6 ∨ k1 = 7 ∨ k1 = 8 ∨ k1 = 9 ∨ k1 = 10 := by omega
  rcases this with rfl | rfl | rfl | rfl | rfl | rfl | rfl | rfl | rfl | rfl
  · exact rule1_call _ _ _ _ _ _ _ _ _ _ _
  · exact rule2_call _ _ _ _ _ _ _ _ _ _ _
  · exact rule3_call _ _ _ _ _ _ _ _ _ _ _
  · exact rule4_call _ _ _ _ _ _ _ _ _ _ _ hT hok.t
  · exact rule5_call _ _ _ _ _ _ _ _ _ _ _
  · exact rule6_call _ _ _ _ _ _ _ _ _ _ _
  · exact rule7_call _ _ _ _ _ _ _ _ _ _ _
  · have := rule8_call 8 i1 s1 t1 la ll lc fa fl fc w
    rw [hll] at this ⊢; exact this
  · exact rule9_call _ _ _ _ _ _ _ _ _ _ _ ns fs hok.f hfl hns hf
  · have := rule10_call 10 i1 s1 t1 la ll lc fa fl fc w hok.t
    rw [hll] at this ⊢; exact this
theorem ruleF_enters (k : Int) : ∀ args w, (callFunc (ruleF k) args).run Tryz.prog w = .ok (.enter (ruleF k) args) w := by
  unfold ruleF
  repeat' split
  · exact enters_of Tryz.func143 (by kernel_rfl) rfl
  · exact enters_of Tryz.func145 (by kernel_rfl) rfl
  · exact enters_of Tryz.func146 (by kernel_rfl) rfl
  · exact enters_of Tryz.func148 (by kernel_rfl) rfl
  · exact enters_of Tryz.func151 (by kernel_rfl) rfl
  · exact enters_of Tryz.func152 (by kernel_rfl) rfl
  · exact enters_of Tryz.func153 (by kernel_rfl) rfl
  · exact enters_of Tryz.func154 (by kernel_rfl) rfl
  · exact enters_of Tryz.func155 (by kernel_rfl) rfl
  · exact enters_of Tryz.func157 (by kernel_rfl) rfl
theorem rules_cell {W : World} {B : Nat} (h : W.heap[B]? = some rulesObj) (k : Int) (hk : 1 ≤ k ∧ k ≤ 10) : W.cell? ⟨B, k.toNat, none⟩ = some (.func (.func (ruleF k)) #[] #[]) := by
  rw [cellOf h]
  have : k = 1 ∨ k = 2 ∨ k = 3 ∨ k = 4 ∨ k = 5 ∨ k = 6 ∨ k = 7 ∨ k = 8 ∨ k = 9 ∨ k = 10 := by omega
  rcases this with rfl | rfl | rfl | rfl | rfl | rfl | rfl | rfl | rfl | rfl <;> rfl
end Go.Proofs.YthjlgpmajeafpaaGreatDoor
