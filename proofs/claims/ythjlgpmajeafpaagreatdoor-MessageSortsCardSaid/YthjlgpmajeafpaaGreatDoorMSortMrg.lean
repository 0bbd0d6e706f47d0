/-
  message.Sort: the messages, cloned, sorted by insertion (at most 20). Condition: the list can be read as data.
-/
import Derived.Test.YthjlgpmajeafpaaGreatDoorInsMrg
import Derived.Test.YthjlgpmajeafpaaGreatDoorPartsMMrg
import Derived.Test.YthjlgpmajeafpaaGreatDoorFateAMrg
import Derived.Laws.Append
import Derived.Deep.AppendSrc
namespace Go.Proofs.YthjlgpmajeafpaaGreatDoor
open Go Go.RowKit Go.Shelf
set_option linter.unusedVariables false
set_option linter.unusedSimpArgs false

set_option maxRecDepth 100000 in
theorem insNo_call (a : Option Addr) (n c : Nat) (p q : Nat) (w : World) (hp : p ≤ 20) (hq : q ≤ p + 1) : Calls Tryz.prog 161 #[.slice a n c, .int .i64 p, .int .i64 q, .func (.func 94) #[] #[]] w fun e w' => e = .returned (.tuple #[]) ∧ w = w' := by
  have h1 : ¬ (p : Int) + 1 < (q : Int) := by omega
  have hwr : IntKind.i64.wrap ((p : Int) + 1) = (p : Int) + 1 := IntWalk.i64_in _ (by omega)
  obtain ⟨z, hz⟩ : ∃ z : Int, z = (p : Int) + 1 := ⟨_, rfl⟩
  have hz0 : 0 ≤ z := by omega
  have hz20 : z ≤ 21 := by omega
  go_enter Tryz.func161, Tryz.ntmps161
  go_wp2
  rw [← hz] at h1 hwr ⊢
  clear hz
  go_loopw [8] (fun i wr => i = .int .i64 z ∧ wr = w) (fun _ _ => 0)
  case atStart => exact ⟨rfl, rfl⟩
  case round =>
    obtain ⟨rfl, rfl⟩ := hrel
    go_wp2
    go_end0
    exact ⟨rfl, rfl⟩
def PermPost (g cap n : Nat) (ps : List (MC × Msg)) (w : World) (e : Ending) (w' : World) : Prop := e = .returned (.tuple #[]) ∧ Off g w w' ∧ InRow msgK 30 w' g cap ((sortT ltM ps n).map Prod.fst)
set_option maxRecDepth 100000 in
set_option maxHeartbeats 4000000 in
theorem stableM_call (g cap n : Nat) (ps : List (MC × Msg)) (w : World) (hn : ps.length = n) (h20 : n ≤ 20) (hg : g < w.heap.size) (hrow : InRow msgK 30 w g cap (ps.map Prod.fst)) (hel : ∀ p ∈ ps, IsMsg (fun b => b < w.heap.size ∧ b ≠ g) w p.1 p.2) :
    Calls Tryz.prog 130 #[.slice (some ⟨g, 0, none⟩) n cap, .int .i64 n, .func (.func 94) #[] #[]] w (PermPost g cap n ps w) := by
  have HI := hid (insM_call g cap n ps w hn h20 hg hrow hel)
  have HNO : Hid (∀ w', Calls Tryz.prog 161 #[.slice (some ⟨g, 0, none⟩) n cap, .int .i64 20, .int .i64 n, .func (.func 94) #[] #[]] w' fun e w2 => e = .returned (.tuple #[]) ∧ w' = w2) := hid fun w' => insNo_call (some ⟨g, 0, none⟩) n cap 20 n w' (by omega) (by omega)
  clear hn hg hrow hel
  go_enter Tryz.func130, Tryz.ntmps130
  by_cases h : n = 20
  · have hn1 : (20 : Int) ≤ (n : Int) := by omega
    have hn2 : 20 ≤ n := by omega
    have hn3 : ¬ (20 : Int) < (n : Int) := by omega
    have hn4 : ¬ (40 : Int) ≤ (n : Int) := by omega
    have hn5 : ¬ 40 ≤ n := by omega
    have hn6 : ¬ 20 < n := by omega
    have HI20 : Hid (Calls Tryz.prog 161 #[.slice (some ⟨g, 0, none⟩) n cap, .int .i64 0, .int .i64 20, .func (.func 94) #[] #[]] w fun e w' => e = .returned (.tuple #[]) ∧ Off g w w' ∧ InRow msgK 30 w' g cap ((sortT ltM ps n).map Prod.fst)) := hid (by
      have h1 := HI.out
      rw [show ((n : Nat) : Int) = 20 by omega] at h1
      exact h1)
    clear h
    go_wp2
    go_loopw [7, 8] (fun av bv wr => ∃ s : Bool, (s = false ∧ av = .int .i64 0 ∧ bv = .int .i64 20 ∧ wr = w) ∨ (s = true ∧ av = .int .i64 20 ∧ bv = .int .i64 40 ∧ Off g w wr ∧ InRow msgK 30 wr g cap ((sortT ltM ps n).map Prod.fst))) (fun av _ _ => 20 - (intOf av).toNat)
    case atStart => exact ⟨false, .inl ⟨rfl, rfl, rfl, rfl⟩⟩
    case round =>
      obtain ⟨s, hrel⟩ := hrel
      rcases hrel with ⟨rfl, rfl, rfl, rfl⟩ | ⟨rfl, rfl, rfl, ho, hr⟩
      · go_wp2_with (go_at_call 161; refine HI20.out.mono ?_; rintro e w2 ⟨rfl, ho, hr⟩)
        go_roundw
        case rel => exact ⟨true, .inr ⟨rfl, rfl, rfl, ho, hr⟩⟩
        case measure => simp [intOf]
      · have HO := hid ho
        have HR := hid hr
        clear ho hr
        go_wp2_with (go_at_call 161; refine (HNO.out _).mono ?_; rintro e w2 ⟨rfl, rfl⟩)
        go_loopw [6] (fun i w3 => i = .int .i64 20 ∧ w3 = wr) (fun _ _ => 0)
        case atStart => exact ⟨rfl, rfl⟩
        case round =>
          obtain ⟨rfl, rfl⟩ := hrel
          go_wp2
          go_end0
          exact ⟨rfl, HO.out, HR.out⟩
  · have hn1 : ¬ (20 : Int) ≤ (n : Int) := by omega
    have hn2 : ¬ 20 ≤ n := by omega
    have hn3 : ¬ (20 : Int) < (n : Int) := by omega
    go_wp2
    go_loopw [7, 8] (fun av bv wr => av = .int .i64 0 ∧ bv = .int .i64 20 ∧ wr = w) (fun _ _ _ => 0)
    case atStart => exact ⟨rfl, rfl, rfl⟩
    case round =>
      obtain ⟨rfl, rfl, rfl⟩ := hrel
      go_wp2_with (go_at_call 161; refine HI.out.mono ?_; rintro e w2 ⟨rfl, ho, hr⟩)
      have HO := hid ho
      have HR := hid hr
      clear ho hr
      go_loopw [6] (fun i w3 => i = .int .i64 20 ∧ w3 = w2) (fun _ _ => 0)
      case atStart => exact ⟨rfl, rfl⟩
      case round =>
        obtain ⟨rfl, rfl⟩ := hrel
        go_wp2
        go_end0
        exact ⟨rfl, HO.out, HR.out⟩
set_option maxRecDepth 100000 in
set_option maxHeartbeats 4000000 in
theorem stable0_call (a : Option Addr) (c : Nat) (w : World) : Calls Tryz.prog 130 #[.slice a 0 c, .int .i64 0, .func (.func 94) #[] #[]] w fun e w' => e = .returned (.tuple #[]) ∧ w = w' := by
  have HNO : Hid (∀ w', Calls Tryz.prog 161 #[.slice a 0 c, .int .i64 0, .int .i64 0, .func (.func 94) #[] #[]] w' fun e w2 => e = .returned (.tuple #[]) ∧ w' = w2) := hid fun w' => insNo_call a 0 c 0 0 w' (by omega) (by omega)
  go_enter Tryz.func130, Tryz.ntmps130
  go_wp2
  go_loopw [7, 8] (fun av bv wr => av = .int .i64 0 ∧ bv = .int .i64 20 ∧ wr = w) (fun _ _ _ => 0)
  case atStart => exact ⟨rfl, rfl, rfl⟩
  case round =>
    obtain ⟨rfl, rfl, rfl⟩ := hrel
    go_wp2_with (go_at_call 161; refine (HNO.out _).mono ?_; rintro e w2 ⟨rfl, rfl⟩)
    go_loopw [6] (fun i w3 => i = .int .i64 20 ∧ w3 = wr) (fun _ _ => 0)
    case atStart => exact ⟨rfl, rfl⟩
    case round =>
      obtain ⟨rfl, rfl⟩ := hrel
      go_wp2
      go_end0
      exact ⟨rfl, rfl⟩
theorem sortStableM_call (g cap n : Nat) (ps : List (MC × Msg)) (w : World) (hn : ps.length = n) (h20 : n ≤ 20) (hg : g < w.heap.size) (hrow : InRow msgK 30 w g cap (ps.map Prod.fst)) (hel : ∀ p ∈ ps, IsMsg (fun b => b < w.heap.size ∧ b ≠ g) w p.1 p.2) :
    Calls Tryz.prog 93 #[.slice (some ⟨g, 0, none⟩) n cap, .func (.func 94) #[] #[]] w (PermPost g cap n ps w) := by
  have HI := hid (stableM_call g cap n ps w hn h20 hg hrow hel)
  clear hn hg hrow hel
  go_enter Tryz.func93, Tryz.ntmps93
  go_wp2_with (go_at_call 130; refine HI.out.mono ?_; rintro e w2 ⟨rfl, ho, hr⟩)
  go_end0
  exact ⟨rfl, ho, hr⟩
theorem sortStable0_call (a : Option Addr) (c : Nat) (w : World) : Calls Tryz.prog 93 #[.slice a 0 c, .func (.func 94) #[] #[]] w fun e w' => e = .returned (.tuple #[]) ∧ w = w' := by
  have HI := hid (stable0_call a c w)
  go_enter Tryz.func93, Tryz.ntmps93
  go_wp2_with (go_at_call 130; refine HI.out.mono ?_; rintro e w2 ⟨rfl, rfl⟩)
  go_end0
  exact ⟨rfl, rfl⟩
/-- A built row as pairs. -/
theorem Built.pairs {T B : Nat} {w : World} {g n cap : Nat} {l : List Msg} (h : Built msgK T B w (.slice (some ⟨g, 0, none⟩) n cap) n l) (hn : n = l.length) :
    ∃ ps : List (MC × Msg), ps.length = n ∧ ps.map Prod.snd = l ∧ g < w.heap.size ∧ B ≤ g ∧ n ≤ cap ∧ InRow msgK T w g cap (ps.map Prod.fst) ∧ ∀ p ∈ ps, IsMsg (fun b => B ≤ b ∧ b < w.heap.size ∧ b ≠ g) w p.1 p.2 := by
  obtain ⟨cs, h1, h2, h3⟩ := h
  have hlt := h2.lt g rfl
  have hcap : n ≤ cap := by
    rcases h2.2 with h4 | ⟨g', cap', cur, hv, _, _, hc, _⟩
    · exact absurd h4.1 (by simp)
    · simp only [Value.slice.injEq] at hv
      obtain ⟨_, _, rfl⟩ := hv
      exact hc
  have hl : cs.length = l.length := by omega
  have hr := InRow.ofOwn (K := msgK) h1 h2
  refine ⟨cs.zip l, by rw [List.length_zip]; omega, List.map_snd_zip (by omega), hlt.2, hlt.1, hcap, ?_, fun p hp => ?_⟩
  · rw [List.map_fst_zip (by omega)]; exact hr
  · obtain ⟨j, hj, rfl⟩ := List.getElem_of_mem hp
    rw [List.getElem_zip]
    have hj2 : j < cs.length ∧ j < l.length := by rw [List.length_zip] at hj; omega
    exact (h3 j hj2.1 hj2.2).same fun b q => ⟨⟨q.1, q.2.1, fun e => q.2.2 (by rw [e]; rfl)⟩, rfl⟩
def SortPost (w : World) (n : Nat) (l : List Msg) (e : Ending) (w' : World) : Prop := ∃ a c, e = .returned (.slice a n c) ∧ Below w.heap.size w w' ∧ IsRow msgK (fun b => w.heap.size ≤ b ∧ b < w'.heap.size) w' a n c (sortT ltD l l.length)
theorem perm_row {B g cap n : Nat} {ps : List (MC × Msg)} {w w' : World} {l : List Msg} (hn : ps.length = n) (hl : ps.map Prod.snd = l) (hg : g < w.heap.size) (hB : B ≤ g) (hc : n ≤ cap) (h20 : n ≤ 20) (ho : Off g w w') (hr : InRow msgK 30 w' g cap ((sortT ltM ps n).map Prod.fst)) (hel : ∀ p ∈ ps, IsMsg (fun b => B ≤ b ∧ b < w.heap.size ∧ b ≠ g) w p.1 p.2) :
    IsRow msgK (fun b => B ≤ b ∧ b < w'.heap.size) w' (some ⟨g, 0, none⟩) n cap (sortT ltD l l.length) := by
  have hll : l.length = n := by rw [← hl, List.length_map]; exact hn
  have e : sortT ltD l l.length = (sortT ltM ps n).map Prod.snd := by rw [hll, sortT_map Prod.snd ltM ltD (fun _ _ => rfl), hl]
  have hsl : (sortT ltM ps n).length = n := sortT_len _ _ _ (by omega)
  have hs := ho.size
  refine ⟨by rw [e, List.length_map, hsl], hc, by dsimp only; omega, .inr ⟨g, 0, rfl, ⟨hB, by omega⟩, fun j hj => ?_⟩⟩
  have hj' : j < (sortT ltM ps n).length := by rw [e, List.length_map] at hj; exact hj
  refine ⟨(sortT ltM ps n)[j].1, ?_, ?_⟩
  · have h1 := hr.at' j (by rw [List.length_map]; exact hj')
    rw [List.getElem_map] at h1
    rw [Nat.zero_add]
    exact h1
  · have h2 := hel _ (sortT_in _ _ (List.getElem_mem hj'))
    have e2 : (sortT ltD l l.length)[j] = (sortT ltM ps n)[j].2 := by
      have : (sortT ltD l l.length)[j]? = ((sortT ltM ps n).map Prod.snd)[j]? := by rw [e]
      rw [List.getElem?_eq_getElem hj, List.getElem?_map, List.getElem?_eq_getElem hj'] at this
      exact Option.some.inj this
    rw [e2]
    exact h2.same fun b q => ⟨⟨q.1, by omega⟩, ho.block b q.2.1 q.2.2⟩
set_option maxRecDepth 100000 in
set_option maxHeartbeats 4000000 in
theorem msgSort_call (a : Option Addr) (n c : Nat) (l : List Msg) (w : World) (hd : IsMsgs (· < w.heap.size) w a n c l) (h20 : n ≤ 20) : Calls Tryz.prog 48 #[.slice a n c] w (SortPost w n l) := by
  obtain ⟨ti, hi, hz0, hz1, hz2⟩ := info_parts infoMsg
  have HL := hid hd.len
  have HD := hid hd.row
  clear hd
  go_enter Tryz.func48, Tryz.ntmps48
  go_wp2
  go_loopw [3, 8] (fun vv i wr => ∃ (k : Nat) (v : Value), v = vv ∧ k ≤ n ∧ i = .int .i64 k ∧ Built msgK 30 w.heap.size wr v k l ∧ Below w.heap.size w wr) (fun _ i _ => n - (intOf i).toNat)
  case atStart => exact ⟨0, _, rfl, Nat.zero_le _, rfl, Built.nil _ _ _ _, Below.refl _ _⟩
  case round =>
  obtain ⟨k, v, rfl, hk, rfl, hbu, hbr⟩ := hrel
  obtain ⟨wq, hwq⟩ : ∃ wq, wq = wr := ⟨_, rfl⟩
  rw [← hwq] at hbu hbr ⊢
  clear hwq
  by_cases hlt : k < n
  · have hkl : k < l.length := by have := HL.out; omega
    obtain ⟨b, o, rfl, hb, hy⟩ := HD.out.slot (show 0 < n by omega)
    obtain ⟨y, hya, hyi⟩ := hy k hkl
    obtain ⟨dm, hdm⟩ : ∃ dm, dm = l[k] := ⟨_, rfl⟩
    rw [← hdm] at hyi
    have HDM : Hid (∀ (h : k < l.length), (l[k]'h) = dm) := hid fun h => hdm.symm
    obtain ⟨y0, y1, y2, y3, y4, y5, y6, y7, y8, y9⟩ := (hya.same (hbr.block b hb)).m
    have hlt' : (k : Int) < (n : Int) := by omega
    have hk0 : (0 : Int) ≤ (k : Int) := by omega
    obtain ⟨cs, hcs, hown, hel⟩ := hbu
    have hvb := Built.own (K := msgK) ⟨cs, hcs, hown, hel⟩
    have hba : Below w.heap.size w (wq.alloc (.cells #[.int .i64 y.st.e, .slice y.st.a y.st.n y.st.c, .int .i64 y.m, .slice y.a y.n y.c, .int .i64 y.b.k, .int .i64 y.b.i, .int .i64 y.b.s, .string y.b.t, .slice y.b.la y.b.ll y.b.lc, .slice y.b.fa y.b.fl y.b.fc] 30)) := hbr.alloc hbr.size _
    have hbs : w.heap.size ≤ wq.heap.size := hbr.size
    have HCS : Hid (Calls Tryz.prog 88 #[.agg #[.int .i64 y.st.e, .slice y.st.a y.st.n y.st.c, .int .i64 y.m, .slice y.a y.n y.c, .int .i64 y.b.k, .int .i64 y.b.i, .int .i64 y.b.s, .string y.b.t, .slice y.b.la y.b.ll y.b.lc, .slice y.b.fa y.b.fl y.b.fc]] (wq.alloc (.cells #[.int .i64 y.st.e, .slice y.st.a y.st.n y.st.c, .int .i64 y.m, .slice y.a y.n y.c, .int .i64 y.b.k, .int .i64 y.b.i, .int .i64 y.b.s, .string y.b.t, .slice y.b.la y.b.ll y.b.lc, .slice y.b.fa y.b.fl y.b.fc] 30)) fun e w' => ∃ c' : MC, e = .returned (.agg #[.int .i64 c'.st.e, .slice c'.st.a c'.st.n c'.st.c, .int .i64 c'.m, .slice c'.a c'.n c'.c, .int .i64 c'.b.k, .int .i64 c'.b.i, .int .i64 c'.b.s, .string c'.b.t, .slice c'.b.la c'.b.ll c'.b.lc, .slice c'.b.fa c'.b.fl c'.b.fc]) ∧ Below (wq.alloc (.cells #[.int .i64 y.st.e, .slice y.st.a y.st.n y.st.c, .int .i64 y.m, .slice y.a y.n y.c, .int .i64 y.b.k, .int .i64 y.b.i, .int .i64 y.b.s, .string y.b.t, .slice y.b.la y.b.ll y.b.lc, .slice y.b.fa y.b.fl y.b.fc] 30)).heap.size (wq.alloc (.cells #[.int .i64 y.st.e, .slice y.st.a y.st.n y.st.c, .int .i64 y.m, .slice y.a y.n y.c, .int .i64 y.b.k, .int .i64 y.b.i, .int .i64 y.b.s, .string y.b.t, .slice y.b.la y.b.ll y.b.lc, .slice y.b.fa y.b.fl y.b.fc] 30)) w' ∧ IsMsg (fun b => (wq.alloc (.cells #[.int .i64 y.st.e, .slice y.st.a y.st.n y.st.c, .int .i64 y.m, .slice y.a y.n y.c, .int .i64 y.b.k, .int .i64 y.b.i, .int .i64 y.b.s, .string y.b.t, .slice y.b.la y.b.ll y.b.lc, .slice y.b.fa y.b.fl y.b.fc] 30)).heap.size ≤ b ∧ b < w'.heap.size) w' c' dm) := hid (msgClone_call y dm (wq.alloc (.cells #[.int .i64 y.st.e, .slice y.st.a y.st.n y.st.c, .int .i64 y.m, .slice y.a y.n y.c, .int .i64 y.b.k, .int .i64 y.b.i, .int .i64 y.b.s, .string y.b.t, .slice y.b.la y.b.ll y.b.lc, .slice y.b.fa y.b.fl y.b.fc] 30)) (msgK.same (fun b q => ⟨by have := hba.size; omega, hba.block b q⟩) hyi))
    have HVB := hid hvb
    have HOWN := hid hown
    have HEL := hid hel
    have HCL := hid hcs
    have HBR := hid hbr
    have HKL := hid hkl
    have hcap1 : k + 1 ≤ maxLen := by unfold maxLen; omega
    have hcap2 : (k + 1) * 152 ≤ 140737488355328 := by omega
    clear hvb hown hel hcs hba hbr hyi hya hy hb hdm hkl
    go_wp2_with (first
      | (at_builtin; refine wpList_append_lies _ (by rfl) _ _ 36 (by rfl) w.heap.size 30 ti _ 10 152 Tryz.underlying36 hi hz0 hz1 hz2 rfl (by omega) v k (cs.flatMap MC.cs) (by rfl) ((ownExt (HOWN.out.alloc _) HB4.out).alloc (.cells #[.int .i64 c4.st.e, .slice c4.st.a c4.st.n c4.st.c, .int .i64 c4.m, .slice c4.a c4.n c4.c, .int .i64 c4.b.k, .int .i64 c4.b.i, .int .i64 c4.b.s, .string c4.b.t, .slice c4.b.la c4.b.ll c4.b.lc, .slice c4.b.fa c4.b.fl c4.b.fc] 30)) ⟨w4.heap.size, 0, none⟩ 1 1 (MC.cs c4) (by rfl) (by rfl) (World.news_of_block (heap_alloc_new w4 _)) (by simp [MC.cs, Value.oneCell']) (by omega) hcap1 hcap2 (by have h2 := HB4.out.size; simp at h2 ⊢; omega) (w4.heap.size + 1) (by simp) ?_; intro gg cap5 w5 hown2 hgrow hat hlt2; have HO2 := hid hown2; have HG := hid hgrow; have HAT := hid hat; clear hown2 hgrow hat hlt2)
      | (go_at_call 88; refine HCS.out.mono ?_; rintro e w4 ⟨c4, rfl, hb4, hi4⟩; have HB4 := hid hb4; have HI4 := hid hi4; clear hb4 hi4))
    go_roundw
    case rel =>
      have h4 := HB4.out.size
      simp only [World.size_alloc] at h4
      have h14 : Below w.heap.size w w4 := HBR.out.trans ((((Below.refl _ wq).alloc (Nat.le_refl _) (.cells #[.int .i64 y.st.e, .slice y.st.a y.st.n y.st.c, .int .i64 y.m, .slice y.a y.n y.c, .int .i64 y.b.k, .int .i64 y.b.i, .int .i64 y.b.s, .string y.b.t, .slice y.b.la y.b.ll y.b.lc, .slice y.b.fa y.b.fl y.b.fc] 30)).trans (HB4.out.mono (by simp))).mono hbs)
      have hpush : Built msgK 30 w.heap.size w5 (.slice (some ⟨gg, 0, none⟩) (k + 1) cap5) (k + 1) l :=
        Built.push (K := msgK) (N := wq.heap.size) (w1 := w4) (o := (.cells #[.int .i64 c4.st.e, .slice c4.st.a c4.st.n c4.st.c, .int .i64 c4.m, .slice c4.a c4.n c4.c, .int .i64 c4.b.k, .int .i64 c4.b.i, .int .i64 c4.b.s, .string c4.b.t, .slice c4.b.la c4.b.ll c4.b.lc, .slice c4.b.fa c4.b.fl c4.b.fc] 30)) (c := c4) HCL.out
          (fun j hj hj' => msgK.same (fun b hb => ⟨⟨hb.1, by have := hb.2.1; omega, hb.2.2⟩, (HB4.out.block b (by have := hb.2.1; simp; omega)).trans (Below.heap_alloc _ _ _ (by have := hb.2.1; omega))⟩) (HEL.out j hj hj')) HKL.out
          (by rw [HDM.out]; exact HI4.out.same fun b hb => ⟨⟨by have := hb.1; simp at this; omega, hb.2⟩, rfl⟩) hbs (fun r e => (HVB.out r e).2) HO2.out HG.out HAT.out
      exact ⟨k + 1, _, rfl, by omega, by go_num, hpush, (h14.alloc (by omega) _).grown HG.out (by simp; omega) (fun r e => (HVB.out r e).1)⟩
    case measure => simp [intOf]; omega
  · obtain rfl : n = k := by omega
    by_cases hn0 : n = 0
    · subst hn0
      obtain ⟨av, capv, rfl, _⟩ := hbu.shape
      have HBR := hid hbr
      have HS0 := hid (sortStable0_call av capv wq)
      have hl0 : l = [] := List.eq_nil_of_length_eq_zero HL.out.symm
      have HL0 := hid hl0
      clear hbu hbr hl0
      go_wp2_with (go_at_call 93; refine HS0.out.mono ?_; rintro e w2 ⟨rfl, rfl⟩)
      go_ret
      exact ⟨av, capv, rfl, HBR.out, ⟨by rw [HL0.out]; rfl, Nat.zero_le _, by rw [Nat.zero_mul]; omega, .inl (by rw [HL0.out]; rfl)⟩⟩
    · obtain ⟨av, capv, rfl, _, hav, _⟩ := hbu.shape
      obtain ⟨g, rfl⟩ : ∃ g, av = some ⟨g, 0, none⟩ := by
        obtain ⟨cs, _, h2, _⟩ := hbu
        rcases h2.2 with h4 | ⟨g, cap, cur, hv, _⟩
        · exact absurd h4.2 hn0
        · exact ⟨g, by injection hv⟩
      obtain ⟨ps, hpl, hps, hg, hB, hcap, hrow, hel⟩ := Built.pairs hbu HL.out
      have HS := hid (sortStableM_call g capv n ps wq hpl h20 hg hrow (fun p hp => (hel p hp).same fun b q => ⟨⟨q.2.1, q.2.2⟩, rfl⟩))
      have HP := hid (And.intro hpl (And.intro hps (And.intro hg (And.intro hB (And.intro hcap hel)))))
      have HBR := hid hbr
      clear hbu hbr hpl hps hg hB hcap hrow hel hav
      go_wp2_with (go_at_call 93; refine HS.out.mono ?_; rintro e w2 ⟨rfl, ho, hr⟩; have HO := hid ho; have HR := hid hr; clear ho hr)
      go_ret
      obtain ⟨hpl, hps, hg, hB, hcap, hel⟩ := HP.out
      exact ⟨_, capv, rfl, HBR.out.trans (HO.out.below hB (by omega)), perm_row hpl hps hg hB hcap h20 HO.out HR.out hel⟩
end Go.Proofs.YthjlgpmajeafpaaGreatDoor

/-
  Plain: append to a slice without room: the row in the new block. No program in sight.
-/
namespace Go.Proofs.YthjlgpmajeafpaaGreatDoor
open Go Go.RowKit
set_option linter.unusedVariables false
set_option linter.unusedSimpArgs false

section
variable {C D : Type} (K : Kit C D)
/-- The slice of n things whose cells are those of cs. -/
structure Cl (w : World) (a : Option Addr) (n : Nat) (cs : List C) : Prop where
  len : cs.length = n
  at' : n = 0 ∨ ∃ ad, a = some ad ∧ ∀ t u, (cs.flatMap K.cs)[t]? = some u → w.cell? (ad.add t) = some u
variable {K}
theorem flat_len (cs : List C) : (cs.flatMap K.cs).length = cs.length * K.n := by
  induction cs with
  | nil => simp
  | cons c r ih => rw [List.flatMap_cons, List.length_append, ih, K.len, List.length_cons, Nat.add_mul]; omega
theorem Cl.ext {w w' : World} {a : Option Addr} {n : Nat} {cs : List C} (h : Cl K w a n cs) (hb : Below w.heap.size w w') : Cl K w' a n cs :=
  ⟨h.len, h.at'.imp id fun ⟨ad, ha, hc⟩ => ⟨ad, ha, fun t u hu => by
    have h1 := hc t u hu
    have hlt := World.block_lt_of_cell? w _ h1
    rw [World.cell?_of_block (w := w) (hb.block _ hlt)]
    exact h1⟩⟩
theorem Cl.none (w : World) (a : Option Addr) : Cl K w a 0 [] := ⟨rfl, .inl rfl⟩
theorem InRow.cl {T : Nat} {w : World} {g cap : Nat} {cs : List C} (h : InRow K T w g cap cs) (p m : Nat) (hm : p + m ≤ cs.length) : Cl K w (some ⟨g, p * K.n, none⟩) m ((cs.drop p).take m) := by
  have hl : ((cs.drop p).take m).length = m := by rw [List.length_take, List.length_drop]; omega
  refine ⟨hl, .inr ⟨_, rfl, flat_cells (K := K) fun j hj => ?_⟩⟩
  have h1 := h.at' (p + j) (by omega)
  rw [Nat.add_mul] at h1
  have e : ((cs.drop p).take m)[j] = cs[p + j] := by rw [List.getElem_take, List.getElem_drop]
  rw [e]
  exact h1
theorem InRow.ofFlat {T : Nat} {w : World} {g cap : Nat} {cs : List C} {cur : Array Value} (hg : w.heap[g]? = some (.cells cur T (0, 0))) (hs : cur.size = cap * K.n) (hc : cs.length ≤ cap) (hf : ∀ t, t < cs.length * K.n → cur[t]? = (cs.flatMap K.cs)[t]?) : InRow K T w g cap cs := by
  refine ⟨cur, hg, hs, hc, fun j hj i hi => ?_⟩
  rw [hf _ (by have : (j + 1) * K.n ≤ cs.length * K.n := Nat.mul_le_mul_right _ hj
               rw [Nat.succ_mul] at this; omega), flat_get K.cs K.n K.len cs j i hj hi]
theorem Cl.first {P : Program} {w : World} {a : Option Addr} {n c : Nat} {cs : List C} (h : Cl K w a n cs) : (Builtin.firstCells K.n n (.slice a n c)).run P w.drew = .ok (cs.flatMap K.cs).toArray w.drew := by
  have hl : (cs.flatMap K.cs).length = n * K.n := by rw [flat_len, h.len]
  cases a with
  | none =>
    have hn : n = 0 := by
      rcases h.at' with h0 | ⟨ad, ha, _⟩
      · exact h0
      · cases ha
    have hcs : cs = [] := List.eq_nil_of_length_eq_zero (by rw [h.len, hn])
    subst hcs
    exact run_firstCells_none w.drew K.n n n c
  | some ad =>
    refine run_firstCells_some w.drew K.n n ad n c _ hl fun t u hu => ?_
    rcases h.at' with h0 | ⟨ad', ha, hc⟩
    · have hcs : cs = [] := List.eq_nil_of_length_eq_zero (by rw [h.len, h0])
      rw [hcs] at hu; simp at hu
    · cases ha
      simpa using hc t u hu
theorem Cl.src {P : Program} {w : World} {a : Option Addr} {n c : Nat} {cs : List C} {t e : TypeId} (h : Cl K w a n cs) (ht : P.underlying t = some (.slice e)) (h1 : ∀ x, ∀ u ∈ K.cs x, u.oneCell' = true) : Src P K.n t (.slice a n c) n (cs.flatMap K.cs) w := by
  have hl : (cs.flatMap K.cs).length = n * K.n := by rw [flat_len, h.len]
  have ho : ∀ u ∈ cs.flatMap K.cs, u.oneCell' = true := fun u hu => by
    obtain ⟨x, _, hx⟩ := List.mem_flatMap.1 hu
    exact h1 x u hx
  cases a with
  | none =>
    have hn : n = 0 := by
      rcases h.at' with h0 | ⟨ad, ha, _⟩
      · exact h0
      · cases ha
    subst hn
    have hcs : cs = [] := List.eq_nil_of_length_eq_zero h.len
    subst hcs
    exact Src.ofNil w ht c
  | some ad =>
    refine Src.ofSlice w ht ad n c _ hl (fun t u hu => ?_) ho
    rcases h.at' with h0 | ⟨ad', ha, hc⟩
    · have hcs : cs = [] := List.eq_nil_of_length_eq_zero (by rw [h.len, h0])
      rw [hcs] at hu; simp at hu
    · cases ha
      exact hc t u hu
theorem step_append_run {P : Program} {w : World} {ops : Array Oper} {o : Oper} {a : Act} {K' : Act → World → Prop} {Q : Exit → Act → World → Prop} {E : Prop} (hgd : o.guard = none) (s x : Operand) (t : TypeId)
    (ho : o.op = .call { callee := .builtin .append, args := #[s, x], argTypes := #[t, t] }) (vs vx v' : Value) (w' : World) (hs : a.eval s = vs) (hx : a.eval x = vx)
    (hrun : (Builtin.append_ #[t, t] o.type #[vs, vx]).run P w = .ok v' w') (h : K' (a.put o.dst v') w') :
    if Region.wanted o (yielded ops a.tmps) = true then Oper.wp P o a w K' Q else E := by
  have hw : Region.wanted o (yielded ops a.tmps) = true := by simp [Region.wanted, hgd]
  rw [if_pos hw]
  unfold Oper.wp execOp
  simp only [ho, resolve, invoke, builtin, Sem.run_bind, Sem.run_pure, Result.andThen_ok, List.map_toArray, List.map_cons, List.map_nil, hs, hx, hrun]
  exact h
/-- There is no room: the row in the new block. -/
theorem run_grow {P : Program} {w : World} {t ty e : TypeId} {i : TypeInfo} {z : Value} (ht : P.underlying t = some (.slice e)) (hi : P.info? e = some i) (hz : i.zero = some z) (hsize : i.size = K.n) (hby : i.bytes ≤ 1000) (hzs : z.cells.size = K.n) (h1 : ∀ x, ∀ u ∈ K.cs x, u.oneCell' = true)
    (a : Option Addr) (n cap : Nat) (cs : List C) (ha : Cl K w a n cs) (a2 : Option Addr) (m c2 : Nat) (cs2 : List C) (ha2 : Cl K w a2 m cs2) (hg : cap < n + m) (hb : n + m ≤ 1000000) :
    ∃ (cap' : Nat) (o : Obj), (Builtin.append_ #[t, t] ty #[.slice a n cap, .slice a2 m c2]).run P w = .ok (.slice (some ⟨w.heap.size, 0, none⟩) (n + m) cap') (w.drew.alloc o) ∧ InRow K e (w.drew.alloc o) w.heap.size cap' (cs ++ cs2) ∧ n + m ≤ cap' := by
  have hfit : Builtin.nextslicecap (n + m) cap * i.bytes ≤ 281474976710656 := by
    have h2 := nextslicecap_le hg
    have h3 : Builtin.nextslicecap (n + m) cap * i.bytes ≤ (2 * (n + m)) * 1000 := Nat.mul_le_mul h2 hby
    omega
  have hf := ha.first (P := P) (c := cap)
  have hs := ha2.src (P := P) (c := c2) ht h1
  rw [← hsize] at hf hs
  have hr := run_append_grow_src (P := P) w t t ty e i z ht hi hz a n cap (cs.flatMap K.cs) hf _ m (cs2.flatMap K.cs) hs hg (by omega) hfit
  have hge := grownCap_ge w (n + m) cap e
  refine ⟨_, _, hr, ?_, hge⟩
  have hcl : (cs ++ cs2).length = n + m := by rw [List.length_append, ha.len, ha2.len]
  have hfl : ((cs.flatMap K.cs) ++ (cs2.flatMap K.cs)).length = (n + m) * K.n := by rw [List.length_append, flat_len, flat_len, ha.len, ha2.len, Nat.add_mul]
  refine InRow.ofFlat (cur := ((cs.flatMap K.cs ++ cs2.flatMap K.cs).toArray ++ Builtin.zeroCells z.cells (grownCap w (n + m) cap e - (n + m)))) (heap_alloc_new w.drew _) ?_ (by omega) fun u hu => ?_
  · rw [Array.size_append, size_zeroCells, List.size_toArray, hfl, hzs, ← Nat.add_mul]
    congr 1
    omega
  · rw [hcl, ← hfl] at hu
    rw [Array.getElem?_append_left (by simpa using hu), List.flatMap_append]
    simp
end
end Go.Proofs.YthjlgpmajeafpaaGreatDoor
