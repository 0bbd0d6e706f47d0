/-
  message.into's function adds copies of stamps to a fate. Conditions: the stamps can be read as data; the fate's box has none yet.
-/
import Derived.Test.YthjlgpmajeafpaaGreatDoorFateA
import Derived.Test.YthjlgpmajeafpaaGreatDoorSplit2
import Derived.Maps.AppendAt
namespace Go.Proofs.YthjlgpmajeafpaaGreatDoor
open Go Go.RowKit Go.Shelf
set_option linter.unusedVariables false
set_option linter.unusedSimpArgs false

abbrev ftO (st : SC) (kk : Int) (nd : ByteArray) (v : Value) (tx : ByteArray) : Obj := .cells #[.int .i64 st.e, .slice st.a st.n st.c, .int .i64 kk, .string nd, v, .string tx] 45
theorem grownThen {w w' w'' : World} {row : Option Nat} (h : w.grownBy w' row) (hb : Below w'.heap.size w' w'') : w.grownBy w'' row :=
  ⟨hb.os.trans h.os, hb.tape.trans h.tape, hb.output.trans h.output, Nat.le_trans h.size hb.size, fun k hk hne => (hb.block k (Nat.lt_of_lt_of_le hk h.size)).trans (h.block k hk hne)⟩
theorem grownGrown {w w' w'' : World} {row row2 : Option Nat} (h : w.grownBy w' row) (hg : w'.grownBy w'' row2) (hr : ∀ r, row2 = some r → w.heap.size ≤ r) : w.grownBy w'' row :=
  ⟨hg.os.trans h.os, hg.tape.trans h.tape, hg.output.trans h.output, Nat.le_trans h.size hg.size, fun k hk hne => (hg.block k (Nat.lt_of_lt_of_le hk h.size) (fun e => by have := hr k e.symm; omega)).trans (h.block k hk hne)⟩
theorem grownSet {w w' : World} {fb : Nat} (h : w.grownBy w' (some fb)) (o : Nat) (v : Value) : w.grownBy (w'.setCell ⟨fb, o, none⟩ v) (some fb) :=
  ⟨h.os, h.tape, h.output, by simpa [World.setCell] using h.size, fun k hk hne => (Below.heap_setCell _ _ _ _ (by intro e; exact hne (by rw [e]))).trans (h.block k hk hne)⟩
/-- Two blocks hold what they held; of the world w nothing changed but the block row. -/
structure KeepS (w : World) (row : Option Nat) (b1 : Nat) (o1 : Obj) (b2 : Nat) (o2 : Obj) (N : Nat) (w' : World) : Prop where
  g : w.grownBy w' row
  f : w'.heap[b1]? = some o1
  x : w'.heap[b2]? = some o2
  n : N ≤ w'.heap.size
theorem KeepS.ext {w : World} {row : Option Nat} {b1 : Nat} {o1 : Obj} {b2 : Nat} {o2 : Obj} {N : Nat} {w' w'' : World} (h : KeepS w row b1 o1 b2 o2 N w') (hb : Below w'.heap.size w' w'') : KeepS w row b1 o1 b2 o2 N w'' :=
  ⟨grownThen h.g hb, heapExt hb h.f, heapExt hb h.x, Nat.le_trans h.n hb.size⟩
theorem KeepS.grown {w : World} {row : Option Nat} {b1 : Nat} {o1 : Obj} {b2 : Nat} {o2 : Obj} {N : Nat} {w' w'' : World} {row2 : Option Nat} (h : KeepS w row b1 o1 b2 o2 N w') (hg : w'.grownBy w'' row2) (h1 : some b1 ≠ row2) (h2 : some b2 ≠ row2) (hr : ∀ r, row2 = some r → w.heap.size ≤ r) : KeepS w row b1 o1 b2 o2 N w'' :=
  ⟨grownGrown h.g hg hr, (hg.block _ (ltOf h.f) h1).trans h.f, (hg.block _ (ltOf h.x) h2).trans h.x, Nat.le_trans h.n hg.size⟩
def IntoPost (st : SC) (kk : Int) (nd tx : ByteArray) (fb n : Nat) (l : List St) (w : World) (e : Ending) (w' : World) : Prop := ∃ a' c', e = .returned (.tuple #[]) ∧ w.grownBy w' (some fb) ∧ w'.heap[fb]? = some (ftO st kk nd (.slice a' n c') tx) ∧ IsRow stK (fun b => w.heap.size ≤ b ∧ b < w'.heap.size) w' a' n c' l

set_option maxRecDepth 100000 in
set_option maxHeartbeats 8000000 in
theorem into1_call (st : SC) (kk : Int) (nd tx : ByteArray) (fb lb : Nat) (a : Option Addr) (n cap : Nat) (l : List St) (w : World) (hf : w.heap[fb]? = some (ftO st kk nd (.slice none 0 0) tx)) (hl : w.heap[lb]? = some (.cells #[.slice a n cap] 42)) (hne : lb ≠ fb)
    (hd : IsRow stK (fun b => b < w.heap.size ∧ b ≠ fb) w a n cap l) : Calls Tryz.prog 115 #[.pointer (some ⟨fb, 0, none⟩), .pointer (some ⟨lb, 0, none⟩)] w (IntoPost st kk nd tx fb n l w) := by
  obtain ⟨ti, hi, hz0, hz1, hz2⟩ := info_parts infoSt
  have hbig := hd.big
  have HL := hid hd.len
  have HD := hid hd
  have hfl := ltOf hf
  have HF := hid hf
  have hl0 := cellOf hl 0
  (try dsimp only at hl0)
  clear hd hf hl
  go_enter Tryz.func115, Tryz.ntmps115
  go_wp2
  go_loopw [7] (fun i wr => ∃ (k : Nat) (v : Value), k ≤ n ∧ i = .int .i64 k ∧ wr.heap[fb]? = some (ftO st kk nd v tx) ∧ Built stK 24 w.heap.size wr v k l ∧ w.grownBy wr (some fb)) (fun i _ => n - (intOf i).toNat)
  case atStart => exact ⟨0, _, Nat.zero_le _, rfl, HF.out, Built.nil _ _ _ _, ⟨rfl, rfl, rfl, Nat.le_refl _, fun _ _ _ => rfl⟩⟩
  case round =>
  obtain ⟨k, v, hk, rfl, hf', hbu, hg⟩ := hrel
  obtain ⟨wp, rfl⟩ : ∃ w1 : World, w1 = wr := ⟨_, rfl⟩
  clear hl0
  by_cases hlt : k < n
  · have hkl : k < l.length := by have := HL.out; omega
    obtain ⟨b, o, rfl, hb, hx⟩ := HD.out.slot (show 0 < n by omega)
    obtain ⟨x, hxa, hxi⟩ := hx k hkl
    have hlt' : (k : Int) < (n : Int) := by omega
    have hk0 : (0 : Int) ≤ (k : Int) := by omega
    obtain ⟨va, vcap, rfl, hvc, _, hvo⟩ := hbu.shape
    obtain ⟨cs, hcs, hown, hel⟩ := hbu
    have hs0 := hg.size
    have hnf : ∀ c, c < w.heap.size → c ≠ fb → wp.heap[c]? = w.heap[c]? := fun c h1 h2 => hg.block c h1 (by intro e; exact h2 (Option.some.inj e))
    obtain ⟨x0, x1⟩ := (hxa.same (hnf b hb.1 hb.2)).two
    have hS0 : KeepS w (some fb) fb (ftO st kk nd (.slice va k vcap) tx) wp.heap.size (.cells #[.int .i64 x.e, .slice x.a x.n x.c] 24) (wp.heap.size + 1) (wp.alloc (.cells #[.int .i64 x.e, .slice x.a x.n x.c] 24)) := ⟨grownThen hg ((Below.refl _ _).alloc (Nat.le_refl _) _), heapAlloc _ hf', heap_alloc_new _ _, by simp⟩
    have HC : Hid (∀ w', KeepS w (some fb) fb (ftO st kk nd (.slice va k vcap) tx) wp.heap.size (.cells #[.int .i64 x.e, .slice x.a x.n x.c] 24) (wp.heap.size + 1) w' → w'.cell? ⟨fb, 4, none⟩ = some (.slice va k vcap) ∧ w'.cell? ⟨wp.heap.size, 0, none⟩ = some (.int .i64 x.e) ∧ w'.cell? ⟨wp.heap.size, 1, none⟩ = some (.slice x.a x.n x.c)) := hid fun w' h => ⟨cellOf h.f 4, cellOf h.x 0, cellOf h.x 1⟩
    have HCS : Hid (∀ w', KeepS w (some fb) fb (ftO st kk nd (.slice va k vcap) tx) wp.heap.size (.cells #[.int .i64 x.e, .slice x.a x.n x.c] 24) (wp.heap.size + 1) w' → Calls Tryz.prog 66 #[.agg #[.int .i64 x.e, .slice x.a x.n x.c]] w' (StPost w' l[k])) := hid fun w' h => copyStamp_call x l[k] w' (hxi.same fun b q => ⟨by have := h.g.size; omega, h.g.block b q.1 (by intro e; exact q.2 (Option.some.inj e))⟩)
    have HS0 := hid hS0
    have HOWN := hid hown
    have HEL := hid hel
    have HCL := hid hcs
    have HVO := hid (show some fb ≠ (Value.slice va k vcap).ownBlock ∧ some wp.heap.size ≠ (Value.slice va k vcap).ownBlock ∧ ∀ r, (Value.slice va k vcap).ownBlock = some r → w.heap.size ≤ r from ⟨fun e => by have := (hvo fb e.symm).1; omega, fun e => by have := (hvo _ e.symm).2; omega, fun r e => (hvo r e).1⟩)
    have HVL := hid (fun r (e : (Value.slice va k vcap).ownBlock = some r) => (hvo r e).2)
    have HGR := hid hg
    have hcap1 : k + 1 ≤ maxLen := by unfold maxLen; omega
    have hcap2 : (k + 1) * 32 ≤ 140737488355328 := by omega
    clear hS0 hown hel hcs hvo hg hf' hnf hxa hxi hx hb
    go_upto_region 3 with (fail)
    refine wp_region_split2 9 (KeepS w (some fb) fb (ftO st kk nd (.slice va k vcap) tx) wp.heap.size (.cells #[.int .i64 x.e, .slice x.a x.n x.c] 24) (wp.heap.size + 1)) (by kernel_rfl) (by kernel_rfl) (by kernel_rfl) (by decide) (HS0.out.ext ((Below.refl _ _).drew)) (fun hS => ?_)
    simp only [List.take_succ_cons, List.take_zero, List.drop_succ_cons, List.drop_zero]
    refine wpAnyH_take (i := 0) (oi := _) (v := ?_) rfl (by kernel_rfl) (by kernel_rfl) (by kernel_rfl) (fun _ _ _ h => h) (Or.inl ⟨by rfl, ?_⟩) hS ?_
    rotate_left
    · intro w' hw'
      have hcells := HC.out w' hw'
      go_simp
      (try with_reducible rfl)
    simp only [Act.put, List.getElem_toArray, List.getElem_cons_succ, List.getElem_cons_zero, List.setIfInBounds_toArray, List.set_cons_zero, List.set_cons_succ]
    refine wpAnyH_take (i := 1) (oi := _) (v := ?_) rfl (by kernel_rfl) (by kernel_rfl) (by kernel_rfl) (fun _ _ _ h => h) (Or.inl ⟨by rfl, ?_⟩) hS ?_
    rotate_left
    · intro w' hw'
      have hcells := HC.out w' hw'
      go_simp
      (try with_reducible rfl)
    simp only [Act.put, List.getElem_toArray, List.getElem_cons_succ, List.getElem_cons_zero, List.setIfInBounds_toArray, List.set_cons_zero, List.set_cons_succ]
    refine wpAnyH_take (i := 2) (oi := _) (v := ?_) rfl (by kernel_rfl) (by kernel_rfl) (by kernel_rfl) (fun _ _ _ h => h) (Or.inl ⟨by rfl, ?_⟩) hS ?_
    rotate_left
    · intro w' hw'
      have hcells := HC.out w' hw'
      go_simp
      (try with_reducible rfl)
    simp only [Act.put, List.getElem_toArray, List.getElem_cons_succ, List.getElem_cons_zero, List.setIfInBounds_toArray, List.set_cons_zero, List.set_cons_succ]
    refine wpAnyH_take (i := 3) (oi := _) (v := ?_) rfl (by kernel_rfl) (by kernel_rfl) (by kernel_rfl) (fun _ _ _ h => h) (Or.inl ⟨by rfl, ?_⟩) hS ?_
    rotate_left
    · intro w' hw'
      have hcells := HC.out w' hw'
      go_simp
      (try with_reducible rfl)
    simp only [Act.put, List.getElem_toArray, List.getElem_cons_succ, List.getElem_cons_zero, List.setIfInBounds_toArray, List.set_cons_zero, List.set_cons_succ]
    refine wpAnyH_take (i := 4) (oi := _) (v := ?_) rfl (by kernel_rfl) (by kernel_rfl) (by kernel_rfl) (fun _ _ _ h => h) (Or.inl ⟨by rfl, ?_⟩) hS ?_
    rotate_left
    · intro w' hw'
      have hcells := HC.out w' hw'
      go_simp
      (try with_reducible rfl)
    simp only [Act.put, List.getElem_toArray, List.getElem_cons_succ, List.getElem_cons_zero, List.setIfInBounds_toArray, List.set_cons_zero, List.set_cons_succ]
    refine wpAnyH_take (i := 5) (oi := _) (v := ?_) rfl (by kernel_rfl) (by kernel_rfl) (by kernel_rfl) (fun _ _ _ h => h) (Or.inl ⟨by rfl, ?_⟩) hS ?_
    rotate_left
    · intro w' hw'
      have hcells := HC.out w' hw'
      go_simp
      (try with_reducible rfl)
    simp only [Act.put, List.getElem_toArray, List.getElem_cons_succ, List.getElem_cons_zero, List.setIfInBounds_toArray, List.set_cons_zero, List.set_cons_succ]
    refine wpAnyH_ready (rs := [6]) (by kernel_rfl) (by simp) ?_
    refine AllReadyH.cons (o := _) rfl (fun K hK => ?_) AllReadyH.nil
    go_simp; go_at_call 66; refine (HCS.out _ hS).mono ?_
    rintro e w4 ⟨c4, rfl, hb4, hi4⟩
    have HI4 := hid hi4
    have HB4 := hid hb4
    clear hi4
    refine hK.out _ _ (hS.ext hb4) (fun hS => ?_)
    clear hK K
    (try simp only [Act.put, List.getElem_toArray, List.getElem_cons_succ, List.getElem_cons_zero, List.setIfInBounds_toArray, List.set_cons_zero, List.set_cons_succ])
    refine wpAnyH_ready (rs := [7]) (by kernel_rfl) (by simp) ?_
    refine AllReadyH.cons (o := _) rfl (fun K hK => ?_) AllReadyH.nil
    go_simp
    refine hK.out _ _ (hS.ext ((Below.refl _ _).alloc (Nat.le_refl _) _)) (fun hS => ?_)
    clear hK K
    (try simp only [Act.put, List.getElem_toArray, List.getElem_cons_succ, List.getElem_cons_zero, List.setIfInBounds_toArray, List.set_cons_zero, List.set_cons_succ])
    refine wpAnyH_ready (rs := [8]) (by kernel_rfl) (by simp) ?_
    refine AllReadyH.cons (o := _) rfl (fun K hK => ?_) AllReadyH.nil
    refine step_append_lies _ (by rfl) _ _ _ (by rfl) w.heap.size 24 ti _ 2 32 Tryz.underlying42 hi hz0 hz1 hz2 rfl (by omega) (.slice va k vcap) k (cs.flatMap SC.cs) (by rfl) ((ownExt (ownExt (HOWN.out.alloc _) ((Below.refl _ _).drew)) HB4.out).alloc _) ⟨w4.heap.size, 0, none⟩ 1 1 (SC.cs c4) (by rfl) (by rfl) (World.news_of_block (heap_alloc_new w4 _)) (by simp [SC.cs, Value.oneCell']) (by omega) hcap1 hcap2 hS.g.size _ rfl ?_
    intro gg cap5 w5 hown2 hgrow hat hlt2
    have hS5 := hS.grown hgrow HVO.out.1 HVO.out.2.1 HVO.out.2.2
    have HO2 := hid hown2
    have HG := hid hgrow
    have HAT := hid hat
    clear hown2 hgrow hat hlt2 hb4
    refine hK.out _ _ (hS5) (fun hS => ?_)
    clear hK K
    (try simp only [Act.put, List.getElem_toArray, List.getElem_cons_succ, List.getElem_cons_zero, List.setIfInBounds_toArray, List.set_cons_zero, List.set_cons_succ])
    refine wpAnyH_done (by kernel_rfl) ?_ _
    (try dsimp only)
    have hf5 := hS.f
    have HS5 := hid hS
    clear hS hS5 hi hz0 hz1 hz2 HC HCS
    have z4 := cellOf hf5 4
    have zf4 := freeOf hf5 4
    (try dsimp only at z4)
    have HF5 := hid hf5
    clear hf5
    go_wp2
    go_roundw
    case rel =>
      have hs4 := HB4.out.size
      simp only [World.size_drew, World.size_alloc] at hs4
      have hs0 := HGR.out.size
      have hvl := HVL.out
      have hpush : Built stK 24 w.heap.size w5 (.slice (some ⟨gg, 0, none⟩) (k + 1) cap5) (k + 1) l :=
        Built.push (K := stK) (N := wp.heap.size) (w1 := w4) (o := (.cells #[.int .i64 c4.e, .slice c4.a c4.n c4.c] 24)) (c := c4) HCL.out
          (fun j hj hj' => (HEL.out j hj hj').same fun b hb => ⟨⟨hb.1, by have := hb.2.1; omega, hb.2.2⟩, (HB4.out.block b (by have := hb.2.1; simp; omega)).trans (Below.heap_alloc wp _ _ (by have := hb.2.1; omega))⟩) hkl
          (HI4.out.same fun b hb => ⟨⟨by have := hb.1; simp at this; omega, hb.2⟩, rfl⟩) hs0 hvl HO2.out HG.out (HAT.out.imp id fun h => by rw [h]; simp)
      refine ⟨k + 1, _, by omega, by go_num, ?_, hpush.set _ _ hfl, grownSet HS5.out.g _ _⟩
      have h := heapSet (o := 4) (Value.slice (some ⟨gg, 0, none⟩) (k + 1) cap5) HF5.out
      simp only [List.setIfInBounds_toArray, List.set_cons_zero, List.set_cons_succ] at h
      exact h
    case measure => simp [intOf]; omega
  · obtain rfl : k = n := by omega
    obtain ⟨av, capv, rfl, hrow⟩ := Built.row' hbu HL.out (by dsimp only; omega)
    go_wp2
    exact bodyPost_ret (v := .tuple #[]) (by simp [results, Tryz.results115, go_sem]) rfl ⟨av, capv, rfl, hg, hf', hrow⟩
end Go.Proofs.YthjlgpmajeafpaaGreatDoor
