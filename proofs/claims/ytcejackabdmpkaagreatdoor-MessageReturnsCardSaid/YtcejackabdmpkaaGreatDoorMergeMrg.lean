/-
  Plain: what message.Merge computes (the masses' error, the origins' union), and what its own blocks keep. No program in sight.
-/
import Derived.Test.YtcejackabdmpkaaGreatDoorMassMrg
import Derived.Test.YtcejackabdmpkaaGreatDoorUniMrg
import Derived.Test.YtcejackabdmpkaaGreatDoorG5Mrg
import Derived.Deep.DeepCutAuto
namespace Go.Proofs.YtcejackabdmpkaaGreatDoor
open Go Go.RowKit Go.Shelf
set_option linter.unusedVariables false
set_option linter.unusedSimpArgs false

def massE : Int → List Msg → Bool
  | _, [] => false
  | z, m :: r => if heavyB m.m = true ∨ 1099511627776 < z + m.m then true else massE (z + m.m) r
def orgs (l : List Msg) : List Int := l.foldl (fun acc m => uniL acc m.es) []
def mergeE (l : List Msg) : Int := if l.length = 0 then 4 else if massE 0 l = true then 38 else if 4096 < (orgs l).length then 9 else 0
theorem massE_drop (z : Int) (l : List Msg) (k : Nat) (h : k < l.length) : massE z (l.drop k) = if heavyB l[k].m = true ∨ 1099511627776 < z + l[k].m then true else massE (z + l[k].m) (l.drop (k + 1)) := by
  rw [List.drop_eq_getElem_cons h, massE]
theorem orgs_take (l : List Msg) (k : Nat) (h : k < l.length) : orgs (l.take (k + 1)) = uniL (orgs (l.take k)) l[k].es := by
  unfold orgs
  rw [List.take_succ_eq_append_getElem h, List.foldl_append]
  rfl
theorem uniL_len (a b : List Int) : (uniL a b).length ≤ a.length + b.length := by
  refine Nat.le_trans (compact_len _) ?_
  rw [List.length_mergeSort, List.length_append]
  omega
theorem orgs_len (l : List Msg) (B : Nat) (h : ∀ j (h : j < l.length), l[j].es.length ≤ B) : ∀ k, k ≤ l.length → (orgs (l.take k)).length ≤ k * B
  | 0, _ => by simp [orgs]
  | k + 1, hk => by
    have h1 := orgs_len l B h k (by omega)
    rw [orgs_take l k (by omega)]
    have h2 := uniL_len (orgs (l.take k)) l[k].es
    have h3 := h k (by omega)
    have h4 : (k + 1) * B = k * B + B := by rw [Nat.add_mul]; omega
    omega

abbrev zMC : MC := ⟨⟨0, none, 0, 0⟩, 0, none, 0, 0, ⟨0, 0, 0, ⟨#[]⟩, none, 0, 0, none, 0, 0⟩⟩
structure Out (w wr : World) (O : Nat) (c : MC) (ds : St) (dv : Val) (es : List Int) : Prop where
  b : Below w.heap.size w wr
  hO : w.heap.size + 3 ≤ O
  z : wr.heap[w.heap.size + 2]? = some (mObj zMC)
  o : wr.heap[O]? = some (mObj c)
  st : IsSt (fun b => w.heap.size + 3 ≤ b ∧ b < wr.heap.size ∧ b ≠ O) wr c.st ds
  vl : IsVal (fun b => w.heap.size + 3 ≤ b ∧ b < wr.heap.size ∧ b ≠ O) wr c.b dv
  es : IsInts (fun b => w.heap.size + 3 ≤ b ∧ b < wr.heap.size ∧ b ≠ O) wr c.a c.n c.c es
theorem Out.lt {w wr : World} {O : Nat} {c : MC} {ds : St} {dv : Val} {es : List Int} (h : Out w wr O c ds dv es) : O < wr.heap.size := ltOf h.o
theorem Out.ext {w wr w' : World} {O : Nat} {c : MC} {ds : St} {dv : Val} {es : List Int} (h : Out w wr O c ds dv es) (hb : Below wr.heap.size wr w') : Out w w' O c ds dv es :=
  ⟨h.b.trans (hb.mono h.b.size), h.hO, heapExt hb h.z, heapExt hb h.o, h.st.same fun b q => ⟨⟨q.1, Nat.lt_of_lt_of_le q.2.1 hb.size, q.2.2⟩, hb.block b q.2.1⟩,
    h.vl.same fun b q => ⟨⟨q.1, Nat.lt_of_lt_of_le q.2.1 hb.size, q.2.2⟩, hb.block b q.2.1⟩, h.es.same fun b q => ⟨⟨q.1, Nat.lt_of_lt_of_le q.2.1 hb.size, q.2.2⟩, hb.block b q.2.1⟩⟩
theorem Out.mass {w wr : World} {O : Nat} {c : MC} {ds : St} {dv : Val} {es : List Int} (h : Out w wr O c ds dv es) (m : Int) : Out w (wr.setCell ⟨O, 2, none⟩ (.int .i64 m)) O ⟨c.st, m, c.a, c.n, c.c, c.b⟩ ds dv es := by
  have hs : (wr.setCell ⟨O, 2, none⟩ (.int .i64 m)).heap.size = wr.heap.size := by simp [World.setCell]
  have ho := heapSet (o := 2) (.int .i64 m) h.o
  simp only [List.setIfInBounds_toArray, List.set_cons_zero, List.set_cons_succ] at ho
  have hO := h.hO
  refine ⟨h.b.setCell (p := ⟨O, 2, none⟩) (by dsimp only; omega) _, h.hO, (Below.heap_setCell _ _ _ _ (by dsimp only; omega)).trans h.z, ho, ?_, ?_, ?_⟩
  · exact h.st.same fun b q => ⟨by rw [hs]; exact q, Below.heap_setCell _ _ _ _ q.2.2⟩
  · exact h.vl.same fun b q => ⟨by rw [hs]; exact q, Below.heap_setCell _ _ _ _ q.2.2⟩
  · exact h.es.same fun b q => ⟨by rw [hs]; exact q, Below.heap_setCell _ _ _ _ q.2.2⟩
theorem Out.orgs {w wr : World} {O : Nat} {c : MC} {ds : St} {dv : Val} {es es2 : List Int} (h : Out w wr O c ds dv es) {a : Option Addr} {n cap N : Nat} (hN : O < N) (hi : IsInts (fun b => N ≤ b ∧ b < wr.heap.size) wr a n cap es2) :
    Out w (wr.setCell ⟨O, 3, none⟩ (.slice a n cap)) O ⟨c.st, c.m, a, n, cap, c.b⟩ ds dv es2 := by
  have hs : (wr.setCell ⟨O, 3, none⟩ (.slice a n cap)).heap.size = wr.heap.size := by simp [World.setCell]
  have ho := heapSet (o := 3) (.slice a n cap) h.o
  simp only [List.setIfInBounds_toArray, List.set_cons_zero, List.set_cons_succ] at ho
  have hO := h.hO
  refine ⟨h.b.setCell (p := ⟨O, 3, none⟩) (by dsimp only; omega) _, h.hO, (Below.heap_setCell _ _ _ _ (by dsimp only; omega)).trans h.z, ho, ?_, ?_, ?_⟩
  · exact h.st.same fun b q => ⟨by rw [hs]; exact q, Below.heap_setCell _ _ _ _ q.2.2⟩
  · exact h.vl.same fun b q => ⟨by rw [hs]; exact q, Below.heap_setCell _ _ _ _ q.2.2⟩
  · exact hi.same fun b q => ⟨⟨by omega, by rw [hs]; exact q.2, by omega⟩, Below.heap_setCell _ _ _ _ (by dsimp only; omega)⟩
/-- The message, where the parts are known. -/
theorem Out.msg {w wr : World} {O : Nat} {c : MC} {ds : St} {dv : Val} {es : List Int} (h : Out w wr O c ds dv es) (hm : I64 c.m) : IsMsg (fun b => w.heap.size + 3 ≤ b ∧ b < wr.heap.size ∧ b ≠ O) wr c ⟨ds, c.m, es, dv⟩ := ⟨h.st, rfl, hm, h.es, h.vl⟩

def MergePost (w : World) (l : List Msg) (ds : St) (dv : Val) (e : Ending) (w' : World) : Prop := Below w.heap.size w w' ∧ (mergeE l ≠ 0 → e = .returned (.tuple #[zeroMsg, .int .i64 (mergeE l)])) ∧
  (mergeE l = 0 → ∃ c' : MC, e = .returned (.tuple #[c'.v, .int .i64 0]) ∧ IsMsg (fun b => w.heap.size ≤ b ∧ b < w'.heap.size) w' c' ⟨ds, sumM l, orgs l, dv⟩)
end Go.Proofs.YtcejackabdmpkaaGreatDoor

/-
  Plain: what MessageMerges counts by itself (the sum, the different origins) against what message.Merge computes; has looks a number up. Condition: the list can be read as ints.
-/
namespace Go.Proofs.YtcejackabdmpkaaGreatDoor
open Go Go.RowKit Go.Shelf
set_option linter.unusedVariables false
set_option linter.unusedSimpArgs false

def add1 (a : List Int) (x : Int) : List Int := if x ∈ a then a else a ++ [x]
def addAll (acc es : List Int) : List Int := es.foldl add1 acc
def allL (l : List Msg) : List Int := l.foldl (fun acc m => if heavyB m.m = true then acc else addAll acc m.es) []
def lawSum (l : List Msg) : Int := l.foldl (fun z m => if heavyB m.m = true then z else z + m.m) 0
theorem addAll_take (acc es : List Int) (k : Nat) (h : k < es.length) : addAll acc (es.take (k + 1)) = add1 (addAll acc (es.take k)) es[k] := by
  unfold addAll
  rw [List.take_succ_eq_append_getElem h, List.foldl_append]
  rfl
theorem allL_take (l : List Msg) (k : Nat) (h : k < l.length) : allL (l.take (k + 1)) = if heavyB l[k].m = true then allL (l.take k) else addAll (allL (l.take k)) l[k].es := by
  unfold allL
  rw [List.take_succ_eq_append_getElem h, List.foldl_append]
  rfl
theorem lawSum_take (l : List Msg) (k : Nat) (h : k < l.length) : lawSum (l.take (k + 1)) = if heavyB l[k].m = true then lawSum (l.take k) else lawSum (l.take k) + l[k].m := by
  unfold lawSum
  rw [List.take_succ_eq_append_getElem h, List.foldl_append]
  rfl
theorem anyHv_take (l : List Msg) (k : Nat) (h : k < l.length) : anyHv (l.take (k + 1)) = (anyHv (l.take k) || heavyB l[k].m) := by
  unfold anyHv
  rw [List.take_succ_eq_append_getElem h, List.any_append]
  simp
theorem add1_mem (a : List Int) (x y : Int) : y ∈ add1 a x ↔ y ∈ a ∨ y = x := by
  unfold add1
  split
  · rename_i h
    constructor
    · exact .inl
    · rintro (g | rfl)
      · exact g
      · exact h
  · simp
theorem add1_nodup (a : List Int) (x : Int) (h : a.Pairwise (· ≠ ·)) : (add1 a x).Pairwise (· ≠ ·) := by
  unfold add1
  split
  · exact h
  · rename_i g
    refine List.pairwise_append.2 ⟨h, by simp, fun y hy z hz => ?_⟩
    obtain rfl : z = x := by simpa using hz
    rintro rfl
    exact g hy
theorem add1_len (a : List Int) (x : Int) : (add1 a x).length ≤ a.length + 1 := by unfold add1; split <;> simp
theorem addAll_mem : ∀ (es acc : List Int) (y : Int), y ∈ addAll acc es ↔ y ∈ acc ∨ y ∈ es
  | [], acc, y => by simp [addAll]
  | x :: r, acc, y => by
    show y ∈ addAll (add1 acc x) r ↔ _
    rw [addAll_mem r, add1_mem, List.mem_cons, or_assoc]
theorem addAll_nodup : ∀ (es acc : List Int), acc.Pairwise (· ≠ ·) → (addAll acc es).Pairwise (· ≠ ·)
  | [], acc, h => h
  | x :: r, acc, h => addAll_nodup r (add1 acc x) (add1_nodup acc x h)
theorem addAll_len : ∀ (es acc : List Int), (addAll acc es).length ≤ acc.length + es.length
  | [], acc => Nat.le_refl _
  | x :: r, acc => by
    have h1 := addAll_len r (add1 acc x)
    have h2 := add1_len acc x
    show (addAll (add1 acc x) r).length ≤ _
    simp only [List.length_cons]
    omega
theorem allL_len (l : List Msg) (B : Nat) (h : ∀ j (h : j < l.length), l[j].es.length ≤ B) : ∀ k, k ≤ l.length → (allL (l.take k)).length ≤ k * B
  | 0, _ => by simp [allL]
  | k + 1, hk => by
    have h1 := allL_len l B h k (by omega)
    rw [allL_take l k (by omega)]
    have h4 : (k + 1) * B = k * B + B := by rw [Nat.add_mul]; omega
    split
    · omega
    · have h2 := addAll_len l[k].es (allL (l.take k))
      have h3 := h k (by omega)
      omega
theorem allL_nodup (l : List Msg) : ∀ k, k ≤ l.length → (allL (l.take k)).Pairwise (· ≠ ·)
  | 0, _ => by simp [allL]
  | k + 1, hk => by
    have h1 := allL_nodup l k (by omega)
    rw [allL_take l k (by omega)]
    split
    · exact h1
    · exact addAll_nodup _ _ h1
theorem anyHv_pre {l : List Msg} (h : anyHv l = false) (k : Nat) (hk : k < l.length) : heavyB l[k].m = false := by
  unfold anyHv at h
  rw [List.any_eq_false] at h
  simpa using h _ (List.getElem_mem hk)
theorem allL_mem {l : List Msg} (h : anyHv l = false) (y : Int) : ∀ k, k ≤ l.length → (y ∈ allL (l.take k) ↔ y ∈ orgs (l.take k))
  | 0, _ => by simp [allL, orgs]
  | k + 1, hk => by
    have h1 := allL_mem h y k (by omega)
    rw [allL_take l k (by omega), orgs_take l k (by omega), uniL_mem, if_neg (by rw [anyHv_pre h k (by omega)]; decide), addAll_mem, h1]
theorem orgs_lt (l : List Msg) : (orgs l).Pairwise (· < ·) := by
  rcases Nat.eq_zero_or_pos l.length with h | h
  · obtain rfl := List.eq_nil_of_length_eq_zero h
    simp [orgs]
  · have h1 := orgs_take l (l.length - 1) (by omega)
    rw [show l.length - 1 + 1 = l.length by omega, List.take_length] at h1
    rw [h1]
    exact uniL_lt _ _
theorem all_orgs {l : List Msg} (h : anyHv l = false) : (allL l).length = (orgs l).length := by
  have h1 := allL_nodup l l.length (Nat.le_refl _)
  have h2 := fun y => allL_mem h y l.length (Nat.le_refl _)
  rw [List.take_length] at h1 h2
  exact nodup_len h1 ((orgs_lt l).imp fun {a b} hab => by omega) h2
theorem all_has {l : List Msg} (h : anyHv l = false) (y : Int) (hy : y ∈ orgs l) : y ∈ allL l := by
  have h2 := allL_mem h y l.length (Nat.le_refl _)
  rw [List.take_length] at h2
  exact h2.2 hy
theorem lawSum_in (l : List Msg) : ∀ k, k ≤ l.length → 0 ≤ lawSum (l.take k) ∧ lawSum (l.take k) ≤ (k : Int) * 1099511627776
  | 0, _ => by simp [lawSum]
  | k + 1, hk => by
    have h1 := lawSum_in l k (by omega)
    rw [lawSum_take l k (by omega)]
    split
    · omega
    · rename_i g
      simp [heavyB] at g
      omega
theorem lawSum_sum {l : List Msg} (h : anyHv l = false) : ∀ k, k ≤ l.length → lawSum (l.take k) = sumM (l.take k)
  | 0, _ => by simp [lawSum, sumM]
  | k + 1, hk => by
    rw [lawSum_take l k (by omega), sumM_take l k (by omega), if_neg (by rw [anyHv_pre h k (by omega)]; decide), lawSum_sum h k (by omega)]
theorem law_sum {l : List Msg} (h : anyHv l = false) : lawSum l = sumM l := by
  have h2 := lawSum_sum h l.length (Nat.le_refl _)
  rw [List.take_length] at h2
  exact h2
theorem sumM_pos : ∀ {l : List Msg}, anyHv l = false → 0 ≤ sumM l
  | [], _ => by simp [sumM]
  | m :: r, h => by
    simp only [anyHv, List.any_cons, Bool.or_eq_false_iff] at h
    have h1 := sumM_pos (l := r) h.2
    have h2 := h.1
    simp [heavyB] at h2
    rw [sumM]
    omega
theorem massE_eq : ∀ (l : List Msg) (z : Int), z ≤ 1099511627776 → massE z l = (anyHv l || decide (1099511627776 < z + sumM l))
  | [], z, h => by simp [massE, anyHv, sumM, h]
  | m :: r, z, h => by
    have hc : anyHv (m :: r) = (heavyB m.m || anyHv r) := by simp [anyHv]
    rw [massE, hc, sumM]
    by_cases h1 : heavyB m.m = true
    · rw [if_pos (.inl h1), h1]; simp
    · have h1' : heavyB m.m = false := by simpa using h1
      by_cases h2 : 1099511627776 < z + m.m
      · rw [if_pos (.inr h2), h1']
        cases h3 : anyHv r with
        | true => simp
        | false =>
          have h4 := sumM_pos h3
          simp
          omega
      · rw [if_neg (by rintro (g | g); exact h1 g; exact h2 g), massE_eq r (z + m.m) (by omega), h1', Bool.false_or, show z + m.m + sumM r = z + (m.m + sumM r) by omega]

set_option maxRecDepth 100000 in
theorem has_call (a : Option Addr) (n c : Nat) (xs : List Int) (x : Int) (S : Nat → Prop) (w : World) (hd : IsInts S w a n c xs) : Calls Tryz.prog 23 #[.slice a n c, .int .i64 x] w fun e w' => e = .returned (.bool (decide (x ∈ xs))) ∧ w' = w := by
  have hbig := hd.big
  have HL := hid hd.len
  have HD := hid hd
  obtain ⟨p, hp⟩ : ∃ p, p = decide (x ∈ xs) := ⟨_, rfl⟩
  rw [← hp]
  have HP := hid hp
  clear hd hp
  go_enter Tryz.func23, Tryz.ntmps23
  go_wp2
  go_loopw [5] (fun i wr => ∃ k : Nat, k ≤ n ∧ i = .int .i64 k ∧ (∀ j (hj : j < xs.length), j < k → xs[j] ≠ x) ∧ wr = w) (fun i _ => n - (intOf i).toNat)
  case atStart => exact ⟨0, Nat.zero_le _, rfl, fun j _ h => absurd h (Nat.not_lt_zero j), rfl⟩
  case round =>
    obtain ⟨k, hk, rfl, hall, rfl⟩ := hrel
    have HA := hid hall
    clear hall
    by_cases hlt : k < n
    · have hkl : k < xs.length := by have := HL.out; omega
      obtain ⟨b, o, rfl, hb, hx⟩ := HD.out.slot (show 0 < n by omega)
      obtain ⟨y, hy⟩ : ∃ y, y = xs[k] := ⟨_, rfl⟩
      have hck := hx k hkl
      rw [← hy] at hck
      have HY := hid hy
      have hlt' : (k : Int) < (n : Int) := by omega
      have hk0 : (0 : Int) ≤ (k : Int) := by omega
      clear hx hb hy
      by_cases he : y = x
      · have HT := hid (show p = true by rw [HP.out]; exact decide_eq_true (by rw [← he, HY.out]; exact List.getElem_mem hkl))
        subst he
        go_wp2
        go_ret
        exact ⟨retB HT.out.symm, rfl⟩
      · have hed : (y == x) = false := by simp [he]
        have HE := hid he
        go_wp2
        go_roundw
        case rel => exact ⟨k + 1, by omega, by go_num, fun j hj h => by
          by_cases hjk : j < k
          · exact HA.out j hj hjk
          · obtain rfl : j = k := by omega
            rw [← HY.out]; exact HE.out, by first | trivial | rfl⟩
        case measure => simp [intOf]; omega
    · obtain rfl : k = n := by omega
      have HF := hid (show p = false by
        rw [HP.out]
        refine decide_eq_false fun h => ?_
        obtain ⟨j, hj, e⟩ := List.getElem_of_mem h
        exact HA.out j hj (by have := HL.out; omega) e)
      go_wp2
      go_ret
      exact ⟨retB HF.out.symm, rfl⟩
end Go.Proofs.YtcejackabdmpkaaGreatDoor

/-
  message.Merge: the message into which messages are merged, or the error. Conditions: the messages, the stamp and the body can be read as data; at most 1000 messages of at most 300 origins.
-/
namespace Go.Proofs.YtcejackabdmpkaaGreatDoor
open Go Go.RowKit Go.Shelf
set_option linter.unusedVariables false
set_option linter.unusedSimpArgs false

set_option maxRecDepth 100000 in
set_option maxHeartbeats 8000000 in
theorem merge_call (a : Option Addr) (n cap : Nat) (l : List Msg) (cs : SC) (ds : St) (cv : VC) (dv : Val) (w : World) (hd : IsRow msgK (· < w.heap.size) w a n cap l) (hs : IsSt (· < w.heap.size) w cs ds) (hv : IsVal (· < w.heap.size) w cv dv) (hn : n ≤ 1000) (hes : ∀ j (h : j < l.length), l[j].es.length ≤ 300) :
    Calls Tryz.prog 20 #[.slice a n cap, cs.v, cv.v] w (MergePost w l ds dv) := by
  have HWB0 : Hid (Below w.heap.size w (((w.alloc (.cells #[.int .i64 cs.e, .slice cs.a cs.n cs.c] 39)).alloc (.cells #[.int .i64 cv.k, .int .i64 cv.i, .int .i64 cv.s, .string cv.t, .slice cv.la cv.ll cv.lc, .slice cv.fa cv.fl cv.fc] 25)).alloc (.cells #[.int .i64 0, .slice none 0 0, .int .i64 0, .slice none 0 0, .int .i64 0, .int .i64 0, .int .i64 0, .string ⟨#[]⟩, .slice none 0 0, .slice none 0 0] 41))) := hid ((((Below.refl _ w).alloc (Nat.le_refl _) _).alloc (by simp) _).alloc (by simp; omega) _)
  obtain ⟨wb, hwb⟩ : ∃ wb, wb = (((w.alloc (.cells #[.int .i64 cs.e, .slice cs.a cs.n cs.c] 39)).alloc (.cells #[.int .i64 cv.k, .int .i64 cv.i, .int .i64 cv.s, .string cv.t, .slice cv.la cv.ll cv.lc, .slice cv.fa cv.fl cv.fc] 25)).alloc (.cells #[.int .i64 0, .slice none 0 0, .int .i64 0, .slice none 0 0, .int .i64 0, .int .i64 0, .int .i64 0, .string ⟨#[]⟩, .slice none 0 0, .slice none 0 0] 41)) := ⟨_, rfl⟩
  have hbwb : Below w.heap.size w wb := by rw [hwb]; exact HWB0.out
  have hsw : wb.heap.size = w.heap.size + 3 := by rw [hwb]; simp
  have o0 : wb.heap[w.heap.size]? = some (.cells #[.int .i64 cs.e, .slice cs.a cs.n cs.c] 39 (0, 0)) := by rw [hwb]; exact heapAlloc _ (heapAlloc _ (heap_alloc_new w _))
  have o1 : wb.heap[w.heap.size + 1]? = some (.cells #[.int .i64 cv.k, .int .i64 cv.i, .int .i64 cv.s, .string cv.t, .slice cv.la cv.ll cv.lc, .slice cv.fa cv.fl cv.fc] 25 (0, 0)) := by rw [hwb]; exact heapAlloc _ (heapNewAt _ _ _ (by simp))
  have o2 : wb.heap[w.heap.size + 2]? = some (mObj zMC) := by rw [hwb]; exact heapNewAt _ _ _ (by simp)
  have later : ∀ w', Below wb.heap.size wb w' → IsSt (· < w'.heap.size) w' cs ds ∧ IsVal (· < w'.heap.size) w' cv dv := fun w' h => by
    have hb := hbwb.trans (h.mono hbwb.size)
    exact ⟨hs.same fun b q => ⟨Nat.lt_of_lt_of_le q hb.size, hb.block b q⟩, hv.same fun b q => ⟨Nat.lt_of_lt_of_le q hb.size, hb.block b q⟩⟩
  have HCS : Hid (∀ w', Below wb.heap.size wb w' → Calls Tryz.prog 50 #[.agg #[.int .i64 cs.e, .slice cs.a cs.n cs.c]] w' fun e w2 => ∃ c' : SC, e = .returned c'.v ∧ Below w'.heap.size w' w2 ∧ IsSt (fun b => w'.heap.size ≤ b ∧ b < w2.heap.size) w2 c' ds) := hid fun w' h => copyStamp_call cs ds w' (later w' h).1
  have HCV : Hid (∀ w', Below wb.heap.size wb w' → Calls Tryz.prog 43 #[.agg #[.int .i64 cv.k, .int .i64 cv.i, .int .i64 cv.s, .string cv.t, .slice cv.la cv.ll cv.lc, .slice cv.fa cv.fl cv.fc]] w' fun e w2 => ∃ c' : VC, e = .returned c'.v ∧ Below w'.heap.size w' w2 ∧ IsVal (fun b => w'.heap.size ≤ b ∧ b < w2.heap.size) w2 c' dv) := hid fun w' h => clone_call (later w' h).2
  have HC : Hid (∀ w', Below wb.heap.size wb w' → w'.cell? ⟨w.heap.size, 0, none⟩ = some (.int .i64 cs.e) ∧ w'.cell? ⟨w.heap.size, 1, none⟩ = some (.slice cs.a cs.n cs.c) ∧ w'.cell? ⟨w.heap.size + 1, 0, none⟩ = some (.int .i64 cv.k) ∧ w'.cell? ⟨w.heap.size + 1, 1, none⟩ = some (.int .i64 cv.i) ∧ w'.cell? ⟨w.heap.size + 1, 2, none⟩ = some (.int .i64 cv.s) ∧ w'.cell? ⟨w.heap.size + 1, 3, none⟩ = some (.string cv.t) ∧ w'.cell? ⟨w.heap.size + 1, 4, none⟩ = some (.slice cv.la cv.ll cv.lc) ∧ w'.cell? ⟨w.heap.size + 1, 5, none⟩ = some (.slice cv.fa cv.fl cv.fc)) := hid fun w' h => by
    have g1 := heapExt h o0
    have g2 := heapExt h o1
    exact ⟨cellOf g1 0, cellOf g1 1, cellOf g2 0, cellOf g2 1, cellOf g2 2, cellOf g2 3, cellOf g2 4, cellOf g2 5⟩
  have NR : Hid (∀ (wk : World) (O : Nat) (c5 : SC) (cb : VC), Below wb.heap.size wb wk → wb.heap.size ≤ O → wk.heap[O]? = some (mObj zMC) → IsSt (fun b => w.heap.size + 3 ≤ b ∧ b < wk.heap.size ∧ b ≠ O) wk c5 ds → IsVal (fun b => w.heap.size + 3 ≤ b ∧ b < wk.heap.size ∧ b ≠ O) wk cb dv →
      Out w (setTen wk O ⟨c5, 0, none, 0, 0, cb⟩) O ⟨c5, 0, none, 0, 0, cb⟩ ds dv []) := hid fun wk O c5 cb h hO hob h1 h2 => by
    have hz := (setTen_other (c := ⟨c5, 0, none, 0, 0, cb⟩) wk O (w.heap.size + 2) (by omega)).trans (heapExt h o2)
    have hsz := setTen_size (c := ⟨c5, 0, none, 0, 0, cb⟩) wk O
    have hot := fun b hb => setTen_other (c := ⟨c5, 0, none, 0, 0, cb⟩) wk O b hb
    refine ⟨(hbwb.trans (h.mono hbwb.size)).trans (setTen_below wk O w.heap.size (by omega)), by omega, hz, setTen_heap (c := ⟨c5, 0, none, 0, 0, cb⟩) hob, h1.same fun b q => ⟨by rw [hsz]; exact q, hot b q.2.2⟩, h2.same fun b q => ⟨by rw [hsz]; exact q, hot b q.2.2⟩, ?_⟩
    exact ⟨rfl, Nat.le_refl _, (show 0 * 8 ≤ 140737488351232 by decide), (fun x hx => by cases hx), .inl rfl⟩
  have HSW := hid hsw
  have HBWB := hid hbwb
  have HWB := hid hwb
  have HD := hid hd
  have HN := hid hn
  have HES := hid hes
  have HL := hid hd.len
  have hbig := hd.big
  clear later hwb hsw o0 o1 o2 hbwb hd hs hv hes hn
  go_enter Tryz.func20, Tryz.ntmps20
  by_cases hn0 : n = 0
  · have HM := hid (show mergeE l = 4 by rw [mergeE, if_pos (by rw [← HL.out]; exact hn0)])
    subst hn0
    go_wp2
    exact bodyPost_ret (v := .tuple #[zeroMsg, .int .i64 4]) (by simp [results, Tryz.results20, go_sem, cellOf (heapNewAt ((w.alloc (.cells #[.int .i64 cs.e, .slice cs.a cs.n cs.c] 39)).alloc (.cells #[.int .i64 cv.k, .int .i64 cv.i, .int .i64 cv.s, .string cv.t, .slice cv.la cv.ll cv.lc, .slice cv.fa cv.fl cv.fc] 25)) (.cells #[.int .i64 0, .slice none 0 0, .int .i64 0, .slice none 0 0, .int .i64 0, .int .i64 0, .int .i64 0, .string ⟨#[]⟩, .slice none 0 0, .slice none 0 0] 41) (w.heap.size + 1 + 1) (by simp))]) rfl ⟨HWB0.out, fun _ => by rw [HM.out], fun h => absurd (HM.out.symm.trans h) (by decide)⟩
  · have hn1 : ¬ (n : Int) = 0 := by omega
    have hn2 : ((n : Int) == 0) = false := by simp [hn0]
    have HN0 := hid hn0
    clear hn0
    go_upto_region 3 with (fail)
    go_cut [8] (fun pv wz => ∃ (O : Nat) (c5 : SC) (cb : VC), pv = .pointer (some ⟨O, 0, none⟩) ∧ Out w wz O ⟨c5, 0, none, 0, 0, cb⟩ ds dv [])
    case first =>
      rw [← HWB.out]
      refine wp_region_split 6 (fun w' => Below wb.heap.size wb w') (by kernel_rfl) (by kernel_rfl) (by kernel_rfl) (by decide) ((Below.refl _ _).drew) (fun hS => ?_)
      simp only [List.take_succ_cons, List.take_zero, List.drop_succ_cons, List.drop_zero]
      refine wpAnyH_take (i := 0) (oi := _) (v := ?_) rfl (by kernel_rfl) (by kernel_rfl) (by kernel_rfl) (fun _ _ _ h => h) (Or.inl ⟨by rfl, ?_⟩) hS ?_
      rotate_left
      · intro w' hw'
        have hcells := HC.out w' hw'
        obtain ⟨q0, q1, q2, q3, q4, q5, q6, q7⟩ := hcells; go_simp
        (try with_reducible rfl)
      simp only [Act.put, List.getElem_toArray, List.getElem_cons_succ, List.getElem_cons_zero, List.setIfInBounds_toArray, List.set_cons_zero, List.set_cons_succ]
      refine wpAnyH_take (i := 2) (oi := _) (v := ?_) rfl (by kernel_rfl) (by kernel_rfl) (by kernel_rfl) (fun _ _ _ h => h) (Or.inl ⟨by rfl, ?_⟩) hS ?_
      rotate_left
      · intro w' hw'
        have hcells := HC.out w' hw'
        obtain ⟨q0, q1, q2, q3, q4, q5, q6, q7⟩ := hcells; go_simp
        (try with_reducible rfl)
      simp only [Act.put, List.getElem_toArray, List.getElem_cons_succ, List.getElem_cons_zero, List.setIfInBounds_toArray, List.set_cons_zero, List.set_cons_succ]
      refine wpAnyH_ready (rs := [1, 5]) (by kernel_rfl) (by simp) ?_
      refine AllReadyH.cons (o := _) rfl (fun K hK => ?_) ?_
      · go_simp
        go_at_call 50; refine (HCS.out _ hS).mono ?_
        rintro e w5 ⟨⟨e5, a5, n5, k5⟩, rfl, hb5, hi5⟩
        (try dsimp only [SC.v])
        
        refine hK.out _ _ (hS.trans (hb5.mono hS.size)) (fun hS => ?_)
        clear hK K
        (try simp only [Act.put, List.getElem_toArray, List.getElem_cons_succ, List.getElem_cons_zero, List.setIfInBounds_toArray, List.set_cons_zero, List.set_cons_succ])
        refine wpAnyH_ready (rs := [3, 5]) (by kernel_rfl) (by simp) ?_
        refine AllReadyH.cons (o := _) rfl (fun K hK => ?_) ?_
        · go_simp
          go_at_call 43; refine (HCV.out _ hS).mono ?_
          rintro e w7 ⟨⟨k7, i7, s7, t7, la7, ll7, lc7, fa7, fl7, fc7⟩, rfl, hb7, hi7⟩
          (try dsimp only [VC.v])
          refine hK.out _ _ (hS.trans (hb7.mono hS.size)) (fun hS => ?_)
          clear hK K
          (try simp only [Act.put, List.getElem_toArray, List.getElem_cons_succ, List.getElem_cons_zero, List.setIfInBounds_toArray, List.set_cons_zero, List.set_cons_succ])
          refine wpAnyH_take (i := 4) (oi := _) (v := ?_) rfl (by kernel_rfl) (by kernel_rfl) (by kernel_rfl) (fun _ _ _ h => h) (Or.inl ⟨by rfl, ?_⟩) hS ?_
          rotate_left
          · intro w' hw'
            have hcells := HC.out w' hw'
            obtain ⟨q0, q1, q2, q3, q4, q5, q6, q7⟩ := hcells; go_simp
            (try with_reducible rfl)
          simp only [Act.put, List.getElem_toArray, List.getElem_cons_succ, List.getElem_cons_zero, List.setIfInBounds_toArray, List.set_cons_zero, List.set_cons_succ]
          refine wpAnyH_ready (rs := [5]) (by kernel_rfl) (by simp) ?_
          refine AllReadyH.cons (o := _) rfl (fun K hK => ?_) AllReadyH.nil
          go_simp
          obtain ⟨O, hO⟩ : ∃ O, O = w7.heap.size := ⟨_, rfl⟩
          have HO := hid hO
          clear hO
          have HGO : Hid ((w7.alloc (mObj zMC)).heap[O]? = some (mObj zMC)) := hid (by rw [HO.out]; exact heap_alloc_new w7 _)
          refine hK.out _ _ (hS.trans (((Below.refl _ _).alloc (Nat.le_refl _) _).mono hS.size)) (fun hS => ?_)
          clear hK K
          (try simp only [Act.put, List.getElem_toArray, List.getElem_cons_succ, List.getElem_cons_zero, List.setIfInBounds_toArray, List.set_cons_zero, List.set_cons_succ])
          refine wpAnyH_done (by kernel_rfl) ?_ _
          (try dsimp only)
          rw [← HO.out]
          have hsw0 := HSW.out
          have hs5 : wb.heap.size ≤ w5.heap.size := hb5.size
          have hs7 : w5.heap.size ≤ w7.heap.size := hb7.size
          (try simp only [World.size_alloc] at hs5)
          (try simp only [World.size_alloc] at hs7)
          have hOb : O = w7.heap.size := HO.out
          have hBO : (w7.alloc (mObj zMC)).heap[O]? = some (mObj zMC) := HGO.out
          have hst : IsSt (fun b => w.heap.size + 3 ≤ b ∧ b < (w7.alloc (mObj zMC)).heap.size ∧ b ≠ O) (w7.alloc (mObj zMC)) ⟨e5, a5, n5, k5⟩ ds := hi5.same fun b q => by
            have q1 : wb.heap.size ≤ b := q.1
            have q2 : b < w5.heap.size := q.2
            (try simp only [World.size_alloc] at q1)
            exact ⟨⟨by omega, by (first | omega | (simp only [World.size_alloc]; omega)), by omega⟩, (Below.heap_alloc _ _ _ (by omega)).trans (hb7.block b q2)⟩
          have hvl : IsVal (fun b => w.heap.size + 3 ≤ b ∧ b < (w7.alloc (mObj zMC)).heap.size ∧ b ≠ O) (w7.alloc (mObj zMC)) ⟨k7, i7, s7, t7, la7, ll7, lc7, fa7, fl7, fc7⟩ dv := hi7.same fun b q => by
            have q1 : w5.heap.size ≤ b := q.1
            have q2 : b < w7.heap.size := q.2
            (try simp only [World.size_alloc] at q1)
            exact ⟨⟨by omega, by (first | omega | (simp only [World.size_alloc]; omega)), by omega⟩, Below.heap_alloc _ _ _ q2⟩
          have hnr := NR.out (w7.alloc (mObj zMC)) O ⟨e5, a5, n5, k5⟩ ⟨k7, i7, s7, t7, la7, ll7, lc7, fa7, fl7, fc7⟩ hS (by omega) hBO hst hvl
          clear hst hvl
          have hB := hBO
          have HNR := hid hnr
          clear hS hnr hBO hi5 hi7 hb5 hb7 hs5 hs7 hOb hsw0
          have z0 := cellOf hB 0
          have z1 := cellOf hB 1
          have z2 := cellOf hB 2
          have z3 := cellOf hB 3
          have z4 := cellOf hB 4
          have z5 := cellOf hB 5
          have z6 := cellOf hB 6
          have z7 := cellOf hB 7
          have z8 := cellOf hB 8
          have z9 := cellOf hB 9
          have y0 := freeOf hB 0
          have y1 := freeOf hB 1
          have y2 := freeOf hB 2
          have y3 := freeOf hB 3
          have y4 := freeOf hB 4
          have y5 := freeOf hB 5
          have y6 := freeOf hB 6
          have y7 := freeOf hB 7
          have y8 := freeOf hB 8
          have y9 := freeOf hB 9
          (try dsimp only [mObj] at z0 z1 z2 z3 z4 z5 z6 z7 z8 z9)
          clear hB HCS HCV HC HGO
          go_wp2
          go_meet
          exact ⟨O, ⟨e5, a5, n5, k5⟩, ⟨k7, i7, s7, t7, la7, ll7, lc7, fa7, fl7, fc7⟩, rfl, HNR.out⟩
        refine AllReadyH.cons (o := _) rfl (fun K hK => ?_) AllReadyH.nil
        go_simp
        obtain ⟨O, hO⟩ : ∃ O, O = w5.heap.size := ⟨_, rfl⟩
        have HO := hid hO
        clear hO
        have HGO : Hid ((w5.alloc (mObj zMC)).heap[O]? = some (mObj zMC)) := hid (by rw [HO.out]; exact heap_alloc_new w5 _)
        refine hK.out _ _ (hS.trans (((Below.refl _ _).alloc (Nat.le_refl _) _).mono hS.size)) (fun hS => ?_)
        clear hK K
        (try simp only [Act.put, List.getElem_toArray, List.getElem_cons_succ, List.getElem_cons_zero, List.setIfInBounds_toArray, List.set_cons_zero, List.set_cons_succ])
        refine wpAnyH_ready (rs := [3]) (by kernel_rfl) (by simp) ?_
        refine AllReadyH.cons (o := _) rfl (fun K hK => ?_) AllReadyH.nil
        go_simp
        go_at_call 43; refine (HCV.out _ hS).mono ?_
        rintro e w7 ⟨⟨k7, i7, s7, t7, la7, ll7, lc7, fa7, fl7, fc7⟩, rfl, hb7, hi7⟩
        (try dsimp only [VC.v])
        refine hK.out _ _ (hS.trans (hb7.mono hS.size)) (fun hS => ?_)
        clear hK K
        (try simp only [Act.put, List.getElem_toArray, List.getElem_cons_succ, List.getElem_cons_zero, List.setIfInBounds_toArray, List.set_cons_zero, List.set_cons_succ])
        refine wpAnyH_take (i := 4) (oi := _) (v := ?_) rfl (by kernel_rfl) (by kernel_rfl) (by kernel_rfl) (fun _ _ _ h => h) (Or.inl ⟨by rfl, ?_⟩) hS ?_
        rotate_left
        · intro w' hw'
          have hcells := HC.out w' hw'
          obtain ⟨q0, q1, q2, q3, q4, q5, q6, q7⟩ := hcells; go_simp
          (try with_reducible rfl)
        simp only [Act.put, List.getElem_toArray, List.getElem_cons_succ, List.getElem_cons_zero, List.setIfInBounds_toArray, List.set_cons_zero, List.set_cons_succ]
        refine wpAnyH_done (by kernel_rfl) ?_ _
        (try dsimp only)
        rw [← HO.out]
        have hsw0 := HSW.out
        have hs5 : wb.heap.size ≤ w5.heap.size := hb5.size
        have hs7 : (w5.alloc (mObj zMC)).heap.size ≤ w7.heap.size := hb7.size
        (try simp only [World.size_alloc] at hs5)
        (try simp only [World.size_alloc] at hs7)
        have hOb : O = w5.heap.size := HO.out
        have hBO : w7.heap[O]? = some (mObj zMC) := heapExt hb7 HGO.out
        have hst : IsSt (fun b => w.heap.size + 3 ≤ b ∧ b < w7.heap.size ∧ b ≠ O) w7 ⟨e5, a5, n5, k5⟩ ds := hi5.same fun b q => by
          have q1 : wb.heap.size ≤ b := q.1
          have q2 : b < w5.heap.size := q.2
          (try simp only [World.size_alloc] at q1)
          exact ⟨⟨by omega, by (first | omega | (simp only [World.size_alloc]; omega)), by omega⟩, (hb7.block b (show b < (w5.alloc (mObj zMC)).heap.size by simp only [World.size_alloc]; omega)).trans (Below.heap_alloc _ _ _ q2)⟩
        have hvl : IsVal (fun b => w.heap.size + 3 ≤ b ∧ b < w7.heap.size ∧ b ≠ O) w7 ⟨k7, i7, s7, t7, la7, ll7, lc7, fa7, fl7, fc7⟩ dv := hi7.same fun b q => by
          have q1 : (w5.alloc (mObj zMC)).heap.size ≤ b := q.1
          have q2 : b < w7.heap.size := q.2
          (try simp only [World.size_alloc] at q1)
          exact ⟨⟨by omega, by (first | omega | (simp only [World.size_alloc]; omega)), by omega⟩, rfl⟩
        have hnr := NR.out w7 O ⟨e5, a5, n5, k5⟩ ⟨k7, i7, s7, t7, la7, ll7, lc7, fa7, fl7, fc7⟩ hS (by omega) hBO hst hvl
        clear hst hvl
        have hB := hBO
        have HNR := hid hnr
        clear hS hnr hBO hi5 hi7 hb5 hb7 hs5 hs7 hOb hsw0
        have z0 := cellOf hB 0
        have z1 := cellOf hB 1
        have z2 := cellOf hB 2
        have z3 := cellOf hB 3
        have z4 := cellOf hB 4
        have z5 := cellOf hB 5
        have z6 := cellOf hB 6
        have z7 := cellOf hB 7
        have z8 := cellOf hB 8
        have z9 := cellOf hB 9
        have y0 := freeOf hB 0
        have y1 := freeOf hB 1
        have y2 := freeOf hB 2
        have y3 := freeOf hB 3
        have y4 := freeOf hB 4
        have y5 := freeOf hB 5
        have y6 := freeOf hB 6
        have y7 := freeOf hB 7
        have y8 := freeOf hB 8
        have y9 := freeOf hB 9
        (try dsimp only [mObj] at z0 z1 z2 z3 z4 z5 z6 z7 z8 z9)
        clear hB HCS HCV HC HGO
        go_wp2
        go_meet
        exact ⟨O, ⟨e5, a5, n5, k5⟩, ⟨k7, i7, s7, t7, la7, ll7, lc7, fa7, fl7, fc7⟩, rfl, HNR.out⟩
      refine AllReadyH.cons (o := _) rfl (fun K hK => ?_) AllReadyH.nil
      go_simp
      obtain ⟨O, hO⟩ : ∃ O, O = wb.heap.size := ⟨_, rfl⟩
      have HO := hid hO
      clear hO
      have HGO : Hid ((wb.drew.alloc (mObj zMC)).heap[O]? = some (mObj zMC)) := hid (by rw [HO.out]; exact heap_alloc_new wb.drew _)
      refine hK.out _ _ (hS.trans (((Below.refl _ _).alloc (Nat.le_refl _) _).mono hS.size)) (fun hS => ?_)
      clear hK K
      (try simp only [Act.put, List.getElem_toArray, List.getElem_cons_succ, List.getElem_cons_zero, List.setIfInBounds_toArray, List.set_cons_zero, List.set_cons_succ])
      refine wpAnyH_ready (rs := [1]) (by kernel_rfl) (by simp) ?_
      refine AllReadyH.cons (o := _) rfl (fun K hK => ?_) AllReadyH.nil
      go_simp
      go_at_call 50; refine (HCS.out _ hS).mono ?_
      rintro e w5 ⟨⟨e5, a5, n5, k5⟩, rfl, hb5, hi5⟩
      (try dsimp only [SC.v])
      have HG5 := hid (heapExt hb5 HGO.out)
      
      refine hK.out _ _ (hS.trans (hb5.mono hS.size)) (fun hS => ?_)
      clear hK K
      (try simp only [Act.put, List.getElem_toArray, List.getElem_cons_succ, List.getElem_cons_zero, List.setIfInBounds_toArray, List.set_cons_zero, List.set_cons_succ])
      refine wpAnyH_ready (rs := [3]) (by kernel_rfl) (by simp) ?_
      refine AllReadyH.cons (o := _) rfl (fun K hK => ?_) AllReadyH.nil
      go_simp
      go_at_call 43; refine (HCV.out _ hS).mono ?_
      rintro e w7 ⟨⟨k7, i7, s7, t7, la7, ll7, lc7, fa7, fl7, fc7⟩, rfl, hb7, hi7⟩
      (try dsimp only [VC.v])
      refine hK.out _ _ (hS.trans (hb7.mono hS.size)) (fun hS => ?_)
      clear hK K
      (try simp only [Act.put, List.getElem_toArray, List.getElem_cons_succ, List.getElem_cons_zero, List.setIfInBounds_toArray, List.set_cons_zero, List.set_cons_succ])
      refine wpAnyH_take (i := 4) (oi := _) (v := ?_) rfl (by kernel_rfl) (by kernel_rfl) (by kernel_rfl) (fun _ _ _ h => h) (Or.inl ⟨by rfl, ?_⟩) hS ?_
      rotate_left
      · intro w' hw'
        have hcells := HC.out w' hw'
        obtain ⟨q0, q1, q2, q3, q4, q5, q6, q7⟩ := hcells; go_simp
        (try with_reducible rfl)
      simp only [Act.put, List.getElem_toArray, List.getElem_cons_succ, List.getElem_cons_zero, List.setIfInBounds_toArray, List.set_cons_zero, List.set_cons_succ]
      refine wpAnyH_done (by kernel_rfl) ?_ _
      (try dsimp only)
      rw [← HO.out]
      have hsw0 := HSW.out
      have hs5 : (wb.alloc (mObj zMC)).heap.size ≤ w5.heap.size := hb5.size
      have hs7 : w5.heap.size ≤ w7.heap.size := hb7.size
      (try simp only [World.size_alloc] at hs5)
      (try simp only [World.size_alloc] at hs7)
      have hOb : O = wb.heap.size := HO.out
      have hBO : w7.heap[O]? = some (mObj zMC) := heapExt hb7 (heapExt hb5 HGO.out)
      have hst : IsSt (fun b => w.heap.size + 3 ≤ b ∧ b < w7.heap.size ∧ b ≠ O) w7 ⟨e5, a5, n5, k5⟩ ds := hi5.same fun b q => by
        have q1 : (wb.alloc (mObj zMC)).heap.size ≤ b := q.1
        have q2 : b < w5.heap.size := q.2
        (try simp only [World.size_alloc] at q1)
        exact ⟨⟨by omega, by (first | omega | (simp only [World.size_alloc]; omega)), by omega⟩, hb7.block b q2⟩
      have hvl : IsVal (fun b => w.heap.size + 3 ≤ b ∧ b < w7.heap.size ∧ b ≠ O) w7 ⟨k7, i7, s7, t7, la7, ll7, lc7, fa7, fl7, fc7⟩ dv := hi7.same fun b q => by
        have q1 : w5.heap.size ≤ b := q.1
        have q2 : b < w7.heap.size := q.2
        (try simp only [World.size_alloc] at q1)
        exact ⟨⟨by omega, by (first | omega | (simp only [World.size_alloc]; omega)), by omega⟩, rfl⟩
      have hnr := NR.out w7 O ⟨e5, a5, n5, k5⟩ ⟨k7, i7, s7, t7, la7, ll7, lc7, fa7, fl7, fc7⟩ hS (by omega) hBO hst hvl
      clear hst hvl
      have hB := hBO
      have HNR := hid hnr
      clear hS hnr hBO hi5 hi7 hb5 hb7 hs5 hs7 hOb hsw0
      have z0 := cellOf hB 0
      have z1 := cellOf hB 1
      have z2 := cellOf hB 2
      have z3 := cellOf hB 3
      have z4 := cellOf hB 4
      have z5 := cellOf hB 5
      have z6 := cellOf hB 6
      have z7 := cellOf hB 7
      have z8 := cellOf hB 8
      have z9 := cellOf hB 9
      have y0 := freeOf hB 0
      have y1 := freeOf hB 1
      have y2 := freeOf hB 2
      have y3 := freeOf hB 3
      have y4 := freeOf hB 4
      have y5 := freeOf hB 5
      have y6 := freeOf hB 6
      have y7 := freeOf hB 7
      have y8 := freeOf hB 8
      have y9 := freeOf hB 9
      (try dsimp only [mObj] at z0 z1 z2 z3 z4 z5 z6 z7 z8 z9)
      clear hB HCS HCV HC HGO HG5
      go_wp2
      go_meet
      exact ⟨O, ⟨e5, a5, n5, k5⟩, ⟨k7, i7, s7, t7, la7, ll7, lc7, fa7, fl7, fc7⟩, rfl, HNR.out⟩
    case rest =>
    obtain ⟨O, c5, cb, rfl, hout⟩ := hcut
    obtain ⟨wz, hwz⟩ : ∃ u, u = wc := ⟨_, rfl⟩
    rw [← hwz] at hout ⊢
    clear hwz HCS HCV HC NR HWB0 HWB HBWB HSW wb
    have HOUT := hid hout
    clear hout
    go_wp2
    go_loopw [24] (fun i wr => ∃ (k : Nat) (z : Int), k ≤ n ∧ i = .int .i64 k ∧ z = sumM (l.take k) ∧ 0 ≤ z ∧ z ≤ 1099511627776 ∧ massE 0 l = massE z (l.drop k) ∧ Out w wr O ⟨c5, z, none, 0, 0, cb⟩ ds dv []) (fun i _ => n - (intOf i).toNat)
    case atStart => exact ⟨0, 0, Nat.zero_le _, rfl, rfl, by decide, by decide, rfl, HOUT.out⟩
    case round =>
    obtain ⟨k, z, hk, rfl, hz, hz0, hz1, hme, hout⟩ := hrel
    obtain ⟨wp, rfl⟩ : ∃ w1 : World, w1 = wr := ⟨_, rfl⟩
    have HZ := hid hz
    have HME := hid hme
    have HO := hid hout
    clear hz hme HOUT
    by_cases hlt : k < n
    · have hkl : k < l.length := by have := HL.out; omega
      obtain ⟨b, o, rfl, hb, hx⟩ := HD.out.slot (show 0 < n by omega)
      obtain ⟨x, hxa, hxi⟩ := hx k hkl
      obtain ⟨x0, x1, x2, x3, x4, x5, x6, x7, x8, x9⟩ := (hxa.same (hout.b.block b hb)).m
      have hlt' : (k : Int) < (n : Int) := by omega
      have hk0 : (0 : Int) ≤ (k : Int) := by omega
      have HXM := hid (show x.m = l[k].m from hxi.m)
      have HMD := hid (massE_drop z l k hkl)
      have hg := heap_alloc_new wp (.cells #[.int .i64 x.st.e, .slice x.st.a x.st.n x.st.c, .int .i64 x.m, .slice x.a x.n x.c, .int .i64 x.b.k, .int .i64 x.b.i, .int .i64 x.b.s, .string x.b.t, .slice x.b.la x.b.ll x.b.lc, .slice x.b.fa x.b.fl x.b.fc] 41)
      have m1 := cellOf hg 2
      have ho := heapAlloc (.cells #[.int .i64 x.st.e, .slice x.st.a x.st.n x.st.c, .int .i64 x.m, .slice x.a x.n x.c, .int .i64 x.b.k, .int .i64 x.b.i, .int .i64 x.b.s, .string x.b.t, .slice x.b.la x.b.ll x.b.lc, .slice x.b.fa x.b.fl x.b.fc] 41) hout.o
      have p2 := cellOf ho 2
      have f2 := freeOf ho 2
      have hzb := heapAlloc (.cells #[.int .i64 x.st.e, .slice x.st.a x.st.n x.st.c, .int .i64 x.m, .slice x.a x.n x.c, .int .i64 x.b.k, .int .i64 x.b.i, .int .i64 x.b.s, .string x.b.t, .slice x.b.la x.b.ll x.b.lc, .slice x.b.fa x.b.fl x.b.fc] 41) hout.z
      have z0 := cellOf hzb 0; have y0 := freeOf hzb 0; have z1 := cellOf hzb 1; have y1 := freeOf hzb 1; have z2 := cellOf hzb 2; have y2 := freeOf hzb 2; have z3 := cellOf hzb 3; have y3 := freeOf hzb 3; have z4 := cellOf hzb 4; have y4 := freeOf hzb 4; have z5 := cellOf hzb 5; have y5 := freeOf hzb 5; have z6 := cellOf hzb 6; have y6 := freeOf hzb 6; have z7 := cellOf hzb 7; have y7 := freeOf hzb 7; have z8 := cellOf hzb 8; have y8 := freeOf hzb 8; have z9 := cellOf hzb 9; have y9 := freeOf hzb 9; (try dsimp only [mObj] at z0 z1 z2 z3 z4 z5 z6 z7 z8 z9)
      (try dsimp only [mObj] at m1 p2)
      have HZB := hid (show (wp.alloc (.cells #[.int .i64 x.st.e, .slice x.st.a x.st.n x.st.c, .int .i64 x.m, .slice x.a x.n x.c, .int .i64 x.b.k, .int .i64 x.b.i, .int .i64 x.b.s, .string x.b.t, .slice x.b.la x.b.ll x.b.lc, .slice x.b.fa x.b.fl x.b.fc] 41)).heap[(w.heap.size + 1 + 1)]? = some (mObj zMC) from hzb)
      have HHV := hid (fun w' => heavy_call x.m w')
      have HBB : Hid (Below w.heap.size w (wp.alloc (.cells #[.int .i64 x.st.e, .slice x.st.a x.st.n x.st.c, .int .i64 x.m, .slice x.a x.n x.c, .int .i64 x.b.k, .int .i64 x.b.i, .int .i64 x.b.s, .string x.b.t, .slice x.b.la x.b.ll x.b.lc, .slice x.b.fa x.b.fl x.b.fc] 41))) := hid (hout.b.alloc hout.b.size _)
      clear hx hxa hxi hb hg ho hzb hout
      by_cases hhv : heavyB x.m = true
      · have HM := hid (show mergeE l = 38 by rw [mergeE, if_neg (by have := HL.out; omega), if_pos (by rw [HME.out, HMD.out, if_pos (.inl (by rw [← HXM.out]; exact hhv))])])
        have HHV2 : Hid (∀ w', Calls Tryz.prog 51 #[.int .i64 x.m] w' fun e w2 => e = .returned (.bool true) ∧ w' = w2) := hid (by rw [← hhv]; exact HHV.out)
        clear hhv HHV
        go_wp2_with (go_at_call 51; refine (HHV2.out _).mono ?_; rintro e w2 ⟨rfl, rfl⟩)
        have h1 := setTen_heap (c := zMC) (B := (w.heap.size + 1 + 1)) HZB.out
        have h2 := (HBB.out).trans (setTen_below (c := zMC) _ (w.heap.size + 1 + 1) w.heap.size (by omega))
        dsimp only [setTen] at h1 h2
        exact bodyPost_ret (v := .tuple #[zeroMsg, .int .i64 38]) (by simp [results, Tryz.results20, go_sem, cellOf h1]) rfl ⟨h2, fun _ => by rw [HM.out], fun h => absurd ((HM.out).symm.trans h) (by decide)⟩
      · have hhf : heavyB x.m = false := by simpa using hhv
        have HHV2 : Hid (∀ w', Calls Tryz.prog 51 #[.int .i64 x.m] w' fun e w2 => e = .returned (.bool false) ∧ w' = w2) := hid (by rw [← hhf]; exact HHV.out)
        have hxm : 0 ≤ x.m ∧ x.m ≤ 1099511627776 := by (simp [heavyB] at hhf; omega)
        obtain ⟨hxm0, hxm1⟩ := hxm
        have hwr : IntKind.i64.wrap (z + x.m) = z + x.m := IntWalk.i64_in _ (by omega)
        have HHF := hid hhf
        clear hhv HHV hhf
        by_cases hq : 1099511627776 < z + x.m
        · have HM := hid (show mergeE l = 38 by rw [mergeE, if_neg (by have := HL.out; omega), if_pos (by rw [HME.out, HMD.out, if_pos (.inr (by rw [← HXM.out]; exact hq))])])
          go_wp2_with (go_at_call 51; refine (HHV2.out _).mono ?_; rintro e w2 ⟨rfl, rfl⟩)
          have h1 := setTen_heap (c := zMC) (B := (w.heap.size + 1 + 1)) HZB.out
          have h2 := (HBB.out).trans (setTen_below (c := zMC) _ (w.heap.size + 1 + 1) w.heap.size (by omega))
          dsimp only [setTen] at h1 h2
          exact bodyPost_ret (v := .tuple #[zeroMsg, .int .i64 38]) (by simp [results, Tryz.results20, go_sem, cellOf h1]) rfl ⟨h2, fun _ => by rw [HM.out], fun h => absurd ((HM.out).symm.trans h) (by decide)⟩
        · have HMK : Hid (massE 0 l = massE (z + x.m) (l.drop (k + 1))) := hid (by
            rw [HME.out, HMD.out, if_neg, HXM.out]
            rintro (h | h)
            · rw [← HXM.out, HHF.out] at h; cases h
            · rw [← HXM.out] at h; exact hq h)
          clear z0 z1 z2 z3 z4 z5 z6 z7 z8 z9 y0 y1 y2 y3 y4 y5 y6 y7 y8 y9
          go_wp2_with (go_at_call 51; refine (HHV2.out _).mono ?_; rintro e w2 ⟨rfl, rfl⟩)
          go_roundw
          case rel => exact ⟨k + 1, z + x.m, by omega, by go_num, by rw [sumM_take l k hkl, ← HZ.out, HXM.out], by omega, by omega, HMK.out, (HO.out.ext ((Below.refl _ _).alloc (Nat.le_refl _) _)).mass _⟩
          case measure => simp [intOf]; omega
    · obtain rfl : k = n := by omega
      have hmn : massE 0 l = false := by rw [HME.out, show k = l.length from HL.out, List.drop_length]; rfl
      have hzs : z = sumM l := by rw [HZ.out, show k = l.length from HL.out, List.take_length]
      have HMN := hid hmn
      have HZS := hid hzs
      clear hmn hzs hout HZ HME
      go_wp2
      obtain ⟨wq, hwq⟩ : ∃ u, u = wp := ⟨_, rfl⟩
      rw [← hwq] at HO ⊢
      clear hwq
      go_loopw [49] (fun i wr => ∃ (j : Nat) (a' : Option Addr) (n' c' : Nat), j ≤ k ∧ i = .int .i64 j ∧ Out w wr O ⟨c5, z, a', n', c', cb⟩ ds dv (orgs (l.take j))) (fun i _ => k - (intOf i).toNat)
      case atStart => exact ⟨0, none, 0, 0, Nat.zero_le _, rfl, HO.out⟩
      case round =>
      obtain ⟨j, a', n', c', hj, rfl, hout⟩ := hrel
      obtain ⟨wp, rfl⟩ : ∃ w1 : World, w1 = wr := ⟨_, rfl⟩
      clear HO
      have HO := hid hout
      by_cases hlt : j < k
      · have hkl : j < l.length := by have := HL.out; omega
        obtain ⟨b, o, rfl, hb, hx⟩ := HD.out.slot (show 0 < k by omega)
        obtain ⟨x, hxa, hxi⟩ := hx j hkl
        obtain ⟨x0, x1, x2, x3, x4, x5, x6, x7, x8, x9⟩ := (hxa.same (hout.b.block b hb)).m
        have hlt' : (j : Int) < (k : Int) := by omega
        have hj0 : (0 : Int) ≤ (j : Int) := by omega
        have hg := heap_alloc_new wp (.cells #[.int .i64 x.st.e, .slice x.st.a x.st.n x.st.c, .int .i64 x.m, .slice x.a x.n x.c, .int .i64 x.b.k, .int .i64 x.b.i, .int .i64 x.b.s, .string x.b.t, .slice x.b.la x.b.ll x.b.lc, .slice x.b.fa x.b.fl x.b.fc] 41)
        have m1 := cellOf hg 3
        have ho := heapAlloc (.cells #[.int .i64 x.st.e, .slice x.st.a x.st.n x.st.c, .int .i64 x.m, .slice x.a x.n x.c, .int .i64 x.b.k, .int .i64 x.b.i, .int .i64 x.b.s, .string x.b.t, .slice x.b.la x.b.ll x.b.lc, .slice x.b.fa x.b.fl x.b.fc] 41) hout.o
        have p2 := cellOf ho 3
        have HOB := hid ho
        (try dsimp only [mObj] at m1 p2)
        have hol := orgs_len l 300 HES.out j (by omega)
        have hnl : n' = (orgs (l.take j)).length := hout.es.len
        have hxl : x.n = l[j].es.length := hxi.es.len
        have hx3 := HES.out j hkl
        have hn3 := HN.out
        have hbs := hout.b.size
        have HU : Hid (Calls Tryz.prog 52 #[.slice a' n' c', .slice x.a x.n x.c] (wp.alloc (.cells #[.int .i64 x.st.e, .slice x.st.a x.st.n x.st.c, .int .i64 x.m, .slice x.a x.n x.c, .int .i64 x.b.k, .int .i64 x.b.i, .int .i64 x.b.s, .string x.b.t, .slice x.b.la x.b.ll x.b.lc, .slice x.b.fa x.b.fl x.b.fc] 41)) (UniPost (wp.alloc (.cells #[.int .i64 x.st.e, .slice x.st.a x.st.n x.st.c, .int .i64 x.m, .slice x.a x.n x.c, .int .i64 x.b.k, .int .i64 x.b.i, .int .i64 x.b.s, .string x.b.t, .slice x.b.la x.b.ll x.b.lc, .slice x.b.fa x.b.fl x.b.fc] 41)) (orgs (l.take (j + 1))))) := hid (by
          rw [orgs_take l j hkl]
          refine union_call a' n' c' _ x.a x.n x.c _ _ (hout.es.same fun b q => ⟨by simp only [World.size_alloc]; omega, Below.heap_alloc _ _ _ q.2.1⟩) (hxi.es.same fun b q => ⟨by simp only [World.size_alloc]; omega, (Below.heap_alloc _ _ _ (by omega)).trans (hout.b.block b q)⟩) (by omega) (by omega))
        clear hx hxa hxi hb hg ho hout hol hnl hxl hx3 hn3 hbs
        go_wp2_with (go_at_call 52; refine HU.out.mono ?_; rintro e w3 ⟨a3, n3, c3, rfl, hb3, hi3⟩; have g := heapExt hb3 HOB.out; have u3 := cellOf g 3; have v3 := freeOf g 3; (try dsimp only [mObj] at u3); have HI3 := hid hi3; clear g hi3)
        go_roundw
        case rel =>
          have h4 := HO.out.ext (((Below.refl _ wp).alloc (Nat.le_refl _) (.cells #[.int .i64 x.st.e, .slice x.st.a x.st.n x.st.c, .int .i64 x.m, .slice x.a x.n x.c, .int .i64 x.b.k, .int .i64 x.b.i, .int .i64 x.b.s, .string x.b.t, .slice x.b.la x.b.ll x.b.lc, .slice x.b.fa x.b.fl x.b.fc] 41)).trans (hb3.mono (by simp)))
          have h5 := HO.out.lt
          exact ⟨j + 1, a3, n3, c3, by omega, by go_num, h4.orgs (N := (wp.alloc (.cells #[.int .i64 x.st.e, .slice x.st.a x.st.n x.st.c, .int .i64 x.m, .slice x.a x.n x.c, .int .i64 x.b.k, .int .i64 x.b.i, .int .i64 x.b.s, .string x.b.t, .slice x.b.la x.b.ll x.b.lc, .slice x.b.fa x.b.fl x.b.fc] 41)).heap.size) (by simp; omega) HI3.out⟩
        case measure => simp [intOf]; omega
      · obtain rfl : j = k := by omega
        have hjl : j = l.length := HL.out
        rw [hjl, List.take_length] at hout
        have HO2 := hid hout
        have hnl : n' = (orgs l).length := hout.es.len
        have q0 := cellOf hout.o 3
        (try dsimp only [mObj] at q0)
        have hzb := hout.z
        have z0 := cellOf hzb 0; have y0 := freeOf hzb 0; have z1 := cellOf hzb 1; have y1 := freeOf hzb 1; have z2 := cellOf hzb 2; have y2 := freeOf hzb 2; have z3 := cellOf hzb 3; have y3 := freeOf hzb 3; have z4 := cellOf hzb 4; have y4 := freeOf hzb 4; have z5 := cellOf hzb 5; have y5 := freeOf hzb 5; have z6 := cellOf hzb 6; have y6 := freeOf hzb 6; have z7 := cellOf hzb 7; have y7 := freeOf hzb 7; have z8 := cellOf hzb 8; have y8 := freeOf hzb 8; have z9 := cellOf hzb 9; have y9 := freeOf hzb 9; (try dsimp only [mObj] at z0 z1 z2 z3 z4 z5 z6 z7 z8 z9)
        have HZB := hid (show wp.heap[(w.heap.size + 1 + 1)]? = some (mObj zMC) from hzb)
        have HZ0 := hid (HN0.out)
        clear HO hjl hzb
        by_cases hq : 4096 < n'
        · have hq' : (4096 : Int) < (n' : Int) := by omega
          have HM := hid (show mergeE l = 9 by rw [mergeE, if_neg (by have := HL.out; have := HZ0.out; omega), if_neg (by rw [HMN.out]; decide), if_pos (by omega)])
          clear hout hnl hq
          go_wp2
          have h1 := setTen_heap (c := zMC) (B := (w.heap.size + 1 + 1)) HZB.out
          have h2 := (HO2.out.b).trans (setTen_below (c := zMC) _ (w.heap.size + 1 + 1) w.heap.size (by omega))
          dsimp only [setTen] at h1 h2
          exact bodyPost_ret (v := .tuple #[zeroMsg, .int .i64 9]) (by simp [results, Tryz.results20, go_sem, cellOf h1]) rfl ⟨h2, fun _ => by rw [HM.out], fun h => absurd ((HM.out).symm.trans h) (by decide)⟩
        · have hq' : ¬ (4096 : Int) < (n' : Int) := by omega
          have HM := hid (show mergeE l = 0 by rw [mergeE, if_neg (by have := HL.out; have := HZ0.out; omega), if_neg (by rw [HMN.out]; decide), if_neg (by omega)])
          obtain ⟨q1, q2, q3, q4, q5, q6, q7, q8, q9, q10⟩ := tenOf hout.o
          clear hout hnl hq q0
          go_wp2
          have h1 := setTen_heap (c := ⟨c5, z, a', n', c', cb⟩) (B := (w.heap.size + 1 + 1)) HZB.out
          have h2 := HO2.out.b.trans (setTen_below (c := ⟨c5, z, a', n', c', cb⟩) _ (w.heap.size + 1 + 1) w.heap.size (by omega))
          have h3 := fun b hb => setTen_other (c := ⟨c5, z, a', n', c', cb⟩) wp (w.heap.size + 1 + 1) b hb
          have h4 := setTen_size (c := ⟨c5, z, a', n', c', cb⟩) wp (w.heap.size + 1 + 1)
          have hsum : I64 z := ⟨by omega, by omega⟩
          dsimp only [setTen] at h1 h2 h3 h4
          exact bodyPost_ret (v := .tuple #[MC.v ⟨c5, z, a', n', c', cb⟩, .int .i64 0]) (by simp [results, Tryz.results20, go_sem, cellOf h1]) rfl ⟨h2, fun h => absurd HM.out h, fun _ => ⟨⟨c5, z, a', n', c', cb⟩, rfl, by
            have hmsg := HO2.out.msg hsum
            have hz := HZS.out
            simp only at hmsg
            rw [show sumM l = z from hz.symm]
            exact hmsg.same fun b q => ⟨by rw [h4]; omega, h3 b (by omega)⟩⟩⟩
end Go.Proofs.YtcejackabdmpkaaGreatDoor
