/-
  message.Parts returns the parts of a message. Conditions: all can be read as data; the mass is not negative and not great; there are not too many parts.
-/
import Derived.Test.YtcejackabdmpkaaGreatDoorG6Mrg
import Derived.Test.YtcejackabdmpkaaGreatDoorG5Mrg
import Derived.RangeFuncNested
import Derived.Maps.OwnIn
import Derived.Deep.AppendLies
namespace Go.Proofs.YtcejackabdmpkaaGreatDoor
open Go Go.RowKit Go.Shelf
set_option linter.unusedVariables false
set_option linter.unusedSimpArgs false
attribute [local go_sem] Oper.semAt_some

theorem row_succ {w : World} {base : Nat} {e : TypeId} {size n : Nat} {v : Value} {xs : List Value} (h : w.ownsRow base e size v (n + 1) xs) : ∃ g cap, v = .slice (some ⟨g, 0, none⟩) (n + 1) cap := by
  rcases h.2 with ⟨_, h0⟩ | ⟨g, cap, cur, hv, _⟩
  · omega
  · exact ⟨g, cap, hv⟩
theorem infoMsg : (Tryz.prog.info? 41).map (fun i => (i.zero, i.size, i.bytes)) = some (some (.agg #[.int .i64 0, .slice none 0 0, .int .i64 0, .slice none 0 0, .int .i64 0, .int .i64 0, .int .i64 0, .string ByteArray.empty, .slice none 0 0, .slice none 0 0]), 10, 152) := by kernel_rfl
def noVal : Val := .mk 0 0 0 ⟨#[]⟩ [] [] []
def partP (d : Msg) (bs : List Val) (x : Nat × Nat) : Msg := ⟨⟨d.st.e, d.st.ps ++ [(x.1 : Int)]⟩, (x.2 : Int), d.es, (bs[x.1]?).getD noVal⟩
abbrev partF {n : Nat} (d : Msg) (bs : List Val) (x : Sh n) : Msg := partP d bs x.1
def partsL (d : Msg) (M : Nat) (bs : List Val) : List Msg := (shareL M bs.length).map (partP d bs)

set_option maxRecDepth 100000 in
set_option maxHeartbeats 8000000 in
theorem partsM_call (c : MC) (d : Msg) (pa : Option Addr) (pn pc : Nat) (bs : List Val) (w : World) (M : Nat) (hd : IsMsg (· < w.heap.size) w c d) (hlen : pn = bs.length) (hcap : pn ≤ pc)
    (hv : bs = [] ∨ ∃ b o, pa = some ⟨b, o, none⟩ ∧ b < w.heap.size ∧ IsVals (· < w.heap.size) w b o bs) (hM : d.m = (M : Int)) (hMle : M ≤ 1099511627776) (hn : pn ≤ 1000) (hst : c.st.n ≤ 1000000) :
    Calls Tryz.prog 19 #[c.v, .slice pa pn pc] w fun e w' => ∃ a c', e = .returned (.slice a pn c') ∧ Below w.heap.size w w' ∧ IsMsgs (fun b => w.heap.size ≤ b ∧ b < w'.heap.size) w' a pn c' (partsL d M bs) := by
  have HCM : Hid (c.m = (M : Int)) := hid (hd.m.trans hM)
  have HLEN := hid hlen
  have HD := hid hd
  have HV := hid hv
  clear hlen hM hv hd
  refine (callsIn_wide (n := 3)).1 ?_
  refine callsIn_of_wp_marks Tryz.func19 rfl trivial ?_ rfl
  simp only [Tryz.ntmps19, List.size_toArray, List.length_cons, List.length_nil, Nat.reduceAdd, Nat.reduceSub, Array.replicate_succ, Array.replicate_zero, List.push_toArray, List.append_toArray, List.nil_append, List.cons_append]
  gi_wp2_with ((try refine ⟨trivial, ?_⟩); (try refine ⟨fun h => (by cases h), ?_⟩); gi_at_call 47; refine (callsIn_wide.2 (shares_call _ _ _)).mono ?_; rintro e w' ⟨rfl, rfl⟩)
  obtain ⟨wl, hwl⟩ : ∃ wl, wl = (((((w.alloc (.cells #[.int .i64 c.st.e, .slice c.st.a c.st.n c.st.c, .int .i64 c.m, .slice c.a c.n c.c, .int .i64 c.b.k, .int .i64 c.b.i, .int .i64 c.b.s, .string c.b.t, .slice c.b.la c.b.ll c.b.lc, .slice c.b.fa c.b.fl c.b.fc] 41)).alloc (.cells #[.slice pa pn pc] 22)).alloc (.cells #[.slice none 0 0] 44)).alloc (.cells #[.int .i64 c.m] 3)).alloc (.cells #[.int .i64 pn] 3)) := ⟨_, rfl⟩
  have o0 : wl.heap[w.heap.size]? = some (.cells #[.int .i64 c.st.e, .slice c.st.a c.st.n c.st.c, .int .i64 c.m, .slice c.a c.n c.c, .int .i64 c.b.k, .int .i64 c.b.i, .int .i64 c.b.s, .string c.b.t, .slice c.b.la c.b.ll c.b.lc, .slice c.b.fa c.b.fl c.b.fc] 41 (0, 0)) := by rw [hwl]; exact heapAlloc _ (heapAlloc _ (heapAlloc _ (heapAlloc _ (heap_alloc_new w _))))
  have o1 : wl.heap[w.heap.size + 1]? = some (.cells #[.slice pa pn pc] 22 (0, 0)) := by rw [hwl]; exact heapAlloc _ (heapAlloc _ (heapAlloc _ (heapNewAt _ _ _ (by simp))))
  have o2 : wl.heap[w.heap.size + 2]? = some (.cells #[.slice none 0 0] 44 (0, 0)) := by rw [hwl]; exact heapAlloc _ (heapAlloc _ (heapNewAt _ _ _ (by simp)))
  have o3 : wl.heap[w.heap.size + 3]? = some (.cells #[.int .i64 c.m] 3 (0, 0)) := by rw [hwl]; exact heapAlloc _ (heapNewAt _ _ _ (by simp))
  have o4 : wl.heap[w.heap.size + 4]? = some (.cells #[.int .i64 pn] 3 (0, 0)) := by rw [hwl]; exact heapNewAt _ _ _ (by simp)
  have hsz : wl.heap.size = w.heap.size + 5 := by rw [hwl]; simp
  have hbel : Below w.heap.size w wl := by rw [hwl]; exact ((((((Below.refl _ w).alloc (Nat.le_refl _) _).alloc (by simp) _).alloc (by simp; omega) _).alloc (by simp; omega) _).alloc (by simp; omega) _)
  rw [← hwl]
  clear hwl
  refine wpIn_rangeFunc_ownH rfl (by omega) (gf := 92) (lb := #[.pointer (some ⟨w.heap.size + 4, 0, none⟩), .pointer (some ⟨w.heap.size + 3, 0, none⟩)]) rfl trivial (enters_of Tryz.func92 (by kernel_rfl) rfl)
    (shares_stops (3 - 1) (w.heap.size + 4) (w.heap.size + 3) M pn wl hMle (by omega) o4 (by rw [← HCM.out]; exact o3)) (fun h k b o hb ho hc => k b o hb (h b o hb ho hc) hc) (fun W l o o' hl => kb_b (w := wl) W l o o' hl) (Below.refl _ _) (fun _ => rfl)
    (fun pre W => ∃ v, W.heap[w.heap.size + 2]? = some (.cells #[v] 44 (0, 0)) ∧ BuiltM 41 wl.heap.size W v pre.length (pre.map (partF d bs)) ∧ W.heap[w.heap.size]? = some (.cells #[.int .i64 c.st.e, .slice c.st.a c.st.n c.st.c, .int .i64 c.m, .slice c.a c.n c.c, .int .i64 c.b.k, .int .i64 c.b.i, .int .i64 c.b.s, .string c.b.t, .slice c.b.la c.b.ll c.b.lc, .slice c.b.fa c.b.fl c.b.fc] 41 (0, 0)) ∧ W.heap[w.heap.size + 1]? = some (.cells #[.slice pa pn pc] 22 (0, 0)) ∧ W.heap[w.heap.size + 3]? = some (.cells #[.int .i64 c.m] 3 (0, 0)) ∧ W.heap[w.heap.size + 4]? = some (.cells #[.int .i64 pn] 3 (0, 0)) ∧ Below w.heap.size w W ∧ wl.heap.size ≤ W.heap.size)
    (fun cd pre W => False)
    (fun s A B row hs hg hr => ?hI)
    (fun cd s A B row hs hg hr => hs)
    ⟨_, o2, BuiltM.nil _ _ _ _, o0, o1, o3, o4, hbel, Nat.le_refl _⟩
    (fun x a' W => a' = { tmps := #[c.v, .slice pa pn pc, .pointer (some ⟨w.heap.size, 0, none⟩), .pointer (some ⟨w.heap.size + 1, 0, none⟩), .slice none 0 0, .pointer (some ⟨w.heap.size + 1 + 1, 0, none⟩), .int .i64 x.1.1, .int .i64 x.1.2, undef,
      .pointer (some ⟨w.heap.size, 2, none⟩), .int .i64 c.m, .slice pa pn pc, .int .i64 pn, .func (.func 92) #[] #[.pointer (some ⟨w.heap.size + 1 + 1 + 1 + 1, 0, none⟩), .pointer (some ⟨w.heap.size + 1 + 1 + 1, 0, none⟩)], .int .i64 x.1.1, .int .i64 x.1.2, undef, undef, undef, undef, undef, undef, undef, undef, undef, undef, undef, undef, undef, undef, undef, undef, undef, undef], defers := [] })
    (fun x a' s A B row hs hg hr => hs) ?assign ?body ?done ?stop
  case hI =>
    obtain ⟨v, h1, h2, h3, h4, h5, h6, h7, h8⟩ := hs
    have hne : ∀ k, k < wl.heap.size → some k ≠ row := fun k hk e => by have := (hr _ e.symm).1; omega
    exact ⟨v, heapGrown hg h1 (hne _ (by omega)), h2.grown hg (fun r e => (hr r e).2), heapGrown hg h3 (hne _ (by omega)), heapGrown hg h4 (hne _ (by omega)), heapGrown hg h5 (hne _ (by omega)), heapGrown hg h6 (hne _ (by omega)), h7.grown hg (by omega) (fun k e => by have := (hr _ e).1; omega), by have := hg.size; omega⟩
  case assign =>
    intro l pre x W K hi hK
    simp only [shEncs]
    gi_wp2
    exact hK _ _ (KeepsFrom.refl _ _) (fun b o _ h _ => h) hi (by first | rfl | kernel_rfl)
  case body =>
    rintro l pre x a' W hl ⟨_, hloop⟩ ⟨v, g2, hbm, g0, g1, g3, g4, hbW, hszW⟩ rfl hlt
    clear hloop hl
    have HPL := hid hlt
    clear hlt
    obtain ⟨⟨xi, xs⟩, hxi, hxs⟩ := x
    dsimp only at hxi hxs ⊢
    have hxb : xi < bs.length := by rw [← HLEN.out]; exact hxi
    rcases HV.out with h0 | ⟨b, o, rfl, hb, hvs⟩
    · exfalso; rw [h0] at hxb; simp at hxb
    obtain ⟨y, hy, hyv⟩ := hvs.get xi hxb
    obtain ⟨e0, e1, e2, e3, e4, e5⟩ := hy.same (w' := W) (hbW.block b hb)
    have hWI : ∀ w', Below W.heap.size W w' → Calls Tryz.prog 48 #[.agg #[.int .i64 c.st.e, .slice c.st.a c.st.n c.st.c, .int .i64 c.m, .slice c.a c.n c.c, .int .i64 c.b.k, .int .i64 c.b.i, .int .i64 c.b.s, .string c.b.t, .slice c.b.la c.b.ll c.b.lc, .slice c.b.fa c.b.fl c.b.fc], .agg #[.int .i64 y.k, .int .i64 y.i, .int .i64 y.s, .string y.t, .slice y.la y.ll y.lc, .slice y.fa y.fl y.fc]] w' fun e w2 => ∃ c1 : MC, e = .returned c1.v ∧ Below w'.heap.size w' w2 ∧ IsMsg (fun b => w'.heap.size ≤ b ∧ b < w2.heap.size) w2 c1 { d with b := bs[xi] } := fun w' h => by
      have hbw := hbW.trans (h.mono (by omega))
      have hs := h.size
      refine (with_call c d y bs[xi] w' (HD.out.same fun b q => ⟨by omega, hbw.block b q⟩) (hyv.same fun b q => ⟨by omega, hbw.block b q⟩)).mono fun e w2 hp => ?_
      obtain ⟨c1, he, hb2, hi⟩ := hp
      exact ⟨c1, he, hb2, hi⟩
    have HWI := hid hWI
    clear hWI hy hyv hvs
    have HC : Hid (∀ w', Below W.heap.size W w' → w'.cell? ⟨w.heap.size, 0, none⟩ = some (.int .i64 c.st.e) ∧ w'.cell? ⟨w.heap.size, 1, none⟩ = some (.slice c.st.a c.st.n c.st.c) ∧ w'.cell? ⟨w.heap.size, 2, none⟩ = some (.int .i64 c.m) ∧ w'.cell? ⟨w.heap.size, 3, none⟩ = some (.slice c.a c.n c.c) ∧ w'.cell? ⟨w.heap.size, 4, none⟩ = some (.int .i64 c.b.k) ∧ w'.cell? ⟨w.heap.size, 5, none⟩ = some (.int .i64 c.b.i) ∧ w'.cell? ⟨w.heap.size, 6, none⟩ = some (.int .i64 c.b.s) ∧ w'.cell? ⟨w.heap.size, 7, none⟩ = some (.string c.b.t) ∧ w'.cell? ⟨w.heap.size, 8, none⟩ = some (.slice c.b.la c.b.ll c.b.lc) ∧ w'.cell? ⟨w.heap.size, 9, none⟩ = some (.slice c.b.fa c.b.fl c.b.fc) ∧ w'.cell? ⟨w.heap.size + 1, 0, none⟩ = some (.slice (some ⟨b, o, none⟩) pn pc) ∧ w'.cell? ⟨b, o + xi * 6, none⟩ = some (.int .i64 y.k) ∧ w'.cell? ⟨b, o + xi * 6 + 1, none⟩ = some (.int .i64 y.i) ∧ w'.cell? ⟨b, o + xi * 6 + 2, none⟩ = some (.int .i64 y.s) ∧ w'.cell? ⟨b, o + xi * 6 + 3, none⟩ = some (.string y.t) ∧ w'.cell? ⟨b, o + xi * 6 + 4, none⟩ = some (.slice y.la y.ll y.lc) ∧ w'.cell? ⟨b, o + xi * 6 + 5, none⟩ = some (.slice y.fa y.fl y.fc)) := hid fun w' h => by
      have h0 := heapExt h g0
      have h1 := heapExt h g1
      have hbk : ∀ j, w'.cell? ⟨b, j, none⟩ = W.cell? ⟨b, j, none⟩ := fun j => World.cell?_of_block (w := W) (a := ⟨b, j, none⟩) (h.block b (World.block_lt_of_cell? W _ e0))
      exact ⟨cellOf h0 0, cellOf h0 1, cellOf h0 2, cellOf h0 3, cellOf h0 4, cellOf h0 5, cellOf h0 6, cellOf h0 7, cellOf h0 8, cellOf h0 9, cellOf h1 0, (hbk _).trans e0, (hbk _).trans e1, (hbk _).trans e2, (hbk _).trans e3, (hbk _).trans e4, (hbk _).trans e5⟩
    clear e0 e1 e2 e3 e4 e5
    have GG := hid (And.intro g0 (And.intro g1 (And.intro g2 (And.intro g3 (And.intro g4 hbm)))))
    have HBW := hid hbW
    have hlt1 : (xi : Int) < (pn : Int) := by omega
    have hxi0 : (0 : Int) ≤ (xi : Int) := by omega
    have hpn63 : (pn : Int) ≤ 9223372036854775807 := by omega
    have HSZ := hid hszW
    have HS5 := hid hsz
    clear g0 g1 g2 g3 g4 hbm hbW hszW hsz o0 o1 o2 o3 o4 hbel
    gi_upto_region 5 with (fail)
    refine wpIn_region_split 7 (fun w' => Below W.heap.size W w') (by kernel_rfl) (by kernel_rfl) (by kernel_rfl) (by decide) (by kernel_rfl) (fun ⟨_, _, h⟩ => h) ((Below.refl _ _).drew) (fun hS => ?_)
    simp only [List.take_succ_cons, List.take_zero, List.drop_succ_cons, List.drop_zero]
    refine wpAnyH_take (i := 0) (oi := _) (v := ?_) rfl (by kernel_rfl) (by kernel_rfl) (by kernel_rfl) (fun _ _ _ h => h) (Or.inl ⟨by rfl, ?_⟩) hS ?_
    rotate_left
    · intro w' hw'
      have hcells := HC.out w' hw'
      go_simp
      (try with_reducible rfl)
    simp only [Act.put, List.setIfInBounds_toArray, List.set_cons_zero, List.set_cons_succ]
    refine wpAnyH_take (i := 1) (oi := _) (v := ?_) rfl (by kernel_rfl) (by kernel_rfl) (by kernel_rfl) (fun _ _ _ h => h) (Or.inl ⟨by rfl, ?_⟩) hS ?_
    rotate_left
    · intro w' hw'
      have hcells := HC.out w' hw'
      go_simp
      (try with_reducible rfl)
    simp only [Act.put, List.setIfInBounds_toArray, List.set_cons_zero, List.set_cons_succ]
    refine wpAnyH_take (i := 2) (oi := _) (v := ?_) rfl (by kernel_rfl) (by kernel_rfl) (by kernel_rfl) (fun _ _ _ h => h) (Or.inl ⟨by rfl, ?_⟩) hS ?_
    rotate_left
    · intro w' hw'
      have hcells := HC.out w' hw'
      go_simp
      (try with_reducible rfl)
    simp only [Act.put, List.setIfInBounds_toArray, List.set_cons_zero, List.set_cons_succ]
    refine wpAnyH_take (i := 3) (oi := _) (v := ?_) rfl (by kernel_rfl) (by kernel_rfl) (by kernel_rfl) (fun _ _ _ h => h) (Or.inl ⟨by rfl, ?_⟩) hS ?_
    rotate_left
    · intro w' hw'
      have hcells := HC.out w' hw'
      go_simp
      (try with_reducible rfl)
    simp only [Act.put, List.setIfInBounds_toArray, List.set_cons_zero, List.set_cons_succ]
    refine wpAnyH_take (i := 4) (oi := _) (v := ?_) rfl (by kernel_rfl) (by kernel_rfl) (by kernel_rfl) (fun _ _ _ h => h) (Or.inl ⟨by rfl, ?_⟩) hS ?_
    rotate_left
    · intro w' hw'
      have hcells := HC.out w' hw'
      go_simp
      (try with_reducible rfl)
    simp only [Act.put, List.setIfInBounds_toArray, List.set_cons_zero, List.set_cons_succ]
    refine wpAnyH_ready (rs := [5, 6]) (by kernel_rfl) (by simp) ?_
    refine AllReadyH.cons (o := _) rfl (fun K hK => ?_) ?_
    · go_simp; go_at_call 48; refine (HWI.out _ hS).mono ?_
      rintro e w1 ⟨c1, rfl, hb1, hi1⟩
      refine hK.out _ _ (hS.trans (hb1.mono hS.size)) (fun hS => ?_)
      clear hK K
      (try simp only [Act.put, List.setIfInBounds_toArray, List.set_cons_zero, List.set_cons_succ])
      refine wpAnyH_ready (rs := [6]) (by kernel_rfl) (by simp) ?_
      refine AllReadyH.cons (o := _) rfl (fun K hK => ?_) AllReadyH.nil
      go_simp
      refine hK.out _ _ (hS.trans (((Below.refl _ _).alloc (Nat.le_refl _) _).mono hS.size)) (fun hS => ?_)
      clear hK K
      (try simp only [Act.put, List.setIfInBounds_toArray, List.set_cons_zero, List.set_cons_succ])
      refine wpAnyH_done (by kernel_rfl) ?_ _
      (try dsimp only)
      clear HC HWI
      go_wp2
      have hS1 : Below W.heap.size W w1 := by first | exact hS | exact (Below.refl _ W).drew.trans (hb1.mono (Nat.le_refl _))
      obtain ⟨w2, hw2⟩ : ∃ w2, w2 = (w1.alloc (.cells #[.int .i64 c1.st.e, .slice c1.st.a c1.st.n c1.st.c, .int .i64 c1.m, .slice c1.a c1.n c1.c, .int .i64 c1.b.k, .int .i64 c1.b.i, .int .i64 c1.b.s, .string c1.b.t, .slice c1.b.la c1.b.ll c1.b.lc, .slice c1.b.fa c1.b.fl c1.b.fc] 41)) := ⟨_, rfl⟩
      obtain ⟨T, hT⟩ : ∃ T, T = w1.heap.size := ⟨_, rfl⟩
      have F1 : w2.heap[T]? = some (.cells #[.int .i64 c1.st.e, .slice c1.st.a c1.st.n c1.st.c, .int .i64 c1.m, .slice c1.a c1.n c1.c, .int .i64 c1.b.k, .int .i64 c1.b.i, .int .i64 c1.b.s, .string c1.b.t, .slice c1.b.la c1.b.ll c1.b.lc, .slice c1.b.fa c1.b.fl c1.b.fc] 41 (0, 0)) := by rw [hw2, hT]; exact heap_alloc_new w1 _
      have F2 : Below W.heap.size W w2 := by rw [hw2]; exact hS1.alloc hS1.size _
      have F3 : W.heap.size ≤ T := by rw [hT]; exact hS1.size
      have F4 : IsMsg (fun b => W.heap.size ≤ b ∧ b < w2.heap.size ∧ b ≠ T) w2 c1 { d with b := bs[xi] } := hi1.same fun b hb => by (have hb1' := hb.1; simp only [World.size_drew] at hb1'; rw [hw2, hT]; exact ⟨⟨hb1', by simp; omega, by omega⟩, Below.heap_alloc _ _ _ hb.2⟩)
      rw [← hw2, ← hT]
      clear hS1
      clear hw2 hT
      have F1' := hid F1
      have F2' := hid F2
      have F4' := hid F4
      clear F1 F2 F4 hi1 hb1 hS
      obtain ⟨g0, g1, g2, g3, g4, hbm⟩ := GG.out
      have p0 := cellOf (heapExt F2'.out g0) 0
      have p1 := cellOf (heapExt F2'.out g0) 1
      (try dsimp only at p0 p1)
      have HBM := hid hbm
      have G2 := hid g2
      have GK := hid (And.intro g0 (And.intro g1 (And.intro g3 g4)))
      clear g0 g1 g2 g3 g4 hbm
      have hbw2 : Below w.heap.size w w2 := HBW.out.trans (F2'.out.mono HBW.out.size)
      have UN := hid (under_call c.st d.st (xi : Int) w2 (show I64 (xi : Int) from ⟨by omega, by omega⟩) hst (HD.out.st.same fun b q => ⟨Nat.lt_of_lt_of_le q hbw2.size, hbw2.block b q⟩))
      clear hbw2
      gi_upto_region 7 with ((try refine ⟨trivial, ?_⟩); (try refine ⟨fun h => (by cases h), ?_⟩); gi_at_call 49; refine (CallsIn.inRound l (callsIn_wide.2 UN.out)).mono ?_; rintro e w3 ⟨cs, rfl, hb3, hi3⟩; have k0 := heapExt hb3 F1'.out; have z0 := cellOf k0 0; have z1 := cellOf k0 1; have z2 := cellOf k0 2; have y0 := freeOf k0 0; have y1 := freeOf k0 1; have y2 := freeOf k0 2; (try dsimp only at z0 z1 z2); have K3 := hid k0; have HB3 := hid hb3; have HI3 := hid hi3; clear k0 hb3 hi3 p0 p1)
      clear z0 z1 z2 y0 y1 y2
      obtain ⟨w4, hw4⟩ : ∃ w4, w4 = (setTwo w3 T cs).setCell ⟨T, 2, none⟩ (.int .i64 xs) := ⟨_, rfl⟩
      have e1 : w4.heap[T]? = some (.cells #[.int .i64 cs.e, .slice cs.a cs.n cs.c, .int .i64 xs, .slice c1.a c1.n c1.c, .int .i64 c1.b.k, .int .i64 c1.b.i, .int .i64 c1.b.s, .string c1.b.t, .slice c1.b.la c1.b.ll c1.b.lc, .slice c1.b.fa c1.b.fl c1.b.fc] 41 (0, 0)) := by
        rw [hw4]
        have e := heapSet (o := 2) (Value.int .i64 xs) (heapSet (o := 1) (Value.slice cs.a cs.n cs.c) (heapSet (o := 0) (Value.int .i64 cs.e) K3.out))
        simp only [List.setIfInBounds_toArray, List.set_cons_zero, List.set_cons_succ] at e
        exact e
      have e2 : ∀ b, b ≠ T → w4.heap[b]? = w3.heap[b]? := fun b hb => by rw [hw4]; exact (Below.heap_setCell _ _ _ _ hb).trans (setTwo_other _ _ _ hb)
      have e3 : w4.heap.size = w3.heap.size := by rw [hw4]; simp [World.setCell]
      have e4 : Below W.heap.size W w4 := by rw [hw4]; exact ((F2'.out.trans (HB3.out.mono F2'.out.size)).trans (setTwo_below w3 T W.heap.size F3)).setCell (p := ⟨T, 2, none⟩) F3 _
      have hs3 := HB3.out.size
      have hs2 := F2'.out.size
      have e5 : IsMsg (fun b => W.heap.size ≤ b ∧ b < w4.heap.size) w4 ⟨cs, xs, c1.a, c1.n, c1.c, c1.b⟩ (partP d bs (xi, xs)) := by
        have hg : (bs[xi]?).getD noVal = bs[xi] := by simp [hxb]
        have hsame : ∀ b, (W.heap.size ≤ b ∧ b < w2.heap.size ∧ b ≠ T) → (W.heap.size ≤ b ∧ b < w4.heap.size) ∧ w4.heap[b]? = w2.heap[b]? := fun b hb => ⟨⟨hb.1, by omega⟩, (e2 b hb.2.2).trans (HB3.out.block b hb.2.1)⟩
        refine ⟨HI3.out.same fun b hb => ⟨⟨by omega, by omega⟩, e2 b (by have := ltOf F1'.out; omega)⟩, rfl, ⟨by simp only [partP]; omega, by simp only [partP]; omega⟩, F4'.out.es.same hsame, ?_⟩
        simp only [partP, hg]
        exact F4'.out.b.same hsame
      dsimp only [setTwo] at hw4
      rw [← hw4]
      obtain ⟨va, vcap, rfl, _, _, _⟩ := HBM.out.shape
      obtain ⟨ti, hi, hz0, hz1, hz2⟩ := info_parts infoMsg
      have hpl := HPL.out
      have hcap1 : pre.length + 1 ≤ maxLen := by unfold maxLen; omega
      have hcap2 : (pre.length + 1) * 152 ≤ 140737488355328 := by omega
      have e6 := heapExt e4 G2.out
      obtain ⟨csl, hcl, hown, hel⟩ := HBM.out.ext e4
      have x0 := cellOf e1 0
      have x1 := cellOf e1 1
      have x2 := cellOf e1 2
      have x3 := cellOf e1 3
      have x4 := cellOf e1 4
      have x5 := cellOf e1 5
      have x6 := cellOf e1 6
      have x7 := cellOf e1 7
      have x8 := cellOf e1 8
      have x9 := cellOf e1 9
      have sv := cellOf e6 0
      (try dsimp only at x0 x1 x2 x3 x4 x5 x6 x7 x8 x9 sv)
      have hwsz : wl.heap.size = w.heap.size + 5 := HS5.out
      have hwlW : wl.heap.size ≤ W.heap.size := HSZ.out
      have hne : ∀ j, j < wl.heap.size → some j ≠ (Value.slice va pre.length vcap).ownBlock := fun j hj e => by have := (HBM.out.own j e.symm).1; omega
      have HEL := hid hel
      have HCL := hid hcl
      have E5 := hid e5
      have E6 := hid e6
      have E4 := hid e4
      have HNE := hid hne
      have HOWN := hid hown
      have HW4 := hid hw4
      clear hel hcl e5 e6 e1 e2 e3 hs3 hs2 e4 hne hown hw4
      have hbs4 : wl.heap.size ≤ w4.heap.size := Nat.le_trans hwlW E4.out.size
      gi_wp2_with (gi_at_builtin; go_loud (refine wpListIn_append_own_at _ (by rfl) _ _ 44 (by rfl) wl.heap.size 41 ti _ 10 152 Tryz.underlying44 hi hz0 hz1 hz2 rfl (by omega) (.slice va pre.length vcap) pre.length (csl.flatMap MC.cs) (by rfl) (HOWN.out.alloc _) ⟨w4.heap.size, 0, none⟩ 1 1 (MC.cs ⟨cs, xs, c1.a, c1.n, c1.c, c1.b⟩) (by rfl) (by rfl) (World.news_of_block (heap_alloc_new w4 _)) (by simp [MC.cs, Value.oneCell']) hcap1 hcap2 (by simp; omega) ?_); intro v' w5 hown2 hgrow hnil hat; obtain ⟨g, cap, rfl⟩ : ∃ g cap, v' = .slice (some ⟨g, 0, none⟩) (pre.length + 1) cap := row_succ hown2; have r0 := heapGrown hgrow (heapAlloc _ E6.out) (HNE.out (w.heap.size + 2) (by omega)); have q0 := cellOf r0 0; have q1 := freeOf r0 0; (try dsimp only at q0); have R0 := hid r0; have HO2 := hid hown2; have HGR := hid hgrow; have HAT := hid hat; clear r0 hown2 hgrow hat hnil)
      have hnb : ∀ k o, W.heap[k]? = some o → some k ≠ (Value.slice va pre.length vcap).ownBlock → k ≠ w.heap.size + 2 → (w5.setCell ⟨w.heap.size + 1 + 1, 0, none⟩ (.slice (some ⟨g, 0, none⟩) (pre.length + 1) cap)).heap[k]? = some o := fun k o h h1 h2 => by
        refine (Below.heap_setCell _ _ _ _ (by dsimp only; omega)).trans ?_
        have hk := ltOf (heapExt E4.out h)
        exact (HGR.out.block k (by simp; omega) h1).trans ((Below.heap_alloc _ _ _ hk).trans (heapExt E4.out h))
      have hsz5 := HGR.out.size
      simp only [World.size_alloc] at hsz5
      have hszW := E4.out.size
      refine ⟨⟨by simp [World.setCell]; omega, fun k o hk h0 ho => hnb k o h0 (fun e => ?_) (by omega)⟩, fun b o hb ho _ => hnb b o ho (HNE.out b (by omega)) (by omega), _, heapSet (o := 0) _ R0.out, ?_, hnb _ _ GK.out.1 (HNE.out _ (by omega)) (by omega), hnb _ _ GK.out.2.1 (HNE.out _ (by omega)) (by omega), hnb _ _ GK.out.2.2.1 (HNE.out _ (by omega)) (by omega), hnb _ _ GK.out.2.2.2 (HNE.out _ (by omega)) (by omega), ?_, by simp [World.setCell]; omega⟩
      · obtain ⟨_, _, hown0, _⟩ := HBM.out
        rcases hown0.2 with ⟨hv, _⟩ | ⟨g0, cap0, cur0, hv, _, hg0, _⟩
        · rw [hv] at e; cases e
        · rw [hv] at e; cases e; rw [hg0] at h0; cases h0; cases ho
      · have hlen1 : (pre ++ [(⟨(xi, xs), hxi, hxs⟩ : Sh pn)]).length = pre.length + 1 := by simp
        rw [hlen1]
        refine BuiltM.set (BuiltM.push (N := W.heap.size) (w1 := w4) (v := .slice va pre.length vcap) (k := pre.length) (l := (pre ++ [(⟨(xi, xs), hxi, hxs⟩ : Sh pn)]).map (partF d bs)) (cs := csl) (c := ⟨cs, xs, c1.a, c1.n, c1.c, c1.b⟩) HCL.out (fun j h h' => ?_) (by simp) ?_ hwlW (fun r e => (HBM.out.own r e).2) HO2.out HGR.out ?_) _ _ (by dsimp only; omega)
        · have hj : j < pre.length := by have := HCL.out; omega
          have e : ((pre ++ [(⟨(xi, xs), hxi, hxs⟩ : Sh pn)]).map (partF d bs))[j] = (pre.map (partF d bs))[j]'(by simpa using hj) := by simp [List.getElem_append_left, hj]
          rw [e]
          exact HEL.out j h (by simpa using hj)
        · have e : ((pre ++ [(⟨(xi, xs), hxi, hxs⟩ : Sh pn)]).map (partF d bs))[pre.length]'(by simp) = partP d bs (xi, xs) := by simp
          rw [e]
          exact E5.out
        · rcases HAT.out with h | h
          · exact .inl h.symm
          · right; simpa [Value.ownBlock] using h
      · exact ((((HBW.out.trans (E4.out.mono HBW.out.size)).alloc (by omega) _).grown HGR.out (by simp; omega) (fun k e => by have := (HBM.out.own k e).1; omega)).setCell (p := ⟨w.heap.size + 1 + 1, 0, none⟩) (by dsimp only; omega) _)
    refine AllReadyH.cons (o := _) rfl (fun K hK => ?_) AllReadyH.nil
    go_simp
    refine hK.out _ _ (hS.trans (((Below.refl _ _).alloc (Nat.le_refl _) _).mono hS.size)) (fun hS => ?_)
    clear hK K
    (try simp only [Act.put, List.setIfInBounds_toArray, List.set_cons_zero, List.set_cons_succ])
    refine wpAnyH_ready (rs := [5]) (by kernel_rfl) (by simp) ?_
    refine AllReadyH.cons (o := _) rfl (fun K hK => ?_) AllReadyH.nil
    go_simp; go_at_call 48; refine (HWI.out _ hS).mono ?_
    rintro e w1 ⟨c1, rfl, hb1, hi1⟩
    refine hK.out _ _ (hS.trans (hb1.mono hS.size)) (fun hS => ?_)
    clear hK K
    (try simp only [Act.put, List.setIfInBounds_toArray, List.set_cons_zero, List.set_cons_succ])
    refine wpAnyH_done (by kernel_rfl) ?_ _
    (try dsimp only)
    have k0 : w1.heap[W.heap.size]? = some (.cells #[.int .i64 0, .slice none 0 0, .int .i64 0, .slice none 0 0, .int .i64 0, .int .i64 0, .int .i64 0, .string ByteArray.empty, .slice none 0 0, .slice none 0 0] 41 (0, 0)) := heapExt hb1 (heap_alloc_new W.drew _)
    have z0 := cellOf k0 0
    have z1 := cellOf k0 1
    have z2 := cellOf k0 2
    have z3 := cellOf k0 3
    have z4 := cellOf k0 4
    have z5 := cellOf k0 5
    have z6 := cellOf k0 6
    have z7 := cellOf k0 7
    have z8 := cellOf k0 8
    have z9 := cellOf k0 9
    have y0 := freeOf k0 0
    have y1 := freeOf k0 1
    have y2 := freeOf k0 2
    have y3 := freeOf k0 3
    have y4 := freeOf k0 4
    have y5 := freeOf k0 5
    have y6 := freeOf k0 6
    have y7 := freeOf k0 7
    have y8 := freeOf k0 8
    have y9 := freeOf k0 9
    (try dsimp only at z0 z1 z2 z3 z4 z5 z6 z7 z8 z9)
    have K0 := hid k0
    clear k0 HC HWI
    go_wp2
    clear z0 y0 z1 y1 z2 y2 z3 y3 z4 y4 z5 y5 z6 y6 z7 y7 z8 y8 z9 y9
    obtain ⟨w2, hw2⟩ : ∃ w2, w2 = (setTen w1 W.heap.size c1) := ⟨_, rfl⟩
    obtain ⟨T, hT⟩ : ∃ T, T = W.heap.size := ⟨_, rfl⟩
    have F1 : w2.heap[T]? = some (.cells #[.int .i64 c1.st.e, .slice c1.st.a c1.st.n c1.st.c, .int .i64 c1.m, .slice c1.a c1.n c1.c, .int .i64 c1.b.k, .int .i64 c1.b.i, .int .i64 c1.b.s, .string c1.b.t, .slice c1.b.la c1.b.ll c1.b.lc, .slice c1.b.fa c1.b.fl c1.b.fc] 41 (0, 0)) := by rw [hw2, hT]; exact setTen_heap K0.out
    have F2 : Below W.heap.size W w2 := by rw [hw2]; exact hS.trans (setTen_below w1 _ _ (Nat.le_refl _))
    have F3 : W.heap.size ≤ T := by rw [hT]; exact Nat.le_refl _
    have F4 : IsMsg (fun b => W.heap.size ≤ b ∧ b < w2.heap.size ∧ b ≠ T) w2 c1 { d with b := bs[xi] } := hi1.same fun b hb => by (have hb1' := hb.1; simp only [World.size_drew, World.size_alloc] at hb1'; rw [hw2, hT]; exact ⟨⟨by omega, by rw [setTen_size]; exact hb.2, by omega⟩, setTen_other _ _ _ (by omega)⟩)
    dsimp only [setTen] at hw2
    rw [← hw2, ← hT]
    clear hw2 hT
    have F1' := hid F1
    have F2' := hid F2
    have F4' := hid F4
    clear F1 F2 F4 hi1 hb1 hS
    obtain ⟨g0, g1, g2, g3, g4, hbm⟩ := GG.out
    have p0 := cellOf (heapExt F2'.out g0) 0
    have p1 := cellOf (heapExt F2'.out g0) 1
    (try dsimp only at p0 p1)
    have HBM := hid hbm
    have G2 := hid g2
    have GK := hid (And.intro g0 (And.intro g1 (And.intro g3 g4)))
    clear g0 g1 g2 g3 g4 hbm
    have hbw2 : Below w.heap.size w w2 := HBW.out.trans (F2'.out.mono HBW.out.size)
    have UN := hid (under_call c.st d.st (xi : Int) w2 (show I64 (xi : Int) from ⟨by omega, by omega⟩) hst (HD.out.st.same fun b q => ⟨Nat.lt_of_lt_of_le q hbw2.size, hbw2.block b q⟩))
    clear hbw2
    gi_upto_region 7 with ((try refine ⟨trivial, ?_⟩); (try refine ⟨fun h => (by cases h), ?_⟩); gi_at_call 49; refine (CallsIn.inRound l (callsIn_wide.2 UN.out)).mono ?_; rintro e w3 ⟨cs, rfl, hb3, hi3⟩; have k0 := heapExt hb3 F1'.out; have z0 := cellOf k0 0; have z1 := cellOf k0 1; have z2 := cellOf k0 2; have y0 := freeOf k0 0; have y1 := freeOf k0 1; have y2 := freeOf k0 2; (try dsimp only at z0 z1 z2); have K3 := hid k0; have HB3 := hid hb3; have HI3 := hid hi3; clear k0 hb3 hi3 p0 p1)
    clear z0 z1 z2 y0 y1 y2
    obtain ⟨w4, hw4⟩ : ∃ w4, w4 = (setTwo w3 T cs).setCell ⟨T, 2, none⟩ (.int .i64 xs) := ⟨_, rfl⟩
    have e1 : w4.heap[T]? = some (.cells #[.int .i64 cs.e, .slice cs.a cs.n cs.c, .int .i64 xs, .slice c1.a c1.n c1.c, .int .i64 c1.b.k, .int .i64 c1.b.i, .int .i64 c1.b.s, .string c1.b.t, .slice c1.b.la c1.b.ll c1.b.lc, .slice c1.b.fa c1.b.fl c1.b.fc] 41 (0, 0)) := by
      rw [hw4]
      have e := heapSet (o := 2) (Value.int .i64 xs) (heapSet (o := 1) (Value.slice cs.a cs.n cs.c) (heapSet (o := 0) (Value.int .i64 cs.e) K3.out))
      simp only [List.setIfInBounds_toArray, List.set_cons_zero, List.set_cons_succ] at e
      exact e
    have e2 : ∀ b, b ≠ T → w4.heap[b]? = w3.heap[b]? := fun b hb => by rw [hw4]; exact (Below.heap_setCell _ _ _ _ hb).trans (setTwo_other _ _ _ hb)
    have e3 : w4.heap.size = w3.heap.size := by rw [hw4]; simp [World.setCell]
    have e4 : Below W.heap.size W w4 := by rw [hw4]; exact ((F2'.out.trans (HB3.out.mono F2'.out.size)).trans (setTwo_below w3 T W.heap.size F3)).setCell (p := ⟨T, 2, none⟩) F3 _
    have hs3 := HB3.out.size
    have hs2 := F2'.out.size
    have e5 : IsMsg (fun b => W.heap.size ≤ b ∧ b < w4.heap.size) w4 ⟨cs, xs, c1.a, c1.n, c1.c, c1.b⟩ (partP d bs (xi, xs)) := by
      have hg : (bs[xi]?).getD noVal = bs[xi] := by simp [hxb]
      have hsame : ∀ b, (W.heap.size ≤ b ∧ b < w2.heap.size ∧ b ≠ T) → (W.heap.size ≤ b ∧ b < w4.heap.size) ∧ w4.heap[b]? = w2.heap[b]? := fun b hb => ⟨⟨hb.1, by omega⟩, (e2 b hb.2.2).trans (HB3.out.block b hb.2.1)⟩
      refine ⟨HI3.out.same fun b hb => ⟨⟨by omega, by omega⟩, e2 b (by have := ltOf F1'.out; omega)⟩, rfl, ⟨by simp only [partP]; omega, by simp only [partP]; omega⟩, F4'.out.es.same hsame, ?_⟩
      simp only [partP, hg]
      exact F4'.out.b.same hsame
    dsimp only [setTwo] at hw4
    rw [← hw4]
    obtain ⟨va, vcap, rfl, _, _, _⟩ := HBM.out.shape
    obtain ⟨ti, hi, hz0, hz1, hz2⟩ := info_parts infoMsg
    have hpl := HPL.out
    have hcap1 : pre.length + 1 ≤ maxLen := by unfold maxLen; omega
    have hcap2 : (pre.length + 1) * 152 ≤ 140737488355328 := by omega
    have e6 := heapExt e4 G2.out
    obtain ⟨csl, hcl, hown, hel⟩ := HBM.out.ext e4
    have x0 := cellOf e1 0
    have x1 := cellOf e1 1
    have x2 := cellOf e1 2
    have x3 := cellOf e1 3
    have x4 := cellOf e1 4
    have x5 := cellOf e1 5
    have x6 := cellOf e1 6
    have x7 := cellOf e1 7
    have x8 := cellOf e1 8
    have x9 := cellOf e1 9
    have sv := cellOf e6 0
    (try dsimp only at x0 x1 x2 x3 x4 x5 x6 x7 x8 x9 sv)
    have hwsz : wl.heap.size = w.heap.size + 5 := HS5.out
    have hwlW : wl.heap.size ≤ W.heap.size := HSZ.out
    have hne : ∀ j, j < wl.heap.size → some j ≠ (Value.slice va pre.length vcap).ownBlock := fun j hj e => by have := (HBM.out.own j e.symm).1; omega
    have HEL := hid hel
    have HCL := hid hcl
    have E5 := hid e5
    have E6 := hid e6
    have E4 := hid e4
    have HNE := hid hne
    have HOWN := hid hown
    have HW4 := hid hw4
    clear hel hcl e5 e6 e1 e2 e3 hs3 hs2 e4 hne hown hw4
    have hbs4 : wl.heap.size ≤ w4.heap.size := Nat.le_trans hwlW E4.out.size
    gi_wp2_with (gi_at_builtin; go_loud (refine wpListIn_append_own_at _ (by rfl) _ _ 44 (by rfl) wl.heap.size 41 ti _ 10 152 Tryz.underlying44 hi hz0 hz1 hz2 rfl (by omega) (.slice va pre.length vcap) pre.length (csl.flatMap MC.cs) (by rfl) (HOWN.out.alloc _) ⟨w4.heap.size, 0, none⟩ 1 1 (MC.cs ⟨cs, xs, c1.a, c1.n, c1.c, c1.b⟩) (by rfl) (by rfl) (World.news_of_block (heap_alloc_new w4 _)) (by simp [MC.cs, Value.oneCell']) hcap1 hcap2 (by simp; omega) ?_); intro v' w5 hown2 hgrow hnil hat; obtain ⟨g, cap, rfl⟩ : ∃ g cap, v' = .slice (some ⟨g, 0, none⟩) (pre.length + 1) cap := row_succ hown2; have r0 := heapGrown hgrow (heapAlloc _ E6.out) (HNE.out (w.heap.size + 2) (by omega)); have q0 := cellOf r0 0; have q1 := freeOf r0 0; (try dsimp only at q0); have R0 := hid r0; have HO2 := hid hown2; have HGR := hid hgrow; have HAT := hid hat; clear r0 hown2 hgrow hat hnil)
    have hnb : ∀ k o, W.heap[k]? = some o → some k ≠ (Value.slice va pre.length vcap).ownBlock → k ≠ w.heap.size + 2 → (w5.setCell ⟨w.heap.size + 1 + 1, 0, none⟩ (.slice (some ⟨g, 0, none⟩) (pre.length + 1) cap)).heap[k]? = some o := fun k o h h1 h2 => by
      refine (Below.heap_setCell _ _ _ _ (by dsimp only; omega)).trans ?_
      have hk := ltOf (heapExt E4.out h)
      exact (HGR.out.block k (by simp; omega) h1).trans ((Below.heap_alloc _ _ _ hk).trans (heapExt E4.out h))
    have hsz5 := HGR.out.size
    simp only [World.size_alloc] at hsz5
    have hszW := E4.out.size
    refine ⟨⟨by simp [World.setCell]; omega, fun k o hk h0 ho => hnb k o h0 (fun e => ?_) (by omega)⟩, fun b o hb ho _ => hnb b o ho (HNE.out b (by omega)) (by omega), _, heapSet (o := 0) _ R0.out, ?_, hnb _ _ GK.out.1 (HNE.out _ (by omega)) (by omega), hnb _ _ GK.out.2.1 (HNE.out _ (by omega)) (by omega), hnb _ _ GK.out.2.2.1 (HNE.out _ (by omega)) (by omega), hnb _ _ GK.out.2.2.2 (HNE.out _ (by omega)) (by omega), ?_, by simp [World.setCell]; omega⟩
    · obtain ⟨_, _, hown0, _⟩ := HBM.out
      rcases hown0.2 with ⟨hv, _⟩ | ⟨g0, cap0, cur0, hv, _, hg0, _⟩
      · rw [hv] at e; cases e
      · rw [hv] at e; cases e; rw [hg0] at h0; cases h0; cases ho
    · have hlen1 : (pre ++ [(⟨(xi, xs), hxi, hxs⟩ : Sh pn)]).length = pre.length + 1 := by simp
      rw [hlen1]
      refine BuiltM.set (BuiltM.push (N := W.heap.size) (w1 := w4) (v := .slice va pre.length vcap) (k := pre.length) (l := (pre ++ [(⟨(xi, xs), hxi, hxs⟩ : Sh pn)]).map (partF d bs)) (cs := csl) (c := ⟨cs, xs, c1.a, c1.n, c1.c, c1.b⟩) HCL.out (fun j h h' => ?_) (by simp) ?_ hwlW (fun r e => (HBM.out.own r e).2) HO2.out HGR.out ?_) _ _ (by dsimp only; omega)
      · have hj : j < pre.length := by have := HCL.out; omega
        have e : ((pre ++ [(⟨(xi, xs), hxi, hxs⟩ : Sh pn)]).map (partF d bs))[j] = (pre.map (partF d bs))[j]'(by simpa using hj) := by simp [List.getElem_append_left, hj]
        rw [e]
        exact HEL.out j h (by simpa using hj)
      · have e : ((pre ++ [(⟨(xi, xs), hxi, hxs⟩ : Sh pn)]).map (partF d bs))[pre.length]'(by simp) = partP d bs (xi, xs) := by simp
        rw [e]
        exact E5.out
      · rcases HAT.out with h | h
        · exact .inl h.symm
        · right; simpa [Value.ownBlock] using h
    · exact ((((HBW.out.trans (E4.out.mono HBW.out.size)).alloc (by omega) _).grown HGR.out (by simp; omega) (fun k e => by have := (HBM.out.own k e).1; omega)).setCell (p := ⟨w.heap.size + 1 + 1, 0, none⟩) (by dsimp only; omega) _)
  case done =>
    rintro D ys W hD hS ⟨v, g2, hbm, g0, g1, g3, g4, hbW, hszW⟩ hK
    have c2 := cellOf g2 0
    (try dsimp only at c2)
    gi_wp2
    have hlk : ys.length = pn := by rw [← List.length_map (f := Subtype.val), hS, shareL_len]
    have hl : partsL d M bs = ys.map (partF d bs) := by
      rw [partsL, ← HLEN.out, ← hS, List.map_map]; rfl
    obtain ⟨o', ho, hcells⟩ : ∃ o', W.heap[D]? = some o' ∧ o'.isCells = false := ⟨_, hK, rfl⟩
    have hbm2 := hbm.grown (grownBy_putObj' W D (.deferred none)) (fun r e => by cases e; exact ⟨o', ho, hcells⟩)
    have hbw2 := hbW.trans (belowK_b (w := w) (Nat.le_refl _) W D (.deferred (some [])) (.deferred none) (by omega) hK rfl rfl)
    obtain ⟨a, cap, rfl, _⟩ := hbm2.shape
    have hln : (ys.map (partF d bs)).length = ys.length := List.length_map _
    have hms := BuiltM.msgs (l := ys.map (partF d bs)) (a := a) (cap := cap) (by rw [hln]; exact hbm2) (by rw [hln]; omega)
    rw [hln, hlk] at hms
    refine ⟨by simp, .inl ⟨_, _, rfl, run_takeDeferred hK, ?_⟩⟩
    refine ⟨.slice a ys.length cap, by simp [results, Tryz.results19, go_sem], a, cap, by rw [hlk], hbw2, ?_⟩
    rw [hl]
    exact hms.same fun b hb => ⟨⟨by omega, hb.2⟩, rfl⟩
  case stop =>
    rintro D cd pre W hD hpf hF hK
    cases hF
end Go.Proofs.YtcejackabdmpkaaGreatDoor
