/-
  Plain: tokens as blocks: whole-token laws of loads and stores; what the reader's next state is, by the first byte of the token. No program is stepped through here.
-/
import Derived.Test.YtkljbfaemahchaaGreatDoorMP27Mrg
import Derived.Test.YtkljbfaemahchaaGreatDoorMP20Mrg
import Derived.Laws.Tables
import Derived.Laws.CopyRow
namespace Go.Proofs.YtkljbfaemahchaaGreatDoor
set_option linter.unusedVariables false
set_option linter.unusedSimpArgs false
open Go Go.RowKit Go.Shelf
abbrev tokA (r : Rd) : Array Value:=#[.int .i64 r.k,.int .i64 r.p,.string r.t,.string r.b,.int .i64 r.n,.int .i64 r.sc,.bool r.d,.bool r.x]
abbrev tokO (r : Rd) : Obj:=.cells (tokA r) 203
abbrev tokZ : Obj:=.cells #[.int .i64 0,.int .i64 0,.string ⟨#[]⟩,.string ⟨#[]⟩,.int .i64 0,.int .i64 0,.bool false,.bool false] 203
theorem add_at (b o j : Nat) : (⟨b,o,none⟩ : Addr).add j = ⟨b,o + j,none⟩:=by unfold Addr.add; split <;> simp_all
theorem ld_tok {w : World} {N : Nat} {r : Rd} {t : TypeId} {fr : Nat × Nat} (h : w.heap[N]? = some (.cells (tokA r) t fr)) : (loadCellsFrom ⟨N,0,none⟩ 0 8 #[]).run Tryz.prog w = .ok (tokA r) w:=by
 have:=run_loadCells_list (P:=Tryz.prog) w ⟨N,0,none⟩ (tokA r).toList (fun j v hv => by
  rw [add_at,Nat.zero_add,cellOf h j]; simpa using hv)
 exact this
theorem ld_rd {w : World} {b : Nat} {s : ByteArray} {r : Rd} (h : IsRd w b s r) : (loadCellsFrom ⟨b,2,none⟩ 0 8 #[]).run Tryz.prog w = .ok (tokA r) w:=by
 have:=run_loadCells_list (P:=Tryz.prog) w ⟨b,2,none⟩ (tokA r).toList (fun j v hv => by
  have hj : j < 8:=(List.getElem?_eq_some_iff.1 hv).1
  rw [add_at,cellOf h.at_ (2 + j),← hv]
  have : j = 0 ∨ j = 1 ∨ j = 2 ∨ j = 3 ∨ j = 4 ∨ j = 5 ∨ j = 6 ∨ j = 7:=by omega
  rcases this with rfl | rfl | rfl | rfl | rfl | rfl | rfl | rfl <;> rfl)
 exact this
theorem st_tok {w : World} {N : Nat} {cur : Array Value} (h : w.heap[N]? = some (.cells cur 203 (0,0))) (hc : cur.size = 8) (r : Rd) :
 (storeCells ⟨N,0,none⟩ [.int .i64 r.k,.int .i64 r.p,.string r.t,.string r.b,.int .i64 r.n,.int .i64 r.sc,.bool r.d,.bool r.x] 0).run Tryz.prog w = .ok () (w.setRow N (tokA r)):=by
 have:=run_storeCells_from (P:=Tryz.prog) N 203 [.int .i64 r.k,.int .i64 r.p,.string r.t,.string r.b,.int .i64 r.n,.int .i64 r.sc,.bool r.d,.bool r.x] 0 cur w h (by rw [hc]; rfl) (by simp [Value.oneCell'])
 simpa using this
theorem infoTok : (Tryz.prog.info? 203).map (·.size) = some 8:=by kernel_rfl
theorem st_tokNew (w : World) (z : Array Value) (hz : z.size = 8) (r : Rd) :
 (storeCells ⟨w.heap.size,0,none⟩ [.int .i64 r.k,.int .i64 r.p,.string r.t,.string r.b,.int .i64 r.n,.int .i64 r.sc,.bool r.d,.bool r.x] 0).run Tryz.prog (w.alloc (.cells z 203)) = .ok () (w.alloc (tokO r)):=by
 have:=run_storeCells_new (P:=Tryz.prog) w 203 z (tokA r) (by rw [infoTok]; rfl) (by rw [hz]; rfl) (by simp [Value.oneCell'])
 exact this
theorem putC_setRow (w : World) (b : Nat) (cs cs' : Array Value) : (putC w b cs).setRow b cs' = putC w b cs':=by
 unfold World.setRow putC
 congr 1
 apply Array.ext_getElem?
 intro k
 simp only [Array.getElem?_modify,Array.getElem?_setIfInBounds]
 by_cases hk : b = k
 ·subst hk
  by_cases hb : b < w.heap.size <;> simp [hb]
 ·simp [hk]
theorem st_rd {W : World} {b : Nat} (hb : b < W.heap.size) (s : ByteArray) (nx k0 p0 : Int) (t0 b0 : ByteArray) (n0 sc0 : Int) (d0 x0 : Bool) (e o : Int) (k p : Int) (t q : ByteArray) (n sc : Int) (d x : Bool) :
 (storeCells ⟨b,2,none⟩ [.int .i64 k,.int .i64 p,.string t,.string q,.int .i64 n,.int .i64 sc,.bool d,.bool x] 0).run Tryz.prog (putC W b (rdA s nx k0 p0 t0 b0 n0 sc0 d0 x0 e o)) = .ok () (putC W b (rdA s nx k p t q n sc d x e o)):=by
 have:=run_storeCells_at (P:=Tryz.prog) b 2 205 [.int .i64 k,.int .i64 p,.string t,.string q,.int .i64 n,.int .i64 sc,.bool d,.bool x] 0 (rdA s nx k0 p0 t0 b0 n0 sc0 d0 x0 e o) (putC W b (rdA s nx k0 p0 t0 b0 n0 sc0 d0 x0 e o)) (putC_block W b _ hb) (by simp) (by simp [Value.oneCell'])
 rw [this,putC_setRow]
 rfl
/-! ### the next token,by its first byte -/
def r1F (a : Nat) (o : Nat) : Rd:=⟨a,0,a,⟨#[]⟩,⟨#[]⟩,0,0,false,false,0,o⟩
def midF (s : ByteArray) (a o : Nat) (c : UInt8) : Rd :=
 if c.toNat = 34 then rdStr s.data.toList a (r1F a o) else if c.toNat = 120 ∧ Lib.hasPrefix (s.data.toList.drop a) [120,34] = true then rdByt s.data.toList a (r1F a o) else if letC c then { r1F a o with nx:=runI s.data.toList a wrdC,k:=1 }
  else if digC c || c.toNat == 45 then rdNum s.data.toList s a (r1F a o) else if Lib.hasPrefix (s.data.toList.drop a) [46,46] then { r1F a o with nx:=a + 2,k:=5 } else if symL.contains c then { r1F a o with nx:=a + 1,k:=5 } else (r1F a o).fail a 13
def finF (s : ByteArray) (a : Nat) (r2 : Rd) : Rd:=if r2.e = 0 then { r2 with t:=s.extract a r2.nx } else r2
theorem adv_end {s : ByteArray} {r : Rd} (he : r.e = 0) (h : s.data.toList[runI s.data.toList r.nx spC]? = none) : r.adv s = r1F (runI s.data.toList r.nx spC) r.o:=by
 unfold Rd.adv
 rw [if_neg (by simp [he])]
 dsimp only
 rw [h]
 rfl
theorem adv_mid {s : ByteArray} {r : Rd} {c : UInt8} (he : r.e = 0) (h : s.data.toList[runI s.data.toList r.nx spC]? = some c) : r.adv s = finF s (runI s.data.toList r.nx spC) (midF s (runI s.data.toList r.nx spC) r.o c):=by
 unfold Rd.adv
 rw [if_neg (by simp [he])]
 dsimp only
 rw [h]
 rfl
def MidOK (s : ByteArray) (a : Nat) (r2 : Rd) : Prop:=a ≤ r2.nx ∧ (r2.e = 0 → r2.k ≠ 0)
theorem fail_nx (r : Rd) (p : Nat) (e : Int) : (r.fail p e).nx = r.nx:=by unfold Rd.fail; split <;> rfl
theorem strGo_err : ∀ (f : Nat) (l : List UInt8) (i : Nat) (acc : List UInt8) (j : Nat) (e : Int),strGo f l i acc = .inr (some (j,e)) → e ≠ 0
 | 0,_,_,_,_,_,h => by simp [strGo] at h
 | _ + 1,[],_,_,_,_,h => by simp [strGo] at h
 | f + 1,c :: l,i,acc,j,e,h => by
   unfold strGo at h
   split at h
   ·cases h
   split at h
   ·cases h; decide
   split at h
   ·exact strGo_err f _ _ _ _ _ h
   split at h
   ·cases h
   dsimp only at h
   split at h
   ·rename_i hne; cases h; exact hne
   ·exact strGo_err f _ _ _ _ _ h
theorem mid_str (s : ByteArray) (a o : Nat) : MidOK s a (rdStr s.data.toList a (r1F a o)):=by
 unfold rdStr
 split
 ·rename_i i b h
  have:=strGo_le _ _ _ _ _ _ h
  exact ⟨by dsimp only; omega,fun _ => by simp⟩
 ·rename_i i e h
  refine ⟨by rw [fail_nx]; exact Nat.le_refl _,fun he => ?_⟩
  have hne : e ≠ 0:=strGo_err _ _ _ _ _ _ h
  exact absurd he (Rd.fail_e _ _ _ hne)
 ·refine ⟨by rw [fail_nx]; exact Nat.le_refl _,fun he => absurd he (Rd.fail_e _ _ _ (by decide))⟩
theorem mid_byt (s : ByteArray) (a o : Nat) : MidOK s a (rdByt s.data.toList a (r1F a o)):=by
 unfold rdByt
 split
 ·rename_i i b h
  have:=(bytGo_le _ _ _ _ _ _ h).1
  exact ⟨by dsimp only; omega,fun _ => by simp⟩
 ·refine ⟨by rw [fail_nx]; exact Nat.le_refl _,fun he => absurd he (Rd.fail_e _ _ _ (by decide))⟩
 ·refine ⟨by rw [fail_nx]; exact Nat.le_refl _,fun he => absurd he (Rd.fail_e _ _ _ (by decide))⟩
theorem mid_num (s : ByteArray) (a o : Nat) : MidOK s a (rdNum s.data.toList s a (r1F a o)):=by
 unfold rdNum
 dsimp only
 have h1 : a ≤ (if s.data.toList[a]? = some 45 then a + 1 else a):=by split <;> omega
 obtain ⟨f,hf⟩ : ∃ f,f = (if s.data.toList[a]? = some 45 then a + 1 else a):=⟨_,rfl⟩
 rw [← hf] at h1 ⊢
 have h2:=runI_ge s.data.toList f digC
 obtain ⟨tq,htq⟩ : ∃ tq,tq = runI s.data.toList f digC:=⟨_,rfl⟩
 rw [← htq] at h2 ⊢
 have h3:=runI_ge s.data.toList (tq + 1) digC
 split
 ·exact ⟨by rw [fail_nx]; exact Nat.le_refl _,fun he => absurd he (Rd.fail_e _ _ _ (by decide))⟩
 ·obtain ⟨q,hq⟩ : ∃ q,q = (if s.data.toList[tq]? = some 46 ∧ (s.data.toList[tq + 1]?.any digC) = true then (runI s.data.toList (tq + 1) digC,true,false) else if s.data.toList[tq]? = some 100 then (tq + 1,true,true) else (tq,false,false)):=⟨_,rfl⟩
  rw [← hq]
  have h4 : tq ≤ q.1:=by
   rw [hq]
   split
   ·dsimp only; omega
   ·split <;> dsimp only <;> omega
  refine ⟨?_,fun _ => by simp⟩
  dsimp only
  split
  ·rw [fail_nx]; dsimp only; omega
  ·dsimp only; omega
theorem fin_ok {s : ByteArray} {a : Nat} {r2 : Rd} (h : r2.Ok s) (hm : MidOK s a r2) : (finF s a r2).Ok s:=by
 unfold finF
 split
 ·rename_i he
  exact ⟨fun hk => absurd hk (hm.2 he),h.nx,h.p⟩
 ·exact h
end Go.Proofs.YtkljbfaemahchaaGreatDoor
