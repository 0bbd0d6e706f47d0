/-
  A map of slices of texts that a call has made itself: what it holds at each key, the look-up with the way back to a store, the keys. Conditions: laws on worlds, no function walked.
-/
import Derived.Test.YtkljbfaemahchaaGreatDoorRT5Mrg
import Derived.Maps.OwnOps
import Derived.Maps.AppendAt
import Derived.Maps.Ext
import Derived.Maps.Range
import Derived.Sort.KeysCollected
import Derived.Test.YtkljbfaemahchaaGreatDoorRT22Mrg
import Derived.Deep.RegionHeld3
import Derived.Carry
namespace Go.Proofs.YtkljbfaemahchaaGreatDoor
set_option linter.unusedVariables false
set_option linter.unusedSimpArgs false
section
open Go Go.RowKit Go.Shelf Go.ChangeMaps Go.MapKept
open Go.WideElems (Fit rd rg pl rd_val rd_key rg_of)
open Go.Maps (Keyed)
def OwnS (w : World) (base : Nat) (v : Value) (zs : List ByteArray) : Prop:=w.ownsRow base 9 1 v zs.length (zs.map Value.string)
theorem OwnS_nil (w : World) (base : Nat) : OwnS w base (.slice none 0 0) []:=World.ownsRow_nil _ _ _ _
theorem OwnS.kept {w w' : World} {base : Nat} {v : Value} {zs : List ByteArray} {row : Option Nat} (h : OwnS w base v zs) (hg : w.grownBy w' row) (hne : v.ownBlock = none ∨ v.ownBlock ≠ row) : OwnS w' base v zs:=World.ownsRow.kept h hg hne
def rdS (w : World) : Value → List ByteArray
 | .slice (some a) n _ => (List.range n).map fun i => match w.cell? (a.add i) with
   | some (.string s) => s
   | _ => ⟨#[]⟩
 | _ => []
theorem OwnS.rd {w : World} {base : Nat} {v : Value} {zs : List ByteArray} (h : OwnS w base v zs) : rdS w v = zs:=by
 have hc:=fun g => World.ownsRow.cells (g:=g) h
 rcases h.2 with ⟨rfl,h0⟩ | ⟨g,cap,cur,rfl,_,_,_⟩
 ·rw [List.length_eq_zero_iff.1 h0]; rfl
 ·unfold rdS
  refine List.ext_getElem (by simp) fun i h1 h2 => ?_
  have:=hc g rfl i (.string zs[i]) (by simp [h2])
  simp only [List.getElem_map,List.getElem_range]
  rw [this]
def Rs (w : World) (v : Value) : Option (DataW (List ByteArray) × List MemPlace):=some (.held (rdS w v),[])
def Grp (w : World) (base b n : Nat) (D : DataW (List ByteArray)) : Prop :=
 ∃ es clock,w.heap[b]? = some (.map es clock) ∧ Fit Tryz.prog 9 (Rs w) es clock ∧ es.size ≤ n ∧ D = .map ((es.toList.map (rg Tryz.prog 9 (Rs w))).foldr DataW.insert []) ∧ b < base ∧
   (∀ x ∈ es.toList,OwnS w base x.val (rdS w x.val)) ∧
   ∀ x ∈ es.toList,∀ y ∈ es.toList,x.key ≠ y.key → x.val.ownBlock = none ∨ x.val.ownBlock ≠ y.val.ownBlock
theorem keyK : Keyed Tryz.prog 9:=Maps.string_keyed Tryz.underlying9
theorem keyS {s : ByteArray} (h : s.size ≤ maxLen) : keyOf Tryz.prog 9 (.string s) = some (.string s.data.toList):=by
 simp [keyOf,Tryz.underlying9,mapKey,h]
theorem Grp_made (w : World) : Grp (w.alloc (.map #[] 0)) (w.heap.size + 1) w.heap.size 0 (.map []) :=
 ⟨#[],0,(MapKept.heap_alloc w _).1,⟨by simp,stamped_empty 0,by simp⟩,Nat.le_refl _,rfl,Nat.lt_succ_self _,by simp,by simp⟩
theorem Grp.kept {w w' : World} {base b n : Nat} {D : DataW (List ByteArray)} {row : Option Nat} (h : Grp w base b n D) (hg : w.grownBy w' row) (hr : ∀ r,row = some r → b ≠ r ∧ (r < base)) : Grp w' base b n D:=by
 obtain ⟨es,clock,hb,F,hs,hD,hbb,how,hap⟩:=h
 have hlt : b < w.heap.size:=(Array.getElem?_eq_some_iff.1 hb).1
 have how' : ∀ x ∈ es.toList,OwnS w' base x.val (rdS w x.val):=fun x hx => (how x hx).kept hg (by
  cases hu : x.val.ownBlock with
  | none => exact .inl rfl
  | some g =>
    refine .inr fun e => ?_
    have:=(World.ownsRow.lt (how x hx) g hu).1
    have:=(hr g e.symm).2
    omega)
 have hR : ∀ x ∈ es.toList,∀ z,Rs w x.val = some z → Rs w' x.val = some z:=fun x hx z hz => by
  rw [← hz]; unfold Rs; rw [(how' x hx).rd]
 obtain ⟨F',hmap,_⟩:=F.stay hR
 refine ⟨es,clock,(hg.block b hlt (fun e => (hr b e.symm).1 rfl)).trans hb,F',hs,?_,hbb,fun x hx => ?_,hap⟩
 ·rw [hmap]; exact hD
 ·rw [(how' x hx).rd]; exact how' x hx
theorem Grp.owns {w : World} {base b n : Nat} {D : DataW (List ByteArray)} (h : Grp w base b n D) : w.ownsMap Tryz.prog 9 (Rs w) b n D:=by
 obtain ⟨es,clock,hb,F,hs,hD,_⟩:=h
 exact ⟨es,clock,hb,F,hs,hD⟩
def GrpBack (w : World) (base b n : Nat) (D : DataW (List ByteArray)) (key : ByteArray) (v : Value) : Prop :=
 ∀ (w1 : World) (v' : Value) (zs' : List ByteArray),w.grownBy w1 v.ownBlock → OwnS w1 base v' zs' → (v'.ownBlock = v.ownBlock ∨ ∃ g,v'.ownBlock = some g ∧ w.heap.size ≤ g) →
   ∃ w2,(Instr.mapUpdate 107 (.map (some b)) (.string key) v').run Tryz.prog w1 = .ok () w2 ∧ Grp w2 base b (n + 1) (D.put (.string key.data.toList) (.held zs')) ∧ w1.grownBy w2 (some b)
theorem grp_back {w : World} {base b n : Nat} {es : Array MapEntry} {clock : Nat} {key : ByteArray} (hk : key.size ≤ maxLen) (hb : w.heap[b]? = some (.map es clock)) (F : Fit Tryz.prog 9 (Rs w) es clock)
 (hs : es.size ≤ n) (hn : n < maxLen) (hbb : b < base) (how : ∀ x ∈ es.toList,OwnS w base x.val (rdS w x.val))
 (hap : ∀ x ∈ es.toList,∀ y ∈ es.toList,x.key ≠ y.key → x.val.ownBlock = none ∨ x.val.ownBlock ≠ y.val.ownBlock)
 {v : Value} (hv : ∀ x ∈ es.toList,x.key ≠ .string key → x.val.ownBlock = none ∨ x.val.ownBlock ≠ v.ownBlock) (hvb : v.ownBlock ≠ some b) :
 GrpBack w base b n (.map ((es.toList.map (rg Tryz.prog 9 (Rs w))).foldr DataW.insert [])) key v:=by
 intro w1 v' zs' hg hown hloc
 have hlt : b < w.heap.size:=(Array.getElem?_eq_some_iff.1 hb).1
 have hb1 : w1.heap[b]? = some (.map es clock):=(hg.block b hlt (fun e => hvb e.symm)).trans hb
 have old : ∀ x ∈ es.toList,x.key ≠ .string key → OwnS w1 base x.val (rdS w x.val):=fun x hx hne => (how x hx).kept hg (hv x hx hne)
 have hR : ∀ x ∈ es.toList,x.key ≠ .string key → ∀ z,Rs w x.val = some z → Rs w1 x.val = some z:=fun x hx hne z hz => by
  rw [← hz]; unfold Rs; rw [(old x hx hne).rd]
 obtain ⟨es',clock',hrun,F',hput,_,_,hwho⟩:=Maps.fit_store (R':=Rs w1) keyK Tryz.underlying107 hb1 F (Nat.lt_of_le_of_lt hs hn) hR (keyS hk) (show Rs w1 v' = some (.held zs',[]) by unfold Rs; rw [hown.rd])
 have hg2 : w1.grownBy (setBlock w1 b (.map es' clock')) (some b):=⟨rfl,rfl,rfl,by simp [setBlock],fun i _ hi => heap_setBlock_other hb1 _ (fun e1 => hi (by rw [e1]))⟩
 have own1 : ∀ x ∈ es'.toList,OwnS w1 base x.val (rdS w1 x.val):=fun x hx => by
  rcases hwho x hx with ⟨hx0,hne⟩ | ⟨_,hval⟩
  ·have h:=old x hx0 hne
   rw [h.rd]; exact h
  ·rw [hval,hown.rd]; exact hown
 have ne2 : ∀ {u : Value} {ys : List ByteArray},OwnS w1 base u ys → u.ownBlock = none ∨ u.ownBlock ≠ some b:=fun {u ys} ho => by
  cases hu : u.ownBlock with
  | none => exact .inl rfl
  | some g =>
    refine .inr fun e1 => ?_
    have:=(World.ownsRow.lt ho g hu).1
    cases e1
    omega
 have own2 : ∀ x ∈ es'.toList,OwnS (setBlock w1 b (.map es' clock')) base x.val (rdS w1 x.val):=fun x hx => (own1 x hx).kept hg2 (ne2 (own1 x hx))
 obtain ⟨F2,hmap2,_⟩:=F'.stay (R':=Rs (setBlock w1 b (.map es' clock'))) fun x hx z hz => by
  rw [← hz]; unfold Rs; rw [(own2 x hx).rd]
 have apart : ∀ x ∈ es.toList,x.key ≠ .string key → x.val.ownBlock = none ∨ x.val.ownBlock ≠ v'.ownBlock:=fun x hx hne => by
  rcases hloc with h1 | ⟨g,h1,h2⟩
  ·rw [h1]; exact hv x hx hne
  ·cases hu : x.val.ownBlock with
   | none => exact .inl rfl
   | some gx =>
     refine .inr fun e1 => ?_
     have:=(World.ownsRow.lt (how x hx) gx hu).2
     rw [h1] at e1
     cases e1
     omega
 refine ⟨_,hrun,⟨es',clock',heap_setBlock_same hb1 _,F2,?_,?_,hbb,fun x hx => ?_,fun x hx y hy hne => ?_⟩,hg2⟩
 ·have e1 : es'.size = ((es'.toList.map (rg Tryz.prog 9 (Rs w1))).foldr DataW.insert []).length:=by rw [length_sorted]; simp
  rw [e1,hput]
  unfold putKey
  rw [length_insert]
  have e2:=List.length_filter_le (notKey (.string key.data.toList)) ((es.toList.map (rg Tryz.prog 9 (Rs w))).foldr DataW.insert [])
  rw [length_sorted] at e2
  simp at e2
  omega
 ·rw [hmap2,DataW.put_eq,hput]
 ·rw [(own2 x hx).rd]; exact own2 x hx
 ·rcases hwho x hx with ⟨hx0,hxk⟩ | ⟨hxk,hxv⟩ <;> rcases hwho y hy with ⟨hy0,hyk⟩ | ⟨hyk,hyv⟩
  ·exact hap x hx0 y hy0 hne
  ·rw [hyv]; exact apart x hx0 hxk
  ·rw [hxv]
   rcases apart y hy0 hyk with h | h
   ·cases hu : v'.ownBlock with
    | none => exact .inl rfl
    | some g => exact .inr (by rw [h]; simp)
   ·exact .inr fun e => h e.symm
  ·exact absurd (hxk.trans hyk.symm) hne
theorem zeroSl (w : World) : (zeroValue 37).run Tryz.prog w = .ok (.slice none 0 0) w:=by
 have h : (Tryz.prog.info? 37).map (·.zero) = some (some (.slice none 0 0)):=by kernel_rfl
 cases hi : Tryz.prog.info? 37 with
 | none => rw [hi] at h; cases h
 | some i =>
   rw [hi] at h
   have hz : i.zero = some (.slice none 0 0):=by simpa using h
   simp [zeroValue,typeInfo,hi,hz]
theorem Grp.at {w : World} {base b n : Nat} {D : DataW (List ByteArray)} (h : Grp w base b n D) (hn : n < maxLen) {key : ByteArray} (hk : key.size ≤ maxLen) :
 ∃ v zs,(∀ W : World,W.heap[b]? = w.heap[b]? → (Instr.lookup 107 (.map (some b)) (.string key) false).run Tryz.prog W = .ok v W) ∧ D.atKey (.string key.data.toList) (.held []) = .held zs ∧ OwnS w base v zs ∧ GrpBack w base b n D key v:=by
 obtain ⟨es,clock,hb,F,hs,rfl,hbb,how,hap⟩:=h
 have hkeys:=((stamped_iff es clock).1 F.stamped).2.2
 rcases Maps.fit_look false keyK Tryz.underlying107 (zeroSl w) hb F (keyS hk) with ⟨hrun,hno,hat⟩ | ⟨e0,y,hm0,h3,hrun,hR,hat,_⟩
 ·refine ⟨.slice none 0 0,[],fun W hW => ?_,hat _,OwnS_nil _ _,grp_back hk hb F hs hn hbb how hap (fun x hx _ => ?_) (by simp [Value.ownBlock])⟩
  ·rcases Maps.fit_look false keyK Tryz.underlying107 (zeroSl W) (hW.trans hb) F (keyS hk) with ⟨hrun',_,_⟩ | ⟨e1,_,hm1,h31,_⟩
   ·exact hrun'
   ·exact absurd h31 (hno e1 hm1)
  ·cases x.val.ownBlock <;> simp [Value.ownBlock]
 ·refine ⟨e0.val,rdS w e0.val,fun W hW => ?_,?_,how e0 hm0,grp_back hk hb F hs hn hbb how hap (fun x hx hne => hap x hx e0 hm0 (by rw [h3]; exact hne)) (fun e1 => ?_)⟩
  ·rcases Maps.fit_look false keyK Tryz.underlying107 (zeroSl W) (hW.trans hb) F (keyS hk) with ⟨_,hno,_⟩ | ⟨e1,_,hm1,h31,hrun',_⟩
   ·exact absurd h3 (hno e0 hm0)
   ·rw [entry_eq_of_key hkeys hm0 hm1 (h3.trans h31.symm)]
    exact hrun'
  ·rw [hat]
   unfold Rs at hR
   cases hR
   rfl
  ·have:=(World.ownsRow.lt (how e0 hm0) b e1).1
   omega
theorem Grp.is {w : World} {base b n : Nat} {D : DataW (List ByteArray)} (h : Grp w base b n D) : Maps.IsMap D:=by
 obtain ⟨es,clock,_,_,_,hD,_⟩:=h
 exact ⟨_,hD⟩
theorem Grp.mono {w : World} {base b n n' : Nat} {D : DataW (List ByteArray)} (h : Grp w base b n D) (hn : n ≤ n') : Grp w base b n' D:=by
 obtain ⟨es,clock,hb,F,hs,hD,r⟩:=h
 exact ⟨es,clock,hb,F,Nat.le_trans hs hn,hD,r⟩
theorem keyLit (s : List UInt8) (h : s.length ≤ maxLen) : WideAt.IsKeyLit (.string s):=keyK.key (keyS (s:=⟨s.toArray⟩) (by rw [ByteArray.size]; simpa using h))
end
section
open Go Go.RowKit Go.Shelf
attribute [local go_sem ↓] Go.wp_at_zero Go.wp_at_succ
theorem ldRowG {P : Program} {w : World} {N : Nat} {vs : List Value} {t : TypeId} {fr : Nat × Nat} (h : w.heap[N]? = some (.cells vs.toArray t fr)) : (loadCellsFrom ⟨N,0,none⟩ 0 vs.length #[]).run P w = .ok vs.toArray w:=by
 have:=run_loadCells_list (P:=P) w ⟨N,0,none⟩ vs (fun j v hv => by
  rw [show (⟨N,0,none⟩ : Addr).add j = ⟨N,0 + j,none⟩ by unfold Addr.add; split <;> simp_all,Nat.zero_add,cellOf h j]; simpa using hv)
 exact this
theorem step_append_runG {P : Program} {w : World} {ops : Array Oper} {o : Oper} {a : Act} {K' : Act → World → Prop} {Q : Exit → Act → World → Prop} {E : Prop} (hgd : o.guard = none) (s x : Operand) (t : TypeId)
 (ho : o.op = .call { callee:=.builtin .append,args:=#[s,x],argTypes:=#[t,t] }) (vs vx v' : Value) (w' : World) (hs : a.eval s = vs) (hx : a.eval x = vx)
 (hrun : (Builtin.append_ #[t,t] o.type #[vs,vx]).run P w = .ok v' w') (h : K' (a.put o.dst v') w') :
 if Region.wanted o (yielded ops a.tmps) = true then Oper.wp P o a w K' Q else E:=by
 rw [if_pos (by simp [Region.wanted,hgd])]
 unfold Oper.wp execOp
 simp only [ho,resolve,invoke,builtin,Sem.run_bind,Sem.run_pure,Result.andThen_ok,List.map_toArray,List.map_cons,List.map_nil,hs,hx,hrun]
 exact h
theorem wpList_mapUpdate_run {P : Program} (w : World) {ops : Array Oper} {rest : List Oper} {o : Oper} {a : Act} {Q : Exit → Act → World → Prop} (hg : o.guard = none) (m x v : Operand) (t : TypeId) (hop : o.op = Op.mapUpdate t m x v)
 (b : Nat) (key val : Value) (hm : a.eval m = .map (some b)) (hx : a.eval x = key) (hv : a.eval v = val) (w' : World) (hrun : (Instr.mapUpdate t (.map (some b)) key val).run P w = .ok () w')
 (hK : wpList P ops Q rest (a.put o.dst undef) w') : wpList P ops Q (o :: rest) a w:=by
 refine wpList_plain hg fun K' hK' => ?_
 unfold Oper.wp
 simp [execOp,hop,hm,hx,hv,hrun,Result.andThen]
 exact hK' _ _ hK
structure GrpOf (D : DataW (List ByteArray)) (l : List Ef) : Prop where
 at_ : ∀ nm : ByteArray,D.atKey (.string nm.data.toList) (.held []) = .held (txtsL l nm)
 has_ : ∀ nm : List UInt8,Maps.has D (.string nm) = l.any fun x => decide (x.nm.data.toList = nm)
theorem GrpOf.nil : GrpOf (.map []) []:=⟨fun nm => rfl,fun nm => rfl⟩
theorem GrpOf.put {D : DataW (List ByteArray)} {l : List Ef} {x : Ef} {zs : List ByteArray} (h : GrpOf D l) (hD : Maps.IsMap D) (hx : x.nm.size ≤ maxLen) (hz : D.atKey (.string x.nm.data.toList) (.held []) = .held zs) :
 GrpOf (D.put (.string x.nm.data.toList) (.held (zs ++ [effT x]))) (l ++ [x]):=by
 have hlit : WideAt.IsKeyLit (.string x.nm.data.toList):=keyLit _ (by rw [show x.nm.data.toList.length = x.nm.size from Array.length_toList]; exact hx)
 have hzs : zs = txtsL l x.nm:=by
  have:=h.at_ x.nm
  rw [hz] at this
  exact DataW.held.inj this
 refine ⟨fun nm => ?_,fun nm => ?_⟩
 ·rw [txtsL_append,txtsL_one]
  by_cases e : x.nm.data.toList = nm.data.toList
  ·rw [← e,Maps.atKey_put_same hD hlit,if_pos rfl,hzs]
   have : x.nm = nm:=ByteArray.ext (Array.ext' e)
   rw [this]
  ·rw [Maps.atKey_put_other (fun h => e (Lit.string.inj h).symm),if_neg e,List.append_nil,h.at_]
 ·rw [List.any_append]
  by_cases e : x.nm.data.toList = nm
  ·subst e
   rw [Maps.has_put_same hD hlit]
   simp
  ·rw [Maps.has_put_other (fun h => e (Lit.string.inj h).symm),h.has_]
   simp [e]
section
attribute [-go_sem] loadCellsFrom storeCells
attribute [local go_sem] lcf0 lcf1 lcf2 lcf3 lcf4 lcf5 lcf6 lcf7 stc0 stc1
set_option maxRecDepth 100000 in
set_option maxHeartbeats 16000000 in
theorem grouped_call (a : Option Addr) (n c : Nat) (l : List Ef) (w : World) (hl : IsRow efK (· < w.heap.size) w a n c l) (hT : Tabs w) (hZ : ZTab w) :
 Calls Tryz.prog 66 #[.slice a n c] w fun e w' => e = .returned (.map (some w.heap.size)) ∧ ∃ D,Grp w' (w.heap.size + 1) w.heap.size n D ∧ GrpOf D l ∧ Below w.heap.size w w':=by
 obtain ⟨ti,hi,hz0,hz1,hz2⟩:=info_parts infoStr
 have hbig : n * 248 ≤ 140737488351232:=hl.big
 have HL:=hid hl.len
 have HD:=hid hl
 have HT:=hid hT
 have HZ:=hid hZ
 clear hl hT hZ
 obtain ⟨B,hB⟩ : ∃ B,B = w.heap.size:=⟨_,rfl⟩
 have HB:=hid hB
 obtain ⟨wm,hwm⟩ : ∃ wm,wm = w.alloc (.map #[] 0):=⟨_,rfl⟩
 have HWM:=hid hwm
 rw [← hB]
 have hg0 : Grp wm (B + 1) B 0 (.map []):=by rw [hwm,hB]; exact Grp_made w
 have hb0 : Below B w wm:=by rw [hwm,hB]; exact (Below.refl _ w).alloc (Nat.le_refl _) _
 have H0:=hid (And.intro hg0 hb0)
 clear hB hwm hg0 hb0
 go_enter Tryz.func66,Tryz.ntmps66
 have hmm:=@run_makeMap Tryz.prog
 go_upto_region 2 with (fail)
 clear hmm
 rw [← HWM.out,← HB.out]
 go_wp2
 go_loopw [9] (fun iv wr => ∃ (k : Nat) (D : DataW (List ByteArray)),k ≤ n ∧ iv = .int .i64 k ∧ Grp wr (B + 1) B k D ∧ GrpOf D (l.take k) ∧ Below B w wr) (fun i _ => n - (intOf i).toNat)
 case atStart => exact ⟨0,_,Nat.zero_le _,rfl,H0.out.1,GrpOf.nil,H0.out.2⟩
 case round =>
  obtain ⟨k,D,hk,rfl,hgrp,hof,hbr⟩:=hrel
  have HBR:=hid hbr
  have HGR:=hid (And.intro hgrp hof)
  clear hgrp hof
  by_cases hlt : k < n
  ·have hkl : k < l.length:=by have:=HL.out; omega
   obtain ⟨b,o,rfl,hb,hx⟩:=HD.out.slot (show 0 < n by omega)
   obtain ⟨x,hxa,hxi⟩:=hx k hkl
   have hsz : B ≤ wr.heap.size:=by have:=hbr.size; have:=HB.out; omega
   have hld:=ld_ef (o:=o + k * 18) (hxa.same (hbr.block b (HB.out ▸ hb)))
   have hst:=fun z hz => st_ef wr z hz x
   have hln:=ldn_ef wr x
   dsimp only [EfC.cs] at hld hst hln
   have hlt' : (k : Int) < (n : Int):=by omega
   have hk0 : (0 : Int) ≤ (k : Int):=by omega
   have hxw : IsEf (· < wr.heap.size) wr x l[k]:=hxi.same fun b' q => ⟨by have:=HB.out; omega,hbr.block b' (by have:=HB.out; omega)⟩
   obtain ⟨xd,hxd⟩ : ∃ xd,xd = l[k]:=⟨_,rfl⟩
   rw [← hxd] at hxw
   have hnms : x.nm.size ≤ maxLen:=by have:=hxw.nmz; unfold maxLen; omega
   have hnme : x.nm = xd.nm:=hxw.nm
   obtain ⟨v,zs,hlook,hat,hown,hback⟩:=HGR.out.1.at (by unfold maxLen; omega) hnms
   have hzl : zs.length ≤ k:=by
    have:=HGR.out.2.at_ x.nm
    rw [hat] at this
    have e:=DataW.held.inj this
    rw [e]
    refine Nat.le_trans (txtsL_le _ _) ?_
    rw [List.length_take]; omega
   obtain ⟨T,hTe⟩ : ∃ T,T = wr.heap.size:=⟨_,rfl⟩
   obtain ⟨V,hV⟩ : ∃ V,V = wr.alloc (efObj x):=⟨_,rfl⟩
   have bV : Below wr.heap.size wr V:=by rw [hV]; exact (Below.refl _ wr).alloc (Nat.le_refl _) _
   have tV : V.heap[T]? = some (efObj x):=by rw [hV,hTe]; exact heap_alloc_new wr _
   have hne : ∀ j,j ≤ B → some j ≠ v.ownBlock:=fun j hj e => by have:=(World.ownsRow.lt hown j e.symm).1; omega
   have hneT : some T ≠ v.ownBlock:=fun e => by have:=(World.ownsRow.lt hown T e.symm).2; omega
   have hlB : B < wr.heap.size:=by
    obtain ⟨es,ck,h,_⟩:=HGR.out.1
    exact (Array.getElem?_eq_some_iff.1 h).1
   have HCL : Hid (∀ W,(wr.grownBy W v.ownBlock ∧ W.heap[T]? = some (efObj x)) → W.cell? ⟨T,1,none⟩ = some (.string x.nm) ∧ (loadCellsFrom ⟨T,0,none⟩ 0 18 #[]).run Tryz.prog W = .ok (EfC.cs x).toArray W ∧
    (Instr.lookup 107 (.map (some B)) (.string x.nm) false).run Tryz.prog W = .ok v W):=hid fun W h =>
    ⟨cellOf h.2 1,ldRowG (P:=Tryz.prog) (vs:=EfC.cs x) h.2,hlook W (h.1.block B hlB (hne B (Nat.le_refl _)))⟩
   have gV : wr.grownBy V.drew v.ownBlock ∧ V.drew.heap[T]? = some (efObj x):=⟨⟨bV.os,bV.tape,bV.output,bV.size,fun j hj _ => bV.block j hj⟩,tV⟩
   obtain ⟨tz,htz⟩ : ∃ tz,tz = effT xd:=⟨_,rfl⟩
   have bW : Below B w V.drew:=(hbr.trans (bV.mono hsz)).drew
   have HTX:=hid (show Calls Tryz.prog 73 #[x.v] V.drew fun e w' => e = .returned (.string tz) ∧ Below V.drew.heap.size V.drew w' from
    htz ▸ rText_call x xd V.drew (hxw.same fun b q => ⟨Nat.lt_of_lt_of_le q bV.size,bV.block b q⟩) (HT.out.below (HB.out ▸ bW)) (HZ.out.below (HB.out ▸ bW)))
   have hcap1 : zs.length + 1 ≤ maxLen:=by unfold maxLen; omega
   have hcap2 : (zs.length + 1) * 16 ≤ 140737488355328:=by omega
   have HOWN:=hid hown
   have HBACK:=hid hback
   have HNE:=hid (And.intro hne hneT)
   have HBV:=hid (And.intro bV tV)
   have HX:=hid (And.intro (show ∀ h : k < l.length,l[k] = xd from fun _ => hxd.symm) (And.intro htz (And.intro hnme (And.intro hnms hat))))
   have HTE:=hid hTe
   have HKL:=hid hkl
   have HGV:=hid gV
   have HSZ:=hid hsz
   clear hlook hat hown hback hne hneT bV tV hxd htz hnme hnms hTe hkl gV hx hxa hxi hxw hb hbr bW hlB hsz hzl
   dsimp only [efObj,EfC.v,EfC.cs] at HCL HTX hV
   have HV:=hid hV
   clear hV
   go_upto_region 5 with (fail)
   rw [← HV.out,← HTE.out]
   clear hld hst hln
   refine wp_region_split 11 (fun W => wr.grownBy W v.ownBlock ∧ W.heap[T]? = some (.cells (EfC.cs x).toArray 105)) (by kernel_rfl) (by kernel_rfl) (by kernel_rfl) (by decide) (HGV.out) (fun hS => ?_)
   simp only [List.take_succ_cons,List.take_zero,List.drop_succ_cons,List.drop_zero]
   refine tkQ 0 (v:=?_) ?_ hS ?_; rotate_left; · intro w' hw'; have hcells:=HCL.out w' hw'; go_simp; (try with_reducible rfl)
   simp only [Act.put,pt1,pt2,pt3,pt4,pt5,pt6]
   refine tkQ 1 (v:=?_) ?_ hS ?_; rotate_left; · intro w' hw'; have hcells:=HCL.out w' hw'; go_simp; (try with_reducible rfl)
   simp only [Act.put,pt1,pt2,pt3,pt4,pt5,pt6]
   refine tkQ 2 (v:=?_) ?_ hS ?_; rotate_left; · intro w' hw'; have hcells:=HCL.out w' hw'; go_simp; (try with_reducible rfl)
   simp only [Act.put,pt1,pt2,pt3,pt4,pt5,pt6]
   refine tkQ 3 (v:=?_) ?_ hS ?_; rotate_left; · intro w' hw'; have hcells:=HCL.out w' hw'; go_simp; (try with_reducible rfl)
   simp only [Act.put,pt1,pt2,pt3,pt4,pt5,pt6]
   refine tkQ 4 (v:=?_) ?_ hS ?_; rotate_left; · intro w' hw'; have hcells:=HCL.out w' hw'; go_simp; (try with_reducible rfl)
   simp only [Act.put,pt1,pt2,pt3,pt4,pt5,pt6]
   refine tkQ 5 (v:=?_) ?_ hS ?_; rotate_left; · intro w' hw'; have hcells:=HCL.out w' hw'; go_simp; (try with_reducible rfl)
   simp only [Act.put,pt1,pt2,pt3,pt4,pt5,pt6]
   refine tkQ 6 (v:=?_) ?_ hS ?_; rotate_left; · intro w' hw'; have hcells:=HCL.out w' hw'; go_simp; (try with_reducible rfl)
   simp only [Act.put,pt1,pt2,pt3,pt4,pt5,pt6]
   refine tkQ 7 (v:=?_) ?_ hS ?_; rotate_left; · intro w' hw'; have hcells:=HCL.out w' hw'; go_simp; (try with_reducible rfl)
   simp only [Act.put,pt1,pt2,pt3,pt4,pt5,pt6]
   refine wpAnyH_ready (rs:=[8]) (by kernel_rfl) (by simp) ?_
   refine arQ fun K hK => ?_
   go_simp; go_at_call 73; refine HTX.out.mono ?_
   rintro e W10 ⟨rfl,hb10⟩
   refine hK.out _ _ (⟨HGV.out.1.trans ⟨hb10.os,hb10.tape,hb10.output,hb10.size,fun j hj _ => hb10.block j hj⟩,heapExt hb10 HGV.out.2⟩) (fun hS => ?_)
   clear hK K
   (try simp only [Act.put,pt1,pt2,pt3,pt4,pt5,pt6])
   refine wpAnyH_ready (rs:=[9]) (by kernel_rfl) (by simp) ?_
   refine arQ fun K hK => ?_
   have hS10:=hid hS
   go_simp
   refine hK.out _ _ (⟨hS10.out.1.trans (World.grownBy_alloc _ _ _),heapAlloc _ hS10.out.2⟩) (fun hS => ?_)
   clear hK K
   (try simp only [Act.put,pt1,pt2,pt3,pt4,pt5,pt6])
   refine wpAnyH_ready (rs:=[10]) (by kernel_rfl) (by simp) ?_
   refine arQ fun K hK => ?_
   have hS11:=hid hS
   have hown11 : (W10.alloc (.cells #[.string tz] 9)).ownsRow (B + 1) 9 1 v zs.length (zs.map Value.string):=(ownExt (ownExt HOWN.out (HBV.out.1.drew.trans (hb10.mono HBV.out.1.size))) (Below.refl _ _)).alloc _
   obtain ⟨v',W12,hrun12,hown12,hgrow12,hnil12,hloc12⟩:=run_append_own_at (P:=Tryz.prog) (W10.alloc (.cells #[.string tz] 9)) (B + 1) 37 37 9 ti _ 1 16 Tryz.underlying37 hi hz0 hz1 hz2 rfl (by omega) v zs.length _ hown11 ⟨W10.heap.size,0,none⟩ 1 1 [.string tz] (by rfl) (cell_one_new _ _ _) (by simp [Value.oneCell']) hcap1 hcap2 (by have h1:=HSZ.out; have h2:=HBV.out.1.size; have h3:=hb10.size; simp only [World.size_drew,World.size_alloc] at h3 ⊢; omega)
   refine step_append_runG (by rfl) _ _ _ (by rfl) v (.slice (some ⟨W10.heap.size,0,none⟩) 1 1) v' W12 (by rfl) (by rfl) hrun12 ?_
   refine hK.out _ _ (⟨hS11.out.1.trans hgrow12,(hgrow12.block T (ltOf hS11.out.2) HNE.out.2).trans hS11.out.2⟩) (fun hS => ?_)
   clear hK K
   (try simp only [Act.put,pt1,pt2,pt3,pt4,pt5,pt6])
   refine wpAnyH_done (by kernel_rfl) ?_ _
   (try dsimp only)
   obtain ⟨W13,hrun13,hG13,hg13⟩:=HBACK.out W12 v' (zs ++ [tz]) (World.grownBy.trans (HGV.out.1.trans ⟨hb10.os,hb10.tape,hb10.output,hb10.size,fun j hj _ => hb10.block j hj⟩) ((World.grownBy_alloc _ _ _).trans hgrow12)) (by unfold OwnS; rw [List.length_append,List.map_append]; exact hown12) (by rcases hloc12 with h | h; exact .inl h; exact .inr ⟨_,h,by have h1:=hb10.size; have h2:=HBV.out.1.size; simp only [World.size_drew,World.size_alloc] at h1 ⊢; omega⟩)
   clear HCL
   refine wpList_mapUpdate_run _ (by rfl) _ _ _ _ (by rfl) B (.string x.nm) v' (by rfl) (by rfl) (by rfl) W13 hrun13 ?_
   go_wp2
   have hg12 : wr.grownBy W12 v.ownBlock:=World.grownBy.trans (HGV.out.1.trans ⟨hb10.os,hb10.tape,hb10.output,hb10.size,fun j hj _ => hb10.block j hj⟩) ((World.grownBy_alloc _ _ _).trans hgrow12)
   refine ⟨⟨k + 1,D.put (.string x.nm.data.toList) (.held (zs ++ [tz])),by omega,by go_num,hG13,?_,?_⟩,by simp [intOf]; omega⟩
   ·rw [List.take_succ_eq_append_getElem HKL.out,HX.out.1 HKL.out,HX.out.2.1,HX.out.2.2.1]
    exact GrpOf.put HGR.out.2 HGR.out.1.is (by rw [← HX.out.2.2.1]; exact HX.out.2.2.2.1) (by rw [← HX.out.2.2.1]; exact HX.out.2.2.2.2)
   ·have hs12:=hg12.size
    exact (HBR.out.grown hg12 HSZ.out (fun j e => by have:=(World.ownsRow.lt HOWN.out j e).1; omega)).grown hg13 (by have:=HSZ.out; omega) (fun j e => by cases e; exact Nat.le_refl _)
  ·obtain rfl : k = n:=by omega
   clear hlt
   rw [List.take_of_length_le (by have:=HL.out; omega)] at HGR
   have hnq : ¬ (k : Int) < (k : Int):=by omega
   go_wp2
   go_ret
   exact ⟨rfl,D,HGR.out.1,HGR.out.2,HBR.out⟩
end
end
end Go.Proofs.YtkljbfaemahchaaGreatDoor
