/-
  Plain: the law's own writing of an entry is the journal's. No program in sight.
-/
import Derived.Test.YtaofolgaiipcjaaGreatDoorJE28Mrg
namespace Go.Proofs.YtaofolgaiipcjaaGreatDoor
set_option linter.unusedVariables false
set_option linter.unusedSimpArgs false
open Go Go.RowKit Go.Shelf
theorem putF_err (n : Int) : (putF n).2 = 0 ∨ (putF n).2 = 2:=by
 unfold putF
 split
 ·exact .inr rfl
 ·exact .inl rfl
theorem putF_size {n : Nat} (h : n ≤ mostN) : (putF n).2 = 0:=by
 have h' : n ≤ 4611686018427387903:=h
 unfold putF
 rw [if_neg (by show ¬ ((n : Int) < 0 ∨ ((4611686018427387903 : Nat) : Int) < (n : Int)); omega)]
theorem num_ok {w : JW} {n : Int} (h : (putF n).2 = 0) : w.num n = ⟨w.b ++ (putF n).1.data.toList,w.e⟩:=by
 unfold JW.num JW.fail
 rw [h]
 dsimp only
 congr 1
 split
 ·rename_i h1; exact h1.symm
 ·rfl
theorem num_bad {w : JW} {n : Int} (h : (putF n).2 ≠ 0) : (w.num n).e = if w.e = 0 then 2 else w.e:=by
 have h2 : (putF n).2 = 2:=(putF_err n).resolve_left h
 unfold JW.num JW.fail
 rw [h2]
theorem num_keep {w : JW} {n : Int} (h : w.e ≠ 0) : (w.num n).e = w.e:=by
 unfold JW.num JW.fail
 dsimp only
 rw [if_neg h]
theorem text_ok {w : JW} {s : ByteArray} (h : s.size ≤ mostN) : w.text s = ⟨w.b ++ ((putF s.size).1.data.toList ++ s.data.toList),w.e⟩:=by
 unfold JW.text
 rw [num_ok (putF_size h)]
 dsimp only
 rw [List.append_assoc]
def putsF (l : List Int) : ByteArray × Bool:=if l.all (fun n => (putF n).2 == 0) then (⟨(l.flatMap fun n => (putF n).1.data.toList).toArray⟩,true) else (⟨#[]⟩,false)
def textF (s : ByteArray) : ByteArray:=(putsF [(s.size : Int)]).1 ++ s
def encL (d : En) : ByteArray × Int :=
 if chkEn d ≠ 0 then (⟨#[]⟩,chkEn d)
 else if (putsF [d.k,d.ti]).2 = false then (⟨#[]⟩,2)
 else if d.k = 1 then (if (putsF [d.nu,d.ve]).2 = false then (⟨#[]⟩,2) else ((putsF [d.k,d.ti]).1 ++ textF d.nm ++ (putsF [d.nu,d.ve]).1 ++ textF d.tx,0))
 else if d.k = 3 then
  if (litF d.bd).2 ≠ 0 then (⟨#[]⟩,(litF d.bd).2)
  else if (putsF [d.nu]).2 = false ∨ (putsF [d.ca,flgN d.un d.dn]).2 = false then (⟨#[]⟩,2)
  else ((putsF [d.k,d.ti]).1 ++ textF d.nm ++ (putsF [d.nu]).1 ++ textF d.nd ++ (putsF [d.ca,flgN d.un d.dn]).1 ++ textF (litF d.bd).1,0)
 else if d.k = 4 then ((putsF [d.k,d.ti]).1 ++ (putsF [d.ve]).1,0)
 else if d.k = 5 ∨ d.k = 6 then ((putsF [d.k,d.ti]).1 ++ textF (stampTE d.st).1,(stampTE d.st).2)
 else ((putsF [d.k,d.ti]).1,0)
theorem puts1 (a : Int) : putsF [a] = if (putF a).2 = 0 then ((putF a).1,true) else (⟨#[]⟩,false):=by
 unfold putsF
 by_cases h : (putF a).2 = 0
 ·rw [if_pos h,if_pos (by simp [h])]
  simp
 ·rw [if_neg h,if_neg (by simp [h])]
theorem puts2 (a b : Int) : putsF [a,b] = if (putF a).2 = 0 ∧ (putF b).2 = 0 then (⟨((putF a).1.data.toList ++ (putF b).1.data.toList).toArray⟩,true) else (⟨#[]⟩,false):=by
 unfold putsF
 by_cases h : (putF a).2 = 0 ∧ (putF b).2 = 0
 ·rw [if_pos h,if_pos (by simp [h.1,h.2])]
  simp
 ·rw [if_neg h,if_neg (by simp; intro h1 h2; exact h ⟨h1,h2⟩)]
theorem textF_eq {s : ByteArray} (h : s.size ≤ mostN) : (textF s).data.toList = (putF s.size).1.data.toList ++ s.data.toList:=by
 unfold textF
 rw [puts1,if_pos (putF_size h)]
 simp [ByteArray.data_append]
theorem ba_of {x : ByteArray} {l : List UInt8} (h : x.data.toList = l) : x = ⟨l.toArray⟩:=by
 apply ByteArray.ext
 apply Array.ext'
 rw [h]
theorem stampTE_ok {d : St} (h : stampE d = 0) : (stampTE d).2 = 0:=by unfold stampTE; rw [if_pos h]
theorem chk_ok {d : En} (h : chkEn d = 0) : (0 ≤ d.ti ∧ d.ti ≤ 17592186044416) ∧ (d.k = 4 → verB d = true) ∧ (d.k = 5 ∨ d.k = 6 → stampE d.st = 0):=by
 unfold chkEn at h
 split at h
 ·cases h
 split at h
 ·cases h
 rename_i h2
 split at h
 ·cases h
 split at h
 ·cases h
 split at h
 ·cases h
 split at h
 ·cases h
 refine ⟨by omega,?_⟩
 split at h
 ·rename_i h3
  exact ⟨fun h4 => absurd h4 (by omega),fun h4 => absurd h4 (by omega)⟩
 split at h
 ·cases h
 rename_i h5
 refine ⟨fun h4 => ?_,fun h4 => ?_⟩
 ·cases hv : verB d
  ·exact absurd ⟨h4,hv⟩ h5
  ·rfl
 ·rw [if_pos h4] at h; exact h
theorem encL_eq {d : En} (h1 : d.nm.size ≤ mostN) (h2 : d.nd.size ≤ mostN) (h3 : d.tx.size ≤ mostN) (h4 : (stampTE d.st).1.size ≤ mostN) (hn : Named d.bd) : encL d = encJ d:=by
 have hl : (litF d.bd).1.size ≤ mostN:=Nat.le_trans (litF_size _) (by decide)
 unfold encL encJ
 by_cases hc : chkEn d = 0
 rotate_left
 ·rw [if_pos hc,if_pos hc]
 have hc' : ¬ chkEn d ≠ 0:=fun h => h hc
 rw [if_neg hc',if_neg hc']
 obtain ⟨⟨k1,k6⟩,_⟩:=chk_rest hc hn
 obtain ⟨ht,hv,hs⟩:=chk_ok hc
 have pk : (putF d.k).2 = 0:=by
  have:=putF_size (n:=d.k.toNat) (by show d.k.toNat ≤ 4611686018427387903; omega)
  rwa [Int.toNat_of_nonneg (by omega)] at this
 have pt : (putF d.ti).2 = 0:=by
  have:=putF_size (n:=d.ti.toNat) (by show d.ti.toNat ≤ 4611686018427387903; omega)
  rwa [Int.toNat_of_nonneg (by omega)] at this
 have hh : putsF [d.k,d.ti] = (⟨((putF d.k).1.data.toList ++ (putF d.ti).1.data.toList).toArray⟩,true):=by rw [puts2,if_pos ⟨pk,pt⟩]
 rw [hh]
 rw [if_neg (by simp)]
 have hw : JW.nums ⟨[],0⟩ [d.k,d.ti] = ⟨(putF d.k).1.data.toList ++ (putF d.ti).1.data.toList,0⟩:=by
  show JW.num (JW.num ⟨[],0⟩ d.k) d.ti = _
  rw [num_ok pt,num_ok pk]
  simp
 unfold encW
 rw [hw]
 obtain ⟨P,hP⟩ : ∃ P,P = (putF d.k).1.data.toList ++ (putF d.ti).1.data.toList:=⟨_,rfl⟩
 rw [← hP]
 clear hP hh hw pk pt
 have hf : (putF (flgN d.un d.dn)).2 = 0:=by cases d.un <;> cases d.dn <;> decide
 unfold wrJ
 have hk : d.k = 1 ∨ d.k = 2 ∨ d.k = 3 ∨ d.k = 4 ∨ d.k = 5 ∨ d.k = 6:=by omega
 rcases hk with hk | hk | hk | hk | hk | hk
 ·simp only [hk,reduceIte]
  rw [puts2]
  obtain ⟨W,hW⟩ : ∃ W,W = ((JW.text ⟨P,0⟩ d.nm).nums [d.nu,d.ve]).text d.tx:=⟨_,rfl⟩
  rw [← hW]
  have hW' : W = JW.text (JW.num (JW.num (JW.text ⟨P,0⟩ d.nm) d.nu) d.ve) d.tx:=hW
  rw [text_ok h1,text_ok h3] at hW'
  by_cases ha : (putF d.nu).2 = 0
  ·rw [num_ok ha] at hW'
   by_cases hb : (putF d.ve).2 = 0
   ·rw [if_pos (show (putF d.nu).2 = 0 ∧ (putF d.ve).2 = 0 from ⟨ha,hb⟩),if_neg (by simp)]
    rw [num_ok hb] at hW'
    rw [hW',if_neg (by simp)]
    congr 1
    apply ba_of
    simp only [ByteArray.data_append,Array.toList_append,textF_eq h1,textF_eq h3,List.append_assoc]
   ·rw [if_neg (show ¬ ((putF d.nu).2 = 0 ∧ (putF d.ve).2 = 0) from fun h => hb h.2),if_pos rfl]
    have e : W.e = 2:=by
     rw [hW']
     dsimp only
     rw [num_bad hb,if_pos rfl]
    rw [e,if_pos (by decide)]
  ·rw [if_neg (show ¬ ((putF d.nu).2 = 0 ∧ (putF d.ve).2 = 0) from fun h => ha h.1),if_pos rfl]
   have h9 : (JW.num ⟨P ++ ((putF d.nm.size).1.data.toList ++ d.nm.data.toList),0⟩ d.nu).e = 2:=by rw [num_bad ha]; rfl
   have e : W.e = 2:=by
    rw [hW']
    show (JW.num (JW.num ⟨P ++ ((putF d.nm.size).1.data.toList ++ d.nm.data.toList),0⟩ d.nu) d.ve).e = 2
    rw [num_keep (by rw [h9]; decide),h9]
   rw [e,if_pos (by decide)]
 ·simp only [hk,reduceIte,show ¬ (2 : Int) = 1 by decide,show ¬ (2 : Int) = 3 by decide,show ¬ (2 : Int) = 4 by decide,show ¬ ((2 : Int) = 5 ∨ (2 : Int) = 6) by decide]
  rfl
 ·simp only [hk,reduceIte,show ¬ (3 : Int) = 1 by decide,show ¬ (3 : Int) = 2 by decide]
  obtain ⟨q,hq⟩ : ∃ q,q = litF d.bd:=⟨_,rfl⟩
  rw [← hq] at hl ⊢
  rw [puts1,puts2]
  obtain ⟨F,hF⟩ : ∃ F,F = flgN d.un d.dn:=⟨_,rfl⟩
  rw [← hF] at hf ⊢
  obtain ⟨W,hW⟩ : ∃ W,W = ((((((JW.fail ⟨P,0⟩ q.2).text d.nm).nums [d.nu]).text d.nd).nums [d.ca,F]).text q.1):=⟨_,rfl⟩
  rw [← hW]
  have hW' : W = JW.text (JW.num (JW.num (JW.text (JW.num (JW.text ⟨P,q.2⟩ d.nm) d.nu) d.nd) d.ca) F) q.1:=hW
  rw [text_ok h1,text_ok hl,num_ok hf] at hW'
  rw [text_ok h2] at hW'
  by_cases h0 : q.2 = 0
  ·rw [if_neg (by simpa using h0)]
   rw [h0] at hW'
   by_cases ha : (putF d.nu).2 = 0
   ·rw [num_ok ha] at hW'
    by_cases hb : (putF d.ca).2 = 0
    ·rw [if_pos ha,if_pos (show (putF d.ca).2 = 0 ∧ (putF F).2 = 0 from ⟨hb,hf⟩),if_neg (by simp)]
     rw [num_ok hb] at hW'
     rw [hW',if_neg (by simp)]
     congr 1
     apply ba_of
     simp only [ByteArray.data_append,Array.toList_append,textF_eq h1,textF_eq h2,textF_eq hl,List.append_assoc]
    ·rw [if_neg (show ¬ ((putF d.ca).2 = 0 ∧ (putF F).2 = 0) from fun h => hb h.1),if_pos (.inr rfl)]
     have e : W.e = 2:=by
      rw [hW']
      dsimp only
      rw [num_bad hb,if_pos rfl]
     rw [e,if_pos (by decide)]
   ·rw [if_neg ha,if_pos (.inl rfl)]
    have h9 : (JW.num ⟨P ++ ((putF d.nm.size).1.data.toList ++ d.nm.data.toList),0⟩ d.nu).e = 2:=by rw [num_bad ha]; rfl
    have e : W.e = 2:=by
     rw [hW']
     show (JW.num ⟨_,(JW.num ⟨P ++ ((putF d.nm.size).1.data.toList ++ d.nm.data.toList),0⟩ d.nu).e⟩ d.ca).e = 2
     rw [h9,num_keep (by simp)]
    rw [e,if_pos (by decide)]
  ·rw [if_pos h0]
   have h9 : (JW.num ⟨P ++ ((putF d.nm.size).1.data.toList ++ d.nm.data.toList),q.2⟩ d.nu).e = q.2:=num_keep h0
   have e : W.e = q.2:=by
    rw [hW']
    show (JW.num ⟨_,(JW.num ⟨P ++ ((putF d.nm.size).1.data.toList ++ d.nm.data.toList),q.2⟩ d.nu).e⟩ d.ca).e = q.2
    rw [h9,num_keep (by simpa using h0)]
   rw [e,if_pos h0]
 ·simp only [hk,reduceIte,show ¬ (4 : Int) = 1 by decide,show ¬ (4 : Int) = 2 by decide,show ¬ (4 : Int) = 3 by decide]
  have hvb:=hv hk
  unfold verB at hvb
  simp only [decide_eq_true_eq] at hvb
  have pv : (putF d.ve).2 = 0:=by
   have:=putF_size (n:=d.ve.toNat) (by show d.ve.toNat ≤ 4611686018427387903; omega)
   rwa [Int.toNat_of_nonneg (by omega)] at this
  rw [puts1,if_pos pv]
  obtain ⟨W,hW⟩ : ∃ W,W = JW.nums ⟨P,0⟩ [d.ve]:=⟨_,rfl⟩
  rw [← hW]
  have hW' : W = JW.num ⟨P,0⟩ d.ve:=hW
  rw [num_ok pv] at hW'
  rw [hW',if_neg (by simp)]
  simp only
  rfl
 all_goals
  have hse : stampE d.st = 0:=hs (by omega)
  have hs0:=stampTE_ok hse
  simp only [hk,reduceIte,show ¬ (5 : Int) = 1 by decide,show ¬ (5 : Int) = 2 by decide,show ¬ (5 : Int) = 3 by decide,show ¬ (5 : Int) = 4 by decide,show ¬ (6 : Int) = 1 by decide,show ¬ (6 : Int) = 2 by decide,show ¬ (6 : Int) = 3 by decide,show ¬ (6 : Int) = 4 by decide,show ((5 : Int) = 5 ∨ (5 : Int) = 6) by decide,show ((6 : Int) = 5 ∨ (6 : Int) = 6) by decide,true_or,or_true,if_true]
  rw [hs0]
  obtain ⟨W,hW⟩ : ∃ W,W = JW.text (JW.fail ⟨P,0⟩ 0) (stampTE d.st).1:=⟨_,rfl⟩
  rw [← hW]
  have hW' : W = ⟨P ++ ((putF (stampTE d.st).1.size).1.data.toList ++ (stampTE d.st).1.data.toList),0⟩:=by rw [hW]; exact text_ok h4
  rw [hW',if_neg (by simp)]
  congr 1
  apply ba_of
  simp only [ByteArray.data_append,Array.toList_append,textF_eq h4]
end Go.Proofs.YtaofolgaiipcjaaGreatDoor
