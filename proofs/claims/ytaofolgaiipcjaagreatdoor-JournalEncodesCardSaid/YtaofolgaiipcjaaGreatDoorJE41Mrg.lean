/-
  manifoldlaw46.put and text, as JEq's putsF and textF say. Conditions: the numbers can be read; the sizes fit.
-/
import Derived.Test.YtaofolgaiipcjaaGreatDoorJE29Mrg
import Derived.Test.YtaofolgaiipcjaaGreatDoorJE37Mrg
namespace Go.Proofs.YtaofolgaiipcjaaGreatDoor
set_option linter.unusedVariables false
set_option linter.unusedSimpArgs false
open Go Go.RowKit Go.Shelf
theorem flat_len (l : List Int) : (l.flatMap fun n => (putF n).1.data.toList).length ≤ 9 * l.length:=by
 induction l with
 | nil => exact Nat.le_refl _
 | cons x l ih =>
   rw [List.flatMap_cons,List.length_append,List.length_cons]
   have:=putF_len x
   omega
theorem flat_take (l : List Int) (k : Nat) (h : k < l.length) : ((l.take (k + 1)).flatMap fun n => (putF n).1.data.toList) = ((l.take k).flatMap fun n => (putF n).1.data.toList) ++ (putF l[k]).1.data.toList:=by
 rw [List.take_succ_eq_append_getElem h,List.flatMap_append]
 simp
theorem putsF_bad {l : List Int} {k : Nat} (hk : k < l.length) (h : (putF l[k]).2 ≠ 0) : putsF l = (⟨#[]⟩,false):=by
 unfold putsF
 rw [if_neg]
 intro ha
 have:=List.all_eq_true.1 ha l[k] (List.getElem_mem _)
 simp at this
 exact h this
theorem putsF_ok {l : List Int} (h : ∀ x ∈ l,(putF x).2 = 0) : putsF l = (⟨(l.flatMap fun n => (putF n).1.data.toList).toArray⟩,true):=by
 unfold putsF
 rw [if_pos]
 rw [List.all_eq_true]
 intro x hx
 simp [h x hx]
theorem putsF_len (l : List Int) : (putsF l).1.size ≤ 9 * l.length:=by
 unfold putsF
 split
 ·exact flat_len l
 ·exact Nat.zero_le _
set_option maxRecDepth 100000 in
set_option maxHeartbeats 4000000 in
theorem lput_call (g : Nat) (l : List Int) (w : World) (hg : w.heap[g]? = some (.cells (l.map (Value.int .i64)).toArray 3)) (hI : ∀ x ∈ l,I64 x) (hlen : l.length ≤ 1000) :
 Calls Tryz.prog 45 #[.slice (some ⟨g,0,none⟩) l.length l.length] w fun e w' => e = .returned (.tuple #[.string (putsF l).1,.bool (putsF l).2]) ∧ Below w.heap.size w w':=by
 obtain ⟨n,hn⟩ : ∃ n,n = l.length:=⟨_,rfl⟩
 have hn63 : (n : Int) ≤ 1000:=by omega
 rw [← hn]
 have HG:=hid hg
 have HI:=hid hI
 have HN:=hid hn
 have hgl:=ltOf hg
 have HGL:=hid hgl
 clear hg hI hn hlen hgl
 go_enter Tryz.func45,Tryz.ntmps45
 go_wp2
 go_loopw [2,4] (fun s i wr => ∃ (k : Nat) (acc : ByteArray),k ≤ n ∧ i = .int .i64 k ∧ s = .string acc ∧ acc.data.toList = ((l.take k).flatMap fun n => (putF n).1.data.toList) ∧ (∀ x ∈ l.take k,(putF x).2 = 0) ∧ Below w.heap.size w wr) (fun _ i _ => n - (intOf i).toNat)
 case atStart => exact ⟨0,⟨#[]⟩,Nat.zero_le _,rfl,rfl,rfl,fun x hx => by simp at hx,Below.refl _ _⟩
 case round =>
  obtain ⟨k,acc,hk,rfl,rfl,hacc,hok,hb⟩:=hrel
  have HACC:=hid hacc
  have HOK:=hid hok
  have HB:=hid hb
  clear hacc hok hb
  by_cases hlt : k < n
  ·have hkl : k < l.length:=by have:=HN.out; omega
   have q1 : (k : Int) < (n : Int):=by omega
   have hgr : wr.heap[g]? = some (.cells (l.map (Value.int .i64)).toArray 3):=(HB.out.block g HGL.out).trans HG.out
   obtain ⟨z,hz⟩ : ∃ z,z = l[k]:=⟨_,rfl⟩
   have cz : wr.cell? ⟨g,k,none⟩ = some (.int .i64 z):=by
    rw [cellOf hgr k,hz]
    simp [hkl]
   obtain ⟨u,hu⟩ : ∃ u,u = putF z:=⟨_,rfl⟩
   have hp:=tPut_call z (HI.out z (by rw [hz]; exact List.getElem_mem _)) wr
   rw [← hu] at hp
   have hsz : acc.size ≤ 9000:=by
    have h1 : acc.size = acc.data.toList.length:=Array.length_toList.symm
    rw [h1,HACC.out]
    have:=flat_len (l.take k)
    rw [List.length_take] at this
    omega
   have hus : u.1.size ≤ 9:=by rw [hu]; exact putF_len z
   have hsum : acc.size + u.1.size ≤ 9223372036854775807:=by omega
   have HP:=hid hp
   have HZ:=hid hz
   have HU:=hid hu
   clear hp hz hu hgr hsz hus
   by_cases h0 : u.2 = 0
   ·have q2 : (u.2 != 0) = false:=by simp [h0]
    have H0:=hid h0
    clear h0
    go_wp2_with (go_at_call 135; refine HP.out.mono ?_; rintro e w1 ⟨rfl,hb1⟩; have HB1:=hid hb1; clear hb1)
    go_roundw
    case rel =>
     refine ⟨k + 1,acc ++ u.1,by omega,by go_num,rfl,?_,?_,HB.out.trans (HB1.out.mono HB.out.size)⟩
     ·rw [flat_take l k hkl,← HZ.out,← HU.out,ByteArray.data_append,Array.toList_append,HACC.out]
     ·intro x hx
      rw [List.take_succ_eq_append_getElem hkl] at hx
      rcases List.mem_append.1 hx with hx | hx
      ·exact HOK.out x hx
      ·rw [List.mem_singleton.1 hx,← HZ.out,← HU.out]; exact H0.out
    case measure => simp [intOf]; omega
   ·have q2 : (u.2 != 0) = true:=by simp [h0]
    have hbad:=putsF_bad hkl (by rw [← HZ.out,← HU.out]; exact h0)
    have HBAD:=hid hbad
    clear h0 hbad
    go_wp2_with (go_at_call 135; refine HP.out.mono ?_; rintro e w1 ⟨rfl,hb1⟩; have HB1:=hid hb1; clear hb1)
    refine bodyPost_ret (v:=.tuple #[.string ⟨#[]⟩,.bool false]) (by simp [results,Tryz.results45,go_sem]) rfl ?_
    rw [HBAD.out]
    exact ⟨rfl,HB.out.trans (HB1.out.mono HB.out.size)⟩
  ·obtain rfl : k = n:=by omega
   have hfin : putsF l = (acc,true):=by
    have h1:=HACC.out
    have h2:=HOK.out
    rw [List.take_of_length_le (by have:=HN.out; omega)] at h1 h2
    rw [putsF_ok h2,← h1]
   have HFIN:=hid hfin
   clear hfin
   go_wp2
   refine bodyPost_ret (v:=.tuple #[.string acc,.bool true]) (by simp [results,Tryz.results45,go_sem]) rfl ?_
   rw [HFIN.out]
   exact ⟨rfl,HB.out⟩
set_option maxRecDepth 100000 in
set_option maxHeartbeats 4000000 in
theorem ltext_call (s : ByteArray) (w : World) (hs : s.size ≤ 1000000) :
 Calls Tryz.prog 46 #[.string s] w fun e w' => e = .returned (.string (textF s)) ∧ Below w.heap.size w w':=by
 obtain ⟨w0,hw0⟩ : ∃ w0,w0 = w.alloc (.cells #[.int .i64 s.size] 3):=⟨_,rfl⟩
 have hb0 : Below w.heap.size w w0:=by rw [hw0]; exact (Below.refl _ w).alloc (Nat.le_refl _) _
 have hN:=lput_call w.heap.size [(s.size : Int)] w0 (by rw [hw0]; exact heap_alloc_new w _) (by intro x hx; rw [List.mem_singleton.1 hx]; constructor <;> omega) (by simp)
 have hpl:=putsF_len [(s.size : Int)]
 have htx : textF s = (putsF [(s.size : Int)]).1 ++ s:=rfl
 obtain ⟨u,hu⟩ : ∃ u,u = putsF [(s.size : Int)]:=⟨_,rfl⟩
 rw [← hu] at hN hpl htx
 have hsum : u.1.size + s.size ≤ 9223372036854775807:=by simp only [List.length_cons,List.length_nil] at hpl; omega
 have HN:=hid hN
 have HW:=hid hw0
 have HB0:=hid hb0
 have HTX:=hid htx
 clear hN hw0 hb0 htx hpl hu
 go_enter Tryz.func46,Tryz.ntmps46
 go_wp2_with (go_at_call 45; rw [← HW.out]; refine HN.out.mono ?_; rintro e w1 ⟨rfl,hb1⟩; have HB1:=hid hb1; clear hb1)
 refine bodyPost_ret (v:=.string (u.1 ++ s)) (by simp [results,Tryz.results46,go_sem]) rfl ?_
 exact ⟨by rw [HTX.out],HB0.out.trans (HB1.out.mono HB0.out.size)⟩
end Go.Proofs.YtaofolgaiipcjaaGreatDoor
