/-
  Plain: numbers as bytes (seven bits in each), written and read back. No program is stepped through here.
-/
import Derived.Test.YtmgpghoamapfgaaGreatDoorJN1Mrg
import Derived.Lib.FrozenHead
import Derived.Laws.IdiomStrings
import Derived.Laws.AppendOwn
import Derived.Maps.AppendAt
namespace Go.Proofs.YtmgpghoamapfgaaGreatDoor
set_option linter.unusedVariables false
set_option maxRecDepth 100000
set_option maxHeartbeats 16000000
set_option linter.unusedSimpArgs false
section
open Go Go.RowKit
abbrev mostN:Nat:=4611686018427387903
def viL (n:Nat):List UInt8:=if n<128 then [UInt8.ofNat n] else UInt8.ofNat (n % 128+128) :: viL (n / 128)
termination_by n
decreasing_by omega
theorem viL_small {n:Nat} (h:n<128):viL n=[UInt8.ofNat n]:=by rw[viL,if_pos h]
theorem viL_big {n:Nat} (h:¬ n<128):viL n=UInt8.ofNat (n % 128+128) :: viL (n / 128):=by rw[viL,if_neg h]
theorem viL_pos (n:Nat):0<(viL n).length:=by rw[viL];split<;>simp
theorem viL_len:∀(f n:Nat),n<128 ^ f→0<f→(viL n).length≤f
 | 0,_,_,h=>absurd h (Nat.lt_irrefl 0)
 | f+1,n,hn,_=>by
   by_cases h:n<128
   ·rw[viL_small h];simp
   ·rw[viL_big h]
    rw[Nat.pow_succ] at hn
    have h1:n / 128<128 ^ f:=by omega
    have hf:0<f:=by
     rcases Nat.eq_zero_or_pos f with rfl | h2
     ·simp at h1;omega
     ·exact h2
    have:=viL_len f (n / 128) h1 hf
    simp only[List.length_cons]
    omega
def putF (n:Int):ByteArray × Int:=if n<0∨(mostN:Int)<n then (⟨#[]⟩,2) else (⟨(viL n.toNat).toArray⟩,0)
theorem putF_ok {n:Int} (h:(putF n).2=0):0≤n∧n≤mostN∧(putF n).1.data.toList=viL n.toNat:=by
 unfold putF at h ⊢
 split
 ·rename_i h1;rw[if_pos h1] at h;simp at h
 ·exact⟨by omega,by omega,rfl⟩
end
section
open Go Go.RowKit
theorem infoU8t:(Tryz.prog.info? 5).map (fun i=>(i.zero,i.size,i.bytes))=some (some (.int .u8 0),1,1):=by kernel_rfl
theorem vi_cells (acc:List UInt8) (c:UInt8):Lib.byteCells (acc++[c])=Lib.byteCells acc++[.int .u8 (c.toNat:Int)]:=by simp[Lib.byteCells]
theorem own_geV {w:World} {base:Nat} {e:TypeId} {size:Nat} {v:Value} {n:Nat} {xs:List Value} (h:w.ownsRow base e size v n xs) (k:Nat) (hk:v.ownBlock=some k):base≤k:=by
 rcases h.2 with ⟨rfl,_⟩ | ⟨g,cap,cur,rfl,hb,_⟩
 ·cases hk
 ·cases hk;exact hb
theorem tput_call (n:Nat) (hn:n<9223372036854775808) (w:World) :
 Calls Tryz.prog 243 #[.slice none 0 0,.int .i64 n] w fun e w'=>∃v,e=.returned v∧w'.ownsRow w.heap.size 5 1 v (viL n).length (Lib.byteCells (viL n))∧Below w.heap.size w w':=by
 obtain⟨ti,hi,hz0,hz1,hz2⟩:=info_parts infoU8t
 have hp9:(128:Nat) ^ 9=9223372036854775808:=by decide
 have hl9:(viL n).length≤9:=viL_len 9 n (by omega) (by decide)
 clear hp9
 have HL9:=hid hl9
 clear hl9
 go_enter Tryz.func243,Tryz.ntmps243
 go_wp2
 go_loopw [0,1] (fun a b wr=>∃(m:Nat) (acc:List UInt8),b=.int .i64 m∧m≤n∧viL n=acc++viL m∧wr.ownsRow w.heap.size 5 1 a acc.length (Lib.byteCells acc)∧Below w.heap.size w wr) (fun _ b _=>(intOf b).toNat)
 case atStart=>exact⟨n,[],rfl,Nat.le_refl _,rfl,World.ownsRow_nil _ _ _ _,Below.refl _ _⟩
 case round =>
  obtain⟨m,acc,rfl,hm,hv,hown,hbw⟩:=hrel
  have HV:=hid hv
  have HBW:=hid hbw
  have HOWN:=hid hown
  have hal:acc.length+1≤9:=by
   have h1:=congrArg List.length HV.out
   have h2:=viL_pos m
   rw[List.length_append] at h1
   have:=HL9.out
   omega
  have hcap1:acc.length+1≤maxLen:=by unfold maxLen;omega
  have hcap2:(acc.length+1) * 1≤140737488355328:=by omega
  clear hv hbw hown
  by_cases hlt:m<128
  ·have q1:¬ (128:Int)≤(m:Int):=by omega
   go_wp2_with (at_builtin;go_loud (refine wpList_append_own_at _ (by rfl) _ _ 72 (by rfl) w.heap.size 5 ti _ 1 1 Tryz.underlying72 hi hz0 hz1 hz2 rfl (by omega) _ _ _ (by rfl) (HOWN.out.alloc _) ⟨wr.heap.size,0,none⟩ 1 1 [.int .u8 (m:Int)] (by rfl) (by rfl) (cell_one_new _ _ _) (by simp[Value.oneCell']) hcap1 hcap2 (by have:=HBW.out.size;simp;omega) ?_);intro v' w5 hown' hgrow hnil hloc;have HO2:=hid hown';have HG:=hid hgrow;clear hown' hgrow hnil hloc)
   go_ret
   have hc:Lib.byteCells (viL n)=Lib.byteCells acc++[.int .u8 (m:Int)]:=by
    have h1:(UInt8.ofNat m).toNat=m:=by simp;omega
    rw[HV.out,viL_small hlt,vi_cells,h1]
   have hlen:(viL n).length=acc.length+1:=by rw[HV.out,viL_small hlt,List.length_append];rfl
   rw[hc,hlen]
   exact⟨_,rfl,HO2.out,(HBW.out.alloc HBW.out.size _).grown HG.out (by have:=HBW.out.size;simp;omega) fun r hr=>own_geV HOWN.out r hr⟩
  ·have q1:(128:Int)≤(m:Int):=by omega
   go_wp2_with (at_builtin;go_loud (refine wpList_append_own_at _ (by rfl) _ _ 72 (by rfl) w.heap.size 5 ti _ 1 1 Tryz.underlying72 hi hz0 hz1 hz2 rfl (by omega) _ _ _ (by rfl) (HOWN.out.alloc _) ⟨wr.heap.size,0,none⟩ 1 1 [.int .u8 ((m:Int) % 128+128)] (by rfl) (by rfl) (cell_one_new _ _ _) (by simp[Value.oneCell']) hcap1 hcap2 (by have:=HBW.out.size;simp;omega) ?_);intro v' w5 hown' hgrow hnil hloc;have HO2:=hid hown';have HG:=hid hgrow;clear hown' hgrow hnil hloc)
   go_roundw
   case rel =>
    refine⟨m / 128,acc++[UInt8.ofNat (m % 128+128)],by go_num,by omega,?_,?_,?_⟩
    ·rw[HV.out,viL_big hlt];simp
    ·have h1:((UInt8.ofNat (m % 128+128)).toNat:Int)=(m:Int) % 128+128:=by
      have:(UInt8.ofNat (m % 128+128)).toNat=m % 128+128:=by simp;omega
      rw[this];omega
     rw[vi_cells,h1,List.length_append]
     exact HO2.out
    ·exact(HBW.out.alloc HBW.out.size _).grown HG.out (by have:=HBW.out.size;simp;omega) fun r hr=>own_geV HOWN.out r hr
   case measure=>simp[intOf];omega
theorem conv_row {w:World} {base:Nat} {v:Value} {l:List UInt8} (h:w.ownsRow base 5 1 v l.length (Lib.byteCells l)) (h0:l≠[]):(convert 72 9 v).run Tryz.prog w=.ok (.string ⟨l.toArray⟩) w:=by
 have hl0:l.length≠0:=by simpa using h0
 obtain⟨g,cap,cur,rfl,hr⟩:∃g cap cur,v=.slice (some ⟨g,0,none⟩) l.length cap∧w.heap[g]?=some cur:=by
  rcases h.2 with ⟨_,hz⟩ | ⟨g,cap,cur,hv,r⟩
  ·exact absurd hz hl0
  ·exact⟨g,cap,_,hv,r.2.1⟩
 exact run_convert_bytes_back (P:=Tryz.prog) w 72 9 5 ⟨g,0,none⟩ cap l Tryz.underlying72 Tryz.underlying5 Tryz.underlying9 (fun j hj=>h.cells (g:=g) rfl j _ (by simp[Lib.byteCells,List.getElem?_eq_getElem hj]))
theorem tPut_call (n:Int) (hn:I64 n) (w:World) :
 Calls Tryz.prog 158 #[.int .i64 n] w fun e w'=>e=.returned (.tuple #[.string (putF n).1,.int .i64 (putF n).2])∧Below w.heap.size w w':=by
 by_cases h1:n<0
 ·have HP:=hid (show putF n=(⟨#[]⟩,2) by unfold putF;rw[if_pos (.inl h1)])
  go_enter Tryz.func158,Tryz.ntmps158
  go_wp2
  refine bodyPost_ret (v:=.tuple #[.string ⟨#[]⟩,.int .i64 2]) (by simp[results,Tryz.results158,go_sem]) rfl ?_
  exact⟨by rw[HP.out],Below.refl _ _⟩
 by_cases h2:4611686018427387903<n
 ·have HP:=hid (show putF n=(⟨#[]⟩,2) by unfold putF;rw[if_pos (.inr h2)])
  go_enter Tryz.func158,Tryz.ntmps158
  go_wp2
  refine bodyPost_ret (v:=.tuple #[.string ⟨#[]⟩,.int .i64 2]) (by simp[results,Tryz.results158,go_sem]) rfl ?_
  exact⟨by rw[HP.out],Below.refl _ _⟩
 have HP:=hid (show putF n=(⟨(viL n.toNat).toArray⟩,0) by unfold putF;rw[if_neg (by show ¬ (n<0∨((4611686018427387903:Nat):Int)<n);omega)])
 obtain⟨m,rfl⟩:∃m:Nat,n=m:=⟨n.toNat,by omega⟩
 have HT:=hid (tput_call m (by omega) w)
 have HV:=hid (show viL m≠[] by have:=viL_pos m;intro h;rw[h] at this;simp at this)
 have q1:¬ (m:Int)<0:=by omega
 go_enter Tryz.func158,Tryz.ntmps158
 go_wp2_with (go_at_call 243;refine HT.out.mono ?_;rintro e w1 ⟨v,rfl,ho1,hb1⟩;have hcv:=conv_row ho1 HV.out;have HB1:=hid hb1;clear ho1 hb1)
 refine bodyPost_ret (v:=.tuple #[.string ⟨(viL m).toArray⟩,.int .i64 0]) (by simp[results,Tryz.results158,go_sem]) rfl ?_
 exact⟨by rw[HP.out];simp,HB1.out⟩
end
end Go.Proofs.YtmgpghoamapfgaaGreatDoor
