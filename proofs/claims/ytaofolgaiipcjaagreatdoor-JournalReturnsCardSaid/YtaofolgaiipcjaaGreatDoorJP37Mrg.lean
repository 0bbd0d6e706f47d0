/-
  tagged.Take: the number that stands at a place of a text, as VarL's tkGo says. No conditions beyond the place's range.
-/
import Derived.Test.YtaofolgaiipcjaaGreatDoorJP27Mrg
import Derived.Deep.Cut
import Derived.BigRegion
import Derived.Laws.Bits
import Derived.Laws.ShiftsVar
import Derived.Laws.BitsAllLaws
namespace Go.Proofs.YtaofolgaiipcjaaGreatDoor
set_option linter.unusedVariables false
set_option maxRecDepth 100000
set_option maxHeartbeats 16000000
set_option linter.unusedSimpArgs false
open Go Go.RowKit
abbrev TR:TypeId:=282
abbrev trA (s:ByteArray) (a n b e:Int):Array Value:=#[.string s,.int .i64 a,.int .i64 n,.int .i64 b,.int .i64 e]
theorem set_heapT {W:World} {b i:Nat} {v:Value} {cur:Array Value} {t:TypeId} {fr:Nat × Nat} (h:W.heap[b]?=some (.cells cur t fr)):(W.setCell ⟨b,i,none⟩ v).heap[b]?=some (.cells (cur.setIfInBounds i v) t fr):=by
 simp[World.setCell,Array.getElem?_modify,h]
theorem tFail_call (b:Nat) (s:ByteArray) (a n q e:Int) (w:World) (h:w.heap[b]?=some (.cells (trA s a n 0 0) TR)) :
 Calls Tryz.prog 286 #[.pointer (some ⟨b,0,none⟩),.int .i64 q,.int .i64 e] w fun x w'=>x=.returned (.tuple #[])∧w'.heap[b]?=some (.cells (trA s a n q e) TR)∧Below b w w':=by
 have c4:=cellOf h 4
 have f3:=freeOf h 3
 have f4:=freeOf h 4
 have c3:=cellOf h 3
 have H:=hid h
 clear h
 go_enter Tryz.func286,Tryz.ntmps286
 go_wp2
 refine bodyPost_end (results_none rfl _ _ _) rfl ?_
 exact⟨rfl,set_heapT (set_heapT H.out),((Below.refl b w).setCell (p:=⟨b,3,none⟩) (Nat.le_refl _) _).setCell (p:=⟨b,4,none⟩) (Nat.le_refl _) _⟩
def TkPost (b:Nat) (s:ByteArray) (a:Nat) (w:World) (x:Ending) (w':World):Prop:=Below b w w' ∧
 match tkGo 9 0 0 (s.data.toList.drop a) with
 | .inr (n,k)=>x=.returned (.int .i64 n)∧w'.heap[b]?=some (.cells (trA s ((a+k:Nat):Int) s.size 0 0) TR)
 | .inl e=>x=.returned (.int .i64 0)∧∃q:Int,w'.heap[b]?=some (.cells (trA s a s.size q e) TR)
theorem or_shl (acc k c:Nat) (h:acc<128 ^ k):acc ||| (c <<< (7 * k))=acc+c * 128 ^ k:=by
 have hp:(128:Nat) ^ k=2 ^ (7 * k):=by rw[Nat.pow_mul]
 rw[hp] at h ⊢
 rw[Nat.or_comm,←Nat.shiftLeft_add_eq_or_of_lt h,Nat.shiftLeft_eq]
 omega
theorem or_u64 (acc k z:Nat) (h:acc<128 ^ k) (hk:k<9):bits .or .u64 (acc:Int) (IntKind.u64.wrap ((z:Int) % 128 * 2 ^ (7 * k)))=((acc+z % 128 * 128 ^ k:Nat):Int):=by
 have hp:(128:Nat) ^ k=2 ^ (7 * k):=by rw[Nat.pow_mul]
 have hle:(128:Nat) ^ k≤128 ^ 8:=Nat.pow_le_pow_right (by decide) (by omega)
 have h8:(128:Nat) ^ 8=72057594037927936:=by decide
 obtain⟨c,hc⟩:∃c,c=z % 128:=⟨_,rfl⟩
 have hc1:c<128:=by omega
 have e1:((z:Int) % 128)=(c:Int):=by omega
 have hm:c * 128 ^ k≤127 * 128 ^ k:=Nat.mul_le_mul_right _ (by omega)
 have e2:(c:Int) * 2 ^ (7 * k)=((c * 128 ^ k:Nat):Int):=by rw[hp];push_cast;rfl
 rw[e1,e2,←hc]
 have e3:IntKind.u64.wrap ((c * 128 ^ k:Nat):Int)=((c * 128 ^ k:Nat):Int):=by rw[IntKind.wrap_u64];omega
 rw[e3,u64_or_nat _ _ (by omega) (by omega)]
 rw[←or_shl acc k c h,Nat.shiftLeft_eq,←hp]
theorem tkGo_step {f k acc m:Nat} {l:List UInt8} {z:UInt8} (h:l[m]?=some z):tkGo (f+1) k acc (l.drop m)=if 128≤z.toNat then tkGo f (k+1) (acc+z.toNat % 128 * 128 ^ k) (l.drop (m+1)) else if (z.toNat=0∧0<k)∨mostN<acc+z.toNat % 128 * 128 ^ k then .inl 3 else .inr (acc+z.toNat % 128 * 128 ^ k,k+1):=by
 obtain⟨hm,he⟩:=List.getElem?_eq_some_iff.1 h
 rw[List.drop_eq_getElem_cons hm,he,tkGo]
theorem tNum_call (b:Nat) (s:ByteArray) (a:Nat) (ha:a≤s.size) (hs:s.size≤140737488351232) (w:World) (h:w.heap[b]?=some (.cells (trA s a s.size 0 0) TR)) :
 Calls Tryz.prog 220 #[.pointer (some ⟨b,0,none⟩)] w (TkPost b s a w):=by
 have HF:=hid (fun (q e:Int) (w':World) (h:w'.heap[b]?=some (.cells (trA s a s.size 0 0) TR))=>tFail_call b s a s.size q e w' h)
 have c4:=cellOf h 4
 have H:=hid h
 clear h
 go_enter Tryz.func220,Tryz.ntmps220
 go_wp2
 go_loopw [3,11] (fun n i wr=>∃k acc:Nat,k≤9∧a+k≤s.size∧i=.int .i64 k∧n=.int .u64 acc∧acc<128 ^ k∧tkGo 9 0 0 (s.data.toList.drop a)=tkGo (9-k) k acc (s.data.toList.drop (a+k))∧wr.heap[b]?=some (.cells (trA s a s.size 0 0) TR)∧Below b w wr) (fun _ i _=>9-(intOf i).toNat)
 case atStart=>exact⟨0,0,by decide,by omega,rfl,rfl,by decide,rfl,H.out,Below.refl _ _⟩
 case round =>
  obtain⟨k,acc,hk,hak,rfl,rfl,hacc,htk,hbr,hbw⟩:=hrel
  have HTK:=hid htk
  have HACC:=hid hacc
  have HBR:=hid hbr
  have HBW:=hid hbw
  clear c4
  have c0:=cellOf hbr 0
  have c1:=cellOf hbr 1
  have c2:=cellOf hbr 2
  have f1:=freeOf hbr 1
  (try dsimp only at c0 c1 c2)
  clear htk hacc hbr hbw
  have hb1:(k:Int)≤9:=by omega
  by_cases hk9:k<9
  ·have q9:(k:Int)<9:=by omega
   by_cases hend:a+k=s.size
   ·have q1:(s.size:Int)≤(a:Int)+(k:Int):=by omega
    have HTE:=hid (show tkGo 9 0 0 (s.data.toList.drop a)=.inl 29 by
     rw[HTK.out,hend,List.drop_eq_nil_of_le (by show s.data.toList.length≤s.data.size;simp)]
     obtain⟨f,hf⟩:∃f,9-k=f+1:=⟨8-k,by omega⟩
     rw[hf,tkGo])
    go_upto_region 7 with (fail)
    go_region
    go_wp2_with (go_at_call 286;refine(HF.out _ _ wr.drew HBR.out).mono ?_;rintro e w1 ⟨rfl,h1,hb1⟩;have H1:=hid h1;have HB1:=hid hb1;clear h1 hb1)
    go_ret
    unfold TkPost
    rw[HTE.out]
    exact⟨HBW.out.trans ((Below.refl _ wr).drew.trans HB1.out),rfl,_,H1.out⟩
   ·obtain⟨m,hm⟩:∃m:Nat,m=a+k:=⟨_,rfl⟩
    have q1:¬ (s.size:Int)≤(m:Int):=by omega
    have e0:(a:Int)+(k:Int)=(m:Int):=by omega
    have e1:(k:Int)+(a:Int)=(m:Int):=by omega
    have hlt:m<s.size:=by omega
    have q2:(m:Int)<(s.size:Int):=by omega
    have q3:IntKind.i64.wrap (m:Int)=(m:Int):=IntWalk.i64_in _ (by omega)
    have HM:=hid hm
    clear hm
    go_upto_region 7 with (fail)
    go_region
    go_upto_region 10 with (fail)
    go_region
    go_upto_region 11 with (fail)
    obtain⟨z,hz⟩:∃z:UInt8,z=s[m]:=⟨_,rfl⟩
    simp only[←hz]
    have HZ:=hid hz
    clear hz
    obtain⟨N,hN⟩:∃N,N=acc+z.toNat % 128 * 128 ^ k:=⟨_,rfl⟩
    have hor:=or_u64 acc k z.toNat HACC.out hk9
    rw[←hN] at hor
    have hst:tkGo 9 0 0 (s.data.toList.drop a)=if 128≤z.toNat then tkGo (8-k) (k+1) N (s.data.toList.drop (m+1)) else if (z.toNat=0∧0<k)∨mostN<N then .inl 3 else .inr (N,k+1):=by
     rw[HTK.out,show 9-k=(8-k)+1 by omega,←HM.out,hN]
     exact tkGo_step (by rw[HZ.out,Array.getElem?_toList];exact Array.getElem?_eq_getElem hlt)
    have hNb:N<128 ^ (k+1):=by
     rw[hN,Nat.pow_succ]
     have h1:=HACC.out
     have h2:z.toNat % 128 * 128 ^ k≤127 * 128 ^ k:=Nat.mul_le_mul_right _ (by omega)
     omega
    have hN9:(128:Nat) ^ (k+1)≤128 ^ 9:=Nat.pow_le_pow_right (by decide) (by omega)
    have hp9:(128:Nat) ^ 9=9223372036854775808:=by decide
    have hN63:(N:Int)<9223372036854775808:=by omega
    have HST:=hid hst
    have HNB:=hid hNb
    have HN:=hid hN
    clear hst hNb hN hN9 hp9 e0 e1 q1 q2 q3 c0 c2
    go_upto_region 12 with (fail)
    clear hor
    by_cases h128:128≤z.toNat
    ·have q5:(128:Int)≤(z.toNat:Int):=by omega
     go_wp2
     go_roundw
     case rel =>
      refine⟨k+1,N,by omega,by have:=HM.out;omega,by go_num,rfl,HNB.out,?_,HBR.out,HBW.out.trans (Below.refl _ wr).drew.drew⟩
      rw[HST.out,if_pos h128,show 9-(k+1)=8-k by omega,HM.out,Nat.add_assoc]
     case measure=>simp[intOf];omega
    ·have q5:¬ (128:Int)≤(z.toNat:Int):=by omega
     by_cases hbad:(z.toNat=0∧0<k)∨mostN<N
     ·have HTE:=hid (show tkGo 9 0 0 (s.data.toList.drop a)=.inl 3 by rw[HST.out,if_neg h128,if_pos hbad])
      have fin:∀w1:World,w1.heap[b]?=some (.cells (trA s a s.size (a:Int) 3) TR)→Below b wr.drew.drew w1→TkPost b s a w (.returned (.int .i64 0)) w1:=fun w1 h1 h2=>by
       unfold TkPost
       rw[HTE.out]
       exact⟨HBW.out.trans ((Below.refl _ wr).drew.drew.trans h2),rfl,_,h1⟩
      have FIN:=hid fin
      clear fin
      have HBD:=hid hbad
      clear hbad
      by_cases h0:z.toNat=0∧0<k
      ·have q6:((z.toNat:Int)==0)=true:=by simp[h0.1]
       have q7:(0:Int)<(k:Int):=by omega
       have q8:0<k:=h0.2
       clear h0
       go_wp2_with (go_at_call 286;refine(HF.out _ _ wr.drew.drew HBR.out).mono ?_;rintro e w1 ⟨rfl,h1,hb1⟩;have H1:=hid h1;have HB1:=hid hb1;clear h1 hb1)
       go_ret
       exact FIN.out _ H1.out HB1.out
      ·have q9b:(4611686018427387903:Int)<(N:Int):=by
        rcases HBD.out with h1 | h1
        ·exact absurd h1 h0
        ·have:4611686018427387903<N:=h1
         omega
       by_cases hz0:z.toNat=0
       ·have q6:((z.toNat:Int)==0)=true:=by simp[hz0]
        have q7:¬ (0:Int)<(k:Int):=by omega
        have q8:¬ 0<k:=fun h=>h0 ⟨hz0,h⟩
        clear h0 hz0
        go_wp2_with (go_at_call 286;refine(HF.out _ _ wr.drew.drew HBR.out).mono ?_;rintro e w1 ⟨rfl,h1,hb1⟩;have H1:=hid h1;have HB1:=hid hb1;clear h1 hb1)
        go_ret
        exact FIN.out _ H1.out HB1.out
       ·have q6:((z.toNat:Int)==0)=false:=by simp[hz0]
        clear h0 hz0
        go_wp2_with (go_at_call 286;refine(HF.out _ _ wr.drew.drew HBR.out).mono ?_;rintro e w1 ⟨rfl,h1,hb1⟩;have H1:=hid h1;have HB1:=hid hb1;clear h1 hb1)
        go_ret
        exact FIN.out _ H1.out HB1.out
     ·have HTE:=hid (show tkGo 9 0 0 (s.data.toList.drop a)=.inr (N,k+1) by rw[HST.out,if_neg h128,if_neg hbad])
      have q7:¬ (4611686018427387903:Int)<(N:Int):=fun h=>hbad (.inr (by show 4611686018427387903<N;omega))
      have fin:∀w1:World,w1.heap[b]?=some (.cells (trA s ((a+(k+1):Nat):Int) s.size 0 0) TR)→Below b w w1→TkPost b s a w (.returned (.int .i64 N)) w1:=fun w1 h1 h2=>by
       unfold TkPost
       rw[HTE.out]
       exact⟨h2,rfl,h1⟩
      have FIN:=hid fin
      clear fin
      have hkey:z.toNat=0→¬ 0<k:=fun h1 h2=>hbad (.inl ⟨h1,h2⟩)
      have ek:((a+(k+1):Nat):Int)=(a:Int)+((k:Int)+1):=by omega
      have EK:=hid ek
      have HB2:=hid (show Below b w wr.drew.drew from HBW.out.trans (Below.refl _ wr).drew.drew)
      clear hbad ek
      by_cases hz0:z.toNat=0
      ·have q6:((z.toNat:Int)==0)=true:=by simp[hz0]
       have q8:¬ 0<k:=hkey hz0
       have q9b:¬ (0:Int)<(k:Int):=by omega
       clear hkey hz0
       go_wp2
       go_ret
       refine FIN.out _ ?_ (HB2.out.setCell (p:=⟨b,1,none⟩) (Nat.le_refl _) _)
       rw[EK.out]
       exact set_heapT (b:=b) (i:=1) (show wr.drew.drew.heap[b]?=_ from HBR.out)
      ·have q6:((z.toNat:Int)==0)=false:=by simp[hz0]
       clear hkey hz0
       go_wp2
       go_ret
       refine FIN.out _ ?_ (HB2.out.setCell (p:=⟨b,1,none⟩) (Nat.le_refl _) _)
       rw[EK.out]
       exact set_heapT (b:=b) (i:=1) (show wr.drew.drew.heap[b]?=_ from HBR.out)
  ·have q9:¬ (k:Int)<9:=by omega
   have HTE:=hid (show tkGo 9 0 0 (s.data.toList.drop a)=.inl 3 by
    rw[HTK.out,show 9-k=0 by omega,tkGo])
   go_wp2_with (go_at_call 286;refine(HF.out _ _ wr HBR.out).mono ?_;rintro e w1 ⟨rfl,h1,hb1⟩;have H1:=hid h1;have HB1:=hid hb1;clear h1 hb1)
   go_ret
   unfold TkPost
   rw[HTE.out]
   exact⟨HBW.out.trans HB1.out,rfl,_,H1.out⟩
def takeF (s:ByteArray) (a:Nat):Value:=match tkGo 9 0 0 (s.data.toList.drop a) with
 | .inr (n,k)=>.tuple #[.int .i64 n,.int .i64 ((a+k:Nat):Int),.int .i64 0]
 | .inl e=>.tuple #[.int .i64 0,.int .i64 0,.int .i64 e]
theorem tTake_call (s:ByteArray) (a:Nat) (ha:a≤s.size) (hs:s.size≤140737488351232) (w:World) :
 Calls Tryz.prog 154 #[.string s,.int .i64 a] w fun e w'=>e=.returned (takeF s a)∧Below w.heap.size w w':=by
 obtain⟨b,hb⟩:∃b,b=w.heap.size:=⟨_,rfl⟩
 obtain⟨w0,hw0⟩:∃w0,w0=w.alloc (.cells (trA s a s.size 0 0) TR):=⟨_,rfl⟩
 have h0:w0.heap[b]?=some (.cells (trA s a s.size 0 0) TR):=by rw[hw0,hb];exact heap_alloc_new w _
 have hb0:Below b w w0:=by rw[hw0,hb];exact(Below.refl _ w).alloc (Nat.le_refl _) _
 have hn:=tNum_call b s a ha hs w0 h0
 have q1:¬ (s.size:Int)<(a:Int):=by omega
 have HB0:=hid hb0
 have HW:=hid hw0
 have HB:=hid hb
 rw[←hb]
 unfold takeF
 unfold TkPost at hn
 rcases hr:tkGo 9 0 0 (s.data.toList.drop a) with e | ⟨n,k⟩
 ·rw[hr] at hn
  have HN:=hid hn
  clear hn
  have he:e=3∨e=29:=tkGo_err 9 0 0 (s.data.toList.drop a) e hr
  have q2:(e==0)=false:=by rcases he with rfl | rfl<;>rfl
  have q3:(e != 0)=true:=by rcases he with rfl | rfl<;>rfl
  clear he hr hw0 hb h0 hb0
  go_enter Tryz.func154,Tryz.ntmps154
  go_upto_region 4 with (fail)
  rw[←HW.out,←HB.out]
  go_upto_region 5 with (go_at_call 220;refine HN.out.mono ?_;rintro x w1 ⟨hb1,⟨rfl,q,h1⟩⟩;have c4:=cellOf h1 4;have c1:=cellOf h1 1;have H1:=hid h1;have HB1:=hid hb1;clear h1 hb1)
  (try dsimp only at c1 c4)
  go_upto_region 6 with (fail)
  go_region
  all_goals (
   go_wp2
   refine bodyPost_ret (v:=.tuple #[.int .i64 0,.int .i64 0,.int .i64 e]) (by simp[results,Tryz.results154,go_sem]) rfl ?_
   exact⟨rfl,(HB0.out.trans HB1.out).drew⟩)
 ·rw[hr] at hn
  have HN:=hid hn
  clear hn
  clear hr hw0 hb h0 hb0
  go_enter Tryz.func154,Tryz.ntmps154
  go_upto_region 4 with (fail)
  rw[←HW.out,←HB.out]
  go_upto_region 5 with (go_at_call 220;refine HN.out.mono ?_;rintro x w1 ⟨hb1,⟨rfl,h1⟩⟩;have c4:=cellOf h1 4;have c1:=cellOf h1 1;have H1:=hid h1;have HB1:=hid hb1;clear h1 hb1)
  (try dsimp only at c1 c4)
  go_upto_region 7 with (fail)
  go_region
  all_goals (
   go_wp2
   refine bodyPost_ret (v:=.tuple #[.int .i64 n,.int .i64 ((a+k:Nat):Int),.int .i64 0]) (by simp[results,Tryz.results154,go_sem]) rfl ?_
   exact⟨rfl,(HB0.out.trans HB1.out).drew⟩)
end Go.Proofs.YtaofolgaiipcjaaGreatDoor
