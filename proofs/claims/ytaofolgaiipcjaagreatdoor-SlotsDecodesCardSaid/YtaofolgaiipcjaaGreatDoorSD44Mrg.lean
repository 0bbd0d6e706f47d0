/- A part. -/
import Derived.Test.YtaofolgaiipcjaaGreatDoorSD40Mrg
import Derived.Test.YtaofolgaiipcjaaGreatDoorSD42Mrg
import Derived.Test.YtaofolgaiipcjaaGreatDoorSD43Mrg
namespace Go.Proofs.YtaofolgaiipcjaaGreatDoor
set_option linter.unusedVariables false
set_option maxRecDepth 100000
set_option maxHeartbeats 16000000
set_option linter.unusedSimpArgs false
open Go Go.RowKit Go.Shelf
theorem jJi (s:ByteArray) (w:World) (hT:Tabs w) (hZ:ZTab w) (hNV:NumVars w) :
 Calls Tryz.prog 7 #[.string s] w fun e w'=>e=.returned (.bool true)∧Below w.heap.size w w':=by
 obtain⟨m,hm⟩:∃m:Nat,m=min s.size 600:=⟨_,rfl⟩
 have emin:min (s.size:Int) 600=(m:Int):=by omega
 have hms:m≤s.size:=by omega
 have hms':(m:Int)≤(s.size:Int):=by omega
 have hm0:(0:Int)≤(m:Int):=by omega
 obtain⟨t,htt⟩:∃t,s.extract 0 m=t:=⟨_,rfl⟩
 have ht:t.size≤600:=by rw[←htt,ByteArray.size_extract];omega
 have HK:=hid (jH3 w hT);have HV:=hid (fun (W:World) (h:Below w.heap.size w W)=>(And.intro (hT.below h) (And.intro (hZ.below h) (hNV.below h))));have HSZ:=hid ht;clear hm hms hT hZ hNV ht;go_enter Tryz.func7,Tryz.ntmps7
 go_upto_region 4 with (go_at_call 21;refine HK.out.mono ?_;rintro e w0 ⟨rfl,hb0⟩;have HB0:=hid hb0;clear hb0)
 have HD:=hid (jEr t w0 (by have:=HSZ.out;omega) (by have:=HSZ.out;have:=jCg t;omega) (fun x hx=>LnOK.small (by have:=HSZ.out;have:=jGs t x hx;omega)) (HV.out w0 HB0.out).1 (HV.out w0 HB0.out).2.1 (HV.out w0 HB0.out).2.2);go_upto_region 5 with (go_at_call 25;refine HD.out.mono ?_;rintro e w1 ⟨c,d,E,rfl,hi,hE,hb1⟩;have HI:=hid hi;have HE:=hid hE;have HB1:=hid hb1;clear hi hE hb1)
 clear emin hms' hm0 htt;obtain⟨cn,ct,ca,cl,cc⟩:=c;dsimp only[StC.v] at HI ⊢;obtain⟨T,hT⟩:∃T,T=w1.heap.size:=⟨_,rfl⟩
 obtain⟨w2,hw2⟩:∃w2,w2=w1.alloc (.cells #[.int .i64 cn,.int .i64 ct,.slice ca cl cc] 43):=⟨_,rfl⟩
 rw[←hw2,←hT];have hz2:w2.heap[T]?=some (.cells #[.int .i64 cn,.int .i64 ct,.slice ca cl cc] 43):=by rw[hw2,hT];exact heap_alloc_new w1 _
 have hbw1:Below w.heap.size w w1:=HB0.out.trans (HB1.out.mono HB0.out.size);have hb2:Below w.heap.size w w2:=by rw[hw2];exact hbw1.alloc hbw1.size _
 have hi2:IsSta (· < w2.heap.size) w2 ⟨cn,ct,ca,cl,cc⟩ d:=by
  rw[hw2];exact HI.out.same fun b hb=>⟨by rw[World.size_alloc];omega,kM w1 _ _ hb.2⟩
 obtain⟨⟨k0,k1,k2⟩,_⟩:=mH hz2;have HZ2:=hid hz2;have HB2:=hid hb2;have HI2:=hid hi2;clear hT hw2 hz2 hb2 hi2 hbw1;rcases HE.out with ⟨rfl,hd⟩ | ⟨rfl,hd,hz⟩
 ·have hx:=decS_enc hd;have hsz:Sz 2000 d.l:=by
   unfold decS at hd;split at hd
   ·rename_i d' hd';split at hd
    ·obtain rfl:=Option.some.inj hd;have h:=yH (nQ t) 0 ⟨0,0,[]⟩ d' ⟨Nat.le_refl _,fun x hx=>absurd hx (by simp)⟩ hd';have hl:(nQ t).length≤600:=by have:=HSZ.out;have:=jCg t;omega
     exact⟨by have:=h.1;omega,fun x hx=>by have:=h.2 x hx;omega⟩
    ·cases hd
   ·cases hd
  have hen:=jFs ⟨cn,ct,ca,cl,cc⟩ d w2 HI2.out (HV.out w2 HB2.out).1 (HV.out w2 HB2.out).2.1 hsz;rw[hx] at hen;have hck0:kN d=0:=jKg (by rw[hx]);have HCK:Hid (∀w3,Below w2.heap.size w2 w3→Calls Tryz.prog 27 #[.agg #[.int .i64 cn,.int .i64 ct,.slice ca cl cc]] w3 fun e w'=>e=.returned (.int .i64 0)∧Below w3.heap.size w3 w'):=hid fun w3 h=>by
   have q:=kX ⟨cn,ct,ca,cl,cc⟩ d w3 (HI2.out.same fun b hb=>⟨Nat.lt_of_lt_of_le hb h.size,h.block b hb⟩) (HV.out w3 (HB2.out.trans (h.mono HB2.out.size))).1;rw[hck0] at q;exact q
  have HEN:=hid hen;clear hx hen hd hsz hck0 HE;dsimp only[StC.v] at HEN;go_upto_region 8 with (go_at_call 23;refine HEN.out.mono ?_;rintro e w4 ⟨rfl,hb4⟩;have HB4:=hid hb4;clear hb4)
  clear k0 k1 k2;obtain⟨⟨k0,k1,k2⟩,_⟩:=mH (jB HB4.out HZ2.out);go_wp2_with (go_at_call 27;refine(HCK.out w4 HB4.out).mono ?_;rintro e w5 ⟨rfl,hb5⟩)
  go_ret;exact⟨rfl,HB2.out.trans ((HB4.out.trans (hb5.mono HB4.out.size)).mono HB2.out.size)⟩
 ·have hsm:=jEq ⟨cn,ct,ca,cl,cc⟩ ⟨0,0,none,0,0⟩ d ⟨0,0,[]⟩ w2 HI2.out ⟨rfl,⟨by decide,by decide⟩,rfl,⟨by decide,by decide⟩,rfl,Nat.le_refl _,by decide,.inl rfl⟩;rw[hz] at hsm;have e1:jA0 ⟨0,0,[]⟩ ⟨0,0,[]⟩=true:=by simp[jA0,eqL]
  rw[e1] at hsm;have HSM:=hid hsm;clear hsm e1 hd hz HE;dsimp only[StC.v] at HSM;go_wp2_with (go_at_call 26;refine HSM.out.mono ?_;rintro e w4 ⟨rfl,hb4⟩)
  go_ret;exact⟨rfl,HB2.out.trans (hb4.mono HB2.out.size)⟩
end Go.Proofs.YtaofolgaiipcjaaGreatDoor
