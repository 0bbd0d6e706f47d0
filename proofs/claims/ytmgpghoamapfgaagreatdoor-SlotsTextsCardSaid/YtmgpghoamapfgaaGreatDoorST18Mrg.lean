/- A part. -/
import Derived.Test.YtmgpghoamapfgaaGreatDoorST17Mrg
import Derived.Test.YtmgpghoamapfgaaGreatDoorST10Mrg
import Derived.Test.YtmgpghoamapfgaaGreatDoorST14Mrg
import Derived.Below
import Derived.Laws.AppendOwn
import Derived.Maps.Range
import Derived.Laws.NewBlocks
import Derived.Lib.AtoiAllCases
namespace Go.Proofs.YtmgpghoamapfgaaGreatDoor
set_option linter.unusedVariables false
set_option maxRecDepth 100000
set_option maxHeartbeats 16000000
set_option linter.unusedSimpArgs false
section
open Go Go.RowKit
def cL (w:World) (b:Nat) (cs:Array Value):World:={ w with heap:=w.heap.setIfInBounds b (.cells cs 225) }
theorem bW (w:World) (b:Nat) (cs:Array Value):(cL w b cs).heap.size=w.heap.size:=by simp[cL]
theorem aJh {w:World} {b:Nat} {cs:Array Value} (h:w.heap[b]?=some (.cells cs 225)):cL w b cs=w:=by
 unfold cL;have:w.heap.setIfInBounds b (.cells cs 225)=w.heap:=by
  apply Array.ext_getElem?;intro i;rw[Array.getElem?_setIfInBounds];split
  ·rename_i hi;subst hi;have hb:b<w.heap.size:=by
    rcases Nat.lt_or_ge b w.heap.size with q | q
    ·exact q
    ·rw[Array.getElem?_eq_none q] at h;cases h
   rw[if_pos hb,h]
  ·rfl
 rw[this]
theorem lV (w:World) (b:Nat) (cs:Array Value) (hb:b<w.heap.size):(cL w b cs).heap[b]?=some (.cells cs 225):=by
 unfold cL;rw[Array.getElem?_setIfInBounds];simp[hb]
theorem aI (w:World) (b:Nat) (cs:Array Value) (i:Nat) (hi:i≠b):(cL w b cs).heap[i]?=w.heap[i]?:=by
 unfold cL;rw[Array.getElem?_setIfInBounds,if_neg (fun e=>hi e.symm)]
theorem eW (w:World) (b:Nat) (cs:Array Value) (i:Nat) (hb:b<w.heap.size):(cL w b cs).cell? ⟨b,i,none⟩=cs[i]?:=by
 unfold World.cell?;rw[lV w b cs hb];simp
theorem cK (w:World) (b b':Nat) (cs:Array Value) (i:Nat) (hb:b'≠b):(cL w b cs).cell? ⟨b',i,none⟩=w.cell? ⟨b',i,none⟩:=by
 unfold World.cell?;rw[aI w b cs b' hb]
theorem dF (w:World) (b:Nat) (cs:Array Value) (i:Nat):(cL w b cs).frozen? ⟨b,i,none⟩=false:=by
 unfold World.frozen?;by_cases hb:b<w.heap.size
 ·rw[lV w b cs hb];simp
 ·have h:(cL w b cs).heap[b]?=none:=Array.getElem?_eq_none (by rw[bW];omega);rw[h]
theorem bP (w:World) (b b':Nat) (cs:Array Value) (i:Nat) (hb:b'≠b):(cL w b cs).frozen? ⟨b',i,none⟩=w.frozen? ⟨b',i,none⟩:=by
 unfold World.frozen?;rw[aI w b cs b' hb]
theorem cJ (w:World) (b:Nat) (cs:Array Value) (i:Nat) (v:Value):(cL w b cs).setCell ⟨b,i,none⟩ v=cL w b (cs.setIfInBounds i v):=by
 unfold World.setCell cL;congr 1;apply Array.ext_getElem?;intro k;simp only[Array.getElem?_modify,Array.getElem?_setIfInBounds];by_cases hk:b=k
 ·subst hk;by_cases hb:b<w.heap.size<;>simp[hb]
 ·simp[hk]
theorem bM (w:World) (b:Nat) (cs cs':Array Value):(cL w b cs).grownBy (cL w b cs') (some b) :=
 ⟨rfl,rfl,rfl,by rw[bW,bW];exact Nat.le_refl _,fun i hi hne=>by
   have:i≠b:=fun e=>hne (by rw[e]);rw[aI _ _ _ _ this,aI _ _ _ _ this]⟩
abbrev rdA (s:ByteArray) (nx k p:Int) (t b:ByteArray) (n sc:Int) (d x:Bool) (e o:Int):Array Value :=
 #[.string s,I6 nx,I6 k,I6 p,.string t,.string b,I6 n,I6 sc,.bool d,.bool x,I6 e,I6 o]
structure IsRd (w:World) (b:Nat) (s:ByteArray) (r:Rd):Prop where
 at_:w.heap[b]?=some (.cells (rdA s r.nx r.k r.p r.t r.b r.n r.sc r.d r.x r.e r.o) 225)
 ok:r.Ok s
theorem IsRd.lt {w:World} {b:Nat} {s:ByteArray} {r:Rd} (h:IsRd w b s r):b<w.heap.size:=by
 rcases Nat.lt_or_ge b w.heap.size with q | q
 ·exact q
 ·have:=h.at_;rw[Array.getElem?_eq_none q] at this;cases this
theorem IsRd.put {w:World} {b:Nat} {s:ByteArray} {r:Rd} (h:IsRd w b s r):∃W,b<W.heap.size/\w=cL W b (rdA s r.nx r.k r.p r.t r.b r.n r.sc r.d r.x r.e r.o) :=
 ⟨w,h.lt,(aJh h.at_).symm⟩
theorem IsRd.grown {w w':World} {b:Nat} {s:ByteArray} {r:Rd} (h:IsRd w b s r) {row:Option Nat} (hg:w.grownBy w' row) (hr:some b≠row):IsRd w' b s r :=
 ⟨(hg.block b h.lt hr).trans h.at_,h.ok⟩
theorem IsRd.alloc {w:World} {b:Nat} {s:ByteArray} {r:Rd} (h:IsRd w b s r) (o:Obj):IsRd (w.alloc o) b s r :=
 h.grown (World.grownBy_alloc w o none) gd
theorem dH (W:World) (b:Nat) (s:ByteArray) (r:Rd) (hb:b<W.heap.size) (ok:r.Ok s) (cs:Array Value) (hc:cs=rdA s r.nx r.k r.p r.t r.b r.n r.sc r.d r.x r.e r.o):IsRd (cL W b cs) b s r :=
 ⟨by rw[lV W b cs hb,hc],ok⟩
end
section
open Go Go.RowKit Go.Shelf
attribute [local go_sem] cJ eW cK dF bP bW
theorem bC (b:Nat) (s:ByteArray) (r:Rd) (p:Nat) (e:Int) (w:World) (h:IsRd w b s r) :
 CP 232 #[.pointer (some ⟨b,0,none⟩),I6 p,I6 e] w fun x w'=>x=.returned (.tuple #[])/\IsRd w' b s (r.fail p e)/\w.grownBy w' (some b):=by
 have ok:=hid h.ok;obtain⟨W,hW,hw⟩:=h.put;clear h;subst hw;by_cases he:r.e=0
 ·go_enter Tryz.func232,Tryz.ntmps232
  go_wp2;refine bodyPost_end (results_none rfl _ _ _) rfl ?_;refine⟨rfl,?_,?_⟩
  ·refine dH W b s _ hW (Rd.fail_ok ok.out p e) _ ?_;rw[Rd.fail,if_pos he]
  ·exact bM _ _ _ _
 ·go_enter Tryz.func232,Tryz.ntmps232
  go_wp2;refine bodyPost_end (results_none rfl _ _ _) rfl ?_;refine⟨rfl,?_,?_⟩
  ·refine dH W b s _ hW (Rd.fail_ok ok.out p e) _ ?_;rw[Rd.fail,if_neg he]
  ·exact bM _ _ _ _
theorem sL (c:UInt8) (w:World):CP 289 #[.int .u8 c.toNat] w fun x w'=>x=.returned (.bool (mP c))/\w'=w:=by
 have h:mP c=((decide ((97:Int)<=c.toNat)&&decide ((c.toNat:Int)<=122))||(decide ((65:Int)<=c.toNat)&&decide ((c.toNat:Int)<=90))):=by
  unfold mP;congr 2<;>simp<;>omega
 rw[h];clear h;obtain⟨n,hn⟩:=ez (c.toNat:Int)
 rw[<-hn];clear hn;by_cases h1:(97:Int)<=n<;>by_cases h2:n<=122<;>by_cases h3:(65:Int)<=n<;>by_cases h4:n<=90 <;>
  (go_enter Tryz.func289,Tryz.ntmps289;go_wp2;go_ret;exact⟨by simp[h1,h2,h3,h4],rfl⟩)
theorem mH (c:UInt8) (w:World):CP 291 #[.int .u8 c.toNat] w fun x w'=>x=.returned (.bool (bD c))/\w'=w:=by
 have h:bD c=(decide ((48:Int)<=c.toNat)&&decide ((c.toNat:Int)<=57)):=by
  unfold bD;congr 2<;>simp<;>omega
 rw[h];clear h;obtain⟨n,hn⟩:=ez (c.toNat:Int)
 rw[<-hn];clear hn;by_cases h1:(48:Int)<=n<;>by_cases h2:n<=57 <;>
  (go_enter Tryz.func291,Tryz.ntmps291;go_wp2;go_ret;exact⟨by simp[h1,h2],rfl⟩)
theorem aE8 (c:UInt8) (w:World):CP 290 #[.int .u8 c.toNat] w fun x w'=>x=.returned (.bool (lN c))/\w'=w:=by
 have h:lN c=(mP c||(bD c||decide ((c.toNat:Int)=95))):=by
  unfold lN;congr 2;rw[Bool.eq_iff_iff];simp;omega
 rw[h];clear h;have HL:=hid (sL c w);have HD:=hid (mH c w);obtain⟨l,hl⟩:=ez (mP c)
 obtain⟨d,hd⟩:=ez (bD c)
 rw[<-hl] at HL ⊢;rw[<-hd] at HD ⊢;clear hl hd;obtain⟨n,hn⟩:=ez (c.toNat:Int)
 rw[<-hn] at HL HD ⊢;clear hn;cases l<;>cases d<;>rcases Decidable.em (n=95) with rfl | h1 <;>
  (go_enter Tryz.func290,Tryz.ntmps290
   go_wp2_with (first
    | (go_at_call 289;refine HL.out.mono ?_;rintro e w1 ⟨rfl,rfl⟩)
    | (go_at_call 291;refine HD.out.mono ?_;rintro e w1 ⟨rfl,rfl⟩))
   go_ret;exact⟨by simp[*],rfl⟩)
theorem strEq' (a b:ByteArray):(a.toList==b.toList)=decide (a=b):=by
 rw[aI0,decide_eq_decide];exact⟨fun h=>ByteArray.ext (Array.ext' h),fun h=>by rw[h]⟩
theorem tE (b:Nat) (s:ByteArray) (r:Rd) (t:ByteArray) (w:World) (h:IsRd w b s r) :
 CP 293 #[.pointer (some ⟨b,0,none⟩),.string t] w fun x w'=>x=.returned (.bool (r.is t))/\w'=w:=by
 have ok:=hid h.ok;obtain⟨W,hW,hw⟩:=h.put;clear h;subst hw;have hi:r.is t=(decide (r.e=0)&&((decide ((r.k:Int)=5)||decide ((r.k:Int)=1))&&(r.t.toList==t.toList))):=by
  have a1:decide ((r.k:Int)=5)=decide (r.k=5):=by rw[decide_eq_decide];omega
  have a2:decide ((r.k:Int)=1)=decide (r.k=1):=by rw[decide_eq_decide];omega
  unfold Rd.is;rw[strEq',a1,a2]
 rw[hi];clear hi;obtain⟨q,hq⟩:∃q,(r.t.toList==t.toList)=q:=⟨_,rfl⟩
 obtain⟨kk,hkk⟩:∃kk:Int,(r.k:Int)=kk:=⟨_,rfl⟩
 obtain⟨ee,hee⟩:∃ee:Int,r.e=ee:=⟨_,rfl⟩
 rw[hkk,hq,hee];clear hkk hee;by_cases he:ee=0
 ·subst he;by_cases h5:kk=5
  ·subst h5;go_enter Tryz.func293,Tryz.ntmps293
   go_wp2;go_ret;exact⟨by simp,rfl⟩
  ·by_cases h1:kk=1
   ·subst h1;go_enter Tryz.func293,Tryz.ntmps293
    go_wp2;go_ret;exact⟨by simp,rfl⟩
   ·go_enter Tryz.func293,Tryz.ntmps293
    go_wp2;go_ret;exact⟨by simp[h1,h5],rfl⟩
 ·go_enter Tryz.func293,Tryz.ntmps293
  go_wp2;go_ret;exact⟨by simp[he],rfl⟩
theorem hex_tab:∀n:Fin 256,iA (UInt8.ofNat n.val)=Lib.indexByte [48,49,50,51,52,53,54,55,56,57,97,98,99,100,101,102] (UInt8.ofNat (uY n.val)):=by decide +kernel
theorem sp_tab:∀n:Fin 256,spC (UInt8.ofNat n.val)=decide (0<=Lib.indexByte [32,9,13,10] (UInt8.ofNat n.val)):=by decide +kernel
theorem hex_idx (c:UInt8):iA c=Lib.indexByte [48,49,50,51,52,53,54,55,56,57,97,98,99,100,101,102] (UInt8.ofNat (uY c.toNat)):=by
 have:=hex_tab ⟨c.toNat,c.toNat_lt⟩
 simpa using this
theorem sp_idx (c:UInt8):spC c=decide (0<=Lib.indexByte [32,9,13,10] c):=by
 have:=sp_tab ⟨c.toNat,c.toNat_lt⟩
 simpa using this
theorem aG1 (c:UInt8) (w:World):CP 285 #[.int .u8 c.toNat] w fun x w'=>x=.returned (.bool (spC c))/\w'=w:=by
 have HI:=hid (Tryz.strings_IndexByte ⟨#[32,9,13,10]⟩ (c.toNat:Int) w);rw[sp_idx];rw[show((c.toNat:Int).toNat.toUInt8)=c by simp] at HI;obtain⟨i,hi⟩:=ez (Lib.indexByte [32,9,13,10] c)
 rw[<-hi] at HI ⊢;clear hi;go_enter Tryz.func285,Tryz.ntmps285
 go_wp2_with (go_at_call 145;refine HI.out.mono ?_;rintro e w1 ⟨rfl,rfl⟩)
 go_ret;exact⟨by simp,rfl⟩
theorem aE9 (c:UInt8) (w:World):CP 329 #[.int .u8 c.toNat] w fun x w'=>x=.returned (I6 (iA c))/\w'=w:=by
 rw[hex_idx];have HI:=hid (Tryz.strings_IndexByte ⟨#[48,49,50,51,52,53,54,55,56,57,97,98,99,100,101,102]⟩ (uY c.toNat:Int) w);rw[show((uY c.toNat:Int).toNat.toUInt8)=UInt8.ofNat (uY c.toNat) by simp] at HI;obtain⟨i,hi⟩:=ez (Lib.indexByte [48,49,50,51,52,53,54,55,56,57,97,98,99,100,101,102] (UInt8.ofNat (uY c.toNat)))
 rw[<-hi] at HI ⊢;clear hi;have hlt:=c.toNat_lt;obtain⟨n,hn⟩:=ez c.toNat
 rw[<-hn] at HI ⊢ hlt;clear hn;by_cases h1:65<=n/\n<=70
 ·rw[show((uY n:Nat):Int)=(n:Int)+32 by unfold uY;rw[if_pos h1];omega] at HI;have h2:(65:Int)<=n:=by omega
  have h3:(n:Int)<=70:=by omega
  have h4:IntKind.u8.wrap ((n:Int)+32)=(n:Int)+32:=IntWalk.u8_in _ ⟨by omega,by omega⟩;go_enter Tryz.func329,Tryz.ntmps329
  go_wp2_with (go_at_call 145;refine HI.out.mono ?_;rintro e w1 ⟨rfl,rfl⟩)
  go_ret;exact⟨rfl,rfl⟩
 ·rw[show uY n=n by unfold uY;rw[if_neg h1]] at HI;by_cases h2:(65:Int)<=n
  ·have h3:¬ (n:Int)<=70:=by omega
   go_enter Tryz.func329,Tryz.ntmps329
   go_wp2_with (go_at_call 145;refine HI.out.mono ?_;rintro e w1 ⟨rfl,rfl⟩)
   go_ret;exact⟨rfl,rfl⟩
  ·go_enter Tryz.func329,Tryz.ntmps329
   go_wp2_with (go_at_call 145;refine HI.out.mono ?_;rintro e w1 ⟨rfl,rfl⟩)
   go_ret;exact⟨rfl,rfl⟩
theorem yO (b:Nat) (s:ByteArray) (r:Rd) (i:Nat) (w:World) (h:IsRd w b s r) (hi:i<=s.size) (hs:s.size<=140737488351232) :
 CP 284 #[.pointer (some ⟨b,0,none⟩),I6 i,.func (.func 291) #[] #[]] w fun x w'=>x=.returned (I6 (bL s.data.toList i bD))/\w'=w:=by
 have ok:=hid h.ok;obtain⟨W,hW,hw⟩:=h.put;clear h;subst hw;go_enter Tryz.func284,Tryz.ntmps284
 go_wp2
 go_loopw [1] (fun v wr=>∃k:Nat,k<=s.size/\v=I6 k/\bL s.data.toList k bD=bL s.data.toList i bD/\wr=cL W b (rdA s r.nx r.k r.p r.t r.b r.n r.sc r.d r.x r.e r.o)) (fun v _=>s.size-(intOf v).toNat)
 case atStart=>exact⟨i,hi,rfl,rfl,rfl⟩
 case round =>
  obtain⟨k,hk,rfl,hrun,rfl⟩:=hrel;have HR:=hid hrun;clear hrun hi;by_cases hlt:k<s.size
  ·have hlt':(k:Int)<(s.size:Int):=by omega
   have hk0:(0:Int)<=(k:Int):=by omega
   have HC:=hid (mH s[k] (cL W b (rdA s r.nx r.k r.p r.t r.b r.n r.sc r.d r.x r.e r.o)));have hg:=jV s k hlt;obtain⟨q,hq⟩:=ez (bD s[k])
   rw[<-hq] at HC;have HQ:=hid hq;have HG:=hid hg;clear hq hg;cases q
   ·go_wp2_with (go_at_call 291;refine HC.out.mono ?_;rintro e w1 ⟨rfl,rfl⟩)
    go_ret;refine⟨?_,rfl⟩;rw[<-HR.out,fV s.data.toList k bD (fun c hc=>by rw[HG.out] at hc;cases hc;exact HQ.out.symm)];rfl
   ·go_wp2_with (go_at_call 291;refine HC.out.mono ?_;rintro e w1 ⟨rfl,rfl⟩)
    refine⟨⟨k+1,by omega,by go_num,?_,trivial⟩,by simp[intOf];omega⟩;rw[<-HR.out,nW s.data.toList k bD s[k] HG.out HQ.out.symm]
  ·obtain rfl:k=s.size:=by omega
   go_wp2;go_ret;refine⟨?_,rfl⟩;have hln:s.data.toList.length=s.size:=rfl;rw[<-HR.out,fV s.data.toList s.size bD (fun c hc=>by rw[List.getElem?_eq_none (Nat.le_of_eq hln)] at hc;cases hc)];rfl
theorem aLw (b:Nat) (s:ByteArray) (r:Rd) (i:Nat) (w:World) (h:IsRd w b s r) (hi:i<=s.size) (hs:s.size<=140737488351232) :
 CP 284 #[.pointer (some ⟨b,0,none⟩),I6 i,.func (.func 290) #[] #[]] w fun x w'=>x=.returned (I6 (bL s.data.toList i lN))/\w'=w:=by
 have ok:=hid h.ok;obtain⟨W,hW,hw⟩:=h.put;clear h;subst hw;go_enter Tryz.func284,Tryz.ntmps284
 go_wp2
 go_loopw [1] (fun v wr=>∃k:Nat,k<=s.size/\v=I6 k/\bL s.data.toList k lN=bL s.data.toList i lN/\wr=cL W b (rdA s r.nx r.k r.p r.t r.b r.n r.sc r.d r.x r.e r.o)) (fun v _=>s.size-(intOf v).toNat)
 case atStart=>exact⟨i,hi,rfl,rfl,rfl⟩
 case round =>
  obtain⟨k,hk,rfl,hrun,rfl⟩:=hrel;have HR:=hid hrun;clear hrun hi;by_cases hlt:k<s.size
  ·have hlt':(k:Int)<(s.size:Int):=by omega
   have hk0:(0:Int)<=(k:Int):=by omega
   have HC:=hid (aE8 s[k] (cL W b (rdA s r.nx r.k r.p r.t r.b r.n r.sc r.d r.x r.e r.o)));have hg:=jV s k hlt;obtain⟨q,hq⟩:=ez (lN s[k])
   rw[<-hq] at HC;have HQ:=hid hq;have HG:=hid hg;clear hq hg;cases q
   ·go_wp2_with (go_at_call 290;refine HC.out.mono ?_;rintro e w1 ⟨rfl,rfl⟩)
    go_ret;refine⟨?_,rfl⟩;rw[<-HR.out,fV s.data.toList k lN (fun c hc=>by rw[HG.out] at hc;cases hc;exact HQ.out.symm)];rfl
   ·go_wp2_with (go_at_call 290;refine HC.out.mono ?_;rintro e w1 ⟨rfl,rfl⟩)
    refine⟨⟨k+1,by omega,by go_num,?_,trivial⟩,by simp[intOf];omega⟩;rw[<-HR.out,nW s.data.toList k lN s[k] HG.out HQ.out.symm]
  ·obtain rfl:k=s.size:=by omega
   go_wp2;go_ret;refine⟨?_,rfl⟩;have hln:s.data.toList.length=s.size:=rfl;rw[<-HR.out,fV s.data.toList s.size lN (fun c hc=>by rw[List.getElem?_eq_none (Nat.le_of_eq hln)] at hc;cases hc)];rfl
theorem aJ9 (b:Nat) (s:ByteArray) (r:Rd) (i:Nat) (w:World) (h:IsRd w b s r) (hi:i<=s.size) (hs:s.size<=140737488351232) :
 CP 284 #[.pointer (some ⟨b,0,none⟩),I6 i,.func (.func 285) #[] #[]] w fun x w'=>x=.returned (I6 (bL s.data.toList i spC))/\w'=w:=by
 have ok:=hid h.ok;obtain⟨W,hW,hw⟩:=h.put;clear h;subst hw;go_enter Tryz.func284,Tryz.ntmps284
 go_wp2
 go_loopw [1] (fun v wr=>∃k:Nat,k<=s.size/\v=I6 k/\bL s.data.toList k spC=bL s.data.toList i spC/\wr=cL W b (rdA s r.nx r.k r.p r.t r.b r.n r.sc r.d r.x r.e r.o)) (fun v _=>s.size-(intOf v).toNat)
 case atStart=>exact⟨i,hi,rfl,rfl,rfl⟩
 case round =>
  obtain⟨k,hk,rfl,hrun,rfl⟩:=hrel;have HR:=hid hrun;clear hrun hi;by_cases hlt:k<s.size
  ·have hlt':(k:Int)<(s.size:Int):=by omega
   have hk0:(0:Int)<=(k:Int):=by omega
   have HC:=hid (aG1 s[k] (cL W b (rdA s r.nx r.k r.p r.t r.b r.n r.sc r.d r.x r.e r.o)));have hg:=jV s k hlt;obtain⟨q,hq⟩:=ez (spC s[k])
   rw[<-hq] at HC;have HQ:=hid hq;have HG:=hid hg;clear hq hg;cases q
   ·go_wp2_with (go_at_call 285;refine HC.out.mono ?_;rintro e w1 ⟨rfl,rfl⟩)
    go_ret;refine⟨?_,rfl⟩;rw[<-HR.out,fV s.data.toList k spC (fun c hc=>by rw[HG.out] at hc;cases hc;exact HQ.out.symm)];rfl
   ·go_wp2_with (go_at_call 285;refine HC.out.mono ?_;rintro e w1 ⟨rfl,rfl⟩)
    refine⟨⟨k+1,by omega,by go_num,?_,trivial⟩,by simp[intOf];omega⟩;rw[<-HR.out,nW s.data.toList k spC s[k] HG.out HQ.out.symm]
  ·obtain rfl:k=s.size:=by omega
   go_wp2;go_ret;refine⟨?_,rfl⟩;have hln:s.data.toList.length=s.size:=rfl;rw[<-HR.out,fV s.data.toList s.size spC (fun c hc=>by rw[List.getElem?_eq_none (Nat.le_of_eq hln)] at hc;cases hc)];rfl
end
section
open Go Go.RowKit Go.Shelf
theorem bV (l:List UInt8) : -9223372036854775808<=dO l/\dO l<=9223372036854775807:=by
 unfold dO;split
 ·rename_i v h;exact Lib.atoiAll_bounds h
 ·exact Lib.atoiSat_bounds l
 ·omega
theorem oG (s:ByteArray) (hs:s.size<=1000000) (w:World) (hN:NumVars w) :
 CP 148 #[.string s] w fun x w'=>∃ev,x=.returned (.tuple #[I6 (dO s.data.toList),ev])/\((cG s.data.toList=true/\ev=.nilIface)\/(cG s.data.toList=false/\∃p,ev=.iface 311 p))/\BB w w':=by
 obtain⟨⟨e1,h1,k1⟩,⟨e2,h2,k2⟩,_⟩:=hN;obtain⟨r,hr⟩:∃r,Lib.atoiAll s.data.toList=r:=⟨_,rfl⟩
 by_cases hok:∃v,r=.ok v
 ·obtain⟨v,rfl⟩:=hok;refine(Tryz.strconv_Atoi_ok s ga v hr w).mono ?_;rintro e w1 ⟨rfl,hw1⟩;refine⟨_,?_,.inl ⟨by unfold cG;rw[hr],rfl⟩,hw1.elim (fun h=>h▸Below.refl _ _) (fun ⟨_,h⟩=>h▸Lib.bytesWorld_below _ _ _)⟩;unfold dO;rw[hr]
 by_cases hra:r=.range
 ·subst hra;refine(Tryz.strconv_Atoi_range s ga hr e2 w h2 k2).mono ?_;rintro e w1 ⟨N,rfl,_,_,hb1⟩;have hx:cG s.data.toList=false/\dO s.data.toList=Lib.atoiSat s.data.toList:=by
   unfold cG dO;rw[hr];exact⟨rfl,rfl⟩
  exact⟨.iface 311 (.pointer (some ⟨N,0,none⟩)),by rw[hx.2],.inr ⟨hx.1,_,rfl⟩,hb1⟩
 refine(aFb s ga (fun v h=>hok ⟨v,hr.symm.trans h⟩) (fun h=>hra (hr.symm.trans h)) e1 w h1 k1).mono ?_;rintro e w1 ⟨N,rfl,_,_,hb1⟩;have hx:cG s.data.toList=false/\dO s.data.toList=0:=by
  unfold cG dO;rw[hr];cases r
  ·exact absurd ⟨_,rfl⟩ hok
  ·exact⟨rfl,rfl⟩
  ·exact absurd rfl hra
 exact⟨.iface 311 (.pointer (some ⟨N,0,none⟩)),by rw[hx.2],.inr ⟨hx.1,_,rfl⟩,hb1⟩
theorem abs_any (n:Int) (w:World):CP 270 #[I6 n] w fun e w'=>e=.returned (I6 (max n (IntKind.i64.wrap (-n))))/\w'=w:=by
 obtain⟨m,hm⟩:=ez (IntKind.i64.wrap (-n))
 rw[<-hm];have h:=hm.symm;clear hm;go_enter Tryz.func270,Tryz.ntmps270
 go_wp2;go_ret;exact⟨rfl,rfl⟩
theorem vZ (n:Int) (s:Nat) (hn : -9223372036854775808<=n/\n<=9223372036854775807) (hs:s<=1000) (hbad:999999999999999<n.natAbs\/12<s) (w:World):CP 269 #[.agg #[I6 n,I6 (s:Int)]] w (Rt (I6 2) w):=by
 have hA:=fun w=>abs_any n w;obtain⟨m,hm⟩:=ez (max n (IntKind.i64.wrap (-n)))
 rw[<-hm] at hA;have HA:=hid hA;clear hA;have hcase:999999999999999<m\/(m<=999999999999999/\n < -999999999999999)\/(m<=999999999999999/\¬ n < -999999999999999/\(12:Int)<(s:Int)):=by
  by_cases hmin:n = -9223372036854775808
  ·subst hmin;have:m = -9223372036854775808:=by rw[hm];decide
   omega
  ·rw[IntWalk.i64_in (-n) ga] at hm;omega
 have k3:¬ (s:Int)<0:=by omega
 clear hm hbad hn hs;rcases hcase with h | ⟨h1,h2⟩ | ⟨h1,h2,h3⟩
 ·go_enter Tryz.func269,Tryz.ntmps269
  go_wp2_with (go_at_call 270;refine(HA.out _).mono ?_;rintro e w' ⟨rfl,rfl⟩)
  go_ret;exact⟨rfl,(bR w).alloc lr _⟩
 ·have k1:¬ 999999999999999<m:=by omega
  go_enter Tryz.func269,Tryz.ntmps269
  go_wp2_with (go_at_call 270;refine(HA.out _).mono ?_;rintro e w' ⟨rfl,rfl⟩)
  go_ret;exact⟨rfl,(bR w).alloc lr _⟩
 ·have k1:¬ 999999999999999<m:=by omega
  go_enter Tryz.func269,Tryz.ntmps269
  go_wp2_with (go_at_call 270;refine(HA.out _).mono ?_;rintro e w' ⟨rfl,rfl⟩)
  go_ret;exact⟨rfl,(bR w).alloc lr _⟩
theorem xU (n:Int) (s:Nat) (hn : -9223372036854775808<=n/\n<=9223372036854775807) (hs:s<=1000) (w:World) (hT:Tabs w):CP 217 #[.agg #[I6 n,I6 (s:Int)]] w (Rt (.tuple #[.string ⟨(eU n s).1.toArray⟩,I6 (eU n s).2]) w):=by
 by_cases hbad:999999999999999<n.natAbs\/12<s
 ·rw[show eU n s=([],2) by unfold eU;rw[if_pos hbad]];have HCK:=hid (vZ n s hn hs hbad (w.alloc (.cells #[I6 n,I6 (s:Int)] 221)));have HB0:=hid (show BB w (w.alloc (.cells #[I6 n,I6 (s:Int)] 221)) from(bR w).alloc lr _);clear hn hs hbad hT;go_enter Tryz.func217,Tryz.ntmps217
  go_wp2_with (go_at_call 269;refine HCK.out.mono ?_;rintro e w1 ⟨rfl,hb1⟩)
  refine bodyPost_ret (v:=.tuple #[.string ⟨#[]⟩,I6 2]) (by simp[results,Tryz.results217,go_sem]) rfl ?_;exact⟨rfl,HB0.out.trans (hb1.mono HB0.out.size)⟩
 ·rw[show eU n s=(cM n s,0) by unfold eU;rw[if_neg hbad]];exact tS n s ga ga w hT
theorem eC {w:World} {b:Nat} {c:Array Value} {t:TypeId} (h:w.heap[b]?=some (.cells c t)) (i:Nat):w.frozen? ⟨b,i,none⟩=false:=by
 unfold World.frozen?;simp only[h];simp
theorem cW (w:World) (o:Obj) (i:Nat) (h:i<w.heap.size):(w.alloc o).heap[i]?=w.heap[i]?:=by
 unfold World.alloc;simp[Array.getElem?_push,Nat.ne_of_lt h]
theorem qU (l sep:List UInt8):(Lib.cut l sep).1.length+(Lib.cut l sep).2.1.length<=l.length:=by
 unfold Lib.cut;split
 ·simp only[List.length_take,List.length_drop];omega
 ·simp
theorem aKp (s:ByteArray) (hs:s.size<=100000) (w:World) (hT:Tabs w) (hN:NumVars w) :
 CP 330 #[.string s] w (Rt (.tuple #[.agg #[I6 (kF s.data.toList).1,I6 ((kF s.data.toList).2.1:Int)],I6 (kF s.data.toList).2.2]) w):=by
 have hsl:s.data.toList.length=s.size:=rfl;have HB0:=hid (show BB w (w.alloc (.cells #[I6 0,I6 0] 221)) from(bR w).alloc lr _);by_cases hE:s=⟨#[]⟩
 ·subst hE;rw[show kF (⟨#[]⟩:ByteArray).data.toList=(0,0,4) from rfl];clear hT hN;go_enter Tryz.func330,Tryz.ntmps330
  go_wp2;refine bodyPost_ret (v:=.tuple #[.agg #[I6 0,I6 0],I6 4]) (by simp[results,Tryz.results330,go_sem]) rfl ?_;exact⟨rfl,HB0.out⟩
 have hne:s.data.toList≠[]:=fun h=>hE (ByteArray.ext (Array.ext' h));have hse:s.toList.isEmpty=false:=by
  rw[ByteArray.toList_eq];cases hx:s.data.toList with
  | nil=>exact absurd hx hne
  | cons c l=>rfl
 have HNE:=hid hne;clear hne hE;by_cases hL:17<s.size
 ·have HD:=hid (show kF s.data.toList=(0,0,5) by unfold kF;rw[if_neg HNE.out,if_pos ga]);have hL':(17:Int)<(s.size:Int):=by omega
  clear hT hN;go_enter Tryz.func330,Tryz.ntmps330
  go_wp2;refine bodyPost_ret (v:=.tuple #[.agg #[I6 0,I6 0],I6 5]) (by simp[results,Tryz.results330,go_sem]) rfl ?_;exact⟨by rw[HD.out];rfl,HB0.out⟩
 have hL':¬ (17:Int)<(s.size:Int):=by omega
 obtain⟨m,hm⟩:=hN.2.2;have hcu:=Tryz.strings_Cut s ⟨#[46]⟩ m (w.alloc (.cells #[I6 0,I6 0] 221)) ga (pK HB0.out hm);obtain⟨a,ha⟩:=ez ((Lib.cut s.data.toList [46]).1)
 obtain⟨b,hb⟩:=ez ((Lib.cut s.data.toList [46]).2.1)
 obtain⟨pt,hpt⟩:=ez ((Lib.cut s.data.toList [46]).2.2)
 have hlen:a.length+b.length<=17:=by
  have:=qU s.data.toList [46];rw[<-ha,<-hb] at this;omega
 have hat:=fun w' hN'=>oG ⟨(a++b).toArray⟩ (by rw[aU];simp;omega) w' hN';obtain⟨n,hn⟩:=ez (dO (a++b))
 obtain⟨ok,hok⟩:=ez (cG (a++b))
 have hnb:=bV (a++b);rw[<-hn] at hnb;have htx:=fun w' hT'=>xU n b.length hnb ga w' hT';obtain⟨t,ht⟩:=ez (⟨(eU n b.length).1.toArray⟩:ByteArray)
 obtain⟨te,hte⟩:=ez ((eU n b.length).2)
 have hD:kF s.data.toList=if ok=false\/te≠0\/t.data.toList≠s.data.toList\/(pt=true/\b=[]) then (0,0,13) else (n,b.length,0):=by
  unfold kF;rw[if_neg HNE.out,if_neg ga];dsimp only;rw[<-ha,<-hb,<-hpt,<-hn,<-hok,<-hte,ht]
 rw[show(⟨#[46]⟩:ByteArray).data.toList=[46] from rfl,<-ha,<-hb,<-hpt] at hcu;rw[show(⟨(a++b).toArray⟩:ByteArray).data.toList=a++b from rfl,<-hn,<-hok] at hat
 rw[<-ht,<-hte] at htx;have HCU:=hid hcu;have hbz:(⟨b.toArray⟩:ByteArray).size=b.length:=aU b;have hadd:(⟨a.toArray⟩:ByteArray)++⟨b.toArray⟩=⟨(a++b).toArray⟩:=bA a b;obtain⟨sa,hsa⟩:=ez (⟨a.toArray⟩:ByteArray)
 obtain⟨sb,hsb⟩:=ez (⟨b.toArray⟩:ByteArray)
 obtain⟨sab,hsab⟩:=ez (⟨(a++b).toArray⟩:ByteArray)
 obtain⟨qt,hqt⟩:∃qt,(t.toList==s.toList)=qt:=⟨_,rfl⟩
 have hqn:(t.toList != s.toList) = !qt:=by rw[bne,hqt]
 have hqt':=hqt;rw[aI0] at hqt';obtain⟨qb,hqb⟩:∃qb,sb.toList.isEmpty=qb:=⟨_,rfl⟩
 have hqb':decide (b=[])=qb:=by
  rw[<-hqb,ByteArray.toList_eq,hsb];cases b<;>rfl
 have HD:=hid (show kF s.data.toList=if (ok&&(decide (te=0)&&(qt && !(pt&&qb))))=true then (n,b.length,0) else (0,0,13) by
  rw[hD,<-hqt',<-hqb'];cases ok<;>cases pt<;>by_cases h1:te=0<;>by_cases h2:t.data.toList=s.data.toList<;>by_cases h3:b=[]<;>simp[h1,h2,h3])
 rw[<-hsa,<-hsb] at HCU hadd;rw[<-hsab] at hadd hat
 have hsz:sa.size+sb.size<=17:=by rw[hsa,hsb,aU,aU];exact hlen
 rw[<-hsb] at hbz;have HAT:=hid hat
 have HTX:=hid htx;clear hcu hat htx hD ha hb hpt hn hok ht hte hsa hsb hsab hqt' hqb' hlen hnb hm hL HNE hsl hs;have HTT:=hid (hT.below HB0.out);have HR3:=hid (fun (w1 w2 w3:World) (b1:BB (w.alloc (.cells #[I6 0,I6 0] 221)) w1) (b2:BB w1 w2) (b3:BB (w2.alloc (.cells #[I6 n,I6 (b.length:Int)] 221)) w3)=>(show w3.heap[w.heap.size]?=some (.cells #[I6 0,I6 0] 221) from by
  have z0:w.heap.size<(w.alloc (.cells #[I6 0,I6 0] 221)).heap.size:=by simp
  have z1:=b1.size;have z2:=b2.size;rw[b3.block _ (by simp;simp at z0 z1;omega),cW _ _ _ (by simp at z0 z1;omega),b2.block _ (by simp at z0 z1;omega),b1.block _ z0];exact heap_alloc_new _ _))
 have HO:=hid (fun (w2 w3:World) (b3:BB (w2.alloc (.cells #[I6 n,I6 (b.length:Int)] 221)) w3)=>(show w3.heap[w2.heap.size]?=some (.cells #[I6 n,I6 (b.length:Int)] 221) from by
  rw[b3.block _ gd];exact heap_alloc_new _ _))
 have HNN:=hid (hN.below HB0.out);clear hT hN;cases ok
 ·skip
  go_enter Tryz.func330,Tryz.ntmps330
  go_wp2_with (first
   | (go_at_call 217;refine(HTX.out _ (HTT.out.below ((HB1.out.trans (HB2.out.mono HB1.out.size)).alloc (Nat.le_trans HB1.out.size HB2.out.size) _))).mono ?_;rintro e w3 ⟨rfl,hb3⟩;have HB3:=hid hb3;clear hb3;have hr3:=HR3.out w1 w2 w3 HB1.out HB2.out HB3.out;have c0:w3.cell? ⟨w.heap.size,0,none⟩=some (I6 0):=aA hr3 0;have c1:w3.cell? ⟨w.heap.size,1,none⟩=some (I6 0):=aA hr3 1;have f0:=eC hr3 0;have f1:=eC hr3 1;have HO3:=hid (HO.out w2 w3 HB3.out);have d0:w3.cell? ⟨w2.heap.size,0,none⟩=some (I6 n):=aA HO3.out 0;have d1:w3.cell? ⟨w2.heap.size,1,none⟩=some (I6 (b.length:Int)):=aA HO3.out 1;have HH:=hid hr3;clear hr3)
   | (go_at_call 148;refine(HAT.out w1 (HNN.out.below HB1.out)).mono ?_;rintro e w2 ⟨ev,rfl,hev,hb2⟩;have HB2:=hid hb2;clear hb2;obtain⟨p,rfl⟩:∃p,ev=.iface 311 p:=hev.elim (fun h=>nomatch h.1) (fun h=>h.2);clear hev)
   | (go_at_call 81;refine HCU.out.mono ?_;rintro e w1 ⟨rfl,nn,hw1⟩;have HB1:=hid (show BB (w.alloc (.cells #[I6 0,I6 0] 221)) w1 from hw1▸below_drewN _ nn);clear hw1))
  refine bodyPost_ret (v:=.tuple #[.agg #[I6 0,I6 0],I6 13]) ?_ ?_ ?_
  ·simp[results,Tryz.results330,go_sem, *]
  ·rfl
  exact⟨by rw[HD.out];simp,(((HB0.out.trans ((((HB1.out.trans (HB2.out.mono HB1.out.size)).alloc (Nat.le_trans HB1.out.size HB2.out.size) _).trans (HB3.out.mono (by have:=HB1.out.size;have:=HB2.out.size;simp at *;omega))).mono HB0.out.size)).setCell (p:=⟨w.heap.size,0,none⟩) lr _).setCell (p:=⟨w.heap.size,1,none⟩) lr _)⟩
 by_cases hte:te=0;rotate_left
 ·skip
  go_enter Tryz.func330,Tryz.ntmps330
  go_wp2_with (first
   | (go_at_call 217;refine(HTX.out _ (HTT.out.below ((HB1.out.trans (HB2.out.mono HB1.out.size)).alloc (Nat.le_trans HB1.out.size HB2.out.size) _))).mono ?_;rintro e w3 ⟨rfl,hb3⟩;have HB3:=hid hb3;clear hb3;have hr3:=HR3.out w1 w2 w3 HB1.out HB2.out HB3.out;have c0:w3.cell? ⟨w.heap.size,0,none⟩=some (I6 0):=aA hr3 0;have c1:w3.cell? ⟨w.heap.size,1,none⟩=some (I6 0):=aA hr3 1;have f0:=eC hr3 0;have f1:=eC hr3 1;have HO3:=hid (HO.out w2 w3 HB3.out);have d0:w3.cell? ⟨w2.heap.size,0,none⟩=some (I6 n):=aA HO3.out 0;have d1:w3.cell? ⟨w2.heap.size,1,none⟩=some (I6 (b.length:Int)):=aA HO3.out 1;have HH:=hid hr3;clear hr3)
   | (go_at_call 148;refine(HAT.out w1 (HNN.out.below HB1.out)).mono ?_;rintro e w2 ⟨ev,rfl,hev,hb2⟩;have HB2:=hid hb2;clear hb2;obtain rfl:ev=.nilIface:=hev.elim (fun h=>h.2) (fun h=>nomatch h.1);clear hev)
   | (go_at_call 81;refine HCU.out.mono ?_;rintro e w1 ⟨rfl,nn,hw1⟩;have HB1:=hid (show BB (w.alloc (.cells #[I6 0,I6 0] 221)) w1 from hw1▸below_drewN _ nn);clear hw1))
  refine bodyPost_ret (v:=.tuple #[.agg #[I6 0,I6 0],I6 13]) ?_ ?_ ?_
  ·simp[results,Tryz.results330,go_sem, *]
  ·rfl
  exact⟨by rw[HD.out];simp[hte],(((HB0.out.trans ((((HB1.out.trans (HB2.out.mono HB1.out.size)).alloc (Nat.le_trans HB1.out.size HB2.out.size) _).trans (HB3.out.mono (by have:=HB1.out.size;have:=HB2.out.size;simp at *;omega))).mono HB0.out.size)).setCell (p:=⟨w.heap.size,0,none⟩) lr _).setCell (p:=⟨w.heap.size,1,none⟩) lr _)⟩
 subst hte;cases qt
 ·simp only[Bool.not_false] at hqn;go_enter Tryz.func330,Tryz.ntmps330
  go_wp2_with (first
   | (go_at_call 217;refine(HTX.out _ (HTT.out.below ((HB1.out.trans (HB2.out.mono HB1.out.size)).alloc (Nat.le_trans HB1.out.size HB2.out.size) _))).mono ?_;rintro e w3 ⟨rfl,hb3⟩;have HB3:=hid hb3;clear hb3;have hr3:=HR3.out w1 w2 w3 HB1.out HB2.out HB3.out;have c0:w3.cell? ⟨w.heap.size,0,none⟩=some (I6 0):=aA hr3 0;have c1:w3.cell? ⟨w.heap.size,1,none⟩=some (I6 0):=aA hr3 1;have f0:=eC hr3 0;have f1:=eC hr3 1;have HO3:=hid (HO.out w2 w3 HB3.out);have d0:w3.cell? ⟨w2.heap.size,0,none⟩=some (I6 n):=aA HO3.out 0;have d1:w3.cell? ⟨w2.heap.size,1,none⟩=some (I6 (b.length:Int)):=aA HO3.out 1;have HH:=hid hr3;clear hr3)
   | (go_at_call 148;refine(HAT.out w1 (HNN.out.below HB1.out)).mono ?_;rintro e w2 ⟨ev,rfl,hev,hb2⟩;have HB2:=hid hb2;clear hb2;obtain rfl:ev=.nilIface:=hev.elim (fun h=>h.2) (fun h=>nomatch h.1);clear hev)
   | (go_at_call 81;refine HCU.out.mono ?_;rintro e w1 ⟨rfl,nn,hw1⟩;have HB1:=hid (show BB (w.alloc (.cells #[I6 0,I6 0] 221)) w1 from hw1▸below_drewN _ nn);clear hw1))
  refine bodyPost_ret (v:=.tuple #[.agg #[I6 0,I6 0],I6 13]) ?_ ?_ ?_
  ·simp[results,Tryz.results330,go_sem, *]
  ·rfl
  exact⟨by rw[HD.out];simp,(((HB0.out.trans ((((HB1.out.trans (HB2.out.mono HB1.out.size)).alloc (Nat.le_trans HB1.out.size HB2.out.size) _).trans (HB3.out.mono (by have:=HB1.out.size;have:=HB2.out.size;simp at *;omega))).mono HB0.out.size)).setCell (p:=⟨w.heap.size,0,none⟩) lr _).setCell (p:=⟨w.heap.size,1,none⟩) lr _)⟩
 simp only[Bool.not_true] at hqn;cases pt
 ·skip
  go_enter Tryz.func330,Tryz.ntmps330
  go_wp2_with (first
   | (go_at_call 217;refine(HTX.out _ (HTT.out.below ((HB1.out.trans (HB2.out.mono HB1.out.size)).alloc (Nat.le_trans HB1.out.size HB2.out.size) _))).mono ?_;rintro e w3 ⟨rfl,hb3⟩;have HB3:=hid hb3;clear hb3;have hr3:=HR3.out w1 w2 w3 HB1.out HB2.out HB3.out;have c0:w3.cell? ⟨w.heap.size,0,none⟩=some (I6 0):=aA hr3 0;have c1:w3.cell? ⟨w.heap.size,1,none⟩=some (I6 0):=aA hr3 1;have f0:=eC hr3 0;have f1:=eC hr3 1;have HO3:=hid (HO.out w2 w3 HB3.out);have d0:w3.cell? ⟨w2.heap.size,0,none⟩=some (I6 n):=aA HO3.out 0;have d1:w3.cell? ⟨w2.heap.size,1,none⟩=some (I6 (b.length:Int)):=aA HO3.out 1;have HH:=hid hr3;clear hr3)
   | (go_at_call 148;refine(HAT.out w1 (HNN.out.below HB1.out)).mono ?_;rintro e w2 ⟨ev,rfl,hev,hb2⟩;have HB2:=hid hb2;clear hb2;obtain rfl:ev=.nilIface:=hev.elim (fun h=>h.2) (fun h=>nomatch h.1);clear hev)
   | (go_at_call 81;refine HCU.out.mono ?_;rintro e w1 ⟨rfl,nn,hw1⟩;have HB1:=hid (show BB (w.alloc (.cells #[I6 0,I6 0] 221)) w1 from hw1▸below_drewN _ nn);clear hw1))
  refine bodyPost_ret (v:=.tuple #[.agg #[I6 n,I6 (b.length:Int)],I6 0]) ?_ ?_ ?_
  ·simp[results,Tryz.results330,go_sem, *]
  ·rfl
  exact⟨by rw[HD.out];simp,(((HB0.out.trans ((((HB1.out.trans (HB2.out.mono HB1.out.size)).alloc (Nat.le_trans HB1.out.size HB2.out.size) _).trans (HB3.out.mono (by have:=HB1.out.size;have:=HB2.out.size;simp at *;omega))).mono HB0.out.size)).setCell (p:=⟨w.heap.size,0,none⟩) lr _).setCell (p:=⟨w.heap.size,1,none⟩) lr _)⟩
 cases qb
 ·skip
  go_enter Tryz.func330,Tryz.ntmps330
  go_wp2_with (first
   | (go_at_call 217;refine(HTX.out _ (HTT.out.below ((HB1.out.trans (HB2.out.mono HB1.out.size)).alloc (Nat.le_trans HB1.out.size HB2.out.size) _))).mono ?_;rintro e w3 ⟨rfl,hb3⟩;have HB3:=hid hb3;clear hb3;have hr3:=HR3.out w1 w2 w3 HB1.out HB2.out HB3.out;have c0:w3.cell? ⟨w.heap.size,0,none⟩=some (I6 0):=aA hr3 0;have c1:w3.cell? ⟨w.heap.size,1,none⟩=some (I6 0):=aA hr3 1;have f0:=eC hr3 0;have f1:=eC hr3 1;have HO3:=hid (HO.out w2 w3 HB3.out);have d0:w3.cell? ⟨w2.heap.size,0,none⟩=some (I6 n):=aA HO3.out 0;have d1:w3.cell? ⟨w2.heap.size,1,none⟩=some (I6 (b.length:Int)):=aA HO3.out 1;have HH:=hid hr3;clear hr3)
   | (go_at_call 148;refine(HAT.out w1 (HNN.out.below HB1.out)).mono ?_;rintro e w2 ⟨ev,rfl,hev,hb2⟩;have HB2:=hid hb2;clear hb2;obtain rfl:ev=.nilIface:=hev.elim (fun h=>h.2) (fun h=>nomatch h.1);clear hev)
   | (go_at_call 81;refine HCU.out.mono ?_;rintro e w1 ⟨rfl,nn,hw1⟩;have HB1:=hid (show BB (w.alloc (.cells #[I6 0,I6 0] 221)) w1 from hw1▸below_drewN _ nn);clear hw1))
  refine bodyPost_ret (v:=.tuple #[.agg #[I6 n,I6 (b.length:Int)],I6 0]) ?_ ?_ ?_
  ·simp[results,Tryz.results330,go_sem, *]
  ·rfl
  exact⟨by rw[HD.out];simp,(((HB0.out.trans ((((HB1.out.trans (HB2.out.mono HB1.out.size)).alloc (Nat.le_trans HB1.out.size HB2.out.size) _).trans (HB3.out.mono (by have:=HB1.out.size;have:=HB2.out.size;simp at *;omega))).mono HB0.out.size)).setCell (p:=⟨w.heap.size,0,none⟩) lr _).setCell (p:=⟨w.heap.size,1,none⟩) lr _)⟩
 ·skip
  go_enter Tryz.func330,Tryz.ntmps330
  go_wp2_with (first
   | (go_at_call 217;refine(HTX.out _ (HTT.out.below ((HB1.out.trans (HB2.out.mono HB1.out.size)).alloc (Nat.le_trans HB1.out.size HB2.out.size) _))).mono ?_;rintro e w3 ⟨rfl,hb3⟩;have HB3:=hid hb3;clear hb3;have hr3:=HR3.out w1 w2 w3 HB1.out HB2.out HB3.out;have c0:w3.cell? ⟨w.heap.size,0,none⟩=some (I6 0):=aA hr3 0;have c1:w3.cell? ⟨w.heap.size,1,none⟩=some (I6 0):=aA hr3 1;have f0:=eC hr3 0;have f1:=eC hr3 1;have HO3:=hid (HO.out w2 w3 HB3.out);have d0:w3.cell? ⟨w2.heap.size,0,none⟩=some (I6 n):=aA HO3.out 0;have d1:w3.cell? ⟨w2.heap.size,1,none⟩=some (I6 (b.length:Int)):=aA HO3.out 1;have HH:=hid hr3;clear hr3)
   | (go_at_call 148;refine(HAT.out w1 (HNN.out.below HB1.out)).mono ?_;rintro e w2 ⟨ev,rfl,hev,hb2⟩;have HB2:=hid hb2;clear hb2;obtain rfl:ev=.nilIface:=hev.elim (fun h=>h.2) (fun h=>nomatch h.1);clear hev)
   | (go_at_call 81;refine HCU.out.mono ?_;rintro e w1 ⟨rfl,nn,hw1⟩;have HB1:=hid (show BB (w.alloc (.cells #[I6 0,I6 0] 221)) w1 from hw1▸below_drewN _ nn);clear hw1))
  refine bodyPost_ret (v:=.tuple #[.agg #[I6 0,I6 0],I6 13]) ?_ ?_ ?_
  ·simp[results,Tryz.results330,go_sem, *]
  ·rfl
  exact⟨by rw[HD.out];simp,(((HB0.out.trans ((((HB1.out.trans (HB2.out.mono HB1.out.size)).alloc (Nat.le_trans HB1.out.size HB2.out.size) _).trans (HB3.out.mono (by have:=HB1.out.size;have:=HB2.out.size;simp at *;omega))).mono HB0.out.size)).setCell (p:=⟨w.heap.size,0,none⟩) lr _).setCell (p:=⟨w.heap.size,1,none⟩) lr _)⟩
end
section
open Go Go.RowKit Go.Shelf
attribute [local go_sem] cJ eW cK dF bP bW
theorem aL7 (l:List UInt8) (i:Nat) (odd:Int) (acc:List UInt8) (h:l=[]):eG l i odd acc=.inr none:=by subst h;rfl
theorem bytGo_q (c:UInt8) (l:List UInt8) (i:Nat) (odd:Int) (acc:List UInt8) (h:c.toNat=34) (h2:odd<0):eG (c :: l) i odd acc=.inl (i+1,acc):=by
 unfold eG;rw[if_pos ⟨h,h2⟩]
theorem bytGo_f (c:UInt8) (l:List UInt8) (i:Nat) (odd:Int) (acc:List UInt8) (h:¬ (c.toNat=34/\odd<0)) (h2:iA c<0):eG (c :: l) i odd acc=.inr (some i):=by
 unfold eG;rw[if_neg h,if_pos h2]
theorem bytGo_1 (c:UInt8) (l:List UInt8) (i:Nat) (odd:Int) (acc:List UInt8) (h:¬ (c.toNat=34/\odd<0)) (h2:¬ iA c<0) (h3:odd<0):eG (c :: l) i odd acc=eG l (i+1) (iA c) acc:=by
 rw[eG,if_neg h,if_neg h2,if_pos h3]
theorem bytGo_2 (c:UInt8) (l:List UInt8) (i:Nat) (odd:Int) (acc:List UInt8) (h:¬ (c.toNat=34/\odd<0)) (h2:¬ iA c<0) (h3:¬ odd<0):eG (c :: l) i odd acc=eG l (i+1) (-1) (acc++[UInt8.ofNat (16 * odd+iA c).toNat]):=by
 rw[eG,if_neg h,if_neg h2,if_neg h3]
theorem aKd (c:UInt8):iA c<16:=by
 have:∀n:Fin 256,iA (UInt8.ofNat n.val)<16:=by decide +kernel
 have:=this ⟨c.toNat,c.toNat_lt⟩
 simpa using this
theorem hexI_34 (c:UInt8) (h:c.toNat=34):iA c<0:=by
 have:∀n:Fin 256,n.val=34->iA (UInt8.ofNat n.val)<0:=by decide +kernel
 have:=this ⟨c.toNat,c.toNat_lt⟩ h
 simpa using this
theorem uJ (b:Nat) (s:ByteArray) (r:Rd) (at_:Nat) (w:World) (h:IsRd w b s r) (hat:at_+2<=s.size) (hs:s.size<=1000000) :
 CP 288 #[.pointer (some ⟨b,0,none⟩),I6 at_] w fun x w'=>x=.returned (.tuple #[])/\IsRd w' b s (iZ s.data.toList at_ r)/\w.grownBy w' (some b):=by
 have hln:s.data.toList.length=s.size:=rfl;have HR:=hid h;have HB0:=hid (show BB w (w.alloc (.cells #[.pointer none,.slice none 0 0] 74)) from(bR w).alloc lr _);have HBN:=hid (jK w);have HLT:=hid h.lt;clear h;go_enter Tryz.func288,Tryz.ntmps288
 go_wp2
 go_loopw [5,6] (fun ov iv wr=>∃(odd:Int) (k:Nat) (acc:List UInt8),ov=I6 odd/\iv=I6 k /\ -1<=odd/\odd<=15/\at_+2<=k/\k<=s.size/\acc.length<=k/\eG (s.data.toList.drop (at_+2)) (at_+2) (-1) []=eG (s.data.toList.drop k) k odd acc/\IsBld w.heap.size w.heap.size (Lib.byteCells acc) wr/\BB w wr) (fun _ iv _=>s.size-(intOf iv).toNat)
 case atStart=>exact⟨-1,at_+2,[],rfl,rfl,by omega,by omega,Nat.le_refl _,hat,Nat.zero_le _,rfl,HBN.out,HB0.out⟩
 case round =>
  obtain⟨odd,k,acc,rfl,rfl,ho1,ho2,hk1,hk,hac,heq,hbl,hbr⟩:=hrel;have HRW:=hid (HR.out.grown (aQ hbr none) gd);obtain⟨W,hW,hw⟩:=HRW.out.put;have HG:=hid (aQ hbr (some b));have HEQ:=hid heq;have HBL:=hid hbl;have HBR:=hid hbr;have HSZ:=hid hbr.size;clear heq hbl hbr;by_cases hlt:k<s.size
  ·have hlt':(k:Int)<(s.size:Int):=by omega
   have hk0:(0:Int)<=(k:Int):=by omega
   have hd:=oC s k hlt;have hacl:(Lib.byteCells acc).length<=s.size:=by simp[Lib.byteCells];omega
   have HWB:=hid (fun (c:Int)=>cR w.heap.size w.heap.size (Lib.byteCells acc) c wr HBL.out ga HSZ.out);have HST:=hid (show CP 38 #[.pointer (some ⟨w.heap.size,0,none⟩)] wr fun e w2=>e=.returned (.string ⟨acc.toArray⟩)/\Below w.heap.size wr w2 from(Tryz.Builder_String_any_k _ _ _ wr HBL.out HSZ.out).mono fun e w2 ⟨he,_,hb,_⟩=>⟨he,hb⟩);have HHX:=hid (aE9 s[k] wr);have HFL:=hid (bC b s r k 13 wr HRW.out);have h16:=aKd s[k];have h34:=hexI_34 s[k];have hQ:=bytGo_q s[k] (s.data.toList.drop (k+1)) k odd acc;have hF:=bytGo_f s[k] (s.data.toList.drop (k+1)) k odd acc
   have h1:=bytGo_1 s[k] (s.data.toList.drop (k+1)) k odd acc;have h2:=bytGo_2 s[k] (s.data.toList.drop (k+1)) k odd acc;rw[<-hd,<-HEQ.out] at hQ hF h1 h2;obtain⟨n,hn⟩:=ez (iA s[k])
   rw[<-hn] at hF h1 h2 h16 h34 HHX;have HQ:=hid hQ;have HF:=hid hF;have H1:=hid h1;have H2:=hid h2;clear hQ hF h1 h2 hn hd HEQ hacl;subst hw;by_cases hq:s[k].toNat=34
   ·have q34:((s[k].toNat:Int)==34)=true:=by simp;omega
    have hn0:n<0:=h34 hq;have HQ4:=hid hq;clear hq h34;by_cases hod:odd<0
    ·go_wp2_with (first
      | (go_at_call 38;refine HST.out.mono ?_;rintro e w2 ⟨rfl,hb2⟩;have HB2:=hid hb2;clear hb2;have HR2:=hid (HR.out.grown (aQ (HBR.out.trans HB2.out) none) gd);obtain⟨W2,hW2,hw2⟩:=HR2.out.put;have HG2:=hid (aQ (HBR.out.trans HB2.out) (some b));clear HB2 HR2;subst hw2)
      | (go_at_call 329;refine HHX.out.mono ?_;rintro e w2 ⟨rfl,rfl⟩))
     refine bodyPost_ret (results_none rfl _ _ _) rfl ?_;refine⟨rfl,?_,HG2.out.trans (bM _ _ _ _)⟩;rw[iZ,HQ.out HQ4.out hod];exact dH W2 b s { r with k:=4,b:=⟨acc.toArray⟩,nx:=k+1 } hW2 ⟨(fun e=>nomatch e),by show k+1<=s.size;omega,HR.out.ok.p⟩ _ rfl
    ·go_wp2_with (first
      | (go_at_call 232;refine HFL.out.mono ?_;rintro e w2 ⟨rfl,h2,hg2⟩;have H2R:=hid h2;have HG2:=hid hg2;clear h2 hg2)
      | (go_at_call 329;refine HHX.out.mono ?_;rintro e w2 ⟨rfl,rfl⟩))
     refine bodyPost_ret (results_none rfl _ _ _) rfl ?_;exact⟨rfl,by rw[iZ,HF.out (fun h=>absurd h.2 ga) hn0];exact H2R.out,HG.out.trans HG2.out⟩
   ·have q34:((s[k].toNat:Int)==34)=false:=by simp;omega
    by_cases hn0:n<0
    ·go_wp2_with (first
      | (go_at_call 232;refine HFL.out.mono ?_;rintro e w2 ⟨rfl,h2,hg2⟩;have H2R:=hid h2;have HG2:=hid hg2;clear h2 hg2)
      | (go_at_call 329;refine HHX.out.mono ?_;rintro e w2 ⟨rfl,rfl⟩))
     refine bodyPost_ret (results_none rfl _ _ _) rfl ?_;exact⟨rfl,by rw[iZ,HF.out ga ga];exact H2R.out,HG.out.trans HG2.out⟩
    by_cases hod:odd<0
    ·go_wp2_with (go_at_call 329;refine HHX.out.mono ?_;rintro e w2 ⟨rfl,rfl⟩)
     refine⟨⟨n,k+1,acc,rfl,by go_num,by omega,by omega,by omega,by omega,by omega,H1.out ga hn0 hod,HBL.out,HBR.out⟩,by simp[intOf];omega⟩
    ·have e1:IntKind.i64.wrap (16 * odd)=16 * odd:=IntWalk.i64_in _ ⟨by omega,by omega⟩;have e2:IntKind.i64.wrap (16 * odd+n)=16 * odd+n:=IntWalk.i64_in _ ⟨by omega,by omega⟩;have e3:IntKind.u8.wrap (16 * odd+n)=16 * odd+n:=IntWalk.u8_in _ ⟨by omega,by omega⟩;go_wp2_with (first
      | (go_at_call 218;refine(HWB.out _).mono ?_;rintro e w2 ⟨rfl,h2,hb2,hk2⟩;have H2B:=hid h2;have HB2:=hid hb2;clear h2 hb2 hk2)
      | (go_at_call 329;refine HHX.out.mono ?_;rintro e w2 ⟨rfl,rfl⟩))
     refine⟨⟨-1,k+1,acc++[UInt8.ofNat (16 * odd+n).toNat],rfl,by go_num,by omega,by omega,by omega,by omega,by simp;omega,H2.out ga hn0 hod,?_,HBR.out.trans HB2.out⟩,by simp[intOf];omega⟩;have e4:Lib.byteCells (acc++[UInt8.ofNat (16 * odd+n).toNat])=Lib.byteCells acc++[.int .u8 (16 * odd+n)]:=by
      simp[Lib.byteCells];omega
     rw[e4];exact .inr H2B.out
  ·obtain rfl:k=s.size:=by omega
   have HFL:=hid (bC b s r at_ 4 wr HRW.out);have hend:=aL7 (s.data.toList.drop s.size) s.size odd acc (List.drop_eq_nil_of_le (Nat.le_of_eq hln));rw[<-HEQ.out] at hend;have HE:=hid hend;clear hend;subst hw;go_wp2_with (go_at_call 232;refine HFL.out.mono ?_;rintro e w2 ⟨rfl,h2,hg2⟩;have H2R:=hid h2;have HG2:=hid hg2;clear h2 hg2)
   refine bodyPost_end (results_none rfl _ _ _) rfl ?_;exact⟨rfl,by rw[iZ,HE.out];exact H2R.out,HG.out.trans HG2.out⟩
end
end Go.Proofs.YtmgpghoamapfgaaGreatDoor
