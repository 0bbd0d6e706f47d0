/- A part. -/
import Derived.Test.YtoodnaghjpkjfaaGreatDoorSE36Mrg
import Derived.Test.YtoodnaghjpkjfaaGreatDoorSE37Mrg
namespace Go.Proofs.YtoodnaghjpkjfaaGreatDoor
open Tryz
set_option linter.unusedVariables false
set_option maxRecDepth 100000
set_option maxHeartbeats 64000000
set_option linter.unusedSimpArgs false
open Go Go.RowKit Go.Shelf
abbrev snrA (lp:Value) (c:SnC) (bad:Bool):Array Value:=#[lp,I6 c.v,I6 c.e,I6 c.t,.slice c.na c.nl c.nc,.slice c.aa c.al c.ac,.slice c.sa c.sl c.sc,.slice c.qa c.ql c.qc,.slice c.la c.ll c.lc,.slice c.pa c.pl c.pc,.bool bad]
abbrev snrV (lp:Value) (c:SnC) (off:Nat) (v:Value):Obj:=.cells ((snrA lp c false).setIfInBounds off v) 46
theorem aAd (lp:Value) (c:SnC) {aa:Nat} (h:aa<11) (R:Nat) (w:World) (v:Value) (hR:w.heap[R]?=some (snrV lp c aa v)):w.cell? ⟨R,aa,none⟩=some v/\w.frozen? ⟨R,aa,none⟩=false:=by
 refine⟨?_,aF hR aa⟩;rw[aA hR aa,Array.getElem?_setIfInBounds_self_of_lt gv]
theorem aAc (lp:Value) (c:SnC) (aa:Nat) (R:Nat) (w:World) (v u:Value) (hR:w.heap[R]?=some (snrV lp c aa v)):(w.setCell ⟨R,aa,none⟩ u).heap[R]?=some (snrV lp c aa u):=by
 have h:=aG (o:=aa) u hR;rw[h];simp[snrV]
theorem kQ {D:Type} {l:List D} {x:D} {P:D->Prop} (h:∀y∈l,P y) (hx:P x):∀y∈l++[x],P y:=λy hy=>(List.mem_append.1 hy).elim (h y) (λh=>List.mem_singleton.1 h▸hx)
abbrev bxC (R off:Nat):Obj:=.cells #[Pt R off] 57
abbrev bxM (R:Nat):Obj:=.cells #[Pt R 1] 47
abbrev bxR (R:Nat):Obj:=.cells #[Pt R 0] 42
theorem aM6 (N R L cb:Nat) (kp:List (Nat × Obj)) (p M:Nat) (hkb:(cb,bxC R 5)∈kp) (hLR:L≠R) (hNR:N<=R) (hNL:N<=L) (n:Nat) (bad:Bool) (w:World) (hI:SnRI (RdK N R L kp p M) R L n bad w) :
 CP 15 #[Pt R 0,.string ⟨#[97,114,114,105,118,101,100]⟩,.func (.func 49) #[] #[Pt cb 0]] w λe w'=>e=.returned (.tuple #[])/\(∃m b,m<=n/\SnRI (RdK N R L kp p M) R L m b w')/\Turn (λj=>N<=j/\j≠L) w w' :=
 fZ 49 (Pt cb 0) (λargs w=>by simp[go_sem,callFunc];rfl) ⟨#[97,114,114,105,118,101,100]⟩ gb N R L hLR hNR hNL (RdK N R L kp p M) (RdK.turn hNR) (λm w0 w k rest c lp hr hK ht hk0 hRk hLk hR hk=>by
  obtain⟨h0,d,aj,h1,h2,h3,h4,h5⟩:=hK.scan ht hNR;have ad:=h5 k hk0;obtain⟨ag,ak,ah⟩:=h3 _ hkb;refine(aBb N R k cb 5 2 c.aa c.al c.ac d.ar aj (snrV lp c 5) (aAd lp c gb R) (aAc lp c 5 R) rest hr w h1.ar gb (by have:=h2.ar;have:=h1.ar.len;omega) ah hR hk h4 h1.cR ad ag hNR hRk).mono ?_;rintro e w' ⟨rfl,g,cap,r',f',x,ai,ae,ab,hx,af⟩;obtain⟨X,k3,k4,k5⟩:=h1.fin (g:=g) h3 h4 ad hNR hRk (i:=2) gb h1.ar.lt af
  (try dsimp only at hx)
  have b:=h2.less (mp m);exact⟨{ c with aa:=some ⟨g,0,none⟩,al:=c.al+1,ac:=cap },r',f',rfl,⟨(show p<=c.pl/\c.pl+m<=M by omega),{ d with ar:=d.ar++[x] },_,⟨X.v,X.rv,X.e,X.re,X.t,X.rt,X.ns gb,ab,X.se gb,X.qs gb,X.ls gb,X.ps gb,X.cR,X.cL,X.lR,X.lL⟩,⟨b.ns,(by have:=h2.ar;simp;omega),b.se,b.qs,b.ls,b.ps,b.zn,kQ h2.za ga,b.zs,b.zq,b.zl,b.zp⟩,k3,k4⟩,ai,ae,k5⟩) n bad w hI
theorem aGn (N R L cb:Nat) (kp:List (Nat × Obj)) (p M:Nat) (hkb:(cb,bxC R 6)∈kp) (hLR:L≠R) (hNR:N<=R) (hNL:N<=L) (n:Nat) (bad:Bool) (w:World) (hI:SnRI (RdK N R L kp p M) R L n bad w) :
 CP 15 #[Pt R 0,.string ⟨#[115,101,110,116]⟩,.func (.func 49) #[] #[Pt cb 0]] w λe w'=>e=.returned (.tuple #[])/\(∃m b,m<=n/\SnRI (RdK N R L kp p M) R L m b w')/\Turn (λj=>N<=j/\j≠L) w w' :=
 fZ 49 (Pt cb 0) (λargs w=>by simp[go_sem,callFunc];rfl) ⟨#[115,101,110,116]⟩ gb N R L hLR hNR hNL (RdK N R L kp p M) (RdK.turn hNR) (λm w0 w k rest c lp hr hK ht hk0 hRk hLk hR hk=>by
  obtain⟨h0,d,ah,h1,h2,h3,h4,h5⟩:=hK.scan ht hNR;have ab:=h5 k hk0;obtain⟨ae,ai,af⟩:=h3 _ hkb;refine(aBb N R k cb 6 3 c.sa c.sl c.sc d.se ah (snrV lp c 6) (aAd lp c gb R) (aAc lp c 6 R) rest hr w h1.se gb (by have:=h2.se;have:=h1.se.len;omega) af hR hk h4 h1.cR ab ae hNR hRk).mono ?_;rintro e w' ⟨rfl,g,cap,r',f',x,ag,ac,aa,hx,ad⟩;obtain⟨X,k3,k4,k5⟩:=h1.fin (g:=g) h3 h4 ab hNR hRk (i:=3) gb h1.se.lt ad
  (try dsimp only at hx)
  have b:=h2.less (mp m);exact⟨{ c with sa:=some ⟨g,0,none⟩,sl:=c.sl+1,sc:=cap },r',f',rfl,⟨(show p<=c.pl/\c.pl+m<=M by omega),{ d with se:=d.se++[x] },_,⟨X.v,X.rv,X.e,X.re,X.t,X.rt,X.ns gb,X.ar gb,aa,X.qs gb,X.ls gb,X.ps gb,X.cR,X.cL,X.lR,X.lL⟩,⟨b.ns,b.ar,(by have:=h2.se;simp;omega),b.qs,b.ls,b.ps,b.zn,b.za,kQ h2.zs ga,b.zq,b.zl,b.zp⟩,k3,k4⟩,ag,ac,k5⟩) n bad w hI
theorem aKa (N R L cb:Nat) (kp:List (Nat × Obj)) (p M:Nat) (hkb:(cb,bxM R)∈kp) (hLR:L≠R) (hNR:N<=R) (hNL:N<=L) (n:Nat) (bad:Bool) (w:World) (hI:SnRI (RdK N R L kp p M) R L n bad w) :
 CP 15 #[Pt R 0,.string ⟨#[113,117,101,117,101,100]⟩,.func (.func 19) #[] #[Pt cb 0]] w λe w'=>e=.returned (.tuple #[])/\(∃m b,m<=n/\SnRI (RdK N R L kp p M) R L m b w')/\Turn (λj=>N<=j/\j≠L) w w' :=
 fZ 19 (Pt cb 0) (λargs w=>by simp[go_sem,callFunc];rfl) ⟨#[113,117,101,117,101,100]⟩ gb N R L hLR hNR hNL (RdK N R L kp p M) (RdK.turn hNR) (λm w0 w k rest c lp hr hK ht hk0 hRk hLk hR hk=>by
  obtain⟨h0,d,ah,h1,h2,h3,h4,h5⟩:=hK.scan ht hNR;have ab:=h5 k hk0;obtain⟨ae,ai,af⟩:=h3 _ hkb;refine(aK8 N R k cb 4 c.qa c.ql c.qc d.qs ah (snrV lp c 7) (aAd lp c gb R) (aAc lp c 7 R) rest hr w h1.qs gb (by have:=h2.qs;have:=h1.qs.len;omega) af hR hk h4 h1.cR ab ae hNR hRk).mono ?_;rintro e w' ⟨rfl,g,cap,r',f',x,ag,ac,aa,hx,ad⟩;obtain⟨X,k3,k4,k5⟩:=h1.fin (g:=g) h3 h4 ab hNR hRk (i:=4) gb h1.qs.lt ad
  (try dsimp only at hx)
  have b:=h2.less (mp m);exact⟨{ c with qa:=some ⟨g,0,none⟩,ql:=c.ql+1,qc:=cap },r',f',rfl,⟨(show p<=c.pl/\c.pl+m<=M by omega),{ d with qs:=d.qs++[x] },_,⟨X.v,X.rv,X.e,X.re,X.t,X.rt,X.ns gb,X.ar gb,X.se gb,aa,X.ls gb,X.ps gb,X.cR,X.cL,X.lR,X.lL⟩,⟨b.ns,b.ar,b.se,(by have:=h2.qs;simp;omega),b.ls,b.ps,b.zn,b.za,b.zs,kQ h2.zq ga,b.zl,b.zp⟩,k3,k4⟩,ag,ac,k5⟩) n bad w hI
theorem aKy (N R L cb:Nat) (kp:List (Nat × Obj)) (p M:Nat) (hkb:(cb,bxM R)∈kp) (hLR:L≠R) (hNR:N<=R) (hNL:N<=L) (n:Nat) (bad:Bool) (w:World) (hI:SnRI (RdK N R L kp p M) R L n bad w) :
 CP 15 #[Pt R 0,.string ⟨#[108,101,116,116,101,114]⟩,.func (.func 23) #[] #[Pt cb 0]] w λe w'=>e=.returned (.tuple #[])/\(∃m b,m<=n/\SnRI (RdK N R L kp p M) R L m b w')/\Turn (λj=>N<=j/\j≠L) w w' :=
 fZ 23 (Pt cb 0) (λargs w=>by simp[go_sem,callFunc];rfl) ⟨#[108,101,116,116,101,114]⟩ gb N R L hLR hNR hNL (RdK N R L kp p M) (RdK.turn hNR) (λm w0 w k rest c lp hr hK ht hk0 hRk hLk hR hk=>by
  obtain⟨h0,d,ah,h1,h2,h3,h4,h5⟩:=hK.scan ht hNR;have ab:=h5 k hk0;obtain⟨ae,ai,af⟩:=h3 _ hkb;refine(aKw N R k cb 5 c.la c.ll c.lc d.ls ah (snrV lp c 8) (aAd lp c gb R) (aAc lp c 8 R) rest hr w h1.ls gb (by have:=h2.ls;have:=h1.ls.len;omega) af hR hk h4 h1.cR ab ae hNR hRk).mono ?_;rintro e w' ⟨rfl,g,cap,r',f',x,ag,ac,aa,hx,ad⟩;obtain⟨X,k3,k4,k5⟩:=h1.fin (g:=g) h3 h4 ab hNR hRk (i:=5) gb h1.ls.lt ad
  (try dsimp only at hx)
  have b:=h2.less (mp m);exact⟨{ c with la:=some ⟨g,0,none⟩,ll:=c.ll+1,lc:=cap },r',f',rfl,⟨(show p<=c.pl/\c.pl+m<=M by omega),{ d with ls:=d.ls++[x] },_,⟨X.v,X.rv,X.e,X.re,X.t,X.rt,X.ns gb,X.ar gb,X.se gb,X.qs gb,aa,X.ps gb,X.cR,X.cL,X.lR,X.lL⟩,⟨b.ns,b.ar,b.se,b.qs,(by have:=h2.ls;simp;omega),b.ps,b.zn,b.za,b.zs,b.zq,kQ h2.zl ga,b.zp⟩,k3,k4⟩,ag,ac,k5⟩) n bad w hI
theorem aLj (N R L cb:Nat) (kp:List (Nat × Obj)) (p M:Nat) (hkb:(cb,bxR R)∈kp) (hLR:L≠R) (hNR:N<=R) (hNL:N<=L) (n:Nat) (bad:Bool) (w:World) (hI:SnRI (RdK N R L kp p M) R L n bad w) :
 CP 15 #[Pt R 0,.string ⟨#[100,101,108,105,118,101,114]⟩,.func (.func 59) #[] #[Pt cb 0]] w λe w'=>e=.returned (.tuple #[])/\(∃m b,m<=n/\SnRI (RdK N R L kp p M) R L m b w')/\Turn (λj=>N<=j/\j≠L) w w' :=
 fZ 59 (Pt cb 0) (λargs w=>by simp[go_sem,callFunc];rfl) ⟨#[100,101,108,105,118,101,114]⟩ gb N R L hLR hNR hNL (RdK N R L kp p M) (RdK.turn hNR) (λm w0 w k rest c lp hr hK ht hk0 hRk hLk hR hk=>by
  obtain⟨h0,d,ah,h1,h2,h3,h4,h5⟩:=hK.scan ht hNR;have ab:=h5 k hk0;obtain⟨ae,ai,af⟩:=h3 _ hkb;refine(aLi N R k cb 6 c.pa c.pl c.pc d.ps ah (snrV lp c 9) (aAd lp c gb R) (aAc lp c 9 R) rest hr w h1.ps gb (by have:=h2.ps;have:=h1.ps.len;omega) af hR hk h4 h1.cR ab ae hNR hRk).mono ?_;rintro e w' ⟨rfl,g,cap,r',f',x,ag,ac,aa,hx,ad⟩;obtain⟨X,k3,k4,k5⟩:=h1.fin (g:=g) h3 h4 ab hNR hRk (i:=6) gb h1.ps.lt ad
  (try dsimp only at hx)
  have b:=h2.less (mp m);exact⟨{ c with pa:=some ⟨g,0,none⟩,pl:=c.pl+1,pc:=cap },r',f',rfl,⟨(show p<=c.pl+1/\c.pl+1+m<=M by omega),{ d with ps:=d.ps++[x] },_,⟨X.v,X.rv,X.e,X.re,X.t,X.rt,X.ns gb,X.ar gb,X.se gb,X.qs gb,X.ls gb,aa,X.cR,X.cL,X.lR,X.lL⟩,⟨b.ns,b.ar,b.se,b.qs,b.ls,(by have:=h2.ps;simp;omega),b.zn,b.za,b.zs,b.zq,b.zl,kQ h2.zp ga⟩,k3,k4⟩,ag,ac,k5⟩) n bad w hI
theorem aK3 (N R L cb:Nat) (kp:List (Nat × Obj)) (p M:Nat) (hkb:(cb,bxR R)∈kp) (hLR:L≠R) (hNR:N<=R) (hNL:N<=L) (n:Nat) (bad:Bool) (w:World) (hI:SnRI (RdK N R L kp p M) R L n bad w) :
 CP 15 #[Pt R 0,.string ⟨#[114,101,113,117,101,115,116]⟩,.func (.func 61) #[] #[Pt cb 0]] w λe w'=>e=.returned (.tuple #[])/\(∃m b,m<=n/\SnRI (RdK N R L kp p M) R L m b w')/\Turn (λj=>N<=j/\j≠L) w w' :=
 fZ 61 (Pt cb 0) (λargs w=>by simp[go_sem,callFunc];rfl) ⟨#[114,101,113,117,101,115,116]⟩ gb N R L hLR hNR hNL (RdK N R L kp p M) (RdK.turn hNR) (λm w0 w k rest c lp hr hK ht hk0 hRk hLk hR hk=>by
  obtain⟨h0,d,ah,h1,h2,h3,h4,h5⟩:=hK.scan ht hNR;have ab:=h5 k hk0;obtain⟨ae,ai,af⟩:=h3 _ hkb;refine(aK2 N R k cb 6 c.pa c.pl c.pc d.ps ah (snrV lp c 9) (aAd lp c gb R) (aAc lp c 9 R) rest hr w h1.ps gb (by have:=h2.ps;have:=h1.ps.len;omega) af hR hk h4 h1.cR ab ae hNR hRk).mono ?_;rintro e w' ⟨rfl,g,cap,r',f',x,ag,ac,aa,hx,ad⟩;obtain⟨X,k3,k4,k5⟩:=h1.fin (g:=g) h3 h4 ab hNR hRk (i:=6) gb h1.ps.lt ad
  (try dsimp only at hx)
  have b:=h2.less (mp m);exact⟨{ c with pa:=some ⟨g,0,none⟩,pl:=c.pl+1,pc:=cap },r',f',rfl,⟨(show p<=c.pl+1/\c.pl+1+m<=M by omega),{ d with ps:=d.ps++[x] },_,⟨X.v,X.rv,X.e,X.re,X.t,X.rt,X.ns gb,X.ar gb,X.se gb,X.qs gb,X.ls gb,aa,X.cR,X.cL,X.lR,X.lL⟩,⟨b.ns,b.ar,b.se,b.qs,b.ls,(by have:=h2.ps;simp;omega),b.zn,b.za,b.zs,b.zq,b.zl,kQ h2.zp ga⟩,k3,k4⟩,ag,ac,k5⟩) n bad w hI
theorem SnRI.imp {K K':Nat->World->SnC->Prop} {R L n:Nat} {aa:Bool} {w:World} (h:SnRI K R L n aa w) (hK:∀c,K n w c->K' n w c):SnRI K' R L n aa w:=by
 obtain⟨c,i,cap,ls,h1,h2,h3,h4,h5,h6,h7⟩:=h;exact⟨c,i,cap,ls,h1,h2,h3,h4,h5,hK c h6,h7⟩
theorem SnRI.lenAt {K:Nat->World->SnC->Prop} {R L n:Nat} {aa:Bool} {w:World} (h:SnRI K R L n aa w):kS w R=n:=by
 obtain⟨c,i,cap,ls,h1,h2,h3,h4,h5,h6,h7⟩:=h;unfold kS;rw[aA h4 0];simp[h1]
theorem RdK.more {N R L:Nat} {kp:List (Nat × Obj)} {p M n:Nat} {w:World} {c:SnC} (o:Obj) (h:RdK N R L kp p M n w c):RdK N R L ((w.heap.size,o) :: kp) p M n (w.alloc o) c:=by
 obtain⟨h0,d,aa,h1,h2,h3,h4⟩:=h;have hz:w.heap.size<=(w.alloc o).heap.size:=by simp
 have hc:∀b,b<w.heap.size->(if b<w.heap.size then aa b else 9)=aa b:=λb hb=>gw hb;refine⟨h0,d,λb=>if b<w.heap.size then aa b else 9,h1.keep hz hc (λb _ hb _=>iy _ _ _ hb),h2,λq hq=>?_,h4.below ((bR w).alloc lr _)⟩;rcases List.mem_cons.1 hq with rfl|hq
 ·exact⟨f9 ge,by simp,ib w o⟩
 ·exact(h3.keep hz hc (λb hb _=>iy _ _ _ hb)) q hq
theorem SnRI.more {N R L:Nat} {kp:List (Nat × Obj)} {p M n:Nat} {aa:Bool} {w:World} (o:Obj) (h:SnRI (RdK N R L kp p M) R L n aa w):SnRI (RdK N R L ((w.heap.size,o) :: kp) p M) R L n aa (w.alloc o):=by
 obtain⟨c,i,cap,ls,h1,h2,h3,h4,h5,h6,h7⟩:=h;exact⟨c,i,cap,ls,h1,h2,h3,aC _ h4,h5.keep (λo ho=>aC _ ho),h6.more o,by simp;omega⟩
theorem RdK.tail {N R L:Nat} {q:Nat × Obj} {kp:List (Nat × Obj)} {p M n:Nat} {w:World} {c:SnC} (h:RdK N R L (q :: kp) p M n w c):RdK N R L kp p M n w c:=by
 obtain⟨h0,d,aa,h1,h2,h3,h4⟩:=h;exact⟨h0,d,aa,h1,h2,λx hx=>h3 x (ja _ hx),h4⟩
theorem SnRI.kept {N R L:Nat} {q:Nat × Obj} {kp:List (Nat × Obj)} {p M n:Nat} {aa:Bool} {w:World} (h:SnRI (RdK N R L kp p M) R L n aa w) (hq:q∈kp):w.heap[q.1]?=some q.2:=by
 obtain⟨c,i,cap,ls,h1,h2,h3,h4,h5,⟨h0,d,ab,k1,k2,k3,k4⟩,h7⟩:=h;exact(k3 q hq).2.2
theorem aHu (N R L:Nat) (kp:List (Nat × Obj)) (ao:L≠R) (aj:N<=R) (ak:N<=L) (n:Nat) (ae:Bool) (w:World) (hI:SnRI (RdK N R L kp 0 10000) R L n ae w) :
 CP 26 #[Pt R 0] w λe w'=>e=.returned (.tuple #[])/\(∃m b,SnRI (RdK N R L kp 0 10000) R L m b w')/\Turn (λj=>N<=j/\j≠L) w w':=by
 obtain⟨eb,ac⟩:=xe w.heap.size
 obtain⟨w1,ab⟩:=xe (w.alloc (bxR R))
 have an:SnRI (RdK N R L ((eb,bxR R) :: kp) 0 10000) R L n ae w1:=by rw[ab,ac];exact hI.more _
 have ar:Turn (λj=>N<=j/\j≠L) w w1:=by rw[ab];exact Turn.of_below ((bR w).alloc lr _)
 obtain⟨a8,a6,a2,a0⟩:=h_4 an ar ab ac;clear hI an ar ab ac;go_enter func26,ntmps26
 go_wp2;rw[<-a2.o,<-a0.o]
 go_loopw [2] (λ_ wr=>(∃m b,SnRI (RdK N R L ((eb,bxR R) :: kp) 0 10000) R L m b wr)/\Turn (λj=>N<=j/\j≠L) w wr) (λ_ wr=>kS wr R)
 case atStart=>exact⟨⟨n,ae,a8.o⟩,a6.o⟩
 case round =>
  obtain⟨⟨m,b,hI⟩,ht⟩:=hrel;have e0:=aA (hI.kept (iw ..)) 0;have ag:=hI.lenAt;obtain⟨c,i,cap,ls,h1,h2,h3,hR,h5,hk,h7⟩:=id hI;obtain⟨p,hp⟩:=xe c.pl
  have aq:SnRI (RdK N R L ((eb,bxR R) :: kp) p (p+m)) R L m b wr:=⟨c,i,cap,ls,h1,h2,h3,hR,h5,⟨by rw[hp];exact⟨gy _,gy _⟩,hk.2⟩,h7⟩
  have ai:p+m<=10000:=by rw[hp];exact hk.1.2
  have HD:=f8 (aLj N R L eb ((eb,bxR R) :: kp) p (p+m) (iw ..) ao aj ak m b wr aq);have r9:=aA hR 9
  (try dsimp only at e0 r9)
  rw[<-hp] at r9;obtain⟨HT,a1,a9⟩:=h_3 ht ag ai;clear ht hI ag h1 h2 h3 hR h5 hk h7 hp aq ai;go_upto_region 3 with (go_at_call 15;refine HD.mono ?_;rintro e w2 ⟨rfl,⟨m2,b2,au,af⟩,ah⟩;obtain⟨a3,a4,bc⟩:=h_3 af ah au;clear e0 r9;have e0:=aA (af.kept (iw ..)) 0;(try dsimp only at e0);clear af ah au)
  have az:=f8 (aK3 N R L eb ((eb,bxR R) :: kp) p (p+m) (iw ..) ao aj ak m2 b2 w2 a3.o);go_upto_region 4 with (go_at_call 15;refine az.mono ?_;rintro e w3 ⟨rfl,⟨m3,b3,ax,ad⟩,am⟩;obtain⟨al,a7,ba⟩:=h_3 ad am ax;clear e0;have e0:=aA (ad.kept (iw ..)) 0;(try dsimp only at e0);clear ad am ax)
  obtain⟨c3,i3,ay,bb,k1,k2,k3,ap,k5,av,k7⟩:=id al.o;have r9:=aA ap 9
  (try dsimp only at r9)
  have a5:=f8 av.1;have aw:=f8 ((HT.trans a4.o).trans a7.o);have HF:=f8 (show SnRI (RdK N R L ((eb,bxR R) :: kp) 0 10000) R L m3 b3 w3 from al.imp λc h=>h.less lr (ii _) a9.o);clear k1 k2 k3 ap k5 av k7;obtain⟨p3,aa⟩:=xe c3.pl
  rw[<-aa] at r9;by_cases hq:p3=p
  ·have q0:((p3:Int)==(p:Int))=true:=by simp[hq]
   clear aa hq;go_wp2;exact ig (iu rfl _ _ _) rfl ⟨rfl,⟨m3,b3,HF.imp λc h=>h.tail⟩,aw.o⟩
  ·have q0:((p3:Int)==(p:Int))=false:=by simp;omega
   have HQ:=f8 (show m3<m by have h1:=a5.o;rw[<-aa] at h1;omega);clear aa hq;go_wp2
   go_roundw
   case rel=>exact⟨⟨m3,b3,HF.o⟩,aw.o⟩
   case measure=>rw[a1.o,HF.lenAt];exact HQ.o
def yO (N R L:Nat) (kp:List (Nat × Obj)) (w:World) (e:Ending) (w':World):Prop:=e=.returned (.tuple #[])/\(∃m b,SnRI (RdK N R L kp 0 10000) R L m b w')/\Turn (λj=>N<=j/\j≠L) w w'
theorem aI1 (N R L B4 B5:Nat) (kp:List (Nat × Obj)) (h4:(B4,bxR R)∈kp) (h5:(B5,bxM R)∈kp) (ab:L≠R) (ae:N<=R) (af:N<=L) (n:Nat) (aa:Bool) (w:World) (hI:SnRI (RdK N R L kp 0 10000) R L n aa w) :
 CP 18 #[Pt B4 0,Pt B5 0] w (yO N R L kp w):=by
 have HE:=f8 (aKa N R L B5 kp 0 10000 h5 ab ae af n aa w hI);have e4:=aA (hI.kept h4) 0
 (try dsimp only at e4)
 clear hI h4 h5;go_enter func18,ntmps18
 go_wp2_with (go_at_call 15;refine HE.mono ?_;rintro e w2 ⟨rfl,⟨m2,b2,ag,ac⟩,ad⟩)
 exact jj (iu rfl _ _ _) rfl ⟨rfl,⟨m2,b2,ac⟩,ad⟩
theorem aI0 (N R L B4 B5:Nat) (kp:List (Nat × Obj)) (h4:(B4,bxR R)∈kp) (h5:(B5,bxM R)∈kp) (ab:L≠R) (ae:N<=R) (af:N<=L) (n:Nat) (aa:Bool) (w:World) (hI:SnRI (RdK N R L kp 0 10000) R L n aa w) :
 CP 22 #[Pt B4 0,Pt B5 0] w (yO N R L kp w):=by
 have HE:=f8 (aKy N R L B5 kp 0 10000 h5 ab ae af n aa w hI);have e4:=aA (hI.kept h4) 0
 (try dsimp only at e4)
 clear hI h4 h5;go_enter func22,ntmps22
 go_wp2_with (go_at_call 15;refine HE.mono ?_;rintro e w2 ⟨rfl,⟨m2,b2,ag,ac⟩,ad⟩)
 exact jj (iu rfl _ _ _) rfl ⟨rfl,⟨m2,b2,ac⟩,ad⟩
theorem aI3 (N R L B4 B5:Nat) (kp:List (Nat × Obj)) (h4:(B4,bxR R)∈kp) (h5:(B5,bxM R)∈kp) (ah:L≠R) (ac:N<=R) (al:N<=L) (n:Nat) (aa:Bool) (w:World) (hI:SnRI (RdK N R L kp 0 10000) R L n aa w) :
 CP 14 #[Pt B4 0,Pt B5 0] w (yO N R L kp w):=by
 have hd:SnRI (RdK N R L kp 0 10000) R L n aa w.drew:=by
  obtain⟨c,i,cap,ls,h1,h2,h3,hR,h5,hk,h7⟩:=hI;exact⟨c,i,cap,ls,h1,h2,h3,hR,h5,RdK.turn ac _ _ _ _ hk (Turn.of_below (bR w).drew),h7⟩
 have HE:=f8 (aM6 N R L w.heap.size ((w.heap.size,bxC R 5) :: kp) 0 10000 (iw ..) ah ac al n aa (w.drew.alloc (bxC R 5)) (hd.more _));have HC:=f8 (λ(w':World) (h:w'.heap[B4]?=some (bxR R)/\w'.heap[B5]?=some (bxM R))=>(show w'.cell? ⟨B4,0,none⟩=some (Pt R 0)/\w'.cell? ⟨B5,0,none⟩=some (Pt R 1) from⟨aA h.1 0,aA h.2 0⟩));have ad:f7 (w.drew.heap[B4]?=some (bxR R)):=f8 (hI.kept h4);have ai:f7 (w.drew.heap[B5]?=some (bxM R)):=f8 (hI.kept h5);have ak:=f8 h4;have am:=f8 h5
 have ae:=f8 (show Turn (λj=>N<=j/\j≠L) w (w.drew.alloc (bxC R 5)) from Turn.of_below ((bR w).drew.alloc lr _));clear hI h4 h5 hd;go_enter func14,ntmps14
 go_upto_region 0 with (fail)
 refine iz (S:=(λw'=>w'.heap[B4]?=some (bxR R)/\w'.heap[B5]?=some (bxM R))) gd (⟨ad.o,ai.o⟩) (λhS=>?_);refine tC 0 HC ?_;refine tC 1 HC ?_;refine tC 2 HC ?_;refine tC 3 HC ?_;refine yr 4 λK hK=>?_;go_simp;go_at_call 16;refine(kB _ _ _).mono ?_;rintro x w1 ⟨rfl,rfl⟩;refine kOQ hK (⟨aC _ hS.1,aC _ hS.2⟩) λhS=>?_;clear hK K
 refine yr 5 λK hK=>?_;go_simp;go_at_call 15;refine HE.mono ?_;rintro e w2 ⟨rfl,⟨m2,b2,an,ab⟩,aj⟩;obtain⟨af,ag⟩:=h_2 ab aj;refine kOQ hK (⟨ab.kept (ja _ ak.o),ab.kept (ja _ am.o)⟩) λhS=>?_;clear hK K
 refine iq gd ?_ _
 (try dsimp only)
 go_wp2;exact jj (iu rfl _ _ _) rfl ⟨rfl,⟨m2,b2,af.imp λc h=>h.tail⟩,ae.trans ag.o⟩
theorem aI2 (N R L B4 B5:Nat) (kp:List (Nat × Obj)) (h4:(B4,bxR R)∈kp) (h5:(B5,bxM R)∈kp) (ah:L≠R) (ac:N<=R) (al:N<=L) (n:Nat) (aa:Bool) (w:World) (hI:SnRI (RdK N R L kp 0 10000) R L n aa w) :
 CP 17 #[Pt B4 0,Pt B5 0] w (yO N R L kp w):=by
 have hd:SnRI (RdK N R L kp 0 10000) R L n aa w.drew:=by
  obtain⟨c,i,cap,ls,h1,h2,h3,hR,h5,hk,h7⟩:=hI;exact⟨c,i,cap,ls,h1,h2,h3,hR,h5,RdK.turn ac _ _ _ _ hk (Turn.of_below (bR w).drew),h7⟩
 have HE:=f8 (aGn N R L w.heap.size ((w.heap.size,bxC R 6) :: kp) 0 10000 (iw ..) ah ac al n aa (w.drew.alloc (bxC R 6)) (hd.more _));have HC:=f8 (λ(w':World) (h:w'.heap[B4]?=some (bxR R)/\w'.heap[B5]?=some (bxM R))=>(show w'.cell? ⟨B4,0,none⟩=some (Pt R 0)/\w'.cell? ⟨B5,0,none⟩=some (Pt R 1) from⟨aA h.1 0,aA h.2 0⟩));have ad:f7 (w.drew.heap[B4]?=some (bxR R)):=f8 (hI.kept h4);have ai:f7 (w.drew.heap[B5]?=some (bxM R)):=f8 (hI.kept h5);have ak:=f8 h4;have am:=f8 h5
 have ae:=f8 (show Turn (λj=>N<=j/\j≠L) w (w.drew.alloc (bxC R 6)) from Turn.of_below ((bR w).drew.alloc lr _));clear hI h4 h5 hd;go_enter func17,ntmps17
 go_upto_region 0 with (fail)
 refine iz (S:=(λw'=>w'.heap[B4]?=some (bxR R)/\w'.heap[B5]?=some (bxM R))) gd (⟨ad.o,ai.o⟩) (λhS=>?_);refine tC 0 HC ?_;refine tC 1 HC ?_;refine tC 2 HC ?_;refine tC 3 HC ?_;refine yr 4 λK hK=>?_;go_simp;go_at_call 16;refine(kB _ _ _).mono ?_;rintro x w1 ⟨rfl,rfl⟩;refine kOQ hK (⟨aC _ hS.1,aC _ hS.2⟩) λhS=>?_;clear hK K
 refine yr 5 λK hK=>?_;go_simp;go_at_call 15;refine HE.mono ?_;rintro e w2 ⟨rfl,⟨m2,b2,an,ab⟩,aj⟩;obtain⟨af,ag⟩:=h_2 ab aj;refine kOQ hK (⟨ab.kept (ja _ ak.o),ab.kept (ja _ am.o)⟩) λhS=>?_;clear hK K
 refine iq gd ?_ _
 (try dsimp only)
 go_wp2;exact jj (iu rfl _ _ _) rfl ⟨rfl,⟨m2,b2,af.imp λc h=>h.tail⟩,ae.trans ag.o⟩
end Go.Proofs.YtoodnaghjpkjfaaGreatDoor
