/- A part. -/
import Derived.Test.YtmgpghoamapfgaaGreatDoorST26Mrg
import Derived.Test.YtmgpghoamapfgaaGreatDoorST18Mrg
import Derived.OrdersIn
import Derived.TacticsIn
import Derived.Maps.OwnIn
namespace Go.Proofs.YtmgpghoamapfgaaGreatDoor
set_option linter.unusedVariables false
set_option maxRecDepth 100000
set_option maxHeartbeats 16000000
set_option linter.unusedSimpArgs false
section
open Go Go.RowKit Go.Shelf
theorem iP {w:World} {base n:Nat} {v:Value} {xs:List Int} (h:w.ownsRow base 3 1 v n (xs.map (Value.int .i64))) (hbig:n * 8<=140737488351232) (hr:∀x∈xs,I64 x):∃a c,v=.slice a n c/\IsInts (fun b=>base<=b/\b<w.heap.size) w a n c xs:=by
 obtain⟨hl,hv⟩:=h;rw[List.length_map,Nat.mul_one] at hl;rcases hv with ⟨rfl,rfl⟩ | ⟨g,cap,cur,rfl,hb,hg,hn,_,_,ht⟩
 ·exact⟨none,0,rfl,hl.symm,Nat.le_refl _,hbig,hr,.inl (List.eq_nil_of_length_eq_zero hl)⟩
 ·refine⟨_,_,rfl,hl.symm,hn,hbig,hr,.inr ⟨g,0,rfl,⟨hb,ltOf hg⟩,fun j hj=>?_⟩⟩;rw[aA hg,Nat.zero_add];have h1:(cur.toList.take (n * 1))[j]?=some (I6 xs[j]):=by rw[ht];simp[hj]
  rw[List.getElem?_take] at h1;split at h1
  ·simpa using h1
  ·cases h1
theorem sP (a:Option Addr) (n c:Nat) (xs:List Int) (w:World) (hx:IsInts (· < w.heap.size) w a n c xs) (B:Nat) (hB:B<=w.heap.size) :
 Calls Tryz.prog 190 #[.slice a n c] w fun e w'=>∃a' c',e=.returned (.slice a' n c')/\Below w.heap.size w w'/\IsInts (fun b=>B<=b/\b<w'.heap.size) w' a' n c' xs:=by
 have low:∀{w':World} {a':Option Addr} {c':Nat},IsInts (fun b=>w.heap.size<=b/\b<w'.heap.size) w' a' n c' xs->IsInts (fun b=>B<=b/\b<w'.heap.size) w' a' n c' xs:=fun h=>h.same fun b hb=>⟨⟨by omega,hb.2⟩,rfl⟩
 have hl:=hx.len;have hbig:=hx.big;cases hn:n with
 | zero =>
   subst hn;have h0:xs=[]:=List.eq_nil_of_length_eq_zero hl.symm;subst h0;cases a with
   | none=>exact(Tryz.slices_Clone_int_nil 0 c w).mono fun e w' ⟨he,hw⟩=>⟨none,0,he,by rw[hw];exact Below.refl _ _,⟨rfl,Nat.le_refl _,by omega,fun x h=>by(cases h),.inl rfl⟩⟩
   | some a =>
     refine(Tryz.slices_Clone_int_zero a c w).mono fun e w' ⟨v,he,ho,_,hb⟩=>?_;obtain⟨a',c',rfl,hi⟩:=iP (xs:=[]) ho ga (fun x h=>by(cases h));exact⟨a',c',he,hb,low hi⟩
 | succ m =>
   rw[<-hn];obtain⟨b,o,rfl,hb,hc⟩:=hx.slot (show 0<n by omega);refine(Tryz.slices_Clone_int b o n c xs w ga ga (fun j hj=>by rw[hc j hj];simp[List.getD_eq_getElem?_getD,hj])).mono fun e w' ⟨v,he,ho,_,hb'⟩=>?_;rw[List.take_of_length_le ga] at ho;obtain⟨a',c',rfl,hi⟩:=iP ho hbig hx.rng;exact⟨a',c',he,hb',low hi⟩
abbrev setTen (w:World) (B:Nat) (c:MC):World:=(((((((((w.setCell ⟨B,0,none⟩ (I6 c.st.e)).setCell ⟨B,1,none⟩ (.slice c.st.a c.st.n c.st.c)).setCell ⟨B,2,none⟩ (I6 c.m)).setCell ⟨B,3,none⟩ (.slice c.a c.n c.c)).setCell ⟨B,4,none⟩ (I6 c.b.k)).setCell ⟨B,5,none⟩ (I6 c.b.i)).setCell ⟨B,6,none⟩ (I6 c.b.s)).setCell ⟨B,7,none⟩ (.string c.b.t)).setCell ⟨B,8,none⟩ (.slice c.b.la c.b.ll c.b.lc)).setCell ⟨B,9,none⟩ (.slice c.b.fa c.b.fl c.b.fc)
theorem aD1 {w:World} {B:Nat} {c:MC} {t:TypeId} {x0 x1 x2 x3 x4 x5 x6 x7 x8 x9:Value} {fr:Nat × Nat} (h:w.heap[B]?=some (.cells #[x0,x1,x2,x3,x4,x5,x6,x7,x8,x9] t fr)):(setTen w B c).heap[B]?=some (.cells #[I6 c.st.e,.slice c.st.a c.st.n c.st.c,I6 c.m,.slice c.a c.n c.c,I6 c.b.k,I6 c.b.i,I6 c.b.s,.string c.b.t,.slice c.b.la c.b.ll c.b.lc,.slice c.b.fa c.b.fl c.b.fc] t fr):=by
 have e:=aE (o:=9) (.slice c.b.fa c.b.fl c.b.fc) (aE (o:=8) (.slice c.b.la c.b.ll c.b.lc) (aE (o:=7) (.string c.b.t) (aE (o:=6) (I6 c.b.s) (aE (o:=5) (I6 c.b.i) (aE (o:=4) (I6 c.b.k) (aE (o:=3) (.slice c.a c.n c.c) (aE (o:=2) (I6 c.m) (aE (o:=1) (.slice c.st.a c.st.n c.st.c) (aE (o:=0) (I6 c.st.e) (h))))))))));simp only[List.setIfInBounds_toArray,List.set_cons_zero,List.set_cons_succ] at e;exact e
theorem aB1 {c:MC} (w:World) (B b:Nat) (hb:b≠B):(setTen w B c).heap[b]?=w.heap[b]?:=by
 unfold setTen;rw[Below.heap_setCell _ _ _ _ hb,Below.heap_setCell _ _ _ _ hb,Below.heap_setCell _ _ _ _ hb,Below.heap_setCell _ _ _ _ hb,Below.heap_setCell _ _ _ _ hb,Below.heap_setCell _ _ _ _ hb,Below.heap_setCell _ _ _ _ hb,Below.heap_setCell _ _ _ _ hb,Below.heap_setCell _ _ _ _ hb,Below.heap_setCell _ _ _ _ hb]
theorem aD0 {c:MC} (w:World) (B:Nat):(setTen w B c).heap.size=w.heap.size:=by simp[setTen,World.setCell]
theorem aB2 {c:MC} (w:World) (B N:Nat) (hN:N<=B):Below N w (setTen w B c) :=
 ((((((((((Below.refl _ _).setCell (p:=⟨B,0,none⟩) gi _).setCell (p:=⟨B,1,none⟩) gi _).setCell (p:=⟨B,2,none⟩) gi _).setCell (p:=⟨B,3,none⟩) gi _).setCell (p:=⟨B,4,none⟩) gi _).setCell (p:=⟨B,5,none⟩) gi _).setCell (p:=⟨B,6,none⟩) gi _).setCell (p:=⟨B,7,none⟩) gi _).setCell (p:=⟨B,8,none⟩) gi _).setCell (p:=⟨B,9,none⟩) gi _
def StPost (w:World) (d:St) (e:Ending) (w':World):Prop:=∃c':SC,e=.returned c'.v/\Below w.heap.size w w'/\IsSt (fun b=>w.heap.size<=b/\b<w'.heap.size) w' c' d
def MsgPost (w:World) (d:Msg) (e:Ending) (w':World):Prop:=∃c':MC,e=.returned c'.v/\Below w.heap.size w w'/\IsMsg (fun b=>w.heap.size<=b/\b<w'.heap.size) w' c' d
theorem wC (c:SC) (d:St) (w:World) (hd:IsSt (· < w.heap.size) w c d):Calls Tryz.prog 189 #[c.v] w (StPost w d):=by
 have HWB:Hid (Below w.heap.size w ((w.alloc (.cells #[I6 c.e,.slice c.a c.n c.c] 39)).alloc (.cells #[I6 0,.slice none 0 0] 39))):=hid (((bR w).alloc lr _).alloc gd _)
 have HV:Hid (∀w',Below ((w.alloc (.cells #[I6 c.e,.slice c.a c.n c.c] 39)).alloc (.cells #[I6 0,.slice none 0 0] 39)).heap.size ((w.alloc (.cells #[I6 c.e,.slice c.a c.n c.c] 39)).alloc (.cells #[I6 0,.slice none 0 0] 39)) w'->Calls Tryz.prog 190 #[.slice c.a c.n c.c] w' fun e w2=>∃a' c',e=.returned (.slice a' c.n c')/\Below w'.heap.size w' w2/\IsInts (fun b=>((w.alloc (.cells #[I6 c.e,.slice c.a c.n c.c] 39)).alloc (.cells #[I6 0,.slice none 0 0] 39)).heap.size<=b/\b<w2.heap.size) w2 a' c.n c' d.ps):=hid fun w' h=>by
  have hb:=HWB.out.trans (h.mono HWB.out.size);exact sP _ _ _ _ w' (hd.ps.same fun b q=>⟨Nat.lt_of_lt_of_le q hb.size,hb.block b q⟩) _ h.size
 have HC:Hid (∀w',Below ((w.alloc (.cells #[I6 c.e,.slice c.a c.n c.c] 39)).alloc (.cells #[I6 0,.slice none 0 0] 39)).heap.size ((w.alloc (.cells #[I6 c.e,.slice c.a c.n c.c] 39)).alloc (.cells #[I6 0,.slice none 0 0] 39)) w'->w'.cell? ⟨w.heap.size,0,none⟩=some (I6 c.e)/\w'.cell? ⟨w.heap.size,1,none⟩=some (.slice c.a c.n c.c)):=hid fun w' h=>by
  have h1:w'.heap[w.heap.size]?=some ((.cells #[I6 c.e,.slice c.a c.n c.c] 39 (0,0))):=aB h (aD _ (heap_alloc_new w _));exact⟨aA h1 0,aA h1 1⟩
 have HE:=hid hd.e;have HRE:=hid hd.re;clear hd;go_enter Tryz.func189,Tryz.ntmps189
 go_upto_region 1 with (fail)
 refine aG 6 (fun w'=>Below ((w.alloc (.cells #[I6 c.e,.slice c.a c.n c.c] 39)).alloc (.cells #[I6 0,.slice none 0 0] 39)).heap.size ((w.alloc (.cells #[I6 c.e,.slice c.a c.n c.c] 39)).alloc (.cells #[I6 0,.slice none 0 0] 39)) w') ge ge ge gc ((Below.refl _ _).drew) (fun hS=>?_);simp only[zdm,zdn,zdp,zdq];refine tc 0 HC ?_;refine tc 1 HC ?_;refine tc 2 HC ?_;refine tc 3 HC ?_;refine yr 4 fun K hK=>?_;go_simp;go_at_call 190;refine(HV.out _ hS).mono ?_;rintro e w1 ⟨a',c',rfl,hb1,hi⟩;refine hK.out _ _ (hS.trans (hb1.mono hS.size)) (fun hS=>?_);clear hK K
 (try simp only[Act.put,pr])
 refine tc 5 HC ?_;refine wpAnyH_done ge ?_ _
 (try dsimp only)
 have hB:=aB hS (aS (w.alloc (.cells #[I6 c.e,.slice c.a c.n c.c] 39)) (.cells #[I6 0,.slice none 0 0] 39) (w.heap.size+1) gd);have z0:=aA hB 0;have z1:=aA hB 1;have y0:=aC hB 0;have y1:=aC hB 1
 (try dsimp only at z0 z1)
 have HB:=hid hB;have HI:=hid hi;have HS:=hid hS;clear hB hi hS HV HC;go_wp2;have h1:=aE (o:=1) (Value.slice a' c.n c') (aE (o:=0) (I6 c.e) HB.out);refine bodyPost_ret (v:=.agg #[I6 c.e,.slice a' c.n c']) (by simp[results,Tryz.results189,go_sem,aA h1]) rfl ⟨⟨c.e,a',c.n,c'⟩,rfl,?_,⟨HE.out,HRE.out,?_⟩⟩
 ·exact((HWB.out.trans (HS.out.mono HWB.out.size)).setCell (p:=⟨w.heap.size+1,0,none⟩) gi _).setCell (p:=⟨w.heap.size+1,1,none⟩) gi _
 ·refine HI.out.same fun b hb=>⟨⟨?_,by simpa [World.setCell] using hb.2⟩,(Below.heap_setCell _ _ _ _ ?_).trans (Below.heap_setCell _ _ _ _ ?_)⟩<;>(have:=hb.1;simp at this ⊢;omega)
theorem xJ (c:MC) (d:Msg) (w:World) (hd:IsMsg (· < w.heap.size) w c d):Calls Tryz.prog 116 #[c.v] w (MsgPost w d):=by
 have HWB:Hid (Below w.heap.size w ((w.alloc (oM c 86)).alloc (.cells #[I6 0,.slice none 0 0,I6 0,.slice none 0 0,I6 0,I6 0,I6 0,.string ByteArray.empty,.slice none 0 0,.slice none 0 0] 86))):=hid (((bR w).alloc lr _).alloc gd _)
 have later:∀w',Below ((w.alloc (oM c 86)).alloc (.cells #[I6 0,.slice none 0 0,I6 0,.slice none 0 0,I6 0,I6 0,I6 0,.string ByteArray.empty,.slice none 0 0,.slice none 0 0] 86)).heap.size ((w.alloc (oM c 86)).alloc (.cells #[I6 0,.slice none 0 0,I6 0,.slice none 0 0,I6 0,I6 0,I6 0,.string ByteArray.empty,.slice none 0 0,.slice none 0 0] 86)) w'->IsMsg (· < w'.heap.size) w' c d/\((w.alloc (oM c 86)).alloc (.cells #[I6 0,.slice none 0 0,I6 0,.slice none 0 0,I6 0,I6 0,I6 0,.string ByteArray.empty,.slice none 0 0,.slice none 0 0] 86)).heap.size<=w'.heap.size:=fun w' h=>by
  have hb:=HWB.out.trans (h.mono HWB.out.size);exact⟨hd.same fun b q=>⟨Nat.lt_of_lt_of_le q hb.size,hb.block b q⟩,h.size⟩
 have HV:Hid (∀w',Below ((w.alloc (oM c 86)).alloc (.cells #[I6 0,.slice none 0 0,I6 0,.slice none 0 0,I6 0,I6 0,I6 0,.string ByteArray.empty,.slice none 0 0,.slice none 0 0] 86)).heap.size ((w.alloc (oM c 86)).alloc (.cells #[I6 0,.slice none 0 0,I6 0,.slice none 0 0,I6 0,I6 0,I6 0,.string ByteArray.empty,.slice none 0 0,.slice none 0 0] 86)) w'->Calls Tryz.prog 189 #[.agg #[I6 c.st.e,.slice c.st.a c.st.n c.st.c]] w' fun e w2=>∃c':SC,e=.returned c'.v/\Below w'.heap.size w' w2/\IsSt (fun b=>((w.alloc (oM c 86)).alloc (.cells #[I6 0,.slice none 0 0,I6 0,.slice none 0 0,I6 0,I6 0,I6 0,.string ByteArray.empty,.slice none 0 0,.slice none 0 0] 86)).heap.size<=b/\b<w2.heap.size) w2 c' d.st):=hid fun w' h =>
  (wC c.st d.st w' (later w' h).1.st).mono fun e w2 ⟨c',he,hb,hi⟩=>⟨c',he,hb,hi.same fun b q=>⟨⟨Nat.le_trans h.size q.1,q.2⟩,rfl⟩⟩
 have HV2:Hid (∀w',Below ((w.alloc (oM c 86)).alloc (.cells #[I6 0,.slice none 0 0,I6 0,.slice none 0 0,I6 0,I6 0,I6 0,.string ByteArray.empty,.slice none 0 0,.slice none 0 0] 86)).heap.size ((w.alloc (oM c 86)).alloc (.cells #[I6 0,.slice none 0 0,I6 0,.slice none 0 0,I6 0,I6 0,I6 0,.string ByteArray.empty,.slice none 0 0,.slice none 0 0] 86)) w'->Calls Tryz.prog 190 #[.slice c.a c.n c.c] w' fun e w2=>∃a' c',e=.returned (.slice a' c.n c')/\Below w'.heap.size w' w2/\IsInts (fun b=>((w.alloc (oM c 86)).alloc (.cells #[I6 0,.slice none 0 0,I6 0,.slice none 0 0,I6 0,I6 0,I6 0,.string ByteArray.empty,.slice none 0 0,.slice none 0 0] 86)).heap.size<=b/\b<w2.heap.size) w2 a' c.n c' d.es):=hid fun w' h =>
  sP _ _ _ _ w' (later w' h).1.es _ h.size
 have HV3:Hid (∀w',Below ((w.alloc (oM c 86)).alloc (.cells #[I6 0,.slice none 0 0,I6 0,.slice none 0 0,I6 0,I6 0,I6 0,.string ByteArray.empty,.slice none 0 0,.slice none 0 0] 86)).heap.size ((w.alloc (oM c 86)).alloc (.cells #[I6 0,.slice none 0 0,I6 0,.slice none 0 0,I6 0,I6 0,I6 0,.string ByteArray.empty,.slice none 0 0,.slice none 0 0] 86)) w'->Calls Tryz.prog 117 #[.agg #[I6 c.b.k,I6 c.b.i,I6 c.b.s,.string c.b.t,.slice c.b.la c.b.ll c.b.lc,.slice c.b.fa c.b.fl c.b.fc]] w' fun e w2=>∃c':VC,e=.returned c'.v/\Below w'.heap.size w' w2/\IsVal (fun b=>((w.alloc (oM c 86)).alloc (.cells #[I6 0,.slice none 0 0,I6 0,.slice none 0 0,I6 0,I6 0,I6 0,.string ByteArray.empty,.slice none 0 0,.slice none 0 0] 86)).heap.size<=b/\b<w2.heap.size) w2 c' d.b):=hid fun w' h =>
  (mJ (later w' h).1.b).mono fun e w2 ⟨c',he,hb,hi⟩=>⟨c',he,hb,hi.same fun b q=>⟨⟨Nat.le_trans h.size q.1,q.2⟩,rfl⟩⟩
 have HC:Hid (∀w',Below ((w.alloc (oM c 86)).alloc (.cells #[I6 0,.slice none 0 0,I6 0,.slice none 0 0,I6 0,I6 0,I6 0,.string ByteArray.empty,.slice none 0 0,.slice none 0 0] 86)).heap.size ((w.alloc (oM c 86)).alloc (.cells #[I6 0,.slice none 0 0,I6 0,.slice none 0 0,I6 0,I6 0,I6 0,.string ByteArray.empty,.slice none 0 0,.slice none 0 0] 86)) w'->w'.cell? ⟨w.heap.size,0,none⟩=some (I6 c.st.e)/\w'.cell? ⟨w.heap.size,1,none⟩=some (.slice c.st.a c.st.n c.st.c)/\w'.cell? ⟨w.heap.size,2,none⟩=some (I6 c.m)/\w'.cell? ⟨w.heap.size,3,none⟩=some (.slice c.a c.n c.c)/\w'.cell? ⟨w.heap.size,4,none⟩=some (I6 c.b.k)/\w'.cell? ⟨w.heap.size,5,none⟩=some (I6 c.b.i)/\w'.cell? ⟨w.heap.size,6,none⟩=some (I6 c.b.s)/\w'.cell? ⟨w.heap.size,7,none⟩=some (.string c.b.t)/\w'.cell? ⟨w.heap.size,8,none⟩=some (.slice c.b.la c.b.ll c.b.lc)/\w'.cell? ⟨w.heap.size,9,none⟩=some (.slice c.b.fa c.b.fl c.b.fc)):=hid fun w' h=>by
  have h1:w'.heap[w.heap.size]?=some (mObj c):=aB h (aD _ (heap_alloc_new w _));exact⟨aA h1 0,aA h1 1,aA h1 2,aA h1 3,aA h1 4,aA h1 5,aA h1 6,aA h1 7,aA h1 8,aA h1 9⟩
 have HM:=hid hd.m;have HNN:=hid hd.st.ps.len.symm;have HRM:=hid hd.rm;clear hd later;go_enter Tryz.func116,Tryz.ntmps116
 go_upto_region 1 with (fail)
 refine aG 12 (fun w'=>Below ((w.alloc (oM c 86)).alloc (.cells #[I6 0,.slice none 0 0,I6 0,.slice none 0 0,I6 0,I6 0,I6 0,.string ByteArray.empty,.slice none 0 0,.slice none 0 0] 86)).heap.size ((w.alloc (oM c 86)).alloc (.cells #[I6 0,.slice none 0 0,I6 0,.slice none 0 0,I6 0,I6 0,I6 0,.string ByteArray.empty,.slice none 0 0,.slice none 0 0] 86)) w') ge ge ge gc ((Below.refl _ _).drew) (fun hS=>?_);simp only[zdm,zdn,zdp,zdq];refine tc 0 HC ?_;refine tc 1 HC ?_;refine tc 3 HC ?_;refine tc 4 HC ?_;refine tc 5 HC ?_;refine tc 6 HC ?_;refine tc 8 HC ?_;refine tc 9 HC ?_;refine yr 2 fun K hK=>?_;go_simp;go_at_call 189;refine(HV.out _ hS).mono ?_;rintro e w1 ⟨⟨se,sa,sn,sc⟩,rfl,hb1,hi1⟩;obtain rfl:se=d.st.e:=hi1.e;obtain rfl:sn=c.st.n:=hi1.ps.len.trans HNN.out;have hsz0:=hS.size;refine hK.out _ _ (hS.trans (hb1.mono hS.size)) (fun hS=>?_);clear hK K
 (try simp only[Act.put,pr])
 refine yr 7 fun K hK=>?_;go_simp;go_at_call 190;refine(HV2.out _ hS).mono ?_;rintro e w2 ⟨ea,ec,rfl,hb1,hi2⟩;have hi1':=hi1.same (S':=fun b=>((w.alloc (oM c 86)).alloc (.cells #[I6 0,.slice none 0 0,I6 0,.slice none 0 0,I6 0,I6 0,I6 0,.string ByteArray.empty,.slice none 0 0,.slice none 0 0] 86)).heap.size<=b/\b<w2.heap.size) (fun b hb=>⟨⟨hb.1,Nat.lt_of_lt_of_le hb.2 hb1.size⟩,hb1.block b hb.2⟩);refine hK.out _ _ (hS.trans (hb1.mono hS.size)) (fun hS=>?_);clear hK K
 (try simp only[Act.put,pr])
 refine yr 10 fun K hK=>?_;go_simp;go_at_call 117;refine(HV3.out _ hS).mono ?_;rintro e w3 ⟨cb,rfl,hb1,hi3⟩;have hi1'':=hi1'.same (S':=fun b=>((w.alloc (oM c 86)).alloc (.cells #[I6 0,.slice none 0 0,I6 0,.slice none 0 0,I6 0,I6 0,I6 0,.string ByteArray.empty,.slice none 0 0,.slice none 0 0] 86)).heap.size<=b/\b<w3.heap.size) (fun b hb=>⟨⟨hb.1,Nat.lt_of_lt_of_le hb.2 hb1.size⟩,hb1.block b hb.2⟩)
 have hi2':=hi2.same (S':=fun b=>((w.alloc (oM c 86)).alloc (.cells #[I6 0,.slice none 0 0,I6 0,.slice none 0 0,I6 0,I6 0,I6 0,.string ByteArray.empty,.slice none 0 0,.slice none 0 0] 86)).heap.size<=b/\b<w3.heap.size) (fun b hb=>⟨⟨hb.1,Nat.lt_of_lt_of_le hb.2 hb1.size⟩,hb1.block b hb.2⟩);refine hK.out _ _ (hS.trans (hb1.mono hS.size)) (fun hS=>?_);clear hK K
 (try simp only[Act.put,pr])
 refine tc 11 HC ?_;refine wpAnyH_done ge ?_ _
 (try dsimp only)
 have hB:=aB hS (aS (w.alloc (oM c 86)) (.cells #[I6 0,.slice none 0 0,I6 0,.slice none 0 0,I6 0,I6 0,I6 0,.string ByteArray.empty,.slice none 0 0,.slice none 0 0] 86) (w.heap.size+1) gd);have z0:=aA hB 0;have z1:=aA hB 1;have z2:=aA hB 2;have z3:=aA hB 3;have z4:=aA hB 4;have z5:=aA hB 5;have z6:=aA hB 6;have z7:=aA hB 7;have z8:=aA hB 8;have z9:=aA hB 9;have y0:=aC hB 0;have y1:=aC hB 1;have y2:=aC hB 2;have y3:=aC hB 3;have y4:=aC hB 4;have y5:=aC hB 5;have y6:=aC hB 6;have y7:=aC hB 7;have y8:=aC hB 8;have y9:=aC hB 9
 (try dsimp only at z0 z1 z2 z3 z4 z5 z6 z7 z8 z9)
 have HB:=hid hB;have HI1:=hid hi1'';have HI2:=hid hi2';have HI3:=hid hi3;have HS:=hid hS;clear hB hi1 hi1' hi1'' hi2 hi2' hi3 hS HV HV2 HV3 HC;go_wp2;have h1:=aD1 (c:=⟨⟨d.st.e,sa,c.st.n,sc⟩,c.m,ea,c.n,ec,cb⟩) HB.out;have h2:=aB2 (c:=⟨⟨d.st.e,sa,c.st.n,sc⟩,c.m,ea,c.n,ec,cb⟩) w3 (w.heap.size+1) w.heap.size ga;have h3:=fun b hb=>aB1 (c:=⟨⟨d.st.e,sa,c.st.n,sc⟩,c.m,ea,c.n,ec,cb⟩) w3 (w.heap.size+1) b hb;have h4:=aD0 (c:=⟨⟨d.st.e,sa,c.st.n,sc⟩,c.m,ea,c.n,ec,cb⟩) w3 (w.heap.size+1);dsimp only[setTen] at h1 h2 h3 h4
 refine bodyPost_ret (v:=MC.v ⟨⟨d.st.e,sa,c.st.n,sc⟩,c.m,ea,c.n,ec,cb⟩) (by simp[results,Tryz.results116,go_sem,aA h1]) rfl ⟨_,rfl,?_,?_⟩
 ·exact(HWB.out.trans (HS.out.mono HWB.out.size)).trans h2
 ·have key:∀b,((w.alloc (oM c 86)).alloc (.cells #[I6 0,.slice none 0 0,I6 0,.slice none 0 0,I6 0,I6 0,I6 0,.string ByteArray.empty,.slice none 0 0,.slice none 0 0] 86)).heap.size<=b/\b<w3.heap.size->(w.heap.size<=b/\b<w3.heap.size)/\b≠w.heap.size+1:=fun b hb=>by(have:=hb.1;simp at this;omega)
  exact IsMsg.same (w:=w3) (fun b hb=>⟨by rw[h4];exact(key b hb).1,h3 b (key b hb).2⟩) ⟨⟨rfl,HI1.out.re,HI1.out.ps⟩,HM.out,HRM.out,HI2.out,HI3.out⟩
end
section
open Go Go.RowKit Go.Shelf
end
section
open Go Go.RowKit Go.Shelf
attribute [local go_sem] Oper.semAt_some
end
section
open Go Go.RowKit
section
variable {P:Program} {l:List Oper} {Q:Exit->Act->World->Prop}
end
section
variable {P:Program} {ops:Array Oper} {Q:Exit->Act->World->Prop}
end
end
section
open Go Go.RowKit Go.Shelf
end
section
open Go Go.RowKit Go.Shelf
attribute [local go_sem] Oper.semAt_some
theorem aBy:(Tryz.prog.info? 86).map (fun i=>(i.zero,i.size,i.bytes))=some (some (.agg #[I6 0,.slice none 0 0,I6 0,.slice none 0 0,I6 0,I6 0,I6 0,.string ByteArray.empty,.slice none 0 0,.slice none 0 0]),10,152):=by kernel_rfl
def noVal:Val:=.mk 0 0 0 ⟨#[]⟩ [] [] []
end
section
open Go Go.RowKit Go.Shelf
theorem zA (s:ByteArray) (hs:s.size<=1000000) (w:World) (hT:Tabs w) (hN:NumVars w) :
 Calls Tryz.prog 240 #[.string s] w fun e w'=>e=.returned (.tuple #[I6 (cZ s.data.toList).1,.bool (cZ s.data.toList).2])/\Below w.heap.size w w':=by
 have HZ:=hid (show s.data.toList.length=s.size by rw[ByteArray.size,Array.length_toList]);obtain⟨⟨e1,h1,k1⟩,⟨e2,h2,k2⟩,_⟩:=hN;obtain⟨r,hr⟩:∃r,Lib.atoiAll s.data.toList=r:=⟨_,rfl⟩
 by_cases hok:∃v,r=.ok v
 ·obtain⟨v,rfl⟩:=hok;obtain⟨b0,b1⟩:=Lib.atoiAll_bounds hr;have HA:=hid (Tryz.strconv_Atoi_ok s ga v hr w);obtain⟨t,ht⟩:=ez (aF v)
  have hI:=fun w hT=>bZ v ⟨b0,b1⟩ w hT;rw[<-ht] at hI;have HI:=hid hI;obtain⟨b,hb⟩:∃b,(t.toList==s.toList)=b:=⟨_,rfl⟩
  have he:aC4 s.data.toList=(v,b):=by
   unfold aC4;rw[hr,<-hb,aI0,ht];rfl
  by_cases h7:s.size<=7
  ·have HE:=hid (show cZ s.data.toList=(v,b) by
    unfold cZ;rw[he,decide_eq_true (by rw[HZ.out];exact h7),Bool.and_true])
   have h7':(s.size:Int)<=7:=by omega
   clear hr b0 b1 hI ht h1 h2 k1 k2 he h7;cases b
   all_goals go_enter Tryz.func240,Tryz.ntmps240
   all_goals go_wp2_with (first
    | (go_at_call 35;refine(HI.out w1 (hT.below HB1.out)).mono ?_;rintro e w2 ⟨rfl,hb2⟩)
    | (go_at_call 148;refine HA.out.mono ?_;rintro e w1 ⟨rfl,hw1⟩;have HB1:=hid (show Below w.heap.size w w1 from hw1.elim (fun h=>h▸Below.refl _ _) (fun ⟨_,h⟩=>h▸Lib.bytesWorld_below _ _ _));clear hw1))
   ·refine bodyPost_ret (v:=.tuple #[I6 v,.bool false]) (by simp[results,Tryz.results240,go_sem]) rfl ?_;exact⟨by rw[HE.out],HB1.out.trans (hb2.mono HB1.out.size)⟩
   ·refine bodyPost_ret (v:=.tuple #[I6 v,.bool true]) (by simp[results,Tryz.results240,go_sem]) rfl ?_;exact⟨by rw[HE.out],HB1.out.trans (hb2.mono HB1.out.size)⟩
  ·have HE:=hid (show cZ s.data.toList=(v,false) by
    unfold cZ;rw[he,decide_eq_false (by rw[HZ.out];exact h7),Bool.and_false])
   have h7':¬ (s.size:Int)<=7:=by omega
   clear hr b0 b1 hI ht h1 h2 k1 k2 he h7 hb HI;go_enter Tryz.func240,Tryz.ntmps240
   go_wp2_with (go_at_call 148;refine HA.out.mono ?_;rintro e w1 ⟨rfl,hw1⟩;have HB1:=hid (show Below w.heap.size w w1 from hw1.elim (fun h=>h▸Below.refl _ _) (fun ⟨_,h⟩=>h▸Lib.bytesWorld_below _ _ _));clear hw1)
   refine bodyPost_ret (v:=.tuple #[I6 v,.bool false]) (by simp[results,Tryz.results240,go_sem]) rfl ?_;exact⟨by rw[HE.out],HB1.out⟩
 by_cases hra:r=.range
 ·subst hra;have HA:=hid (Tryz.strconv_Atoi_range s ga hr e2 w h2 k2);have HE:=hid (show cZ s.data.toList=(Lib.atoiSat s.data.toList,false) by unfold cZ aC4;rw[hr];rfl);clear hr h1 h2 k1 k2;go_enter Tryz.func240,Tryz.ntmps240
  go_wp2_with (go_at_call 148;refine HA.out.mono ?_;rintro e w1 ⟨N,rfl,_,_,hb1⟩)
  refine bodyPost_ret (v:=.tuple #[I6 (Lib.atoiSat s.data.toList),.bool false]) (by simp[results,Tryz.results240,go_sem]) rfl ?_;exact⟨by rw[HE.out],hb1⟩
 have HA:=hid (aFb s ga (fun v h=>hok ⟨v,hr.symm.trans h⟩) (fun h=>hra (hr.symm.trans h)) e1 w h1 k1);have HE:=hid (show cZ s.data.toList=(0,false) by
  unfold cZ aC4;rw[hr];cases r
  ·exact absurd ⟨_,rfl⟩ hok
  ·rfl
  ·exact absurd rfl hra)
 clear hr hok hra h1 h2 k1 k2;go_enter Tryz.func240,Tryz.ntmps240
 go_wp2_with (go_at_call 148;refine HA.out.mono ?_;rintro e w1 ⟨N,rfl,_,_,hb1⟩)
 refine bodyPost_ret (v:=.tuple #[I6 0,.bool false]) (by simp[results,Tryz.results240,go_sem]) rfl ?_;exact⟨by rw[HE.out],hb1⟩
end
section
open Go Go.RowKit Go.Shelf
attribute [local go_sem] Oper.semAt_some
theorem eH {W:World} {b:Nat} {u v:Value} {t:TypeId} (h:W.heap[b]?=some (.cells #[u,v] t (0,0))) :
 W.cell? ⟨b,0,none⟩=some u/\W.cell? ⟨b,1,none⟩=some v/\W.frozen? ⟨b,0,none⟩=false/\W.frozen? ⟨b,1,none⟩=false:=by
 refine⟨?_,?_,?_,?_⟩<;>simp[World.cell?,World.frozen?,h]
theorem dQ {W:World} {b i:Nat} {v:Value} {cur:Array Value} {t:TypeId} {fr:Nat × Nat} (h:W.heap[b]?=some (.cells cur t fr)):(W.setCell ⟨b,i,none⟩ v).heap[b]?=some (.cells (cur.setIfInBounds i v) t fr):=by
 obtain⟨hlt,hk⟩:=Array.getElem?_eq_some_iff.1 h;show(W.heap.modify b _)[b]?=_;rw[Array.getElem?_eq_getElem (by rw[Array.size_modify];exact hlt),Array.getElem_modify_self,hk];rfl
theorem aI1 {tmps:Array Value} {W:World} {R:Nat} {x y v:Value} (h2:tmps.getD 2 undef=.pointer (some ⟨R,0,none⟩)) (h3:tmps.getD 3 undef=.pointer (some ⟨R+1,0,none⟩))
 (hR:W.heap[R]?=some (.cells #[x,y] 39 (0,0))) (hE:W.heap[R+1]?=some (.cells #[v] 27 (0,0))) :
 (results Tryz.f153 tmps).run Tryz.prog W=.ok (.tuple #[.agg #[x,y],v]) W:=by
 have h2':tmps[2]?.getD undef=.pointer (some ⟨R,0,none⟩):=by simpa using h2
 have h3':tmps[3]?.getD undef=.pointer (some ⟨R+1,0,none⟩):=by simpa using h3
 obtain⟨c0,c1,_,_⟩:=eH hR;have e0:=(aY hE).1;simp[results,Tryz.results153,go_sem,h2',h3',c0,c1,e0]
theorem yR {w:World} {base:Nat} {e:TypeId} {size n:Nat} {v:Value} {xs:List Value} (h:w.ownsRow base e size v (n+1) xs):∃g cap,v=.slice (some ⟨g,0,none⟩) (n+1) cap/\g<w.heap.size/\base<=g:=by
 rcases h.2 with ⟨_,h0⟩ | ⟨g,cap,cur,rfl,hb,hh,_⟩
 ·omega
 ·exact⟨g,cap,rfl,(Array.getElem?_eq_some_iff.1 hh).1,hb⟩
theorem aBc {W W':World} {base:Nat} {e:TypeId} {size n:Nat} {v:Value} {xs:List Value} (h:W.ownsRow base e size v n xs) (hk:∀k o,v.ownBlock=some k->W.heap[k]?=some o->W'.heap[k]?=some o):W'.ownsRow base e size v n xs:=by
 refine⟨h.1,?_⟩;rcases h.2 with h0 | ⟨g,cap,cur,rfl,hb,hh,r⟩
 ·exact .inl h0
 ·exact .inr ⟨g,cap,cur,rfl,hb,hk g _ rfl hh,r⟩
theorem jN {W:World} {base:Nat} {e:TypeId} {size n:Nat} {v:Value} {xs:List Value} (h:W.ownsRow base e size v n xs) (k:Nat) (hk:v.ownBlock=some k):base<=k/\∃c f,W.heap[k]?=some (.cells c e f):=by
 rcases h.2 with ⟨rfl,_⟩ | ⟨g,cap,cur,rfl,hb,hh,r⟩
 ·cases hk
 ·cases hk;exact⟨hb,_,_,hh⟩
theorem aE6:(Tryz.prog.info? 3).map (fun i=>(i.zero,i.size,i.bytes))=some (some (I6 0),1,8):=by kernel_rfl
theorem aD9 {s:List UInt8} (h:(cZ s).2=true):I64 (cZ s).1:=by
 unfold cZ aC4 at *;cases hr:Lib.atoiAll s with
 | ok v=>exact Lib.atoiAll_bounds hr
 | _=>rw[hr] at h;simp at h
theorem aLs {A:World} {R:Nat} (hR:A.heap[R]?=some (.cells #[I6 0,.slice none 0 0] 39 (0,0))) (hE:A.heap[R+1]?=some (.cells #[I6 0] 27 (0,0))) {w:World} (hB:Below R w A) :
 (((A.setCell ⟨R,0,none⟩ (I6 0)).setCell ⟨R,1,none⟩ (.slice none 0 0)).setCell ⟨R+1,0,none⟩ (I6 13)).heap[R]?=some (.cells #[I6 0,.slice none 0 0] 39 (0,0)) /\
 (((A.setCell ⟨R,0,none⟩ (I6 0)).setCell ⟨R,1,none⟩ (.slice none 0 0)).setCell ⟨R+1,0,none⟩ (I6 13)).heap[R+1]?=some (.cells #[I6 13] 27 (0,0)) /\
 Below R w (((A.setCell ⟨R,0,none⟩ (I6 0)).setCell ⟨R,1,none⟩ (.slice none 0 0)).setCell ⟨R+1,0,none⟩ (I6 13)):=by
 refine⟨?_,?_,((hB.setCell (p:=⟨R,0,none⟩) lr _).setCell (p:=⟨R,1,none⟩) lr _).setCell (p:=⟨R+1,0,none⟩) (Nat.le_succ _) _⟩
 ·exact(Below.heap_setCell _ _ _ _ gi).trans (dQ (dQ hR))
 ·exact dQ ((Below.heap_setCell _ _ _ _ gi).trans ((Below.heap_setCell _ _ _ _ gi).trans hE))
theorem aAv (s:ByteArray) (hs:s.size<=1000000) (w:World) (hT:Tabs w) (hN:NumVars w) :
 Calls Tryz.prog 153 #[.string s] w fun x w' =>
  ((∃(c:SC) (d:St),iY s.data.toList=some d/\x=.returned (.tuple #[c.v,I6 0])/\IsSt (fun b=>w.heap.size<=b/\b<w'.heap.size) w' c d) \/
   (iY s.data.toList=none/\x=.returned (.tuple #[.agg #[I6 0,.slice none 0 0],I6 13])))/\Below w.heap.size w w':=by
 obtain⟨n,hn⟩:=ez (9:Nat)
 rw[<-callsIn_wide (n:=n)];obtain⟨F,hFe⟩:=ez Fence.wide
 have hF:∀f,F.fn f:=fun f=>by rw[hFe];trivial
 have hro:F.round=none:=by rw[hFe];rfl
 have h1:1<=n:=by omega
 have HN9:=hid hn;clear hn;have HC:=hid (fun (k:Nat) (f:FuncId) (args:Array Value) (w:World) (R:Ending->World->Prop) (h:Calls Tryz.prog f args w R)=>(show CallsIn F k Tryz.prog f args w R by rw[hFe];exact callsIn_wide.2 h));rw[<-hFe];have HFE:=hid hFe;clear hFe;obtain⟨R,hR⟩:=ez w.heap.size
 obtain⟨A1,hA1⟩:=ez ((w.alloc (.cells #[I6 0,.slice none 0 0] 39)).alloc (.cells #[I6 0] 27))
 have a0:A1.heap[R]?=some (.cells #[I6 0,.slice none 0 0] 39 (0,0)):=by
  rw[hA1,hR];exact(Below.heap_alloc _ _ _ gd).trans (World.alloc_heap_new w _)
 have a1:A1.heap[R+1]?=some (.cells #[I6 0] 27 (0,0)):=by
  rw[hA1,hR];have h:=World.alloc_heap_new (w.alloc (.cells #[I6 0,.slice none 0 0] 39)) (.cells #[I6 0] 27);rwa[World.size_alloc] at h
 have hb1:Below R w A1:=by rw[hA1,hR];exact((bR w).alloc lr _).alloc gd _
 have hTA:∀W,Below R w W->Tabs W:=fun W h=>hT.below (by rw[hR] at h;exact h);have hNA:∀W,Below R w W->NumVars W:=fun W h=>hN.below (by rw[hR] at h;exact h);obtain⟨p,hp⟩:=ez (Lib.cut s.data.toList [47])
 obtain⟨hd,hhd⟩:=ez (⟨p.1.toArray⟩:ByteArray)
 obtain⟨tl,htl⟩:=ez (⟨p.2.1.toArray⟩:ByteArray)
 have hlen:=qU s.data.toList [47];rw[xM,<-hp] at hlen;have hz1:hd.size<=1000000:=by rw[hhd,aU];omega
 have hz2:tl.size<=1000000:=by rw[htl,aU];omega
 have hcut:CallsIn F (n-1) Tryz.prog 81 #[.string s,.string ⟨#[47]⟩] A1 fun e w'=>e=.returned (.tuple #[.string hd,.string tl,.bool p.2.2])/\Below A1.heap.size A1 w':=by
  obtain⟨m,hm⟩:=(hNA A1 hb1).2.2;refine HC.out _ _ _ _ _ ((Tryz.strings_Cut s ⟨#[47]⟩ m A1 ga hm).mono ?_);rintro e w' ⟨rfl,k,rfl⟩;exact⟨by rw[show(⟨#[47]⟩:ByteArray).data.toList=[47] from rfl,<-hp,<-hhd,<-htl],below_drewN _ _⟩
 have HCUT:=hid hcut;have HA1:=hid hA1;have HR:=hid hR;have HA0:=hid (And.intro a0 a1);have HB1:=hid hb1;have HTA:=hid hTA;have HNA:=hid hNA;have HZ:=hid (And.intro hz1 hz2);have HP:=hid (show iY s.data.toList=(if (cZ hd.data.toList).2=true/\(spl 46 tl.data.toList).all (fun x=>(cZ x).2)=true/\bI ⟨(cZ hd.data.toList).1,(spl 46 tl.data.toList).map fun x=>(cZ x).1⟩=0
  then some ⟨(cZ hd.data.toList).1,(spl 46 tl.data.toList).map fun x=>(cZ x).1⟩ else none) by
  unfold iY;rw[<-hp,hhd,htl])
 obtain⟨fl,hfl⟩:=ez p.2.2
 rw[<-hfl] at HCUT;rw[<-hR];clear hcut hA1 hR a0 a1 hb1 hTA hNA hz1 hz2 hlen hhd htl hp hfl hT hN hs;refine callsIn_of_wp_marks Tryz.func153 rfl (hF _) ?_ hro;simp only[Tryz.ntmps153,List.size_toArray,List.length_cons,List.length_nil,Nat.reduceAdd,Nat.reduceSub,Array.replicate_succ,Array.replicate_zero,List.push_toArray,List.append_toArray,List.nil_append,List.cons_append]
 gi_upto_region 1 with (fail)
 rw[<-HA1.out,<-HR.out]
 gi_upto_region 2 with (gi_at_call 81;refine HCUT.out.mono ?_;rintro e A2 ⟨rfl,hb2⟩;have HB2:=hid hb2;clear hb2)
 obtain⟨B,hB⟩:=ez A2.heap.size
 obtain⟨A3,hA3⟩:=ez (A2.alloc (.cells #[I6 0,.slice none 0 0] 39))
 have hR1:R<=A1.heap.size:=by rw[HR.out];exact HB1.out.size
 have hR2:R<=A2.heap.size:=Nat.le_trans hR1 HB2.out.size;have b2:Below R w A2:=HB1.out.trans (HB2.out.mono hR1);have b3:Below R w A3:=by rw[hA3];exact b2.alloc hR2 _
 have a3:A3.heap[B]?=some (.cells #[I6 0,.slice none 0 0] 39 (0,0)):=by rw[hA3,hB];exact World.alloc_heap_new A2 _
 have hRB:R+2<=B:=by
  have h1:=HB2.out.size;have h2:A1.heap.size=w.heap.size+2:=by rw[HA1.out];simp
  rw[hB];rw[HR.out];omega
 have hnum:=HC.out (n-1) _ _ _ _ (zA hd HZ.out.1 A3 (HTA.out _ b3) (HNA.out _ b3));obtain⟨n1,hn1⟩:=ez ((cZ hd.data.toList).1)
 obtain⟨k1,hk1⟩:=ez ((cZ hd.data.toList).2)
 rw[<-hn1,<-hk1] at hnum;have HNUM:=hid hnum;have HN1:=hid (And.intro hn1 hk1);have HA3:=hid hA3;have HBE:=hid hB;have HBB:=hid hRB;have B3:=hid b3;have H3:=hid a3;have hold:∀W,Below A3.heap.size A3 W->W.heap[R]?=some (.cells #[I6 0,.slice none 0 0] 39 (0,0))/\W.heap[R+1]?=some (.cells #[I6 0] 27 (0,0))/\W.heap[B]?=some (.cells #[I6 0,.slice none 0 0] 39 (0,0))/\Below R w W:=fun W hW=>by
  have hlt:=(Array.getElem?_eq_some_iff.1 a3).1;have up:∀(k:Nat) (o:Obj),A1.heap[k]?=some o->W.heap[k]?=some o:=fun k o h=>by
   have h1:=(Array.getElem?_eq_some_iff.1 h).1;have h2:=HB2.out.size;refine(hW.block k ga).trans ?_;rw[hA3];exact(Below.heap_alloc _ _ _ ga).trans ((HB2.out.block k h1).trans h)
  exact⟨up _ _ HA0.out.1,up _ _ HA0.out.2,(hW.block B hlt).trans a3,b3.trans (hW.mono (by have:=b3.size;rw[HR.out] at *;omega))⟩
 have HOLD:=hid hold;clear hnum hn1 hk1 b2 b3 a3 hRB hold hR1 hR2 hA3 hB
 gi_upto_region 3 with (fail)
 rw[<-HA3.out,<-HBE.out]
 gi_upto_region 5 with (gi_at_call 240;go_loud (refine HNUM.out.mono ?_);rintro e A4 ⟨rfl,hb4⟩;obtain⟨h4r,h4e,h4b,b4⟩:=HOLD.out A4 hb4;obtain⟨c4a,c4b,f4a,f4b⟩:=eH h4b;have H4:=hid (And.intro h4r (And.intro h4e (And.intro h4b b4)));clear hb4 h4r h4e h4b b4)
 obtain⟨A5,hA5⟩:=ez (A4.setCell ⟨B,0,none⟩ (I6 n1))
 have s5:A5.heap[R]?=some (.cells #[I6 0,.slice none 0 0] 39 (0,0))/\A5.heap[R+1]?=some (.cells #[I6 0] 27 (0,0))/\A5.heap[B]?=some (.cells #[I6 n1,.slice none 0 0] 39 (0,0))/\Below R w A5:=by
  obtain⟨h1,h2,h3,h4⟩:=H4.out;have:=HBB.out;rw[hA5];exact⟨(Below.heap_setCell A4 _ _ _ gi).trans h1,(Below.heap_setCell A4 _ _ _ gi).trans h2,dQ h3,h4.setCell (p:=⟨B,0,none⟩) gi _⟩
 rw[<-hA5];have S5:=hid s5;clear hA5 c4a c4b f4a f4b s5;obtain⟨p0,p1,g0,g1⟩:=eH S5.out.1;obtain⟨q0,r0⟩:=aY S5.out.2.1;cases k1
 ·gi_wp2
  obtain⟨e1,e2,e3⟩:=aLs S5.out.1 S5.out.2.1 S5.out.2.2.2;refine⟨_,aI1 (R:=R) (x:=I6 0) (y:=.slice none 0 0) (v:=I6 13) rfl rfl e1 e2,.inr ⟨?_,rfl⟩,?_⟩
  ·rw[HP.out,if_neg (fun h=>by rw[<-HN1.out.2] at h;cases h.1)]
  ·exact e3
 gi_wp2_with (gi_at_call 241;refine(HC.out _ _ _ _ _ (xB tl ⟨#[46]⟩ A5)).mono ?_;rintro e A6 ⟨rfl,hw6⟩)
 obtain⟨bs,hbs⟩:=ez A5.heap.size
 have hBb:B<bs:=by rw[hbs];exact(Array.getElem?_eq_some_iff.1 S5.out.2.2.1).1
 have hsz6:A6.heap.size=bs+3:=by rw[hw6,hbs];simp
 have k0:A6.heap[bs]?=some (.cells #[.string tl] 9 (0,0)):=by
  rw[hw6,hbs];exact(Below.heap_alloc _ _ _ gj).trans ((Below.heap_alloc _ _ _ gd).trans (World.alloc_heap_new A5 _))
 have k1:A6.heap[bs+1]?=some (.cells #[.string ⟨#[46]⟩] 9 (0,0)):=by
  rw[hw6,hbs];refine(Below.heap_alloc _ _ _ gd).trans ?_;have h:=World.alloc_heap_new (A5.alloc (.cells #[.string tl] 9)) (.cells #[.string ⟨#[46]⟩] 9);rwa[World.size_alloc] at h
 have k2:A6.heap[bs+2]?=some (.cells #[I6 0] 3 (0,0)):=by
  rw[hw6,hbs];have h:=World.alloc_heap_new ((A5.alloc (.cells #[.string tl] 9)).alloc (.cells #[.string ⟨#[46]⟩] 9)) (.cells #[I6 0] 3);rwa[World.size_alloc,World.size_alloc] at h
 have hup:∀k o,A5.heap[k]?=some o->A6.heap[k]?=some o:=fun k o h=>by
  have hlt:=(Array.getElem?_eq_some_iff.1 h).1;rw[hw6];exact(Below.heap_alloc _ _ _ gj).trans ((Below.heap_alloc _ _ _ gj).trans ((Below.heap_alloc _ _ _ hlt).trans h))
 have b6:Below R w A6:=by
  have h:=S5.out.2.2.2;have h0:=HBB.out;rw[hw6];exact((h.alloc ga _).alloc gj _).alloc gj _
 have i6:=And.intro (hup _ _ S5.out.1) (And.intro (hup _ _ S5.out.2.1) (hup _ _ S5.out.2.2.1));have hRB:=HBB.out;rw[<-hbs];rw[<-hw6];have HSQ:=aAx F HFE.out 46 (n-1) (by have:=HN9.out;omega) tl HZ.out.2 bs A6 k0 k1 k2;have HW6:=hid hw6;have HBS:=hid hbs;clear hw6 hbs k0 k1 k2 hup p0 p1 g0 g1 q0 r0;refine aM4 hF hro h1 (w0:=A6) (xs:=fD 46 tl) (bs:=bs) (Bx:=[bs,bs+1,bs+2]) gh (fun args w=>by simp[go_sem,callFunc];rfl) gh HSQ (Below.refl _ _) ga gj
  (fun p W=>Below R w W/\W.heap[R]?=some (.cells #[I6 0,.slice none 0 0] 39 (0,0))/\W.heap[R+1]?=some (.cells #[I6 0] 27 (0,0))/\(∃v,W.heap[B]?=some (.cells #[I6 n1,v] 39 (0,0))/\W.ownsRow A6.heap.size 3 1 v p.length (p.map fun x=>I6 (cZ x.data.toList).1))/\(∀x∈p,(cZ x.data.toList).2=true)/\A6.heap.size<=W.heap.size)
  (fun p W=>Below R w W/\W.heap[R]?=some (.cells #[I6 0,.slice none 0 0] 39 (0,0))/\W.heap[R+1]?=some (.cells #[I6 13] 27 (0,0))/\∃x∈fD 46 tl,(cZ x.data.toList).2=false)
  ?hI ?hIx ?h0 (fun x=>{ tmps:=#[.string s,undef,.pointer (some ⟨R,0,none⟩),.pointer (some ⟨R+1,0,none⟩),.string hd,.string tl,.bool fl,.pointer (some ⟨B,0,none⟩),.bool true,.string x,undef,undef,.tuple #[.string hd,.string tl,.bool fl],.string s,.tuple #[.string hd,.string tl,.bool fl],.string hd,.string tl,.bool fl,.tuple #[I6 n1,.bool true],.string hd,.tuple #[I6 n1,.bool true],I6 n1,.bool true,.pointer (some ⟨B,0,none⟩),.bool true,.bool false,undef,.string tl,.func (.func 342) #[] #[.pointer (some ⟨bs+1,0,none⟩),.pointer (some ⟨bs,0,none⟩),.pointer (some ⟨bs+2,0,none⟩)],.string x,undef,undef,undef,undef,undef,undef,undef,undef,undef,undef,undef,undef,undef,undef,undef,undef,undef,undef,undef],defers:=[] }) ?hassign ?hbody ?hdone ?hstop
 case hI =>
  rintro p X Y row ⟨h1,h2,h3,⟨v,h4,h5⟩,h6,h7⟩ hg hrow;have hn:∀k,k<bs->some k≠row:=fun k hk e=>by
   rcases hrow k e.symm with h | ⟨h,_⟩<;>omega
  have hsX:=h1.size;refine⟨h1.grown hg (by rw[HR.out];exact hsX) (fun k e=>by rcases hrow k e with h | ⟨h,_⟩<;>omega),(hg.block R (Array.getElem?_eq_some_iff.1 h2).1 (hn R ga)).trans h2,(hg.block (R+1) (Array.getElem?_eq_some_iff.1 h3).1 (hn (R+1) ga)).trans h3,⟨v,(hg.block B (Array.getElem?_eq_some_iff.1 h4).1 (hn B hBb)).trans h4,h5.kept hg ?_⟩,h6,Nat.le_trans h7 hg.size⟩;rcases h5.2 with ⟨rfl,_⟩ | ⟨g,cap,cur,rfl,hb,hh,_⟩
  ·exact .inl rfl
  ·refine .inr fun e=>?_;rcases hrow g (by simpa [Value.ownBlock] using e.symm) with h | ⟨_,o,ho,hc⟩
   ·omega
   ·rw[hh] at ho;cases ho;cases hc
 case hIx =>
  rintro p X Y row ⟨h1,h2,h3,h6⟩ hg hrow;have hn:∀k,k<bs->some k≠row:=fun k hk e=>by
   rcases hrow k e.symm with h | ⟨h,_⟩<;>omega
  have hsX:=h1.size;exact⟨h1.grown hg (by rw[HR.out];exact hsX) (fun k e=>by rcases hrow k e with h | ⟨h,_⟩<;>omega),(hg.block R (Array.getElem?_eq_some_iff.1 h2).1 (hn R ga)).trans h2,(hg.block (R+1) (Array.getElem?_eq_some_iff.1 h3).1 (hn (R+1) ga)).trans h3,h6⟩
 case h0=>exact⟨b6,i6.1,i6.2.1,⟨_,i6.2.2,World.ownsRow_nil _ _ _ _⟩,fun x hx=>absurd hx gd,Nat.le_refl _⟩
 case hassign =>
  intro l x W K hK
  gi_wp2
  exact hK
 case hbody =>
  rintro l p x W ⟨hbw,hr,he,⟨v,hb,hown⟩,hall,hsz⟩ hpx;have hmem:x∈fD 46 tl:=hpx.subset gd;have hxz:x.size<=1000000:=Nat.le_trans (yL _ _ _ hmem) HZ.out.2;have hnum:=CallsIn.inRound l (HC.out (n-1-1-1) _ _ _ _ (zA x hxz W (HTA.out _ hbw) (HNA.out _ hbw)));obtain⟨m,hm⟩:=ez ((cZ x.data.toList).1)
  obtain⟨k,hk⟩:=ez ((cZ x.data.toList).2)
  rw[<-hm,<-hk] at hnum;have hpl:p.length+1<=1000001:=by
   have h1:=hpx.length_le;have h2:=oY 46 tl;have h3:=HZ.out.2;simp at h1;omega
  have hold:∀W2,Below W.heap.size W W2->W2.heap[R]?=some (.cells #[I6 0,.slice none 0 0] 39 (0,0))/\W2.heap[R+1]?=some (.cells #[I6 0] 27 (0,0))/\W2.heap[B]?=some (.cells #[I6 n1,v] 39 (0,0))/\Below R w W2/\W2.ownsRow A6.heap.size 3 1 v p.length (p.map fun x=>I6 (cZ x.data.toList).1):=fun W2 h =>
   ⟨aB h hr,aB h he,aB h hb,hbw.trans (h.mono (by have:=hbw.size;rw[HR.out];exact this)),fM hown h⟩
  have HNM:=hid hnum;have HM:=hid (And.intro hm hk);have HO:=hid hold;have HAL:=hid hall;have HMEM:=hid hmem;have HPL:=hid hpl;have HSZ:=hid hsz;have HW:=hid (And.intro hr (And.intro he (And.intro hb (And.intro hbw hown))));clear hnum hm hk hold hall hmem hpl hr he hb hbw hown hxz hpx hsz
  gi_upto_region 10 with ((try refine⟨hF _,?_⟩);(try refine⟨fun _=>(by have:=HN9.out;omega),?_⟩);gi_at_call 240;refine HNM.out.mono ?_;rintro e W2 ⟨rfl,hb2⟩;have HC2:=hid hb2;clear hb2)
  obtain⟨z1,z2,z3,z4,z5⟩:=HO.out _ HC2.out;obtain⟨p0,p1,g0,g1⟩:=eH z1;obtain⟨q0,r0⟩:=aY z2;obtain⟨u0,u1,t0,t1⟩:=eH z3;have Z:=hid (And.intro z1 (And.intro z2 (And.intro z3 (And.intro z4 z5))));clear z1 z2 z3 z4 z5;cases k
  ·gi_wp2
   obtain⟨e1,e2,e3⟩:=aLs Z.out.1 Z.out.2.1 Z.out.2.2.2.1;refine⟨⟨by have:=HC2.out.size;simp[World.setCell];omega,fun k o hk ho=>?_⟩,e3,e1,e2,x,HMEM.out,HM.out.2.symm⟩;have hz:∀j,(∃c t f,W.heap[j]?=some (.cells c t f))->k≠j:=by
    rintro j ⟨c,t,f,h⟩ rfl;rw[h] at hk;cases hk;cases ho
   have hk2:=(HC2.out.block k (Array.getElem?_eq_some_iff.1 hk).1).trans hk;have n1:k≠R:=hz R ⟨_,_,_,HW.out.1⟩;have n2:k≠R+1:=hz (R+1) ⟨_,_,_,HW.out.2.1⟩;exact(Below.heap_setCell _ _ _ _ gi).trans ((Below.heap_setCell _ _ _ _ gi).trans ((Below.heap_setCell _ _ _ _ gi).trans hk2))
  ·clear p0 p1 g0 g1 q0 r0;obtain⟨ti,hi,hz0,hz1,hz2⟩:=info_parts aE6;have hpl:=HPL.out;have hcap1:p.length+1<=maxLen:=by unfold maxLen;omega
   have hcap2:(p.length+1) * 8<=140737488355328:=by omega
   have hA6:A6.heap.size<=W2.heap.size:=by
    have h1:=HC2.out.size;have h2:=HSZ.out;omega
   have HNO:=hid (show ∀k,k<A6.heap.size->some k≠v.ownBlock from fun k hk e=>by have:=(World.ownsRow.lt Z.out.2.2.2.2 k e.symm).1;omega);have HB5:Hid (∀w5,(W2.alloc (.cells #[I6 m] 3)).grownBy w5 v.ownBlock->w5.heap[B]?=some (.cells #[I6 n1,v] 39 (0,0))):=hid fun w5 h=>by
    have h1:=Z.out.2.2.1;have h2:=(Array.getElem?_eq_some_iff.1 h1).1;exact(h.block B gj (HNO.out B ga)).trans ((Below.heap_alloc _ _ _ h2).trans h1)
   gi_wp2_with (gi_at_builtin;go_loud (refine wpListIn_append_own_at _ gh _ _ 37 gh A6.heap.size 3 ti _ 1 8 Tryz.underlying37 hi hz0 hz1 hz2 rfl ga v p.length _ gh (Z.out.2.2.2.2.alloc _) ⟨W2.heap.size,0,none⟩ 1 1 [I6 m] gh gh (cell_one_new _ _ _) gm hcap1 hcap2 gj ?_;intro v' w5 hown' hgrow hnil hloc;obtain⟨g,cap,rfl,hgl⟩:=yR hown';have HO2:=hid hown';have HG:=hid hgrow;have HL2:=hid hloc;obtain⟨y0,y1,y2,y3⟩:=eH (HB5.out w5 hgrow);clear hown' hgrow hnil hloc u0 u1 t0 t1 hgl))
   have hw1:∀k o,W.heap[k]?=some o->some k≠v.ownBlock->k≠B->(w5.setCell ⟨B,1,none⟩ (.slice (some ⟨g,0,none⟩) (p.length+1) cap)).heap[k]?=some o:=fun k o h h1 h2=>by
    have hk:=(Array.getElem?_eq_some_iff.1 h).1;refine(Below.heap_setCell _ _ _ _ gi).trans ?_;have h3:=HC2.out.size;exact(HG.out.block k gj h1).trans ((Below.heap_alloc _ _ _ ga).trans ((HC2.out.block k hk).trans h))
   have hs5:=HG.out.size;simp only[World.size_alloc] at hs5;have hs2:=HC2.out.size;have hsz:=HSZ.out;have hw2:∀k o,k<A6.heap.size->k≠B->W.heap[k]?=some o->(w5.setCell ⟨B,1,none⟩ (.slice (some ⟨g,0,none⟩) (p.length+1) cap)).heap[k]?=some o:=fun k o h1 h2 h=>hw1 k o h (HNO.out k h1) h2;refine⟨⟨by simp[World.setCell];omega,fun k o hk ho=>?_⟩,fun k hk=>?_,?_,hw2 _ _ ga ga HW.out.1,hw2 _ _ ga ga HW.out.2.1,⟨_,dQ (HB5.out w5 HG.out),?_⟩,fun y hy=>?_,by simp[World.setCell];omega⟩
   ·refine hw1 k o hk (fun e=>?_) (fun e=>?_)
    ·obtain⟨_,c,f,h⟩:=jN HW.out.2.2.2.2 k e.symm;rw[h] at hk;cases hk;cases ho
    ·subst e;rw[HW.out.2.2.1] at hk;cases hk;cases ho
   ·have hkb:bs<=k/\k<bs+3:=by simp at hk;omega
    have hlt:k<W.heap.size:=by omega
    have hk2:W.heap[k]?=some W.heap[k]:=Array.getElem?_eq_getElem hlt;rw[hk2];exact hw2 k _ ga ga hk2
   ·have h1:=(Z.out.2.2.2.1.alloc (by rw[HR.out];exact Z.out.2.2.2.1.size) (.cells #[I6 m] 3)).grown HG.out (by rw[HR.out];have:=Z.out.2.2.2.1.size;simp;omega) (fun k e=>by have:=(World.ownsRow.lt Z.out.2.2.2.2 k e).1;omega);exact h1.setCell (p:=⟨B,1,none⟩) gi _
   ·rw[List.length_append,List.map_append,List.length_singleton,List.map_singleton,<-HM.out.1];exact aBc HO2.out fun k o hk h=>(Below.heap_setCell _ _ _ _ (by
     have:=(jN HO2.out k hk).1;dsimp only;omega)).trans h
   ·rcases List.mem_append.1 hy with hy | hy
    ·exact HAL.out y hy
    ·obtain rfl:=List.mem_singleton.1 hy;exact HM.out.2.symm
 case hdone =>
  rintro D W hD ⟨hbw,hr,he,⟨v,hb,hown⟩,hall,hsz⟩ hdf;have hcnt:(fD 46 tl).length<=1000001:=by
   have h2:=oY 46 tl;have h3:=HZ.out.2;omega
  have hmap:(fD 46 tl).map (fun x=>I6 (cZ x.data.toList).1)=((fD 46 tl).map fun x=>(cZ x.data.toList).1).map (Value.int .i64):=by rw[List.map_map];rfl
  have hi64:∀z∈(fD 46 tl).map (fun x=>(cZ x.data.toList).1),I64 z:=fun z hz=>by
   obtain⟨x,hx,rfl⟩:=List.mem_map.1 hz;exact aD9 (hall x hx)
  rw[hmap] at hown;obtain⟨a,c,rfl,hints⟩:=iP hown ga hi64;obtain⟨zs,hzs⟩:=ez ((fD 46 tl).map (fun x=>(cZ x.data.toList).1))
  have HSP:=hid (show iY s.data.toList=if bI ⟨n1,zs⟩=0 then some ⟨n1,zs⟩ else none by
   have e1:(spl 46 tl.data.toList).map (fun x=>(cZ x).1)=zs:=by rw[hzs];unfold fD;rw[List.map_map];rfl
   have e2:(spl 46 tl.data.toList).all (fun x=>(cZ x).2)=true:=by
    rw[List.all_eq_true];intro z hz;exact hall ⟨z.toArray⟩ (by unfold fD;exact List.mem_map.2 ⟨z,hz,rfl⟩)
   rw[HP.out,e1,e2,<-HN1.out.2,<-HN1.out.1];simp only[true_and])
  rw[<-hzs] at hown hints hi64;obtain⟨nz,hnz⟩:=ez ((fD 46 tl).length)
  rw[<-hnz] at hown hints hcnt hb;have hn64:I64 n1:=by rw[HN1.out.1];exact aD9 HN1.out.2.symm
  have hst:IsSt (fun b=>A6.heap.size<=b/\b<W.heap.size) W ⟨n1,a,nz,c⟩ ⟨n1,zs⟩:=⟨rfl,hn64,hints⟩
  have hck:=HC.out (n-1) _ _ _ _ (iW _ ⟨n1,a,nz,c⟩ ⟨n1,zs⟩ W W hst (fun b hb=>⟨hb.2,rfl⟩));obtain⟨E,hE⟩:=ez (bI ⟨n1,zs⟩)
  rw[<-hE] at hck HSP;have HCK:=hid hck;have hold:∀W2,Below W.heap.size W W2->W2.heap[R]?=some (.cells #[I6 0,.slice none 0 0] 39 (0,0))/\W2.heap[R+1]?=some (.cells #[I6 0] 27 (0,0))/\W2.heap[B]?=some (.cells #[I6 n1,.slice a nz c] 39 (0,0))/\Below R w W2/\W2.ownsRow A6.heap.size 3 1 (.slice a nz c) nz (zs.map (Value.int .i64))/\W2.heap[D]?=some (.deferred (some [])):=fun W2 h =>
   ⟨aB h hr,aB h he,aB h hb,hbw.trans (h.mono (by have:=hbw.size;rw[HR.out];exact this)),fM hown h,aB h hdf⟩
  have HO:=hid hold;have HI:=hid (And.intro hi64 (And.intro hn64 hcnt));obtain⟨u0,u1,_,_⟩:=eH hb;clear hbw hr he hb hown hall hsz hdf hmap hi64 hints hzs hnz hn64 hst hck hE hold hcnt;have hD':R+1<D/\B<D:=⟨by omega,by omega⟩
  by_cases h0:E=0
  ·subst h0
   gi_wp2_with (gi_at_call 139;refine HCK.out.mono ?_;rintro e W2 ⟨rfl,hb2⟩;have Z:=hid (HO.out W2 hb2);obtain⟨p0,p1,g0,g1⟩:=eH Z.out.1;obtain⟨q0,r0⟩:=aY Z.out.2.1;obtain⟨t0,t1,_,_⟩:=eH Z.out.2.2.1;clear hb2 u0 u1)
   obtain⟨z1,z2,z3,z4,z5,z6⟩:=Z.out;have hf:∀k o,k≠R->k≠R+1->W2.heap[k]?=some o->(((W2.setCell ⟨R,0,none⟩ (I6 n1)).setCell ⟨R,1,none⟩ (.slice a nz c)).setCell ⟨R+1,0,none⟩ (I6 0)).heap[k]?=some o:=fun k o h1 h2 h =>
    (Below.heap_setCell _ _ _ _ gi).trans ((Below.heap_setCell _ _ _ _ gi).trans ((Below.heap_setCell _ _ _ _ gi).trans h))
   have hfR:(((W2.setCell ⟨R,0,none⟩ (I6 n1)).setCell ⟨R,1,none⟩ (.slice a nz c)).setCell ⟨R+1,0,none⟩ (I6 0)).heap[R]?=some (.cells #[I6 n1,.slice a nz c] 39 (0,0)) :=
    (Below.heap_setCell _ _ _ _ gi).trans (dQ (dQ z1))
   have hfE:(((W2.setCell ⟨R,0,none⟩ (I6 n1)).setCell ⟨R,1,none⟩ (.slice a nz c)).setCell ⟨R+1,0,none⟩ (I6 0)).heap[R+1]?=some (.cells #[I6 0] 27 (0,0)) :=
    dQ ((Below.heap_setCell _ _ _ _ gi).trans ((Below.heap_setCell _ _ _ _ gi).trans z2))
   have hfB:Below R w (((W2.setCell ⟨R,0,none⟩ (I6 n1)).setCell ⟨R,1,none⟩ (.slice a nz c)).setCell ⟨R+1,0,none⟩ (I6 0)) :=
    ((z4.setCell (p:=⟨R,0,none⟩) lr _).setCell (p:=⟨R,1,none⟩) lr _).setCell (p:=⟨R+1,0,none⟩) (Nat.le_succ _) _
   have hfD:=hf D _ ga ga z6;have hfO:=aBc z5 fun k o hk h=>hf k o (by have:=(jN z5 k hk).1;omega) (by have:=(jN z5 k hk).1;omega) h;generalize ((W2.setCell ⟨R,0,none⟩ (I6 n1)).setCell ⟨R,1,none⟩ (.slice a nz c)).setCell ⟨R+1,0,none⟩ (I6 0)=Wf at *;refine⟨by simp,.inl ⟨_,_,rfl,run_takeDeferred hfD,?_⟩⟩;have hfb:=hfB.grown (grownBy_putObj' Wf D (.deferred none)) (by rw[HR.out];exact hfB.size) (fun k e=>by cases e;omega)
   refine⟨_,aI1 (R:=R) (x:=I6 n1) (y:=.slice a nz c) (v:=I6 0) rfl rfl ((World.putObj_heap_other ga).trans hfR) ((World.putObj_heap_other ga).trans hfE),.inl ⟨⟨n1,a,nz,c⟩,⟨n1,zs⟩,?_,rfl,rfl,HI.out.2.1,?_⟩,hfb⟩
   ·rw[HSP.out];simp
   ·have ho:=aBc (W':=Wf.putObj D (.deferred none)) hfO fun k o hk h=>(World.putObj_heap_other (fun e=>by
     subst e;obtain⟨_,c',f',h'⟩:=jN hfO _ hk;rw[h'] at hfD;cases hfD)).trans h
    obtain⟨a',c',e',hi'⟩:=iP ho (by have:=HI.out.2.2;omega) HI.out.1;cases e'
    exact hi'.same fun b hb=>⟨⟨by have:=hb.1;omega,hb.2⟩,rfl⟩
  ·have hx0:(E==0)=false:=by simp;exact h0
   have hx1:(E != 0)=true:=by simp;exact h0
   have H0:=hid h0;clear h0
   gi_wp2_with (gi_at_call 139;refine HCK.out.mono ?_;rintro e W2 ⟨rfl,hb2⟩;have Z:=hid (HO.out W2 hb2);obtain⟨p0,p1,g0,g1⟩:=eH Z.out.1;obtain⟨q0,r0⟩:=aY Z.out.2.1;clear hb2 u0 u1)
   obtain⟨e1,e2,e3⟩:=aLs Z.out.1 Z.out.2.1 Z.out.2.2.2.1;have e4:(((W2.setCell ⟨R,0,none⟩ (I6 0)).setCell ⟨R,1,none⟩ (.slice none 0 0)).setCell ⟨R+1,0,none⟩ (I6 13)).heap[D]?=some (.deferred (some [])) :=
    (Below.heap_setCell _ _ _ _ gi).trans ((Below.heap_setCell _ _ _ _ gi).trans ((Below.heap_setCell _ _ _ _ gi).trans Z.out.2.2.2.2.2))
   generalize ((W2.setCell ⟨R,0,none⟩ (I6 0)).setCell ⟨R,1,none⟩ (.slice none 0 0)).setCell ⟨R+1,0,none⟩ (I6 13)=Wf at *;refine⟨by simp,.inl ⟨_,_,rfl,run_takeDeferred e4,?_⟩⟩;refine⟨_,aI1 (R:=R) (x:=I6 0) (y:=.slice none 0 0) (v:=I6 13) rfl rfl ((World.putObj_heap_other ga).trans e1) ((World.putObj_heap_other ga).trans e2),.inr ⟨?_,rfl⟩,?_⟩
   ·rw[HSP.out,if_neg H0.out]
   ·exact e3.grown (grownBy_putObj' Wf D _) (by rw[HR.out];exact e3.size) (fun k e=>by cases e;omega)
 case hstop =>
  rintro D p W hD ⟨hbw,hr,he,x,hx,hxn⟩ hdf
  gi_wp2
  refine⟨by simp,.inl ⟨_,_,rfl,run_takeDeferred hdf,?_⟩⟩;refine⟨_,aI1 (R:=R) (x:=I6 0) (y:=.slice none 0 0) (v:=I6 13) rfl rfl ((World.putObj_heap_other ga).trans hr) ((World.putObj_heap_other ga).trans he),.inr ⟨?_,rfl⟩,?_⟩
  ·rw[HP.out,if_neg];rintro⟨_,h,_⟩;obtain⟨z,hz,rfl⟩:∃z,z∈spl 46 tl.data.toList/\(⟨z.toArray⟩:ByteArray)=x:=by unfold fD at hx;exact List.mem_map.1 hx
   have:=List.all_eq_true.1 h z hz;rw[show(⟨z.toArray⟩:ByteArray).data.toList=z from rfl] at hxn;rw[this] at hxn;cases hxn
  ·exact hbw.grown (grownBy_putObj' W D _) (by rw[HR.out];exact hbw.size) (fun k e=>by cases e;omega)
end
end Go.Proofs.YtmgpghoamapfgaaGreatDoor
