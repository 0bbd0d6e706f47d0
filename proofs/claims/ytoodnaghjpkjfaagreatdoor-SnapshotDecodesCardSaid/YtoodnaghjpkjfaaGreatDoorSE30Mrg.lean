/- A part. -/
import Derived.Test.YtoodnaghjpkjfaaGreatDoorSE17Mrg
import Derived.Test.YtoodnaghjpkjfaaGreatDoorSE29Mrg
import Derived.Tactics2
import Derived.Maps.OwnSet
namespace Go.Proofs.YtoodnaghjpkjfaaGreatDoor
open Tryz
set_option linter.unusedVariables false
set_option maxRecDepth 100000
set_option maxHeartbeats 64000000
set_option linter.unusedSimpArgs false
section
open Go Go.RowKit
def vB (w:World) (e:Ending) (w':World):Prop:=∃k:Int,e=.returned (.int .i64 k)/\w=w'
theorem len64_0 (w:World):CP 258 #[.int .u64 0] w (vB w):=by
 go_enter func258,ntmps258
 go_wp2;go_ret;exact⟨_,rfl,rfl⟩
theorem len64_1 (w:World):CP 258 #[.int .u64 1] w (vB w):=by
 go_enter func258,ntmps258
 go_wp2;go_ret;exact⟨_,rfl,rfl⟩
theorem len_0 (w:World):CP 269 #[.int .u64 0] w (vB w):=by
 go_enter func269,ntmps269
 go_wp2_with (go_at_call 258;refine(len64_0 _).mono ?_;rintro e w' ⟨k,rfl,rfl⟩)
 go_ret;exact⟨k,rfl,rfl⟩
theorem len_1 (w:World):CP 269 #[.int .u64 1] w (vB w):=by
 go_enter func269,ntmps269
 go_wp2_with (go_at_call 258;refine(len64_1 _).mono ?_;rintro e w' ⟨k,rfl,rfl⟩)
 go_ret;exact⟨k,rfl,rfl⟩
theorem aL4 (a:Option Addr) (n c:Nat) (v:Value) (w:World) (hn:n<=1):CP 286 #[Sl a n c,.int .i64 0,.int .i64 n,v] w λe w'=>e=.returned (.tuple #[])/\w=w':=by
 have h1:¬ (1:Int)<(n:Int):=ga
 go_enter func286,ntmps286
 go_wp2
 go_loopw [8] (λi wr=>i=.int .i64 1/\wr=w) (λ_ _=>0)
 case atStart=>exact⟨rfl,rfl⟩
 case round =>
  obtain⟨rfl,rfl⟩:=hrel;go_wp2
  go_end0
  exact⟨rfl,rfl⟩
theorem aAt (a:Option Addr) (n c:Nat) (k:Int) (v:Value) (w:World) (hn:n<=1):CP 268 #[Sl a n c,.int .i64 0,.int .i64 n,.int .i64 k,v] w λe w'=>e=.returned (.tuple #[])/\w=w':=by
 have h1:(n:Int)<=12:=ga
 have HI:=f8 (aL4 a n c v w hn);go_enter func268,ntmps268
 go_wp2
 go_loopw [1,2] (λp q wr=>p=.int .i64 0/\q=.int .i64 n/\wr=w) (λ_ _ _=>0)
 case atStart=>exact⟨rfl,rfl,rfl⟩
 case round =>
  obtain⟨rfl,rfl,rfl⟩:=hrel;go_wp2_with (go_at_call 286;refine HI.mono ?_;rintro e w' ⟨rfl,rfl⟩)
  (try simp only[Exit.inBlock,Exit.then])
  refine ig (iu rfl _ _ _) rfl ?_;exact⟨rfl,rfl⟩
theorem aDt (a:Option Addr) (c:Nat) (v:Value) (w:World):CP 223 #[Sl a 0 c,v] w λe w'=>e=.returned (.tuple #[])/\w=w':=by
 have HP:=f8 (λk=>aAt a 0 c k v w ga);go_enter func223,ntmps223
 go_wp2_with (first
  | (go_at_call 269;refine(len_0 _).mono ?_;rintro e w' ⟨k,rfl,rfl⟩)
  | (go_at_call 268;refine(HP.o _).mono ?_;rintro e w' ⟨rfl,rfl⟩))
 go_end0
 exact⟨rfl,rfl⟩
theorem aDs (a:Option Addr) (c:Nat) (v:Value) (w:World):CP 223 #[Sl a 1 c,v] w λe w'=>e=.returned (.tuple #[])/\w=w':=by
 have HP:=f8 (λk=>aAt a 1 c k v w ga);go_enter func223,ntmps223
 go_wp2_with (first
  | (go_at_call 269;refine(len_1 _).mono ?_;rintro e w' ⟨k,rfl,rfl⟩)
  | (go_at_call 268;refine(HP.o _).mono ?_;rintro e w' ⟨rfl,rfl⟩))
 go_end0
 exact⟨rfl,rfl⟩
end
section
open Go Go.RowKit Go.Shelf Go.Sort
instance:Inhabited (ByteArray × VC):=⟨(ByteArray.empty,⟨0,0,0,ByteArray.empty,none,0,0,none,0,0⟩)⟩
def cfF (x y:BA × VC):Int:=Lib.compareBytes x.1.data.toList y.1.data.toList
theorem cfF_swo:SWO (Go.Proofs.ltOf cfF) where
 irrefl x:=by unfold Go.Proofs.ltOf cfF;rw[gG];rfl
 trans x y z h1 h2:=by
  unfold Go.Proofs.ltOf cfF at *;have t:=kY x.1.data.toList y.1.data.toList z.1.data.toList;have g1:=gW x.1.data.toList y.1.data.toList;have g2:=gW y.1.data.toList z.1.data.toList;have g3:=gW x.1.data.toList z.1.data.toList;simp only[jw] at *;unfold Tri Sg at *;omega
 ntrans x y z h1 h2:=by
  unfold Go.Proofs.ltOf cfF at *;have t:=kY x.1.data.toList y.1.data.toList z.1.data.toList;simp only[decide_eq_false_iff_not] at *;unfold Tri at t;omega
theorem aFl (x y:BA × VC) (W:World):CP 224 #[.agg (FC.cs x).toArray,.agg (FC.cs y).toArray] W λe w'=>e=.returned (.int .i64 (cfF x y))/\∃q os',w'=grow (W.drewN q) os':=by
 have aa:=λW'=>Tryz.strings_Compare x.1 y.1 W';unfold cfF;generalize Lib.compareBytes x.1.data.toList y.1.data.toList=r at aa ⊢;obtain⟨xn,xc⟩:=x;obtain⟨yn,yc⟩:=y;dsimp only[FC.cs,VC.cs] at aa ⊢;go_enter func224,ntmps224
 go_wp2_with (go_at_call 185;refine(aa _).mono ?_;rintro e w' ⟨rfl,rfl⟩)
 go_ret;exact⟨rfl,0,_,by rw[alloc_eq_grow,alloc_eq_grow,grow_grow];rfl⟩
theorem aB6 (d:Array (ByteArray × VC)) (t:Nat) (h:t<d.size * 7):(flatK FC.cs 7 d)[t]?=(d.toList.flatMap FC.cs)[t]?:=by
 have hq:t / 7<d.toList.length:=by simp;omega
 have h1:=mJ FC.cs 7 FC.cs_len d.toList (t / 7) (t % 7) hq ga;rw[show t / 7 * 7+t % 7=t by omega] at h1;rw[h1];have e:=get_flatK FC.cs 7 d t h;rw[getElem!_pos (flatK FC.cs 7 d) t gi] at e;rw[jc gi,e];have e2:d[t / 7]! = d.toList[t / 7]:=by rw[getElem!_pos d _ (by simpa using hq)];simp
 rw[e2];have hl:t % 7<(FC.cs d.toList[t / 7]).length:=by rw[FC.cs_len];omega
 rw[getElem!_pos (FC.cs d.toList[t / 7]) (t % 7) hl,n3 hl]
theorem aB5 (cs:List (ByteArray × VC)):(cs.flatMap FC.cs).length=cs.length * 7:=by
 induction cs with
 | nil=>rfl
 | cons c cs ih=>rw[nh,ik,ih,FC.cs_len,im];omega
theorem aHr (d:Array (ByteArray × VC)):(flatK FC.cs 7 d).toList=d.toList.flatMap FC.cs:=by
 apply List.ext_getElem?;intro t;by_cases h:t<d.size * 7
 ·rw[Array.getElem?_toList];exact aB6 d t h
 ·rw[ng gi,ng (by rw[aB5];simp;omega)]
theorem aNu {w:World} {g n:Nat} {os:Array Obj} {aa:Array Value} {e:TypeId} {fr:Nat × Nat} (F:Array Value) (hb:w.heap[g]?=some (.cells aa e fr)) :
 (grow (putRow id (Sort.ahead w n) g 0 F) os).heap[g]?=some (.cells (putCells id 0 F aa) e fr):=by
 have hg:g<w.heap.size:=(Array.getElem?_eq_some_iff.1 hb).1;rw[heap_grow_old _ _ (by simpa using hg)];simp[putRow,mapBlock,Sort.ahead,mv,hb,onCells]
theorem aLa {w:World} {g n:Nat} {os:Array Obj} (F:Array Value):w.grownBy (grow (putRow id (Sort.ahead w n) g 0 F) os) (some g):=by
 refine⟨rfl,rfl,rfl,by simp,λk hk hne=>?_⟩;rw[heap_grow_old _ _ (by simpa using hk)];have:g≠k:=λe=>hne (by rw[e]);simp[putRow,mapBlock,Sort.ahead,mv,this]
theorem aMm (aa F:Array Value) (h:F.size<=aa.size):(putCells id 0 F aa).toList.take F.size=F.toList:=by
 apply List.ext_getElem?;intro j;by_cases hj:j<F.size
 ·rw[List.getElem?_take_of_lt hj,Array.getElem?_toList,Array.getElem?_toList];simp[putCells,hj,show j<aa.size by omega]
 ·rw[List.getElem?_take_eq_none ga,ng gi]
theorem aMb {α β:Type} {a b:List α} (h:a.Perm b):∀xs:List β,xs.length=a.length->∃ys:List β,ys.length=b.length/\(a.zip xs).Perm (b.zip ys):=by
 induction h with
 | nil=>intro xs _;exact⟨[],rfl,by simp⟩
 | cons x h ih =>
   intro xs hx;cases xs with
   | nil=>simp at hx
   | cons y xs =>
     obtain⟨ys,h1,h2⟩:=ih xs (by simpa using hx);exact⟨y :: ys,by simp[h1],by simpa using h2⟩
 | swap x y l =>
   intro xs hx
   match xs,hx with
   | u :: v :: xs,hx=>exact⟨v :: u :: xs,by simpa using hx,by simpa using List.Perm.swap _ _ _⟩
 | trans h1 h2 ih1 ih2 =>
   intro xs hx;obtain⟨ys,a1,a2⟩:=ih1 xs hx;obtain⟨zs,b1,b2⟩:=ih2 ys a1;exact⟨zs,b1,a2.trans b2⟩
def SrtPost (T B:Nat) (w:World) (g cap k:Nat) (ns:List BA) (l:List Val) (e:Ending) (w':World):Prop:=e=.returned (.tuple #[])/\∃(ns':List BA) (l':List Val),ns'.length=k/\l'.length=k/\(ns.zip l).Perm (ns'.zip l')/\(ns'.zip l').Pairwise (λa b=>leN a.1 b.1=true)/\BuiltF T B w' (.slice (So g 0) k cap) k ns' l'/\w.grownBy w' (some g)
theorem aJx (T B:Nat) (w:World) (g cap k:Nat) (ns:List ByteArray) (l:List Val) (hb:BuiltF T B w (Sl (So g 0) k cap) k ns l) (hk:l.length=k) (hn:ns.length=k) (aq:k<=1000000) :
 CP 223 #[Sl (So g 0) k cap,.func (.func 224) #[] #[]] w (SrtPost T B w g cap k ns l):=by
 obtain⟨cs,ai,ag,ak⟩:=hb;rcases ag.2 with ⟨h0,_⟩|⟨g',cap',cur,hv,hB,hg,hnc,hcm,hcz,htk⟩
 ·cases h0
 obtain⟨rfl,rfl⟩:g'=g/\cap'=cap:=by cases hv;exact⟨rfl,rfl⟩
 obtain⟨d,hd⟩:∃d:Array (ByteArray × VC),d=cs.toArray:=⟨_,rfl⟩
 have ab:d.size=k:=by rw[hd];simpa using ai
 have ap:d.toList=cs:=by rw[hd]
 have hH:HoldsK FC.cs 7 w g' 0 d:=by
  intro j hj;have ah:j<k * 7:=by simp[ab] at hj;exact hj
  refine⟨?_,by simp[World.frozen?,hg]⟩;have h1:=ag.cellAt j ah;rw[ir,h1];have h2:=aB6 d j (by rw[ab];exact ah);rw[ap] at h2;rw[<-h2,jc (by simp[ab];exact ah),getElem!_pos _ _ (by simp[ab];exact ah)];rfl
 have eg:∀args w,(callFunc 224 args).run prog w=.ok (.enter 224 args) w:=jd func224 gd rfl;have am:∀x:ByteArray × VC,∀v∈FC.cs x,v.oneCell'=true:=by
  intro x v hv;simp[FC.cs,VC.cs] at hv;rcases hv with rfl|rfl|rfl|rfl|rfl|rfl|rfl<;>rfl
 have ae:=Tryz.slices_SortFunc_fld FC.cs FC.cs_len am cfF cfF_swo 224 #[] g' 0 cap' d w eg (λ_ _ _ _ x y=>by simpa using aFl x y _) hH (ltOf hg) (by rw[ab];omega);rw[ab] at ae;refine ae.mono ?_;rintro e w' ⟨rfl,d',n,os,hp,ar,rfl⟩;refine⟨rfl,?_⟩;have aa:d'.size=k:=by rw[hp.1,ab]
 have af:d'.toList.Perm cs:=by
  have h:=hp.2.2;have e1:d'.extract 0 k=d':=by rw[<-aa];simp
  have e2:d.extract 0 k=d:=by rw[<-ab];simp
  rw[e1,e2,ap] at h;exact h
 obtain⟨xs,aw,ao⟩:=aMb af.symm (ns.zip l) (by simp[hn,hk,ai]);have ac:d'.toList.length=k:=by simpa using aa
 have aj:xs.length=k:=by rw[aw,ac]
 have an:=aLa (w:=w) (g:=g') (n:=n) (os:=os) (flatK FC.cs 7 d');have ad:∀j (h:j<k),∃i,∃(hi:i<k),d'.toList[j]' ga=cs[i]' ga/\(xs[j]' ga).1=ns[i]' ga/\(xs[j]' ga).2=l[i]' ga:=by
  intro j h;have hm:(d'.toList[j]' ga,xs[j]' ga)∈d'.toList.zip xs:=by
   rw[List.mem_iff_getElem];exact⟨j,by simp[aa,aj,h],by simp⟩
  have av:=ao.symm.mem_iff.1 hm;obtain⟨i,hi,he⟩:=List.mem_iff_getElem.1 av;have ax:i<k:=by simp[ai,hn,hk] at hi;exact hi
  simp only[List.getElem_zip,oq] at he;refine⟨i,ax,he.1.symm,?_,?_⟩
  ·rw[<-he.2]
  ·rw[<-he.2]
 have hz:(xs.map (·.1)).zip (xs.map (·.2))=xs:=by
  apply List.ext_getElem
  ·simp
  ·intro i h1 h2;simp
 have al:∀i,B<=i/\i<w.heap.size/\some i≠(Value.slice (So g' 0) k cap').ownBlock->(B<=i/\i<(sortWorldK FC.cs 7 w g' 0 n d' os).heap.size/\some i≠(Value.slice (So g' 0) k cap').ownBlock)/\(sortWorldK FC.cs 7 w g' 0 n d' os).heap[i]?=w.heap[i]?:=λi hi=>⟨⟨hi.1,ix hi.2.1 an.size,hi.2.2⟩,an.block i hi.2.1 hi.2.2⟩
 refine⟨xs.map (·.1),xs.map (·.2),by simpa using aj,by simpa using aj,?_,?_,⟨d'.toList,ac,⟨?_,.inr ⟨g',cap',_,rfl,hB,aNu _ hg,hnc,hcm,by simp[putCells,hcz],?_⟩⟩,?_⟩,an⟩
 ·rw[hz];have h:=ao.map (·.2);rw[List.map_snd_zip (by simp[hn,hk,ai]),List.map_snd_zip ga] at h;exact h
 ·rw[hz,List.pairwise_iff_getElem];intro i j hi hj au;have h:=ar i j (ii _) au ga;obtain⟨i1,_,a1,a2,_⟩:=ad i ga;obtain⟨j1,_,b1,b2,_⟩:=ad j ga;have ei:d'[i]! = d'.toList[i]' ga:=by rw[getElem!_pos d' i ga];simp
  have ej:d'[j]! = d'.toList[j]' ga:=by rw[getElem!_pos d' j ga];simp
  rw[ei,ej,a1,b1] at h;unfold Go.Proofs.ltOf cfF at h;have n1:=(ak i1 ga ga ga).1;have n2:=(ak j1 ga ga ga).1;rw[n1,n2,<-a2,<-b2] at h;have a0:=iT (xs[i]).1.data.toList (xs[j]).1.data.toList;unfold leN;simp only[decide_eq_false_iff_not,jw] at *;omega
 ·rw[aB5,ac]
 ·have h1:=aMm cur (flatK FC.cs 7 d') (by simp[aa,hcz];omega);rw[aHr] at h1;have:(flatK FC.cs 7 d').size=k * 7:=by simp[aa]
  rw[this] at h1;exact h1
 ·intro j hj az ay;obtain⟨i,hi,a1,a2,a3⟩:=ad j ga;have h:=ak i ga ga ga;simp only[List.getElem_map];rw[a1,a2,a3];exact⟨h.1,h.2.same al⟩
/-! ### the sorted fields are the law's -/
theorem vX {α:Type} {le:α->α->Bool}:∀{l1 l2:List α},l1.Perm l2->l1.Pairwise (λa b=>le a b=true)->l2.Pairwise (λa b=>le a b=true)->(∀a∈l1,∀b∈l1,le a b=true->le b a=true->a=b)->l1=l2
 | [],l2,h,_,_,_=>(List.nil_perm.1 h).symm
 | a :: t,[],h,_,_,_=>by have:=h.length_eq;simp at this
 | a :: t,b :: s,h,h1,h2,ha=>by
   obtain⟨p1,p2⟩:=List.pairwise_cons.1 h1;obtain⟨q1,q2⟩:=List.pairwise_cons.1 h2;have e:a=b:=by
    have hb:b∈a :: t:=h.symm.mem_iff.1 (iw ..);have aa:a∈b :: s:=h.mem_iff.1 (iw ..);rcases List.mem_cons.1 hb with hb|hb
    ·exact hb.symm
    ·rcases List.mem_cons.1 aa with aa|aa
     ·exact aa
     ·exact ha a (iw ..) b (ja _ hb) (p1 b hb) (q1 a aa)
   subst e;rw[vX ((List.perm_cons a).1 h) p2 q2 (λx hx y hy=>ha x (ja _ hx) y (ja _ hy))]
theorem aL1 (a b c:BA × Val) (h1:leN a.1 b.1=true) (h2:leN b.1 c.1=true):leN a.1 c.1=true:=by
 unfold leN at *;have t:=kY a.1.data.toList b.1.data.toList c.1.data.toList;simp only[jw] at *;unfold Tri at t;omega
theorem aL2 (a b:BA × Val):(leN a.1 b.1||leN b.1 a.1)=true:=by
 unfold leN;have h:=iT a.1.data.toList b.1.data.toList;simp only[o6,jw];omega
theorem aKj {l:List (ByteArray × Val)} (h:(l.map (·.1)).Nodup):∀a∈l,∀b∈l,a.1=b.1->a=b:=by
 induction l with
 | nil=>intro a ha;cases ha
 | cons c l ih =>
   rw[jv,List.nodup_cons] at h;intro a ha b hb e;rcases List.mem_cons.1 ha with ha1|ha1
   ·rcases List.mem_cons.1 hb with hb1|hb1
    ·rw[ha1,hb1]
    ·exact absurd (List.mem_map.2 ⟨b,hb1,by rw[<-e,ha1]⟩) h.1
   ·rcases List.mem_cons.1 hb with hb1|hb1
    ·exact absurd (List.mem_map.2 ⟨a,ha1,by rw[e,hb1]⟩) h.1
    ·exact ih h.2 a ha1 b hb1 e
theorem aAn {acc:List (ByteArray × Val)} {ns:List BA} {l:List Val} (hl:ns.length=l.length) (hp:acc.Perm (ns.zip l)) (hs:(ns.zip l).Pairwise (λa b=>leN a.1 b.1=true)) (aa:(acc.map (·.1)).Nodup):aH1 acc=.mk 9 0 0 ⟨#[]⟩ [] ns l:=by
 have hm:acc.mergeSort (λa b=>leN a.1 b.1)=ns.zip l:=by
  refine vX (le:=λa b:BA × Val=>leN a.1 b.1) ((List.mergeSort_perm acc _).trans hp) (List.pairwise_mergeSort (λa b c=>aL1 a b c) aL2 acc) hs ?_;intro a ha b hb h1 h2;rw[List.mem_mergeSort] at ha hb;refine aKj aa a ha b hb ?_;unfold leN at h1 h2;have h:=iT a.1.data.toList b.1.data.toList;simp only[jw] at h1 h2;exact kn (lk (kK ga))
 unfold aH1;rw[hm];dsimp only;rw[List.map_fst_zip ga,List.map_snd_zip ga]
end
section
open Go Go.RowKit Go.Shelf
open Go.Maps (Keyed)
theorem aEm {H:Type} {P:Program} {k:TypeId} {w:World} {b n:Nat} {D:DataW H} {t e:TypeId} (h:w.ownsMap P k (plainElem P e) b n D) (K:Keyed P k) (ht:P.underlying t=some (.map k e)) (he:P.underlying e=some .bool) (hz:(zeroValue e).run P w=.ok (.bool false) w)
 {ac:Value} {kl:Lit} (aa:keyOf P k ac=some kl):∃x:Bool,(Instr.lookup t (.map (some b)) ac false).run P w=.ok (.bool x) w/\D.atKey kl (.lit (.bool false))=.lit (.bool x):=by
 obtain⟨v,ps,ab,hv⟩:=h.lookup K ht hz (plainElem_bool he false) aa;unfold plainElem at hv;rw[he] at hv;cases v with
 | bool x =>
   simp only[lw,oq] at hv;exact⟨x,ab,hv.1.symm⟩
 | _=>simp at hv
theorem aJ7 {H:Type} (u z:DataW H) (k:Lit):∀(acc:List Lit) (m:DataW H),Maps.IsMap m->(∀x∈acc,WideAt.IsKeyLit x)->(k∈acc->(acc.foldl (λm x=>m.put x u) m).atKey k z=u)/\(k ∉ acc->(acc.foldl (λm x=>m.put x u) m).atKey k z=m.atKey k z)
 | [],m,_,_=>⟨λh=>gp,λ_=>rfl⟩
 | x :: acc,m,hm,ha=>by
   obtain⟨i1,i2⟩:=aJ7 u z k acc (m.put x u) (hm.put x u) (λy hy=>ha y (ja _ hy));rw[List.foldl_cons];refine⟨λh=>?_,λh=>?_⟩
   ·by_cases h1:k∈acc
    ·exact i1 h1
    ·rw[i2 h1];rcases List.mem_cons.1 h with h2|h2
     ·rw[h2,Maps.atKey_put_same hm (ha x (iw ..))]
     ·exact absurd h2 h1
   ·rw[kd] at h;rw[i2 (λh1=>h (.inr h1)),Maps.atKey_put_other (λh2=>h (.inl h2))]
theorem seen_at (acc:List (ByteArray × Val)) (nm:BA) (x:Bool) (hk:∀n:BA,WideAt.IsKeyLit (.string n.data.toList)) (h:(Maps.setOf (H:=Unit) (.lit (.bool true)) ((acc.map (·.1)).map λn=>.string n.data.toList)).atKey (.string nm.data.toList) (.lit (.bool false))=.lit (.bool x)):x=acc.any (λy=>decide (y.1=nm)):=by
 unfold Maps.setOf at h;obtain⟨i1,i2⟩:=aJ7 (H:=Unit) (.lit (.bool true)) (.lit (.bool false)) (.string nm.data.toList) ((acc.map (·.1)).map λn:BA=>Lit.string n.data.toList) (.map []) Maps.isMap_empty (by intro y hy;obtain⟨n,_,rfl⟩:=List.mem_map.1 hy;exact hk n);have aa:(Lit.string nm.data.toList∈(acc.map (·.1)).map λn:BA=>Lit.string n.data.toList) ↔ (acc.any (λy=>decide (y.1=nm)))=true:=by
  rw[oa,List.any_eq_true];constructor
  ·rintro⟨n,hn,he⟩;have ab:n=nm:=kn (lk (by simpa using he));obtain⟨y,hy,rfl⟩:=List.mem_map.1 hn;exact⟨y,hy,lg ab⟩
  ·rintro⟨y,hy,he⟩;exact⟨y.1,List.mem_map.2 ⟨y,hy,rfl⟩,by rw[ld he]⟩
 cases hx:acc.any (λy=>decide (y.1=nm)) with
 | true =>
   rw[i1 (aa.2 hx)] at h;simp at h
   first|exact h|exact h.symm
 | false =>
   rw[i2 (λh=>by rw[aa.1 h] at hx;cases hx)] at h;have h2:(DataW.map []:DataW Unit).atKey (.string nm.data.toList) (.lit (.bool false))=.lit (.bool false):=rfl;rw[h2] at h;simp at h;exact h.symm▸rfl
def SrtA (T B:Nat) (w:World) (v:Value) (k:Nat) (ns:List BA) (l:List Val) (e:Ending) (w':World):Prop:=e=.returned (.tuple #[])/\∃(ns':List BA) (l':List Val),ns'.length=k/\l'.length=k/\(ns.zip l).Perm (ns'.zip l')/\(ns'.zip l').Pairwise (λa b=>leN a.1 b.1=true)/\BuiltF T B w' v k ns' l'/\w.grownBy w' v.ownBlock
theorem aA8 (T B:Nat) (w:World) (al:Option Addr) (cap k:Nat) (ns:List BA) (l:List Val) (hb:BuiltF T B w (Sl al k cap) k ns l) (hk:l.length=k) (hn:ns.length=k) (aa:k<=1000000) :
 CP 223 #[Sl al k cap,.func (.func 224) #[] #[]] w (SrtA T B w (Sl al k cap) k ns l):=by
 have ac:k<=1->(ns.zip l).Pairwise (λa b=>leN a.1 b.1=true):=by
  intro h1;rw[List.pairwise_iff_getElem];intro i j hi hj ad;simp[hn,hk] at hj;omega
 by_cases h0:k=0
 ·subst h0;exact(aDt al cap _ w).mono λe w' ⟨he,hw⟩=>by subst hw;exact⟨he,ns,l,hn,hk,List.Perm.refl _,ac gb,hb,⟨rfl,rfl,rfl,gy _,λ_ _ _=>rfl⟩⟩
 by_cases h1:k=1
 ·subst h1;exact(aDs al cap _ w).mono λe w' ⟨he,hw⟩=>by subst hw;exact⟨he,ns,l,hn,hk,List.Perm.refl _,ac gb,hb,⟨rfl,rfl,rfl,gy _,λ_ _ _=>rfl⟩⟩
 ·obtain⟨g,rfl⟩:∃g,al=some ⟨g,0,none⟩:=by
   obtain⟨cs,_,ab,_⟩:=hb;rcases ab.2 with ⟨_,h⟩|⟨g,cap',cur,hv,_⟩
   ·exact absurd h h0
   ·cases hv;exact⟨g,rfl⟩
  exact aJx T B w g cap k ns l hb hk hn aa
theorem BuiltF.grownB {T B b:Nat} {w w':World} {v:Value} {k:Nat} {ns:List ByteArray} {l:List Val} (h:BuiltF T B w v k ns l) (hg:w.grownBy w' (some b)) (hb:b<B):BuiltF T B w' v k ns l:=by
 have ho:=h.own;obtain⟨cs,h1,h2,h3⟩:=h;refine⟨cs,h1,h2.kept hg ?_,λj hj hj' hn=>⟨(h3 j hj hj' hn).1,(h3 j hj hj' hn).2.same λi hi=>⟨⟨hi.1,by have:=hg.size;omega,hi.2.2⟩,hg.block i hi.2.1 (by have:=hi.1;simp;omega)⟩⟩⟩;cases hv:v.ownBlock with
 | none=>exact .inl rfl
 | some g=>right;intro e;have:=(ho g hv).1;cases e;omega
def RecRel (w:World) (b N:Nat) (s:ByteArray) (f:Nat) (r0:Rd) (first:Bool) (wr:World):Prop :=
 ∃(r:Rd) (acc:List (ByteArray × Val)) (nsd:List ByteArray) (fsd:List Val) (v:Value) (F:Nat),IsRd wr b s r/\RdI s r/\nsd=acc.map (·.1)/\fsd.length=acc.length/\(r.e=0->fsd=acc.map (·.2)/\(acc.map (·.1)).Nodup)/\(∀n∈nsd,n.size<=100000)/\fY s (rdV s f) (r0.mu s+1) true r0 []=fY s (rdV s f) F first r acc/\r.mu s<F/\acc.length+r.mu s<=r0.mu s /\
  wr.heap[N]?=some valZ/\wr.heap[N+1]?=some (.cells #[.int .i64 9,.int .i64 0,.int .i64 0,.string ⟨#[]⟩,Z0,v] 67)/\BuiltF 204 (N+3) wr v fsd.length nsd fsd/\wr.ownsMap prog 9 (plainElem (H:=Unit) prog 4) (N+2) (acc.length) (Maps.setOf (.lit (.bool true)) ((nsd).map λn=>.string n.data.toList))/\w.grownBy wr (some b)
section
attribute [-go_sem] loadCellsFrom storeCells
attribute [local go_sem] mG mF pT tF tE sY mB mA
theorem aE1 (f:Nat) (IH:aJf f) (b:Nat) (s:BA) (r0:Rd) (bo:Int) (w:World) (h:IsRd w b s r0) (hI:RdI s r0) (hs:s.size<=100000) (ep:TB w b) (e6:bo+1+f=8) (f1:0<=bo) :
 CP 169 #[Pt b 0,.int .i64 bo] w
  (sM w b s (aH1 (fY s (rdV s f) (r0.mu s+1) true r0 []).1,(fY s (rdV s f) (r0.mu s+1) true r0 []).2.expect s ⟨#[125]⟩)):=by
 obtain⟨tf,hi,fa,fo,fi⟩:=jr aB2;have ew:=@run_makeMap prog;have e4:=f8 ep;have fx:=aN4 s r0;obtain⟨Q,hQ⟩:=xe (fY s (rdV s f) (r0.mu s+1) true r0 [])
 rw[<-hQ];have HQ:=f8 hQ;clear hQ;have bw:=aC2 (w.alloc valZ) #[.int .i64 0,.int .i64 0,.int .i64 0,Sv ⟨#[]⟩,Z0,Z0] rfl (.int .i64 9) (.int .i64 0) (.int .i64 0) (Sv ⟨#[]⟩) Z0 Z0 gj;simp only[jb] at bw;obtain⟨ff,fb⟩:=h_2 h hI;have fz:=h.lt;clear h hI ep;go_enter func169,ntmps169
 go_wp2;clear bw ew;obtain⟨N,hN⟩:=xe w.heap.size
 have ai:=f8 (show N≠b/\N+1≠b/\N+2≠b by omega);have fu:b<N:=ga
 have e2:w.heap.size+1+1=N+2:=ga
 rw[e2,<-hN];have an:=f8 hN;clear hN e2
 go_loopw [7] (λfv wr=>∃first:Bool,fv=.bool first/\RecRel w b N s f r0 first wr) (λ_ wr=>muW wr b s)
 case atStart =>
  refine⟨true,rfl,r0,[],[],[],Z0,r0.mu s+1,((ff.alloc _).alloc _).alloc _,fb.o,rfl,rfl,λ_=>⟨rfl,List.nodup_nil⟩,(λn hn=>by cases hn),rfl,pj _,by simp,?_,?_,BuiltF.nil _ _ _ _ _,?_,((jq _ _ _).trans (jq _ _ _)).trans (jq _ _ _)⟩
  ·rw[an.o];exact aC _ (aC _ (ib w _))
  ·rw[an.o];refine aC _ ?_;rw[<-jb w valZ];exact ib (w.alloc valZ) _
  ·have hh:=World.ownsMap_made (H:=Unit) ((w.alloc valZ).alloc (.cells #[.int .i64 9,.int .i64 0,.int .i64 0,Sv ⟨#[]⟩,Z0,Z0] 67)) prog 9 (plainElem prog 4);rw[jb,jb] at hh;rw[an.o];exact hh
 case round =>
  obtain⟨first,rfl,r,acc,a0,ab,v,F,hr,hI,dp,c8,d2,bn,es,hF,f0,d0,eg,ba,ea,hg⟩:=hrel;obtain⟨HR,HI,cc,cj⟩:=h_4 hr hI dp c8;have dv:=f8 (show a0.length=acc.length by rw[dp,jy]);obtain⟨cv,da,cw,dm,co,fe,HG⟩:=h_7 d2 bn es d0 eg ea hg;have f2:ab.length<=200010:=by rw[c8];omega
  have a4:=f8 (e4.grown hg (.inr rfl));have fh:=f8 (aCk hr);have ce:=f8 (uZ b s r ⟨#[125]⟩ wr hr);have ex:Ce wr b 10 (.int .i64 r.e):=aA hr.at_ 10;obtain⟨F,rfl⟩:∃F',F=F'+1:=⟨F-1,by omega⟩
  obtain⟨q,hq⟩:=xe (r.is ⟨#[125]⟩:Bool)
  rw[<-hq] at ce;have em:=f8 hq;clear dp c8 d2 bn es d0 eg ea hg hr hI hq;by_cases he:r.e=0
  ·have HE:=f8 he;have qe:(r.e==0)=true:=by simp[he]
   clear he;cases q
   ·have eh:¬ (r.e≠0\/r.is ⟨#[125]⟩=true):=by rw[<-em.o];simp[HE.o]
    have bh:=f8 (show Q=fY s (rdV s f) F false (rdV s f (rJ s first r acc)).2 (acc++[(aK5 s first r,(rdV s f (rJ s first r acc)).1)]) by
     rw[HQ.o,cw.o,rK,f9 eh])
    have aq:=f8 (aAm (aCf s f) HI.o HE.o first acc);have dh:=f8 (iJ HI.o ⟨#[44]⟩);have dt:=f8 (dV b s r ⟨#[44]⟩ wr HR.o hs a4.o);have dd:=f8 (aIu HI.o first acc).1;obtain⟨r1,a6⟩:=xe ((if first=true then r else r.expect s ⟨#[44]⟩))
    obtain⟨nm,cy⟩:=xe ((fW r1 1).t)
    have ca:aK5 s first r=nm:=by
     unfold aK5 fW at *;dsimp only;rw[<-a6,cy];split<;>rfl
    obtain⟨r2,ck⟩:=xe (r1.name s)
    obtain⟨r3,ay⟩:=xe ((if r2.e=0/\acc.any (λx=>decide (x.1=nm))=true then r2.fail r1.p 7 else r2))
    have el:rJ s first r acc=r3.expect s ⟨#[58]⟩:=by
     unfold rJ aK5 at *;dsimp only at ca ⊢;rw[<-a6] at ca ⊢;rw[ca,<-ck,<-ay]
    obtain⟨r4,bl⟩:=xe (r3.expect s ⟨#[58]⟩)
    rw[el,<-bl] at bh aq dd;rw[ca] at bh;obtain⟨ed,eb,e3,a5,d8⟩:=h_5 a6 cy ck ay bl;clear a6 cy ca ck ay el bl eh
    go_upto_if 23 with (go_at_call 220;refine ce.mono ?_;rintro e w2 ⟨rfl,b7⟩;obtain rfl:=b7.symm)
    go_cut [] (λwz=>IsRd wz b s r1/\RdI s r1/\wr.grownBy wz (some b))
    case first =>
     cases first
     ·go_wp2_with (go_at_call 221;refine dt.mono ?_;rintro e w2 ⟨rfl,h2,ap⟩;obtain⟨aw,aj⟩:=h_2 h2 ap;clear h2 ap)
      go_meet
      have h2:r1=r.expect s ⟨#[44]⟩:=ed.o;rw[h2];exact⟨aw.o,dh.o,aj.o⟩
     ·go_wp2
      go_meet
      have h2:r1=r:=ed.o;rw[h2];exact⟨HR.o,HI.o,⟨rfl,rfl,rfl,gy _,λ_ _ _=>rfl⟩⟩
    case rest =>
     obtain⟨cd,dw,ch⟩:=hcut;obtain⟨wa,ee⟩:=xe wc
     rw[<-ee] at cd ch ⊢;clear ee;have bf:=a4.grown ch (.inr rfl);have b3:=f8 (aKk b s r1 wa cd dw.fit hs bf);rw[<-eb.o,<-e3.o] at b3;have dz:nm.size<=100000:=by
      rw[eb.o];unfold fW;split
      ·have:=dw.fit.t;omega
      ·exact ii _
     have e9:Ce wa b 3 (.int .i64 (r1.p:Int)):=aA cd.at_ 3;obtain⟨fc,cr⟩:=h_2 ch bf;clear cd dw ch bf;go_upto_region 10 with (go_at_call 222;refine b3.mono ?_;rintro e w2 ⟨rfl,h2,ap⟩;have aw:=f8 h2;have aj:=f8 (fc.trans ap);have bv:=f8 (cr.grown ap (.inr rfl));clear h2 ap)
     obtain⟨wb,er⟩:=xe w2
     rw[<-er] at aw aj bv ⊢;clear er e9;have bp:=f8 (fe.kept aj.o (by simp[ai.2.2]));have be:keyOf prog 9 (Sv nm)=some (.string nm.data.toList):=WideMaps.keyOf_string_mk underlying9 (by unfold maxLen;omega);have dk:=aEm (H:=Unit) bp.o (Maps.string_keyed underlying9) underlying271 underlying4 gd be;obtain⟨x,db,b0⟩:=dk;have hx:x=acc.any (λy=>decide (y.1=nm)):=seen_at acc nm x (λn=>by first|exact trivial|exact⟨_,rfl⟩|simp[WideAt.IsKeyLit]) (by rw[<-cc.o];exact b0);have HX:=f8 hx
     have c7:Ce wb b 10 (.int .i64 r2.e):=aA aw.at_ 10;have cu:=f8 (bH b s r2 r1.p 7 wb aw.o);clear b0 hx
     go_cut [42] (λv wz=>v=.bool (decide (r2.e=0)&&x)/\wz=wb)
     case first =>
      by_cases bk:r2.e=0
      ·have fj:(r2.e==0)=true:=by simp[bk]
       have cm:=f8 bk;clear bk;go_wp2
       go_meet
       exact⟨by rw[lg cm.o];rfl,rfl⟩
      ·have fj:(r2.e==0)=false:=by simp[bk]
       have cm:=f8 bk;clear bk;go_wp2
       go_meet
       exact⟨by rw[mc cm.o];rfl,rfl⟩
     case rest =>
     obtain⟨rfl,d6⟩:=hcut;obtain⟨wz,d5⟩:=xe wc
     rw[<-d5] at d6 ⊢;clear d5;subst d6;clear db;obtain⟨e8,bd⟩:=xe ((decide (r2.e=0)&&x))
     rw[<-bd];have bs:=f8 bd;clear bd c7
     go_upto_if 42 with (fail)
     go_cut [] (λwy=>IsRd wy b s r3/\wz.grownBy wy (some b))
     case first =>
      cases e8
      ·go_wp2
       go_meet
       have h3:r3=r2:=by
        rw[a5.o,f9];intro h;have:=bs.o;rw[lg h.1,HX.o,h.2] at this;cases this
       rw[h3];exact⟨aw.o,⟨rfl,rfl,rfl,gy _,λ_ _ _=>rfl⟩⟩
      ·go_wp2_with (go_at_call 162;refine cu.mono ?_;rintro e w3 ⟨rfl,h3,ak⟩;obtain⟨fg,ag⟩:=h_2 h3 ak;clear h3 ak)
       go_meet
       have h3:r3=r2.fail r1.p 7:=by
        have:=bs.symm;rw[kg,jw] at this;rw[a5.o,gw ⟨this.1,by rw[<-HX.o];exact this.2⟩]
       rw[h3];exact⟨fg.o,ag.o⟩
     case rest =>
     obtain⟨bg,ak⟩:=hcut;obtain⟨wy,et⟩:=xe wc
     rw[<-et] at bg ak ⊢;clear et;have dj:=f8 bg;have ag:=f8 (aj.trans ak);have dc:=f8 (bp.kept ak (by simp[ai.2.2]));have df:=f8 (bv.grown ak (.inr rfl));clear bg ak;have cR:acc.length<maxLen:=by unfold maxLen;omega
     go_upto_region 13 with (at_mapUpdate;refine wpList_mapUpdate_own _ rfl _ _ _ 271 rfl 9 4 (Maps.string_keyed underlying9) underlying271 (plainElem (H:=Unit) prog 4) (N+2) acc.length _ rfl dc.o cR _ _ _ rfl rfl be _ [] (plainElem_bool underlying4 true) ?_;intro w4 a7 ar;obtain⟨dn,ac⟩:=h_2 a7 ar;clear a7 ar)
     have bl:IsRd w4 b s r3:=dj.grown ac.o (by have:=ai.2.2;simp;omega);have bc:TB w4 b:=by
      obtain⟨u0,k1,k2,k3,k4⟩:=df.o;exact⟨u0,k1,k2,k3.trans (⟨ac.os,ac.tape,ac.output,ac.size,λi hi=>ac.block i (ix hi k3.size) gi⟩),k4⟩
     have br:=f8 (dV b s r3 ⟨#[58]⟩ w4 bl hs bc);rw[<-d8.o] at br;have dg:=f8 bc;clear bl bc;go_upto_region 14 with (go_at_call 221;refine br.mono ?_;rintro e w5 ⟨rfl,h5,d7⟩;obtain⟨fn,bm⟩:=h_2 h5 d7;clear h5 d7)
     obtain⟨k,hk⟩:=xe ab.length
     have ae:=((ba.grownB ag.o (show b<N+3 by omega)).grownB ac.o (show N+2<N+3 by omega)).grownB bm.o (show b<N+3 by omega);have cL:BuiltF 204 (N+3) w5.drew v k a0 ab:=hk▸ae.ext (gx _ _).drew;have fd:=f8 (aX bm.o (aX ac.o (aX ag.o dm.o ai.1) ga) ai.1);have p1:w5.heap[N+1]?=some (.cells #[.int .i64 9,.int .i64 0,.int .i64 0,Sv ⟨#[]⟩,Z0,v] 67):=aX bm.o (aX ac.o (aX ag.o co.o ai.2.1) ga) ai.2.1
     have P1:f7 (w5.drew.heap[N+1]?=some (.cells #[.int .i64 9,.int .i64 0,.int .i64 0,Sv ⟨#[]⟩,Z0,v] 67)):=f8 p1;have P2:f7 (IsRd w5.drew b s r4):=f8 (fn.grown (row:=none) ⟨rfl,rfl,rfl,gy _,λ_ _ _=>rfl⟩ ge);have b9:=f8 (dn.kept bm.o (by simp[ai.2.2]));have cn:=f8 ((dg.grown bm.o (.inr rfl)).grown (row:=none) ⟨rfl,rfl,rfl,gy _,λ_ _ _=>rfl⟩ (.inl rfl):TB w5.drew b);have fp:=f8 (λ(h':IsRd w5.drew b s r4)=>IH b s r4 (bo+1) w5.drew h' dd.o hs cn.o ga);have fy:N+1<w5.heap.size:=ltOf p1
     have ft:N+2<w5.heap.size:=b9.lt;have HC:=f8 (λ(w':World) (h:w'.heap[N+1]?=some (.cells #[.int .i64 9,.int .i64 0,.int .i64 0,Sv ⟨#[]⟩,Z0,v] 67))=>(show w'.cell? ⟨N+1,5,none⟩=some v from aA h 5));have b4:=f8 (show w.grownBy w5 (some b) from(iP (HG.trans ag.o) ⟨ac.os,ac.tape,ac.output,ac.size,λi hi=>ac.block i (ix hi (HG.trans ag.o).size) (by have:=an.o;simp;omega)⟩).trans bm.o);obtain⟨cs,du,cb,c6⟩:=cL;have dr:=BuiltF.own ⟨cs,du,cb,c6⟩;have d3:=f8 du
     have f3:k+1<=200012:=by rw[hk];omega
     have a9:k+1<=maxLen:=by unfold maxLen;omega
     have a8:(k+1) * 104<=140737488355328:=ga
     have di:some (N+1)≠v.ownBlock:=λe=>by have:=(dr _ e.symm).1;omega
     have ek:=f8 (show v.ownBlock=none\/v.ownBlock≠some b by
      cases hv:v.ownBlock with
      | none=>exact .inl rfl
      | some g=>right;intro e;have:=(dr g hv).1;cases e;omega)
     have e1:IntKind.i64.wrap (bo+1)=bo+1:=ip _ ⟨by omega,by omega⟩;obtain⟨dx,cf,HK⟩:=h_3 c6 dr hk;clear ba ae p1 du c6 hk be;refine aP 10 (λw'=>w'.heap[N+1]?=some (.cells #[.int .i64 9,.int .i64 0,.int .i64 0,Sv ⟨#[]⟩,Z0,v] 67)) gd gd gd gb (P1.o) (λhS=>?_);simp only[zdm,zdn,zdp,zdq];refine tC 0 HC ?_;refine tC 1 HC ?_;refine tC 2 HC ?_;refine tC 3 HC ?_;refine tC 4 HC ?_;refine tC 5 HC ?_;refine yr 6 λK hK=>?_;go_simp;go_at_call 107;refine(fp.o P2.o).mono ?_;rintro e w1 ⟨c1,d1,rfl,eo,d9,a6,az⟩;have q1:=f8 (aX az P1.o ai.2.1);have fq:=az.size;simp only[oo] at fq;refine kOQ hK (q1.o) λhS=>?_;clear hK K
     refine tC 7 HC ?_;refine yr 8 λK hK=>?_;go_simp;refine kOQ hK (aC _ q1.o) λhS=>?_;clear hK K
     refine yr 9 λK hK=>?_;refine step_append_lies _ gh _ _ _ gh (N+3) 204 tf _ 7 104 underlying65 hi fa fo fi rfl ga v k (cs.flatMap FC.cs) gh ((cb.kept az ek.o).alloc _) ⟨w1.heap.size,0,none⟩ 1 1 (FC.cs (nm,c1)) gh gh (World.news_of_block (ib w1 _)) (by simp[FC.cs,VC.cs,Value.oneCell']) ga a9 a8 gi (w1.heap.size+1) ge ?_;intro gg cap ci bb af b0 e7;have cg:=f8 (aL af (aC _ q1.o) di);refine kOQ hK (cg.o) λhS=>?_;clear hK K
     refine iq gd ?_ _
     (try dsimp only)
     have fw:ci.cell? ⟨N+1,5,none⟩=some v:=aA cg.o 5;have f4:ci.frozen? ⟨N+1,5,none⟩=false:=aF cg.o 5;have fl:=f8 (λu=>(aG (o:=5) u cg.o));clear hS HC;have ey:=f8 (show some b≠v.ownBlock from λe=>by
      rcases ek.o with h|h
      ·rw[h] at e;cases e
      ·exact h e.symm)
     have b5:=f8 (λu:Value=>(show IsRd (ci.setCell ⟨N+1,5,none⟩ u) b s (rdV s f r4).2 from⟨aD _ _ (aL af (aC _ a6.at_) ey.o) gl,a6.ok⟩));have fk:=f8 (λu:Value=>(show(ci.setCell ⟨N+1,5,none⟩ u).heap[N]?=some valZ from aD _ _ (aL af (aC _ (aX az (show w5.drew.heap[N]?=some valZ from fd.o) ai.1)) (λe=>by have:=(cf.o _ e.symm).1;omega)) gl))
     have bt:=(((show w5.drew.ownsMap prog 9 (plainElem (H:=Unit) prog 4) (N+2) (acc.length+1) _ from b9.drew).kept az (by simp[ai.2.2])).alloc (.cells (FC.cs (nm,c1)).toArray 204)).kept af (λe=>by have:=(cf.o _ e.symm).1;omega);have ds:=f8 (λu:Value=>bt.setCell (a:=⟨N+1,5,none⟩) gl u);have e0:=f8 (show w.grownBy (w1.alloc (.cells (FC.cs (nm,c1)).toArray 204)) (some b) from(b4.trans ((show w5.grownBy w5.drew (some b) from⟨rfl,rfl,rfl,gy _,λ_ _ _=>rfl⟩).trans az)).trans (jq _ _ _))
     obtain⟨ei,eu,fm,bu⟩:=h_4 af eo d9 bb;have ez:=f8 b0
     have ec:=f8 az;have ev:N+3<=w1.heap.size:=by have h1:=az.size;simp only[oo] at h1;omega
     clear af eo d9 bb b0 az a6 a9 a8 bt;go_wp2
     go_roundw
     case rel =>
      refine⟨false,rfl,(rdV s f r4).2,acc++[(nm,(rdV s f r4).1)],a0++[nm],ab++[d1],_,F,b5.o _,aq.1,by rw[kh,<-cc.o];rfl,by rw[ik,ik,cj.o];rfl,?_,?_,HQ.symm.trans bh.o,by have:=aq.2;omega,?_,fk.o _,fl.o _,?_,?_,?_⟩
      ·intro hx;have h4:=(aCf s f r4 dd.o).2.2.2 hx;have h3:r3.e=0:=jK (s:=s) (t:=⟨#[58]⟩) (by rw[<-d8.o];exact h4);obtain⟨a1,a2⟩:=cv.o HE.o;have c5:¬ (acc.any (λy=>decide (y.1=nm))=true):=by
        intro hd;by_cases h2:r2.e=0
        ·have:=a5.o;rw[gw ⟨h2,hd⟩] at this;rw[this] at h3;exact absurd h3 (Rd.fail_e _ _ _ gb)
        ·have:=a5.o;rw[f9 (λh=>h2 h.1)] at this;rw[this] at h3;exact h2 h3
       refine⟨by rw[fm.o hx,a1,kh];rfl,?_⟩;rw[kh,List.nodup_append];refine⟨a2,by simp,?_⟩;intro a ha c hc e;simp only[jv,List.map_nil,List.mem_singleton] at hc;obtain⟨y,hy,rfl⟩:=List.mem_map.1 ha;exact c5 (List.any_eq_true.2 ⟨y,hy,lg (e.trans hc)⟩)
      ·intro n hn;rcases List.mem_append.1 hn with h|h
       ·exact da.o n h
       ·simp at h;subst h;exact dz
      ·have:=aq.2;rw[ik];simp only[im,i7];omega
      ·refine BuiltF.set ?_ _ _ gl;have dk:(ab++[d1]).length=k+1:=by rw[ik,HK.o];rfl
       have ej:a0.length=k:=by rw[dv.o,HK.o,cj.o]
       rw[dk];refine BuiltF.push (N:=w5.drew.heap.size) d3.o (λj hj hj' hjn=>?_) ga (by rw[ik,ej];simp) ?_ ?_ (by simp only[oo];omega) (λr e=>(cf.o r e).2) bu.o ei.o ez.o
       ·have en:j<ab.length:=by have:=d3.o;have:=HK.o;omega
        have b2:j<a0.length:=by have:=HK.o;omega
        rw[ku en,ku b2];obtain⟨x1,x2⟩:=dx.o j hj en b2;exact⟨x1,x2.same λi hi=>⟨⟨hi.1,by have:=ec.size;have:=hi.2.1;omega,hi.2.2⟩,ec.block i hi.2.1 (by have:=hi.1;simp;omega)⟩⟩
       ·simp only[<-ej];exact(List.getElem_concat_length rfl ge).symm
       ·have e2:(ab++[d1])[k]' ga=d1:=by
         simp only[HK.o];exact List.getElem_concat_length rfl ge
        rw[e2];exact eu.o
      ·have h:=ds.o (Sl (So gg 0) (k+1) cap);rw[ik,kh];simp only[im,i7,jv,List.map_nil];rw[Maps.setOf_snoc];exact h
      ·exact iP e0.o (((gx _ _).grown ei.o (by simp;have:=an.o;omega) (λr e=>by have:=(cf.o r e).1;have:=an.o;omega)).setCell (by dsimp only;have:=an.o;omega) _)
     case measure =>
      rw[fh.o,aCk (b5.o _)];exact aq.2
   ·have cp:=f8 (show Q=(acc,r) by rw[HQ.o,cw.o,rK,gw (.inr em.symm)]);have ct:=f8 (dV b s r ⟨#[125]⟩ wr HR.o hs a4.o);obtain⟨al,aa,rfl,b6,cx,b8⟩:=ba.shape;obtain⟨de,e5⟩:=h_2 ba b8;clear ba b8 cx;have dy:=f8 b6;clear b6;go_upto_region 16 with (first
     | (go_at_call 221;refine ct.mono ?_;rintro e w2 ⟨rfl,h2,ap⟩;obtain⟨aw,aj⟩:=h_2 h2 ap;clear h2 ap)
     | (go_at_call 220;refine ce.mono ?_;rintro e w2 ⟨rfl,b7⟩;obtain rfl:=b7.symm))
    have ae:=de.grownB aj.o (show b<N+3 by omega);have cz:=f8 (aA8 204 (N+3) w2 al aa ab.length a0 ab ae rfl (by rw[dv.o,cj.o]) ga);have h0:=aX aj.o dm.o ai.1;have h1:=aX aj.o co.o ai.2.1;have dq:=(aA h1 5:w2.cell? ⟨N+1,5,none⟩=some (Sl al ab.length aa))
    have am:=ae.own;have c2:=f8 (λ(w3:World) (hg:w2.grownBy w3 (Value.slice al ab.length aa).ownBlock)=>(show w3.heap[N]?=some valZ/\w3.heap[N+1]?=some (.cells #[.int .i64 9,.int .i64 0,.int .i64 0,Sv ⟨#[]⟩,Z0,(Sl al ab.length aa)] 67)/\IsRd w3 b s (r.expect s ⟨#[125]⟩)/\w2.grownBy w3 (Value.slice al ab.length aa).ownBlock from by
     have bi:∀i,i<N+3->some i≠(Value.slice al ab.length aa).ownBlock:=λi hi e=>by have:=(am _ e.symm).1;omega
     exact⟨(hg.block N (ltOf h0) (bi _ ga)).trans h0,(hg.block (N+1) (ltOf h1) (bi _ ga)).trans h1,aw.grown hg (bi _ ga),hg⟩))
    have cq:=f8 am;clear h0 h1 ae am;go_upto_region 17 with (go_at_call 223;refine cz.mono ?_;rintro e w3 ⟨rfl,ah⟩;have c9:=f8 ah;clear ah)
    obtain⟨ax,bj,a3,ao,av,b1,au,ak⟩:=c9.o;obtain⟨m0,m1,ay,_⟩:=c2.o w3 ak;have fr:=ld6 m1;have fs:=st6 m0 rfl (.int .i64 9) (.int .i64 0) (.int .i64 0) (Sv ⟨#[]⟩) Z0 (Sl al ab.length aa) gj;have cl:=ld6 (ke w3 N _ #[.int .i64 9,.int .i64 0,.int .i64 0,Sv ⟨#[]⟩,Z0,Sl al ab.length aa] 67 (0,0) m0);obtain⟨bz,bq,bx,c4,c3,ag,a5⟩:=h_7 a3 ao av b1 au ak ay;clear m0 m1 a3 ao av b1 au ak ay dq;go_wp2
    refine ig (v:=.agg #[.int .i64 9,.int .i64 0,.int .i64 0,Sv ⟨#[]⟩,Z0,Sl al ab.length aa]) (by simp[results,results169,go_sem,cl]) rfl ?_;rw[cp.o];refine⟨⟨9,0,0,⟨#[]⟩,none,0,0,al,ab.length,aa⟩,.mk 9 0 0 ⟨#[]⟩ [] ax bj,rfl,?_,?_,aI a5.o ai.1,?_⟩
    ·have ao:=bq.o;have a3:=bz.o;refine⟨⟨rfl,rfl,rfl,rfl,⟨by simp[I64],by simp[I64],by simp[I64],ii _,(show 0 * 88<=140737488351232 by decide),(show ab.length * 104<=140737488351232 by omega),gy _,dy.o⟩,rfl,ao.symm,a3.trans ao.symm⟩,.inl rfl,?_⟩;have au:=c3.o;rw[<-ao] at au;have bn:∀n∈ax,n.size<=140737488351232:=by
      intro n hn;obtain⟨j,hj,rfl⟩:=List.mem_iff_getElem.1 hn;have hm:(ax[j],bj[j]' ga)∈ax.zip bj:=by
       rw[List.mem_iff_getElem];exact⟨j,by simp;omega,by simp⟩
      have dl:=(List.of_mem_zip (bx.symm.mem_iff.1 hm)).1;have:=da.o _ dl;omega
     rcases au.flds ga bn with h|⟨g,o,h1,h2,h3⟩
     ·exact .inl h
     ·have ad:∀i,N+3<=i/\i<w3.heap.size->(w.heap.size<=i/\i<(w3.setRow N #[.int .i64 9,.int .i64 0,.int .i64 0,Sv ⟨#[]⟩,Z0,Sl al ab.length aa]).heap.size)/\(w3.setRow N #[.int .i64 9,.int .i64 0,.int .i64 0,Sv ⟨#[]⟩,Z0,Sl al ab.length aa]).heap[i]?=w3.heap[i]?:=λi hi=>⟨⟨by have:=an.o;omega,by rw[ky];exact hi.2⟩,ko w3 N i _ ga⟩
      exact .inr ⟨g,o,h1,(ad g h2).1,IsFlds.same ad (ad g h2).2 h3⟩
    ·intro he;obtain⟨a1,a2⟩:=cv.o (jK he);have hz:a0.zip ab=acc:=by
      rw[a1,cc.o];apply List.ext_getElem
      ·simp
      ·intro i h1 h2;simp
     have av:=bx.o;rw[hz] at av;exact(aAn (by rw[bz.o,bq.o]) av c4.o a2).symm
    ·refine aK (iP (HG.trans aj.o) ⟨ag.os,ag.tape,ag.output,ag.size,λi hi=>ag.block i ?_ ?_⟩) N _ (by have:=an.o;omega)
     ·exact ix hi (HG.trans aj.o).size
     ·intro e;have:=(cq.o _ e.symm).1;have:=an.o;omega
  ·have HE:=f8 he;have qe:(r.e==0)=false:=by simp[he]
   have cp:=f8 (show Q=(acc,r) by rw[HQ.o,cw.o,rK,gw (.inl he)]);clear he;have ct:=f8 (dV b s r ⟨#[125]⟩ wr HR.o hs a4.o);obtain⟨al,aa,rfl,b6,cx,b8⟩:=ba.shape;obtain⟨de,e5⟩:=h_2 ba b8;clear ba b8 cx;have dy:=f8 b6;clear b6;go_upto_region 16 with (first
    | (go_at_call 221;refine ct.mono ?_;rintro e w2 ⟨rfl,h2,ap⟩;obtain⟨aw,aj⟩:=h_2 h2 ap;clear h2 ap)
    | (go_at_call 220;refine ce.mono ?_;rintro e w2 ⟨rfl,b7⟩;obtain rfl:=b7.symm))
   have ae:=de.grownB aj.o (show b<N+3 by omega);have cz:=f8 (aA8 204 (N+3) w2 al aa ab.length a0 ab ae rfl (by rw[dv.o,cj.o]) ga);have h0:=aX aj.o dm.o ai.1;have h1:=aX aj.o co.o ai.2.1;have dq:=(aA h1 5:w2.cell? ⟨N+1,5,none⟩=some (Sl al ab.length aa))
   have am:=ae.own;have c2:=f8 (λ(w3:World) (hg:w2.grownBy w3 (Value.slice al ab.length aa).ownBlock)=>(show w3.heap[N]?=some valZ/\w3.heap[N+1]?=some (.cells #[.int .i64 9,.int .i64 0,.int .i64 0,Sv ⟨#[]⟩,Z0,(Sl al ab.length aa)] 67)/\IsRd w3 b s (r.expect s ⟨#[125]⟩)/\w2.grownBy w3 (Value.slice al ab.length aa).ownBlock from by
    have bi:∀i,i<N+3->some i≠(Value.slice al ab.length aa).ownBlock:=λi hi e=>by have:=(am _ e.symm).1;omega
    exact⟨(hg.block N (ltOf h0) (bi _ ga)).trans h0,(hg.block (N+1) (ltOf h1) (bi _ ga)).trans h1,aw.grown hg (bi _ ga),hg⟩))
   have cq:=f8 am;clear h0 h1 ae am;go_upto_region 17 with (go_at_call 223;refine cz.mono ?_;rintro e w3 ⟨rfl,ah⟩;have c9:=f8 ah;clear ah)
   obtain⟨ax,bj,a3,ao,av,b1,au,ak⟩:=c9.o;obtain⟨m0,m1,ay,_⟩:=c2.o w3 ak;have fr:=ld6 m1;have fs:=st6 m0 rfl (.int .i64 9) (.int .i64 0) (.int .i64 0) (Sv ⟨#[]⟩) Z0 (Sl al ab.length aa) gj;have cl:=ld6 (ke w3 N _ #[.int .i64 9,.int .i64 0,.int .i64 0,Sv ⟨#[]⟩,Z0,Sl al ab.length aa] 67 (0,0) m0);obtain⟨bz,bq,bx,c4,c3,ag,a5⟩:=h_7 a3 ao av b1 au ak ay;clear m0 m1 a3 ao av b1 au ak ay dq;go_wp2
   refine ig (v:=.agg #[.int .i64 9,.int .i64 0,.int .i64 0,Sv ⟨#[]⟩,Z0,Sl al ab.length aa]) (by simp[results,results169,go_sem,cl]) rfl ?_;rw[cp.o];refine⟨⟨9,0,0,⟨#[]⟩,none,0,0,al,ab.length,aa⟩,.mk 9 0 0 ⟨#[]⟩ [] ax bj,rfl,?_,?_,aI a5.o ai.1,?_⟩
   ·have ao:=bq.o;have a3:=bz.o;refine⟨⟨rfl,rfl,rfl,rfl,⟨by simp[I64],by simp[I64],by simp[I64],ii _,(show 0 * 88<=140737488351232 by decide),(show ab.length * 104<=140737488351232 by omega),gy _,dy.o⟩,rfl,ao.symm,a3.trans ao.symm⟩,.inl rfl,?_⟩;have au:=c3.o;rw[<-ao] at au;have bn:∀n∈ax,n.size<=140737488351232:=by
     intro n hn;obtain⟨j,hj,rfl⟩:=List.mem_iff_getElem.1 hn;have hm:(ax[j],bj[j]' ga)∈ax.zip bj:=by
      rw[List.mem_iff_getElem];exact⟨j,by simp;omega,by simp⟩
     have dl:=(List.of_mem_zip (bx.symm.mem_iff.1 hm)).1;have:=da.o _ dl;omega
    rcases au.flds ga bn with h|⟨g,o,h1,h2,h3⟩
    ·exact .inl h
    ·have ad:∀i,N+3<=i/\i<w3.heap.size->(w.heap.size<=i/\i<(w3.setRow N #[.int .i64 9,.int .i64 0,.int .i64 0,Sv ⟨#[]⟩,Z0,Sl al ab.length aa]).heap.size)/\(w3.setRow N #[.int .i64 9,.int .i64 0,.int .i64 0,Sv ⟨#[]⟩,Z0,Sl al ab.length aa]).heap[i]?=w3.heap[i]?:=λi hi=>⟨⟨by have:=an.o;omega,by rw[ky];exact hi.2⟩,ko w3 N i _ ga⟩
     exact .inr ⟨g,o,h1,(ad g h2).1,IsFlds.same ad (ad g h2).2 h3⟩
   ·intro he;obtain⟨a1,a2⟩:=cv.o (jK he);have hz:a0.zip ab=acc:=by
     rw[a1,cc.o];apply List.ext_getElem
     ·simp
     ·intro i h1 h2;simp
    have av:=bx.o;rw[hz] at av;exact(aAn (by rw[bz.o,bq.o]) av c4.o a2).symm
   ·refine aK (iP (HG.trans aj.o) ⟨ag.os,ag.tape,ag.output,ag.size,λi hi=>ag.block i ?_ ?_⟩) N _ (by have:=an.o;omega)
    ·exact ix hi (HG.trans aj.o).size
    ·intro e;have:=(cq.o _ e.symm).1;have:=an.o;omega
end
end
section
open Go Go.RowKit Go.Shelf
theorem jT (a:BA) (l:List UInt8) (h:a≠⟨l.toArray⟩):(a.toList==l)=false:=by rw[yG];exact mc h
theorem sJ (a:BA) (l:List UInt8) (h:a=⟨l.toArray⟩):(a.toList==l)=true:=by rw[yG];exact lg h
theorem namF_eq (s:BA) (f:Nat) (r:Rd) (he:¬ r.e≠0) (h1:¬ ((r.k=0\/r.k=5)/\r.t≠⟨#[91]⟩/\r.t≠⟨#[123]⟩)) (h2:¬ r.k=2) (h3:¬ r.k=3) (h4:¬ r.k=4) (h5:¬ r.t=⟨#[91]⟩) (h6:¬ r.t=⟨#[123]⟩):rdV s (f+1) r=sW s f r (r.adv s):=by
 unfold rdV;rw[f9 he,f9 h1];dsimp only;rw[f9 h2,f9 h3,f9 h4,f9 h5,f9 h6];rfl
section
attribute [-go_sem] loadCellsFrom storeCells
attribute [local go_sem] mG mF pT tF tE sY mB mA
theorem vF (f:Nat) (ci:f<=8) (IH:∀g,f=g+1->aJf g):aJf f:=by
 intro b s r ar w h hI hs cb bk;obtain⟨N,hN⟩:=xe w.heap.size
 have cn:=h.lt;obtain⟨Q,hQ⟩:=xe (rdV s f r)
 rw[<-hQ];have HQ:=f8 hQ;obtain⟨w0,a9⟩:=xe (w.alloc valZ)
 have be:IsRd w0 b s r:=by rw[a9];exact h.alloc _
 have bl:w.grownBy w0 (some b):=by rw[a9];exact jq _ _ _
 have bn:w0.heap[N]?=some valZ:=by rw[a9,hN];exact ib w _
 have ak:=f8 (λ(w2:World) (x0 x1 x2 x3 x4 x5:Value) (h1:∀v∈[x0,x1,x2,x3,x4,x5],v.oneCell'=true) (hz:w2.heap[N]?=some valZ) =>
  (show(storeCells ⟨N,0,none⟩ [x0,x1,x2,x3,x4,x5] 0).run prog w2=.ok () (w2.setRow N #[x0,x1,x2,x3,x4,x5])/\(loadCellsFrom ⟨N,0,none⟩ 0 6 #[]).run prog (w2.setRow N #[x0,x1,x2,x3,x4,x5])=.ok #[x0,x1,x2,x3,x4,x5] (w2.setRow N #[x0,x1,x2,x3,x4,x5]) from
    ⟨st6 hz rfl x0 x1 x2 x3 x4 x5 h1,ld6 (ke w2 N _ #[x0,x1,x2,x3,x4,x5] 67 (0,0) hz)⟩))
 have cl:Ce w0 b 10 (.int .i64 r.e):=aA be.at_ 10;have b7:=ld_rd be;have a3:=mC w0 #[.int .i64 0,.int .i64 0,Sv ⟨#[]⟩,Sv ⟨#[]⟩,.int .i64 0,.int .i64 0,.bool false,.bool false] rfl r;obtain⟨HR,HG,HZ⟩:=h_3 be bl bn;have ce:=f8 (cb.grown bl (.inr rfl));obtain⟨HI,HW,HN⟩:=h_3 hI a9 hN;have aa:=f8 (show N≠b/\b<N/\w.heap.size<=N/\N<w0.heap.size by have:=ltOf bn;omega);clear h hI cb hQ be bl bn a9 hN;by_cases he:r.e=0
 ·have HE:=f8 he;have qe:(r.e==0)=true:=by simp[he]
  have cd:(r.e != 0)=false:=by simp[he]
  clear he;go_enter func107,ntmps107
  go_upto_region 1 with (fail)
  rw[<-HW.o,<-HN.o];go_upto_region 4 with (fail)
  clear b7 a3 cl;obtain⟨T,hT⟩:=xe w0.heap.size
  obtain⟨w1,ay⟩:=xe (w0.alloc (tokO r))
  have bx:IsRd w1 b s r:=by rw[ay];exact HR.alloc _
  have bg:w0.grownBy w1 (some b):=by rw[ay];exact jq _ _ _
  have cc:w1.heap[N]?=some valZ:=by rw[ay];exact aC _ HZ.o
  have a0:w1.heap[T]?=some (tokO r):=by rw[ay,hT];exact ib w0 _
  have b0:=f8 ay;dsimp only[tokO,tokA] at b0;rw[<-b0.o,<-hT];have bo:=f8 bx;have af:=f8 (HG.trans bg);obtain⟨bv,cj⟩:=h_2 cc a0;have a4:=f8 (ce.grown bg (.inr rfl));have cg:=f8 (show T≠b/\T≠N by have:=aa.o;have:=HR.lt;omega);have c0:Ce w1 T 0 (.int .i64 (r.k:Int)):=aA a0 0;have c1:Ce w1 T 1 (.int .i64 (r.p:Int)):=aA a0 1;have c2:Ce w1 T 2 (Sv r.t):=aA a0 2;clear bx bg cc a0 ay hT
  -- the token's kind: may a value begin so?
  obtain⟨bd,ca⟩:=xe (decide ((r.k=0\/r.k=5)/\r.t≠⟨#[91]⟩/\r.t≠⟨#[123]⟩):Bool)
  have b8:=f8 ca;clear ca
  go_upto_block 0 with (fail)
  have bf:=HI.k5;cases bd
  ·have am:=f8 (show ¬ ((r.k=0\/r.k=5)/\r.t≠⟨#[91]⟩/\r.t≠⟨#[123]⟩) from lv b8.symm)
   go_cut [] (λwz=>wz=w1)
   case first =>
    have hk:=am.o;have cf:r.k=1\/r.k=2\/r.k=3\/r.k=4\/((r.k=0\/r.k=5)/\(r.t=⟨#[91]⟩\/r.t=⟨#[123]⟩)):=by
     by_cases b6:r.t=⟨#[91]⟩
     ·by_cases a8:r.k=0\/r.k=5
      ·exact .inr (.inr (.inr (.inr ⟨a8,.inl b6⟩)))
      ·omega
     ·by_cases a7:r.t=⟨#[123]⟩
      ·by_cases a8:r.k=0\/r.k=5
       ·exact .inr (.inr (.inr (.inr ⟨a8,.inr a7⟩)))
       ·omega
      ·by_cases a8:r.k=0\/r.k=5
       ·exact absurd ⟨a8,b6,a7⟩ hk
       ·omega
    clear hk;rcases cf with hk|hk|hk|hk|⟨hk,ht⟩
    ·have k1:((r.k:Int)==1)=true:=by simp;omega
     have k2:((r.k:Int)==2)=false:=by simp;omega
     have k3:((r.k:Int)==3)=false:=by simp;omega
     have k4:((r.k:Int)==4)=false:=by simp;omega
     clear hk;go_wp2
     go_meet
     rfl
    ·have k2:((r.k:Int)==2)=true:=by simp;omega
     clear hk;go_wp2
     go_meet
     rfl
    ·have k2:((r.k:Int)==2)=false:=by simp;omega
     have k3:((r.k:Int)==3)=true:=by simp;omega
     clear hk;go_wp2
     go_meet
     rfl
    ·have k2:((r.k:Int)==2)=false:=by simp;omega
     have k3:((r.k:Int)==3)=false:=by simp;omega
     have k4:((r.k:Int)==4)=true:=by simp;omega
     clear hk;go_wp2
     go_meet
     rfl
    ·have k1:((r.k:Int)==1)=false:=by simp;omega
     have k2:((r.k:Int)==2)=false:=by simp;omega
     have k3:((r.k:Int)==3)=false:=by simp;omega
     have k4:((r.k:Int)==4)=false:=by simp;omega
     clear hk;rcases ht with ht|ht
     ·have b1:=sJ r.t [91] ht;have b2:(r.t.toList != [91])=false:=by rw[bne,b1];rfl
      clear ht;go_wp2
      go_meet
      rfl
     ·have b1:=jT r.t [91] (by rw[ht];intro h;cases h);have b2:(r.t.toList != [91])=true:=by rw[bne,b1];rfl
      have b3:=sJ r.t [123] ht;have b4:(r.t.toList != [123])=false:=by rw[bne,b3];rfl
      clear ht;go_wp2
      go_meet
      rfl
   case rest =>
   obtain⟨wz,bz⟩:=xe wc
   rw[<-bz] at hcut ⊢;clear bz;subst hcut;cases f with
   | zero =>
     have ck:ar=8:=ga
     have qd:(8:Int)<=ar:=ga
     have bt:=f8 (bH b s r r.p 23 wz bo.o);clear ck;go_upto_region 14 with (go_at_call 162;refine bt.mono ?_;rintro e w2 ⟨rfl,h2,au⟩;obtain⟨bi,bu⟩:=h_2 h2 au;have bj:=f8 (aX au bv.o aa.1);clear h2 au)
     obtain⟨an,ab⟩:=ak.o w2 (.int .i64 0) (.int .i64 0) (.int .i64 0) (Sv ⟨#[]⟩) Z0 Z0 gj bj.o;go_wp2;refine ig (v:=.agg #[.int .i64 0,.int .i64 0,.int .i64 0,Sv ⟨#[]⟩,Z0,Z0]) (by simp[results,results107,go_sem,ab]) rfl ?_;have ac:=f8 (show Q=(eS,r.fail r.p 23) by rw[HQ.o];unfold rdV;rw[f9 (by simp[HE.o]),f9 am.o]);rw[ac.o]
     exact⟨⟨0,0,0,⟨#[]⟩,none,0,0,none,0,0⟩,eS,rfl,dT 0 0 gr gr,λ_=>rfl,aI (bi.o) aa.1,aK (af.trans bu.o) N _ aa.2.2.1⟩
   | succ g =>
     have qd:¬ (8:Int)<=ar:=ga
     have bq:0<=ar:=ga
     have bm:ar+1+(g:Int)=8:=ga
     have bs:=f8 (IH g rfl);have b9:=f8 (oQ b s r wz bo.o hs a4.o);obtain⟨ra,bb⟩:=xe (r.adv s)
     rw[<-bb] at b9;have aw:=f8 bb;have bh:=f8 (show RdI s ra by rw[bb];exact mU HI.o);have az:=f8 HI.fit;clear bb c0 c1 c2 bk ci qd
     go_upto_block 1 with (go_at_call 163;refine b9.mono ?_;rintro e w3 ⟨rfl,h3,bc⟩;obtain⟨ah,ag⟩:=h_2 h3 bc;have al:=f8 (aX bc bv.o aa.1);have av:=f8 (aX bc cj.o cg.1);clear h3 bc)
     have ax:=f8 (a4.grown ag.o (.inr rfl));have d0:Ce w3 T 0 (.int .i64 (r.k:Int)):=aA av.o 0;have d2:Ce w3 T 2 (Sv r.t):=aA av.o 2;have d3:Ce w3 T 3 (Sv r.b):=aA av.o 3;have d4:Ce w3 T 4 (.int .i64 r.n):=aA av.o 4;have d5:Ce w3 T 5 (.int .i64 r.sc):=aA av.o 5;have d6:Ce w3 T 6 (.bool r.d):=aA av.o 6;by_cases h2:r.k=2
     ·have H2:=f8 h2;have k2:((r.k:Int)==2)=true:=by simp;omega
      clear h2 bf;obtain⟨dd,br⟩:=xe r.d
      rw[<-br] at d6;have bw:=f8 br;clear br;cases dd
      ·have a6:r.d=false:=bw.symm;have bp:=f8 a6;clear a6;go_wp2_with (go_at_call 165;refine(aHc r.n w3).mono ?_;rintro e w4 ⟨rfl,ae⟩;have ai:=f8 ae;obtain⟨an,ab⟩:=ak.o w4 (.int .i64 2) (.int .i64 r.n) (.int .i64 0) (Sv ⟨#[]⟩) Z0 Z0 gj (aB ae al.o);clear ae)
       refine ig (v:=.agg #[.int .i64 2,.int .i64 r.n,.int .i64 0,Sv ⟨#[]⟩,Z0,Z0]) (by simp[results,results107,go_sem,ab]) rfl ?_;have ac:=f8 (show Q=(.mk 2 r.n 0 ⟨#[]⟩ [] [] [],ra) by rw[HQ.o];unfold rdV;rw[f9 (by simp[HE.o]),f9 am.o];dsimp only;rw[<-aw.o,gw H2.o];rw[bp.o];rfl);rw[ac.o]
       exact⟨⟨2,r.n,0,⟨#[]⟩,none,0,0,none,0,0⟩,(.mk 2 r.n 0 ⟨#[]⟩ [] [] []),rfl,⟨⟨rfl,rfl,rfl,rfl,⟨by simp[I64],az.n,by simp[I64],ii _,(show 0 * 88<=140737488351232 by decide),(show 0 * 104<=140737488351232 by decide),gy _,gy _⟩,rfl,rfl,rfl⟩,.inl rfl,.inl rfl⟩,λ_=>rfl,aI (bN ah.o ai.o ah.lt) aa.1,aK ((af.trans ag.o).trans (aU ai.o (some b))) N _ aa.2.2.1⟩
      ·have a6:r.d=true:=bw.symm;have bp:=f8 a6;clear a6;go_wp2_with (go_at_call 164;refine(aHd r.n (r.sc:Int) w3).mono ?_;rintro e w4 ⟨rfl,ae⟩;have ai:=f8 ae;obtain⟨an,ab⟩:=ak.o w4 (.int .i64 3) (.int .i64 r.n) (.int .i64 r.sc) (Sv ⟨#[]⟩) Z0 Z0 gj (aB ae al.o);clear ae)
       refine ig (v:=.agg #[.int .i64 3,.int .i64 r.n,.int .i64 r.sc,Sv ⟨#[]⟩,Z0,Z0]) (by simp[results,results107,go_sem,ab]) rfl ?_;have ac:=f8 (show Q=(.mk 3 r.n r.sc ⟨#[]⟩ [] [] [],ra) by rw[HQ.o];unfold rdV;rw[f9 (by simp[HE.o]),f9 am.o];dsimp only;rw[<-aw.o,gw H2.o];rw[bp.o];rfl);rw[ac.o]
       exact⟨⟨3,r.n,r.sc,⟨#[]⟩,none,0,0,none,0,0⟩,(.mk 3 r.n r.sc ⟨#[]⟩ [] [] []),rfl,⟨⟨rfl,rfl,rfl,rfl,⟨by simp[I64],az.n,(show I64 (r.sc:Int) from by have:=az.sc;unfold I64;omega),ii _,(show 0 * 88<=140737488351232 by decide),(show 0 * 104<=140737488351232 by decide),gy _,gy _⟩,rfl,rfl,rfl⟩,.inl rfl,.inl rfl⟩,λ_=>rfl,aI (bN ah.o ai.o ah.lt) aa.1,aK ((af.trans ag.o).trans (aU ai.o (some b))) N _ aa.2.2.1⟩
     by_cases h3:r.k=3
     ·obtain⟨H3,H2⟩:=h_2 h3 h2;have k2:((r.k:Int)==2)=false:=by simp;omega
      have k3:((r.k:Int)==3)=true:=by simp;omega
      clear h2 h3 bf;go_wp2_with (go_at_call 166;refine(aEj r.b w3).mono ?_;rintro e w4 ⟨rfl,ae⟩;have ai:=f8 ae;obtain⟨an,ab⟩:=ak.o w4 (.int .i64 4) (.int .i64 0) (.int .i64 0) (Sv r.b) Z0 Z0 gj (aB ae al.o);clear ae)
      refine ig (v:=.agg #[.int .i64 4,.int .i64 0,.int .i64 0,Sv r.b,Z0,Z0]) (by simp[results,results107,go_sem,ab]) rfl ?_;have ac:=f8 (show Q=(.mk 4 0 0 r.b [] [] [],ra) by rw[HQ.o];unfold rdV;rw[f9 (by simp[HE.o]),f9 am.o];dsimp only;rw[<-aw.o,f9 H2.o,gw H3.o]);rw[ac.o]
      exact⟨⟨4,0,0,r.b,none,0,0,none,0,0⟩,(.mk 4 0 0 r.b [] [] []),rfl,⟨⟨rfl,rfl,rfl,rfl,⟨by simp[I64],by simp[I64],by simp[I64],(show r.b.size<=140737488351232 from by have:=az.b;omega),(show 0 * 88<=140737488351232 by decide),(show 0 * 104<=140737488351232 by decide),gy _,gy _⟩,rfl,rfl,rfl⟩,.inl rfl,.inl rfl⟩,λ_=>rfl,aI (bN ah.o ai.o ah.lt) aa.1,aK ((af.trans ag.o).trans (aU ai.o (some b))) N _ aa.2.2.1⟩
     by_cases h4:r.k=4
     ·obtain⟨H4,H3,H2⟩:=h_3 h4 h3 h2;have k2:((r.k:Int)==2)=false:=by simp;omega
      have k3:((r.k:Int)==3)=false:=by simp;omega
      have k4:((r.k:Int)==4)=true:=by simp;omega
      clear h2 h3 h4 bf;go_wp2_with (go_at_call 167;refine(aCm r.b w3).mono ?_;rintro e w4 ⟨rfl,ae⟩;have ai:=f8 ae;obtain⟨an,ab⟩:=ak.o w4 (.int .i64 5) (.int .i64 0) (.int .i64 0) (Sv r.b) Z0 Z0 gj (aB ae al.o);clear ae)
      refine ig (v:=.agg #[.int .i64 5,.int .i64 0,.int .i64 0,Sv r.b,Z0,Z0]) (by simp[results,results107,go_sem,ab]) rfl ?_;have ac:=f8 (show Q=(.mk 5 0 0 r.b [] [] [],ra) by rw[HQ.o];unfold rdV;rw[f9 (by simp[HE.o]),f9 am.o];dsimp only;rw[<-aw.o,f9 H2.o,f9 H3.o,gw H4.o]);rw[ac.o]
      exact⟨⟨5,0,0,r.b,none,0,0,none,0,0⟩,(.mk 5 0 0 r.b [] [] []),rfl,⟨⟨rfl,rfl,rfl,rfl,⟨by simp[I64],by simp[I64],by simp[I64],(show r.b.size<=140737488351232 from by have:=az.b;omega),(show 0 * 88<=140737488351232 by decide),(show 0 * 104<=140737488351232 by decide),gy _,gy _⟩,rfl,rfl,rfl⟩,.inl rfl,.inl rfl⟩,λ_=>rfl,aI (bN ah.o ai.o ah.lt) aa.1,aK ((af.trans ag.o).trans (aU ai.o (some b))) N _ aa.2.2.1⟩
     obtain⟨H4,H3,H2⟩:=h_3 h4 h3 h2;have k2:((r.k:Int)==2)=false:=by simp;omega
     have k3:((r.k:Int)==3)=false:=by simp;omega
     have k4:((r.k:Int)==4)=false:=by simp;omega
     clear h2 h3 h4 bf d3 d4 d5 d6;have co:=ag.size;by_cases h5:r.t=⟨#[91]⟩
     ·have H5:=f8 h5;have b1:=sJ r.t [91] h5;clear h5;have ad:=f8 (aKs g bs.o b s ra ar w3 ah.o bh.o hs ax.o bm bq);have ac:=f8 (show Q=(.mk 8 0 0 ⟨#[]⟩ (dN s (rdV s g) (ra.mu s+1) true ra []).1 [] [],(dN s (rdV s g) (ra.mu s+1) true ra []).2.expect s ⟨#[93]⟩) by rw[HQ.o];unfold rdV;rw[f9 (by simp[HE.o]),f9 am.o];dsimp only;rw[<-aw.o,f9 H2.o,f9 H3.o,f9 H4.o,gw H5.o]);rw[<-ac.o] at ad
      go_wp2_with (go_at_call 168;refine ad.mono ?_;rintro e w4 ⟨c4,d4,rfl,aq,ao,ap,aj⟩;obtain⟨a1,ba,a2,a5⟩:=h_4 aq ao ap aj;obtain⟨an,ab⟩:=ak.o w4 (.int .i64 c4.k) (.int .i64 c4.i) (.int .i64 c4.s) (Sv c4.t) (Sl c4.la c4.ll c4.lc) (Sl c4.fa c4.fl c4.fc) gj (aX aj al.o aa.1);clear aq ao ap aj)
      refine ig (v:=c4.v) (by simp[results,results107,go_sem,ab]) rfl ?_;have b5:=ltOf al.o;exact⟨c4,d4,rfl,a1.same λi hi=>⟨⟨by have:=(af.trans ag.o).size;omega,by rw[ky];exact hi.2⟩,ko w4 N i _ ga⟩,ba.o,aI a2.o aa.1,aK ((af.trans ag.o).trans a5.o) N _ aa.2.2.1⟩
     by_cases h6:r.t=⟨#[123]⟩
     ·obtain⟨H5,H6⟩:=h_2 h5 h6;have b1:=jT r.t [91] h5;have b3:=sJ r.t [123] h6;clear h5 h6;have ad:=f8 (aE1 g bs.o b s ra ar w3 ah.o bh.o hs ax.o bm bq);have ac:=f8 (show Q=(aH1 (fY s (rdV s g) (ra.mu s+1) true ra []).1,(fY s (rdV s g) (ra.mu s+1) true ra []).2.expect s ⟨#[125]⟩) by rw[HQ.o];unfold rdV;rw[f9 (by simp[HE.o]),f9 am.o];dsimp only;rw[<-aw.o,f9 H2.o,f9 H3.o,f9 H4.o,f9 H5.o,gw H6.o]);rw[<-ac.o] at ad
      go_wp2_with (go_at_call 169;refine ad.mono ?_;rintro e w4 ⟨c4,d4,rfl,aq,ao,ap,aj⟩;obtain⟨a1,ba,a2,a5⟩:=h_4 aq ao ap aj;obtain⟨an,ab⟩:=ak.o w4 (.int .i64 c4.k) (.int .i64 c4.i) (.int .i64 c4.s) (Sv c4.t) (Sl c4.la c4.ll c4.lc) (Sl c4.fa c4.fl c4.fc) gj (aX aj al.o aa.1);clear aq ao ap aj)
      refine ig (v:=c4.v) (by simp[results,results107,go_sem,ab]) rfl ?_;have b5:=ltOf al.o;exact⟨c4,d4,rfl,a1.same λi hi=>⟨⟨by have:=(af.trans ag.o).size;omega,by rw[ky];exact hi.2⟩,ko w4 N i _ ga⟩,ba.o,aI a2.o aa.1,aK ((af.trans ag.o).trans a5.o) N _ aa.2.2.1⟩
     obtain⟨H5,H6⟩:=h_2 h5 h6;have b1:=jT r.t [91] h5;have b3:=jT r.t [123] h6;have cm:=lT av.o;clear h5 h6;have ad:=f8 (aHb g bs.o b s r ra ar w3 ah.o bh.o az.o hs ax.o bm bq);have ac:=f8 (show Q=sW s g r ra by rw[HQ.o,namF_eq s g r (by simp[HE.o]) am.o H2.o H3.o H4.o H5.o H6.o,<-aw.o]);rw[<-ac.o] at ad
     go_wp2_with (go_at_call 170;refine ad.mono ?_;rintro e w4 ⟨c4,d4,rfl,aq,ao,ap,aj⟩;obtain⟨a1,ba,a2,a5⟩:=h_4 aq ao ap aj;obtain⟨an,ab⟩:=ak.o w4 (.int .i64 c4.k) (.int .i64 c4.i) (.int .i64 c4.s) (Sv c4.t) (Sl c4.la c4.ll c4.lc) (Sl c4.fa c4.fl c4.fc) gj (aX aj al.o aa.1);clear aq ao ap aj)
     refine ig (v:=c4.v) (by simp[results,results107,go_sem,ab]) rfl ?_;have b5:=ltOf al.o;exact⟨c4,d4,rfl,a1.same λi hi=>⟨⟨by have:=(af.trans ag.o).size;omega,by rw[ky];exact hi.2⟩,ko w4 N i _ ga⟩,ba.o,aI a2.o aa.1,aK ((af.trans ag.o).trans a5.o) N _ aa.2.2.1⟩
  ·have hb:=ld b8.symm;have k1:((r.k:Int)==1)=false:=by simp;omega
   have k2:((r.k:Int)==2)=false:=by simp;omega
   have k3:((r.k:Int)==3)=false:=by simp;omega
   have k4:((r.k:Int)==4)=false:=by simp;omega
   have b1:=jT r.t [91] hb.2.1;have b2:(r.t.toList != [91])=true:=by rw[bne,b1];rfl
   have b3:=jT r.t [123] hb.2.2;have b4:(r.t.toList != [123])=true:=by rw[bne,b3];rfl
   have ch:=f8 hb;have bt:=f8 (bH b s r r.p 13 w1 bo.o);clear hb;go_upto_region 7 with (go_at_call 162;refine bt.mono ?_;rintro e w2 ⟨rfl,h2,au⟩;obtain⟨bi,bu⟩:=h_2 h2 au;have bj:=f8 (aX au bv.o aa.1);clear h2 au)
   obtain⟨an,ab⟩:=ak.o w2 (.int .i64 0) (.int .i64 0) (.int .i64 0) (Sv ⟨#[]⟩) Z0 Z0 gj bj.o;go_wp2;refine ig (v:=.agg #[.int .i64 0,.int .i64 0,.int .i64 0,Sv ⟨#[]⟩,Z0,Z0]) (by simp[results,results107,go_sem,ab]) rfl ?_;have ac:=f8 (show Q=(eS,r.fail r.p 13) by rw[HQ.o];unfold rdV;rw[f9 (by simp[HE.o]),gw ch.o]);rw[ac.o]
   exact⟨⟨0,0,0,⟨#[]⟩,none,0,0,none,0,0⟩,eS,rfl,dT 0 0 gr gr,λ_=>rfl,aI (bi.o) aa.1,aK (af.trans bu.o) N _ aa.2.2.1⟩
 ·have HE:=f8 he;have qe:(r.e==0)=false:=by simp[he]
  have cd:(r.e != 0)=true:=by simp[he]
  clear he b7 a3;go_enter func107,ntmps107
  go_upto_region 1 with (fail)
  rw[<-HW.o,<-HN.o];obtain⟨an,ab⟩:=ak.o w0 (.int .i64 0) (.int .i64 0) (.int .i64 0) (Sv ⟨#[]⟩) Z0 Z0 gj HZ.o;go_wp2;refine ig (v:=.agg #[.int .i64 0,.int .i64 0,.int .i64 0,Sv ⟨#[]⟩,Z0,Z0]) (by simp[results,results107,go_sem,ab]) rfl ?_;have ac:=f8 (show Q=(eS,r) by rw[HQ.o,aCg s f r HE.o]);rw[ac.o];exact⟨⟨0,0,0,⟨#[]⟩,none,0,0,none,0,0⟩,eS,rfl,dT 0 0 gr gr,λ_=>rfl,aI (HR.o) aa.1,aK (HG.o) N _ aa.2.2.1⟩
end
theorem vG:∀f:Nat,f<=8->aJf f
 | 0,h=>vF 0 h (λg hg=>absurd hg ga)
 | f+1,h=>vF (f+1) h (λg hg=>by
   have e:g=f:=ga
   rw[e];exact vG f ga)
end
end Go.Proofs.YtoodnaghjpkjfaaGreatDoor
