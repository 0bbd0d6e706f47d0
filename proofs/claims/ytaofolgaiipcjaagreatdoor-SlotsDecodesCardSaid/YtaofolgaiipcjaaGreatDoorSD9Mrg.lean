/- A part. -/
import Derived.Test.YtaofolgaiipcjaaGreatDoorSD6Mrg
import Derived.Test.YtaofolgaiipcjaaGreatDoorSD8Mrg
import Derived.Tactics2
namespace Go.Proofs.YtaofolgaiipcjaaGreatDoor
set_option linter.unusedVariables false
set_option maxRecDepth 100000
set_option maxHeartbeats 16000000
set_option linter.unusedSimpArgs false
section
open Go Go.RowKit Go.Shelf
/-! ### valid values -/
mutual
def Fine:Nat→Val→Prop
 | f,.mk k i s t l ns fs=>(∃g,f=g+1)∧yL (.mk k i s t l ns fs)∧usesV (.mk k i s t l ns fs)=true∧ns.length=fs.length∧FineL (f-1) l∧FineL (f-1) fs
def FineL:Nat→List Val→Prop
 | _,[]=>True
 | f,d :: l=>Fine f d∧FineL f l
end
mutual
def Named:Val→Prop
 | .mk k i s t l ns fs=>ns.length=fs.length∧NamedL l∧NamedL fs
def NamedL:List Val→Prop
 | []=>True
 | d :: l=>Named d∧NamedL l
end
end
section
open Go Go.RowKit Go.Shelf
end
section
open Go Go.RowKit
def jDz (w:World) (e:Ending) (w':World):Prop:=∃k:Int,e=.returned (.int .i64 k)∧w=w'
theorem len64_0 (w:World):Calls Tryz.prog 334 #[.int .u64 0] w (jDz w):=by
 go_enter Tryz.func334,Tryz.ntmps334
 go_wp2;go_ret;exact⟨_,rfl,rfl⟩
theorem len64_1 (w:World):Calls Tryz.prog 334 #[.int .u64 1] w (jDz w):=by
 go_enter Tryz.func334,Tryz.ntmps334
 go_wp2;go_ret;exact⟨_,rfl,rfl⟩
theorem len_0 (w:World):Calls Tryz.prog 348 #[.int .u64 0] w (jDz w):=by
 go_enter Tryz.func348,Tryz.ntmps348
 go_wp2_with (go_at_call 334;refine(len64_0 _).mono ?_;rintro e w' ⟨k,rfl,rfl⟩)
 go_ret;exact⟨k,rfl,rfl⟩
theorem len_1 (w:World):Calls Tryz.prog 348 #[.int .u64 1] w (jDz w):=by
 go_enter Tryz.func348,Tryz.ntmps348
 go_wp2_with (go_at_call 334;refine(len64_1 _).mono ?_;rintro e w' ⟨k,rfl,rfl⟩)
 go_ret;exact⟨k,rfl,rfl⟩
theorem jMd (a:Option Addr) (n c:Nat) (v:Value) (w:World) (hn:n≤1):Calls Tryz.prog 359 #[.slice a n c,.int .i64 0,.int .i64 n,v] w fun e w'=>e=.returned (.tuple #[])∧w=w':=by
 have h1:¬ (1:Int)<(n:Int):=by omega
 go_enter Tryz.func359,Tryz.ntmps359
 go_wp2
 go_loopw [8] (fun i wr=>i=.int .i64 1∧wr=w) (fun _ _=>0)
 case atStart=>exact⟨rfl,rfl⟩
 case round =>
  obtain⟨rfl,rfl⟩:=hrel;go_wp2
  go_end0
  exact⟨rfl,rfl⟩
theorem jF2 (a:Option Addr) (n c:Nat) (k:Int) (v:Value) (w:World) (hn:n≤1):Calls Tryz.prog 347 #[.slice a n c,.int .i64 0,.int .i64 n,.int .i64 k,v] w fun e w'=>e=.returned (.tuple #[])∧w=w':=by
 have h1:(n:Int)≤12:=by omega
 have HI:=hid (jMd a n c v w hn);go_enter Tryz.func347,Tryz.ntmps347
 go_wp2
 go_loopw [1,2] (fun p q wr=>p=.int .i64 0∧q=.int .i64 n∧wr=w) (fun _ _ _=>0)
 case atStart=>exact⟨rfl,rfl,rfl⟩
 case round =>
  obtain⟨rfl,rfl,rfl⟩:=hrel;go_wp2_with (go_at_call 359;refine HI.out.mono ?_;rintro e w' ⟨rfl,rfl⟩)
  (try simp only[Exit.inBlock,Exit.then])
  refine bodyPost_ret (results_none rfl _ _ _) rfl ?_;exact⟨rfl,rfl⟩
theorem jGh (a:Option Addr) (c:Nat) (v:Value) (w:World):Calls Tryz.prog 319 #[.slice a 0 c,v] w fun e w'=>e=.returned (.tuple #[])∧w=w':=by
 have HP:=hid (fun k=>jF2 a 0 c k v w (by omega));go_enter Tryz.func319,Tryz.ntmps319
 go_wp2_with (first
  | (go_at_call 348;refine(len_0 _).mono ?_;rintro e w' ⟨k,rfl,rfl⟩)
  | (go_at_call 347;refine(HP.out _).mono ?_;rintro e w' ⟨rfl,rfl⟩))
 go_end0
 exact⟨rfl,rfl⟩
theorem jGg (a:Option Addr) (c:Nat) (v:Value) (w:World):Calls Tryz.prog 319 #[.slice a 1 c,v] w fun e w'=>e=.returned (.tuple #[])∧w=w':=by
 have HP:=hid (fun k=>jF2 a 1 c k v w (by omega));go_enter Tryz.func319,Tryz.ntmps319
 go_wp2_with (first
  | (go_at_call 348;refine(len_1 _).mono ?_;rintro e w' ⟨k,rfl,rfl⟩)
  | (go_at_call 347;refine(HP.out _).mono ?_;rintro e w' ⟨rfl,rfl⟩))
 go_end0
 exact⟨rfl,rfl⟩
end
section
open Go Go.RowKit Go.Shelf Go.Sort
instance:Inhabited (ByteArray × VC):=⟨(ByteArray.empty,⟨0,0,0,ByteArray.empty,none,0,0,none,0,0⟩)⟩
def cfF (x y:ByteArray × VC):Int:=Lib.compareBytes x.1.data.toList y.1.data.toList
theorem cfF_swo:SWO (Go.Proofs.ltOf cfF) where
 irrefl x:=by unfold Go.Proofs.ltOf cfF;rw[jFy];rfl
 trans x y z h1 h2:=by
  unfold Go.Proofs.ltOf cfF at *;have t:=jAk x.1.data.toList y.1.data.toList z.1.data.toList;have g1:=xX x.1.data.toList y.1.data.toList;have g2:=xX y.1.data.toList z.1.data.toList;have g3:=xX x.1.data.toList z.1.data.toList;simp only[decide_eq_true_eq] at *;unfold Tri Sg at *;omega
 ntrans x y z h1 h2:=by
  unfold Go.Proofs.ltOf cfF at *;have t:=jAk x.1.data.toList y.1.data.toList z.1.data.toList;simp only[decide_eq_false_iff_not] at *;unfold Tri at t;omega
theorem jHn (x y:ByteArray × VC) (W:World):Calls Tryz.prog 320 #[.agg (FC.cs x).toArray,.agg (FC.cs y).toArray] W fun e w'=>e=.returned (.int .i64 (cfF x y))∧∃q os',w'=grow (W.drewN q) os':=by
 have hcon:=fun W'=>Tryz.strings_Compare x.1 y.1 W';unfold cfF;generalize Lib.compareBytes x.1.data.toList y.1.data.toList=r at hcon ⊢;obtain⟨xn,xc⟩:=x;obtain⟨yn,yc⟩:=y;dsimp only[FC.cs,VC.cs] at hcon ⊢;go_enter Tryz.func320,Tryz.ntmps320
 go_wp2_with (go_at_call 176;refine(hcon _).mono ?_;rintro e w' ⟨rfl,rfl⟩)
 go_ret;exact⟨rfl,0,_,by rw[alloc_eq_grow,alloc_eq_grow,grow_grow];rfl⟩
theorem jFn (d:Array (ByteArray × VC)) (t:Nat) (h:t<d.size * 7):(flatK FC.cs 7 d)[t]?=(d.toList.flatMap FC.cs)[t]?:=by
 have hq:t / 7<d.toList.length:=by simp;omega
 have h1:=yN FC.cs 7 FC.cs_len d.toList (t / 7) (t % 7) hq (by omega);rw[show t / 7 * 7+t % 7=t by omega] at h1;rw[h1];have e:=get_flatK FC.cs 7 d t h;rw[getElem!_pos (flatK FC.cs 7 d) t (by simp;omega)] at e;rw[Array.getElem?_eq_getElem (by simp;omega),e];have e2:d[t / 7]! = d.toList[t / 7]:=by rw[getElem!_pos d _ (by simpa using hq)];simp
 rw[e2];have hl:t % 7<(FC.cs d.toList[t / 7]).length:=by rw[FC.cs_len];omega
 rw[getElem!_pos (FC.cs d.toList[t / 7]) (t % 7) hl,List.getElem?_eq_getElem hl]
theorem jFm (cs:List (ByteArray × VC)):(cs.flatMap FC.cs).length=cs.length * 7:=by
 induction cs with
 | nil=>rfl
 | cons c cs ih=>rw[List.flatMap_cons,List.length_append,ih,FC.cs_len,List.length_cons];omega
theorem jKd (d:Array (ByteArray × VC)):(flatK FC.cs 7 d).toList=d.toList.flatMap FC.cs:=by
 apply List.ext_getElem?;intro t;by_cases h:t<d.size * 7
 ·rw[Array.getElem?_toList];exact jFn d t h
 ·rw[List.getElem?_eq_none (by simp;omega),List.getElem?_eq_none (by rw[jFm];simp;omega)]
theorem heap_srt {w:World} {g n:Nat} {os:Array Obj} {cur:Array Value} {e:TypeId} {fr:Nat × Nat} (F:Array Value) (hb:w.heap[g]?=some (.cells cur e fr)) :
 (grow (putRow id (Sort.ahead w n) g 0 F) os).heap[g]?=some (.cells (putCells id 0 F cur) e fr):=by
 have hg:g<w.heap.size:=(Array.getElem?_eq_some_iff.1 hb).1;rw[heap_grow_old _ _ (by simpa using hg)];simp[putRow,mapBlock,Sort.ahead,Array.getElem?_modify,hb,onCells]
theorem jMi {w:World} {g n:Nat} {os:Array Obj} (F:Array Value):w.grownBy (grow (putRow id (Sort.ahead w n) g 0 F) os) (some g):=by
 refine⟨rfl,rfl,rfl,by simp,fun k hk hne=>?_⟩;rw[heap_grow_old _ _ (by simpa using hk)];have:g≠k:=fun e=>hne (by rw[e]);simp[putRow,mapBlock,Sort.ahead,Array.getElem?_modify,this]
theorem take_srt (cur F:Array Value) (h:F.size≤cur.size):(putCells id 0 F cur).toList.take F.size=F.toList:=by
 apply List.ext_getElem?;intro j;by_cases hj:j<F.size
 ·rw[List.getElem?_take_of_lt hj,Array.getElem?_toList,Array.getElem?_toList];simp[putCells,hj,show j<cur.size by omega]
 ·rw[List.getElem?_take_eq_none (by omega),List.getElem?_eq_none (by simp;omega)]
theorem zip_perm {α β:Type} {a b:List α} (h:a.Perm b):∀xs:List β,xs.length=a.length→∃ys:List β,ys.length=b.length∧(a.zip xs).Perm (b.zip ys):=by
 induction h with
 | nil=>intro xs _;exact⟨[],rfl,by simp⟩
 | cons x h ih =>
   intro xs hx;cases xs with
   | nil=>simp at hx
   | cons y xs =>
     obtain⟨ys,h1,h2⟩:=ih xs (by simpa using hx);exact⟨y :: ys,by simp[h1],by simpa using h2⟩
 | swap x y l =>
   intro xs hx
   match xs,hx with
   | u :: v :: xs,hx=>exact⟨v :: u :: xs,by simpa using hx,by simpa using List.Perm.swap _ _ _⟩
 | trans h1 h2 ih1 ih2 =>
   intro xs hx;obtain⟨ys,a1,a2⟩:=ih1 xs hx;obtain⟨zs,b1,b2⟩:=ih2 ys a1;exact⟨zs,b1,a2.trans b2⟩
def SrtPost (T B:Nat) (w:World) (g cap k:Nat) (ns:List ByteArray) (l:List Val) (e:Ending) (w':World):Prop:=e=.returned (.tuple #[])∧∃(ns':List ByteArray) (l':List Val),ns'.length=k∧l'.length=k∧(ns.zip l).Perm (ns'.zip l')∧(ns'.zip l').Pairwise (fun a b=>leN a.1 b.1=true)∧BuiltF T B w' (.slice (some ⟨g,0,none⟩) k cap) k ns' l'∧w.grownBy w' (some g)
theorem jLb (T B:Nat) (w:World) (g cap k:Nat) (ns:List ByteArray) (l:List Val) (hb:BuiltF T B w (.slice (some ⟨g,0,none⟩) k cap) k ns l) (hk:l.length=k) (hn:ns.length=k) (hbig:k≤1000000) :
 Calls Tryz.prog 319 #[.slice (some ⟨g,0,none⟩) k cap,.func (.func 320) #[] #[]] w (SrtPost T B w g cap k ns l):=by
 obtain⟨cs,hcs,hown,hel⟩:=hb;rcases hown.2 with ⟨h0,_⟩ | ⟨g',cap',cur,hv,hB,hg,hnc,hcm,hcz,htk⟩
 ·cases h0
 obtain⟨rfl,rfl⟩:g'=g∧cap'=cap:=by cases hv;exact⟨rfl,rfl⟩
 obtain⟨d,hd⟩:∃d:Array (ByteArray × VC),d=cs.toArray:=⟨_,rfl⟩
 have hds:d.size=k:=by rw[hd];simpa using hcs
 have hdl:d.toList=cs:=by rw[hd]
 have hH:HoldsK FC.cs 7 w g' 0 d:=by
  intro j hj;have hj7:j<k * 7:=by simp[hds] at hj;exact hj
  refine⟨?_,by simp[World.frozen?,hg]⟩;have h1:=hown.cellAt j hj7;rw[Nat.zero_add,h1];have h2:=jFn d j (by rw[hds];exact hj7);rw[hdl] at h2;rw[←h2,Array.getElem?_eq_getElem (by simp[hds];exact hj7),getElem!_pos _ _ (by simp[hds];exact hj7)];rfl
 have eg:∀args w,(callFunc 320 args).run Tryz.prog w=.ok (.enter 320 args) w:=enters_of Tryz.func320 (by kernel_rfl) rfl;have hone:∀x:ByteArray × VC,∀v∈FC.cs x,v.oneCell'=true:=by
  intro x v hv;simp[FC.cs,VC.cs] at hv;rcases hv with rfl | rfl | rfl | rfl | rfl | rfl | rfl<;>rfl
 have hcon:=Tryz.slices_SortFunc_fld FC.cs FC.cs_len hone cfF cfF_swo 320 #[] g' 0 cap' d w eg (fun _ _ _ _ x y=>by simpa using jHn x y _) hH (ltOf hg) (by rw[hds];omega);rw[hds] at hcon;refine hcon.mono ?_;rintro e w' ⟨rfl,d',n,os,hp,hso,rfl⟩;refine⟨rfl,?_⟩;have hd's:d'.size=k:=by rw[hp.1,hds]
 have hperm:d'.toList.Perm cs:=by
  have h:=hp.2.2;have e1:d'.extract 0 k=d':=by rw[←hd's];simp
  have e2:d.extract 0 k=d:=by rw[←hds];simp
  rw[e1,e2,hdl] at h;exact h
 obtain⟨xs,hxl,hxp⟩:=zip_perm hperm.symm (ns.zip l) (by simp[hn,hk,hcs]);have hd'l:d'.toList.length=k:=by simpa using hd's
 have hxk:xs.length=k:=by rw[hxl,hd'l]
 have hgr:=jMi (w:=w) (g:=g') (n:=n) (os:=os) (flatK FC.cs 7 d');have hmem:∀j (h:j<k),∃i,∃(hi:i<k),d'.toList[j]'(by omega)=cs[i]'(by omega)∧(xs[j]'(by omega)).1=ns[i]'(by omega)∧(xs[j]'(by omega)).2=l[i]'(by omega):=by
  intro j h;have hm:(d'.toList[j]'(by omega),xs[j]'(by omega))∈d'.toList.zip xs:=by
   rw[List.mem_iff_getElem];exact⟨j,by simp[hd's,hxk,h],by simp⟩
  have hm2:=hxp.symm.mem_iff.1 hm;obtain⟨i,hi,he⟩:=List.mem_iff_getElem.1 hm2;have hi':i<k:=by simp[hcs,hn,hk] at hi;exact hi
  simp only[List.getElem_zip,Prod.mk.injEq] at he;refine⟨i,hi',he.1.symm,?_,?_⟩
  ·rw[←he.2]
  ·rw[←he.2]
 have hz:(xs.map (·.1)).zip (xs.map (·.2))=xs:=by
  apply List.ext_getElem
  ·simp
  ·intro i h1 h2;simp
 have hsub:∀i,B≤i∧i<w.heap.size∧some i≠(Value.slice (some ⟨g',0,none⟩) k cap').ownBlock→(B≤i∧i<(sortWorldK FC.cs 7 w g' 0 n d' os).heap.size∧some i≠(Value.slice (some ⟨g',0,none⟩) k cap').ownBlock)∧(sortWorldK FC.cs 7 w g' 0 n d' os).heap[i]?=w.heap[i]?:=fun i hi=>⟨⟨hi.1,Nat.lt_of_lt_of_le hi.2.1 hgr.size,hi.2.2⟩,hgr.block i hi.2.1 hi.2.2⟩
 refine⟨xs.map (·.1),xs.map (·.2),by simpa using hxk,by simpa using hxk,?_,?_,⟨d'.toList,hd'l,⟨?_,.inr ⟨g',cap',_,rfl,hB,heap_srt _ hg,hnc,hcm,by simp[putCells,hcz],?_⟩⟩,?_⟩,hgr⟩
 ·rw[hz];have h:=hxp.map (·.2);rw[List.map_snd_zip (by simp[hn,hk,hcs]),List.map_snd_zip (by omega)] at h;exact h
 ·rw[hz,List.pairwise_iff_getElem];intro i j hi hj hij;have h:=hso i j (Nat.zero_le _) hij (by omega);obtain⟨i1,_,a1,a2,_⟩:=hmem i (by omega);obtain⟨j1,_,b1,b2,_⟩:=hmem j (by omega);have ei:d'[i]! = d'.toList[i]'(by omega):=by rw[getElem!_pos d' i (by omega)];simp
  have ej:d'[j]! = d'.toList[j]'(by omega):=by rw[getElem!_pos d' j (by omega)];simp
  rw[ei,ej,a1,b1] at h;unfold Go.Proofs.ltOf cfF at h;have n1:=(hel i1 (by omega) (by omega) (by omega)).1;have n2:=(hel j1 (by omega) (by omega) (by omega)).1;rw[n1,n2,←a2,←b2] at h;have han:=yS (xs[i]).1.data.toList (xs[j]).1.data.toList;unfold leN;simp only[decide_eq_false_iff_not,decide_eq_true_eq] at *;omega
 ·rw[jFm,hd'l]
 ·have h1:=take_srt cur (flatK FC.cs 7 d') (by simp[hd's,hcz];omega);rw[jKd] at h1;have:(flatK FC.cs 7 d').size=k * 7:=by simp[hd's]
  rw[this] at h1;exact h1
 ·intro j hj hj' hjn;obtain⟨i,hi,a1,a2,a3⟩:=hmem j (by omega);have h:=hel i (by omega) (by omega) (by omega);simp only[List.getElem_map];rw[a1,a2,a3];exact⟨h.1,h.2.same hsub⟩
/-! ### the sorted fields are the law's -/
theorem jCa {α:Type} {le:α→α→Bool}:∀{l1 l2:List α},l1.Perm l2→l1.Pairwise (fun a b=>le a b=true)→l2.Pairwise (fun a b=>le a b=true)→(∀a∈l1,∀b∈l1,le a b=true→le b a=true→a=b)→l1=l2
 | [],l2,h,_,_,_=>(List.nil_perm.1 h).symm
 | a :: t,[],h,_,_,_=>by have:=h.length_eq;simp at this
 | a :: t,b :: s,h,h1,h2,ha=>by
   obtain⟨p1,p2⟩:=List.pairwise_cons.1 h1;obtain⟨q1,q2⟩:=List.pairwise_cons.1 h2;have e:a=b:=by
    have hb:b∈a :: t:=h.symm.mem_iff.1 (List.mem_cons_self ..);have ha':a∈b :: s:=h.mem_iff.1 (List.mem_cons_self ..);rcases List.mem_cons.1 hb with hb | hb
    ·exact hb.symm
    ·rcases List.mem_cons.1 ha' with ha' | ha'
     ·exact ha'
     ·exact ha a (List.mem_cons_self ..) b (List.mem_cons_of_mem _ hb) (p1 b hb) (q1 a ha')
   subst e;rw[jCa ((List.perm_cons a).1 h) p2 q2 (fun x hx y hy=>ha x (List.mem_cons_of_mem _ hx) y (List.mem_cons_of_mem _ hy))]
theorem jM9 (a b c:ByteArray × Val) (h1:leN a.1 b.1=true) (h2:leN b.1 c.1=true):leN a.1 c.1=true:=by
 unfold leN at *;have t:=jAk a.1.data.toList b.1.data.toList c.1.data.toList;simp only[decide_eq_true_eq] at *;unfold Tri at t;omega
theorem jMa (a b:ByteArray × Val):(leN a.1 b.1||leN b.1 a.1)=true:=by
 unfold leN;have h:=yS a.1.data.toList b.1.data.toList;simp only[Bool.or_eq_true,decide_eq_true_eq];omega
theorem jLr {l:List (ByteArray × Val)} (h:(l.map (·.1)).Nodup):∀a∈l,∀b∈l,a.1=b.1→a=b:=by
 induction l with
 | nil=>intro a ha;cases ha
 | cons c l ih =>
   rw[List.map_cons,List.nodup_cons] at h;intro a ha b hb e;rcases List.mem_cons.1 ha with ha1 | ha1
   ·rcases List.mem_cons.1 hb with hb1 | hb1
    ·rw[ha1,hb1]
    ·exact absurd (List.mem_map.2 ⟨b,hb1,by rw[←e,ha1]⟩) h.1
   ·rcases List.mem_cons.1 hb with hb1 | hb1
    ·exact absurd (List.mem_map.2 ⟨a,ha1,by rw[e,hb1]⟩) h.1
    ·exact ih h.2 a ha1 b hb1 e
theorem jEy {acc:List (ByteArray × Val)} {ns:List ByteArray} {l:List Val} (hl:ns.length=l.length) (hp:acc.Perm (ns.zip l)) (hs:(ns.zip l).Pairwise (fun a b=>leN a.1 b.1=true)) (hnd:(acc.map (·.1)).Nodup):recV acc=.mk 9 0 0 ⟨#[]⟩ [] ns l:=by
 have hm:acc.mergeSort (fun a b=>leN a.1 b.1)=ns.zip l:=by
  refine jCa (le:=fun a b:ByteArray × Val=>leN a.1 b.1) ((List.mergeSort_perm acc _).trans hp) (List.pairwise_mergeSort (fun a b c=>jM9 a b c) jMa acc) hs ?_;intro a ha b hb h1 h2;rw[List.mem_mergeSort] at ha hb;refine jLr hnd a ha b hb ?_;unfold leN at h1 h2;have h:=yS a.1.data.toList b.1.data.toList;simp only[decide_eq_true_eq] at h1 h2;exact ByteArray.ext (Array.ext' (jFx (by omega)))
 unfold recV;rw[hm];dsimp only;rw[List.map_fst_zip (by omega),List.map_snd_zip (by omega)]
end
end Go.Proofs.YtaofolgaiipcjaaGreatDoor
