/- A part. -/
import Derived.Test.YteladbdfiannjaaGreatDoorSX37Mrg
import Derived.Test.YteladbdfiannjaaGreatDoorSX38Mrg
namespace Go.Proofs.YteladbdfiannjaaGreatDoor
set_option linter.unusedVariables false
set_option maxRecDepth 100000
set_option maxHeartbeats 64000000
set_option linter.unusedSimpArgs false
section
open Go Go.RowKit
theorem fX {W:World} {g B:Nat} (hg:W.heap[g]?=some (.cells #[] 3)) (hB:B≤g) {S:Nat→Prop} {a:Option Addr} {n c:Nat} {xs:List Int} (h:IsInts S W a n c xs) (k:Nat) (hk:k≤n) (h6:k≤1000) (ty:TypeId) :
 ∃a' cap' w',(Builtin.append_ #[40,40] ty #[.slice (some ⟨g,0,none⟩) 0 0,.slice a k c]).run Tryz.prog W=.ok (.slice a' k cap') w'∧IsInts (fun b=>B≤b∧b<w'.heap.size∧(b=g∨W.heap.size≤b)) w' a' k cap' (xs.take k)∧W.grownBy w' (some g):=by
 obtain⟨ti,hi,hz0,hz1,hz2⟩:=info_parts nO
 have hgl:=bT hg
 have hkm:Kept intK 3 B W (.slice (some ⟨g,0,none⟩) 0 0) 0 []:=⟨[],rfl,rfl,⟨rfl,.inr ⟨g,0,#[],rfl,hB,hg,Nat.le_refl _,Nat.zero_le _,rfl,rfl⟩⟩,fun j h=>absurd h (by simp)⟩
 have hl:=h.len
 obtain⟨a',cap',w',hr,hk',hgr,ho⟩:=iT (P:=Tryz.prog) (K:=intK) (ty:=ty) Tryz.underlying40 hi hz0 hz1 (by omega) (by rfl) (by intro x u hu;simp at hu;subst hu;rfl) hkm c (l2:=xs.take k) (h.cl k hk) (by rw[List.length_take];omega) (fun j h1 h2=>⟨rfl,h.rng _ (List.mem_of_mem_take (List.getElem_mem h1))⟩) (by omega) (by omega)
 rw[Nat.zero_add,List.nil_append] at hk'
 rw[Nat.zero_add] at hr ho
 have hi':=qJ hk' h6
 refine⟨a',cap',w',hr,⟨hi'.len,hi'.cap,hi'.big,hi'.rng,hi'.at'.imp id ?_⟩,hgr⟩
 rintro⟨b,o,ha,hb,hx⟩
 refine⟨b,o,ha,⟨hb.1,hb.2,?_⟩,hx⟩
 rcases ho b (by rw[ha];rfl) with h1 | h1
 ·left;simpa [Value.ownBlock] using h1.symm
 ·right;omega
section
variable {P:Program} {ops:Array Oper} {Q:Exit→Act→World→Prop} {md:Region.Mode} {S:World→Prop}
theorem mU {st i j:Nat} {o oj:Oper} {fuel:Nat} {listed:Array Bool} {a:Act} {w:World} (hr:Region.ready md ops listed=[i,j]) (ho:ops[i]?=some o) (hoj:ops[j]?=some oj)
 (h:∀K':Act→World→Prop,Shut (∀a w,S w→fI P md ops Q st S fuel (listed.setIfInBounds i true) a w→K' a w)→if Region.wanted o (yielded ops a.tmps)=true then Oper.wp P o a w K' Q else K' (a.put o.dst undef) w)
 (h2:∀K':Act→World→Prop,Shut (∀a w,S w→fI P md ops Q st S fuel (listed.setIfInBounds j true) a w→K' a w)→if Region.wanted oj (yielded ops a.tmps)=true then Oper.wp P oj a w K' Q else K' (a.put oj.dst undef) w):fI P md ops Q st S (fuel+1) listed a w:=by
 refine⟨fun h0=>absurd (hr▸h0) (by simp),fun m hm=>?_⟩
 rw[hr] at hm
 rcases List.mem_cons.1 hm with rfl | hm
 ·exact wpOp_step ho (fun K' hK=>h K' (fun a w hS hW=>hK a w ⟨fun _=>hS,hW⟩))
 ·obtain rfl:=List.mem_singleton.1 hm
  exact wpOp_step hoj (fun K' hK=>h2 K' (fun a w hS hW=>hK a w ⟨fun _=>hS,hW⟩))
theorem step_append_run' {w:World} {o:Oper} {a:Act} {K':Act→World→Prop} {E:Prop} (hgd:o.guard=none) (s x:Operand) (t t2:TypeId)
 (ho:o.op=.call { callee:=.builtin .append,args:=#[s,x],argTypes:=#[t,t2] }) (vs vx v':Value) (w':World) (hs:a.eval s=vs) (hx:a.eval x=vx)
 (hrun:(Builtin.append_ #[t,t2] o.type #[vs,vx]).run P w=.ok v' w') (h:K' (a.put o.dst v') w'):if Region.wanted o (yielded ops a.tmps)=true then Oper.wp P o a w K' Q else E:=by
 have hw:Region.wanted o (yielded ops a.tmps)=true:=by simp[Region.wanted,hgd]
 rw[if_pos hw]
 unfold Oper.wp execOp
 simp only[ho,resolve,invoke,builtin,Sem.run_bind,Sem.run_pure,Result.andThen_ok,List.map_toArray,List.map_cons,List.map_nil,hs,hx,hrun]
 exact h
end
end
section
open Go Go.RowKit
attribute [-go_sem] Go.Lib.run_max_ints Go.Lib.run_min_ints
def aH (t:ByteArray):ByteArray:=t.extract 0 (min (t.size:Int) 60).toNat
theorem aW (t:ByteArray):(aH t).size≤60∧(aH t).size≤t.size:=by
 unfold aH
 simp
 omega
def gP (c:Que):Que:=⟨aH c.nm,c.nu,c.vr,aH c.tx⟩
def gB (l:Let):Let:=⟨tT l.m,aH l.nd,aH l.tx,l.vr⟩
def eH (c:Cnt):Cnt:=⟨aH c.nm,c.nu⟩
theorem tJ (s:ByteArray) (w:World):Calls Tryz.prog 18 #[.string s] w fun e w'=>e=.returned (.string (aH s))∧w=w':=by
 have h0:(if (60:Int)<(s.size:Int) then (60:Int) else (s.size:Int))=min (s.size:Int) 60:=(aCj _ _).symm
 obtain⟨q,hq⟩:∃q:Nat,min (s.size:Int) 60=(q:Int):=⟨(min (s.size:Int) 60).toNat,by omega⟩
 have hqn:(q:Int)≤(s.size:Int):=by omega
 have hc:Hid (s.extract 0 q=aH s):=hid (by unfold aH;rw[hq];rfl)
 rw[hq] at h0
 clear hq
 go_enter Tryz.func18,Tryz.ntmps18
 go_wp2
 go_ret
 exact⟨by rw[hc.out];rfl,rfl⟩
theorem aCw:(Tryz.prog.info? 55).map (fun i=>(i.zero,i.size,i.bytes))=some (some (.agg #[.int .i64 0,.int .i64 0,.slice none 0 0]),3,40):=by kernel_rfl
theorem fZ {P:Program} {ops:Array Oper} {Q:Exit→Act→World→Prop} {id:Nat} {a:Act} {w:World} (st:Nat) {S:World→Prop} (hm:P.follows .mixedOrders=true) (hS:SL st S (Array.replicate ops.size false) w.drew)
 (h:fI P .any ops Q st S ops.size (Array.replicate ops.size false) a w.drew):(Code.region id ops true).wp P Q a w :=
 wp_region_any hm (mT _ _ _ _ h)
theorem aCx:(Tryz.prog.info? 60).map (fun i=>(i.zero,i.size,i.bytes))=some (some (.agg #[.string ByteArray.empty,.int .i64 0,.int .i64 0,.string ByteArray.empty]),4,48):=by kernel_rfl
theorem aCz:(Tryz.prog.info? 70).map (fun i=>(i.zero,i.size,i.bytes))=some (some (.agg #[.int .i64 0,.slice none 0 0,.int .i64 0,.slice none 0 0,.int .i64 0,.int .i64 0,.int .i64 0,.string ByteArray.empty,.slice none 0 0,.slice none 0 0,.string ByteArray.empty,.string ByteArray.empty,.int .i64 0]),13,192):=by kernel_rfl
theorem aD0:(Tryz.prog.info? 58).map (fun i=>(i.zero,i.size,i.bytes))=some (some (.agg #[.string ByteArray.empty,.int .i64 0]),2,24):=by kernel_rfl
theorem aAp (c:MC) (w:World):(Instr.field 68 (.agg #[.int .i64 c.st.e,.slice c.st.a c.st.n c.st.c,.int .i64 c.m,.slice c.a c.n c.c,.int .i64 c.b.k,.int .i64 c.b.i,.int .i64 c.b.s,.string c.b.t,.slice c.b.la c.b.ll c.b.lc,.slice c.b.fa c.b.fl c.b.fc]) 3).run Tryz.prog w=.ok (.agg #[.int .i64 c.b.k,.int .i64 c.b.i,.int .i64 c.b.s,.string c.b.t,.slice c.b.la c.b.ll c.b.lc,.slice c.b.fa c.b.fl c.b.fc]) w:=by kernel_rfl
theorem aCh (S:Nat→Prop) (w:World):IsInts S w none 0 0 []:=⟨rfl,Nat.le_refl _,by omega,fun x hx=>absurd hx (by simp),.inl rfl⟩
theorem at_ef {W:World} {b:Nat} {c:EfC} (h:W.heap[b]?=some (.cells (EfC.cs c).toArray 75)):AtG efK W b 0 c:=fun j hj=>by
 have hl:(EfC.cs c).length=18:=rfl
 have h1:(EfC.cs c)[j]?=some ((EfC.cs c)[j]'(by rw[hl];exact hj)):=List.getElem?_eq_getElem _
 have h2:=World.news_of_block h j _ h1
 have hadd:(⟨b,0,none⟩:Addr).add j=⟨b,0+j,none⟩:=by unfold Addr.add;split<;>simp_all
 rw[hadd] at h2
 exact h2.trans h1.symm
theorem infoEfS:(Tryz.prog.info? 75).map (fun i=>(i.zero,i.size,i.bytes))=some (some (.agg #[.int .i64 0,.string ByteArray.empty,.int .i64 0,.string ByteArray.empty,.int .i64 0,.slice none 0 0,.int .i64 0,.slice none 0 0,.string ByteArray.empty,.int .i64 0,.bool false,.int .i64 0,.int .i64 0,.int .i64 0,.string ByteArray.empty,.slice none 0 0,.slice none 0 0,.string ByteArray.empty]),18,248):=by kernel_rfl
theorem yR {xs:List Int} {q:Nat} (hq:q=min xs.length 6):xs.take q=xs.take 6:=by
 by_cases h:6≤xs.length
 ·rw[show q=6 by omega]
 ·rw[show q=xs.length by omega,List.take_length,List.take_of_length_le (by omega)]
theorem dL {B:Nat} {W:World} {a:Option Addr} {n c o:Nat} {xs:List Int} {u:Value} (h:IsInts (fun b=>B<b∧b<W.heap.size) W a n c xs):IsInts (fun b=>B<b∧b<(W.setCell ⟨B,o,none⟩ u).heap.size) (W.setCell ⟨B,o,none⟩ u) a n c xs :=
 h.same fun b hb=>⟨⟨hb.1,by simpa [World.setCell] using hb.2⟩,Below.heap_setCell _ _ _ _ (by show b≠B;omega)⟩
def SnPost (w:World) (d:Snp) (e:Ending) (w':World):Prop:=∃c':SnC,e=.returned c'.w∧Below w.heap.size w w'∧IsSn (fun b=>w.heap.size≤b∧b<w'.heap.size) w' c' d
def iU (x:Ef):Ef:=⟨x.k,aH x.nm,x.nu,aH x.tx,⟨x.st.e,x.st.ps.take 6⟩,⟨x.rs.e,x.rs.ps.take 6⟩,aH x.sv,x.ca,x.un,shV 4 x.bd,aH x.nd⟩
def fO (d:Snp):Snp:=⟨d.v,d.e,d.t,bE 4 jY d.ns,bE 4 eH d.ar,bE 4 eH d.se,bE 4 gP d.qs,bE 4 gB d.ls,bE 4 iU d.ps⟩
section
attribute [-go_sem] loadCellsFrom storeCells
attribute [local go_sem] aAp aAf aAe aAd aAc aAb aAa aA9 aA8 aCs aCr yY yX yW yV zI zH aBy aBx aBw aBv aBu aBt aBs stc9 aC2 aC1 aC0 aBz
theorem wT (c:SnC) (d:Snp) (w:World) (hd:IsSn (· < w.heap.size) w c d):Calls Tryz.prog 6 #[c.w] w (SnPost w (fO d)):=by
 obtain⟨cv,ce,ct,na,nl,nc,aa,al,ac,sa,sl,sc,qa,ql,qc,la,ll,lc,pa,pl,pc⟩:=c
 have hen:∀args w,(callFunc 18 args).run Tryz.prog w=.ok (.enter 18 args) w:=enters_of Tryz.func18 (by kernel_rfl) rfl
 obtain⟨tS,si0,si1,si2,si3⟩:=info_parts aCw
 obtain⟨tC,ci0,ci1,ci2,ci3⟩:=info_parts aD0
 obtain⟨tQ,qi0,qi1,qi2,qi3⟩:=info_parts aCx
 obtain⟨tL,li0,li1,li2,li3⟩:=info_parts aCz
 obtain⟨tE,ei0,ei1,ei2,ei3⟩:=info_parts infoEfS
 have HTX:=hid (fun s w=>tJ s w)
 have HD:=hid hd
 obtain⟨xb,hxb⟩:∃xb,xb=w.heap.size:=⟨_,rfl⟩
 obtain⟨mb,hmb⟩:∃mb,mb=xb+1+1:=⟨_,rfl⟩
 obtain⟨ob,hob⟩:∃ob,ob=mb+1:=⟨_,rfl⟩
 obtain⟨Wn,hW⟩:∃Wn,Wn=(((w.alloc (.cells #[.int .i64 cv,.int .i64 ce,.int .i64 ct,.slice na nl nc,.slice aa al ac,.slice sa sl sc,.slice qa ql qc,.slice la ll lc,.slice pa pl pc] 30)).alloc (.cells #[.int .i64 0,.int .i64 0,.int .i64 0,.slice none 0 0,.slice none 0 0,.slice none 0 0,.slice none 0 0,.slice none 0 0,.slice none 0 0] 30)).alloc (.cells #[.int .i64 cv,.int .i64 ce,.int .i64 ct,.slice na nl nc,.slice aa al ac,.slice sa sl sc,.slice qa ql qc,.slice la ll lc] 27)).alloc (.cells #[.int .i64 cv,.int .i64 ce,.int .i64 ct,.slice none 0 0,.slice none 0 0,.slice none 0 0,.slice none 0 0,.slice none 0 0,.slice none 0 0] 30):=⟨_,rfl⟩
 have gx:Wn.heap[xb]?=some (.cells #[.int .i64 cv,.int .i64 ce,.int .i64 ct,.slice na nl nc,.slice aa al ac,.slice sa sl sc,.slice qa ql qc,.slice la ll lc,.slice pa pl pc] 30):=by rw[hW,hxb];exact aC _ (aC _ (aC _ (heap_alloc_new w _)))
 have gr:Wn.heap[xb+1]?=some (.cells #[.int .i64 0,.int .i64 0,.int .i64 0,.slice none 0 0,.slice none 0 0,.slice none 0 0,.slice none 0 0,.slice none 0 0,.slice none 0 0] 30):=by rw[hW,hxb];exact aC _ (aC _ (aM _ _ _ (by simp)))
 have gm:Wn.heap[mb]?=some (.cells #[.int .i64 cv,.int .i64 ce,.int .i64 ct,.slice na nl nc,.slice aa al ac,.slice sa sl sc,.slice qa ql qc,.slice la ll lc] 27):=by rw[hW,hmb,hxb];exact aC _ (aM _ _ _ (by simp))
 have go':Wn.heap[ob]?=some (.cells #[.int .i64 cv,.int .i64 ce,.int .i64 ct,.slice none 0 0,.slice none 0 0,.slice none 0 0,.slice none 0 0,.slice none 0 0,.slice none 0 0] 30):=by rw[hW,hob,hmb,hxb];exact aM _ _ _ (by simp)
 have hbW:Below w.heap.size w Wn:=by rw[hW];exact(((((bR w).alloc lr _).alloc (by simp) _).alloc (by simp;omega) _).alloc (by simp;omega) _)
 have zW:Wn.heap.size=ob+1:=by rw[hW,hob,hmb,hxb];simp
 have HXXn:=hid gx;have HRRn:=hid gr;have HMn:=hid gm;have HOn:=hid go';have HBn0:=hid hbW
 have HSn:=hid (fun (q:Nat) (hq:q<w.heap.size)=>hbW.block q hq)
 have HLTn:Hid (w.heap.size≤xb∧xb<mb∧xb+1<mb∧mb<ob∧ob<Wn.heap.size):=hid (by omega)
 have HW:=hid hW;have HXB:=hid hxb;have HMB:=hid hmb;have HOB:=hid hob
 clear hd gx gr gm go' hbW zW hW hxb hmb hob
 dsimp only[SnC.w]
 go_enter Tryz.func6,Tryz.ntmps6
 go_upto_region 4 with (fail)
 rw[←HW.out,←HXB.out,←HMB.out,←HOB.out]
 obtain⟨Ln,hLn⟩:∃Ln,Ln=bE 4 jY d.ns:=⟨_,rfl⟩
 have HLn:=hid hLn
 clear hLn
 go_upto_block 0 with (fail)
 go_cut [] (fun wz=>∃v,Built staK 55 Wn.heap.size wz v Ln.length Ln∧wz.heap[ob]?=some (.cells #[.int .i64 cv,.int .i64 ce,.int .i64 ct,v,.slice none 0 0,.slice none 0 0,.slice none 0 0,.slice none 0 0,.slice none 0 0] 30)∧Turn (fun q=>q=ob) Wn wz)
 case first =>
  as_aux_lemma =>
  go_wp2
  go_loopw [7] (fun i wz=>∃(k:Nat) (v:Value),k≤Ln.length∧i=.int .i64 k∧Built staK 55 Wn.heap.size wz v k Ln∧wz.heap[ob]?=some (.cells #[.int .i64 cv,.int .i64 ce,.int .i64 ct,v,.slice none 0 0,.slice none 0 0,.slice none 0 0,.slice none 0 0,.slice none 0 0] 30)∧Turn (fun q=>q=ob) Wn wz) (fun i _=>Ln.length-(intOf i).toNat)
  case atStart=>exact⟨0,_,Nat.zero_le _,rfl,Built.nil _ _ _ _,HOn.out,Turn.refl _ _⟩
  case round =>
   obtain⟨k,v,hk,rfl,hbu,hyv,htn⟩:=hrel
   obtain⟨wp,rfl⟩:∃w1:World,w1=wr:=⟨_,rfl⟩
   have hltn:=HLTn.out
   have hxp:=htn.keep HMn.out (by omega)
   have hsp:∀q,q<w.heap.size→wp.heap[q]?=w.heap[q]?:=fun q hq=>(htn.block q (by omega) (by omega)).trans (HSn.out q hq)
   have e1:=aA hxp 3
   (try dsimp only at e1)
   have HXP:=hid hxp;have HYP:=hid hyv;have HSP:=hid hsp;have HTN:=hid htn;have HBU:=hid hbu;have HKK:=hid hk
   have HPZ:=hid htn.size
   have hk0:(0:Int)≤(k:Int):=by omega
   have EX:Hid (¬ k<Ln.length→∃v,Built staK 55 Wn.heap.size wp v Ln.length Ln∧wp.heap[ob]?=some (.cells #[.int .i64 cv,.int .i64 ce,.int .i64 ct,v,.slice none 0 0,.slice none 0 0,.slice none 0 0,.slice none 0 0,.slice none 0 0] 30)∧Turn (fun q=>q=ob) Wn wp):=hid (fun h=>by
    have:k=Ln.length:=by omega
    exact⟨_,by rw[←this];exact hbu,hyv,htn⟩)
   clear hxp hsp htn hbu hk hyv
   by_cases g1:(k:Int)<(nl:Int)
   ·by_cases g2:(k:Int)<4
    ·have hkl:k<d.ns.length:=by have:=HD.out.ns.len;dsimp only at this;omega
     have hkL:k<Ln.length:=by rw[HLn.out];exact dF k hkl (by omega)
     obtain⟨b2,o2,hta,hb2,hx2⟩:=HD.out.ns.slot (show 0<nl by omega)
     dsimp only at hta hx2
     rw[hta] at e1
     obtain⟨y,hya,hyi⟩:=hx2 k hkl
     obtain⟨dy,hdy⟩:∃dy,dy=d.ns[k]:=⟨_,rfl⟩
     rw[←hdy] at hyi
     have HLK:Hid (∀h:k<Ln.length,Ln[k]=jY dy):=hid (fun h=>by
      have h':=dG (n:=4) (f:=jY) (l:=d.ns) k (by rw[←HLn.out];exact h) hkl
      simp only[←HLn.out] at h'
      rw[hdy];exact h')
     obtain⟨cs,hcs,hown,hel⟩:=HBU.out
     have hvo:=Built.own (K:=staK) ⟨cs,hcs,hown,hel⟩
     have HVO:=hid hvo;have HOWN:=hid hown;have HEL:=hid hel;have HCL:=hid hcs;have HKL2:=hid hkL
     have HK4:Hid (k+1≤4):=hid (by have:Ln.length≤4:=(by rw[HLn.out];exact bA _ _ _);omega)
     have HTA:=hid hta;have HYA:=hid hya;have HYI:=hid hyi;have HB2:=hid hb2
     clear hvo hown hel hcs hkL hta hb2 hx2 hya hyi hdy hltn
     have HCC:=hid (fun (w':World) (h:w'.heap[mb]?=some (.cells #[.int .i64 cv,.int .i64 ce,.int .i64 ct,.slice na nl nc,.slice aa al ac,.slice sa sl sc,.slice qa ql qc,.slice la ll lc] 27)∧w'.heap[ob]?=some (.cells #[.int .i64 cv,.int .i64 ce,.int .i64 ct,v,.slice none 0 0,.slice none 0 0,.slice none 0 0,.slice none 0 0,.slice none 0 0] 30)∧(∀q,q<w.heap.size→w'.heap[q]?=w.heap[q]?))=>by
      obtain⟨y0,y1,y2⟩:=(HYA.out.same (h.2.2 b2 HB2.out)).sta
      exact(show w'.cell? ⟨mb,3,none⟩=some (.slice (some ⟨b2,o2,none⟩) nl nc)∧w'.cell? ⟨ob,3,none⟩=some v∧w'.cell? ⟨b2,o2+k * 3,none⟩=some (.int .i64 y.n)∧w'.cell? ⟨b2,o2+k * 3+1,none⟩=some (.int .i64 y.t)∧w'.cell? ⟨b2,o2+k * 3+2,none⟩=some (.slice y.a y.l y.c) from⟨(aA h.1 3).trans (by show some (Value.slice na nl nc)=_;rw[HTA.out]),aA h.2.1 3,y0,y1,y2⟩))
     have HCALL:=hid (oX y dy wp.drew (HYI.out.same (S':=(· < wp.drew.heap.size)) (w':=wp.drew) fun q hq=>⟨by have h1:=HLTn.out;have h2:=HPZ.out;simp;omega,HSP.out q hq⟩))
     go_upto_region 8 with (fail)
     clear e1
     refine bY 13 (fun w'=>w'.heap[mb]?=some (.cells #[.int .i64 cv,.int .i64 ce,.int .i64 ct,.slice na nl nc,.slice aa al ac,.slice sa sl sc,.slice qa ql qc,.slice la ll lc] 27)∧w'.heap[ob]?=some (.cells #[.int .i64 cv,.int .i64 ce,.int .i64 ct,v,.slice none 0 0,.slice none 0 0,.slice none 0 0,.slice none 0 0,.slice none 0 0] 30)∧(∀q,q<w.heap.size→w'.heap[q]?=w.heap[q]?)) (by kernel_rfl) (by kernel_rfl) (by kernel_rfl) (by decide) (⟨HXP.out,HYP.out,HSP.out⟩) (fun hS=>?_)
     simp only[zdm,zdn,zdp,zdq]
     refine tkQ 0 (v:=?_) ?_ hS ?_;rotate_left;· intro w' hw';have hcells:=HCC.out w' hw';go_simp;(try rfl)
     simp only[Act.put,pq]
     refine tkQ 1 (v:=?_) ?_ hS ?_;rotate_left;· intro w' hw';have hcells:=HCC.out w' hw';go_simp;(try rfl)
     simp only[Act.put,pq]
     refine tkQ 2 (v:=?_) ?_ hS ?_;rotate_left;· intro w' hw';have hcells:=HCC.out w' hw';go_simp;(try rfl)
     simp only[Act.put,pq]
     refine tkQ 3 (v:=?_) ?_ hS ?_;rotate_left;· intro w' hw';have hcells:=HCC.out w' hw';go_simp;(try rfl)
     simp only[Act.put,pq]
     refine tkQ 4 (v:=?_) ?_ hS ?_;rotate_left;· intro w' hw';have hcells:=HCC.out w' hw';go_simp;(try rfl)
     simp only[Act.put,pq]
     refine tkQ 5 (v:=?_) ?_ hS ?_;rotate_left;· intro w' hw';have hcells:=HCC.out w' hw';go_simp;(try rfl)
     simp only[Act.put,pq]
     refine tkQ 6 (v:=?_) ?_ hS ?_;rotate_left;· intro w' hw';have hcells:=HCC.out w' hw';go_simp;(try rfl)
     simp only[Act.put,pq]
     refine tkQ 7 (v:=?_) ?_ hS ?_;rotate_left;· intro w' hw';have hcells:=HCC.out w' hw';go_simp;(try rfl)
     simp only[Act.put,pq]
     refine tkQ 8 (v:=?_) ?_ hS ?_;rotate_left;· intro w' hw';have hcells:=HCC.out w' hw';go_simp;(try rfl)
     simp only[Act.put,pq]
     refine tkQ 9 (v:=?_) ?_ hS ?_;rotate_left;· intro w' hw';have hcells:=HCC.out w' hw';go_simp;(try rfl)
     simp only[Act.put,pq]
     refine ry [10] ?_
     refine arQ fun K hK=>?_
     go_simp;go_at_call 19;refine HCALL.out.mono ?_
     rintro e w4 ⟨c4,rfl,hb4,hi4⟩
     have HB4:=hid hb4;have HEI:=hid hi4;have HZ4:Hid (wp.heap.size≤w4.heap.size):=hid (by have:=hb4.size;simpa using this)
     refine hK.out _ _ (⟨aB hb4 hS.1,aB hb4 hS.2.1,fun q hq=>(hb4.block q (by have h1:=HLTn.out;have h9:=HPZ.out;simp;omega)).trans (hS.2.2 q hq)⟩) (fun hS=>?_)
     clear hK K
     (try simp only[Act.put,pq])
     refine ry [11] ?_
     refine arQ fun K hK=>?_
     go_simp
     refine hK.out _ _ (⟨aC _ hS.1,aC _ hS.2.1,fun q hq=>(Below.heap_alloc _ _ _ (by have h1:=HLTn.out;have h9:=HPZ.out;have h2:=HZ4.out;omega)).trans (hS.2.2 q hq)⟩) (fun hS=>?_)
     clear hK K
     (try simp only[Act.put,pq])
     refine ry [12] ?_
     refine arQ fun K hK=>?_
     refine step_append_lies _ (by rfl) _ _ _ (by rfl) Wn.heap.size 55 tS _ 3 40 Tryz.underlying22 si0 si1 si2 si3 rfl (by omega) v k (cs.flatMap StC.cs) (by rfl) ((cW HOWN.out ((Below.refl _ wp).drew.trans HB4.out)).alloc (.cells #[.int .i64 c4.n,.int .i64 c4.t,.slice c4.a c4.l c4.c] 55)) ⟨w4.heap.size,0,none⟩ 1 1 (StC.cs c4) (by rfl) (by rfl) (World.news_of_block (heap_alloc_new w4 _)) (by simp[StC.cs,Value.oneCell']) (by omega) (by unfold maxLen;have:=HK4.out;omega) (by have:=HK4.out;omega) (by have h1:=HZ4.out;have h2:=HPZ.out;simp;omega) (w4.heap.size+1) (by simp) ?_
     intro gg cap5 w5 hown2 hgrow hat hlt2
     have HO2:=hid hown2;have HG:=hid hgrow;have HAT:=hid hat
     refine hK.out _ _ (⟨aY hgrow hS.1 (fun e=>by have h1:=(HVO.out _ e.symm).1;have h2:=HLTn.out;omega),aY hgrow hS.2.1 (fun e=>by have h1:=(HVO.out _ e.symm).1;have h2:=HLTn.out;omega),fun q hq=>(hgrow.block q (by have h1:=HLTn.out;have h9:=HPZ.out;have h2:=HZ4.out;simp;omega) (fun e=>by have h1:=(HVO.out _ e.symm).1;have h2:=HLTn.out;omega)).trans (hS.2.2 q hq)⟩) (fun hS=>?_)
     clear hK K
     (try simp only[Act.put,pq])
     refine wpAnyH_done (by kernel_rfl) ?_ _
     (try dsimp only)
     have HY5:=hid hS.2.1
     have p5:=aE hS.2.1 3
     have p6:=aA hS.2.1 3
     (try dsimp only at p6)
     clear hS
     go_wp2
     clear p5 p6
     go_roundw
     case rel =>
      have hpz:=HPZ.out
      have hlt:=HLTn.out
      have hbE:Below wp.heap.size wp w4:=(Below.refl _ wp).drew.trans HB4.out
      have hzE:=hbE.size
      have hpush:Built staK 55 Wn.heap.size w5 (.slice (some ⟨gg,0,none⟩) (k+1) cap5) (k+1) Ln :=
       Built.push (K:=staK) (N:=wp.heap.size) (w1:=w4) (o:=(.cells #[.int .i64 c4.n,.int .i64 c4.t,.slice c4.a c4.l c4.c] 55)) (c:=c4) HCL.out
        (fun j hj hj'=>staK.same (fun q hq=>⟨⟨hq.1,by have:=hq.2.1;omega,hq.2.2⟩,hbE.block q hq.2.1⟩) (HEL.out j hj hj')) HKL2.out (by rw[HLK.out HKL2.out];exact HEI.out) hpz (fun r e=>(HVO.out r e).2) HO2.out HG.out HAT.out
      have hyn:=aD (o:=3) (.slice (some ⟨gg,0,none⟩) (k+1) cap5) HY5.out
      simp only[List.setIfInBounds_toArray,List.set_cons_zero,List.set_cons_succ] at hyn
      have ht2:Turn (fun q=>q=ob∨v.ownBlock=some q) wp (w5.setCell ⟨ob,3,none⟩ (.slice (some ⟨gg,0,none⟩) (k+1) cap5)):=(((Turn.of_below hbE).trans (Turn.of_below ((Below.refl _ w4).alloc lr (.cells #[.int .i64 c4.n,.int .i64 c4.t,.slice c4.a c4.l c4.c] 55)))).trans (Turn.of_grown HG.out (fun r e=>.inr e))).trans (Turn.setCell ⟨ob,3,none⟩ _ (.inl rfl))
      exact⟨k+1,_,HKL2.out,by go_num,hpush.set _ _ (by show ob<Wn.heap.size;omega),hyn,HTN.out.fresh' ht2 (fun q hq hs=>by rcases hs with h | h;exact h;exact absurd (HVO.out q h).1 (by omega))⟩
     case measure=>simp[intOf];have:=HKL2.out;omega
    ·have hx:¬ k<Ln.length:=fun h=>g2 (by have:=(aZ (n:=4) (f:=jY) (l:=d.ns) k (by rw[←HLn.out];exact h)).2;omega)
     have HXX:=hid hx
     clear hx hltn
     go_wp2
     go_meet
     exact EX.out HXX.out
   ·have hx:¬ k<Ln.length:=fun h=>g1 (by have:=(aZ (n:=4) (f:=jY) (l:=d.ns) k (by rw[←HLn.out];exact h)).1;have h2:=HD.out.ns.len;dsimp only at h2;omega)
    have HXX:=hid hx
    clear hx hltn
    go_wp2
    go_meet
    exact EX.out HXX.out
 case rest =>
 obtain⟨vn,hbun,hyn,htn⟩:=hcut
 obtain⟨Wa,rfl⟩:∃u:World,u=wc:=⟨_,rfl⟩
 obtain⟨na',nc',rfl,_,_,_⟩:=hbun.shape
 have hlta:=HLTn.out
 have hza:=htn.size
 have HBn:=hid hbun;have HTn:=hid htn
 have HOa:=hid hyn
 have HMa:=hid (htn.keep HMn.out (by omega))
 have HXXa:=hid (htn.keep HXXn.out (by omega))
 have HRRa:=hid (htn.keep HRRn.out (by omega))
 have HSa:=hid (fun (q:Nat) (hq:q<w.heap.size)=>(htn.block q (by omega) (by omega)).trans (HSn.out q hq))
 have HLTa:Hid (w.heap.size≤xb∧xb<mb∧xb+1<mb∧mb<ob∧ob<Wa.heap.size):=hid (by omega)
 clear hbun hyn htn hlta hza
 obtain⟨La,hLa⟩:∃La,La=bE 4 eH d.ar:=⟨_,rfl⟩
 have HLa:=hid hLa
 clear hLa
 go_upto_block 2 with (fail)
 go_cut [] (fun wz=>∃v,Built cntK 58 Wa.heap.size wz v La.length La∧wz.heap[ob]?=some (.cells #[.int .i64 cv,.int .i64 ce,.int .i64 ct,.slice na' Ln.length nc',v,.slice none 0 0,.slice none 0 0,.slice none 0 0,.slice none 0 0] 30)∧Turn (fun q=>q=ob) Wa wz)
 case first =>
  as_aux_lemma =>
  go_wp2
  go_loopw [8] (fun i wz=>∃(k:Nat) (v:Value),k≤La.length∧i=.int .i64 k∧Built cntK 58 Wa.heap.size wz v k La∧wz.heap[ob]?=some (.cells #[.int .i64 cv,.int .i64 ce,.int .i64 ct,.slice na' Ln.length nc',v,.slice none 0 0,.slice none 0 0,.slice none 0 0,.slice none 0 0] 30)∧Turn (fun q=>q=ob) Wa wz) (fun i _=>La.length-(intOf i).toNat)
  case atStart=>exact⟨0,_,Nat.zero_le _,rfl,Built.nil _ _ _ _,HOa.out,Turn.refl _ _⟩
  case round =>
   obtain⟨k,v,hk,rfl,hbu,hyv,htn⟩:=hrel
   obtain⟨wp,rfl⟩:∃w1:World,w1=wr:=⟨_,rfl⟩
   have hlta:=HLTa.out
   have hxp:=htn.keep HMa.out (by omega)
   have hsp:∀q,q<w.heap.size→wp.heap[q]?=w.heap[q]?:=fun q hq=>(htn.block q (by omega) (by omega)).trans (HSa.out q hq)
   have e1:=aA hxp 4
   (try dsimp only at e1)
   have HXP:=hid hxp;have HYP:=hid hyv;have HSP:=hid hsp;have HTN:=hid htn;have HBU:=hid hbu;have HKK:=hid hk
   have HPZ:=hid htn.size
   have hk0:(0:Int)≤(k:Int):=by omega
   have EX:Hid (¬ k<La.length→∃v,Built cntK 58 Wa.heap.size wp v La.length La∧wp.heap[ob]?=some (.cells #[.int .i64 cv,.int .i64 ce,.int .i64 ct,.slice na' Ln.length nc',v,.slice none 0 0,.slice none 0 0,.slice none 0 0,.slice none 0 0] 30)∧Turn (fun q=>q=ob) Wa wp):=hid (fun h=>by
    have:k=La.length:=by omega
    exact⟨_,by rw[←this];exact hbu,hyv,htn⟩)
   clear hxp hsp htn hbu hk hyv
   by_cases g1:(k:Int)<(al:Int)
   ·by_cases g2:(k:Int)<4
    ·have hkl:k<d.ar.length:=by have:=HD.out.ar.len;dsimp only at this;omega
     have hkL:k<La.length:=by rw[HLa.out];exact dF k hkl (by omega)
     obtain⟨b2,o2,hta,hb2,hx2⟩:=HD.out.ar.slot (show 0<al by omega)
     dsimp only at hta hx2
     rw[hta] at e1
     obtain⟨y,hya,hyi⟩:=hx2 k hkl
     obtain⟨dy,hdy⟩:∃dy,dy=d.ar[k]:=⟨_,rfl⟩
     rw[←hdy] at hyi
     have HLK:Hid (∀h:k<La.length,La[k]=eH dy):=hid (fun h=>by
      have h':=dG (n:=4) (f:=eH) (l:=d.ar) k (by rw[←HLa.out];exact h) hkl
      simp only[←HLa.out] at h'
      rw[hdy];exact h')
     obtain⟨cs,hcs,hown,hel⟩:=HBU.out
     have hvo:=Built.own (K:=cntK) ⟨cs,hcs,hown,hel⟩
     have HVO:=hid hvo;have HOWN:=hid hown;have HEL:=hid hel;have HCL:=hid hcs;have HKL2:=hid hkL
     have HK4:Hid (k+1≤4):=hid (by have:La.length≤4:=(by rw[HLa.out];exact bA _ _ _);omega)
     have HTA:=hid hta;have HYA:=hid hya;have HYI:=hid hyi;have HB2:=hid hb2
     clear hvo hown hel hcs hkL hta hb2 hx2 hya hyi hdy hlta
     have HCC:=hid (fun (w':World) (h:w'.heap[mb]?=some (.cells #[.int .i64 cv,.int .i64 ce,.int .i64 ct,.slice na nl nc,.slice aa al ac,.slice sa sl sc,.slice qa ql qc,.slice la ll lc] 27)∧w'.heap[ob]?=some (.cells #[.int .i64 cv,.int .i64 ce,.int .i64 ct,.slice na' Ln.length nc',v,.slice none 0 0,.slice none 0 0,.slice none 0 0,.slice none 0 0] 30)∧(∀q,q<w.heap.size→w'.heap[q]?=w.heap[q]?))=>by
      obtain⟨y0,y1⟩:=(HYA.out.same (h.2.2 b2 HB2.out)).cnt
      exact(show w'.cell? ⟨mb,4,none⟩=some (.slice (some ⟨b2,o2,none⟩) al ac)∧w'.cell? ⟨ob,4,none⟩=some v∧w'.cell? ⟨b2,o2+k * 2,none⟩=some (.string y.nm)∧w'.cell? ⟨b2,o2+k * 2+1,none⟩=some (.int .i64 y.nu) from⟨(aA h.1 4).trans (by show some (Value.slice aa al ac)=_;rw[HTA.out]),aA h.2.1 4,y0,y1⟩))
     have HZ4:Hid (wp.heap.size≤wp.drew.heap.size):=hid lr
     have HEI:Hid (IsCnt (fun q=>wp.heap.size≤q∧q<wp.drew.heap.size) wp.drew ⟨aH y.nm,y.nu⟩ (eH dy)):=hid ⟨by rw[←HYI.out.e];rfl,by have:=(aW y.nm).1;dsimp only;omega,HYI.out.rn⟩
     go_upto_region 12 with (fail)
     clear e1
     refine bY 22 (fun w'=>w'.heap[mb]?=some (.cells #[.int .i64 cv,.int .i64 ce,.int .i64 ct,.slice na nl nc,.slice aa al ac,.slice sa sl sc,.slice qa ql qc,.slice la ll lc] 27)∧w'.heap[ob]?=some (.cells #[.int .i64 cv,.int .i64 ce,.int .i64 ct,.slice na' Ln.length nc',v,.slice none 0 0,.slice none 0 0,.slice none 0 0,.slice none 0 0] 30)∧(∀q,q<w.heap.size→w'.heap[q]?=w.heap[q]?)) (by kernel_rfl) (by kernel_rfl) (by kernel_rfl) (by decide) (⟨HXP.out,HYP.out,HSP.out⟩) (fun hS=>?_)
     simp only[zdm,zdn,zdp,zdq]
     refine tkQ 0 (v:=?_) ?_ hS ?_;rotate_left;· intro w' hw';have hcells:=HCC.out w' hw';go_simp;(try rfl)
     simp only[Act.put,pq]
     refine tkQ 1 (v:=?_) ?_ hS ?_;rotate_left;· intro w' hw';have hcells:=HCC.out w' hw';go_simp;(try rfl)
     simp only[Act.put,pq]
     refine tkQ 2 (v:=?_) ?_ hS ?_;rotate_left;· intro w' hw';have hcells:=HCC.out w' hw';go_simp;(try rfl)
     simp only[Act.put,pq]
     refine tkQ 3 (v:=?_) ?_ hS ?_;rotate_left;· intro w' hw';have hcells:=HCC.out w' hw';go_simp;(try rfl)
     simp only[Act.put,pq]
     refine tkQ 4 (v:=?_) ?_ hS ?_;rotate_left;· intro w' hw';have hcells:=HCC.out w' hw';go_simp;(try rfl)
     simp only[Act.put,pq]
     refine tkQ 5 (v:=?_) ?_ hS ?_;rotate_left;· intro w' hw';have hcells:=HCC.out w' hw';go_simp;(try rfl)
     simp only[Act.put,pq]
     refine tkQ 6 (v:=?_) ?_ hS ?_;rotate_left;· intro w' hw';have hcells:=HCC.out w' hw';go_simp;(try rfl)
     simp only[Act.put,pq]
     refine tkQ 7 (v:=?_) ?_ hS ?_;rotate_left;· intro w' hw';have hcells:=HCC.out w' hw';go_simp;(try rfl)
     simp only[Act.put,pq]
     refine tkQ 8 (v:=?_) ?_ hS ?_;rotate_left;· intro w' hw';have hcells:=HCC.out w' hw';go_simp;(try rfl)
     simp only[Act.put,pq]
     refine tkQ 9 (v:=?_) ?_ hS ?_;rotate_left;· intro w' hw';have hcells:=HCC.out w' hw';go_simp;(try rfl)
     simp only[Act.put,pq]
     refine tkQ 10 (v:=?_) ?_ hS ?_;rotate_left;· intro w' hw';have hcells:=HCC.out w' hw';go_simp;(try rfl)
     simp only[Act.put,pq]
     refine tkQ 11 (v:=?_) ?_ hS ?_;rotate_left;· intro w' hw';have hcells:=HCC.out w' hw';go_simp;(try rfl)
     simp only[Act.put,pq]
     refine tkQ 13 (v:=?_) ?_ hS ?_;rotate_left;· intro w' hw';have hcells:=HCC.out w' hw';go_simp;(try rfl)
     simp only[Act.put,pq]
     refine tkQ 14 (v:=?_) ?_ hS ?_;rotate_left;· intro w' hw';have hcells:=HCC.out w' hw';go_simp;(try rfl)
     simp only[Act.put,pq]
     refine tkQ 15 (v:=?_) ?_ hS ?_;rotate_left;· intro w' hw';have hcells:=HCC.out w' hw';go_simp;(try rfl)
     simp only[Act.put,pq]
     refine tkQ 16 (v:=?_) ?_ hS ?_;rotate_left;· intro w' hw';have hcells:=HCC.out w' hw';go_simp;(try rfl)
     simp only[Act.put,pq]
     refine tkQ 17 (v:=?_) ?_ hS ?_;rotate_left;· intro w' hw';have hcells:=HCC.out w' hw';go_simp;(try rfl)
     simp only[Act.put,pq]
     refine tkQ 18 (v:=?_) ?_ hS ?_;rotate_left;· intro w' hw';have hcells:=HCC.out w' hw';go_simp;(try rfl)
     simp only[Act.put,pq]
     refine ry [12] ?_
     refine arQ fun K hK=>?_
     go_simp;go_at_call 18;refine(HTX.out _ _).mono ?_
     rintro e w4 ⟨rfl,hw4⟩
     obtain rfl:=hw4
     refine hK.out _ _ (hS) (fun hS=>?_)
     clear hK K
     (try simp only[Act.put,pq])
     refine tkQ 19 (v:=?_) ?_ hS ?_;rotate_left;· intro w' hw';have hcells:=HCC.out w' hw';go_simp;(try rfl)
     simp only[Act.put,pq]
     refine ry [20] ?_
     refine arQ fun K hK=>?_
     go_simp
     refine hK.out _ _ (⟨aC _ hS.1,aC _ hS.2.1,fun q hq=>(Below.heap_alloc _ _ _ (by have h1:=HLTa.out;have h9:=HPZ.out;have h2:=HZ4.out;omega)).trans (hS.2.2 q hq)⟩) (fun hS=>?_)
     clear hK K
     (try simp only[Act.put,pq])
     refine ry [21] ?_
     refine arQ fun K hK=>?_
     refine step_append_lies _ (by rfl) _ _ _ (by rfl) Wa.heap.size 58 tC _ 2 24 Tryz.underlying23 ci0 ci1 ci2 ci3 rfl (by omega) v k (cs.flatMap Cnt.cs) (by rfl) ((cW HOWN.out (Below.refl _ wp).drew).alloc (.cells #[.string (aH y.nm),.int .i64 y.nu] 58)) ⟨wp.drew.heap.size,0,none⟩ 1 1 (Cnt.cs ⟨aH y.nm,y.nu⟩) (by rfl) (by rfl) (World.news_of_block (heap_alloc_new wp.drew _)) (by simp[Cnt.cs,Value.oneCell']) (by omega) (by unfold maxLen;have:=HK4.out;omega) (by have:=HK4.out;omega) (by have h1:=HZ4.out;have h2:=HPZ.out;simp;omega) (wp.drew.heap.size+1) (by simp) ?_
     intro gg cap5 w5 hown2 hgrow hat hlt2
     have HO2:=hid hown2;have HG:=hid hgrow;have HAT:=hid hat
     refine hK.out _ _ (⟨aY hgrow hS.1 (fun e=>by have h1:=(HVO.out _ e.symm).1;have h2:=HLTa.out;omega),aY hgrow hS.2.1 (fun e=>by have h1:=(HVO.out _ e.symm).1;have h2:=HLTa.out;omega),fun q hq=>(hgrow.block q (by have h1:=HLTa.out;have h9:=HPZ.out;have h2:=HZ4.out;simp;omega) (fun e=>by have h1:=(HVO.out _ e.symm).1;have h2:=HLTa.out;omega)).trans (hS.2.2 q hq)⟩) (fun hS=>?_)
     clear hK K
     (try simp only[Act.put,pq])
     refine wpAnyH_done (by kernel_rfl) ?_ _
     (try dsimp only)
     have HY5:=hid hS.2.1
     have p5:=aE hS.2.1 4
     have p6:=aA hS.2.1 4
     (try dsimp only at p6)
     clear hS
     go_wp2
     clear p5 p6
     go_roundw
     case rel =>
      have hpz:=HPZ.out
      have hlt:=HLTa.out
      have hbE:Below wp.heap.size wp wp.drew:=(Below.refl _ wp).drew
      have hzE:=hbE.size
      have hpush:Built cntK 58 Wa.heap.size w5 (.slice (some ⟨gg,0,none⟩) (k+1) cap5) (k+1) La :=
       Built.push (K:=cntK) (N:=wp.heap.size) (w1:=wp.drew) (o:=(.cells #[.string (aH y.nm),.int .i64 y.nu] 58)) (c:=⟨aH y.nm,y.nu⟩) HCL.out
        (fun j hj hj'=>cntK.same (fun q hq=>⟨⟨hq.1,by have:=hq.2.1;omega,hq.2.2⟩,hbE.block q hq.2.1⟩) (HEL.out j hj hj')) HKL2.out (by rw[HLK.out HKL2.out];exact HEI.out) hpz (fun r e=>(HVO.out r e).2) HO2.out HG.out HAT.out
      have hyn:=aD (o:=4) (.slice (some ⟨gg,0,none⟩) (k+1) cap5) HY5.out
      simp only[List.setIfInBounds_toArray,List.set_cons_zero,List.set_cons_succ] at hyn
      have ht2:Turn (fun q=>q=ob∨v.ownBlock=some q) wp (w5.setCell ⟨ob,4,none⟩ (.slice (some ⟨gg,0,none⟩) (k+1) cap5)):=(((Turn.of_below hbE).trans (Turn.of_below ((Below.refl _ wp.drew).alloc lr (.cells #[.string (aH y.nm),.int .i64 y.nu] 58)))).trans (Turn.of_grown HG.out (fun r e=>.inr e))).trans (Turn.setCell ⟨ob,4,none⟩ _ (.inl rfl))
      exact⟨k+1,_,HKL2.out,by go_num,hpush.set _ _ (by show ob<Wa.heap.size;omega),hyn,HTN.out.fresh' ht2 (fun q hq hs=>by rcases hs with h | h;exact h;exact absurd (HVO.out q h).1 (by omega))⟩
     case measure=>simp[intOf];have:=HKL2.out;omega
    ·have hx:¬ k<La.length:=fun h=>g2 (by have:=(aZ (n:=4) (f:=eH) (l:=d.ar) k (by rw[←HLa.out];exact h)).2;omega)
     have HXX:=hid hx
     clear hx hlta
     go_wp2
     go_meet
     exact EX.out HXX.out
   ·have hx:¬ k<La.length:=fun h=>g1 (by have:=(aZ (n:=4) (f:=eH) (l:=d.ar) k (by rw[←HLa.out];exact h)).1;have h2:=HD.out.ar.len;dsimp only at h2;omega)
    have HXX:=hid hx
    clear hx hlta
    go_wp2
    go_meet
    exact EX.out HXX.out
 case rest =>
 obtain⟨va,hbua,hya,hta⟩:=hcut
 obtain⟨Ws,rfl⟩:∃u:World,u=wc:=⟨_,rfl⟩
 obtain⟨aa',ac',rfl,_,_,_⟩:=hbua.shape
 have hlts:=HLTa.out
 have hzs:=hta.size
 have HBa:=hid hbua;have HTa:=hid hta
 have HOs:=hid hya
 have HMs:=hid (hta.keep HMa.out (by omega))
 have HXXs:=hid (hta.keep HXXa.out (by omega))
 have HRRs:=hid (hta.keep HRRa.out (by omega))
 have HSs:=hid (fun (q:Nat) (hq:q<w.heap.size)=>(hta.block q (by omega) (by omega)).trans (HSa.out q hq))
 have HLTs:Hid (w.heap.size≤xb∧xb<mb∧xb+1<mb∧mb<ob∧ob<Ws.heap.size):=hid (by omega)
 clear hbua hya hta hlts hzs
 obtain⟨Ls,hLs⟩:∃Ls,Ls=bE 4 eH d.se:=⟨_,rfl⟩
 have HLs:=hid hLs
 clear hLs
 go_upto_block 4 with (fail)
 go_cut [] (fun wz=>∃v,Built cntK 58 Ws.heap.size wz v Ls.length Ls∧wz.heap[ob]?=some (.cells #[.int .i64 cv,.int .i64 ce,.int .i64 ct,.slice na' Ln.length nc',.slice aa' La.length ac',v,.slice none 0 0,.slice none 0 0,.slice none 0 0] 30)∧Turn (fun q=>q=ob) Ws wz)
 case first =>
  as_aux_lemma =>
  go_wp2
  go_loopw [9] (fun i wz=>∃(k:Nat) (v:Value),k≤Ls.length∧i=.int .i64 k∧Built cntK 58 Ws.heap.size wz v k Ls∧wz.heap[ob]?=some (.cells #[.int .i64 cv,.int .i64 ce,.int .i64 ct,.slice na' Ln.length nc',.slice aa' La.length ac',v,.slice none 0 0,.slice none 0 0,.slice none 0 0] 30)∧Turn (fun q=>q=ob) Ws wz) (fun i _=>Ls.length-(intOf i).toNat)
  case atStart=>exact⟨0,_,Nat.zero_le _,rfl,Built.nil _ _ _ _,HOs.out,Turn.refl _ _⟩
  case round =>
   obtain⟨k,v,hk,rfl,hbu,hyv,htn⟩:=hrel
   obtain⟨wp,rfl⟩:∃w1:World,w1=wr:=⟨_,rfl⟩
   have hlts:=HLTs.out
   have hxp:=htn.keep HMs.out (by omega)
   have hsp:∀q,q<w.heap.size→wp.heap[q]?=w.heap[q]?:=fun q hq=>(htn.block q (by omega) (by omega)).trans (HSs.out q hq)
   have e1:=aA hxp 5
   (try dsimp only at e1)
   have HXP:=hid hxp;have HYP:=hid hyv;have HSP:=hid hsp;have HTN:=hid htn;have HBU:=hid hbu;have HKK:=hid hk
   have HPZ:=hid htn.size
   have hk0:(0:Int)≤(k:Int):=by omega
   have EX:Hid (¬ k<Ls.length→∃v,Built cntK 58 Ws.heap.size wp v Ls.length Ls∧wp.heap[ob]?=some (.cells #[.int .i64 cv,.int .i64 ce,.int .i64 ct,.slice na' Ln.length nc',.slice aa' La.length ac',v,.slice none 0 0,.slice none 0 0,.slice none 0 0] 30)∧Turn (fun q=>q=ob) Ws wp):=hid (fun h=>by
    have:k=Ls.length:=by omega
    exact⟨_,by rw[←this];exact hbu,hyv,htn⟩)
   clear hxp hsp htn hbu hk hyv
   by_cases g1:(k:Int)<(sl:Int)
   ·by_cases g2:(k:Int)<4
    ·have hkl:k<d.se.length:=by have:=HD.out.se.len;dsimp only at this;omega
     have hkL:k<Ls.length:=by rw[HLs.out];exact dF k hkl (by omega)
     obtain⟨b2,o2,hta,hb2,hx2⟩:=HD.out.se.slot (show 0<sl by omega)
     dsimp only at hta hx2
     rw[hta] at e1
     obtain⟨y,hya,hyi⟩:=hx2 k hkl
     obtain⟨dy,hdy⟩:∃dy,dy=d.se[k]:=⟨_,rfl⟩
     rw[←hdy] at hyi
     have HLK:Hid (∀h:k<Ls.length,Ls[k]=eH dy):=hid (fun h=>by
      have h':=dG (n:=4) (f:=eH) (l:=d.se) k (by rw[←HLs.out];exact h) hkl
      simp only[←HLs.out] at h'
      rw[hdy];exact h')
     obtain⟨cs,hcs,hown,hel⟩:=HBU.out
     have hvo:=Built.own (K:=cntK) ⟨cs,hcs,hown,hel⟩
     have HVO:=hid hvo;have HOWN:=hid hown;have HEL:=hid hel;have HCL:=hid hcs;have HKL2:=hid hkL
     have HK4:Hid (k+1≤4):=hid (by have:Ls.length≤4:=(by rw[HLs.out];exact bA _ _ _);omega)
     have HTA:=hid hta;have HYA:=hid hya;have HYI:=hid hyi;have HB2:=hid hb2
     clear hvo hown hel hcs hkL hta hb2 hx2 hya hyi hdy hlts
     have HCC:=hid (fun (w':World) (h:w'.heap[mb]?=some (.cells #[.int .i64 cv,.int .i64 ce,.int .i64 ct,.slice na nl nc,.slice aa al ac,.slice sa sl sc,.slice qa ql qc,.slice la ll lc] 27)∧w'.heap[ob]?=some (.cells #[.int .i64 cv,.int .i64 ce,.int .i64 ct,.slice na' Ln.length nc',.slice aa' La.length ac',v,.slice none 0 0,.slice none 0 0,.slice none 0 0] 30)∧(∀q,q<w.heap.size→w'.heap[q]?=w.heap[q]?))=>by
      obtain⟨y0,y1⟩:=(HYA.out.same (h.2.2 b2 HB2.out)).cnt
      exact(show w'.cell? ⟨mb,5,none⟩=some (.slice (some ⟨b2,o2,none⟩) sl sc)∧w'.cell? ⟨ob,5,none⟩=some v∧w'.cell? ⟨b2,o2+k * 2,none⟩=some (.string y.nm)∧w'.cell? ⟨b2,o2+k * 2+1,none⟩=some (.int .i64 y.nu) from⟨(aA h.1 5).trans (by show some (Value.slice sa sl sc)=_;rw[HTA.out]),aA h.2.1 5,y0,y1⟩))
     have HZ4:Hid (wp.heap.size≤wp.drew.heap.size):=hid lr
     have HEI:Hid (IsCnt (fun q=>wp.heap.size≤q∧q<wp.drew.heap.size) wp.drew ⟨aH y.nm,y.nu⟩ (eH dy)):=hid ⟨by rw[←HYI.out.e];rfl,by have:=(aW y.nm).1;dsimp only;omega,HYI.out.rn⟩
     go_upto_region 16 with (fail)
     clear e1
     refine bY 22 (fun w'=>w'.heap[mb]?=some (.cells #[.int .i64 cv,.int .i64 ce,.int .i64 ct,.slice na nl nc,.slice aa al ac,.slice sa sl sc,.slice qa ql qc,.slice la ll lc] 27)∧w'.heap[ob]?=some (.cells #[.int .i64 cv,.int .i64 ce,.int .i64 ct,.slice na' Ln.length nc',.slice aa' La.length ac',v,.slice none 0 0,.slice none 0 0,.slice none 0 0] 30)∧(∀q,q<w.heap.size→w'.heap[q]?=w.heap[q]?)) (by kernel_rfl) (by kernel_rfl) (by kernel_rfl) (by decide) (⟨HXP.out,HYP.out,HSP.out⟩) (fun hS=>?_)
     simp only[zdm,zdn,zdp,zdq]
     refine tkQ 0 (v:=?_) ?_ hS ?_;rotate_left;· intro w' hw';have hcells:=HCC.out w' hw';go_simp;(try rfl)
     simp only[Act.put,pq]
     refine tkQ 1 (v:=?_) ?_ hS ?_;rotate_left;· intro w' hw';have hcells:=HCC.out w' hw';go_simp;(try rfl)
     simp only[Act.put,pq]
     refine tkQ 2 (v:=?_) ?_ hS ?_;rotate_left;· intro w' hw';have hcells:=HCC.out w' hw';go_simp;(try rfl)
     simp only[Act.put,pq]
     refine tkQ 3 (v:=?_) ?_ hS ?_;rotate_left;· intro w' hw';have hcells:=HCC.out w' hw';go_simp;(try rfl)
     simp only[Act.put,pq]
     refine tkQ 4 (v:=?_) ?_ hS ?_;rotate_left;· intro w' hw';have hcells:=HCC.out w' hw';go_simp;(try rfl)
     simp only[Act.put,pq]
     refine tkQ 5 (v:=?_) ?_ hS ?_;rotate_left;· intro w' hw';have hcells:=HCC.out w' hw';go_simp;(try rfl)
     simp only[Act.put,pq]
     refine tkQ 6 (v:=?_) ?_ hS ?_;rotate_left;· intro w' hw';have hcells:=HCC.out w' hw';go_simp;(try rfl)
     simp only[Act.put,pq]
     refine tkQ 7 (v:=?_) ?_ hS ?_;rotate_left;· intro w' hw';have hcells:=HCC.out w' hw';go_simp;(try rfl)
     simp only[Act.put,pq]
     refine tkQ 8 (v:=?_) ?_ hS ?_;rotate_left;· intro w' hw';have hcells:=HCC.out w' hw';go_simp;(try rfl)
     simp only[Act.put,pq]
     refine tkQ 9 (v:=?_) ?_ hS ?_;rotate_left;· intro w' hw';have hcells:=HCC.out w' hw';go_simp;(try rfl)
     simp only[Act.put,pq]
     refine tkQ 10 (v:=?_) ?_ hS ?_;rotate_left;· intro w' hw';have hcells:=HCC.out w' hw';go_simp;(try rfl)
     simp only[Act.put,pq]
     refine tkQ 11 (v:=?_) ?_ hS ?_;rotate_left;· intro w' hw';have hcells:=HCC.out w' hw';go_simp;(try rfl)
     simp only[Act.put,pq]
     refine tkQ 13 (v:=?_) ?_ hS ?_;rotate_left;· intro w' hw';have hcells:=HCC.out w' hw';go_simp;(try rfl)
     simp only[Act.put,pq]
     refine tkQ 14 (v:=?_) ?_ hS ?_;rotate_left;· intro w' hw';have hcells:=HCC.out w' hw';go_simp;(try rfl)
     simp only[Act.put,pq]
     refine tkQ 15 (v:=?_) ?_ hS ?_;rotate_left;· intro w' hw';have hcells:=HCC.out w' hw';go_simp;(try rfl)
     simp only[Act.put,pq]
     refine tkQ 16 (v:=?_) ?_ hS ?_;rotate_left;· intro w' hw';have hcells:=HCC.out w' hw';go_simp;(try rfl)
     simp only[Act.put,pq]
     refine tkQ 17 (v:=?_) ?_ hS ?_;rotate_left;· intro w' hw';have hcells:=HCC.out w' hw';go_simp;(try rfl)
     simp only[Act.put,pq]
     refine tkQ 18 (v:=?_) ?_ hS ?_;rotate_left;· intro w' hw';have hcells:=HCC.out w' hw';go_simp;(try rfl)
     simp only[Act.put,pq]
     refine ry [12] ?_
     refine arQ fun K hK=>?_
     go_simp;go_at_call 18;refine(HTX.out _ _).mono ?_
     rintro e w4 ⟨rfl,hw4⟩
     obtain rfl:=hw4
     refine hK.out _ _ (hS) (fun hS=>?_)
     clear hK K
     (try simp only[Act.put,pq])
     refine tkQ 19 (v:=?_) ?_ hS ?_;rotate_left;· intro w' hw';have hcells:=HCC.out w' hw';go_simp;(try rfl)
     simp only[Act.put,pq]
     refine ry [20] ?_
     refine arQ fun K hK=>?_
     go_simp
     refine hK.out _ _ (⟨aC _ hS.1,aC _ hS.2.1,fun q hq=>(Below.heap_alloc _ _ _ (by have h1:=HLTs.out;have h9:=HPZ.out;have h2:=HZ4.out;omega)).trans (hS.2.2 q hq)⟩) (fun hS=>?_)
     clear hK K
     (try simp only[Act.put,pq])
     refine ry [21] ?_
     refine arQ fun K hK=>?_
     refine step_append_lies _ (by rfl) _ _ _ (by rfl) Ws.heap.size 58 tC _ 2 24 Tryz.underlying23 ci0 ci1 ci2 ci3 rfl (by omega) v k (cs.flatMap Cnt.cs) (by rfl) ((cW HOWN.out (Below.refl _ wp).drew).alloc (.cells #[.string (aH y.nm),.int .i64 y.nu] 58)) ⟨wp.drew.heap.size,0,none⟩ 1 1 (Cnt.cs ⟨aH y.nm,y.nu⟩) (by rfl) (by rfl) (World.news_of_block (heap_alloc_new wp.drew _)) (by simp[Cnt.cs,Value.oneCell']) (by omega) (by unfold maxLen;have:=HK4.out;omega) (by have:=HK4.out;omega) (by have h1:=HZ4.out;have h2:=HPZ.out;simp;omega) (wp.drew.heap.size+1) (by simp) ?_
     intro gg cap5 w5 hown2 hgrow hat hlt2
     have HO2:=hid hown2;have HG:=hid hgrow;have HAT:=hid hat
     refine hK.out _ _ (⟨aY hgrow hS.1 (fun e=>by have h1:=(HVO.out _ e.symm).1;have h2:=HLTs.out;omega),aY hgrow hS.2.1 (fun e=>by have h1:=(HVO.out _ e.symm).1;have h2:=HLTs.out;omega),fun q hq=>(hgrow.block q (by have h1:=HLTs.out;have h9:=HPZ.out;have h2:=HZ4.out;simp;omega) (fun e=>by have h1:=(HVO.out _ e.symm).1;have h2:=HLTs.out;omega)).trans (hS.2.2 q hq)⟩) (fun hS=>?_)
     clear hK K
     (try simp only[Act.put,pq])
     refine wpAnyH_done (by kernel_rfl) ?_ _
     (try dsimp only)
     have HY5:=hid hS.2.1
     have p5:=aE hS.2.1 5
     have p6:=aA hS.2.1 5
     (try dsimp only at p6)
     clear hS
     go_wp2
     clear p5 p6
     go_roundw
     case rel =>
      have hpz:=HPZ.out
      have hlt:=HLTs.out
      have hbE:Below wp.heap.size wp wp.drew:=(Below.refl _ wp).drew
      have hzE:=hbE.size
      have hpush:Built cntK 58 Ws.heap.size w5 (.slice (some ⟨gg,0,none⟩) (k+1) cap5) (k+1) Ls :=
       Built.push (K:=cntK) (N:=wp.heap.size) (w1:=wp.drew) (o:=(.cells #[.string (aH y.nm),.int .i64 y.nu] 58)) (c:=⟨aH y.nm,y.nu⟩) HCL.out
        (fun j hj hj'=>cntK.same (fun q hq=>⟨⟨hq.1,by have:=hq.2.1;omega,hq.2.2⟩,hbE.block q hq.2.1⟩) (HEL.out j hj hj')) HKL2.out (by rw[HLK.out HKL2.out];exact HEI.out) hpz (fun r e=>(HVO.out r e).2) HO2.out HG.out HAT.out
      have hyn:=aD (o:=5) (.slice (some ⟨gg,0,none⟩) (k+1) cap5) HY5.out
      simp only[List.setIfInBounds_toArray,List.set_cons_zero,List.set_cons_succ] at hyn
      have ht2:Turn (fun q=>q=ob∨v.ownBlock=some q) wp (w5.setCell ⟨ob,5,none⟩ (.slice (some ⟨gg,0,none⟩) (k+1) cap5)):=(((Turn.of_below hbE).trans (Turn.of_below ((Below.refl _ wp.drew).alloc lr (.cells #[.string (aH y.nm),.int .i64 y.nu] 58)))).trans (Turn.of_grown HG.out (fun r e=>.inr e))).trans (Turn.setCell ⟨ob,5,none⟩ _ (.inl rfl))
      exact⟨k+1,_,HKL2.out,by go_num,hpush.set _ _ (by show ob<Ws.heap.size;omega),hyn,HTN.out.fresh' ht2 (fun q hq hs=>by rcases hs with h | h;exact h;exact absurd (HVO.out q h).1 (by omega))⟩
     case measure=>simp[intOf];have:=HKL2.out;omega
    ·have hx:¬ k<Ls.length:=fun h=>g2 (by have:=(aZ (n:=4) (f:=eH) (l:=d.se) k (by rw[←HLs.out];exact h)).2;omega)
     have HXX:=hid hx
     clear hx hlts
     go_wp2
     go_meet
     exact EX.out HXX.out
   ·have hx:¬ k<Ls.length:=fun h=>g1 (by have:=(aZ (n:=4) (f:=eH) (l:=d.se) k (by rw[←HLs.out];exact h)).1;have h2:=HD.out.se.len;dsimp only at h2;omega)
    have HXX:=hid hx
    clear hx hlts
    go_wp2
    go_meet
    exact EX.out HXX.out
 case rest =>
 obtain⟨vs,hbus,hys,hts⟩:=hcut
 obtain⟨Wq,rfl⟩:∃u:World,u=wc:=⟨_,rfl⟩
 obtain⟨sa',sc',rfl,_,_,_⟩:=hbus.shape
 have hltq:=HLTs.out
 have hzq:=hts.size
 have HBs:=hid hbus;have HTs:=hid hts
 have HOq:=hid hys
 have HMq:=hid (hts.keep HMs.out (by omega))
 have HXXq:=hid (hts.keep HXXs.out (by omega))
 have HRRq:=hid (hts.keep HRRs.out (by omega))
 have HSq:=hid (fun (q:Nat) (hq:q<w.heap.size)=>(hts.block q (by omega) (by omega)).trans (HSs.out q hq))
 have HLTq:Hid (w.heap.size≤xb∧xb<mb∧xb+1<mb∧mb<ob∧ob<Wq.heap.size):=hid (by omega)
 clear hbus hys hts hltq hzq
 obtain⟨Lq,hLq⟩:∃Lq,Lq=bE 4 gP d.qs:=⟨_,rfl⟩
 have HLq:=hid hLq
 clear hLq
 go_upto_block 6 with (fail)
 go_cut [] (fun wz=>∃v,Built queK 60 Wq.heap.size wz v Lq.length Lq∧wz.heap[ob]?=some (.cells #[.int .i64 cv,.int .i64 ce,.int .i64 ct,.slice na' Ln.length nc',.slice aa' La.length ac',.slice sa' Ls.length sc',v,.slice none 0 0,.slice none 0 0] 30)∧Turn (fun q=>q=ob) Wq wz)
 case first =>
  go_wp2
  go_loopw [10] (fun i wz=>∃(k:Nat) (v:Value),k≤Lq.length∧i=.int .i64 k∧Built queK 60 Wq.heap.size wz v k Lq∧wz.heap[ob]?=some (.cells #[.int .i64 cv,.int .i64 ce,.int .i64 ct,.slice na' Ln.length nc',.slice aa' La.length ac',.slice sa' Ls.length sc',v,.slice none 0 0,.slice none 0 0] 30)∧Turn (fun q=>q=ob) Wq wz) (fun i _=>Lq.length-(intOf i).toNat)
  case atStart=>exact⟨0,_,Nat.zero_le _,rfl,Built.nil _ _ _ _,HOq.out,Turn.refl _ _⟩
  case round =>
   obtain⟨k,v,hk,rfl,hbu,hyv,htn⟩:=hrel
   obtain⟨wp,rfl⟩:∃w1:World,w1=wr:=⟨_,rfl⟩
   have hltq:=HLTq.out
   have hxp:=htn.keep HMq.out (by omega)
   have hsp:∀q,q<w.heap.size→wp.heap[q]?=w.heap[q]?:=fun q hq=>(htn.block q (by omega) (by omega)).trans (HSq.out q hq)
   have e1:=aA hxp 6
   (try dsimp only at e1)
   have HXP:=hid hxp;have HYP:=hid hyv;have HSP:=hid hsp;have HTN:=hid htn;have HBU:=hid hbu;have HKK:=hid hk
   have HPZ:=hid htn.size
   have hk0:(0:Int)≤(k:Int):=by omega
   have EX:Hid (¬ k<Lq.length→∃v,Built queK 60 Wq.heap.size wp v Lq.length Lq∧wp.heap[ob]?=some (.cells #[.int .i64 cv,.int .i64 ce,.int .i64 ct,.slice na' Ln.length nc',.slice aa' La.length ac',.slice sa' Ls.length sc',v,.slice none 0 0,.slice none 0 0] 30)∧Turn (fun q=>q=ob) Wq wp):=hid (fun h=>by
    have:k=Lq.length:=by omega
    exact⟨_,by rw[←this];exact hbu,hyv,htn⟩)
   clear hxp hsp htn hbu hk hyv
   by_cases g1:(k:Int)<(ql:Int)
   ·by_cases g2:(k:Int)<4
    ·have hkl:k<d.qs.length:=by have:=HD.out.qs.len;dsimp only at this;omega
     have hkL:k<Lq.length:=by rw[HLq.out];exact dF k hkl (by omega)
     obtain⟨b2,o2,hta,hb2,hx2⟩:=HD.out.qs.slot (show 0<ql by omega)
     dsimp only at hta hx2
     rw[hta] at e1
     obtain⟨y,hya,hyi⟩:=hx2 k hkl
     obtain⟨dy,hdy⟩:∃dy,dy=d.qs[k]:=⟨_,rfl⟩
     rw[←hdy] at hyi
     have HLK:Hid (∀h:k<Lq.length,Lq[k]=gP dy):=hid (fun h=>by
      have h':=dG (n:=4) (f:=gP) (l:=d.qs) k (by rw[←HLq.out];exact h) hkl
      simp only[←HLq.out] at h'
      rw[hdy];exact h')
     obtain⟨cs,hcs,hown,hel⟩:=HBU.out
     have hvo:=Built.own (K:=queK) ⟨cs,hcs,hown,hel⟩
     have HVO:=hid hvo;have HOWN:=hid hown;have HEL:=hid hel;have HCL:=hid hcs;have HKL2:=hid hkL
     have HK4:Hid (k+1≤4):=hid (by have:Lq.length≤4:=(by rw[HLq.out];exact bA _ _ _);omega)
     have HTA:=hid hta;have HYA:=hid hya;have HYI:=hid hyi;have HB2:=hid hb2
     clear hvo hown hel hcs hkL hta hb2 hx2 hya hyi hdy hltq
     obtain⟨y0,y1,y2,y3⟩:=(HYA.out.same (HSP.out b2 HB2.out)).que
     have HQ0':Hid ((wp.alloc (.cells #[.string y.nm,.int .i64 y.nu,.int .i64 y.vr,.string y.tx] 60)).heap[wp.heap.size]?=some (.cells #[.string y.nm,.int .i64 y.nu,.int .i64 y.vr,.string y.tx] 60)):=hid (heap_alloc_new wp _)
     go_upto_region 21 with (fail)
     clear e1 y0 y1 y2 y3
     obtain⟨Wc0,hWc0⟩:∃Wc0,Wc0=wp.alloc (.cells #[.string y.nm,.int .i64 y.nu,.int .i64 y.vr,.string y.tx] 60):=⟨_,rfl⟩
     rw[←hWc0]
     have hbq0:Below wp.heap.size wp Wc0:=by rw[hWc0];exact(Below.refl _ _).alloc lr _
     have HQ0:Hid (Wc0.drew.heap[wp.heap.size]?=some (.cells #[.string y.nm,.int .i64 y.nu,.int .i64 y.vr,.string y.tx] 60)):=hid (by rw[hWc0];exact HQ0'.out)
     have HBQ0:=hid hbq0
     have HCQ:=hid (fun (w':World) (h:w'.heap[wp.heap.size]?=some (.cells #[.string y.nm,.int .i64 y.nu,.int .i64 y.vr,.string y.tx] 60))=>(show w'.cell? ⟨wp.heap.size,0,none⟩=some (.string y.nm)∧w'.cell? ⟨wp.heap.size,3,none⟩=some (.string y.tx) from⟨aA h 0,aA h 3⟩))
     have HZQ0:=hid (show Wc0.heap.size=wp.heap.size+1 by rw[hWc0];simp)
     clear hWc0 hbq0 HQ0'
     refine fZ 9 (S:=(fun w'=>w'.heap[wp.heap.size]?=some (.cells #[.string y.nm,.int .i64 y.nu,.int .i64 y.vr,.string y.tx] 60))) (by kernel_rfl) (fun _=>HQ0.out) ?_
     refine aK (i:=0) (oi:=_) (v:=?_) rfl (by decide) (by kernel_rfl) (by kernel_rfl) (by kernel_rfl) (fun _ _ _ h=>h) (Or.inl ⟨by rfl,?_⟩) (fun _=>HQ0.out) ?_
     rotate_left
     ·intro w' hw'
      skip
      go_simp
      (try rfl)
     simp only[Act.put,pq]
     refine aK (i:=1) (oi:=_) (v:=?_) rfl (by decide) (by kernel_rfl) (by kernel_rfl) (by kernel_rfl) (fun _ _ _ h=>h) (Or.inl ⟨by rfl,?_⟩) (fun _=>HQ0.out) ?_
     rotate_left
     ·intro w' hw'
      skip
      go_simp
      (try rfl)
     simp only[Act.put,pq]
     refine bX (i:=2) (oi:=_) (v:=?_) rfl (by decide) (by kernel_rfl) (by kernel_rfl) (by kernel_rfl) (by kernel_rfl) (by kernel_rfl) (fun _ _ _ h=>h) (Or.inl ⟨by rfl,?_⟩) (fun _=>HQ0.out) ?_
     rotate_left
     ·intro w' hw'
      have hcells:=HCQ.out w' hw'
      go_simp
      (try rfl)
     simp only[Act.put,pq]
     refine aK (i:=4) (oi:=_) (v:=?_) rfl (by decide) (by kernel_rfl) (by kernel_rfl) (by kernel_rfl) (fun _ _ _ h=>h) (Or.inl ⟨by rfl,?_⟩) (fun _=>HQ0.out) ?_
     rotate_left
     ·intro w' hw'
      skip
      go_simp
      (try rfl)
     simp only[Act.put,pq]
     refine aK (i:=5) (oi:=_) (v:=?_) rfl (by decide) (by kernel_rfl) (by kernel_rfl) (by kernel_rfl) (fun _ _ _ h=>h) (Or.inl ⟨by rfl,?_⟩) (fun _=>HQ0.out) ?_
     rotate_left
     ·intro w' hw'
      skip
      go_simp
      (try rfl)
     simp only[Act.put,pq]
     refine bX (i:=6) (oi:=_) (v:=?_) rfl (by decide) (by kernel_rfl) (by kernel_rfl) (by kernel_rfl) (by kernel_rfl) (by kernel_rfl) (fun _ _ _ h=>h) (Or.inl ⟨by rfl,?_⟩) (fun _=>HQ0.out) ?_
     rotate_left
     ·intro w' hw'
      have hcells:=HCQ.out w' hw'
      go_simp
      (try rfl)
     simp only[Act.put,pq]
     refine bF (i:=3) (o:=_) (by kernel_rfl) rfl (fun K hK=>?_)
     go_simp;go_at_call 18;refine(HTX.out _ _).mono ?_
     rintro e w4 ⟨rfl,hw4⟩
     obtain rfl:=hw4
     refine hK.out _ _ (HQ0.out) ?_
     clear hK K
     (try simp only[Act.put,pq])
     refine aK (i:=8) (oi:=_) (v:=?_) rfl (by decide) (by kernel_rfl) (by kernel_rfl) (by kernel_rfl) (fun _ _ _ h=>h) (Or.inl ⟨by rfl,?_⟩) (fun _=>HQ0.out) ?_
     rotate_left
     ·intro w' hw'
      skip
      go_simp
      (try rfl)
     simp only[Act.put,pq]
     refine bF (i:=7) (o:=_) (by kernel_rfl) rfl (fun K hK=>?_)
     go_simp;go_at_call 18;refine(HTX.out _ _).mono ?_
     rintro e w4 ⟨rfl,hw4⟩
     obtain rfl:=hw4
     refine hK.out _ _ (HQ0.out) ?_
     clear hK K
     (try simp only[Act.put,pq])
     refine aN (i:=9) (o:=_) (by kernel_rfl) (by kernel_rfl) rfl (fun K hK=>?_)
     have q0:=aE HQ0.out 0
     have q1:=aA HQ0.out 0
     (try dsimp only at q1)
     go_simp
     clear q0 q1
     refine hK.out _ _ ?_
     clear hK K
     (try simp only[Act.put,pq])
     refine aN (i:=10) (o:=_) (by kernel_rfl) (by kernel_rfl) rfl (fun K hK=>?_)
     go_simp
     refine hK.out _ _ ?_
     clear hK K
     (try simp only[Act.put,pq])
     refine aN (i:=11) (o:=_) (by kernel_rfl) (by kernel_rfl) rfl (fun K hK=>?_)
     have HQ1':=aD (o:=0) (.string (aH y.nm)) HQ0.out
     simp only[List.setIfInBounds_toArray,List.set_cons_zero,List.set_cons_succ] at HQ1'
     have HQ1:(Wc0.setCell ⟨wp.heap.size,0,none⟩ (.string (aH y.nm))).drew.heap[wp.heap.size]?=some (.cells #[.string (aH y.nm),.int .i64 y.nu,.int .i64 y.vr,.string y.tx] 60):=HQ1'
     clear HQ1'
     have q0:=aE HQ1 3
     have q1:=aA HQ1 3
     (try dsimp only at q1)
     go_simp
     clear q0 q1
     refine hK.out _ _ ?_
     clear hK K
     (try simp only[Act.put,pq])
     refine eY (by kernel_rfl) ?_ _
     (try dsimp only)
     have HQ2:=aD (o:=3) (.string (aH y.tx)) HQ1
     simp only[List.setIfInBounds_toArray,List.set_cons_zero,List.set_cons_succ] at HQ2
     clear HQ1
     obtain⟨Wc9,hWc9⟩:∃Wc9,Wc9=((Wc0.setCell ⟨wp.heap.size,0,none⟩ (.string (aH y.nm))).setCell ⟨wp.heap.size,3,none⟩ (.string (aH y.tx))).drew:=⟨_,rfl⟩
     have HQ3:Hid (Wc9.heap[wp.heap.size]?=some (.cells #[.string (aH y.nm),.int .i64 y.nu,.int .i64 y.vr,.string (aH y.tx)] 60)):=hid (by rw[hWc9];exact HQ2)
     have hbq:Below wp.heap.size wp Wc9:=by rw[hWc9];exact(((HBQ0.out).setCell (p:=⟨wp.heap.size,0,none⟩) lr _).setCell (p:=⟨wp.heap.size,3,none⟩) lr _).drew
     have hzq:Wc9.heap.size=wp.heap.size+1:=by rw[hWc9];simp[World.setCell];exact HZQ0.out
     have HBQ:=hid hbq
     have HYQ:=hid ((hbq.block ob (by have h1:=HLTq.out;have h2:=HPZ.out;omega)).trans HYP.out)
     have HZ4:Hid (wp.heap.size≤Wc9.heap.size):=hid (by omega)
     have HEI:Hid (IsQue (fun q=>wp.heap.size≤q∧q<Wc9.drew.heap.size) Wc9.drew ⟨aH y.nm,y.nu,y.vr,aH y.tx⟩ (gP dy)):=hid ⟨by rw[←HYI.out.e];rfl,by have:=(aW y.nm).1;dsimp only;omega,HYI.out.rn,HYI.out.rv,by have:=(aW y.tx).1;dsimp only;omega⟩
     have HCC:=hid (fun (w':World) (h:w'.heap[wp.heap.size]?=some (.cells #[.string (aH y.nm),.int .i64 y.nu,.int .i64 y.vr,.string (aH y.tx)] 60)∧w'.heap[ob]?=some (.cells #[.int .i64 cv,.int .i64 ce,.int .i64 ct,.slice na' Ln.length nc',.slice aa' La.length ac',.slice sa' Ls.length sc',v,.slice none 0 0,.slice none 0 0] 30))=>(show w'.cell? ⟨ob,6,none⟩=some v∧w'.cell? ⟨wp.heap.size,0,none⟩=some (.string (aH y.nm))∧w'.cell? ⟨wp.heap.size,1,none⟩=some (.int .i64 y.nu)∧w'.cell? ⟨wp.heap.size,2,none⟩=some (.int .i64 y.vr)∧w'.cell? ⟨wp.heap.size,3,none⟩=some (.string (aH y.tx)) from⟨aA h.2 6,aA h.1 0,aA h.1 1,aA h.1 2,aA h.1 3⟩))
     clear hbq hzq HQ2
     go_upto_region 22 with (fail)
     rw[←hWc9]
     clear hWc9
     refine bY 8 (fun w'=>w'.heap[wp.heap.size]?=some (.cells #[.string (aH y.nm),.int .i64 y.nu,.int .i64 y.vr,.string (aH y.tx)] 60)∧w'.heap[ob]?=some (.cells #[.int .i64 cv,.int .i64 ce,.int .i64 ct,.slice na' Ln.length nc',.slice aa' La.length ac',.slice sa' Ls.length sc',v,.slice none 0 0,.slice none 0 0] 30)) (by kernel_rfl) (by kernel_rfl) (by kernel_rfl) (by decide) (⟨HQ3.out,HYQ.out⟩) (fun hS=>?_)
     simp only[zdm,zdn,zdp,zdq]
     refine tkQ 0 (v:=?_) ?_ hS ?_;rotate_left;· intro w' hw';have hcells:=HCC.out w' hw';go_simp;(try rfl)
     simp only[Act.put,pq]
     refine tkQ 1 (v:=?_) ?_ hS ?_;rotate_left;· intro w' hw';have hcells:=HCC.out w' hw';go_simp;(try rfl)
     simp only[Act.put,pq]
     refine tkQ 2 (v:=?_) ?_ hS ?_;rotate_left;· intro w' hw';have hcells:=HCC.out w' hw';go_simp;(try rfl)
     simp only[Act.put,pq]
     refine tkQ 3 (v:=?_) ?_ hS ?_;rotate_left;· intro w' hw';have hcells:=HCC.out w' hw';go_simp;(try rfl)
     simp only[Act.put,pq]
     refine tkQ 4 (v:=?_) ?_ hS ?_;rotate_left;· intro w' hw';have hcells:=HCC.out w' hw';go_simp;(try rfl)
     simp only[Act.put,pq]
     refine tkQ 5 (v:=?_) ?_ hS ?_;rotate_left;· intro w' hw';have hcells:=HCC.out w' hw';go_simp;(try rfl)
     simp only[Act.put,pq]
     refine ry [6] ?_
     refine arQ fun K hK=>?_
     go_simp
     refine hK.out _ _ (⟨aC _ hS.1,aC _ hS.2⟩) (fun hS=>?_)
     clear hK K
     (try simp only[Act.put,pq])
     refine ry [7] ?_
     refine arQ fun K hK=>?_
     refine step_append_lies _ (by rfl) _ _ _ (by rfl) Wq.heap.size 60 tQ _ 4 48 Tryz.underlying24 qi0 qi1 qi2 qi3 rfl (by omega) v k (cs.flatMap Que.cs) (by rfl) ((cW HOWN.out HBQ.out.drew).alloc (.cells #[.string (aH y.nm),.int .i64 y.nu,.int .i64 y.vr,.string (aH y.tx)] 60)) ⟨Wc9.drew.heap.size,0,none⟩ 1 1 (Que.cs ⟨aH y.nm,y.nu,y.vr,aH y.tx⟩) (by rfl) (by rfl) (World.news_of_block (heap_alloc_new Wc9.drew _)) (by simp[Que.cs,Value.oneCell']) (by omega) (by unfold maxLen;have:=HK4.out;omega) (by have:=HK4.out;omega) (by have h1:=HZ4.out;have h2:=HPZ.out;simp;omega) (Wc9.drew.heap.size+1) (by simp) ?_
     intro gg cap5 w5 hown2 hgrow hat hlt2
     have HO2:=hid hown2;have HG:=hid hgrow;have HAT:=hid hat
     refine hK.out _ _ (⟨aY hgrow hS.1 (fun e=>by have h1:=(HVO.out _ e.symm).2;omega),aY hgrow hS.2 (fun e=>by have h1:=(HVO.out _ e.symm).1;have h2:=HLTq.out;omega)⟩) (fun hS=>?_)
     clear hK K
     (try simp only[Act.put,pq])
     refine wpAnyH_done (by kernel_rfl) ?_ _
     (try dsimp only)
     have HY5:=hid hS.2
     have p5:=aE hS.2 6
     have p6:=aA hS.2 6
     (try dsimp only at p6)
     clear hS
     go_wp2
     clear p5 p6
     go_roundw
     case rel =>
      have hpz:=HPZ.out
      have hlt:=HLTq.out
      have hbE:Below wp.heap.size wp Wc9.drew:=HBQ.out.drew
      have hzE:=hbE.size
      have hpush:Built queK 60 Wq.heap.size w5 (.slice (some ⟨gg,0,none⟩) (k+1) cap5) (k+1) Lq :=
       Built.push (K:=queK) (N:=wp.heap.size) (w1:=Wc9.drew) (o:=(.cells #[.string (aH y.nm),.int .i64 y.nu,.int .i64 y.vr,.string (aH y.tx)] 60)) (c:=⟨aH y.nm,y.nu,y.vr,aH y.tx⟩) HCL.out
        (fun j hj hj'=>queK.same (fun q hq=>⟨⟨hq.1,by have:=hq.2.1;omega,hq.2.2⟩,hbE.block q hq.2.1⟩) (HEL.out j hj hj')) HKL2.out (by rw[HLK.out HKL2.out];exact HEI.out) hpz (fun r e=>(HVO.out r e).2) HO2.out HG.out HAT.out
      have hyn:=aD (o:=6) (.slice (some ⟨gg,0,none⟩) (k+1) cap5) HY5.out
      simp only[List.setIfInBounds_toArray,List.set_cons_zero,List.set_cons_succ] at hyn
      have ht2:Turn (fun q=>q=ob∨v.ownBlock=some q) wp (w5.setCell ⟨ob,6,none⟩ (.slice (some ⟨gg,0,none⟩) (k+1) cap5)):=(((Turn.of_below hbE).trans (Turn.of_below ((Below.refl _ Wc9.drew).alloc lr (.cells #[.string (aH y.nm),.int .i64 y.nu,.int .i64 y.vr,.string (aH y.tx)] 60)))).trans (Turn.of_grown HG.out (fun r e=>.inr e))).trans (Turn.setCell ⟨ob,6,none⟩ _ (.inl rfl))
      exact⟨k+1,_,HKL2.out,by go_num,hpush.set _ _ (by show ob<Wq.heap.size;omega),hyn,HTN.out.fresh' ht2 (fun q hq hs=>by rcases hs with h | h;exact h;exact absurd (HVO.out q h).1 (by omega))⟩
     case measure=>simp[intOf];have:=HKL2.out;omega
    ·have hx:¬ k<Lq.length:=fun h=>g2 (by have:=(aZ (n:=4) (f:=gP) (l:=d.qs) k (by rw[←HLq.out];exact h)).2;omega)
     have HXX:=hid hx
     clear hx hltq
     go_wp2
     go_meet
     exact EX.out HXX.out
   ·have hx:¬ k<Lq.length:=fun h=>g1 (by have:=(aZ (n:=4) (f:=gP) (l:=d.qs) k (by rw[←HLq.out];exact h)).1;have h2:=HD.out.qs.len;dsimp only at h2;omega)
    have HXX:=hid hx
    clear hx hltq
    go_wp2
    go_meet
    exact EX.out HXX.out
 case rest =>
 obtain⟨vq,hbuq,hyq,htq⟩:=hcut
 obtain⟨Wl,rfl⟩:∃u:World,u=wc:=⟨_,rfl⟩
 obtain⟨qa',qc',rfl,_,_,_⟩:=hbuq.shape
 have hltl:=HLTq.out
 have hzl:=htq.size
 have HBq:=hid hbuq;have HTq:=hid htq
 have HOl:=hid hyq
 have HMl:=hid (htq.keep HMq.out (by omega))
 have HXXl:=hid (htq.keep HXXq.out (by omega))
 have HRRl:=hid (htq.keep HRRq.out (by omega))
 have HSl:=hid (fun (q:Nat) (hq:q<w.heap.size)=>(htq.block q (by omega) (by omega)).trans (HSq.out q hq))
 have HLTl:Hid (w.heap.size≤xb∧xb<mb∧xb+1<mb∧mb<ob∧ob<Wl.heap.size):=hid (by omega)
 clear hbuq hyq htq hltl hzl
 obtain⟨Ll,hLl⟩:∃Ll,Ll=bE 4 gB d.ls:=⟨_,rfl⟩
 have HLl:=hid hLl
 clear hLl
 go_upto_block 8 with (fail)
 go_cut [] (fun wz=>∃v,Built letK 70 Wl.heap.size wz v Ll.length Ll∧wz.heap[ob]?=some (.cells #[.int .i64 cv,.int .i64 ce,.int .i64 ct,.slice na' Ln.length nc',.slice aa' La.length ac',.slice sa' Ls.length sc',.slice qa' Lq.length qc',v,.slice none 0 0] 30)∧Turn (fun q=>q=ob) Wl wz)
 case first =>
  go_wp2
  go_loopw [12] (fun i wz=>∃(k:Nat) (v:Value),k≤Ll.length∧i=.int .i64 k∧Built letK 70 Wl.heap.size wz v k Ll∧wz.heap[ob]?=some (.cells #[.int .i64 cv,.int .i64 ce,.int .i64 ct,.slice na' Ln.length nc',.slice aa' La.length ac',.slice sa' Ls.length sc',.slice qa' Lq.length qc',v,.slice none 0 0] 30)∧Turn (fun q=>q=ob) Wl wz) (fun i _=>Ll.length-(intOf i).toNat)
  case atStart=>exact⟨0,_,Nat.zero_le _,rfl,Built.nil _ _ _ _,HOl.out,Turn.refl _ _⟩
  case round =>
   obtain⟨k,v,hk,rfl,hbu,hyv,htn⟩:=hrel
   obtain⟨wp,rfl⟩:∃w1:World,w1=wr:=⟨_,rfl⟩
   have hltl:=HLTl.out
   have hxp:=htn.keep HMl.out (by omega)
   have hsp:∀q,q<w.heap.size→wp.heap[q]?=w.heap[q]?:=fun q hq=>(htn.block q (by omega) (by omega)).trans (HSl.out q hq)
   have e1:=aA hxp 7
   (try dsimp only at e1)
   have HXP:=hid hxp;have HYP:=hid hyv;have HSP:=hid hsp;have HTN:=hid htn;have HBU:=hid hbu;have HKK:=hid hk
   have HPZ:=hid htn.size
   have hk0:(0:Int)≤(k:Int):=by omega
   have EX:Hid (¬ k<Ll.length→∃v,Built letK 70 Wl.heap.size wp v Ll.length Ll∧wp.heap[ob]?=some (.cells #[.int .i64 cv,.int .i64 ce,.int .i64 ct,.slice na' Ln.length nc',.slice aa' La.length ac',.slice sa' Ls.length sc',.slice qa' Lq.length qc',v,.slice none 0 0] 30)∧Turn (fun q=>q=ob) Wl wp):=hid (fun h=>by
    have:k=Ll.length:=by omega
    exact⟨_,by rw[←this];exact hbu,hyv,htn⟩)
   clear hxp hsp htn hbu hk hyv
   by_cases g1:(k:Int)<(ll:Int)
   ·by_cases g2:(k:Int)<4
    ·have hkl:k<d.ls.length:=by have:=HD.out.ls.len;dsimp only at this;omega
     have hkL:k<Ll.length:=by rw[HLl.out];exact dF k hkl (by omega)
     obtain⟨b2,o2,hta,hb2,hx2⟩:=HD.out.ls.slot (show 0<ll by omega)
     dsimp only at hta hx2
     rw[hta] at e1
     obtain⟨y,hya,hyi⟩:=hx2 k hkl
     obtain⟨dy,hdy⟩:∃dy,dy=d.ls[k]:=⟨_,rfl⟩
     rw[←hdy] at hyi
     have HLK:Hid (∀h:k<Ll.length,Ll[k]=gB dy):=hid (fun h=>by
      have h':=dG (n:=4) (f:=gB) (l:=d.ls) k (by rw[←HLl.out];exact h) hkl
      simp only[←HLl.out] at h'
      rw[hdy];exact h')
     obtain⟨cs,hcs,hown,hel⟩:=HBU.out
     have hvo:=Built.own (K:=letK) ⟨cs,hcs,hown,hel⟩
     have HVO:=hid hvo;have HOWN:=hid hown;have HEL:=hid hel;have HCL:=hid hcs;have HKL2:=hid hkL
     have HK4:Hid (k+1≤4):=hid (by have:Ll.length≤4:=(by rw[HLl.out];exact bA _ _ _);omega)
     have HTA:=hid hta;have HYA:=hid hya;have HYI:=hid hyi;have HB2:=hid hb2
     clear hvo hown hel hcs hkL hta hb2 hx2 hya hyi hdy hltl
     obtain⟨y0,y1,y2,y3,y4,y5,y6,y7,y8,y9,y10,y11,y12⟩:=(HYA.out.same (HSP.out b2 HB2.out)).let'
     have HQ0':Hid ((wp.alloc (.cells #[.int .i64 y.m.st.e,.slice y.m.st.a y.m.st.n y.m.st.c,.int .i64 y.m.m,.slice y.m.a y.m.n y.m.c,.int .i64 y.m.b.k,.int .i64 y.m.b.i,.int .i64 y.m.b.s,.string y.m.b.t,.slice y.m.b.la y.m.b.ll y.m.b.lc,.slice y.m.b.fa y.m.b.fl y.m.b.fc,.string y.nd,.string y.tx,.int .i64 y.vr] 70)).heap[wp.heap.size]?=some (.cells #[.int .i64 y.m.st.e,.slice y.m.st.a y.m.st.n y.m.st.c,.int .i64 y.m.m,.slice y.m.a y.m.n y.m.c,.int .i64 y.m.b.k,.int .i64 y.m.b.i,.int .i64 y.m.b.s,.string y.m.b.t,.slice y.m.b.la y.m.b.ll y.m.b.lc,.slice y.m.b.fa y.m.b.fl y.m.b.fc,.string y.nd,.string y.tx,.int .i64 y.vr] 70)):=hid (heap_alloc_new wp _)
     go_upto_region 27 with (fail)
     clear e1 y0 y1 y2 y3 y4 y5 y6 y7 y8 y9 y10 y11 y12
     obtain⟨Wc0,hWc0⟩:∃Wc0,Wc0=wp.alloc (.cells #[.int .i64 y.m.st.e,.slice y.m.st.a y.m.st.n y.m.st.c,.int .i64 y.m.m,.slice y.m.a y.m.n y.m.c,.int .i64 y.m.b.k,.int .i64 y.m.b.i,.int .i64 y.m.b.s,.string y.m.b.t,.slice y.m.b.la y.m.b.ll y.m.b.lc,.slice y.m.b.fa y.m.b.fl y.m.b.fc,.string y.nd,.string y.tx,.int .i64 y.vr] 70):=⟨_,rfl⟩
     rw[←hWc0]
     have hbq0:Below wp.heap.size wp Wc0:=by rw[hWc0];exact(Below.refl _ _).alloc lr _
     have HQ0:Hid (Wc0.drew.heap[wp.heap.size]?=some (.cells #[.int .i64 y.m.st.e,.slice y.m.st.a y.m.st.n y.m.st.c,.int .i64 y.m.m,.slice y.m.a y.m.n y.m.c,.int .i64 y.m.b.k,.int .i64 y.m.b.i,.int .i64 y.m.b.s,.string y.m.b.t,.slice y.m.b.la y.m.b.ll y.m.b.lc,.slice y.m.b.fa y.m.b.fl y.m.b.fc,.string y.nd,.string y.tx,.int .i64 y.vr] 70)):=hid (by rw[hWc0];exact HQ0'.out)
     have HBQ0:=hid hbq0
     have HZQ0:=hid (show Wc0.heap.size=wp.heap.size+1 by rw[hWc0];simp)
     have HYQ:Hid (Wc0.drew.heap[ob]?=some (.cells #[.int .i64 cv,.int .i64 ce,.int .i64 ct,.slice na' Ln.length nc',.slice aa' La.length ac',.slice sa' Ls.length sc',.slice qa' Lq.length qc',v,.slice none 0 0] 30)):=hid ((hbq0.block ob (by have h1:=HLTl.out;have h2:=HPZ.out;omega)).trans HYP.out)
     have HCC:=hid (fun (w':World) (h:w'.heap[wp.heap.size]?=some (.cells #[.int .i64 y.m.st.e,.slice y.m.st.a y.m.st.n y.m.st.c,.int .i64 y.m.m,.slice y.m.a y.m.n y.m.c,.int .i64 y.m.b.k,.int .i64 y.m.b.i,.int .i64 y.m.b.s,.string y.m.b.t,.slice y.m.b.la y.m.b.ll y.m.b.lc,.slice y.m.b.fa y.m.b.fl y.m.b.fc,.string y.nd,.string y.tx,.int .i64 y.vr] 70)∧w'.heap[ob]?=some (.cells #[.int .i64 cv,.int .i64 ce,.int .i64 ct,.slice na' Ln.length nc',.slice aa' La.length ac',.slice sa' Ls.length sc',.slice qa' Lq.length qc',v,.slice none 0 0] 30))=>(show w'.cell? ⟨ob,7,none⟩=some v∧w'.cell? ⟨wp.heap.size,0,none⟩=some (.int .i64 y.m.st.e)∧w'.cell? ⟨wp.heap.size,1,none⟩=some (.slice y.m.st.a y.m.st.n y.m.st.c)∧w'.cell? ⟨wp.heap.size,2,none⟩=some (.int .i64 y.m.m)∧w'.cell? ⟨wp.heap.size,3,none⟩=some (.slice y.m.a y.m.n y.m.c)∧w'.cell? ⟨wp.heap.size,4,none⟩=some (.int .i64 y.m.b.k)∧w'.cell? ⟨wp.heap.size,5,none⟩=some (.int .i64 y.m.b.i)∧w'.cell? ⟨wp.heap.size,6,none⟩=some (.int .i64 y.m.b.s)∧w'.cell? ⟨wp.heap.size,7,none⟩=some (.string y.m.b.t)∧w'.cell? ⟨wp.heap.size,8,none⟩=some (.slice y.m.b.la y.m.b.ll y.m.b.lc)∧w'.cell? ⟨wp.heap.size,9,none⟩=some (.slice y.m.b.fa y.m.b.fl y.m.b.fc)∧w'.cell? ⟨wp.heap.size,10,none⟩=some (.string y.nd)∧w'.cell? ⟨wp.heap.size,11,none⟩=some (.string y.tx)∧w'.cell? ⟨wp.heap.size,12,none⟩=some (.int .i64 y.vr) from⟨aA h.2 7,aA h.1 0,aA h.1 1,aA h.1 2,aA h.1 3,aA h.1 4,aA h.1 5,aA h.1 6,aA h.1 7,aA h.1 8,aA h.1 9,aA h.1 10,aA h.1 11,aA h.1 12⟩))
     have HCALL:=hid (gX y.m dy.m Wc0.drew (HYI.out.m.same (S':=(· < Wc0.drew.heap.size)) (w':=Wc0.drew) fun q hq=>⟨by have h1:=HLTl.out;have h2:=HPZ.out;have h3:=HZQ0.out;simp;omega,(hbq0.block q (by have h1:=HLTl.out;have h2:=HPZ.out;omega)).trans (HSP.out q hq)⟩))
     clear hWc0 hbq0 HQ0'
     refine bY 21 (fun w'=>w'.heap[wp.heap.size]?=some (.cells #[.int .i64 y.m.st.e,.slice y.m.st.a y.m.st.n y.m.st.c,.int .i64 y.m.m,.slice y.m.a y.m.n y.m.c,.int .i64 y.m.b.k,.int .i64 y.m.b.i,.int .i64 y.m.b.s,.string y.m.b.t,.slice y.m.b.la y.m.b.ll y.m.b.lc,.slice y.m.b.fa y.m.b.fl y.m.b.fc,.string y.nd,.string y.tx,.int .i64 y.vr] 70)∧w'.heap[ob]?=some (.cells #[.int .i64 cv,.int .i64 ce,.int .i64 ct,.slice na' Ln.length nc',.slice aa' La.length ac',.slice sa' Ls.length sc',.slice qa' Lq.length qc',v,.slice none 0 0] 30)) (by kernel_rfl) (by kernel_rfl) (by kernel_rfl) (by decide) (⟨HQ0.out,HYQ.out⟩) (fun hS=>?_)
     simp only[zdm,zdn,zdp,zdq]
     refine tkQ 0 (v:=?_) ?_ hS ?_;rotate_left;· intro w' hw';have hcells:=HCC.out w' hw';go_simp;(try rfl)
     simp only[Act.put,pq]
     refine tkQ 1 (v:=?_) ?_ hS ?_;rotate_left;· intro w' hw';have hcells:=HCC.out w' hw';go_simp;(try rfl)
     simp only[Act.put,pq]
     refine tkQ 2 (v:=?_) ?_ hS ?_;rotate_left;· intro w' hw';have hcells:=HCC.out w' hw';go_simp;(try rfl)
     simp only[Act.put,pq]
     refine tkQ 3 (v:=?_) ?_ hS ?_;rotate_left;· intro w' hw';have hcells:=HCC.out w' hw';go_simp;(try rfl)
     simp only[Act.put,pq]
     refine tkQ 4 (v:=?_) ?_ hS ?_;rotate_left;· intro w' hw';have hcells:=HCC.out w' hw';go_simp;(try rfl)
     simp only[Act.put,pq]
     refine tkQ 5 (v:=?_) ?_ hS ?_;rotate_left;· intro w' hw';have hcells:=HCC.out w' hw';go_simp;(try rfl)
     simp only[Act.put,pq]
     refine tkQ 6 (v:=?_) ?_ hS ?_;rotate_left;· intro w' hw';have hcells:=HCC.out w' hw';go_simp;(try rfl)
     simp only[Act.put,pq]
     refine tkQ 8 (v:=?_) ?_ hS ?_;rotate_left;· intro w' hw';have hcells:=HCC.out w' hw';go_simp;(try rfl)
     simp only[Act.put,pq]
     refine tkQ 9 (v:=?_) ?_ hS ?_;rotate_left;· intro w' hw';have hcells:=HCC.out w' hw';go_simp;(try rfl)
     simp only[Act.put,pq]
     refine tkQ 10 (v:=?_) ?_ hS ?_;rotate_left;· intro w' hw';have hcells:=HCC.out w' hw';go_simp;(try rfl)
     simp only[Act.put,pq]
     refine tkQ 12 (v:=?_) ?_ hS ?_;rotate_left;· intro w' hw';have hcells:=HCC.out w' hw';go_simp;(try rfl)
     simp only[Act.put,pq]
     refine tkQ 13 (v:=?_) ?_ hS ?_;rotate_left;· intro w' hw';have hcells:=HCC.out w' hw';go_simp;(try rfl)
     simp only[Act.put,pq]
     refine tkQ 14 (v:=?_) ?_ hS ?_;rotate_left;· intro w' hw';have hcells:=HCC.out w' hw';go_simp;(try rfl)
     simp only[Act.put,pq]
     refine tkQ 16 (v:=?_) ?_ hS ?_;rotate_left;· intro w' hw';have hcells:=HCC.out w' hw';go_simp;(try rfl)
     simp only[Act.put,pq]
     refine tkQ 17 (v:=?_) ?_ hS ?_;rotate_left;· intro w' hw';have hcells:=HCC.out w' hw';go_simp;(try rfl)
     simp only[Act.put,pq]
     refine ry [7] ?_
     refine arQ fun K hK=>?_
     go_simp;go_at_call 20;refine HCALL.out.mono ?_
     rintro e w4 ⟨c4,rfl,hb4,hi4⟩
     have HB4:=hid hb4;have HI4:=hid hi4;have HZ4:Hid (wp.heap.size≤w4.heap.size):=hid (by have h1:=hb4.size;have h2:=HZQ0.out;simp only[World.size_drew] at h1;omega)
     refine hK.out _ _ (⟨aB hb4 hS.1,aB hb4 hS.2⟩) (fun hS=>?_)
     clear hK K
     (try simp only[Act.put,pq])
     refine ry [11] ?_
     refine arQ fun K hK=>?_
     go_simp;go_at_call 18;refine(HTX.out _ _).mono ?_
     rintro e w9 ⟨rfl,hw9⟩
     obtain rfl:=hw9
     refine hK.out _ _ (hS) (fun hS=>?_)
     clear hK K
     (try simp only[Act.put,pq])
     refine ry [15] ?_
     refine arQ fun K hK=>?_
     go_simp;go_at_call 18;refine(HTX.out _ _).mono ?_
     rintro e w9 ⟨rfl,hw9⟩
     obtain rfl:=hw9
     refine hK.out _ _ (hS) (fun hS=>?_)
     clear hK K
     (try simp only[Act.put,pq])
     refine tkQ 18 (v:=?_) ?_ hS ?_;rotate_left;· intro w' hw';have hcells:=HCC.out w' hw';go_simp;(try rfl)
     simp only[Act.put,pq]
     refine ry [19] ?_
     refine arQ fun K hK=>?_
     go_simp
     refine hK.out _ _ (⟨aC _ hS.1,aC _ hS.2⟩) (fun hS=>?_)
     clear hK K
     (try simp only[Act.put,pq])
     refine ry [20] ?_
     refine arQ fun K hK=>?_
     refine step_append_lies _ (by rfl) _ _ _ (by rfl) Wl.heap.size 70 tL _ 13 192 Tryz.underlying25 li0 li1 li2 li3 rfl (by omega) v k (cs.flatMap LetC.cs) (by rfl) ((cW HOWN.out ((HBQ0.out.drew).trans (HB4.out.mono (by have:=HBQ0.out.size;simp;omega)))).alloc (.cells #[.int .i64 c4.st.e,.slice c4.st.a c4.st.n c4.st.c,.int .i64 c4.m,.slice c4.a c4.n c4.c,.int .i64 c4.b.k,.int .i64 c4.b.i,.int .i64 c4.b.s,.string c4.b.t,.slice c4.b.la c4.b.ll c4.b.lc,.slice c4.b.fa c4.b.fl c4.b.fc,.string (aH y.nd),.string (aH y.tx),.int .i64 y.vr] 70)) ⟨w4.heap.size,0,none⟩ 1 1 (LetC.cs ⟨c4,aH y.nd,aH y.tx,y.vr⟩) (by rfl) (by rfl) (World.news_of_block (heap_alloc_new w4 _)) (by simp[LetC.cs,Value.oneCell']) (by omega) (by unfold maxLen;have:=HK4.out;omega) (by have:=HK4.out;omega) (by have h1:=HZ4.out;have h2:=HPZ.out;simp;omega) (w4.heap.size+1) (by simp) ?_
     intro gg cap5 w5 hown2 hgrow hat hlt2
     have HO2:=hid hown2;have HG:=hid hgrow;have HAT:=hid hat
     refine hK.out _ _ (⟨aY hgrow hS.1 (fun e=>by have h1:=(HVO.out _ e.symm).2;omega),aY hgrow hS.2 (fun e=>by have h1:=(HVO.out _ e.symm).1;have h2:=HLTl.out;omega)⟩) (fun hS=>?_)
     clear hK K
     (try simp only[Act.put,pq])
     refine wpAnyH_done (by kernel_rfl) ?_ _
     (try dsimp only)
     have HY5:=hid hS.2
     have p5:=aE hS.2 7
     have p6:=aA hS.2 7
     (try dsimp only at p6)
     clear hS
     have HEI:Hid (IsLet (fun q=>wp.heap.size≤q∧q<w4.heap.size) w4 ⟨c4,aH y.nd,aH y.tx,y.vr⟩ (gB dy)):=hid ⟨HI4.out.same fun q hq=>⟨⟨by have h1:=hq.1;have h2:=HZQ0.out;simp only[World.size_drew] at h1;omega,hq.2⟩,rfl⟩,by rw[HYI.out.nd];rfl,by have:=(aW y.nd).1;dsimp only;omega,by rw[HYI.out.tx];rfl,by have:=(aW y.tx).1;dsimp only;omega,HYI.out.vr,HYI.out.rv⟩
     go_wp2
     clear p5 p6
     go_roundw
     case rel =>
      have hpz:=HPZ.out
      have hlt:=HLTl.out
      have hbE:Below wp.heap.size wp w4:=((HBQ0.out.drew).trans (HB4.out.mono (by have:=HBQ0.out.size;simp;omega)))
      have hzE:=hbE.size
      have hpush:Built letK 70 Wl.heap.size w5 (.slice (some ⟨gg,0,none⟩) (k+1) cap5) (k+1) Ll :=
       Built.push (K:=letK) (N:=wp.heap.size) (w1:=w4) (o:=(.cells #[.int .i64 c4.st.e,.slice c4.st.a c4.st.n c4.st.c,.int .i64 c4.m,.slice c4.a c4.n c4.c,.int .i64 c4.b.k,.int .i64 c4.b.i,.int .i64 c4.b.s,.string c4.b.t,.slice c4.b.la c4.b.ll c4.b.lc,.slice c4.b.fa c4.b.fl c4.b.fc,.string (aH y.nd),.string (aH y.tx),.int .i64 y.vr] 70)) (c:=⟨c4,aH y.nd,aH y.tx,y.vr⟩) HCL.out
        (fun j hj hj'=>letK.same (fun q hq=>⟨⟨hq.1,by have:=hq.2.1;omega,hq.2.2⟩,hbE.block q hq.2.1⟩) (HEL.out j hj hj')) HKL2.out (by rw[HLK.out HKL2.out];exact HEI.out) hpz (fun r e=>(HVO.out r e).2) HO2.out HG.out HAT.out
      have hyn:=aD (o:=7) (.slice (some ⟨gg,0,none⟩) (k+1) cap5) HY5.out
      simp only[List.setIfInBounds_toArray,List.set_cons_zero,List.set_cons_succ] at hyn
      have ht2:Turn (fun q=>q=ob∨v.ownBlock=some q) wp (w5.setCell ⟨ob,7,none⟩ (.slice (some ⟨gg,0,none⟩) (k+1) cap5)):=(((Turn.of_below hbE).trans (Turn.of_below ((Below.refl _ w4).alloc lr (.cells #[.int .i64 c4.st.e,.slice c4.st.a c4.st.n c4.st.c,.int .i64 c4.m,.slice c4.a c4.n c4.c,.int .i64 c4.b.k,.int .i64 c4.b.i,.int .i64 c4.b.s,.string c4.b.t,.slice c4.b.la c4.b.ll c4.b.lc,.slice c4.b.fa c4.b.fl c4.b.fc,.string (aH y.nd),.string (aH y.tx),.int .i64 y.vr] 70)))).trans (Turn.of_grown HG.out (fun r e=>.inr e))).trans (Turn.setCell ⟨ob,7,none⟩ _ (.inl rfl))
      exact⟨k+1,_,HKL2.out,by go_num,hpush.set _ _ (by show ob<Wl.heap.size;omega),hyn,HTN.out.fresh' ht2 (fun q hq hs=>by rcases hs with h | h;exact h;exact absurd (HVO.out q h).1 (by omega))⟩
     case measure=>simp[intOf];have:=HKL2.out;omega
    ·have hx:¬ k<Ll.length:=fun h=>g2 (by have:=(aZ (n:=4) (f:=gB) (l:=d.ls) k (by rw[←HLl.out];exact h)).2;omega)
     have HXX:=hid hx
     clear hx hltl
     go_wp2
     go_meet
     exact EX.out HXX.out
   ·have hx:¬ k<Ll.length:=fun h=>g1 (by have:=(aZ (n:=4) (f:=gB) (l:=d.ls) k (by rw[←HLl.out];exact h)).1;have h2:=HD.out.ls.len;dsimp only at h2;omega)
    have HXX:=hid hx
    clear hx hltl
    go_wp2
    go_meet
    exact EX.out HXX.out
 case rest =>
 obtain⟨vl,hbul,hyl,htl⟩:=hcut
 obtain⟨Wp,rfl⟩:∃u:World,u=wc:=⟨_,rfl⟩
 obtain⟨la',lc',rfl,_,_,_⟩:=hbul.shape
 have hltp:=HLTl.out
 have hzp:=htl.size
 have HBl:=hid hbul;have HTl:=hid htl
 have HOp:=hid hyl
 have HMp:=hid (htl.keep HMl.out (by omega))
 have HXXp:=hid (htl.keep HXXl.out (by omega))
 have HRRp:=hid (htl.keep HRRl.out (by omega))
 have HSp:=hid (fun (q:Nat) (hq:q<w.heap.size)=>(htl.block q (by omega) (by omega)).trans (HSl.out q hq))
 have HLTp:Hid (w.heap.size≤xb∧xb<mb∧xb+1<mb∧mb<ob∧ob<Wp.heap.size):=hid (by omega)
 clear hbul hyl htl hltp hzp
 obtain⟨Lp,hLp⟩:∃Lp,Lp=bE 4 iU d.ps:=⟨_,rfl⟩
 have HLp:=hid hLp
 clear hLp
 go_upto_block 10 with (fail)
 go_cut [] (fun wz=>∃v,Built efK 75 Wp.heap.size wz v Lp.length Lp∧wz.heap[ob]?=some (.cells #[.int .i64 cv,.int .i64 ce,.int .i64 ct,.slice na' Ln.length nc',.slice aa' La.length ac',.slice sa' Ls.length sc',.slice qa' Lq.length qc',.slice la' Ll.length lc',v] 30)∧Turn (fun q=>q=ob) Wp wz)
 case first =>
  go_wp2
  go_loopw [14] (fun i wz=>∃(k:Nat) (v:Value),k≤Lp.length∧i=.int .i64 k∧Built efK 75 Wp.heap.size wz v k Lp∧wz.heap[ob]?=some (.cells #[.int .i64 cv,.int .i64 ce,.int .i64 ct,.slice na' Ln.length nc',.slice aa' La.length ac',.slice sa' Ls.length sc',.slice qa' Lq.length qc',.slice la' Ll.length lc',v] 30)∧Turn (fun q=>q=ob) Wp wz) (fun i _=>Lp.length-(intOf i).toNat)
  case atStart=>exact⟨0,_,Nat.zero_le _,rfl,Built.nil _ _ _ _,HOp.out,Turn.refl _ _⟩
  case round =>
   obtain⟨k,v,hk,rfl,hbu,hyv,htn⟩:=hrel
   obtain⟨wp,rfl⟩:∃w1:World,w1=wr:=⟨_,rfl⟩
   have hltp:=HLTp.out
   have hxp:=htn.keep HXXp.out (by omega)
   have hsp:∀q,q<w.heap.size→wp.heap[q]?=w.heap[q]?:=fun q hq=>(htn.block q (by omega) (by omega)).trans (HSp.out q hq)
   have e1:=aA hxp 8
   (try dsimp only at e1)
   have HXP:=hid hxp;have HYP:=hid hyv;have HSP:=hid hsp;have HTN:=hid htn;have HBU:=hid hbu;have HKK:=hid hk
   have HPZ:=hid htn.size
   have hk0:(0:Int)≤(k:Int):=by omega
   have EX:Hid (¬ k<Lp.length→∃v,Built efK 75 Wp.heap.size wp v Lp.length Lp∧wp.heap[ob]?=some (.cells #[.int .i64 cv,.int .i64 ce,.int .i64 ct,.slice na' Ln.length nc',.slice aa' La.length ac',.slice sa' Ls.length sc',.slice qa' Lq.length qc',.slice la' Ll.length lc',v] 30)∧Turn (fun q=>q=ob) Wp wp):=hid (fun h=>by
    have:k=Lp.length:=by omega
    exact⟨_,by rw[←this];exact hbu,hyv,htn⟩)
   clear hxp hsp htn hbu hk hyv
   by_cases g1:(k:Int)<(pl:Int)
   ·by_cases g2:(k:Int)<4
    ·have hkl:k<d.ps.length:=by have:=HD.out.ps.len;dsimp only at this;omega
     have hkL:k<Lp.length:=by rw[HLp.out];exact dF k hkl (by omega)
     obtain⟨b2,o2,hta,hb2,hx2⟩:=HD.out.ps.slot (show 0<pl by omega)
     dsimp only at hta hx2
     rw[hta] at e1
     obtain⟨y,hya,hyi⟩:=hx2 k hkl
     obtain⟨dy,hdy⟩:∃dy,dy=d.ps[k]:=⟨_,rfl⟩
     rw[←hdy] at hyi
     have HLK:Hid (∀h:k<Lp.length,Lp[k]=iU dy):=hid (fun h=>by
      have h':=dG (n:=4) (f:=iU) (l:=d.ps) k (by rw[←HLp.out];exact h) hkl
      simp only[←HLp.out] at h'
      rw[hdy];exact h')
     obtain⟨cs,hcs,hown,hel⟩:=HBU.out
     have hvo:=Built.own (K:=efK) ⟨cs,hcs,hown,hel⟩
     have HVO:=hid hvo;have HOWN:=hid hown;have HEL:=hid hel;have HCL:=hid hcs;have HKL2:=hid hkL
     have HK4:Hid (k+1≤4):=hid (by have:Lp.length≤4:=(by rw[HLp.out];exact bA _ _ _);omega)
     have HTA:=hid hta;have HYA:=hid hya;have HYI:=hid hyi;have HB2:=hid hb2
     clear hvo hown hel hcs hkL hta hb2 hx2 hya hyi hdy hltp
     have hld:=qG (o:=o2+k * 18) (HYA.out.same (HSP.out b2 HB2.out))
     have hst:=fun z hz=>yS wp z hz y
     dsimp only[EfC.cs] at hld hst
     have HQ0':Hid ((wp.alloc (.cells #[.int .i64 y.k,.string y.nm,.int .i64 y.nu,.string y.tx,.int .i64 y.st.e,.slice y.st.a y.st.n y.st.c,.int .i64 y.rs.e,.slice y.rs.a y.rs.n y.rs.c,.string y.sv,.int .i64 y.ca,.bool y.un,.int .i64 y.bd.k,.int .i64 y.bd.i,.int .i64 y.bd.s,.string y.bd.t,.slice y.bd.la y.bd.ll y.bd.lc,.slice y.bd.fa y.bd.fl y.bd.fc,.string y.nd] 75)).heap[wp.heap.size]?=some (.cells #[.int .i64 y.k,.string y.nm,.int .i64 y.nu,.string y.tx,.int .i64 y.st.e,.slice y.st.a y.st.n y.st.c,.int .i64 y.rs.e,.slice y.rs.a y.rs.n y.rs.c,.string y.sv,.int .i64 y.ca,.bool y.un,.int .i64 y.bd.k,.int .i64 y.bd.i,.int .i64 y.bd.s,.string y.bd.t,.slice y.bd.la y.bd.ll y.bd.lc,.slice y.bd.fa y.bd.fl y.bd.fc,.string y.nd] 75)):=hid (heap_alloc_new wp _)
     go_upto_region 32 with (fail)
     clear e1 hld hst
     obtain⟨Wc0,hWc0⟩:∃Wc0,Wc0=wp.alloc (.cells #[.int .i64 y.k,.string y.nm,.int .i64 y.nu,.string y.tx,.int .i64 y.st.e,.slice y.st.a y.st.n y.st.c,.int .i64 y.rs.e,.slice y.rs.a y.rs.n y.rs.c,.string y.sv,.int .i64 y.ca,.bool y.un,.int .i64 y.bd.k,.int .i64 y.bd.i,.int .i64 y.bd.s,.string y.bd.t,.slice y.bd.la y.bd.ll y.bd.lc,.slice y.bd.fa y.bd.fl y.bd.fc,.string y.nd] 75):=⟨_,rfl⟩
     (try rw[←hWc0])
     have hbq0:Below wp.heap.size wp Wc0:=by rw[hWc0];exact(Below.refl _ _).alloc lr _
     have HQ0:Hid (Wc0.drew.heap[wp.heap.size]?=some (.cells #[.int .i64 y.k,.string y.nm,.int .i64 y.nu,.string y.tx,.int .i64 y.st.e,.slice y.st.a y.st.n y.st.c,.int .i64 y.rs.e,.slice y.rs.a y.rs.n y.rs.c,.string y.sv,.int .i64 y.ca,.bool y.un,.int .i64 y.bd.k,.int .i64 y.bd.i,.int .i64 y.bd.s,.string y.bd.t,.slice y.bd.la y.bd.ll y.bd.lc,.slice y.bd.fa y.bd.fl y.bd.fc,.string y.nd] 75)):=hid (by rw[hWc0];exact HQ0'.out)
     have HBQ0:=hid hbq0
     have HCQ:=hid (fun (w':World) (h:w'.heap[wp.heap.size]?=some (.cells #[.int .i64 y.k,.string y.nm,.int .i64 y.nu,.string y.tx,.int .i64 y.st.e,.slice y.st.a y.st.n y.st.c,.int .i64 y.rs.e,.slice y.rs.a y.rs.n y.rs.c,.string y.sv,.int .i64 y.ca,.bool y.un,.int .i64 y.bd.k,.int .i64 y.bd.i,.int .i64 y.bd.s,.string y.bd.t,.slice y.bd.la y.bd.ll y.bd.lc,.slice y.bd.fa y.bd.fl y.bd.fc,.string y.nd] 75))=>(show w'.cell? ⟨wp.heap.size,1,none⟩=some (.string y.nm)∧w'.cell? ⟨wp.heap.size,3,none⟩=some (.string y.tx)∧w'.cell? ⟨wp.heap.size,17,none⟩=some (.string y.nd)∧w'.cell? ⟨wp.heap.size,8,none⟩=some (.string y.sv) from⟨aA h 1,aA h 3,aA h 17,aA h 8⟩))
     have HZQ0:=hid (show Wc0.heap.size=wp.heap.size+1 by rw[hWc0];simp)
     clear hWc0 hbq0 HQ0'
     refine fZ 18 (S:=(fun w'=>w'.heap[wp.heap.size]?=some (.cells #[.int .i64 y.k,.string y.nm,.int .i64 y.nu,.string y.tx,.int .i64 y.st.e,.slice y.st.a y.st.n y.st.c,.int .i64 y.rs.e,.slice y.rs.a y.rs.n y.rs.c,.string y.sv,.int .i64 y.ca,.bool y.un,.int .i64 y.bd.k,.int .i64 y.bd.i,.int .i64 y.bd.s,.string y.bd.t,.slice y.bd.la y.bd.ll y.bd.lc,.slice y.bd.fa y.bd.fl y.bd.fc,.string y.nd] 75))) (by kernel_rfl) (fun _=>HQ0.out) ?_
     refine aK (i:=0) (oi:=_) (v:=?_) rfl (by decide) (by kernel_rfl) (by kernel_rfl) (by kernel_rfl) (fun _ _ _ h=>h) (Or.inl ⟨by rfl,?_⟩) (fun _=>HQ0.out) ?_
     rotate_left
     ·intro w' hw'
      skip
      go_simp
      (try rfl)
     simp only[Act.put,pq]
     refine aK (i:=1) (oi:=_) (v:=?_) rfl (by decide) (by kernel_rfl) (by kernel_rfl) (by kernel_rfl) (fun _ _ _ h=>h) (Or.inl ⟨by rfl,?_⟩) (fun _=>HQ0.out) ?_
     rotate_left
     ·intro w' hw'
      skip
      go_simp
      (try rfl)
     simp only[Act.put,pq]
     refine bX (i:=2) (oi:=_) (v:=?_) rfl (by decide) (by kernel_rfl) (by kernel_rfl) (by kernel_rfl) (by kernel_rfl) (by kernel_rfl) (fun _ _ _ h=>h) (Or.inl ⟨by rfl,?_⟩) (fun _=>HQ0.out) ?_
     rotate_left
     ·intro w' hw'
      have hcells:=HCQ.out w' hw'
      go_simp
      (try rfl)
     simp only[Act.put,pq]
     refine aK (i:=4) (oi:=_) (v:=?_) rfl (by decide) (by kernel_rfl) (by kernel_rfl) (by kernel_rfl) (fun _ _ _ h=>h) (Or.inl ⟨by rfl,?_⟩) (fun _=>HQ0.out) ?_
     rotate_left
     ·intro w' hw'
      skip
      go_simp
      (try rfl)
     simp only[Act.put,pq]
     refine aK (i:=5) (oi:=_) (v:=?_) rfl (by decide) (by kernel_rfl) (by kernel_rfl) (by kernel_rfl) (fun _ _ _ h=>h) (Or.inl ⟨by rfl,?_⟩) (fun _=>HQ0.out) ?_
     rotate_left
     ·intro w' hw'
      skip
      go_simp
      (try rfl)
     simp only[Act.put,pq]
     refine bX (i:=6) (oi:=_) (v:=?_) rfl (by decide) (by kernel_rfl) (by kernel_rfl) (by kernel_rfl) (by kernel_rfl) (by kernel_rfl) (fun _ _ _ h=>h) (Or.inl ⟨by rfl,?_⟩) (fun _=>HQ0.out) ?_
     rotate_left
     ·intro w' hw'
      have hcells:=HCQ.out w' hw'
      go_simp
      (try rfl)
     simp only[Act.put,pq]
     refine aK (i:=8) (oi:=_) (v:=?_) rfl (by decide) (by kernel_rfl) (by kernel_rfl) (by kernel_rfl) (fun _ _ _ h=>h) (Or.inl ⟨by rfl,?_⟩) (fun _=>HQ0.out) ?_
     rotate_left
     ·intro w' hw'
      skip
      go_simp
      (try rfl)
     simp only[Act.put,pq]
     refine aK (i:=9) (oi:=_) (v:=?_) rfl (by decide) (by kernel_rfl) (by kernel_rfl) (by kernel_rfl) (fun _ _ _ h=>h) (Or.inl ⟨by rfl,?_⟩) (fun _=>HQ0.out) ?_
     rotate_left
     ·intro w' hw'
      skip
      go_simp
      (try rfl)
     simp only[Act.put,pq]
     refine bX (i:=10) (oi:=_) (v:=?_) rfl (by decide) (by kernel_rfl) (by kernel_rfl) (by kernel_rfl) (by kernel_rfl) (by kernel_rfl) (fun _ _ _ h=>h) (Or.inl ⟨by rfl,?_⟩) (fun _=>HQ0.out) ?_
     rotate_left
     ·intro w' hw'
      have hcells:=HCQ.out w' hw'
      go_simp
      (try rfl)
     simp only[Act.put,pq]
     refine aK (i:=12) (oi:=_) (v:=?_) rfl (by decide) (by kernel_rfl) (by kernel_rfl) (by kernel_rfl) (fun _ _ _ h=>h) (Or.inl ⟨by rfl,?_⟩) (fun _=>HQ0.out) ?_
     rotate_left
     ·intro w' hw'
      skip
      go_simp
      (try rfl)
     simp only[Act.put,pq]
     refine aK (i:=13) (oi:=_) (v:=?_) rfl (by decide) (by kernel_rfl) (by kernel_rfl) (by kernel_rfl) (fun _ _ _ h=>h) (Or.inl ⟨by rfl,?_⟩) (fun _=>HQ0.out) ?_
     rotate_left
     ·intro w' hw'
      skip
      go_simp
      (try rfl)
     simp only[Act.put,pq]
     refine aK (i:=14) (oi:=_) (v:=?_) rfl (by decide) (by kernel_rfl) (by kernel_rfl) (by kernel_rfl) (fun _ _ _ h=>h) (Or.inl ⟨by rfl,?_⟩) (fun _=>HQ0.out) ?_
     rotate_left
     ·intro w' hw'
      skip
      go_simp
      (try rfl)
     simp only[Act.put,pq]
     refine bX (i:=15) (oi:=_) (v:=?_) rfl (by decide) (by kernel_rfl) (by kernel_rfl) (by kernel_rfl) (by kernel_rfl) (by kernel_rfl) (fun _ _ _ h=>h) (Or.inl ⟨by rfl,?_⟩) (fun _=>HQ0.out) ?_
     rotate_left
     ·intro w' hw'
      have hcells:=HCQ.out w' hw'
      go_simp
      (try rfl)
     simp only[Act.put,pq]
     refine bF (i:=3) (o:=_) (by kernel_rfl) rfl (fun K hK=>?_)
     go_simp;go_at_call 18;refine(HTX.out _ _).mono ?_
     rintro e w9 ⟨rfl,hw9⟩
     obtain rfl:=hw9
     refine hK.out _ _ (HQ0.out) ?_
     clear hK K
     (try simp only[Act.put,pq])
     refine aK (i:=17) (oi:=_) (v:=?_) rfl (by decide) (by kernel_rfl) (by kernel_rfl) (by kernel_rfl) (fun _ _ _ h=>h) (Or.inl ⟨by rfl,?_⟩) (fun _=>HQ0.out) ?_
     rotate_left
     ·intro w' hw'
      skip
      go_simp
      (try rfl)
     simp only[Act.put,pq]
     refine bF (i:=7) (o:=_) (by kernel_rfl) rfl (fun K hK=>?_)
     go_simp;go_at_call 18;refine(HTX.out _ _).mono ?_
     rintro e w9 ⟨rfl,hw9⟩
     obtain rfl:=hw9
     refine hK.out _ _ (HQ0.out) ?_
     clear hK K
     (try simp only[Act.put,pq])
     refine bF (i:=11) (o:=_) (by kernel_rfl) rfl (fun K hK=>?_)
     go_simp;go_at_call 18;refine(HTX.out _ _).mono ?_
     rintro e w9 ⟨rfl,hw9⟩
     obtain rfl:=hw9
     refine hK.out _ _ (HQ0.out) ?_
     clear hK K
     (try simp only[Act.put,pq])
     refine bF (i:=16) (o:=_) (by kernel_rfl) rfl (fun K hK=>?_)
     go_simp;go_at_call 18;refine(HTX.out _ _).mono ?_
     rintro e w9 ⟨rfl,hw9⟩
     obtain rfl:=hw9
     refine hK.out _ _ (HQ0.out) ?_
     clear hK K
     (try simp only[Act.put,pq])
     refine aN (i:=18) (o:=_) (by kernel_rfl) (by kernel_rfl) rfl (fun K hK=>?_)
     have q0:=aE HQ0.out 1
     have q1:=aA HQ0.out 1
     (try dsimp only at q1)
     go_simp
     clear q0 q1
     refine hK.out _ _ ?_
     clear hK K
     (try simp only[Act.put,pq])
     refine aN (i:=19) (o:=_) (by kernel_rfl) (by kernel_rfl) rfl (fun K hK=>?_)
     go_simp
     refine hK.out _ _ ?_
     clear hK K
     (try simp only[Act.put,pq])
     refine aN (i:=20) (o:=_) (by kernel_rfl) (by kernel_rfl) rfl (fun K hK=>?_)
     have HP1':=aD (o:=1) (.string (aH y.nm)) HQ0.out
     simp only[List.setIfInBounds_toArray,List.set_cons_zero,List.set_cons_succ] at HP1'
     have HP1:((Wc0.setCell ⟨wp.heap.size,1,none⟩ (.string (aH y.nm)))).drew.heap[wp.heap.size]?=some (.cells #[.int .i64 y.k,.string (aH y.nm),.int .i64 y.nu,.string y.tx,.int .i64 y.st.e,.slice y.st.a y.st.n y.st.c,.int .i64 y.rs.e,.slice y.rs.a y.rs.n y.rs.c,.string y.sv,.int .i64 y.ca,.bool y.un,.int .i64 y.bd.k,.int .i64 y.bd.i,.int .i64 y.bd.s,.string y.bd.t,.slice y.bd.la y.bd.ll y.bd.lc,.slice y.bd.fa y.bd.fl y.bd.fc,.string y.nd] 75):=HP1'
     clear HP1'
     have q0:=aE HP1 3
     have q1:=aA HP1 3
     (try dsimp only at q1)
     go_simp
     clear q0 q1
     refine hK.out _ _ ?_
     clear hK K
     (try simp only[Act.put,pq])
     refine aN (i:=21) (o:=_) (by kernel_rfl) (by kernel_rfl) rfl (fun K hK=>?_)
     go_simp
     refine hK.out _ _ ?_
     clear hK K
     (try simp only[Act.put,pq])
     refine aN (i:=22) (o:=_) (by kernel_rfl) (by kernel_rfl) rfl (fun K hK=>?_)
     have HP2':=aD (o:=3) (.string (aH y.tx)) HP1
     simp only[List.setIfInBounds_toArray,List.set_cons_zero,List.set_cons_succ] at HP2'
     have HP2:(((Wc0.setCell ⟨wp.heap.size,1,none⟩ (.string (aH y.nm))).setCell ⟨wp.heap.size,3,none⟩ (.string (aH y.tx)))).drew.heap[wp.heap.size]?=some (.cells #[.int .i64 y.k,.string (aH y.nm),.int .i64 y.nu,.string (aH y.tx),.int .i64 y.st.e,.slice y.st.a y.st.n y.st.c,.int .i64 y.rs.e,.slice y.rs.a y.rs.n y.rs.c,.string y.sv,.int .i64 y.ca,.bool y.un,.int .i64 y.bd.k,.int .i64 y.bd.i,.int .i64 y.bd.s,.string y.bd.t,.slice y.bd.la y.bd.ll y.bd.lc,.slice y.bd.fa y.bd.fl y.bd.fc,.string y.nd] 75):=HP2'
     clear HP2'
     have q0:=aE HP2 17
     have q1:=aA HP2 17
     (try dsimp only at q1)
     go_simp
     clear q0 q1
     refine hK.out _ _ ?_
     clear hK K
     (try simp only[Act.put,pq])
     refine aN (i:=23) (o:=_) (by kernel_rfl) (by kernel_rfl) rfl (fun K hK=>?_)
     go_simp
     refine hK.out _ _ ?_
     clear hK K
     (try simp only[Act.put,pq])
     refine aN (i:=24) (o:=_) (by kernel_rfl) (by kernel_rfl) rfl (fun K hK=>?_)
     go_simp
     refine hK.out _ _ ?_
     clear hK K
     (try simp only[Act.put,pq])
     refine aN (i:=25) (o:=_) (by kernel_rfl) (by kernel_rfl) rfl (fun K hK=>?_)
     have HP3':=aD (o:=17) (.string (aH y.nd)) HP2
     simp only[List.setIfInBounds_toArray,List.set_cons_zero,List.set_cons_succ] at HP3'
     have HP3:((((Wc0.setCell ⟨wp.heap.size,1,none⟩ (.string (aH y.nm))).setCell ⟨wp.heap.size,3,none⟩ (.string (aH y.tx))).setCell ⟨wp.heap.size,17,none⟩ (.string (aH y.nd)))).drew.heap[wp.heap.size]?=some (.cells #[.int .i64 y.k,.string (aH y.nm),.int .i64 y.nu,.string (aH y.tx),.int .i64 y.st.e,.slice y.st.a y.st.n y.st.c,.int .i64 y.rs.e,.slice y.rs.a y.rs.n y.rs.c,.string y.sv,.int .i64 y.ca,.bool y.un,.int .i64 y.bd.k,.int .i64 y.bd.i,.int .i64 y.bd.s,.string y.bd.t,.slice y.bd.la y.bd.ll y.bd.lc,.slice y.bd.fa y.bd.fl y.bd.fc,.string (aH y.nd)] 75):=HP3'
     clear HP3'
     have q0:=aE HP3 8
     have q1:=aA HP3 8
     (try dsimp only at q1)
     go_simp
     clear q0 q1
     refine hK.out _ _ ?_
     clear hK K
     (try simp only[Act.put,pq])
     refine eY (by kernel_rfl) ?_ _
     (try dsimp only)
     have HP4':=aD (o:=8) (.string (aH y.sv)) HP3
     simp only[List.setIfInBounds_toArray,List.set_cons_zero,List.set_cons_succ] at HP4'
     have HP4:(((((Wc0.setCell ⟨wp.heap.size,1,none⟩ (.string (aH y.nm))).setCell ⟨wp.heap.size,3,none⟩ (.string (aH y.tx))).setCell ⟨wp.heap.size,17,none⟩ (.string (aH y.nd))).setCell ⟨wp.heap.size,8,none⟩ (.string (aH y.sv)))).drew.heap[wp.heap.size]?=some (.cells #[.int .i64 y.k,.string (aH y.nm),.int .i64 y.nu,.string (aH y.tx),.int .i64 y.st.e,.slice y.st.a y.st.n y.st.c,.int .i64 y.rs.e,.slice y.rs.a y.rs.n y.rs.c,.string (aH y.sv),.int .i64 y.ca,.bool y.un,.int .i64 y.bd.k,.int .i64 y.bd.i,.int .i64 y.bd.s,.string y.bd.t,.slice y.bd.la y.bd.ll y.bd.lc,.slice y.bd.fa y.bd.fl y.bd.fc,.string (aH y.nd)] 75):=HP4'
     clear HP4'
     obtain⟨Wc9,hWc9⟩:∃Wc9,Wc9=(((((Wc0.setCell ⟨wp.heap.size,1,none⟩ (.string (aH y.nm))).setCell ⟨wp.heap.size,3,none⟩ (.string (aH y.tx))).setCell ⟨wp.heap.size,17,none⟩ (.string (aH y.nd))).setCell ⟨wp.heap.size,8,none⟩ (.string (aH y.sv)))).drew:=⟨_,rfl⟩
     have HQ4:Hid (Wc9.drew.heap[wp.heap.size]?=some (.cells #[.int .i64 y.k,.string (aH y.nm),.int .i64 y.nu,.string (aH y.tx),.int .i64 y.st.e,.slice y.st.a y.st.n y.st.c,.int .i64 y.rs.e,.slice y.rs.a y.rs.n y.rs.c,.string (aH y.sv),.int .i64 y.ca,.bool y.un,.int .i64 y.bd.k,.int .i64 y.bd.i,.int .i64 y.bd.s,.string y.bd.t,.slice y.bd.la y.bd.ll y.bd.lc,.slice y.bd.fa y.bd.fl y.bd.fc,.string (aH y.nd)] 75)):=hid (by rw[hWc9];exact HP4)
     have HB9:Hid (Below wp.heap.size wp Wc9.drew):=hid (by rw[hWc9];exact(((((HBQ0.out).setCell (p:=⟨wp.heap.size,1,none⟩) lr _).setCell (p:=⟨wp.heap.size,3,none⟩) lr _).setCell (p:=⟨wp.heap.size,17,none⟩) lr _).setCell (p:=⟨wp.heap.size,8,none⟩) lr _).drew.drew)
     have HZ9:Hid (Wc9.drew.heap.size=wp.heap.size+1):=hid (by rw[hWc9];simp[World.setCell];exact HZQ0.out)
     clear HP4
     go_upto_region 33 with (fail)
     rw[←hWc9]
     clear hWc9 HQ0 HBQ0 HZQ0 HCQ
     have hsl:=HYI.out.st.ps.len
     have hsc:=HYI.out.st.ps.cap
     have hrl:=HYI.out.rs.ps.len
     have hrc:=HYI.out.rs.ps.cap
     obtain⟨qs,hqs⟩:∃qs,qs=min y.st.n 6:=⟨_,rfl⟩
     obtain⟨qe,hqe⟩:∃qe,qe=min y.rs.n 6:=⟨_,rfl⟩
     have hq1:(if (6:Int)<(y.st.n:Int) then (6:Int) else (y.st.n:Int))=(qs:Int):=by split<;>omega
     have hq2:(if (6:Int)<(y.rs.n:Int) then (6:Int) else (y.rs.n:Int))=(qe:Int):=by split<;>omega
     have hqa:(qs:Int)≤(y.st.n:Int):=by omega
     have hqb:(qe:Int)≤(y.rs.n:Int):=by omega
     have hqc:(qs:Int)≤(y.st.c:Int):=by omega
     have hqd:(qe:Int)≤(y.rs.c:Int):=by omega
     have HQS:=hid (show qs≤y.st.n∧qs≤1000∧dy.st.ps.take qs=dy.st.ps.take 6 from⟨by omega,by omega,yR (by omega)⟩)
     have HQE:=hid (show qe≤y.rs.n∧qe≤1000∧dy.rs.ps.take qe=dy.rs.ps.take 6 from⟨by omega,by omega,yR (by omega)⟩)
     have HWZ:Hid (w.heap.size≤wp.heap.size∧ob<wp.heap.size):=hid (by have h1:=HLTp.out;have h2:=HPZ.out;omega)
     clear hsl hsc hrl hrc hqs hqe
     obtain⟨V0,hV0⟩:∃V0,V0=Wc9.drew:=⟨_,rfl⟩
     rw[←hV0] at HQ4 HB9 HZ9
     have HV0:=hid hV0
     clear hV0
     have HC33:=hid (fun (w':World) (h:w'.heap[wp.heap.size]?=some (.cells #[.int .i64 y.k,.string (aH y.nm),.int .i64 y.nu,.string (aH y.tx),.int .i64 y.st.e,.slice y.st.a y.st.n y.st.c,.int .i64 y.rs.e,.slice y.rs.a y.rs.n y.rs.c,.string (aH y.sv),.int .i64 y.ca,.bool y.un,.int .i64 y.bd.k,.int .i64 y.bd.i,.int .i64 y.bd.s,.string y.bd.t,.slice y.bd.la y.bd.ll y.bd.lc,.slice y.bd.fa y.bd.fl y.bd.fc,.string (aH y.nd)] 75))=>(show w'.cell? ⟨wp.heap.size,5,none⟩=some (.slice y.st.a y.st.n y.st.c)∧w'.cell? ⟨wp.heap.size,7,none⟩=some (.slice y.rs.a y.rs.n y.rs.c) from⟨aA h 5,aA h 7⟩))
     go_cut [] (fun w3=>∃a1 c1 a2 c2,w3.heap[wp.heap.size]?=some (.cells #[.int .i64 y.k,.string (aH y.nm),.int .i64 y.nu,.string (aH y.tx),.int .i64 y.st.e,.slice a1 qs c1,.int .i64 y.rs.e,.slice a2 qe c2,.string (aH y.sv),.int .i64 y.ca,.bool y.un,.int .i64 y.bd.k,.int .i64 y.bd.i,.int .i64 y.bd.s,.string y.bd.t,.slice y.bd.la y.bd.ll y.bd.lc,.slice y.bd.fa y.bd.fl y.bd.fc,.string (aH y.nd)] 75)∧IsInts (fun b=>wp.heap.size<b∧b<w3.heap.size) w3 a1 qs c1 (dy.st.ps.take 6)∧IsInts (fun b=>wp.heap.size<b∧b<w3.heap.size) w3 a2 qe c2 (dy.rs.ps.take 6)∧Below wp.heap.size wp w3∧wp.heap.size<w3.heap.size)
     case first =>
      as_aux_lemma =>
      have HQ4':=hid (show Wc9.drew.heap[wp.heap.size]?=some (.cells #[.int .i64 y.k,.string (aH y.nm),.int .i64 y.nu,.string (aH y.tx),.int .i64 y.st.e,.slice y.st.a y.st.n y.st.c,.int .i64 y.rs.e,.slice y.rs.a y.rs.n y.rs.c,.string (aH y.sv),.int .i64 y.ca,.bool y.un,.int .i64 y.bd.k,.int .i64 y.bd.i,.int .i64 y.bd.s,.string y.bd.t,.slice y.bd.la y.bd.ll y.bd.lc,.slice y.bd.fa y.bd.fl y.bd.fc,.string (aH y.nd)] 75) by rw[←HV0.out];exact HQ4.out)
      have HSV0:=HQ4;have HBV0:=HB9;have HLEV0:Hid (wp.heap.size<V0.heap.size):=hid (by have:=HZ9.out;omega)
      refine fZ 26 (S:=(fun w'=>w'.heap[wp.heap.size]?=some (.cells #[.int .i64 y.k,.string (aH y.nm),.int .i64 y.nu,.string (aH y.tx),.int .i64 y.st.e,.slice y.st.a y.st.n y.st.c,.int .i64 y.rs.e,.slice y.rs.a y.rs.n y.rs.c,.string (aH y.sv),.int .i64 y.ca,.bool y.un,.int .i64 y.bd.k,.int .i64 y.bd.i,.int .i64 y.bd.s,.string y.bd.t,.slice y.bd.la y.bd.ll y.bd.lc,.slice y.bd.fa y.bd.fl y.bd.fc,.string (aH y.nd)] 75))) (by kernel_rfl) (fun _=>HQ4'.out) ?_
      rw[←HV0.out]
      refine aK (i:=1) (oi:=_) (v:=?_) rfl (by decide) (by kernel_rfl) (by kernel_rfl) (by kernel_rfl) (fun _ _ _ h=>h) (Or.inl ⟨by rfl,?_⟩) (fun _=>HQ4.out) ?_
      rotate_left
      ·intro w' hw'
       skip
       go_simp
       (try rfl)
      simp only[Act.put,pq]
      refine aK (i:=2) (oi:=_) (v:=?_) rfl (by decide) (by kernel_rfl) (by kernel_rfl) (by kernel_rfl) (fun _ _ _ h=>h) (Or.inl ⟨by rfl,?_⟩) (fun _=>HQ4.out) ?_
      rotate_left
      ·intro w' hw'
       skip
       go_simp
       (try rfl)
      simp only[Act.put,pq]
      refine bX (i:=3) (oi:=_) (v:=?_) rfl (by decide) (by kernel_rfl) (by kernel_rfl) (by kernel_rfl) (by kernel_rfl) (by kernel_rfl) (fun _ _ _ h=>h) (Or.inl ⟨by rfl,?_⟩) (fun _=>HQ4.out) ?_
      rotate_left
      ·intro w' hw'
       have hcells:=HC33.out w' hw'
       go_simp
       (try rfl)
      simp only[Act.put,pq]
      refine aK (i:=4) (oi:=_) (v:=?_) rfl (by decide) (by kernel_rfl) (by kernel_rfl) (by kernel_rfl) (fun _ _ _ h=>h) (Or.inl ⟨by rfl,?_⟩) (fun _=>HQ4.out) ?_
      rotate_left
      ·intro w' hw'
       skip
       go_simp
       (try rfl)
      simp only[Act.put,pq]
      refine aK (i:=5) (oi:=_) (v:=?_) rfl (by decide) (by kernel_rfl) (by kernel_rfl) (by kernel_rfl) (fun _ _ _ h=>h) (Or.inl ⟨by rfl,?_⟩) (fun _=>HQ4.out) ?_
      rotate_left
      ·intro w' hw'
       skip
       go_simp
       (try rfl)
      simp only[Act.put,pq]
      refine bX (i:=6) (oi:=_) (v:=?_) rfl (by decide) (by kernel_rfl) (by kernel_rfl) (by kernel_rfl) (by kernel_rfl) (by kernel_rfl) (fun _ _ _ h=>h) (Or.inl ⟨by rfl,?_⟩) (fun _=>HQ4.out) ?_
      rotate_left
      ·intro w' hw'
       have hcells:=HC33.out w' hw'
       go_simp
       (try rfl)
      simp only[Act.put,pq]
      refine aK (i:=7) (oi:=_) (v:=?_) rfl (by decide) (by kernel_rfl) (by kernel_rfl) (by kernel_rfl) (fun _ _ _ h=>h) (Or.inl ⟨by rfl,?_⟩) (fun _=>HQ4.out) ?_
      rotate_left
      ·intro w' hw'
       skip
       go_simp
       (try rfl)
      simp only[Act.put,pq]
      refine aK (i:=8) (oi:=_) (v:=?_) rfl (by decide) (by kernel_rfl) (by kernel_rfl) (by kernel_rfl) (fun _ _ _ h=>h) (Or.inl ⟨by rfl,?_⟩) (fun _=>HQ4.out) ?_
      rotate_left
      ·intro w' hw'
       skip
       go_simp
       (try rfl)
      simp only[Act.put,pq]
      refine aK (i:=9) (oi:=_) (v:=?_) rfl (by decide) (by kernel_rfl) (by kernel_rfl) (by kernel_rfl) (fun _ _ _ h=>h) (Or.inl ⟨by rfl,?_⟩) (fun _=>HQ4.out) ?_
      rotate_left
      ·intro w' hw'
       skip
       go_simp
       (try rfl)
      simp only[Act.put,pq]
      refine aK (i:=12) (oi:=_) (v:=?_) rfl (by decide) (by kernel_rfl) (by kernel_rfl) (by kernel_rfl) (fun _ _ _ h=>h) (Or.inl ⟨by rfl,?_⟩) (fun _=>HQ4.out) ?_
      rotate_left
      ·intro w' hw'
       skip
       go_simp
       (try rfl)
      simp only[Act.put,pq]
      refine aK (i:=13) (oi:=_) (v:=?_) rfl (by decide) (by kernel_rfl) (by kernel_rfl) (by kernel_rfl) (fun _ _ _ h=>h) (Or.inl ⟨by rfl,?_⟩) (fun _=>HQ4.out) ?_
      rotate_left
      ·intro w' hw'
       skip
       go_simp
       (try rfl)
      simp only[Act.put,pq]
      refine aK (i:=14) (oi:=_) (v:=?_) rfl (by decide) (by kernel_rfl) (by kernel_rfl) (by kernel_rfl) (fun _ _ _ h=>h) (Or.inl ⟨by rfl,?_⟩) (fun _=>HQ4.out) ?_
      rotate_left
      ·intro w' hw'
       skip
       go_simp
       (try rfl)
      simp only[Act.put,pq]
      refine bX (i:=15) (oi:=_) (v:=?_) rfl (by decide) (by kernel_rfl) (by kernel_rfl) (by kernel_rfl) (by kernel_rfl) (by kernel_rfl) (fun _ _ _ h=>h) (Or.inl ⟨by rfl,?_⟩) (fun _=>HQ4.out) ?_
      rotate_left
      ·intro w' hw'
       have hcells:=HC33.out w' hw'
       go_simp
       (try rfl)
      simp only[Act.put,pq]
      refine aK (i:=16) (oi:=_) (v:=?_) rfl (by decide) (by kernel_rfl) (by kernel_rfl) (by kernel_rfl) (fun _ _ _ h=>h) (Or.inl ⟨by rfl,?_⟩) (fun _=>HQ4.out) ?_
      rotate_left
      ·intro w' hw'
       skip
       go_simp
       (try rfl)
      simp only[Act.put,pq]
      refine aK (i:=17) (oi:=_) (v:=?_) rfl (by decide) (by kernel_rfl) (by kernel_rfl) (by kernel_rfl) (fun _ _ _ h=>h) (Or.inl ⟨by rfl,?_⟩) (fun _=>HQ4.out) ?_
      rotate_left
      ·intro w' hw'
       skip
       go_simp
       (try rfl)
      simp only[Act.put,pq]
      refine aK (i:=18) (oi:=_) (v:=?_) rfl (by decide) (by kernel_rfl) (by kernel_rfl) (by kernel_rfl) (fun _ _ _ h=>h) (Or.inl ⟨by rfl,?_⟩) (fun _=>HQ4.out) ?_
      rotate_left
      ·intro w' hw'
       skip
       go_simp
       (try rfl)
      simp only[Act.put,pq]
      refine bX (i:=19) (oi:=_) (v:=?_) rfl (by decide) (by kernel_rfl) (by kernel_rfl) (by kernel_rfl) (by kernel_rfl) (by kernel_rfl) (fun _ _ _ h=>h) (Or.inl ⟨by rfl,?_⟩) (fun _=>HQ4.out) ?_
      rotate_left
      ·intro w' hw'
       have hcells:=HC33.out w' hw'
       go_simp
       (try rfl)
      simp only[Act.put,pq]
      refine aK (i:=20) (oi:=_) (v:=?_) rfl (by decide) (by kernel_rfl) (by kernel_rfl) (by kernel_rfl) (fun _ _ _ h=>h) (Or.inl ⟨by rfl,?_⟩) (fun _=>HQ4.out) ?_
      rotate_left
      ·intro w' hw'
       skip
       go_simp
       (try rfl)
      simp only[Act.put,pq]
      refine aK (i:=21) (oi:=_) (v:=?_) rfl (by decide) (by kernel_rfl) (by kernel_rfl) (by kernel_rfl) (fun _ _ _ h=>h) (Or.inl ⟨by rfl,?_⟩) (fun _=>HQ4.out) ?_
      rotate_left
      ·intro w' hw'
       skip
       go_simp
       (try rfl)
      simp only[Act.put,pq]
      refine aK (i:=22) (oi:=_) (v:=?_) rfl (by decide) (by kernel_rfl) (by kernel_rfl) (by kernel_rfl) (fun _ _ _ h=>h) (Or.inl ⟨by rfl,?_⟩) (fun _=>HQ4.out) ?_
      rotate_left
      ·intro w' hw'
       skip
       go_simp
       (try rfl)
      simp only[Act.put,pq]
      refine mU (i:=0) (j:=11) (o:=_) (oj:=_) (by kernel_rfl) rfl rfl (fun K hK=>?_) (fun K hK=>?_)
      ·skip
       go_simp
       refine hK.out _ _ (aC _ HSV0.out) ?_
       clear hK K
       (try simp only[Act.put,pq])
       obtain⟨V1,hV1⟩:∃V1:World,V1=V0.alloc (.cells #[] 3):=⟨_,rfl⟩
       rw[←hV1]
       have hbV1:Below V0.heap.size V0 V1:=by rw[hV1];exact(Below.refl _ _).alloc lr _
       have HZV1:=hid (show V1.heap.size=V0.heap.size+1 by rw[hV1];simp)
       have HG1V1:=hid (show V1.heap[V0.heap.size]?=some (.cells #[] 3) by rw[hV1];exact heap_alloc_new _ _)
       have HLEV1:Hid (wp.heap.size<V1.heap.size):=hid (by have h1:=HZV1.out;have h2:=HLEV0.out;omega)
       have HSV1:=hid (aB hbV1 HSV0.out)
       have HBV1:Hid (Below wp.heap.size wp V1):=hid (HBV0.out.trans (hbV1.mono (Nat.le_of_lt HLEV0.out)))
       clear hV1 hbV1
       refine mU (i:=10) (j:=11) (o:=_) (oj:=_) (by kernel_rfl) rfl rfl (fun K hK=>?_) (fun K hK=>?_)
       ·skip
        obtain⟨ax1,cx1,V2,hr,hi,hgr⟩:=fX (B:=wp.heap.size+1) HG1V1.out (by have h1:=HLEV0.out;have hl0:=HLEV0.out;have hl1:=HLEV1.out;have hz1:=HZV1.out; have h9:=HWZ.out;omega) (HYI.out.st.ps.same (S':=(· < V1.heap.size)) (w':=V1) fun b hb=>⟨by have h1:=HWZ.out;have h2:=HLEV1.out;omega,(HBV1.out.block b (by have h1:=HWZ.out;omega)).trans (HSP.out b hb)⟩) qs HQS.out.1 HQS.out.2.1 40
        refine step_append_run' (by rfl) _ _ _ _ (by rfl) _ _ _ _ (by rfl) (by rfl) hr ?_
        refine hK.out _ _ ((hgr.block wp.heap.size HLEV1.out (fun e=>by have h1:=HLEV0.out;injection e with e;have hl0:=HLEV0.out;have hl1:=HLEV1.out;have hz1:=HZV1.out; omega)).trans HSV1.out) ?_
        clear hK K
        (try simp only[Act.put,pq])
        rw[HQS.out.2.2] at hi
        have HSV2:=hid ((hgr.block wp.heap.size HLEV1.out (fun e=>by have h1:=HLEV0.out;injection e with e;have hl0:=HLEV0.out;have hl1:=HLEV1.out;have hz1:=HZV1.out; omega)).trans HSV1.out)
        have HLEV2:Hid (wp.heap.size<V2.heap.size):=hid (Nat.lt_of_lt_of_le HLEV1.out hgr.size)
        have HBV2:Hid (Below wp.heap.size wp V2):=hid (HBV1.out.grown hgr (Nat.le_of_lt HLEV1.out) (fun r e=>by injection e with e;have h1:=HLEV0.out;have hl0:=HLEV0.out;have hl1:=HLEV1.out;have hz1:=HZV1.out; omega))
        have HZGV2:=hid hgr.size
        have HI1V2:=hid (hi.same (S':=fun b=>wp.heap.size<b∧b<V2.heap.size) (w':=V2) fun b hb=>⟨⟨by omega,hb.2.1⟩,rfl⟩)
        clear hr hi hgr
        refine aK (i:=24) (oi:=_) (v:=?_) rfl (by decide) (by kernel_rfl) (by kernel_rfl) (by kernel_rfl) (fun _ _ _ h=>h) (Or.inl ⟨by rfl,?_⟩) (fun _=>HSV2.out) ?_
        rotate_left
        ·intro w' hw'
         skip
         go_simp
         (try rfl)
        simp only[Act.put,pq]
        refine aK (i:=25) (oi:=_) (v:=?_) rfl (by decide) (by kernel_rfl) (by kernel_rfl) (by kernel_rfl) (fun _ _ _ h=>h) (Or.inl ⟨by rfl,?_⟩) (fun _=>HSV2.out) ?_
        rotate_left
        ·intro w' hw'
         skip
         go_simp
         (try rfl)
        simp only[Act.put,pq]
        refine bF (i:=11) (o:=_) (by kernel_rfl) rfl (fun K hK=>?_)
        go_simp
        refine hK.out _ _ (aC _ HSV2.out) ?_
        clear hK K
        (try simp only[Act.put,pq])
        obtain⟨V3,hV3⟩:∃V3:World,V3=V2.alloc (.cells #[] 3):=⟨_,rfl⟩
        rw[←hV3]
        have hbV3:Below V2.heap.size V2 V3:=by rw[hV3];exact(Below.refl _ _).alloc lr _
        have HZV3:=hid (show V3.heap.size=V2.heap.size+1 by rw[hV3];simp)
        have HG2V3:=hid (show V3.heap[V2.heap.size]?=some (.cells #[] 3) by rw[hV3];exact heap_alloc_new _ _)
        have HLEV3:Hid (wp.heap.size<V3.heap.size):=hid (by have h1:=HZV3.out;have h2:=HLEV2.out;omega)
        have HSV3:=hid (aB hbV3 HSV2.out)
        have HBV3:Hid (Below wp.heap.size wp V3):=hid (HBV2.out.trans (hbV3.mono (Nat.le_of_lt HLEV2.out)))
        have HI1V3:=hid (HI1V2.out.same (S':=fun b=>wp.heap.size<b∧b<V3.heap.size∧b≠V2.heap.size) (w':=V3) fun b hb=>⟨⟨hb.1,by have:=HZV3.out;omega,by omega⟩,hbV3.block b (by omega)⟩)
        clear hV3 hbV3
        refine bF (i:=23) (o:=_) (by kernel_rfl) rfl (fun K hK=>?_)
        obtain⟨ax2,cx2,V4,hr,hi,hgr⟩:=fX (B:=wp.heap.size+1) HG2V3.out (by have h1:=HLEV0.out;have hl0:=HLEV0.out;have hl1:=HLEV1.out;have hl2:=HLEV2.out;have hl3:=HLEV3.out;have hz1:=HZV1.out;have hz3:=HZV3.out;have hg2:=HZGV2.out;have h9:=HWZ.out;omega) (HYI.out.rs.ps.same (S':=(· < V3.heap.size)) (w':=V3) fun b hb=>⟨by have h1:=HWZ.out;have h2:=HLEV3.out;omega,(HBV3.out.block b (by have h1:=HWZ.out;omega)).trans (HSP.out b hb)⟩) qe HQE.out.1 HQE.out.2.1 40
        refine step_append_run' (by rfl) _ _ _ _ (by rfl) _ _ _ _ (by rfl) (by rfl) hr ?_
        refine hK.out _ _ ((hgr.block wp.heap.size HLEV3.out (fun e=>by have h1:=HLEV0.out;injection e with e;have hl0:=HLEV0.out;have hl1:=HLEV1.out;have hl2:=HLEV2.out;have hl3:=HLEV3.out;have hz1:=HZV1.out;have hz3:=HZV3.out;have hg2:=HZGV2.out;omega)).trans HSV3.out) ?_
        clear hK K
        (try simp only[Act.put,pq])
        rw[HQE.out.2.2] at hi
        have HSV4:=hid ((hgr.block wp.heap.size HLEV3.out (fun e=>by have h1:=HLEV0.out;injection e with e;have hl0:=HLEV0.out;have hl1:=HLEV1.out;have hl2:=HLEV2.out;have hl3:=HLEV3.out;have hz1:=HZV1.out;have hz3:=HZV3.out;have hg2:=HZGV2.out;omega)).trans HSV3.out)
        have HLEV4:Hid (wp.heap.size<V4.heap.size):=hid (Nat.lt_of_lt_of_le HLEV3.out hgr.size)
        have HBV4:Hid (Below wp.heap.size wp V4):=hid (HBV3.out.grown hgr (Nat.le_of_lt HLEV3.out) (fun r e=>by injection e with e;have h1:=HLEV0.out;have hl0:=HLEV0.out;have hl1:=HLEV1.out;have hl2:=HLEV2.out;have hl3:=HLEV3.out;have hz1:=HZV1.out;have hz3:=HZV3.out;have hg2:=HZGV2.out;omega))
        have HZGV4:=hid hgr.size
        have HI2V4:=hid (hi.same (S':=fun b=>wp.heap.size<b∧b<V4.heap.size) (w':=V4) fun b hb=>⟨⟨by omega,hb.2.1⟩,rfl⟩)
        have HI1V4:=hid (HI1V3.out.same (S':=fun b=>wp.heap.size<b∧b<V4.heap.size) (w':=V4) fun b hb=>⟨⟨hb.1,by have:=hgr.size;omega⟩,hgr.block b hb.2.1 (fun e=>by injection e with e;exact hb.2.2 e)⟩)
        clear hr hi hgr
        refine aN (i:=26) (o:=_) (by kernel_rfl) (by kernel_rfl) rfl (fun K hK=>?_)
        have q0:=aE HSV4.out 5
        have q1:=aA HSV4.out 5
        (try dsimp only at q1)
        go_simp
        clear q0 q1
        refine hK.out _ _ ?_
        clear hK K
        (try simp only[Act.put,pq])
        have HT:=aD (o:=5) (.slice ax1 qs cx1) HSV4.out
        simp only[List.setIfInBounds_toArray,List.set_cons_zero,List.set_cons_succ] at HT
        refine aN (i:=27) (o:=_) (by kernel_rfl) (by kernel_rfl) rfl (fun K hK=>?_)
        go_simp
        refine hK.out _ _ ?_
        clear hK K
        (try simp only[Act.put,pq])
        refine aN (i:=28) (o:=_) (by kernel_rfl) (by kernel_rfl) rfl (fun K hK=>?_)
        go_simp
        refine hK.out _ _ ?_
        clear hK K
        (try simp only[Act.put,pq])
        refine aN (i:=29) (o:=_) (by kernel_rfl) (by kernel_rfl) rfl (fun K hK=>?_)
        go_simp
        refine hK.out _ _ ?_
        clear hK K
        (try simp only[Act.put,pq])
        refine aN (i:=30) (o:=_) (by kernel_rfl) (by kernel_rfl) rfl (fun K hK=>?_)
        have q0:=aE HT 7
        have q1:=aA HT 7
        (try dsimp only at q1)
        go_simp
        clear q0 q1
        refine hK.out _ _ ?_
        clear hK K
        (try simp only[Act.put,pq])
        have HT2:=aD (o:=7) (.slice ax2 qe cx2) HT
        simp only[List.setIfInBounds_toArray,List.set_cons_zero,List.set_cons_succ] at HT2
        refine eY (by kernel_rfl) ?_ _
        (try dsimp only)
        go_wp2
        go_meet
        exact⟨ax1,cx1,ax2,cx2,HT2,dL (dL HI1V4.out),dL (dL HI2V4.out),(HBV4.out.setCell (p:=⟨wp.heap.size,5,none⟩) lr _).setCell (p:=⟨wp.heap.size,7,none⟩) lr _,by simpa [World.setCell] using HLEV4.out⟩
       ·skip
        go_simp
        refine hK.out _ _ (aC _ HSV1.out) ?_
        clear hK K
        (try simp only[Act.put,pq])
        obtain⟨V2,hV2⟩:∃V2:World,V2=V1.alloc (.cells #[] 3):=⟨_,rfl⟩
        rw[←hV2]
        have hbV2:Below V1.heap.size V1 V2:=by rw[hV2];exact(Below.refl _ _).alloc lr _
        have HZV2:=hid (show V2.heap.size=V1.heap.size+1 by rw[hV2];simp)
        have HG2V2:=hid (show V2.heap[V1.heap.size]?=some (.cells #[] 3) by rw[hV2];exact heap_alloc_new _ _)
        have HLEV2:Hid (wp.heap.size<V2.heap.size):=hid (by have h1:=HZV2.out;have h2:=HLEV1.out;omega)
        have HSV2:=hid (aB hbV2 HSV1.out)
        have HBV2:Hid (Below wp.heap.size wp V2):=hid (HBV1.out.trans (hbV2.mono (Nat.le_of_lt HLEV1.out)))
        have HG1V2:=hid (aB hbV2 HG1V1.out)
        clear hV2 hbV2
        refine bF (i:=10) (o:=_) (by kernel_rfl) rfl (fun K hK=>?_)
        obtain⟨ax1,cx1,V3,hr,hi,hgr⟩:=fX (B:=wp.heap.size+1) HG1V2.out (by have h1:=HLEV0.out;have hl0:=HLEV0.out;have hl1:=HLEV1.out;have hl2:=HLEV2.out;have hz1:=HZV1.out;have hz2:=HZV2.out; have h9:=HWZ.out;omega) (HYI.out.st.ps.same (S':=(· < V2.heap.size)) (w':=V2) fun b hb=>⟨by have h1:=HWZ.out;have h2:=HLEV2.out;omega,(HBV2.out.block b (by have h1:=HWZ.out;omega)).trans (HSP.out b hb)⟩) qs HQS.out.1 HQS.out.2.1 40
        refine step_append_run' (by rfl) _ _ _ _ (by rfl) _ _ _ _ (by rfl) (by rfl) hr ?_
        refine hK.out _ _ ((hgr.block wp.heap.size HLEV2.out (fun e=>by have h1:=HLEV0.out;injection e with e;have hl0:=HLEV0.out;have hl1:=HLEV1.out;have hl2:=HLEV2.out;have hz1:=HZV1.out;have hz2:=HZV2.out; omega)).trans HSV2.out) ?_
        clear hK K
        (try simp only[Act.put,pq])
        rw[HQS.out.2.2] at hi
        have HSV3:=hid ((hgr.block wp.heap.size HLEV2.out (fun e=>by have h1:=HLEV0.out;injection e with e;have hl0:=HLEV0.out;have hl1:=HLEV1.out;have hl2:=HLEV2.out;have hz1:=HZV1.out;have hz2:=HZV2.out; omega)).trans HSV2.out)
        have HLEV3:Hid (wp.heap.size<V3.heap.size):=hid (Nat.lt_of_lt_of_le HLEV2.out hgr.size)
        have HBV3:Hid (Below wp.heap.size wp V3):=hid (HBV2.out.grown hgr (Nat.le_of_lt HLEV2.out) (fun r e=>by injection e with e;have h1:=HLEV0.out;have hl0:=HLEV0.out;have hl1:=HLEV1.out;have hl2:=HLEV2.out;have hz1:=HZV1.out;have hz2:=HZV2.out; omega))
        have HZGV3:=hid hgr.size
        have HG2V3:=hid ((hgr.block _ (bT HG2V2.out) (fun e=>by injection e with e;have hl0:=HLEV0.out;have hl1:=HLEV1.out;have hl2:=HLEV2.out;have hz1:=HZV1.out;have hz2:=HZV2.out; omega)).trans HG2V2.out)
        have HI1V3:=hid (hi.same (S':=fun b=>wp.heap.size<b∧b<V3.heap.size∧b≠V1.heap.size) (w':=V3) fun b hb=>⟨⟨by omega,hb.2.1,by have hl0:=HLEV0.out;have hl1:=HLEV1.out;have hl2:=HLEV2.out;have hz1:=HZV1.out;have hz2:=HZV2.out; omega⟩,rfl⟩)
        clear hr hi hgr
        refine aK (i:=24) (oi:=_) (v:=?_) rfl (by decide) (by kernel_rfl) (by kernel_rfl) (by kernel_rfl) (fun _ _ _ h=>h) (Or.inl ⟨by rfl,?_⟩) (fun _=>HSV3.out) ?_
        rotate_left
        ·intro w' hw'
         skip
         go_simp
         (try rfl)
        simp only[Act.put,pq]
        refine aK (i:=25) (oi:=_) (v:=?_) rfl (by decide) (by kernel_rfl) (by kernel_rfl) (by kernel_rfl) (fun _ _ _ h=>h) (Or.inl ⟨by rfl,?_⟩) (fun _=>HSV3.out) ?_
        rotate_left
        ·intro w' hw'
         skip
         go_simp
         (try rfl)
        simp only[Act.put,pq]
        refine bF (i:=23) (o:=_) (by kernel_rfl) rfl (fun K hK=>?_)
        obtain⟨ax2,cx2,V4,hr,hi,hgr⟩:=fX (B:=wp.heap.size+1) HG2V3.out (by have h1:=HLEV0.out;have hl0:=HLEV0.out;have hl1:=HLEV1.out;have hl2:=HLEV2.out;have hl3:=HLEV3.out;have hz1:=HZV1.out;have hz2:=HZV2.out;have hg3:=HZGV3.out;have h9:=HWZ.out;omega) (HYI.out.rs.ps.same (S':=(· < V3.heap.size)) (w':=V3) fun b hb=>⟨by have h1:=HWZ.out;have h2:=HLEV3.out;omega,(HBV3.out.block b (by have h1:=HWZ.out;omega)).trans (HSP.out b hb)⟩) qe HQE.out.1 HQE.out.2.1 40
        refine step_append_run' (by rfl) _ _ _ _ (by rfl) _ _ _ _ (by rfl) (by rfl) hr ?_
        refine hK.out _ _ ((hgr.block wp.heap.size HLEV3.out (fun e=>by have h1:=HLEV0.out;injection e with e;have hl0:=HLEV0.out;have hl1:=HLEV1.out;have hl2:=HLEV2.out;have hl3:=HLEV3.out;have hz1:=HZV1.out;have hz2:=HZV2.out;have hg3:=HZGV3.out;omega)).trans HSV3.out) ?_
        clear hK K
        (try simp only[Act.put,pq])
        rw[HQE.out.2.2] at hi
        have HSV4:=hid ((hgr.block wp.heap.size HLEV3.out (fun e=>by have h1:=HLEV0.out;injection e with e;have hl0:=HLEV0.out;have hl1:=HLEV1.out;have hl2:=HLEV2.out;have hl3:=HLEV3.out;have hz1:=HZV1.out;have hz2:=HZV2.out;have hg3:=HZGV3.out;omega)).trans HSV3.out)
        have HLEV4:Hid (wp.heap.size<V4.heap.size):=hid (Nat.lt_of_lt_of_le HLEV3.out hgr.size)
        have HBV4:Hid (Below wp.heap.size wp V4):=hid (HBV3.out.grown hgr (Nat.le_of_lt HLEV3.out) (fun r e=>by injection e with e;have h1:=HLEV0.out;have hl0:=HLEV0.out;have hl1:=HLEV1.out;have hl2:=HLEV2.out;have hl3:=HLEV3.out;have hz1:=HZV1.out;have hz2:=HZV2.out;have hg3:=HZGV3.out;omega))
        have HZGV4:=hid hgr.size
        have HI2V4:=hid (hi.same (S':=fun b=>wp.heap.size<b∧b<V4.heap.size) (w':=V4) fun b hb=>⟨⟨by omega,hb.2.1⟩,rfl⟩)
        have HI1V4:=hid (HI1V3.out.same (S':=fun b=>wp.heap.size<b∧b<V4.heap.size) (w':=V4) fun b hb=>⟨⟨hb.1,by have:=hgr.size;omega⟩,hgr.block b hb.2.1 (fun e=>by injection e with e;exact hb.2.2 e)⟩)
        clear hr hi hgr
        refine aN (i:=26) (o:=_) (by kernel_rfl) (by kernel_rfl) rfl (fun K hK=>?_)
        have q0:=aE HSV4.out 5
        have q1:=aA HSV4.out 5
        (try dsimp only at q1)
        go_simp
        clear q0 q1
        refine hK.out _ _ ?_
        clear hK K
        (try simp only[Act.put,pq])
        have HT:=aD (o:=5) (.slice ax1 qs cx1) HSV4.out
        simp only[List.setIfInBounds_toArray,List.set_cons_zero,List.set_cons_succ] at HT
        refine aN (i:=27) (o:=_) (by kernel_rfl) (by kernel_rfl) rfl (fun K hK=>?_)
        go_simp
        refine hK.out _ _ ?_
        clear hK K
        (try simp only[Act.put,pq])
        refine aN (i:=28) (o:=_) (by kernel_rfl) (by kernel_rfl) rfl (fun K hK=>?_)
        go_simp
        refine hK.out _ _ ?_
        clear hK K
        (try simp only[Act.put,pq])
        refine aN (i:=29) (o:=_) (by kernel_rfl) (by kernel_rfl) rfl (fun K hK=>?_)
        go_simp
        refine hK.out _ _ ?_
        clear hK K
        (try simp only[Act.put,pq])
        refine aN (i:=30) (o:=_) (by kernel_rfl) (by kernel_rfl) rfl (fun K hK=>?_)
        have q0:=aE HT 7
        have q1:=aA HT 7
        (try dsimp only at q1)
        go_simp
        clear q0 q1
        refine hK.out _ _ ?_
        clear hK K
        (try simp only[Act.put,pq])
        have HT2:=aD (o:=7) (.slice ax2 qe cx2) HT
        simp only[List.setIfInBounds_toArray,List.set_cons_zero,List.set_cons_succ] at HT2
        refine eY (by kernel_rfl) ?_ _
        (try dsimp only)
        go_wp2
        go_meet
        exact⟨ax1,cx1,ax2,cx2,HT2,dL (dL HI1V4.out),dL (dL HI2V4.out),(HBV4.out.setCell (p:=⟨wp.heap.size,5,none⟩) lr _).setCell (p:=⟨wp.heap.size,7,none⟩) lr _,by simpa [World.setCell] using HLEV4.out⟩
      ·skip
       go_simp
       refine hK.out _ _ (aC _ HSV0.out) ?_
       clear hK K
       (try simp only[Act.put,pq])
       obtain⟨V1,hV1⟩:∃V1:World,V1=V0.alloc (.cells #[] 3):=⟨_,rfl⟩
       rw[←hV1]
       have hbV1:Below V0.heap.size V0 V1:=by rw[hV1];exact(Below.refl _ _).alloc lr _
       have HZV1:=hid (show V1.heap.size=V0.heap.size+1 by rw[hV1];simp)
       have HG2V1:=hid (show V1.heap[V0.heap.size]?=some (.cells #[] 3) by rw[hV1];exact heap_alloc_new _ _)
       have HLEV1:Hid (wp.heap.size<V1.heap.size):=hid (by have h1:=HZV1.out;have h2:=HLEV0.out;omega)
       have HSV1:=hid (aB hbV1 HSV0.out)
       have HBV1:Hid (Below wp.heap.size wp V1):=hid (HBV0.out.trans (hbV1.mono (Nat.le_of_lt HLEV0.out)))
       clear hV1 hbV1
       refine bF (i:=0) (o:=_) (by kernel_rfl) rfl (fun K hK=>?_)
       go_simp
       refine hK.out _ _ (aC _ HSV1.out) ?_
       clear hK K
       (try simp only[Act.put,pq])
       obtain⟨V2,hV2⟩:∃V2:World,V2=V1.alloc (.cells #[] 3):=⟨_,rfl⟩
       rw[←hV2]
       have hbV2:Below V1.heap.size V1 V2:=by rw[hV2];exact(Below.refl _ _).alloc lr _
       have HZV2:=hid (show V2.heap.size=V1.heap.size+1 by rw[hV2];simp)
       have HG1V2:=hid (show V2.heap[V1.heap.size]?=some (.cells #[] 3) by rw[hV2];exact heap_alloc_new _ _)
       have HLEV2:Hid (wp.heap.size<V2.heap.size):=hid (by have h1:=HZV2.out;have h2:=HLEV1.out;omega)
       have HSV2:=hid (aB hbV2 HSV1.out)
       have HBV2:Hid (Below wp.heap.size wp V2):=hid (HBV1.out.trans (hbV2.mono (Nat.le_of_lt HLEV1.out)))
       have HG2V2:=hid (aB hbV2 HG2V1.out)
       clear hV2 hbV2
       refine bF (i:=10) (o:=_) (by kernel_rfl) rfl (fun K hK=>?_)
       obtain⟨ax1,cx1,V3,hr,hi,hgr⟩:=fX (B:=wp.heap.size+1) HG1V2.out (by have h1:=HLEV0.out;have hl0:=HLEV0.out;have hl1:=HLEV1.out;have hl2:=HLEV2.out;have hz1:=HZV1.out;have hz2:=HZV2.out; have h9:=HWZ.out;omega) (HYI.out.st.ps.same (S':=(· < V2.heap.size)) (w':=V2) fun b hb=>⟨by have h1:=HWZ.out;have h2:=HLEV2.out;omega,(HBV2.out.block b (by have h1:=HWZ.out;omega)).trans (HSP.out b hb)⟩) qs HQS.out.1 HQS.out.2.1 40
       refine step_append_run' (by rfl) _ _ _ _ (by rfl) _ _ _ _ (by rfl) (by rfl) hr ?_
       refine hK.out _ _ ((hgr.block wp.heap.size HLEV2.out (fun e=>by have h1:=HLEV0.out;injection e with e;have hl0:=HLEV0.out;have hl1:=HLEV1.out;have hl2:=HLEV2.out;have hz1:=HZV1.out;have hz2:=HZV2.out; omega)).trans HSV2.out) ?_
       clear hK K
       (try simp only[Act.put,pq])
       rw[HQS.out.2.2] at hi
       have HSV3:=hid ((hgr.block wp.heap.size HLEV2.out (fun e=>by have h1:=HLEV0.out;injection e with e;have hl0:=HLEV0.out;have hl1:=HLEV1.out;have hl2:=HLEV2.out;have hz1:=HZV1.out;have hz2:=HZV2.out; omega)).trans HSV2.out)
       have HLEV3:Hid (wp.heap.size<V3.heap.size):=hid (Nat.lt_of_lt_of_le HLEV2.out hgr.size)
       have HBV3:Hid (Below wp.heap.size wp V3):=hid (HBV2.out.grown hgr (Nat.le_of_lt HLEV2.out) (fun r e=>by injection e with e;have h1:=HLEV0.out;have hl0:=HLEV0.out;have hl1:=HLEV1.out;have hl2:=HLEV2.out;have hz1:=HZV1.out;have hz2:=HZV2.out; omega))
       have HZGV3:=hid hgr.size
       have HG2V3:=hid ((hgr.block _ (bT HG2V2.out) (fun e=>by injection e with e;have hl0:=HLEV0.out;have hl1:=HLEV1.out;have hl2:=HLEV2.out;have hz1:=HZV1.out;have hz2:=HZV2.out; omega)).trans HG2V2.out)
       have HI1V3:=hid (hi.same (S':=fun b=>wp.heap.size<b∧b<V3.heap.size∧b≠V0.heap.size) (w':=V3) fun b hb=>⟨⟨by omega,hb.2.1,by have hl0:=HLEV0.out;have hl1:=HLEV1.out;have hl2:=HLEV2.out;have hz1:=HZV1.out;have hz2:=HZV2.out; omega⟩,rfl⟩)
       clear hr hi hgr
       refine aK (i:=24) (oi:=_) (v:=?_) rfl (by decide) (by kernel_rfl) (by kernel_rfl) (by kernel_rfl) (fun _ _ _ h=>h) (Or.inl ⟨by rfl,?_⟩) (fun _=>HSV3.out) ?_
       rotate_left
       ·intro w' hw'
        skip
        go_simp
        (try rfl)
       simp only[Act.put,pq]
       refine aK (i:=25) (oi:=_) (v:=?_) rfl (by decide) (by kernel_rfl) (by kernel_rfl) (by kernel_rfl) (fun _ _ _ h=>h) (Or.inl ⟨by rfl,?_⟩) (fun _=>HSV3.out) ?_
       rotate_left
       ·intro w' hw'
        skip
        go_simp
        (try rfl)
       simp only[Act.put,pq]
       refine bF (i:=23) (o:=_) (by kernel_rfl) rfl (fun K hK=>?_)
       obtain⟨ax2,cx2,V4,hr,hi,hgr⟩:=fX (B:=wp.heap.size+1) HG2V3.out (by have h1:=HLEV0.out;have hl0:=HLEV0.out;have hl1:=HLEV1.out;have hl2:=HLEV2.out;have hl3:=HLEV3.out;have hz1:=HZV1.out;have hz2:=HZV2.out;have hg3:=HZGV3.out;have h9:=HWZ.out;omega) (HYI.out.rs.ps.same (S':=(· < V3.heap.size)) (w':=V3) fun b hb=>⟨by have h1:=HWZ.out;have h2:=HLEV3.out;omega,(HBV3.out.block b (by have h1:=HWZ.out;omega)).trans (HSP.out b hb)⟩) qe HQE.out.1 HQE.out.2.1 40
       refine step_append_run' (by rfl) _ _ _ _ (by rfl) _ _ _ _ (by rfl) (by rfl) hr ?_
       refine hK.out _ _ ((hgr.block wp.heap.size HLEV3.out (fun e=>by have h1:=HLEV0.out;injection e with e;have hl0:=HLEV0.out;have hl1:=HLEV1.out;have hl2:=HLEV2.out;have hl3:=HLEV3.out;have hz1:=HZV1.out;have hz2:=HZV2.out;have hg3:=HZGV3.out;omega)).trans HSV3.out) ?_
       clear hK K
       (try simp only[Act.put,pq])
       rw[HQE.out.2.2] at hi
       have HSV4:=hid ((hgr.block wp.heap.size HLEV3.out (fun e=>by have h1:=HLEV0.out;injection e with e;have hl0:=HLEV0.out;have hl1:=HLEV1.out;have hl2:=HLEV2.out;have hl3:=HLEV3.out;have hz1:=HZV1.out;have hz2:=HZV2.out;have hg3:=HZGV3.out;omega)).trans HSV3.out)
       have HLEV4:Hid (wp.heap.size<V4.heap.size):=hid (Nat.lt_of_lt_of_le HLEV3.out hgr.size)
       have HBV4:Hid (Below wp.heap.size wp V4):=hid (HBV3.out.grown hgr (Nat.le_of_lt HLEV3.out) (fun r e=>by injection e with e;have h1:=HLEV0.out;have hl0:=HLEV0.out;have hl1:=HLEV1.out;have hl2:=HLEV2.out;have hl3:=HLEV3.out;have hz1:=HZV1.out;have hz2:=HZV2.out;have hg3:=HZGV3.out;omega))
       have HZGV4:=hid hgr.size
       have HI2V4:=hid (hi.same (S':=fun b=>wp.heap.size<b∧b<V4.heap.size) (w':=V4) fun b hb=>⟨⟨by omega,hb.2.1⟩,rfl⟩)
       have HI1V4:=hid (HI1V3.out.same (S':=fun b=>wp.heap.size<b∧b<V4.heap.size) (w':=V4) fun b hb=>⟨⟨hb.1,by have:=hgr.size;omega⟩,hgr.block b hb.2.1 (fun e=>by injection e with e;exact hb.2.2 e)⟩)
       clear hr hi hgr
       refine aN (i:=26) (o:=_) (by kernel_rfl) (by kernel_rfl) rfl (fun K hK=>?_)
       have q0:=aE HSV4.out 5
       have q1:=aA HSV4.out 5
       (try dsimp only at q1)
       go_simp
       clear q0 q1
       refine hK.out _ _ ?_
       clear hK K
       (try simp only[Act.put,pq])
       have HT:=aD (o:=5) (.slice ax1 qs cx1) HSV4.out
       simp only[List.setIfInBounds_toArray,List.set_cons_zero,List.set_cons_succ] at HT
       refine aN (i:=27) (o:=_) (by kernel_rfl) (by kernel_rfl) rfl (fun K hK=>?_)
       go_simp
       refine hK.out _ _ ?_
       clear hK K
       (try simp only[Act.put,pq])
       refine aN (i:=28) (o:=_) (by kernel_rfl) (by kernel_rfl) rfl (fun K hK=>?_)
       go_simp
       refine hK.out _ _ ?_
       clear hK K
       (try simp only[Act.put,pq])
       refine aN (i:=29) (o:=_) (by kernel_rfl) (by kernel_rfl) rfl (fun K hK=>?_)
       go_simp
       refine hK.out _ _ ?_
       clear hK K
       (try simp only[Act.put,pq])
       refine aN (i:=30) (o:=_) (by kernel_rfl) (by kernel_rfl) rfl (fun K hK=>?_)
       have q0:=aE HT 7
       have q1:=aA HT 7
       (try dsimp only at q1)
       go_simp
       clear q0 q1
       refine hK.out _ _ ?_
       clear hK K
       (try simp only[Act.put,pq])
       have HT2:=aD (o:=7) (.slice ax2 qe cx2) HT
       simp only[List.setIfInBounds_toArray,List.set_cons_zero,List.set_cons_succ] at HT2
       refine eY (by kernel_rfl) ?_ _
       (try dsimp only)
       go_wp2
       go_meet
       exact⟨ax1,cx1,ax2,cx2,HT2,dL (dL HI1V4.out),dL (dL HI2V4.out),(HBV4.out.setCell (p:=⟨wp.heap.size,5,none⟩) lr _).setCell (p:=⟨wp.heap.size,7,none⟩) lr _,by simpa [World.setCell] using HLEV4.out⟩
     case rest =>
     obtain⟨W3,rfl⟩:∃u:World,u=wc:=⟨_,rfl⟩
     obtain⟨a1,c1,a2,c2,hE3,hI1,hI2,hbW,hlW⟩:=hcut
     have HE3:=hid hE3;have HI1:=hid hI1;have HI2:=hid hI2;have HB3:=hid hbW;have HL3:=hid hlW
     have HCALL:=hid (gX ⟨⟨0,none,0,0⟩,0,none,0,0,y.bd⟩ ⟨⟨0,[]⟩,0,[],dy.bd⟩ W3 ⟨⟨rfl,(show I64 0 by unfold I64;omega),aCh _ _⟩,rfl,(show I64 0 by unfold I64;omega),aCh _ _,HYI.out.bd.same fun b hb=>⟨by have h1:=HWZ.out;have h2:=HL3.out;omega,(HB3.out.block b (by have h1:=HWZ.out;omega)).trans (HSP.out b hb)⟩⟩)
     dsimp only[MC.v] at HCALL
     have m11:=aA hE3 11;have m12:=aA hE3 12;have m13:=aA hE3 13;have m14:=aA hE3 14;have m15:=aA hE3 15;have m16:=aA hE3 16
     (try dsimp only at m11 m12 m13 m14 m15 m16)
     clear hE3 hI1 hI2 hbW hlW hq1 hq2 hqa hqb hqc hqd HQ4 HB9 HZ9 HC33 HV0
     go_upto_region 35 with (go_at_call 20;refine HCALL.out.mono ?_;rintro e w4 ⟨c4,rfl,hb4,hi4⟩;dsimp only[MC.v];have HB4:=hid hb4;have HI4:=hid hi4;have hE4:=aB hb4 HE3.out;have HE4:=hid hE4;have k11:=aA hE4 11;have k12:=aA hE4 12;have k13:=aA hE4 13;have k14:=aA hE4 14;have k15:=aA hE4 15;have k16:=aA hE4 16;have r11:=aE hE4 11;have r12:=aE hE4 12;have r13:=aE hE4 13;have r14:=aE hE4 14;have r15:=aE hE4 15;have r16:=aE hE4 16;(try dsimp only at k11 k12 k13 k14 k15 k16);clear hE4 hb4 hi4)
     clear m11 m12 m13 m14 m15 m16
     have HX11:=aD (o:=11) (.int .i64 c4.b.k) HE4.out
     simp only[List.setIfInBounds_toArray,List.set_cons_zero,List.set_cons_succ] at HX11
     have HX12:=aD (o:=12) (.int .i64 c4.b.i) HX11
     simp only[List.setIfInBounds_toArray,List.set_cons_zero,List.set_cons_succ] at HX12
     have HX13:=aD (o:=13) (.int .i64 c4.b.s) HX12
     simp only[List.setIfInBounds_toArray,List.set_cons_zero,List.set_cons_succ] at HX13
     have HX14:=aD (o:=14) (.string c4.b.t) HX13
     simp only[List.setIfInBounds_toArray,List.set_cons_zero,List.set_cons_succ] at HX14
     have HX15:=aD (o:=15) (.slice c4.b.la c4.b.ll c4.b.lc) HX14
     simp only[List.setIfInBounds_toArray,List.set_cons_zero,List.set_cons_succ] at HX15
     have HX16:=aD (o:=16) (.slice c4.b.fa c4.b.fl c4.b.fc) HX15
     simp only[List.setIfInBounds_toArray,List.set_cons_zero,List.set_cons_succ] at HX16
     obtain⟨W5,hW5⟩:∃W5,W5=((((((w4.setCell ⟨wp.heap.size,11,none⟩ (.int .i64 c4.b.k)).setCell ⟨wp.heap.size,12,none⟩ (.int .i64 c4.b.i)).setCell ⟨wp.heap.size,13,none⟩ (.int .i64 c4.b.s)).setCell ⟨wp.heap.size,14,none⟩ (.string c4.b.t)).setCell ⟨wp.heap.size,15,none⟩ (.slice c4.b.la c4.b.ll c4.b.lc)).setCell ⟨wp.heap.size,16,none⟩ (.slice c4.b.fa c4.b.fl c4.b.fc)):=⟨_,rfl⟩
     have HP5:Hid (W5.heap[wp.heap.size]?=some (.cells #[.int .i64 y.k,.string (aH y.nm),.int .i64 y.nu,.string (aH y.tx),.int .i64 y.st.e,.slice a1 qs c1,.int .i64 y.rs.e,.slice a2 qe c2,.string (aH y.sv),.int .i64 y.ca,.bool y.un,.int .i64 c4.b.k,.int .i64 c4.b.i,.int .i64 c4.b.s,.string c4.b.t,.slice c4.b.la c4.b.ll c4.b.lc,.slice c4.b.fa c4.b.fl c4.b.fc,.string (aH y.nd)] 75)):=hid (by rw[hW5];exact HX16)
     have hz5:W5.heap.size=w4.heap.size:=by rw[hW5];simp[World.setCell]
     have HO5:=hid (show ∀q,q≠wp.heap.size→W5.heap[q]?=w4.heap[q]? from fun q hq=>by rw[hW5];exact(Below.heap_setCell _ _ _ _ hq).trans ((Below.heap_setCell _ _ _ _ hq).trans ((Below.heap_setCell _ _ _ _ hq).trans ((Below.heap_setCell _ _ _ _ hq).trans ((Below.heap_setCell _ _ _ _ hq).trans (Below.heap_setCell _ _ _ _ hq))))))
     have HB5:Hid (Below wp.heap.size wp W5):=hid (by rw[hW5];exact((((((HB3.out.trans (HB4.out.mono (Nat.le_of_lt HL3.out))).setCell (p:=⟨wp.heap.size,11,none⟩) lr _).setCell (p:=⟨wp.heap.size,12,none⟩) lr _).setCell (p:=⟨wp.heap.size,13,none⟩) lr _).setCell (p:=⟨wp.heap.size,14,none⟩) lr _).setCell (p:=⟨wp.heap.size,15,none⟩) lr _).setCell (p:=⟨wp.heap.size,16,none⟩) lr _)
     have HZ5:=hid hz5
     have HYQ:Hid (W5.heap[ob]?=some (.cells #[.int .i64 cv,.int .i64 ce,.int .i64 ct,.slice na' Ln.length nc',.slice aa' La.length ac',.slice sa' Ls.length sc',.slice qa' Lq.length qc',.slice la' Ll.length lc',v] 30)):=hid ((HB5.out.block ob HWZ.out.2).trans HYP.out)
     have HZ4:Hid (wp.heap.size≤W5.heap.size):=hid HB5.out.size
     have HEI:Hid (IsEf (fun q=>wp.heap.size≤q∧q<W5.heap.size) W5 ⟨y.k,aH y.nm,y.nu,aH y.tx,⟨y.st.e,a1,qs,c1⟩,⟨y.rs.e,a2,qe,c2⟩,aH y.sv,y.ca,y.un,c4.b,aH y.nd⟩ (iU dy)):=hid
      ⟨HYI.out.k,congrArg aH HYI.out.nm,by have:=(aW y.nm).1;dsimp only;omega,HYI.out.nu,congrArg aH HYI.out.tx,by have:=(aW y.tx).1;dsimp only;omega,
        ⟨HYI.out.st.e,HYI.out.st.re,HI1.out.same fun b hb=>⟨⟨by omega,by have h1:=HB4.out.size;have h2:=HZ5.out;omega⟩,(HO5.out b (by omega)).trans (HB4.out.block b hb.2)⟩⟩,
        ⟨HYI.out.rs.e,HYI.out.rs.re,HI2.out.same fun b hb=>⟨⟨by omega,by have h1:=HB4.out.size;have h2:=HZ5.out;omega⟩,(HO5.out b (by omega)).trans (HB4.out.block b hb.2)⟩⟩,
        congrArg aH HYI.out.sv,HYI.out.ca,HYI.out.rca,HYI.out.un,
        HI4.out.b.same fun b hb=>⟨⟨by have h1:=HL3.out;omega,by have h2:=HZ5.out;omega⟩,HO5.out b (by have h1:=HL3.out;omega)⟩,
        congrArg aH HYI.out.nd,by have:=(aW y.nd).1;dsimp only;omega⟩
     have hld5:=qG (w:=W5) (b:=wp.heap.size) (o:=0) (c:=⟨y.k,aH y.nm,y.nu,aH y.tx,⟨y.st.e,a1,qs,c1⟩,⟨y.rs.e,a2,qe,c2⟩,aH y.sv,y.ca,y.un,c4.b,aH y.nd⟩) (at_ef (c:=⟨y.k,aH y.nm,y.nu,aH y.tx,⟨y.st.e,a1,qs,c1⟩,⟨y.rs.e,a2,qe,c2⟩,aH y.sv,y.ca,y.un,c4.b,aH y.nd⟩) HP5.out)
     have hst5:=fun z hz=>yS W5 z hz ⟨y.k,aH y.nm,y.nu,aH y.tx,⟨y.st.e,a1,qs,c1⟩,⟨y.rs.e,a2,qe,c2⟩,aH y.sv,y.ca,y.un,c4.b,aH y.nd⟩
     dsimp only[EfC.cs] at hld5 hst5
     have p1:=aA HYQ.out 8
     (try dsimp only at p1)
     rw[←hW5]
     clear hW5 hz5 HX11 HX12 HX13 HX14 HX15 HX16 k11 k12 k13 k14 k15 k16 r11 r12 r13 r14 r15 r16
     go_wp2_with (at_builtin;refine wpList_append_lies _ (by rfl) _ _ 28 (by rfl) Wp.heap.size 75 tE _ 18 248 Tryz.underlying28 ei0 ei1 ei2 ei3 rfl (by omega) v k (cs.flatMap EfC.cs) (by rfl) ((cW HOWN.out HB5.out).alloc (.cells #[.int .i64 y.k,.string (aH y.nm),.int .i64 y.nu,.string (aH y.tx),.int .i64 y.st.e,.slice a1 qs c1,.int .i64 y.rs.e,.slice a2 qe c2,.string (aH y.sv),.int .i64 y.ca,.bool y.un,.int .i64 c4.b.k,.int .i64 c4.b.i,.int .i64 c4.b.s,.string c4.b.t,.slice c4.b.la c4.b.ll c4.b.lc,.slice c4.b.fa c4.b.fl c4.b.fc,.string (aH y.nd)] 75)) ⟨W5.heap.size,0,none⟩ 1 1 (EfC.cs ⟨y.k,aH y.nm,y.nu,aH y.tx,⟨y.st.e,a1,qs,c1⟩,⟨y.rs.e,a2,qe,c2⟩,aH y.sv,y.ca,y.un,c4.b,aH y.nd⟩) (by rfl) (by rfl) (World.news_of_block (heap_alloc_new W5 _)) (by simp[EfC.cs,Value.oneCell']) (by omega) (by unfold maxLen;have:=HK4.out;omega) (by have:=HK4.out;omega) (by have h1:=HZ4.out;have h2:=HPZ.out;simp;omega) (W5.heap.size+1) (by simp) ?_;intro gg cap5 w5 hown2 hgrow hat hlt2;have HO2:=hid hown2;have HG:=hid hgrow;have HAT:=hid hat;have hY5:=aY hgrow (aC _ HYQ.out) (fun e=>by have h1:=(HVO.out _ e.symm).1;have h2:=HLTp.out;omega);have HY5:=hid hY5;have p5:=aE hY5 8;have p6:=aA hY5 8;(try dsimp only at p6);clear hY5 hown2 hgrow hat hlt2)
     clear hld5 hst5 p1
     clear p5 p6
     go_roundw
     case rel =>
      have hpz:=HPZ.out
      have hlt:=HLTp.out
      have hbE:Below wp.heap.size wp W5:=HB5.out
      have hzE:=hbE.size
      have hpush:Built efK 75 Wp.heap.size w5 (.slice (some ⟨gg,0,none⟩) (k+1) cap5) (k+1) Lp :=
       Built.push (K:=efK) (N:=wp.heap.size) (w1:=W5) (o:=(.cells #[.int .i64 y.k,.string (aH y.nm),.int .i64 y.nu,.string (aH y.tx),.int .i64 y.st.e,.slice a1 qs c1,.int .i64 y.rs.e,.slice a2 qe c2,.string (aH y.sv),.int .i64 y.ca,.bool y.un,.int .i64 c4.b.k,.int .i64 c4.b.i,.int .i64 c4.b.s,.string c4.b.t,.slice c4.b.la c4.b.ll c4.b.lc,.slice c4.b.fa c4.b.fl c4.b.fc,.string (aH y.nd)] 75)) (c:=⟨y.k,aH y.nm,y.nu,aH y.tx,⟨y.st.e,a1,qs,c1⟩,⟨y.rs.e,a2,qe,c2⟩,aH y.sv,y.ca,y.un,c4.b,aH y.nd⟩) HCL.out
        (fun j hj hj'=>efK.same (fun q hq=>⟨⟨hq.1,by have:=hq.2.1;omega,hq.2.2⟩,hbE.block q hq.2.1⟩) (HEL.out j hj hj')) HKL2.out (by rw[HLK.out HKL2.out];exact HEI.out) hpz (fun r e=>(HVO.out r e).2) HO2.out HG.out HAT.out
      have hyn:=aD (o:=8) (.slice (some ⟨gg,0,none⟩) (k+1) cap5) HY5.out
      simp only[List.setIfInBounds_toArray,List.set_cons_zero,List.set_cons_succ] at hyn
      have ht2:Turn (fun q=>q=ob∨v.ownBlock=some q) wp (w5.setCell ⟨ob,8,none⟩ (.slice (some ⟨gg,0,none⟩) (k+1) cap5)):=(((Turn.of_below hbE).trans (Turn.of_below ((Below.refl _ W5).alloc lr (.cells #[.int .i64 y.k,.string (aH y.nm),.int .i64 y.nu,.string (aH y.tx),.int .i64 y.st.e,.slice a1 qs c1,.int .i64 y.rs.e,.slice a2 qe c2,.string (aH y.sv),.int .i64 y.ca,.bool y.un,.int .i64 c4.b.k,.int .i64 c4.b.i,.int .i64 c4.b.s,.string c4.b.t,.slice c4.b.la c4.b.ll c4.b.lc,.slice c4.b.fa c4.b.fl c4.b.fc,.string (aH y.nd)] 75)))).trans (Turn.of_grown HG.out (fun r e=>.inr e))).trans (Turn.setCell ⟨ob,8,none⟩ _ (.inl rfl))
      exact⟨k+1,_,HKL2.out,by go_num,hpush.set _ _ (by show ob<Wp.heap.size;omega),hyn,HTN.out.fresh' ht2 (fun q hq hs=>by rcases hs with h | h;exact h;exact absurd (HVO.out q h).1 (by omega))⟩
     case measure=>simp[intOf];have:=HKL2.out;omega
    ·have hx:¬ k<Lp.length:=fun h=>g2 (by have:=(aZ (n:=4) (f:=iU) (l:=d.ps) k (by rw[←HLp.out];exact h)).2;omega)
     have HXX:=hid hx
     clear hx hltp
     go_wp2
     go_meet
     exact EX.out HXX.out
   ·have hx:¬ k<Lp.length:=fun h=>g1 (by have:=(aZ (n:=4) (f:=iU) (l:=d.ps) k (by rw[←HLp.out];exact h)).1;have h2:=HD.out.ps.len;dsimp only at h2;omega)
    have HXX:=hid hx
    clear hx hltp
    go_wp2
    go_meet
    exact EX.out HXX.out
 case rest =>
 obtain⟨vp,hbup,hyp,htp⟩:=hcut
 obtain⟨Wz,rfl⟩:∃u:World,u=wc:=⟨_,rfl⟩
 obtain⟨pa',pc',rfl,_,_,_⟩:=hbup.shape
 have hltz:=HLTp.out
 have hzz:=htp.size
 have HBp:=hid hbup;have HTp:=hid htp
 have HOz:=hid hyp
 have HMz:=hid (htp.keep HMp.out (by omega))
 have HXXz:=hid (htp.keep HXXp.out (by omega))
 have HRRz:=hid (htp.keep HRRp.out (by omega))
 have HSz:=hid (fun (q:Nat) (hq:q<w.heap.size)=>(htp.block q (by omega) (by omega)).trans (HSp.out q hq))
 have HLTz:Hid (w.heap.size≤xb∧xb<mb∧xb+1<mb∧mb<ob∧ob<Wz.heap.size):=hid (by omega)
 clear hbup hyp htp hltz hzz
 have HRn:=hid ((HBn.out.keep ((((HTa.out.trans HTs.out).trans HTq.out).trans HTl.out).trans HTp.out) (fun q h1 _ h3=>by have h:=HLTn.out;omega)).row (by have h:Ln.length≤4:=(by rw[HLn.out];exact bA _ _ _);show Ln.length * 40≤_;omega))
 have HRa:=hid ((HBa.out.keep (((HTs.out.trans HTq.out).trans HTl.out).trans HTp.out) (fun q h1 _ h3=>by have h:=HLTa.out;omega)).row (by have h:La.length≤4:=(by rw[HLa.out];exact bA _ _ _);show La.length * 24≤_;omega))
 have HRs:=hid ((HBs.out.keep ((HTq.out.trans HTl.out).trans HTp.out) (fun q h1 _ h3=>by have h:=HLTs.out;omega)).row (by have h:Ls.length≤4:=(by rw[HLs.out];exact bA _ _ _);show Ls.length * 24≤_;omega))
 have HRq:=hid ((HBq.out.keep (HTl.out.trans HTp.out) (fun q h1 _ h3=>by have h:=HLTq.out;omega)).row (by have h:Lq.length≤4:=(by rw[HLq.out];exact bA _ _ _);show Lq.length * 48≤_;omega))
 have HRl:=hid ((HBl.out.keep HTp.out (fun q h1 _ h3=>by have h:=HLTl.out;omega)).row (by have h:Ll.length≤4:=(by rw[HLl.out];exact bA _ _ _);show Ll.length * 192≤_;omega))
 have HRp:=hid (HBp.out.row (by have h:Lp.length≤4:=(by rw[HLp.out];exact bA _ _ _);show Lp.length * 248≤_;omega))
 have HTT:=hid (((((HTn.out.trans HTa.out).trans HTs.out).trans HTq.out).trans HTl.out).trans HTp.out)
 have HBB:Hid (Below w.heap.size w Wz):=hid (HBn0.out.trans (HTT.out.below' (fun k hk=>by have h:=HLTn.out;omega) HBn0.out.size))
 have d0:=aA HOz.out 0
 have z0:=aA HRRz.out 0
 have y0:=aE HRRz.out 0
 have d1:=aA HOz.out 1
 have z1:=aA HRRz.out 1
 have y1:=aE HRRz.out 1
 have d2:=aA HOz.out 2
 have z2:=aA HRRz.out 2
 have y2:=aE HRRz.out 2
 have d3:=aA HOz.out 3
 have z3:=aA HRRz.out 3
 have y3:=aE HRRz.out 3
 have d4:=aA HOz.out 4
 have z4:=aA HRRz.out 4
 have y4:=aE HRRz.out 4
 have d5:=aA HOz.out 5
 have z5:=aA HRRz.out 5
 have y5:=aE HRRz.out 5
 have d6:=aA HOz.out 6
 have z6:=aA HRRz.out 6
 have y6:=aE HRRz.out 6
 have d7:=aA HOz.out 7
 have z7:=aA HRRz.out 7
 have y7:=aE HRRz.out 7
 have d8:=aA HOz.out 8
 have z8:=aA HRRz.out 8
 have y8:=aE HRRz.out 8
 (try dsimp only at d0 z0 d1 z1 d2 z2 d3 z3 d4 z4 d5 z5 d6 z6 d7 z7 d8 z8)
 go_wp2
 clear d0 z0 y0 d1 z1 y1 d2 z2 y2 d3 z3 y3 d4 z4 y4 d5 z5 y5 d6 z6 y6 d7 z7 y7 d8 z8 y8
 have hF:=(aD (o:=8) (.slice pa' Lp.length pc') (aD (o:=7) (.slice la' Ll.length lc') (aD (o:=6) (.slice qa' Lq.length qc') (aD (o:=5) (.slice sa' Ls.length sc') (aD (o:=4) (.slice aa' La.length ac') (aD (o:=3) (.slice na' Ln.length nc') (aD (o:=2) (.int .i64 ct) (aD (o:=1) (.int .i64 ce) (aD (o:=0) (.int .i64 cv) HRRz.out)))))))))
 simp only[List.setIfInBounds_toArray,List.set_cons_zero,List.set_cons_succ] at hF
 have hxb1:w.heap.size≤xb+1:=by have h:=HLTn.out;omega
 have hO:∀q,q≠xb+1→(((((((((Wz.setCell ⟨xb+1,0,none⟩ (.int .i64 cv)).setCell ⟨xb+1,1,none⟩ (.int .i64 ce)).setCell ⟨xb+1,2,none⟩ (.int .i64 ct)).setCell ⟨xb+1,3,none⟩ (.slice na' Ln.length nc')).setCell ⟨xb+1,4,none⟩ (.slice aa' La.length ac')).setCell ⟨xb+1,5,none⟩ (.slice sa' Ls.length sc')).setCell ⟨xb+1,6,none⟩ (.slice qa' Lq.length qc')).setCell ⟨xb+1,7,none⟩ (.slice la' Ll.length lc')).setCell ⟨xb+1,8,none⟩ (.slice pa' Lp.length pc')).heap[q]?=Wz.heap[q]?:=fun q hq=>((Below.heap_setCell _ _ _ _ (by exact hq)).trans ((Below.heap_setCell _ _ _ _ (by exact hq)).trans ((Below.heap_setCell _ _ _ _ (by exact hq)).trans ((Below.heap_setCell _ _ _ _ (by exact hq)).trans ((Below.heap_setCell _ _ _ _ (by exact hq)).trans ((Below.heap_setCell _ _ _ _ (by exact hq)).trans ((Below.heap_setCell _ _ _ _ (by exact hq)).trans ((Below.heap_setCell _ _ _ _ (by exact hq)).trans (Below.heap_setCell _ _ _ _ (by exact hq))))))))))
 have hZ:(((((((((Wz.setCell ⟨xb+1,0,none⟩ (.int .i64 cv)).setCell ⟨xb+1,1,none⟩ (.int .i64 ce)).setCell ⟨xb+1,2,none⟩ (.int .i64 ct)).setCell ⟨xb+1,3,none⟩ (.slice na' Ln.length nc')).setCell ⟨xb+1,4,none⟩ (.slice aa' La.length ac')).setCell ⟨xb+1,5,none⟩ (.slice sa' Ls.length sc')).setCell ⟨xb+1,6,none⟩ (.slice qa' Lq.length qc')).setCell ⟨xb+1,7,none⟩ (.slice la' Ll.length lc')).setCell ⟨xb+1,8,none⟩ (.slice pa' Lp.length pc')).heap.size=Wz.heap.size:=by simp[World.setCell]
 have hB2:Below w.heap.size w (((((((((Wz.setCell ⟨xb+1,0,none⟩ (.int .i64 cv)).setCell ⟨xb+1,1,none⟩ (.int .i64 ce)).setCell ⟨xb+1,2,none⟩ (.int .i64 ct)).setCell ⟨xb+1,3,none⟩ (.slice na' Ln.length nc')).setCell ⟨xb+1,4,none⟩ (.slice aa' La.length ac')).setCell ⟨xb+1,5,none⟩ (.slice sa' Ls.length sc')).setCell ⟨xb+1,6,none⟩ (.slice qa' Lq.length qc')).setCell ⟨xb+1,7,none⟩ (.slice la' Ll.length lc')).setCell ⟨xb+1,8,none⟩ (.slice pa' Lp.length pc')):=(((((((((HBB.out.setCell (p:=⟨xb+1,0,none⟩) hxb1 _).setCell (p:=⟨xb+1,1,none⟩) hxb1 _).setCell (p:=⟨xb+1,2,none⟩) hxb1 _).setCell (p:=⟨xb+1,3,none⟩) hxb1 _).setCell (p:=⟨xb+1,4,none⟩) hxb1 _).setCell (p:=⟨xb+1,5,none⟩) hxb1 _).setCell (p:=⟨xb+1,6,none⟩) hxb1 _).setCell (p:=⟨xb+1,7,none⟩) hxb1 _).setCell (p:=⟨xb+1,8,none⟩) hxb1 _)
 obtain⟨Wf,hWf⟩:∃Wf,Wf=(((((((((Wz.setCell ⟨xb+1,0,none⟩ (.int .i64 cv)).setCell ⟨xb+1,1,none⟩ (.int .i64 ce)).setCell ⟨xb+1,2,none⟩ (.int .i64 ct)).setCell ⟨xb+1,3,none⟩ (.slice na' Ln.length nc')).setCell ⟨xb+1,4,none⟩ (.slice aa' La.length ac')).setCell ⟨xb+1,5,none⟩ (.slice sa' Ls.length sc')).setCell ⟨xb+1,6,none⟩ (.slice qa' Lq.length qc')).setCell ⟨xb+1,7,none⟩ (.slice la' Ll.length lc')).setCell ⟨xb+1,8,none⟩ (.slice pa' Lp.length pc')):=⟨_,rfl⟩
 rw[←hWf] at hF hO hZ hB2 ⊢
 exact bodyPost_ret (v:=SnC.w ⟨cv,ce,ct,na',Ln.length,nc',aa',La.length,ac',sa',Ls.length,sc',qa',Lq.length,qc',la',Ll.length,lc',pa',Lp.length,pc'⟩) (by simp[results,Tryz.results6,go_sem,aA hF]) rfl ⟨⟨cv,ce,ct,na',Ln.length,nc',aa',La.length,ac',sa',Ls.length,sc',qa',Lq.length,qc',la',Ll.length,lc',pa',Lp.length,pc'⟩,rfl,hB2,⟨HD.out.v,HD.out.rv,HD.out.e,HD.out.re,HD.out.t,HD.out.rt,(by rw[show(fO d).ns=Ln from HLn.out.symm];exact HRn.out.same fun q hq=>⟨⟨by have h:=HLTn.out;omega,by omega⟩,hO q (by have h:=HLTn.out;omega)⟩),(by rw[show(fO d).ar=La from HLa.out.symm];exact HRa.out.same fun q hq=>⟨⟨by have h:=HLTa.out;omega,by omega⟩,hO q (by have h:=HLTa.out;omega)⟩),(by rw[show(fO d).se=Ls from HLs.out.symm];exact HRs.out.same fun q hq=>⟨⟨by have h:=HLTs.out;omega,by omega⟩,hO q (by have h:=HLTs.out;omega)⟩),(by rw[show(fO d).qs=Lq from HLq.out.symm];exact HRq.out.same fun q hq=>⟨⟨by have h:=HLTq.out;omega,by omega⟩,hO q (by have h:=HLTq.out;omega)⟩),(by rw[show(fO d).ls=Ll from HLl.out.symm];exact HRl.out.same fun q hq=>⟨⟨by have h:=HLTl.out;omega,by omega⟩,hO q (by have h:=HLTl.out;omega)⟩),(by rw[show(fO d).ps=Lp from HLp.out.symm];exact HRp.out.same fun q hq=>⟨⟨by have h:=HLTp.out;omega,by omega⟩,hO q (by have h:=HLTp.out;omega)⟩)⟩⟩
end
end
end Go.Proofs.YteladbdfiannjaaGreatDoor
