/-
  Plain: the bytes of an entry of the journal as a function of the entry, what reads them, and that the reading leads back. No program is stepped through here.
-/
import Derived.Test.YtmgpghoamapfgaaGreatDoorJN26Mrg
import Derived.Test.YtmgpghoamapfgaaGreatDoorJN27Mrg
namespace Go.Proofs.YtmgpghoamapfgaaGreatDoor
set_option linter.unusedVariables false
set_option linter.unusedSimpArgs false
section
open Go Go.RowKit Go.Shelf
structure En where
 k:Int
 ti:Int
 nu:Int
 ve:Int
 ca:Int
 nm:ByteArray
 nd:ByteArray
 tx:ByteArray
 un:Bool
 dn:Bool
 bd:Val
 st:St
def enZ:En:=⟨0,0,0,0,0,⟨#[]⟩,⟨#[]⟩,⟨#[]⟩,false,false,nulV,⟨0,[]⟩⟩
/-! ### the error of an entry -/
def usedB (d:En):Bool:=d.nu != 0||d.ve != 0||d.ca != 0||d.nm.size != 0||d.nd.size != 0||d.tx.size != 0||d.un||d.dn||cmpV d.bd nulV != 0||d.st.e != 0||d.st.ps.length != 0
def restE (d:En):En :=
 if d.k=1 then { d with nm:=⟨#[]⟩,nu:=0,ve:=0,tx:=⟨#[]⟩ }
 else if d.k=3 then { d with nm:=⟨#[]⟩,nu:=0,nd:=⟨#[]⟩,ca:=0,un:=false,dn:=false,bd:=nulV }
 else if d.k=4 then { d with ve:=0 }
 else if d.k=5∨d.k=6 then { d with st:=⟨0,[]⟩ }
 else d
def verB (d:En):Bool:=decide (1≤d.ve∧d.ve≤999)
def chkEn (d:En):Int :=
 if d.k<1∨6<d.k then 11
 else if d.ti<0∨17592186044416<d.ti then 34
 else if usedB (restE d)=true then 3
 else if d.k=1∧(d.nu<1∨verB d=false) then 2
 else if 65536<d.tx.size then 5
 else if d.k=3∧(d.nu<1∨d.ca<1) then 2
 else if d.k=3∧isNullV d.bd=false then (if kindV d.bd≠9 then 18 else chkVal d.bd)
 else if d.k=4∧verB d=false then 2
 else if d.k=5∨d.k=6 then stampE d.st
 else 0
/-! ### writing -/
structure JW where
 b:List UInt8
 e:Int
def JW.fail (w:JW) (e:Int):JW:=⟨w.b,if w.e=0 then e else w.e⟩
def JW.num (w:JW) (n:Int):JW:=⟨w.b++(putF n).1.data.toList,(w.fail (putF n).2).e⟩
def JW.nums (w:JW) (l:List Int):JW:=l.foldl JW.num w
def JW.text (w:JW) (s:ByteArray):JW:=⟨(w.num s.size).b++s.data.toList,(w.num s.size).e⟩
def flgN (un dn:Bool):Int:=(if un then 1 else 0)+(if dn then 2 else 0)
def stampTE (d:St):ByteArray × Int:=if stampE d=0 then (stampT d,0) else (⟨#[]⟩,stampE d)
def wrJ (d:En) (w:JW):JW :=
 if d.k=1 then ((w.text d.nm).nums [d.nu,d.ve]).text d.tx
 else if d.k=2 then w
 else if d.k=3 then (((((w.fail (litF d.bd).2).text d.nm).nums [d.nu]).text d.nd).nums [d.ca,flgN d.un d.dn]).text (litF d.bd).1
 else if d.k=4 then w.nums [d.ve]
 else (w.fail (stampTE d.st).2).text (stampTE d.st).1
def encW (d:En):JW:=wrJ d (JW.nums ⟨[],0⟩ [d.k,d.ti])
def encJ (d:En):ByteArray × Int:=if chkEn d≠0 then (⟨#[]⟩,chkEn d) else if (encW d).e≠0 then (⟨#[]⟩,(encW d).e) else (⟨(encW d).b.toArray⟩,0)
/-! ### the text leads back -/
theorem fail_0 {w:JW} {e:Int} (h:(w.fail e).e=0):w.e=0∧e=0:=by
 unfold JW.fail at h
 dsimp only at h
 split at h
 ·rename_i h1;exact⟨h1,h⟩
 ·rename_i h1;exact absurd h h1
theorem num_0 {w:JW} {n:Int} (h:(w.num n).e=0):w.e=0∧(putF n).2=0:=fail_0 (w:=w) (e:=(putF n).2) h
theorem text_0 {w:JW} {s:ByteArray} (h:(w.text s).e=0):w.e=0∧(putF s.size).2=0:=num_0 h
end
section
open Go Go.RowKit Go.Shelf
mutual
theorem cmpV_eq:∀(d d2:Val),cmpV d d2=0→Named d→Named d2→d=d2
 | .mk k i s t l ns fs,.mk k' i' s' t' l' ns' fs',h,hn,hn'=>by
   rw[cmpV] at h
   simp only[orL_cons] at h
   obtain⟨h1,h2,h3,h4,h5,h6,h7⟩:=h
   obtain⟨n1,n2,n3⟩:=hn
   obtain⟨m1,m2,m3⟩:=hn'
   have e4:t=t':=ByteArray.ext (Array.ext' (cmpB_zero h4))
   obtain⟨e6,e7⟩:=cmpFs_eq fs ns ns' fs' h6 n1 m1 n3 m3
   rw[cmpInt_zero h1,cmpInt_zero h2,cmpInt_zero h3,e4,cmpVs_eq l l' h5 n2 m2,e6,e7]
theorem cmpVs_eq:∀(l l':List Val),cmpVs l l'=0→NamedL l→NamedL l'→l=l'
 | [],[],_,_,_=>rfl
 | [],_ :: _,h,_,_=>by rw[cmpVs] at h;cases h
 | _ :: _,[],h,_,_=>by rw[cmpVs] at h;cases h
 | d :: l,d' :: l',h,hn,hn'=>by
   rw[cmpVs] at h
   by_cases h1:cmpV d d'=0
   ·rw[if_neg (by simpa using h1)] at h
    rw[cmpV_eq d d' h1 hn.1 hn'.1,cmpVs_eq l l' h hn.2 hn'.2]
   ·rw[if_pos h1] at h
    exact absurd h h1
theorem cmpFs_eq:∀(l:List Val) (ns ns':List ByteArray) (l':List Val),cmpFs ns l ns' l'=0→ns.length=l.length→ns'.length=l'.length→NamedL l→NamedL l'→ns=ns'∧l=l'
 | [],ns,ns',[],_,h1,h2,_,_=>by
   rw[List.length_nil] at h1 h2
   rw[List.eq_nil_of_length_eq_zero h1,List.eq_nil_of_length_eq_zero h2]
   exact⟨rfl,rfl⟩
 | [],ns,ns',_ :: _,h,_,_,_,_=>by rw[cmpFs] at h;cases h
 | _ :: _,ns,ns',[],h,_,_,_,_=>by rw[cmpFs] at h;cases h
 | d :: l,[],ns',d' :: l',h,h1,_,_,_=>by cases h1
 | d :: l,n :: ns,[],d' :: l',h,_,h2,_,_=>by cases h2
 | d :: l,n :: ns,n' :: ns',d' :: l',h,h1,h2,hn,hn'=>by
   rw[cmpFs] at h
   by_cases hq:orL [Lib.compareBytes ((n :: ns).headD ByteArray.empty).data.toList ((n' :: ns').headD ByteArray.empty).data.toList,cmpV d d']=0
   ·rw[if_neg (by simpa using hq)] at h
    simp only[orL_cons] at hq
    have e1:n=n':=ByteArray.ext (Array.ext' (cmpB_zero hq.1))
    obtain⟨e2,e3⟩:=cmpFs_eq l ns ns' l' h (by simpa using h1) (by simpa using h2) hn.2 hn'.2
    rw[e1,e2,e3,cmpV_eq d d' hq.2.1 hn.1 hn'.1]
    exact⟨rfl,rfl⟩
   ·rw[if_pos hq] at h
    exact absurd h hq
end
theorem named_nul:Named nulV:=⟨rfl,trivial,trivial⟩
def JExt (w w':JW):Prop:=(∃r,w'.b=w.b++r)∧(w'.e=0→w.e=0)
theorem JExt.refl (w:JW):JExt w w:=⟨⟨[],by simp⟩,id⟩
theorem JExt.trans {a b c:JW} (h:JExt a b) (h2:JExt b c):JExt a c:=by
 obtain⟨⟨r,hr⟩,he⟩:=h
 obtain⟨⟨q,hq⟩,hf⟩:=h2
 exact⟨⟨r++q,by rw[hq,hr,List.append_assoc]⟩,fun h=>he (hf h)⟩
theorem JExt.num (w:JW) (n:Int):JExt w (w.num n):=⟨⟨_,rfl⟩,fun h=>(num_0 h).1⟩
theorem JExt.fail (w:JW) (e:Int):JExt w (w.fail e):=⟨⟨[],by simp[JW.fail]⟩,fun h=>(fail_0 h).1⟩
theorem JExt.text (w:JW) (s:ByteArray):JExt w (w.text s):=⟨⟨(putF s.size).1.data.toList++s.data.toList,by rw[←List.append_assoc];rfl⟩,fun h=>(text_0 h).1⟩
theorem size_nil {x:ByteArray} (h:x.size=0):x=⟨#[]⟩:=by
 apply ByteArray.ext
 exact Array.eq_empty_of_size_eq_zero h
theorem unused {d:En} (h:usedB d=false) (hn:Named d.bd):d={ enZ with k:=d.k,ti:=d.ti }:=by
 obtain⟨k,ti,nu,ve,ca,nm,nd,tx,un,dn,bd,se,sp⟩:=d
 unfold usedB at h
 dsimp only at h hn ⊢
 simp only[Bool.or_eq_false_iff,bne_eq_false_iff_eq] at h
 obtain⟨⟨⟨⟨⟨⟨⟨⟨⟨⟨h1,h2⟩,h3⟩,h4⟩,h5⟩,h6⟩,h7⟩,h8⟩,h9⟩,h10⟩,h11⟩:=h
 rw[cmpV_eq _ _ h9 hn named_nul,size_nil h4,size_nil h5,size_nil h6,List.eq_nil_of_length_eq_zero h11,h1,h2,h3,h7,h8,h10]
 rfl
theorem chk_rest {d:En} (h:chkEn d=0) (hn:Named d.bd):(1≤d.k∧d.k≤6)∧restE d={ enZ with k:=d.k,ti:=d.ti }:=by
 unfold chkEn at h
 split at h
 ·cases h
 rename_i h1
 split at h
 ·cases h
 split at h
 ·cases h
 rename_i h3
 refine⟨by omega,?_⟩
 have hb:Named (restE d).bd:=by
  unfold restE
  split
  ·exact hn
  split
  ·exact named_nul
  split
  ·exact hn
  split
  ·exact hn
  ·exact hn
 have hk:(restE d).k=d.k∧(restE d).ti=d.ti:=by
  unfold restE
  split
  ·exact⟨rfl,rfl⟩
  split
  ·exact⟨rfl,rfl⟩
  split
  ·exact⟨rfl,rfl⟩
  split
  ·exact⟨rfl,rfl⟩
  ·exact⟨rfl,rfl⟩
 have:=unused (d:=restE d) (by simpa using h3) hb
 rw[this,hk.1,hk.2]
end
section
open Go Go.RowKit
structure EnC where
 k:Int
 ti:Int
 nu:Int
 ve:Int
 ca:Int
 nm:ByteArray
 nd:ByteArray
 tx:ByteArray
 un:Bool
 dn:Bool
 bd:VC
 st:SC
def EnC.cs (c:EnC):List Value:=[.int .i64 c.k,.int .i64 c.ti,.int .i64 c.nu,.int .i64 c.ve,.int .i64 c.ca,.string c.nm,.string c.nd,.string c.tx,.bool c.un,.bool c.dn,.int .i64 c.bd.k,.int .i64 c.bd.i,.int .i64 c.bd.s,.string c.bd.t,.slice c.bd.la c.bd.ll c.bd.lc,.slice c.bd.fa c.bd.fl c.bd.fc,.int .i64 c.st.e,.slice c.st.a c.st.n c.st.c]
abbrev EnC.v (c:EnC):Value:=.agg #[.int .i64 c.k,.int .i64 c.ti,.int .i64 c.nu,.int .i64 c.ve,.int .i64 c.ca,.string c.nm,.string c.nd,.string c.tx,.bool c.un,.bool c.dn,.int .i64 c.bd.k,.int .i64 c.bd.i,.int .i64 c.bd.s,.string c.bd.t,.slice c.bd.la c.bd.ll c.bd.lc,.slice c.bd.fa c.bd.fl c.bd.fc,.int .i64 c.st.e,.slice c.st.a c.st.n c.st.c]
abbrev EnC.ar (c:EnC):Array Value:=#[.int .i64 c.k,.int .i64 c.ti,.int .i64 c.nu,.int .i64 c.ve,.int .i64 c.ca,.string c.nm,.string c.nd,.string c.tx,.bool c.un,.bool c.dn,.int .i64 c.bd.k,.int .i64 c.bd.i,.int .i64 c.bd.s,.string c.bd.t,.slice c.bd.la c.bd.ll c.bd.lc,.slice c.bd.fa c.bd.fl c.bd.fc,.int .i64 c.st.e,.slice c.st.a c.st.n c.st.c]
structure IsEn (S:Nat→Prop) (w:World) (c:EnC) (d:En):Prop where
 k:c.k=d.k
 rk:I64 c.k
 ti:c.ti=d.ti
 rti:I64 c.ti
 nu:c.nu=d.nu
 rnu:I64 c.nu
 ve:c.ve=d.ve
 rve:I64 c.ve
 ca:c.ca=d.ca
 rca:I64 c.ca
 nm:c.nm=d.nm
 nmz:c.nm.size≤140737488351232
 nd:c.nd=d.nd
 ndz:c.nd.size≤140737488351232
 tx:c.tx=d.tx
 txz:c.tx.size≤140737488351232
 un:c.un=d.un
 dn:c.dn=d.dn
 bd:IsVal S w c.bd d.bd
 st:IsSt S w c.st d.st
theorem IsEn.same {S S':Nat→Prop} {w w':World} {c:EnC} {d:En} (hs:∀b,S b→S' b∧w'.heap[b]?=w.heap[b]?) (h:IsEn S w c d):IsEn S' w' c d :=
 ⟨h.k,h.rk,h.ti,h.rti,h.nu,h.rnu,h.ve,h.rve,h.ca,h.rca,h.nm,h.nmz,h.nd,h.ndz,h.tx,h.txz,h.un,h.dn,h.bd.same hs,h.st.same hs⟩
abbrev enZC:EnC:=⟨0,0,0,0,0,⟨#[]⟩,⟨#[]⟩,⟨#[]⟩,false,false,⟨0,0,0,⟨#[]⟩,none,0,0,none,0,0⟩,⟨0,none,0,0⟩⟩
theorem EnC.one (c:EnC):∀v∈c.cs,v.oneCell'=true:=by simp[EnC.cs,Value.oneCell']
theorem ldEn {w:World} {b:Nat} {c:EnC} {t:TypeId} {fr:Nat × Nat} (h:w.heap[b]?=some (.cells c.ar t fr)):(loadCellsFrom ⟨b,0,none⟩ 0 18 #[]).run Tryz.prog w=.ok c.ar w :=
 ldAll (P:=Tryz.prog) (vs:=c.cs) h
theorem infoEn:(Tryz.prog.info? 41).map (·.size)=some 18:=by kernel_rfl
theorem stEnN (w:World) (z:Array Value) (hz:z.size=18) (c:EnC):(storeCells ⟨w.heap.size,0,none⟩ c.cs 0).run Tryz.prog (w.alloc (.cells z 41))=.ok () (w.alloc (.cells c.ar 41)) :=
 stNew w 41 z c.cs infoEn hz (EnC.one c)
end
end Go.Proofs.YtmgpghoamapfgaaGreatDoor
