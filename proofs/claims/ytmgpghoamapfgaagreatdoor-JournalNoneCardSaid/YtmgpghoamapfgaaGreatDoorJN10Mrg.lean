/-
  The plain law of literal.Parse, fifth part: the text of a valid value leads back to it. No program is stepped through here.
-/
import Derived.Test.YtmgpghoamapfgaaGreatDoorJN7Mrg
import Derived.Test.YtmgpghoamapfgaaGreatDoorJN9Mrg
namespace Go.Proofs.YtmgpghoamapfgaaGreatDoor
set_option linter.unusedVariables false
set_option linter.unusedSimpArgs false
section
open Go Go.RowKit Go.Shelf
/-! ### valid values -/
mutual
def Fine:Nat→Val→Prop
 | f,.mk k i s t l ns fs=>(∃g,f=g+1)∧itemOK (.mk k i s t l ns fs)∧usesV (.mk k i s t l ns fs)=true∧ns.length=fs.length∧FineL (f-1) l∧FineL (f-1) fs
def FineL:Nat→List Val→Prop
 | _,[]=>True
 | f,d :: l=>Fine f d∧FineL f l
end
mutual
def Named:Val→Prop
 | .mk k i s t l ns fs=>ns.length=fs.length∧NamedL l∧NamedL fs
def NamedL:List Val→Prop
 | []=>True
 | d :: l=>Named d∧NamedL l
end
mutual
theorem IsVal.named {S:Nat→Prop} {w:World}:∀{c:VC} {d:Val},IsVal S w c d→Named d
 | c,.mk k i s t l ns fs,h=>by
   obtain⟨⟨_,_,_,_,_,_,_,h1⟩,h2,h3⟩:=h
   refine⟨h1,?_,?_⟩
   ·rcases h2 with h2 | ⟨b,o,_,_,hv⟩
    ·rw[h2];trivial
    ·exact IsVals.named hv
   ·rcases h3 with h3 | ⟨b,o,_,_,hv⟩
    ·rw[h3];trivial
    ·exact IsFlds.named hv
theorem IsVals.named {S:Nat→Prop} {w:World} {b:Nat}:∀{o:Nat} {l:List Val},IsVals S w b o l→NamedL l
 | _,[],_=>trivial
 | o,d :: l,⟨⟨c,_,hv⟩,ht⟩=>⟨IsVal.named hv,IsVals.named ht⟩
theorem IsFlds.named {S:Nat→Prop} {w:World} {b:Nat}:∀{o:Nat} {ns:List ByteArray} {l:List Val},IsFlds S w b o ns l→NamedL l
 | _,_,[],_=>trivial
 | o,ns,d :: l,⟨⟨_,c,_,hv⟩,ht⟩=>⟨IsVal.named hv,IsFlds.named ht⟩
end
end
section
open Go Go.RowKit Go.Shelf
end
end Go.Proofs.YtmgpghoamapfgaaGreatDoor
