/-
  Plain: the text of a reply's body that is read of an entry's bytes is the body's text. No program is stepped through here.
-/
import Derived.Test.YtaofolgaiipcjaaGreatDoorJP40Mrg
import Derived.Test.YtaofolgaiipcjaaGreatDoorJP35Mrg
namespace Go.Proofs.YtaofolgaiipcjaaGreatDoor
set_option linter.unusedVariables false
set_option linter.unusedSimpArgs false
open Go Go.RowKit Go.Shelf
theorem head_enc {d:En} {s:ByteArray} (h:encJ d=(s,0)) (hn:Named d.bd):∃w2:JW,(wrJ d w2).e=0∧s.data.toList=(wrJ d w2).b∧headJ s=({ enZ with k:=d.k,ti:=d.ti },⟨w2.b.length,0⟩):=by
 unfold encJ at h
 split at h
 ·injection h with h1 h2;rename_i hc;exact absurd h2 hc
 split at h
 ·injection h with h1 h2;rename_i hc;exact absurd h2 hc
 rename_i he
 have he:(encW d).e=0:=by simpa using he
 injection h with h1 _
 have hs:s.data.toList=(encW d).b:=by rw[←h1]
 obtain⟨w1,hw1⟩:∃w1,w1=JW.num ⟨[],0⟩ d.k:=⟨_,rfl⟩
 obtain⟨w2,hw2⟩:∃w2,w2=w1.num d.ti:=⟨_,rfl⟩
 have hwr:encW d=wrJ d w2:=by rw[hw2,hw1];rfl
 rw[hwr] at he hs
 have hx:=wrJ_ext d w2
 have a1:JR.num s ⟨0,0⟩=(d.k,⟨w1.b.length,0⟩):=by
  rw[hw1]
  exact num_b (w:=⟨[],0⟩) (n:=d.k) (W:=wrJ d w2) (by rw[←hw1];exact((JExt.num w1 d.ti).trans (hw2▸hx))) he hs
 have a2:JR.num s ⟨w1.b.length,0⟩=(d.ti,⟨w2.b.length,0⟩):=by
  rw[hw2]
  exact num_b (W:=wrJ d w2) (by rw[←hw2];exact hx) he hs
 refine⟨w2,he,hs,?_⟩
 unfold headJ
 rw[a1]
 dsimp only
 rw[a2]
theorem bodT_enc {d:En} {s:ByteArray} (h:encJ d=(s,0)) (hn:Named d.bd) (hk:(headJ s).1.k=3):(bodT s (headJ s).2).size≤65536:=by
 obtain⟨w2,he,hs,hh⟩:=head_enc h hn
 rw[hh] at hk ⊢
 have hk:d.k=3:=hk
 rw[wrJ_3 d w2 hk] at he hs
 simp only[JW.nums,List.foldl] at he hs
 obtain⟨q,hq⟩:∃q,q=litF d.bd:=⟨_,rfl⟩
 have hl:q.1.size≤65536:=by rw[hq];exact litF_size _
 rw[←hq] at he hs
 have x7:=JExt.text ((((((w2.fail q.2).text d.nm).num d.nu).text d.nd).num d.ca).num (flgN d.un d.dn)) q.1
 have x6:=(JExt.num (((((w2.fail q.2).text d.nm).num d.nu).text d.nd).num d.ca) (flgN d.un d.dn)).trans x7
 have x5:=(JExt.num ((((w2.fail q.2).text d.nm).num d.nu).text d.nd) d.ca).trans x6
 have x4:=(JExt.text (((w2.fail q.2).text d.nm).num d.nu) d.nd).trans x5
 have x3:=(JExt.num ((w2.fail q.2).text d.nm) d.nu).trans x4
 have g1:=text_b (w:=w2.fail q.2) x3 he hs
 rw[show(w2.fail q.2).b=w2.b from rfl] at g1
 unfold bodT
 dsimp only
 rw[g1]
 dsimp only
 rw[num_b x4 he hs]
 dsimp only
 rw[text_b x5 he hs]
 dsimp only
 rw[num_b x6 he hs]
 dsimp only
 rw[num_b x7 he hs]
 dsimp only
 rw[text_b (JExt.refl _) he hs]
 exact hl
end Go.Proofs.YtaofolgaiipcjaaGreatDoor
