/-
  A row's argument that is an entry of the journal, opened for a walk. No conditions beyond those of each lemma.
-/
import Derived.Test.YtmgpghoamapfgaaGreatDoorJN49Mrg
import Derived.Test.YtmgpghoamapfgaaGreatDoorJN28Mrg
namespace Go.Proofs.YtmgpghoamapfgaaGreatDoor
set_option linter.unusedVariables false
set_option maxRecDepth 100000
set_option maxHeartbeats 16000000
set_option linter.unusedSimpArgs false
open Go Go.RowKit Go.ChangeShapes Go.WideShapes Go.ChangeAt
theorem cellsEnt:Tryz.prog.cellsOf 41=18:=by kernel_rfl
theorem cellsStrJ:Tryz.prog.cellsOf 9=1:=by kernel_rfl
theorem cellsBoolJ:Tryz.prog.cellsOf 4=1:=by kernel_rfl
section
variable {H:Type} {enc:TypeId × Value→H} {hld:Bool} {W:World}
theorem open_ent {fuel:Nat} {cs:List Value} {x:DataW H × List MemPlace} (h:RdW enc hld W fuel 41 cs=some x) (hw:Light 41 x.1):∃(c:EnC) (d:En),cs=EnC.cs c∧IsEn (· < W.heap.size) W c d:=by
 obtain⟨xs,n,rfl,rfl,hl,hlen,hf⟩:=DataW.trod_struct Tryz.underlying41 h
 rw[cellsEnt] at hl
 match cs,hl with
 | [c0,c1,c2,c3,c4,c5,c6,c7,c8,c9,c10,c11,c12,c13,c14,c15,c16,c17],_ =>
 match xs,hlen with
 | [y0,y1,y2,y3,y4,y5,y6,y7,y8,y9,y10,y11],_ =>
 have f0:=hf 0 _ rfl
 have f1:=hf 1 _ rfl
 have f2:=hf 2 _ rfl
 have f3:=hf 3 _ rfl
 have f4:=hf 4 _ rfl
 have f5:=hf 5 _ rfl
 have f6:=hf 6 _ rfl
 have f7:=hf 7 _ rfl
 have f8:=hf 8 _ rfl
 have f9:=hf 9 _ rfl
 have f10:=hf 10 _ rfl
 have f11:=hf 11 _ rfl
 simp only[cellsInt,cellsStrJ,cellsBoolJ,cellsVal,cellsSt,List.drop_zero,List.drop_succ_cons,List.take_succ_cons,List.take_zero,List.getElem?_cons_zero,List.getElem?_cons_succ] at f0 f1 f2 f3 f4 f5 f6 f7 f8 f9 f10 f11
 have hw':∀m∈y0.1.weights Tryz.prog 3++(y1.1.weights Tryz.prog 3++(y2.1.weights Tryz.prog 3++(y3.1.weights Tryz.prog 3++(y4.1.weights Tryz.prog 3++(y5.1.weights Tryz.prog 9++(y6.1.weights Tryz.prog 9++(y7.1.weights Tryz.prog 9++(y8.1.weights Tryz.prog 4++(y9.1.weights Tryz.prog 4++(y10.1.weights Tryz.prog 36++(y11.1.weights Tryz.prog 39))))))))))),m≤reachBytes:=fun m hm=>hw m (by
  simp only[DataW.weights,Tryz.underlying41,DataW.weightsEach,List.map_cons,List.map_nil,List.append_nil,List.nil_append]
  exact hm)
 obtain⟨k,e0,rfl,w0⟩:=DataW.trod_int Tryz.underlying3 f0
 obtain⟨ti,e1,rfl,w1⟩:=DataW.trod_int Tryz.underlying3 f1
 obtain⟨nu,e2,rfl,w2⟩:=DataW.trod_int Tryz.underlying3 f2
 obtain⟨ve,e3,rfl,w3⟩:=DataW.trod_int Tryz.underlying3 f3
 obtain⟨ca,e4,rfl,w4⟩:=DataW.trod_int Tryz.underlying3 f4
 obtain⟨nm,e5,z5⟩:=text_of f5 (fun q hq=>hw' q (List.mem_append_right _ (List.mem_append_right _ (List.mem_append_right _ (List.mem_append_right _ (List.mem_append_right _ (List.mem_append_left _ hq)))))))
 obtain⟨nd,e6,z6⟩:=text_of f6 (fun q hq=>hw' q (List.mem_append_right _ (List.mem_append_right _ (List.mem_append_right _ (List.mem_append_right _ (List.mem_append_right _ (List.mem_append_right _ (List.mem_append_left _ hq))))))))
 obtain⟨tx,e7,z7⟩:=text_of f7 (fun q hq=>hw' q (List.mem_append_right _ (List.mem_append_right _ (List.mem_append_right _ (List.mem_append_right _ (List.mem_append_right _ (List.mem_append_right _ (List.mem_append_right _ (List.mem_append_left _ hq)))))))))
 obtain⟨un,e8,-⟩:=DataW.trod_bool Tryz.underlying4 f8
 obtain⟨dn,e9,-⟩:=DataW.trod_bool Tryz.underlying4 f9
 obtain⟨b,db,e10,hb⟩:=open_val _ _ _ f10 (fun q hq=>hw' q (List.mem_append_right _ (List.mem_append_right _ (List.mem_append_right _ (List.mem_append_right _ (List.mem_append_right _ (List.mem_append_right _ (List.mem_append_right _ (List.mem_append_right _ (List.mem_append_right _ (List.mem_append_right _ (List.mem_append_left _ hq))))))))))))
 obtain⟨sc,sd,e11,hs⟩:=open_st f11 (fun q hq=>hw' q (List.mem_append_right _ (List.mem_append_right _ (List.mem_append_right _ (List.mem_append_right _ (List.mem_append_right _ (List.mem_append_right _ (List.mem_append_right _ (List.mem_append_right _ (List.mem_append_right _ (List.mem_append_right _ (List.mem_append_right _ (hq)))))))))))))
 cases e0;cases e1;cases e2;cases e3;cases e4;cases e5;cases e6;cases e7;cases e8;cases e9
 obtain⟨bk,bi,bs,bt,bla,bll,blc,bfa,bfl,bfc⟩:=b
 obtain⟨se,sa,sn,scc⟩:=sc
 simp only[VC.cs] at e10
 cases e10
 cases e11
 exact⟨⟨k,ti,nu,ve,ca,nm,nd,tx,un,dn,⟨bk,bi,bs,bt,bla,bll,blc,bfa,bfl,bfc⟩,⟨se,sa,sn,scc⟩⟩,⟨k,ti,nu,ve,ca,nm,nd,tx,un,dn,db,sd⟩,rfl,rfl,i64_of w0,rfl,i64_of w1,rfl,i64_of w2,rfl,i64_of w3,rfl,i64_of w4,rfl,z5,rfl,z6,rfl,z7,rfl,rfl,hb,hs⟩
end
section
variable {H:Type} {enc:TypeId × Value→H} {W:World}
theorem arg_ent {v:Value} {d:DataW H} {p:List MemPlace} (h:DataW.Trod enc Tryz.prog W 0 (fun _=>true) true 41 v d p) (hw:Light 41 d):∃(c:EnC) (x:En),v=c.v∧IsEn (· < W.heap.size) W c x:=by
 obtain⟨fuel,hr⟩:=h
 obtain⟨c,x,hc,hv⟩:=open_ent hr hw
 exact⟨c,x,agg_of_cells hc (by simp[EnC.cs]),hv⟩
end
end Go.Proofs.YtmgpghoamapfgaaGreatDoor
