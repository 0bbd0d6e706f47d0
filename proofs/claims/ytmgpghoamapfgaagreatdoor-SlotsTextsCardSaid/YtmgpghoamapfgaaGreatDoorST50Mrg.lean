/- A part. -/
import Derived.Test.YtmgpghoamapfgaaGreatDoorST49Mrg
namespace Go.Proofs.YtmgpghoamapfgaaGreatDoor
set_option linter.unusedVariables false
set_option maxRecDepth 100000
set_option maxHeartbeats 16000000
set_option linter.unusedSimpArgs false
open Go Go.RowKit Go.ChangeShapes Go.WideShapes Go.ChangeAt
theorem aL1:Tryz.prog.cellsOf 64=1:=by kernel_rfl
theorem aAa:Tryz.prog.cellsOf 66=10:=by kernel_rfl
theorem aHq:Tryz.prog.cellsOf 22=1:=by kernel_rfl
theorem aNi:Tryz.prog.cellsOf 24=3:=by kernel_rfl
theorem aL6:Tryz.prog.bytesOf 66=152:=by kernel_rfl
section
variable {H:Type} {enc:TypeId × Value->H} {hld:Bool} {W:World}
theorem uU {C D:Type} (K:Kit C D) {t e:TypeId} {fuel:Nat} {cs:List Value} {x:DataW H × List MemPlace} (ht:Tryz.prog.underlying t=some (.slice e)) (hc:Tryz.prog.cellsOf e=K.n) (hby:Tryz.prog.bytesOf e=K.by')
 (ho:∀(f:Nat) (cs:List Value) (y:DataW H × List MemPlace),RdW enc hld W f e cs=some y->Light e y.1->∃(c:C) (d:D),cs=K.cs c/\K.Is (· < W.heap.size) W c d)
 (h:RdW enc hld W fuel t cs=some x) (hw:Light t x.1):∃(a:Option Addr) (n c:Nat) (l:List D),cs=[.slice a n c]/\IsRow K (· < W.heap.size) W a n c l:=by
 obtain⟨a,n,c,e1,hc1,hb,hr⟩:=open_row' ht K.n K.by' K.pos hc hby h hw;rcases hr with h0 | ⟨b,o,rfl,hlt,he⟩
 ·exact⟨a,n,c,[],e1,⟨h0,hc1,hb,.inl rfl⟩⟩
 ·obtain⟨l,hll,hq⟩:=lD (Q:=fun i (d:D)=>∃x:C,AtG K W b (o+i * K.n) x/\K.Is (· < W.heap.size) W x d) n fun i hi=>by
   obtain⟨cs',y,f,hf',hcl,hc,hr,hwy⟩:=he i hi;obtain⟨x,d,rfl,hm⟩:=ho f cs' y hr hwy;exact⟨d,x,hc,hm⟩
  exact⟨_,n,c,l,e1,⟨hll.symm,hc1,hb,.inr ⟨b,o,rfl,hlt,hq⟩⟩⟩
theorem aJl {fuel:Nat} {cs:List Value} {x:DataW H × List MemPlace} (h:RdW enc hld W fuel 66 cs=some x) (hw:Light 66 x.1):∃(c:SlC) (d:Slot),cs=c.cs/\IsSl (· < W.heap.size) W c d:=by
 obtain⟨xs,n,rfl,rfl,hl,hlen,hf⟩:=DataW.trod_struct Tryz.underlying66 h;rw[aAa] at hl
 match cs,hl with
 | [c0,c1,c2,c3,c4,c5,c6,c7,c8,c9],_ =>
 match xs,hlen with
 | [y0,y1,y2,y3,y4],_ =>
 have f0:=hf 0 _ rfl;have f1:=hf 1 _ rfl;have f2:=hf 2 _ rfl;have f3:=hf 3 _ rfl;have f4:=hf 4 _ rfl;simp only[lL,aL1,aA9,lK,List.drop_zero,List.drop_succ_cons,List.take_succ_cons,List.take_zero,List.getElem?_cons_zero,List.getElem?_cons_succ] at f0 f1 f2 f3 f4;have hw':∀m∈y0.1.weights Tryz.prog 36++(y1.1.weights Tryz.prog 3++(y2.1.weights Tryz.prog 3++(y3.1.weights Tryz.prog 64++y4.1.weights Tryz.prog 33))),m<=reachBytes:=fun m hm=>hw m (by
  simp only[DataW.weights,Tryz.underlying66,DataW.weightsEach,List.map_cons,List.map_nil,List.append_nil,List.nil_append];exact hm)
 obtain⟨b,db,e0,hb⟩:=uT _ _ _ f0 (fun q hq=>hw' q (List.mem_append_left _ hq));obtain⟨m,e1,rfl,w1⟩:=DataW.trod_int Tryz.underlying3 f1;obtain⟨m2,e2,rfl,w2⟩:=DataW.trod_int Tryz.underlying3 f2;obtain⟨ia,il,ic,di,e3,hi⟩:=uU msgK Tryz.underlying64 aF4 aNq (fun f cs y hr hl=>by obtain⟨c,d,e,hm⟩:=aM9 hr hl;exact⟨c,d,e,hm⟩) f3 (fun q hq=>hw' q (List.mem_append_right _ (List.mem_append_right _ (List.mem_append_right _ (List.mem_append_left _ hq)))))
 obtain⟨va,vl,vc,dv,e4,hv⟩:=uU valK Tryz.underlying33 lK aF7 (fun f cs y hr hl=>by obtain⟨c,d,e,hm⟩:=uT f cs y hr hl;exact⟨c,d,e,hm⟩) f4 (fun q hq=>hw' q (List.mem_append_right _ (List.mem_append_right _ (List.mem_append_right _ (List.mem_append_right _ hq)))));cases e1;cases e2;cases e3;cases e4
 obtain⟨bk,bi,bs,bt,bla,bll,blc,bfa,bfl,bfc⟩:=b;simp only[VC.cs] at e0;cases e0
 exact⟨⟨⟨bk,bi,bs,bt,bla,bll,blc,bfa,bfl,bfc⟩,m,m2,ia,il,ic,va,vl,vc⟩,⟨db,m,m2,di,dv⟩,rfl,hb,rfl,mD w1,rfl,mD w2,hi,hv⟩
theorem aGp {fuel:Nat} {cs:List Value} {x:DataW H × List MemPlace} (h:RdW enc hld W fuel 22 cs=some x) (hw:Light 22 x.1):∃(a:Option Addr) (n c:Nat) (l:List Slot),cs=[.slice a n c]/\IsRow slK (· < W.heap.size) W a n c l :=
 uU slK Tryz.underlying22 aAa aL6 (fun f cs y hr hl=>aJl hr hl) h hw
theorem aM8 {fuel:Nat} {cs:List Value} {x:DataW H × List MemPlace} (h:RdW enc hld W fuel 24 cs=some x) (hw:Light 24 x.1):∃(c:StC) (d:Sta),cs=[I6 c.n,I6 c.t,.slice c.a c.l c.c]/\IsSta (· < W.heap.size) W c d:=by
 obtain⟨xs,n,rfl,rfl,hl,hlen,hf⟩:=DataW.trod_struct Tryz.underlying24 h;rw[aNi] at hl
 match cs,hl with
 | [c0,c1,c2],_ =>
 match xs,hlen with
 | [y0,y1,y2],_ =>
 have f0:=hf 0 _ rfl;have f1:=hf 1 _ rfl;have f2:=hf 2 _ rfl;simp only[lL,aHq,List.drop_zero,List.drop_succ_cons,List.take_succ_cons,List.take_zero,List.getElem?_cons_zero,List.getElem?_cons_succ] at f0 f1 f2;have hw':∀m∈y0.1.weights Tryz.prog 3++(y1.1.weights Tryz.prog 3++y2.1.weights Tryz.prog 22),m<=reachBytes:=fun m hm=>hw m (by
  simp only[DataW.weights,Tryz.underlying24,DataW.weightsEach,List.map_cons,List.map_nil,List.append_nil,List.nil_append];exact hm)
 obtain⟨m,e0,rfl,w0⟩:=DataW.trod_int Tryz.underlying3 f0;obtain⟨m2,e1,rfl,w1⟩:=DataW.trod_int Tryz.underlying3 f1;obtain⟨a,k,c,dl,e2,hi⟩:=aGp f2 (fun q hq=>hw' q (List.mem_append_right _ (List.mem_append_right _ hq)));cases e0;cases e1;cases e2
 exact⟨⟨m,m2,a,k,c⟩,⟨m,m2,dl⟩,rfl,rfl,mD w0,rfl,mD w1,hi⟩
end
section
variable {H:Type} {enc:TypeId × Value->H} {W:World}
theorem arg_sta {v:Value} {d:DataW H} {p:List MemPlace} (h:DataW.Trod enc Tryz.prog W 0 (fun _=>true) true 24 v d p) (hw:Light 24 d):∃(c:StC) (x:Sta),v=c.v/\IsSta (· < W.heap.size) W c x:=by
 obtain⟨fuel,hr⟩:=h;obtain⟨c,x,hc,hv⟩:=aM8 hr hw;exact⟨c,x,aCd hc gd,hv⟩
end
end Go.Proofs.YtmgpghoamapfgaaGreatDoor
