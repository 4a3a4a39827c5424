/- ref07.Same's law. -/
import Derived.Test.YtodhhmjilnfecaaUL38toUT112
import Derived.KernelRfl
import Derived.Test.YtodhhmjilnfecaaRntoN38
import Derived.Test.YtodhhmjilnfecaaN41toUT21
set_option linter.all false
section
open Go Go.Proofs Sx
namespace Go.Proofs.Ytodhhmjilnfecaa
set_option maxRecDepth 100000
theorem lawSmV : Law Try.prog 75 ((rdD.two rdD).sp spSameV) := by
 refine law_in _ (by kernel_rfl) fun H w ⟨a,b⟩ hok hp=>?_
 obtain ⟨ha,hb,hlen,_⟩ := hp _ (List.mem_singleton.2 rfl)
 simp only at ha hb hlen
 have hla := D.Is.length (α := Sec) a
 have hlb := D.Is.length (α := Sec) b
 apply exec_sound (noCtr _) 300
 rw [show (rdD.two rdD).canon (a,b) = [.dat a,.dat b] from rfl,smv_in]
 refine ⟨fun hc=>ret_lb ?_,fun hc=>?_⟩
 ·exact same_not fun he=>by simp [hla,hlb,he] at hc
 have hc' : (a.to Sec).length = (b.to Sec).length := by simp [hla,hlb] at hc; omega
 refine runs_loop (fun j : Nat=>smvL a b j) (fun j=>j ≤ (a.to Sec).length ∧ (a.to Sec).take j = (b.to Sec).take j) (fun j=>(a.to Sec).length - j) (fun _=>rfl) ?_ 0 ⟨Nat.zero_le _,rfl⟩
 intro j ⟨hj,hpre⟩ ih
 apply exec_sound (noCtr _) 200
 rw [smv_go]
 refine ⟨fun hc hs=>?_,fun hc=>ret_lb ?_⟩
 ·have hc : j < (a.to Sec).length := by have := of_decide_eq_true hc; omega
  obtain ⟨c1,c2⟩ := sec_cell ha hc
  obtain ⟨e1,e2⟩ := sec_cell hb (hc' ▸ hc)
  refine ⟨⟨by omega,by omega,ha.size hc⟩,c1,⟨by omega,by omega,hb.size (hc' ▸ hc)⟩,e1,fun h=>ret_lb ?_,fun h=>?_⟩
  ·refine same_not fun he=>?_
   have he2 : (a.to Sec)[j] = (b.to Sec)[j]'(hc' ▸ hc) := by simp only [he]
   rw [c2,e2] at he2
   simp only [Sec.mk.injEq] at he2
   simp [he2] at h
  ·have hx : (a.to Sec)[j] = (b.to Sec)[j]'(hc' ▸ hc) := by
    rw [c2,e2]
    simp only [Int.toNat_natCast,Bool.and_true,Bool.not_eq_false',Bool.and_eq_true,decide_eq_true_eq] at h
    rw [h.1,h.2.1,h.2.2.1,h.2.2.2.1,h.2.2.2.2.1,h.2.2.2.2.2.1,h.2.2.2.2.2.2.1,h.2.2.2.2.2.2.2]
   have := ih (j + 1) ⟨hc,take_succ_eq hc (hc' ▸ hc) hpre hx⟩ (by omega)
   rw [← wrap_succ hc (by omega)] at this
   exact this
 ·have := of_decide_eq_false hc
  exact (decide_eq_true (list_eq_of hc' (by omega) hpre)).symm
theorem ctSmVOk : Ctrs.Ok Try.prog ctSmV := by intro x hx; rw [List.mem_singleton.1 hx]; exact ctrOf_ok lawSmV
theorem lawSameI : Law Try.prog 38 ((rdD.two rdD).sp spSameI) := by
 refine law_in _ (by kernel_rfl) fun H w ⟨a,b⟩ hok hp=>?_
 obtain ⟨ha,hb,hl1,hl2,hv1,hv2⟩ := hp _ (List.mem_singleton.2 rfl)
 simp only at ha hb hl1 hl2 hv1 hv2
 have hla := D.Is.length (α := Vol) a
 have hlb := D.Is.length (α := Vol) b
 apply exec_sound ctSmVOk 300
 rw [show (rdD.two rdD).canon (a,b) = [.dat a,.dat b] from rfl,smi_in]
 refine ⟨fun hc=>ret_lb ?_,fun hc=>?_⟩
 ·exact same_not fun he=>by simp [hla,hlb,he] at hc
 have hc' : (a.to Vol).length = (b.to Vol).length := by simp [hla,hlb] at hc; omega
 refine runs_loop (fun j : Nat=>smiL a b j) (fun j=>j ≤ (a.to Vol).length ∧ (a.to Vol).take j = (b.to Vol).take j) (fun j=>(a.to Vol).length - j) (fun _=>rfl) ?_ 0 ⟨Nat.zero_le _,rfl⟩
 intro j ⟨hj,hpre⟩ ih
 apply exec_sound ctSmVOk 200
 rw [smi_go]
 refine ⟨fun hc=>?_,fun hc=>ret_lb ?_⟩
 ·have hc : j < (a.to Vol).length := by have := of_decide_eq_true hc; omega
  have hcb : j < (b.to Vol).length := hc' ▸ hc
  obtain ⟨r1,r2,r3⟩ := vol_row ha (v := j) (by omega)
  obtain ⟨s1,s2,s3⟩ := vol_row hb (v := j) (by omega)
  rw [List.getElem?_eq_getElem hc] at r3
  rw [List.getElem?_eq_getElem hcb] at s3
  have r3 := Option.some.inj r3
  have s3 := Option.some.inj s3
  have la := hv1 _ (List.getElem_mem hc)
  have lb := hv2 _ (List.getElem_mem hcb)
  rw [r3] at la
  rw [s3] at lb
  have la2 := D.Is.length (α := Sec) (a.cell j 0)
  have lb2 := D.Is.length (α := Sec) (b.cell j 0)
  have c1 : a.HasCell j 0 .slc := by
   obtain ⟨q1,q2,q3,q4,_⟩ := r2
   exact ⟨q1,q2,q3,by simp only [D.cellAt,r1,Option.bind_some,List.getElem?_cons_zero,← q4]⟩
  have c2 : b.HasCell j 0 .slc := by
   obtain ⟨q1,q2,q3,q4,_⟩ := s2
   exact ⟨q1,q2,q3,by simp only [D.cellAt,s1,Option.bind_some,List.getElem?_cons_zero,← q4]⟩
  simp only [Int.toNat_natCast]
  refine fun hs=>⟨⟨by omega,by omega,ha.size hc⟩,c1,⟨by omega,by omega,hb.size hcb⟩,c2,⟨r2,s2,by rw [la2]; exact la,by rw [lb2]; exact lb⟩,fun h=>ret_lb ?_,fun h=>?_⟩
  ·refine same_not fun he=>?_
   have he2 : (a.to Vol)[j] = (b.to Vol)[j] := by simp only [he]
   rw [r3,s3] at he2
   simp only [Vol.mk.injEq] at he2
   simp [he2] at h
  ·have hx : (a.to Vol)[j] = (b.to Vol)[j] := by
    rw [r3,s3]
    simp at h
    rw [h]
   have := ih (j + 1) ⟨hc,take_succ_eq hc hcb hpre hx⟩ (by omega)
   rw [← wrap_succ hc (by omega)] at this
   exact this
 ·have := of_decide_eq_false hc
  exact (decide_eq_true (list_eq_of hc' (by omega) hpre)).symm
end Go.Proofs.Ytodhhmjilnfecaa
end
section
open Go Go.Proofs Sx
namespace Go.Proofs.Ytodhhmjilnfecaa
set_option maxRecDepth 100000
set_option maxHeartbeats 0
noncomputable def ctSv : Ctrs := (37,ctrOf ((rdHi.two rdD).sp spImgH)) :: (38,ctrOf ((rdD.two rdD).sp spSameI)) :: ctLS
section
variable (d l : D) (k : Int)
theorem sv_in : exec Try.prog ctSv 400 (entry Try.prog 10 [.dat d,.dat l,.int .u8 k]) =
 Tree.need (D.Is Int d)
 (.all fun hs =>
 .need (D.Is Int d ∧ D.Is St l)
 (.br (!fewS (D.to Int d) (D.to St l)) (.ret (.lb true))
 (.br (Prod.snd (newG (D.to Int d)) != 0) (.ret (.lb true))
 (.leaf
 (Conf.mk
 (SFrm.mk 10 none none
 [Item.inLoop (cAt Try.prog 10 [1,1,1,0,1,0,0]),Item.inBlock 0,
 Item.code (cAt Try.prog 10 [1,1,1,1])]
 (mkJ 0
 [(2,.int .u8 k),(7,.ptr 0 0),(35,.dat l),
 (36,.int .i64 (↑(D.len l) : Int)),(37,.int .i64 0)]
 0 163))
 []
 [(0,
 OBlk.cells 28
 [.dat (D.like (hs 0 0) (Hist.sizes (Gr.hist (Prod.fst (newG (D.to Int d)))))),
 .dat (D.like (hs 0 1) (Hist.writes (Gr.hist (Prod.fst (newG (D.to Int d)))))),
 .dat (D.like (hs 0 2) (Hist.events (Gr.hist (Prod.fst (newG (D.to Int d)))))),
 .dat (D.like (hs 0 3) (Gr.waiting (Prod.fst (newG (D.to Int d))))),
 .dat (D.like (hs 0 4) (Gr.held (Prod.fst (newG (D.to Int d))))),
 .bool (Gr.frozen (Prod.fst (newG (D.to Int d))))])]))))) := by kernel_rfl

end
end Go.Proofs.Ytodhhmjilnfecaa
end
section
open Go Go.Proofs Sx
namespace Go.Proofs.Ytodhhmjilnfecaa
set_option maxRecDepth 100000
set_option maxHeartbeats 0
noncomputable def svL (l a b c x y : D) (z : Bool) (k j : Int) : Conf := Conf.mk (SFrm.mk 10 none none [Item.inLoop (cAt Try.prog 10 [1,1,1,0,1,0,0]),Item.inBlock 0,Item.code (cAt Try.prog 10 [1,1,1,1])] (mkJ 0 [(2,.int .u8 k),(7,.ptr 0 0),(35,.dat l),(36,.int .i64 (l.len : Int)),(37,.int .i64 j)] 0 163)) [] (grM a b c x y z)
section
variable (l a b c x y : D) (z : Bool) (k j : Int)
theorem sv_go : 
 let z1 := (Prod.fst (runG (GrD.gr (GrD.mk (HiD.mk a b c) x y z)) (StD.st (StD.mk (D.getInt l (Int.toNat j) 0) (WtD.mk (D.getInt l (Int.toNat j) 1) (D.getInt l (Int.toNat j) 2) (D.cell l (Int.toNat j) 3)) (D.getInt l (Int.toNat j) 4)))))
 let z2 := (firstN (Int.tmod (IntKind.wrap .i64 k) (IntKind.wrap .i64 ((↑(D.len b) : Int) + 1))))
 goS Try.prog ctSv (fun _=>false) [(10,67)] 400 (unroll (svL l a b c x y z k j)) =
 Tree.br (decide (j < (↑(D.len l) : Int))) (.need (0 ≤ j ∧ j < (↑(D.len l) : Int) ∧ D.sz l = 5) (.need (D.HasCells l (Int.toNat j) 0 [FT.int .i64,FT.int .i64,FT.int .i64,FT.slc,FT.int .i64]) (.need
 (GrD.Right (GrD.mk (HiD.mk a b c) x y z) ∧ D.len c ≤ 900000 ∧ D.len b ≤ 900000 ∧ WtD.Ok (WtD.mk (D.getInt l (Int.toNat j) 1) (D.getInt l (Int.toNat j) 2) (D.cell l (Int.toNat j) 3))) (.all fun hs=>.leaf
 (Conf.mk (SFrm.mk 10 none none [Item.inLoop (cAt Try.prog 10 [1,1,1,0,1,0,0]),Item.inBlock 0,Item.code (cAt Try.prog 10 [1,1,1,1])] (mkJ 0 [(2,.int .u8 k),(7,.ptr 0 0),(35,.dat l),(36,.int .i64
 (↑(D.len l) : Int)),(37,.int .i64 (IntKind.wrap .i64 (j + 1)))] 0 163)) [] [(0,OBlk.cells 28 [.dat (D.like (hs 0 0) (Hist.sizes (Gr.hist z1))),.dat (D.like (hs 0 1) (Hist.writes (Gr.hist z1))),.dat
 (D.like (hs 0 2) (Hist.events (Gr.hist z1))),.dat (D.like (hs 0 3) (Gr.waiting z1)),.dat (D.like (hs 0 4) (Gr.held z1)),.bool (Gr.frozen z1)])]))))) (.need (IntKind.wrap .i64 ((↑(D.len b) : Int) + 1) ≠ 0)
 (.need (D.Is Ev c ∧ D.len c ≤ 1048576) (.all fun hs=>.all fun hs_1=>.need (Int.tmod (IntKind.wrap .i64 k) (IntKind.wrap .i64 ((↑(D.len b) : Int) + 1)) ≤ 1000000) (.need (GrD.Right (GrD.mk (HiD.mk a b c) x y z) ∧ D.Is Int
 (D.like (hs_1 2 0) z2) ∧ D.len (D.like (hs_1 2 0) z2) ≤ 1048576) (.leaf (Conf.mk (SFrm.mk 10 none none [Item.code (cAt Try.prog 10 [1,1,1,1,1,1,1,0]),Item.code (cAt Try.prog 10 [1,1,1,1,1,1,1,1])]
 (mkJ 0 [(7,.ptr 0 0),(8,.int .i64 (Prod.snd (Prod.snd (recoverG (GrD.gr (GrD.mk (HiD.mk a b c) x y z)) (D.to Int (D.like (hs_1 2 0) z2)))))),(11,.ptr 1 0),(12,.dat (D.like (hs 0 0) (acksOf (D.to Ev c)))),
 (13,.ptr 2 0),(14,.dat (D.like (hs_1 3 5) (Prod.fst (Prod.snd (recoverG (GrD.gr (GrD.mk (HiD.mk a b c) x y z)) (D.to Int (D.like (hs_1 2 0) z2)))))))] 0 163)) [] [(0,OBlk.cells 28 [.dat a,.dat b,.dat c,.dat x,.dat y,.bool z]),
 (1,OBlk.cells 3 [.int .i64 (Int.tmod (IntKind.wrap .i64 k) (IntKind.wrap .i64 ((↑(D.len b) : Int) + 1)))]),(2,OBlk.cells 28 [.dat (D.like (hs_1 3 0) (Hist.sizes (Gr.hist (Prod.fst (recoverG (GrD.gr
 (GrD.mk (HiD.mk a b c) x y z)) (D.to Int (D.like (hs_1 2 0) z2))))))),.dat (D.like (hs_1 3 1) (Hist.writes (Gr.hist (Prod.fst (recoverG (GrD.gr (GrD.mk (HiD.mk a b c) x y z)) (D.to Int (D.like (hs_1 2 0) z2))))))),.dat
 (D.like (hs_1 3 2) (Hist.events (Gr.hist (Prod.fst (recoverG (GrD.gr (GrD.mk (HiD.mk a b c) x y z)) (D.to Int (D.like (hs_1 2 0) z2))))))),.dat (D.like (hs_1 3 3) (Gr.waiting (Prod.fst (recoverG (GrD.gr
 (GrD.mk (HiD.mk a b c) x y z)) (D.to Int (D.like (hs_1 2 0) z2)))))),.dat (D.like (hs_1 3 4) (Gr.held (Prod.fst (recoverG (GrD.gr (GrD.mk (HiD.mk a b c) x y z)) (D.to Int (D.like (hs_1 2 0) z2)))))),.bool
 (Gr.frozen (Prod.fst (recoverG (GrD.gr (GrD.mk (HiD.mk a b c) x y z)) (D.to Int (D.like (hs_1 2 0) z2)))))])])))))) := by
 intros; kernel_rfl

end
end Go.Proofs.Ytodhhmjilnfecaa
end
section
open Go Go.Proofs Sx
namespace Go.Proofs.Ytodhhmjilnfecaa
set_option maxRecDepth 100000
set_option maxHeartbeats 0
noncomputable def svM (a b c x y : D) (z : Bool) (p : Int) (ga gb gc gx gy : D) (gz : Bool) : Mem := [(0,OBlk.cells 28 [.dat a,.dat b,.dat c,.dat x,.dat y,.bool z]),(1,OBlk.cells 3 [.int .i64 p]),(2,OBlk.cells 28 [.dat ga,.dat gb,.dat gc,.dat gx,.dat gy,.bool gz])]
noncomputable def svA (a b c x y : D) (z : Bool) (e p : Int) (old acks ga gb gc gx gy : D) (gz : Bool) : Conf := Conf.mk (SFrm.mk 10 none none [Item.code (cAt Try.prog 10 [1,1,1,1,1,1,1,0]),Item.code (cAt Try.prog 10 [1,1,1,1,1,1,1,1])] (mkJ 0 [(7,.ptr 0 0),(8,.int .i64 e),(11,.ptr 1 0),(12,.dat old),(13,.ptr 2 0),(14,.dat acks)] 0 163)) [] (svM a b c x y z p ga gb gc gx gy gz)
section
variable (a b c x y old acks ga gb gc gx gy : D) (z gz : Bool) (e p : Int)
theorem sva_go : exec Try.prog ctSv 400 (svA a b c x y z e p old acks ga gb gc gx gy gz) =
 Tree.leaf
 (Conf.mk
 (SFrm.mk 71 none none
 [Item.inLoop (cAt Try.prog 71 [1,0,1,0,0]),Item.inBlock 0,Item.code (cAt Try.prog 71 [1,1])]
 (mkJ 2
 [(0,.dat old),(1,SV.fn 36 [] [.ptr 0 0]),(7,.int .i64 (↑(D.len old) : Int)),
 (8,.int .i64 0)]
 0 19))
 [SFrm.mk 35 (some (opsAt Try.prog 35 [1,0],[3,4])) (some 7) [Item.code (cAt Try.prog 35 [1,1])]
 (mkU
 [(0,.dat old),(1,SV.fn 36 [] [.ptr 0 0]),(4,.lb false),(5,.dat old),
 (6,SV.fn 36 [] [.ptr 0 0])]
 0 9),
 SFrm.mk 10 (some (opsAt Try.prog 10 [1,1,1,1,1,1,1,0],[3])) (some 69)
 [Item.code (cAt Try.prog 10 [1,1,1,1,1,1,1,1])]
 (mkJ 0
 [(7,.ptr 1 0),(8,.int .i64 e),(11,.ptr 0 0),(12,.dat old),(13,.ptr 2 0),
 (14,.dat acks),(67,.dat old),(68,SV.fn 36 [] [.ptr 0 0])]
 0 163)]
 [(0,OBlk.cells 3 [.int .i64 p]),
 (1,OBlk.cells 28 [.dat a,.dat b,.dat c,.dat x,.dat y,.bool z]),
 (2,OBlk.cells 28 [.dat ga,.dat gb,.dat gc,.dat gx,.dat gy,.bool gz])]) := by kernel_rfl

end
end Go.Proofs.Ytodhhmjilnfecaa
end
section
open Go Go.Proofs Sx
namespace Go.Proofs.Ytodhhmjilnfecaa
set_option maxRecDepth 100000
set_option maxHeartbeats 0
noncomputable def svX (a b c x y : D) (z : Bool) (e p : Int) (old acks ga gb gc gx gy : D) (gz : Bool) (j : Int) : Conf := Conf.mk (SFrm.mk 71 none none [Item.inLoop (cAt Try.prog 71 [1,0,1,0,0]),Item.inBlock 0,Item.code (cAt Try.prog 71 [1,1])] (mkJ 2 [(0,.dat old),(1,SV.fn 36 [] [.ptr 0 0]),(7,.int .i64 (old.len : Int)),(8,.int .i64 j)] 0 19)) [SFrm.mk 35 (some (opsAt Try.prog 35 [1,0],[3,4])) (some 7) [Item.code (cAt Try.prog 35 [1,1])] (mkU [(0,.dat old),(1,SV.fn 36 [] [.ptr 0 0]),(4,.lb false),(5,.dat old),(6,SV.fn 36 [] [.ptr 0 0])] 0 9),SFrm.mk 10 (some (opsAt Try.prog 10 [1,1,1,1,1,1,1,0],[3])) (some 69) [Item.code (cAt Try.prog 10 [1,1,1,1,1,1,1,1])] (mkJ 0 [(7,.ptr 1 0),(8,.int .i64 e),(11,.ptr 0 0),(12,.dat old),(13,.ptr 2 0),(14,.dat acks),(67,.dat old),(68,SV.fn 36 [] [.ptr 0 0])] 0 163)] [(0,OBlk.cells 3 [.int .i64 p]),(1,OBlk.cells 28 [.dat a,.dat b,.dat c,.dat x,.dat y,.bool z]),(2,OBlk.cells 28 [.dat ga,.dat gb,.dat gc,.dat gx,.dat gy,.bool gz])]
section
variable (a b c x y old acks ga gb gc gx gy : D) (z gz : Bool) (e p : Int) (j : Int)
theorem svx_go : goS Try.prog ctSv (fun _=>false) [(10,70)] 400 (unroll (svX a b c x y z e p old acks ga gb gc gx gy gz j)) =
 Tree.br (decide (j < (↑(D.len old) : Int)))
 (.need (0 ≤ j ∧ j < (↑(D.len old) : Int) ∧ D.sz old = 1)
 (.need (D.HasCell old (Int.toNat j) 0 (FT.int .i64))
 (.br (decide (D.getInt old (Int.toNat j) 0 ≥ p))
 (.leaf
 (Conf.mk
 (SFrm.mk 10 none none
 [Item.code (cAt Try.prog 10 [1,1,1,1,1,1,1,1,0,0]),
 Item.code (cAt Try.prog 10 [1,1,1,1,1,1,1,1,0,1]),
 Item.code (cAt Try.prog 10 [1,1,1,1,1,1,1,1,1])]
 (mkJ 0
 [(7,.ptr 0 0),(8,.int .i64 e),(11,.ptr 1 0),(12,.dat old),(13,.ptr 2 0),
 (14,.dat acks),(15,.bool (decide (j ≥ 0)))]
 0 163))
 []
 [(0,OBlk.cells 28 [.dat a,.dat b,.dat c,.dat x,.dat y,.bool z]),
 (1,OBlk.cells 3 [.int .i64 p]),
 (2,OBlk.cells 28 [.dat ga,.dat gb,.dat gc,.dat gx,.dat gy,.bool gz])]))
 (.leaf
 (Conf.mk
 (SFrm.mk 71 none none
 [Item.inLoop (cAt Try.prog 71 [1,0,1,0,0]),Item.inBlock 0,Item.code (cAt Try.prog 71 [1,1])]
 (mkJ 2
 [(0,.dat old),(1,SV.fn 36 [] [.ptr 0 0]),(7,.int .i64 (↑(D.len old) : Int)),
 (8,.int .i64 (IntKind.wrap .i64 (j + 1)))]
 0 19))
 [SFrm.mk 35 (some (opsAt Try.prog 35 [1,0],[3,4])) (some 7) [Item.code (cAt Try.prog 35 [1,1])]
 (mkU
 [(0,.dat old),(1,SV.fn 36 [] [.ptr 0 0]),(4,.lb false),(5,.dat old),
 (6,SV.fn 36 [] [.ptr 0 0])]
 0 9),
 SFrm.mk 10 (some (opsAt Try.prog 10 [1,1,1,1,1,1,1,0],[3])) (some 69)
 [Item.code (cAt Try.prog 10 [1,1,1,1,1,1,1,1])]
 (mkJ 0
 [(7,.ptr 1 0),(8,.int .i64 e),(11,.ptr 0 0),(12,.dat old),(13,.ptr 2 0),
 (14,.dat acks),(67,.dat old),(68,SV.fn 36 [] [.ptr 0 0])]
 0 163)]
 [(0,OBlk.cells 3 [.int .i64 p]),
 (1,OBlk.cells 28 [.dat a,.dat b,.dat c,.dat x,.dat y,.bool z]),
 (2,OBlk.cells 28 [.dat ga,.dat gb,.dat gc,.dat gx,.dat gy,.bool gz])])))))
 (.leaf
 (Conf.mk
 (SFrm.mk 10 none none
 [Item.code (cAt Try.prog 10 [1,1,1,1,1,1,1,1,0,0]),
 Item.code (cAt Try.prog 10 [1,1,1,1,1,1,1,1,0,1]),
 Item.code (cAt Try.prog 10 [1,1,1,1,1,1,1,1,1])]
 (mkJ 0
 [(7,.ptr 0 0),(8,.int .i64 e),(11,.ptr 1 0),(12,.dat old),(13,.ptr 2 0),
 (14,.dat acks),(15,.bool false)]
 0 163))
 []
 [(0,OBlk.cells 28 [.dat a,.dat b,.dat c,.dat x,.dat y,.bool z]),
 (1,OBlk.cells 3 [.int .i64 p]),
 (2,OBlk.cells 28 [.dat ga,.dat gb,.dat gc,.dat gx,.dat gy,.bool gz])])) := by kernel_rfl

end
end Go.Proofs.Ytodhhmjilnfecaa
end
section
open Go Go.Proofs Sx
namespace Go.Proofs.Ytodhhmjilnfecaa
set_option maxRecDepth 100000
set_option maxHeartbeats 0
noncomputable def svB (a b c x y : D) (z : Bool) (e p : Int) (old acks ga gb gc gx gy : D) (gz : Bool) (lost : Bool) : Conf := Conf.mk (SFrm.mk 10 none none [Item.code (cAt Try.prog 10 [1,1,1,1,1,1,1,1,0,0]),Item.code (cAt Try.prog 10 [1,1,1,1,1,1,1,1,0,1]),Item.code (cAt Try.prog 10 [1,1,1,1,1,1,1,1,1])] (mkJ 0 [(7,.ptr 0 0),(8,.int .i64 e),(11,.ptr 1 0),(12,.dat old),(13,.ptr 2 0),(14,.dat acks),(15,.bool lost)] 0 163)) [] (svM a b c x y z p ga gb gc gx gy gz)
section
variable (a b c x y old acks ga gb gc gx gy : D) (z gz lost : Bool) (e p : Int)
theorem svb_go : exec Try.prog ctSv 400 (svB a b c x y z e p old acks ga gb gc gx gy gz lost) =
 Tree.br (e != 0)
 (.br (decide (e = 27)) (.br lost (.ret (.lb true)) (.ret (.lb false))) (.ret (.lb false)))
 (.all fun hs =>
 .need (p ≤ 1000000)
 (.need
 (HiD.Right (HiD.mk a b c) ∧
 D.Is Int (D.like (hs 3 0) (firstN p)) ∧ D.len (D.like (hs 3 0) (firstN p)) ≤ 1048576)
 (.all fun hs_1 =>
 .need (p ≤ 1000000)
 (.need
 (HiD.Right (HiD.mk ga gb gc) ∧
 D.Is Int (D.like (hs_1 3 0) (firstN p)) ∧ D.len (D.like (hs_1 3 0) (firstN p)) ≤ 1048576)
 (.need (D.Is Ev gc ∧ D.len gc ≤ 1048576)
 (.all fun hs_2 =>
 .br (!lost)
 (.br (decide ((↑(D.len gb) : Int) = p))
 (.br (decide ((↑(D.len (D.like (hs_2 0 0) (acksOf (D.to Ev gc)))) : Int) = p))
 (.br (decide (IntKind.wrap .i64 ((↑(D.len acks) : Int) + (↑(D.len old) : Int)) = p))
 (.need
 (0 ≤ (↑0 : Int) ∧
 (↑0 : Int) ≤ (↑(D.len old) : Int) ∧
 (↑(D.len old) : Int) ≤ (↑(D.len (D.like (hs_2 0 0) (acksOf (D.to Ev gc)))) : Int) ∧
 D.Fits (D.like (hs_2 0 0) (acksOf (D.to Ev gc))) 1)
 (.need
 (D.Is Int
 (D.sub (D.like (hs_2 0 0) (acksOf (D.to Ev gc))) 0 (Int.toNat (↑(D.len old) : Int))) ∧
 D.Is Int old ∧
 D.len
 (D.sub (D.like (hs_2 0 0) (acksOf (D.to Ev gc))) 0
 (Int.toNat (↑(D.len old) : Int))) ≤
 1048576 ∧
 D.to Int
 (D.sub (D.like (hs_2 0 0) (acksOf (D.to Ev gc))) 0
 (Int.toNat (↑(D.len old) : Int))) =
 D.to Int old)
 (.br
 (decide
 (Prod.snd (imageH (HiD.hist (HiD.mk a b c)) (D.to Int (D.like (hs 3 0) (firstN p)))) =
 0))
 (.br
 (decide
 (Prod.snd
 (imageH (HiD.hist (HiD.mk ga gb gc))
 (D.to Int (D.like (hs_1 3 0) (firstN p)))) =
 0))
 (.need
 (D.Is Vol
 (D.like (hs 4 0)
 (Prod.fst
 (imageH (HiD.hist (HiD.mk a b c))
 (D.to Int (D.like (hs 3 0) (firstN p)))))) ∧
 D.Is Vol
 (D.like (hs_1 4 0)
 (Prod.fst
 (imageH (HiD.hist (HiD.mk ga gb gc))
 (D.to Int (D.like (hs_1 3 0) (firstN p)))))) ∧
 D.len
 (D.like (hs 4 0)
 (Prod.fst
 (imageH (HiD.hist (HiD.mk a b c))
 (D.to Int (D.like (hs 3 0) (firstN p)))))) ≤
 1048576 ∧
 D.len
 (D.like (hs_1 4 0)
 (Prod.fst
 (imageH (HiD.hist (HiD.mk ga gb gc))
 (D.to Int (D.like (hs_1 3 0) (firstN p)))))) ≤
 1048576 ∧
 (∀ (v : Vol),
 List.Mem v
 (D.to Vol
 (D.like (hs 4 0)
 (Prod.fst
 (imageH (HiD.hist (HiD.mk a b c))
 (D.to Int (D.like (hs 3 0) (firstN p))))))) →
 List.length (Vol.l v) ≤ 1048576) ∧
 ∀ (v : Vol),
 List.Mem v
 (D.to Vol
 (D.like (hs_1 4 0)
 (Prod.fst
 (imageH (HiD.hist (HiD.mk ga gb gc))
 (D.to Int (D.like (hs_1 3 0) (firstN p))))))) →
 List.length (Vol.l v) ≤ 1048576)
 (.br
 (decide
 (D.to Vol
 (D.like (hs 4 0)
 (Prod.fst
 (imageH (HiD.hist (HiD.mk a b c))
 (D.to Int (D.like (hs 3 0) (firstN p)))))) =
 D.to Vol
 (D.like (hs_1 4 0)
 (Prod.fst
 (imageH (HiD.hist (HiD.mk ga gb gc))
 (D.to Int (D.like (hs_1 3 0) (firstN p))))))))
 (.br (!gz)
 (.br
 (decide
 (IntKind.wrap .i64 ((↑(D.len gx) : Int) + (↑(D.len gy) : Int)) = 0))
 (.ret (.lb true)) (.ret (.lb false)))
 (.ret (.lb false)))
 (.ret (.lb false))))
 (.ret (.lb false)))
 (.ret (.lb false)))))
 (.ret (.lb false)))
 (.ret (.lb false)))
 (.ret (.lb false)))
 (.ret (.lb false)))))))) := by kernel_rfl

end
end Go.Proofs.Ytodhhmjilnfecaa
end
section
namespace Sx
open Go
end Sx
end
section
namespace Sx
open Go
theorem volSizes_fold : ∀ (l : List Wt) (im : List Vol),(∀ w,w ∈ l → fitsErr (volSizes im) w = 0) → volSizes (l.foldl putW im) = volSizes im
 | [],_,_=>rfl
 | w :: r,im,h=>by
  have h1 := putW_sizes (h w List.mem_cons_self)
  show volSizes (r.foldl putW (putW im w)) = _
  rw [volSizes_fold r _ fun x hx=>by rw [h1]; exact h x (List.mem_cons_of_mem _ hx),h1]
theorem imageH_sizes {h : Hist} {s : List Int} (h0 : (checkH h).1 = 0) (h2 : setH s h.writes.length = true) : volSizes (imageH h s).1 = h.sizes := by
 obtain ⟨k1,k2,k3,k4,k5⟩ := checkH_iff.1 h0
 rw [imageH_ok h0 h2]
 have e := volSizes_imgOf k1
 rw [volSizes_fold _ _ fun w hw=>by rw [e]; exact k3 w (pickW_mem (setH_iff.1 h2).2 hw),e]
theorem imageH_small {h : Hist} {s : List Int} (h0 : (checkH h).1 = 0) (h2 : setH s h.writes.length = true) : (imageH h s).1.length ≤ 1048576 ∧ ∀ v,v ∈ (imageH h s).1 → v.l.length ≤ 1048576 := by
 have e := imageH_sizes h0 h2
 have hs := sizesErr_ok (checkH_iff.1 h0).1
 constructor
 ·have := congrArg List.length e
  rw [vs_len] at this
  omega
 ·intro v hv
  have hm : (v.l.length : Int) ∈ volSizes (imageH h s).1 := List.mem_map.2 ⟨v,hv,rfl⟩
  rw [e] at hm
  have := hs.2.2 _ hm
  omega
theorem img_need {h g : Hist} {s t : List Int} {a b : D} (h0 : (checkH h).1 = 0) (h2 : setH s h.writes.length = true) (g0 : (checkH g).1 = 0) (g2 : setH t g.writes.length = true) :
  (a.like (imageH h s).1).Is Vol ∧ (b.like (imageH g t).1).Is Vol ∧ (a.like (imageH h s).1).len ≤ 1048576 ∧ (b.like (imageH g t).1).len ≤ 1048576 ∧ (∀ v,v ∈ (a.like (imageH h s).1).to Vol → v.l.length ≤ 1048576) ∧ (∀ v,v ∈ (b.like (imageH g t).1).to Vol → v.l.length ≤ 1048576) := by
 have k1 := imageH_small h0 h2
 have k2 := imageH_small g0 g2
 refine ⟨D.like_is _ _,D.like_is _ _,by rw [llen]; exact k1.1,by rw [llen]; exact k2.1,?_,?_⟩
 ·rw [D.like_to]; exact k1.2
 ·rw [D.like_to]; exact k2.2
end Sx
end
section
namespace Sx
open Go
def lostI (l : List Int) (p : Int) : Bool := l.any fun w=>decide (w ≥ p)
theorem rec_lost {g : Gr} {p : Nat} (h0 : openErr g = 0) (hp : p ≤ g.hist.writes.length) (he : (recoverG g (firstN (p : Int))).2.2 ≠ 0) : (recoverG g (firstN (p : Int))).2.2 = 27 ∧ lostI (acksOf g.hist.events) p = true := by
 have hc := ((openErr_iff g).1 h0).1
 cases h3 : ((ackd g.hist.writes.length g.hist.events).drop p).any (fun y=>decide (true = y)) with
 | false=>rw [rec_done h0 hp h3] at he; exact absurd rfl he
 | true =>
  have e := recoverG_e3 (du := firstN (p : Int)) h0 (by rw [firstN_len]; omega) (by rw [firstN_len]; exact h3)
  refine ⟨by rw [e],?_⟩
  have hn : ¬∀ i : Nat,p ≤ i → i < g.hist.writes.length → ¬atEv g.hist.events ⟨1,(i : Int)⟩ ≥ 0 := fun hh=>by
   rw [(rec_acked hc).2 hh] at h3; cases h3
  apply Classical.byContradiction
  intro hl
  apply hn
  intro i h1 h2 ha
  apply hl
  unfold lostI
  rw [List.any_eq_true]
  refine ⟨(i : Int),acksOf_mem.2 (atEv_mem.1 ha),?_⟩
  apply decide_eq_true; omega
theorem rec_good {g : Gr} {p : Nat} (h0 : openErr g = 0) (hp : p ≤ g.hist.writes.length) (he : (recoverG g (firstN (p : Int))).2.2 = 0) :
  lostI (acksOf g.hist.events) p = false ∧ openErr (recoverG g (firstN (p : Int))).1 = 0 ∧ (recoverG g (firstN (p : Int))).1.hist.writes.length = p ∧ acksOf (recoverG g (firstN (p : Int))).1.hist.events = acksOf g.hist.events ++ (recoverG g (firstN (p : Int))).2.1 ∧
  (acksOf (recoverG g (firstN (p : Int))).1.hist.events).length = p ∧ (recoverG g (firstN (p : Int))).1.frozen = false ∧ (recoverG g (firstN (p : Int))).1.waiting = [] ∧ (recoverG g (firstN (p : Int))).1.held = [] ∧
  imageH (recoverG g (firstN (p : Int))).1.hist (firstN (p : Int)) = imageH g.hist (firstN (p : Int)) ∧ (imageH g.hist (firstN (p : Int))).2 = 0 := by
 obtain ⟨r1,_,r3,r4,r5,r6⟩ := rec_ok he
 rw [firstN_len] at r3 r5 r6
 have hc := ((openErr_iff g).1 h0).1
 have hin : ∀ w,w ∈ acksOf g.hist.events → w < (p : Int) := fun w hw=>by
  have hm := acksOf_mem.1 hw
  obtain ⟨_,k2,k3⟩ := checkH_in hc _ hm
  simp only at k2 k3
  apply Classical.byContradiction
  intro hlt
  have e : ((w.toNat : Nat) : Int) = w := Int.toNat_of_nonneg k2
  refine r5 w.toNat (by omega) (by omega) ?_
  rw [e]; exact atEv_mem.2 hm
 have hk : acksOf (recoverG g (firstN (p : Int))).1.hist.events = acksOf g.hist.events ++ (recoverG g (firstN (p : Int))).2.1 := by
  rw [r6]
  show acksOf ((g.hist.events.filter (fun x=>!decide (x.write ≥ (p : Int)))) ++ _) = _
  rw [acksOf_app,acksOf_map]
  congr 1
  unfold acksOf
  rw [List.filter_filter]
  congr 1
  apply List.filter_congr
  intro x hx
  by_cases hk1 : x.kind = 1
  ·have : x.write ∈ acksOf g.hist.events := acksOf_mem.2 (by rw [← hk1]; exact hx)
   have := hin _ this
   have hn : ¬x.write ≥ (p : Int) := by omega
   simp [hk1,hn]
  ·simp [hk1]
 have hwl : (recoverG g (firstN (p : Int))).1.hist.writes.length = p := by
  rw [r6]; show (g.hist.writes.take p).length = p; rw [List.length_take]; omega
 have hall := all_accounted r1
 have hwt : (recoverG g (firstN (p : Int))).1.waiting = [] := by rw [r6]
 have hhd : (recoverG g (firstN (p : Int))).1.held = [] := by rw [r6]
 have hfz : (recoverG g (firstN (p : Int))).1.frozen = false := by rw [r6]
 rw [hwt,hhd,hwl] at hall
 simp only [List.length_nil,Nat.zero_add] at hall
 have hrc := ((openErr_iff _).1 r1).1
 have hs1 : setH (firstN (p : Int)) g.hist.writes.length = true := firstN_set hp
 have hs2 : setH (firstN (p : Int)) (recoverG g (firstN (p : Int))).1.hist.writes.length = true := firstN_set (by omega)
 refine ⟨?_,r1,hwl,hk,hall,hfz,hwt,hhd,?_,by rw [imageH_ok hc hs1]⟩
 ·unfold lostI
  rw [List.any_eq_false]
  intro w hw
  have := hin w hw
  simp; omega
 ·rw [imageH_ok hc hs1,imageH_ok hrc hs2]
  rw [pickW_first hp,pickW_first (by omega)]
  have e1 : (recoverG g (firstN (p : Int))).1.hist.writes = g.hist.writes.take p := by rw [r6]; rfl
  have e2 : (recoverG g (firstN (p : Int))).1.hist.sizes = g.hist.sizes := by rw [r6]; rfl
  rw [e1,e2,List.take_take,Nat.min_self]
end Sx
end
section
open Go Go.Proofs Sx
namespace Sx
def rdU8 : Rd1 Int where
 read x := match x with | .int .u8 n=>some n | _=>none
 canon n := .int .u8 n
 right H E x b h hok := by
  split at h
  ·cases h; exact ⟨rfl,trivial⟩
  ·cases h
def spGSv (x : D × D × Int) : SpecR := .scalar [(x.1.Is Int ∧ x.2.1.Is St) ∧ 0 ≤ x.2.2 ∧ x.2.2 ≤ 255] (.lb true)
end Sx
namespace Go.Proofs.Ytodhhmjilnfecaa
set_option maxRecDepth 100000
set_option maxHeartbeats 0
theorem ctSvOk : Ctrs.Ok Try.prog ctSv := by
 intro x hx
 rcases List.mem_cons.1 hx with rfl | hx
 ·exact ctrOf_ok lawImgH
 rcases List.mem_cons.1 hx with rfl | hx
 ·exact ctrOf_ok lawSameI
 ·exact ctLSOk _ hx
theorem sv_end {H : HV} {w : World} {s : GrD} (hV : GrV s) {p : Nat} (hp : p ≤ s.h.w.len) {old acks : D} {ds : Nat → D} (ho : old.Is Int) (hot : old.to Int = acksOf (s.h.e.to Ev)) (hol : old.len ≤ 8192) (ha : acks.len = (recoverG s.gr (firstN (p : Int))).2.1.length) :
  Runs Try.prog ⟨w,H⟩ (svB s.h.s s.h.w s.h.e s.wt s.hd s.fz (recoverG s.gr (firstN (p : Int))).2.2 p old acks (likeGD ds (recoverG s.gr (firstN (p : Int))).1).h.s (likeGD ds (recoverG s.gr (firstN (p : Int))).1).h.w (likeGD ds (recoverG s.gr (firstN (p : Int))).1).h.e (likeGD ds (recoverG s.gr (firstN (p : Int))).1).wt (likeGD ds (recoverG s.gr (firstN (p : Int))).1).hd (likeGD ds (recoverG s.gr (firstN (p : Int))).1).fz (lostI (old.to Int) p)) (RetS w H (.lb true)) := by
 obtain ⟨hR,hv,he,hw,hwt,hhd⟩ := id hV
 obtain ⟨⟨a,b,c⟩,x,y,z⟩ := s
 simp only at hp hot he hw hwt hhd ⊢
 have bl := D.Is.length (α := Wt) b
 have hp' : p ≤ (GrD.gr ⟨⟨a,b,c⟩,x,y,z⟩).hist.writes.length := by show p ≤ (b.to Wt).length; omega
 have olen := D.Is.length (α := Int) old
 apply exec_sound ctSvOk 400
 rw [svb_go]
 refine ⟨fun hx=>?_,fun hx=>?_⟩
 ·have hx : (recoverG (GrD.gr ⟨⟨a,b,c⟩,x,y,z⟩) (firstN (p : Int))).2.2 ≠ 0 := by simpa using hx
  obtain ⟨k1,k2⟩ := rec_lost hv hp' hx
  refine ⟨fun _=>⟨fun _=>ret_lbt,fun hl=>?_⟩,fun hl=>?_⟩
  ·exfalso
   rw [hot] at hl
   have k2 : lostI (acksOf (c.to Ev)) p = true := k2
   rw [k2] at hl; cases hl
  ·exfalso
   rw [k1] at hl; cases hl
 ·have hx : (recoverG (GrD.gr ⟨⟨a,b,c⟩,x,y,z⟩) (firstN (p : Int))).2.2 = 0 := by simpa using hx
  obtain ⟨k1,k2,k3,k4,k5,k6,k7,k8,k9,k10⟩ := rec_good hv hp' hx
  have hbd := valid_b k2
  have hV2 := likeGD_v (ds := ds) k2
  have hc := ((openErr_iff _).1 hv).1
  have hc2 := ((openErr_iff _).1 k2).1
  have q1 : (HiD.mk a b c).hist = (GrD.gr ⟨⟨a,b,c⟩,x,y,z⟩).hist := rfl
  have q2 : (HiD.mk (likeGD ds (recoverG (GrD.gr ⟨⟨a,b,c⟩,x,y,z⟩) (firstN (p : Int))).1).h.s (likeGD ds (recoverG (GrD.gr ⟨⟨a,b,c⟩,x,y,z⟩) (firstN (p : Int))).1).h.w (likeGD ds (recoverG (GrD.gr ⟨⟨a,b,c⟩,x,y,z⟩) (firstN (p : Int))).1).h.e).hist = (recoverG (GrD.gr ⟨⟨a,b,c⟩,x,y,z⟩) (firstN (p : Int))).1.hist := like_hist
  have k1 : lostI (acksOf (c.to Ev)) p = false := k1
  have hs1 : setH (firstN (p : Int)) (GrD.gr ⟨⟨a,b,c⟩,x,y,z⟩).hist.writes.length = true := firstN_set hp'
  have k4 : acksOf (recoverG (GrD.gr ⟨⟨a,b,c⟩,x,y,z⟩) (firstN (p : Int))).1.hist.events = acksOf (c.to Ev) ++ (recoverG (GrD.gr ⟨⟨a,b,c⟩,x,y,z⟩) (firstN (p : Int))).2.1 := k4
  generalize recoverG (GrD.gr ⟨⟨a,b,c⟩,x,y,z⟩) (firstN (p : Int)) = r at *
  have hs2 : setH (firstN (p : Int)) r.1.hist.writes.length = true := firstN_set (by omega)
  have hR1 : (HiD.mk a b c).Right := hR.1
  have hR2 := hV2.r.1
  have hR2 : (HiD.mk (likeGD ds r.1).h.s (likeGD ds r.1).h.w (likeGD ds r.1).h.e).Right := hR2
  rw [q1,q2]
  have hf : ∀ d : D,(d.like (firstN (p : Int))).Is Int ∧ (d.like (firstN (p : Int))).len ≤ 1048576 := fun d=>⟨D.like_is _ _,by rw [llen,firstN_len]; omega⟩
  have aL := congrArg List.length k4
  rw [List.length_append] at aL
  have oL : old.len = (acksOf (c.to Ev)).length := by rw [olen,hot]
  refine fun hs=>⟨by omega,⟨hR1,hf _⟩,fun hs1'=>⟨by omega,⟨hR2,hf _⟩,⟨hR2.2.2.1,hR2.2.2.2.2.2.1⟩,fun hs2'=>⟨fun _=>⟨fun _=>⟨fun _=>⟨fun _=>?_,fun hy=>?_⟩,fun hy=>?_⟩,fun hy=>?_⟩,fun hy=>?_⟩⟩⟩
  ·have ge : ((likeGD ds r.1).h.e).to Ev = r.1.hist.events := D.like_to _ _
   rw [ge]
   have i5 := D.like_is (hs2' 0 0) (acksOf r.1.hist.events)
   have s1 := i5.sub 0 (Int.toNat (old.len : Int))
   have n1 : (D.like (hs2' 0 0) (acksOf r.1.hist.events)).len = (acksOf r.1.hist.events).length := llen _ _
   have t1 : (D.sub (D.like (hs2' 0 0) (acksOf r.1.hist.events)) 0 (Int.toNat (old.len : Int))).to Int = old.to Int := by
    rw [s1.2,D.like_to,Int.toNat_natCast,List.drop_zero,Nat.sub_zero,k4,oL,List.take_left,hot]
   refine ⟨⟨by omega,by omega,by omega,i5.fits⟩,⟨s1.1,ho,by rw [D.Is.length (α := Int),t1]; omega,t1⟩,fun _=>⟨fun _=>⟨?_,fun _=>⟨fun _=>⟨fun _=>ret_lbt,fun hy=>?_⟩,fun hy=>?_⟩,fun hy=>?_⟩,fun hy=>?_⟩,fun hy=>?_⟩
   ·rw [D.like_to,D.like_to]
    exact img_need hc hs1 hc2 hs2
   ·exfalso
    have g1 : (likeGD ds r.1).wt.len = 0 := by simp only [likeGD,llen,k7]; rfl
    have g2 : (likeGD ds r.1).hd.len = 0 := by simp only [likeGD,llen,k8]; rfl
    rw [g1,g2] at hy
    exact absurd hy (by decide)
   ·exfalso
    have g1 : (likeGD ds r.1).fz = false := k6
    rw [g1] at hy; cases hy
   ·exfalso
    simp only [D.like_to,k9] at hy
    simp at hy
   ·exfalso
    rw [D.like_to,k9,k10] at hy
    cases hy
   ·exfalso
    rw [D.like_to,k10] at hy
    cases hy
  ·exfalso
   rw [wrap64 (by omega) (by omega)] at hy
   have := of_decide_eq_false hy
   omega
  ·exfalso
   have ge : ((likeGD ds r.1).h.e).to Ev = r.1.hist.events := D.like_to _ _
   rw [ge,llen] at hy
   have := of_decide_eq_false hy
   omega
  ·exfalso
   have g1 : (likeGD ds r.1).h.w.len = r.1.hist.writes.length := llen _ _
   rw [g1] at hy
   have := of_decide_eq_false hy
   omega
  ·exfalso
   rw [hot,k1] at hy
   cases hy
theorem sv_lost {H : HV} {w : World} {a b c x y : D} {z : Bool} {e : Int} {p : Nat} {old acks ga gb gc gx gy : D} {gz : Bool} (ho : old.Is Int) (hol : old.len ≤ 8192)
  (h : Runs Try.prog ⟨w,H⟩ (svB a b c x y z e p old acks ga gb gc gx gy gz (lostI (old.to Int) p)) (RetS w H (.lb true))) :
  Runs Try.prog ⟨w,H⟩ (svA a b c x y z e p old acks ga gb gc gx gy gz) (RetS w H (.lb true)) := by
 have ol := D.Is.length (α := Int) old
 apply exec_sound ctSvOk 400
 rw [sva_go]
 show Runs Try.prog ⟨w,H⟩ (svX a b c x y z e p old acks ga gb gc gx gy gz ((0 : Nat) : Int)) _
 refine runs_loop (fun j : Nat=>svX a b c x y z e p old acks ga gb gc gx gy gz (j : Int)) (fun j=>j ≤ (old.to Int).length ∧ lostI ((old.to Int).take j) p = false) (fun j=>(old.to Int).length - j) (fun _=>rfl) ?_ 0 ⟨Nat.zero_le _,rfl⟩
 rintro j ⟨hj,hpre⟩ ih
 apply goS_sound ctSvOk _ _ 400
 rw [svx_go]
 refine ⟨fun hc=>?_,fun hc=>?_⟩
 ·have hcj : j < (old.to Int).length := by have := of_decide_eq_true hc; omega
  obtain ⟨c1,c2,c3⟩ := int_at ho hcj
  rw [c3]
  refine ⟨c1,c2,fun hy=>?_,fun hy=>?_⟩
  ·have hl : lostI (old.to Int) p = true := by
    unfold lostI
    rw [List.any_eq_true]
    exact ⟨_,List.getElem_mem hcj,hy⟩
   rw [hl] at h
   rw [decide_eq_true (show (j : Int) ≥ 0 by omega)]
   exact h
  ·have := ih (j + 1) ⟨hcj,by
    unfold lostI at hpre ⊢
    rw [List.take_succ_eq_append_getElem hcj,List.any_append,hpre]
    simp only [List.any_cons,List.any_nil,Bool.or_false,Bool.false_or]
    exact hy⟩ (by omega)
   rw [← wrap_succ hcj (by omega)] at this
   exact this
 ·have : j = (old.to Int).length := by have := of_decide_eq_false hc; omega
  subst this
  rw [List.take_length] at hpre
  rw [hpre] at h
  exact h
theorem lawGSv : Law Try.prog 10 ((rdD.three rdD rdU8).sp spGSv) := by
 refine law_in _ (by kernel_rfl) fun H w ⟨d,l,k⟩ hok hp=>?_
 obtain ⟨⟨hd,hl⟩,hk0,hk1⟩ := hp _ (List.mem_singleton.2 rfl)
 simp only at hd hl hk0 hk1
 apply exec_sound ctSvOk 400
 rw [show (rdD.three rdD rdU8).canon (d,l,k) = [.dat d,.dat l,.int .u8 k] from rfl,sv_in]
 refine ⟨hd,fun hs=>⟨⟨hd,hl⟩,fun _=>ret_lbt,fun hf=>⟨fun _=>ret_lbt,fun he=>?_⟩⟩⟩
 have hf : fewS (d.to Int) (l.to St) = true := by simpa using hf
 have he : (newG (d.to Int)).2 = 0 := by simpa using he
 have hn : openErr (newG (d.to Int)).1 = 0 := by
  rcases newG_cases (d.to Int) with h | h
  ·exact absurd he h.2
  ·exact h.2.1
 have hfl := few_tail hf
 have ll := D.Is.length (α := St) l
 obtain ⟨K,rfl⟩ := Int.eq_ofNat_of_zero_le hk0
 refine runs_loop (fun u : Nat × GrD=>svL l u.2.h.s u.2.h.w u.2.h.e u.2.wt u.2.hd u.2.fz (K : Int) u.1) (fun u=>u.1 ≤ (l.to St).length ∧ GrV u.2) (fun u=>(l.to St).length - u.1) (fun _=>rfl) ?_ (0,likeGD (hs 0) (newG (d.to Int)).1) ⟨Nat.zero_le _,likeGD_v hn⟩
 rintro ⟨j,⟨a,b,c⟩,x,y,z⟩ ⟨hj,hV⟩ ih
 obtain ⟨hR,hv,hec,hw,hwt,hhd⟩ := id hV
 simp only at hj hec hw hwt hhd ih ⊢
 have hR : GrD.Right ⟨⟨a,b,c⟩,x,y,z⟩ := hR
 have hv : openErr (GrD.gr ⟨⟨a,b,c⟩,x,y,z⟩) = 0 := hv
 apply goS_sound ctSvOk _ _ 400
 rw [sv_go]
 refine ⟨fun hc=>?_,fun hc=>?_⟩
 ·have hcj : j < (l.to St).length := by have := of_decide_eq_true hc; omega
  obtain ⟨c1,_,_,_⟩ := st_cell hl hcj
  have hW := acc_step (s := ⟨⟨a,b,c⟩,x,y,z⟩) hl hfl.1 hcj
  have wj : IntKind.i64.wrap ((j : Int) + 1) = ((j + 1 : Nat) : Int) := wrap_succ (n := 40) (by omega) (by omega)
  rw [wj]
  exact ⟨⟨by omega,by omega,hl.size hcj⟩,c1,⟨hR,by omega,by omega,hW⟩,fun hs0=>ih (j + 1,likeGD (hs0 0) _) ⟨hcj,likeGD_v (run_valid hv)⟩ (by simp only; omega)⟩
 ·have w1 : IntKind.i64.wrap ((b.len : Int) + 1) = ((b.len + 1 : Nat) : Int) := by rw [wrap64 (by omega) (by omega)]; rfl
  have w2 : IntKind.i64.wrap (K : Int) = (K : Int) := wrap64 (by omega) (by omega)
  have w3 : Int.tmod (K : Int) ((b.len + 1 : Nat) : Int) = ((K % (b.len + 1) : Nat) : Int) := rfl
  rw [w1,w2,w3]
  have hlt : K % (b.len + 1) < b.len + 1 := Nat.mod_lt _ (Nat.succ_pos _)
  generalize K % (b.len + 1) = p at hlt
  refine ⟨by omega,⟨hR.1.2.2.1,by omega⟩,fun hs1 hs2=>⟨by omega,⟨hR,D.like_is _ _,by rw [llen,firstN_len]; omega⟩,?_⟩⟩
  simp only [D.like_to]
  have oi := D.like_is (hs1 0 0) (acksOf (c.to Ev))
  have ot := D.like_to (hs1 0 0) (acksOf (c.to Ev))
  have ole : (D.like (hs1 0 0) (acksOf (c.to Ev))).len ≤ 8192 := by
   rw [llen]
   have := acksOf_len (c.to Ev)
   have := D.Is.length (α := Ev) c
   omega
  generalize D.like (hs1 0 0) (acksOf (c.to Ev)) = old at oi ot ole
  exact sv_lost oi ole (sv_end (ds := hs2 3) hV (by simp only; omega) oi ot ole (llen _ _))
end Go.Proofs.Ytodhhmjilnfecaa
end
