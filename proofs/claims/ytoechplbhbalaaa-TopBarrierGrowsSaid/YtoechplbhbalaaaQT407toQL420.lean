/- The top of layer 21: a step of a group of nodes, walked up to its calls. -/
import Derived.KernelRfl
import Derived.Test.YtoechplbhbalaaaQT1toQT426
import Derived.Test.YtoechplbhbalaaaN17toRW16
import Derived.Test.YtoechplbhbalaaaOutoN16
set_option linter.all false
set_option maxRecDepth 100000
set_option maxHeartbeats 0
noncomputable section
open Go Go.Proofs Sx
namespace Sv
section
variable (now kk kn kw pa : Int) (c : Co) (pd sd mb zd wd ed ms l n0 n1 n2 : D) (h : Hist)
theorem sp2_in : 
 let z3 := (D.cell mb (Int.toNat (ndI kn mb)) 6)
 let z4 : Prop := (decide (D.getInt ms (Int.toNat (ndI kw ms)) 2 < 0) = false)
 let z5 : Prop := (decide (D.getInt ms (Int.toNat (ndI kw ms)) 2 < 0) = true)
 let z7 := (collectCo (CoD.co (coOf pd sd c)) now (MsgD.msg (msAt ms (Int.toNat (ndI kw ms)))))
 let z8 := (cA 33 [1,1,0,1,0,1,0,1])
 let z6 : Tree := (.leaf (Conf.mk (SFrm.mk 33 none none [Item.code z8,Item.code (cA 33 [1,1,0,1,0,1,1,1,1,1,1,1,0,1,1,1]),Item.inBlock 0,Item.code (cA 33 [1,1,1])] (mkJ 0 [(6,.lb false)] 0 298)) [] [(1,OBlk.arr 28 mb),(3,OBlk.arr 50 ms),(4,OBlk.arr 3 n0),(5,OBlk.arr 3 n1),(100000,noC 1 3 2 now c pd sd zd wd ed h),(100001,OBlk.cells 22 [.vec 4,.vec 5])]))
 let z10 := (Prod.snd (startCo (CoD.co (coOf pd sd c)) now pa))
 let z11 := (D.getInt ms (Int.toNat (ndI kw ms)) 2)
 let z1 := (obeyMb (MbD.mb (mbAt mb (Int.toNat z11))) now pa (MsgD.msg (msAt ms (Int.toNat (ndI kw ms)))))
 let z12 := (expireCo (CoD.co (coOf pd sd c)) now)
 let z13 := (SFrm.mk 33 none none [Item.code z8] (mkJ 0 [(6,.lb true)] 0 298))
 let z2 : Tree := (.leaf (Conf.mk z13 [] [(1,OBlk.arr 28 mb),(3,OBlk.arr 50 ms),(4,OBlk.arr 3 n0),(5,OBlk.arr 3 n1),(100000,noC 1 3 2 now c pd sd zd wd ed h),(100001,OBlk.cells 22 [.vec 4,.vec 5])]))
 let z14 := (mbAt mb (Int.toNat (ndI kn mb)))
 let z9 := (durMb (MbD.mb z14) (D.getInt z3 (Int.toNat (ndI kw z3)) 0))
 execRE Try.prog ctSp [68,70] 600 (sysN 33 298 [(0,.ptr 100000 0),(1,.agg [.int .i64 kk,.int .i64 kn,.int .i64 kw]),(2,.int .i64 pa)] (noM 2 [n0,n1] now c pd sd mb zd wd ed ms h)) =
 Tree.all fun hs=>.need ((↑(D.len mb) : Int) ≠ 0) (.br (decide (kk = 0)) (.leaf (Conf.mk (SFrm.mk 68 none none [Item.code (cA 68 [])] (mkJ 1 [(0,.ptr 100000 0),(1,.int .i64 (ndI kn mb))] 0 78)) [SFrm.mk 33
 (some (oA 33 [1,1,0,1,0,1,0,0],[3])) (some 44) [Item.code z8,Item.inBlock 0,Item.code (cA 33 [1,1,1])] (mkJ 0 [] 0 298)] [(1,OBlk.arr 28 mb),(3,OBlk.arr 50 ms),(4,OBlk.arr 3 n0),(5,OBlk.arr 3 n1),
 (100000,noC 1 3 2 now c pd sd zd wd ed h),(100001,OBlk.cells 22 [.vec 4,.vec 5])])) (.br (decide (kk = 1)) (.need (0 ≤ ndI kn mb ∧ ndI kn mb < (↑(D.len mb) : Int) ∧ D.sz mb = 8) (.need (D.HasCell mb
 (Int.toNat (ndI kn mb)) 6 FT.slc ∧ D.sz mb = 8) (.br (decide ((↑(D.len z3) : Int) > 0)) (.all fun hs=>.need (0 ≤ ndI kn mb ∧ ndI kn mb < (↑(D.len mb) : Int) ∧ D.sz mb = 8) (.need (D.HasCells mb (Int.toNat
 (ndI kn mb)) 0 [FT.int .i64,FT.int .i64,FT.int .i64,FT.int .i64,FT.bool,FT.int .i64,FT.slc,FT.slc] ∧ D.sz mb = 8) (.need ((↑(D.len z3) : Int) ≠ 0) (.need (0 ≤ ndI kw z3 ∧ ndI kw z3 < (↑(D.len z3) : Int) ∧ D.sz z3 = 1)
 (.need (D.HasCell z3 (Int.toNat (ndI kw z3)) 0 (FT.int .i64)) (.need (MbD.Right z14) (.all fun hs_1=>.need (0 ≤ ndI kn mb ∧ ndI kn mb < (↑(D.len mb) : Int) ∧ D.sz mb = 8) (.need (Int.toNat (ndI kn mb) < D.len mb ∧ 8 ≤ D.sz mb ∧ D.sz mb = 8)
 (.br (decide (Prod.snd (Prod.snd z9) = 0)) (.leaf (Conf.mk (SFrm.mk 70 none none [Item.code (cA 70 [])] (mkJ 1 [(0,.ptr 100000 0),(1,.int .i64 (ndI kn mb)),(2,.dat (D.like (hs 14 2) (Prod.fst (Prod.snd z9))))] 0 56)) [SFrm.mk 33
 (some (oA 33 [1,1,0,1,0,1,1,1,0,1,1,0,1,1,0],[7,8])) (some 90) [Item.code z8,Item.inBlock 0,Item.code (cA 33 [1,1,1])] (mkJ 0 [(86,.lb true)] 0 298)] [(1,OBlk.arr 28 (D.setCells mb
 (Int.toNat (ndI kn mb)) 0 (mbRow (hs 14 0) (hs 14 1) (Prod.fst z9)))),(3,OBlk.arr 50 ms),(4,OBlk.arr 3 n0),(5,OBlk.arr 3 n1),(100000,noC 1 3 2 now c pd sd zd wd ed h),(100001,OBlk.cells 22 [.vec 4,.vec 5])]))
 (.leaf (Conf.mk (SFrm.mk 33 none none [Item.code z8,Item.inBlock 0,Item.code (cA 33 [1,1,1])] (mkJ 0 [(6,.lb false)] 0 298)) [] [(1,OBlk.arr 28 (D.setCells mb (Int.toNat (ndI kn mb)) 0 (mbRow (hs 14 0)
 (hs 14 1) (Prod.fst z9)))),(3,OBlk.arr 50 ms),(4,OBlk.arr 3 n0),(5,OBlk.arr 3 n1),(100000,noC 1 3 2 now c pd sd zd wd ed h),(100001,OBlk.cells 22 [.vec 4,.vec 5])]))))))))))) z2))) (.br (decide
 (kk = 2)) (.all fun hs=>.need (D.Is Int (D.like pd (Co.positions c)) ∧ D.Is Bool (D.like sd (Co.seen c))) (.br (decide (Prod.snd z10 = 0)) (.all fun hs_1=>.need (D.sz ms = 8 ∧ D.Fits (D.like (hs 9 2)
 (Prod.fst z10)) 8 ∧ (D.len ms + D.len (D.like (hs 9 2) (Prod.fst z10))) * 96 ≤ 140737488355328 ∧ D.len ms + D.len (D.like (hs 9 2) (Prod.fst z10)) ≤ 9223372036854775807) (.leaf (Conf.mk z13 [] [(0,OBlk.arr 50
 (D.slc (D.hd (hs_1 8 0)) 8 (List.append (D.rows ms) (D.rows (D.like (hs 9 2) (Prod.fst z10)))))),(2,OBlk.arr 28 mb),(4,OBlk.arr 3 n0),(5,OBlk.arr 3 n1),(100000,noC 2 0 2 now (Prod.fst (startCo
 (CoD.co (coOf pd sd c)) now pa)) (hs 9 0) (hs 9 1) zd wd ed h),(100001,OBlk.cells 22 [.vec 4,.vec 5])]))) z2)) (.br (decide (kk = 3)) (.br (decide ((↑(D.len ms) : Int) = 0)) (.leaf (Conf.mk (SFrm.mk 33 none none [Item.code z8,Item.code
 (cA 33 [1,1,0,1,0,1,1,1,1,1,1,1,0,1]),Item.inBlock 0,Item.code (cA 33 [1,1,1])] (mkJ 0 [(6,.lb true)] 0 298)) [] [(1,OBlk.arr 28 mb),(3,OBlk.arr 50 ms),(4,OBlk.arr 3 n0),(5,OBlk.arr 3 n1),
 (100000,noC 1 3 2 now c pd sd zd wd ed h),(100001,OBlk.cells 22 [.vec 4,.vec 5])])) (.all fun hs=>.need ((↑(D.len ms) : Int) ≠ 0) (.need (0 ≤ ndI kw ms ∧ ndI kw ms < (↑(D.len ms) : Int) ∧ D.sz ms = 8)
 (.need (D.HasCells ms (Int.toNat (ndI kw ms)) 0 [FT.int .i64,FT.int .i64,FT.int .i64,FT.int .i64,FT.int .i64,FT.int .i64,FT.slc,FT.slc] ∧ D.sz ms = 8) (.all fun hs=>.br (decide (D.getInt ms (Int.toNat
 (ndI kw ms)) 2 < 0)) (.need z5 (.need z5 (.need z5 (.need z5 (.need z5 (.need z5 (.need z5 (.need z5 (.need z5 z6))))))))) (.need z4 (.need z4 (.need z4 (.need z4 (.need z4 (.need z4 (.need z4 (.need z4
 (.need z4 (.br (decide (D.getInt ms (Int.toNat (ndI kw ms)) 2 > (↑(D.len mb) : Int))) z6 (.all fun hs=>.br (decide (D.getInt ms (Int.toNat (ndI kw ms)) 2 = (↑(D.len mb) : Int))) (.all fun hs=>.need
 (D.Is Int (D.like pd (Co.positions c)) ∧ D.Is Bool (D.like sd (Co.seen c))) (.all fun hs_1=>.need (D.sz ms = 8 ∧ D.Fits (D.like (hs 9 2) (Prod.snd z7)) 8 ∧ (D.len ms + D.len (D.like (hs 9 2) (Prod.snd z7))) * 96 ≤ 140737488355328 ∧ D.len ms + D.len
 (D.like (hs 9 2) (Prod.snd z7)) ≤ 9223372036854775807) (.leaf (Conf.mk (SFrm.mk 33 none none [Item.code z8,Item.code (cA 33 [1,1,0,1,0,1,1,1,1,1,1,1,0,1,1,1,1]),Item.inBlock 0,Item.code
 (cA 33 [1,1,1])] (mkJ 0 [(6,.lb true)] 0 298)) [] [(0,OBlk.arr 50 (D.slc (D.hd (hs_1 8 0)) 8 (List.append (D.rows ms) (D.rows (D.like (hs 9 2) (Prod.snd z7)))))),(2,OBlk.arr 28 mb),(4,OBlk.arr 3 n0),
 (5,OBlk.arr 3 n1),(100000,noC 2 0 2 now (Prod.fst z7) (hs 9 0) (hs 9 1) zd wd ed h),(100001,OBlk.cells 22 [.vec 4,.vec 5])])))) (.all fun hs=>.need (0 ≤ D.getInt ms (Int.toNat (ndI kw ms)) 2 ∧ D.getInt ms
 (Int.toNat (ndI kw ms)) 2 < (↑(D.len mb) : Int) ∧ D.sz mb = 8) (.need (D.HasCells mb (Int.toNat z11) 0 [FT.int .i64,FT.int .i64,FT.int .i64,FT.int .i64,FT.bool,FT.int .i64,FT.slc,FT.slc] ∧ D.sz mb = 8)
 (.need (MbD.Right (mbAt mb (Int.toNat z11))) (.all fun hs_1=>.need (D.sz ms = 8 ∧ D.Fits (D.like (hs 14 3) (Prod.snd (Prod.snd z1))) 8 ∧ (D.len ms + D.len (D.like (hs 14 3) (Prod.snd (Prod.snd z1)))) * 96 ≤ 140737488355328 ∧ D.len ms + D.len
 (D.like (hs 14 3) (Prod.snd (Prod.snd z1))) ≤ 9223372036854775807) (.need (0 ≤ D.getInt ms (Int.toNat (ndI kw ms)) 2 ∧ D.getInt ms (Int.toNat (ndI kw ms)) 2 < (↑(D.len mb) : Int) ∧ D.sz mb = 8) (.need
 (Int.toNat z11 < D.len mb ∧ 8 ≤ D.sz mb ∧ D.sz mb = 8) (.leaf (Conf.mk (SFrm.mk 70 none none [Item.code (cA 70 [])] (mkJ 1 [(0,.ptr 100000 0),(1,.int .i64 z11),(2,.dat (D.like (hs 14 2) (Prod.fst
 (Prod.snd z1))))] 0 56)) [SFrm.mk 33 (some (oA 33 [1,1,0,1,0,1,1,1,1,1,1,1,0,1,1,1,1,1,1,0],[5])) (some 231) [Item.code z8,Item.inBlock 0,Item.code (cA 33 [1,1,1])] (mkJ 0 [] 0 298)] [(1,OBlk.arr 28
 (D.setCells mb (Int.toNat z11) 0 (mbRow (hs 14 0) (hs 14 1) (Prod.fst z1)))),(3,OBlk.arr 50 (D.slc (D.hd (hs_1 13 0)) 8 (List.append (D.rows ms) (D.rows (D.like (hs 14 3) (Prod.snd (Prod.snd z1))))))),
 (4,OBlk.arr 3 n0),(5,OBlk.arr 3 n1),(100000,noC 1 3 2 now c pd sd zd wd ed h),(100001,OBlk.cells 22 [.vec 4,.vec 5])])))))))))))))))))))))))) (.br (decide (kk = 4)) (.need ((8 : Int) ≠ 0) (.leaf
 (Conf.mk z13 [] [(1,OBlk.arr 28 mb),(3,OBlk.arr 50 ms),(4,OBlk.arr 3 n0),(5,OBlk.arr 3 n1),(100000,noC 1 3 2 (IntKind.wrap .i64 (now + Int.tmod (if kw > 0 then kw else 0) 8)) c pd sd zd wd ed h),
 (100001,OBlk.cells 22 [.vec 4,.vec 5])]))) (.br (decide (kk = 5)) (.all fun hs=>.need (0 ≤ ndI kn mb ∧ ndI kn mb < (↑(D.len mb) : Int) ∧ D.sz mb = 8) (.need (D.HasCells mb (Int.toNat (ndI kn mb)) 0 [FT.int .i64,FT.int .i64,FT.int .i64,FT.int .i64,FT.bool,FT.int .i64,FT.slc,FT.slc] ∧ D.sz mb = 8)
 (.need (MbD.Right z14) (.all fun hs_1=>.need (0 ≤ ndI kn mb ∧ ndI kn mb < (↑(D.len mb) : Int) ∧ D.sz mb = 8) (.need (Int.toNat (ndI kn mb) < D.len mb ∧ 8 ≤ D.sz mb ∧ D.sz mb = 8) (.leaf (Conf.mk (SFrm.mk 70 none none [Item.code
 (cA 70 [])] (mkJ 1 [(0,.ptr 100000 0),(1,.int .i64 (ndI kn mb)),(2,.dat (D.like (hs 11 2) (Prod.snd (relMb (MbD.mb z14) now))))] 0 56)) [SFrm.mk 33 (some (oA 33 [1,1,0,1,0,1,1,1,1,1,1,1,1,1,1,1,0,1,1,0],[4]))
 (some 270) [Item.code z8,Item.inBlock 0,Item.code (cA 33 [1,1,1])] (mkJ 0 [] 0 298)] [(1,OBlk.arr 28 (D.setCells mb (Int.toNat (ndI kn mb)) 0 (mbRow (hs 11 0) (hs 11 1) (Prod.fst (relMb (MbD.mb z14) now))))),
 (3,OBlk.arr 50 ms),(4,OBlk.arr 3 n0),(5,OBlk.arr 3 n1),(100000,noC 1 3 2 now c pd sd zd wd ed h),(100001,OBlk.cells 22 [.vec 4,.vec 5])]))))))) (.br (decide (kk = 6)) (.all fun hs=>.need (D.Is Int
 (D.like pd (Co.positions c)) ∧ D.Is Bool (D.like sd (Co.seen c))) (.all fun hs_1=>.need (D.sz ms = 8 ∧ D.Fits (D.like (hs 8 2) (Prod.snd z12)) 8 ∧ (D.len ms + D.len (D.like (hs 8 2) (Prod.snd z12))) * 96 ≤ 140737488355328 ∧ D.len ms + D.len
 (D.like (hs 8 2) (Prod.snd z12)) ≤ 9223372036854775807) (.leaf (Conf.mk z13 [] [(0,OBlk.arr 50 (D.slc (D.hd (hs_1 8 0)) 8 (List.append (D.rows ms) (D.rows (D.like (hs 8 2) (Prod.snd z12)))))),(2,OBlk.arr 28 mb),
 (4,OBlk.arr 3 n0),(5,OBlk.arr 3 n1),(100000,noC 2 0 2 now (Prod.fst z12) (hs 8 0) (hs 8 1) zd wd ed h),(100001,OBlk.cells 22 [.vec 4,.vec 5])])))) z2))))))) := by
 intros; kernel_rfl
end
section
variable (now kk kn kw pa : Int) (c : Co) (pd sd mb zd wd ed ms l n0 n1 n2 : D) (h : Hist)
theorem sp3_in : 
 let z3 := (D.cell mb (Int.toNat (ndI kn mb)) 6)
 let z4 : Prop := (decide (D.getInt ms (Int.toNat (ndI kw ms)) 2 < 0) = false)
 let z5 : Prop := (decide (D.getInt ms (Int.toNat (ndI kw ms)) 2 < 0) = true)
 let z7 := (collectCo (CoD.co (coOf pd sd c)) now (MsgD.msg (msAt ms (Int.toNat (ndI kw ms)))))
 let z8 := (cA 33 [1,1,0,1,0,1,0,1])
 let z6 : Tree := (.leaf (Conf.mk (SFrm.mk 33 none none [Item.code z8,Item.code (cA 33 [1,1,0,1,0,1,1,1,1,1,1,1,0,1,1,1]),Item.inBlock 0,Item.code (cA 33 [1,1,1])] (mkJ 0 [(6,.lb false)] 0 298)) [] [(1,OBlk.arr 28 mb),(3,OBlk.arr 50 ms),(4,OBlk.arr 3 n0),(5,OBlk.arr 3 n1),(6,OBlk.arr 3 n2),(100000,noC 1 3 3 now c pd sd zd wd ed h),(100001,OBlk.cells 22 [.vec 4,.vec 5,.vec 6])]))
 let z10 := (Prod.snd (startCo (CoD.co (coOf pd sd c)) now pa))
 let z11 := (D.getInt ms (Int.toNat (ndI kw ms)) 2)
 let z1 := (obeyMb (MbD.mb (mbAt mb (Int.toNat z11))) now pa (MsgD.msg (msAt ms (Int.toNat (ndI kw ms)))))
 let z12 := (expireCo (CoD.co (coOf pd sd c)) now)
 let z13 := (SFrm.mk 33 none none [Item.code z8] (mkJ 0 [(6,.lb true)] 0 298))
 let z2 : Tree := (.leaf (Conf.mk z13 [] [(1,OBlk.arr 28 mb),(3,OBlk.arr 50 ms),(4,OBlk.arr 3 n0),(5,OBlk.arr 3 n1),(6,OBlk.arr 3 n2),(100000,noC 1 3 3 now c pd sd zd wd ed h),(100001,OBlk.cells 22 [.vec 4,.vec 5,.vec 6])]))
 let z14 := (mbAt mb (Int.toNat (ndI kn mb)))
 let z9 := (durMb (MbD.mb z14) (D.getInt z3 (Int.toNat (ndI kw z3)) 0))
 execRE Try.prog ctSp [68,70] 600 (sysN 33 298 [(0,.ptr 100000 0),(1,.agg [.int .i64 kk,.int .i64 kn,.int .i64 kw]),(2,.int .i64 pa)] (noM 3 [n0,n1,n2] now c pd sd mb zd wd ed ms h)) =
 Tree.all fun hs=>.need ((↑(D.len mb) : Int) ≠ 0) (.br (decide (kk = 0)) (.leaf (Conf.mk (SFrm.mk 68 none none [Item.code (cA 68 [])] (mkJ 1 [(0,.ptr 100000 0),(1,.int .i64 (ndI kn mb))] 0 78)) [SFrm.mk 33
 (some (oA 33 [1,1,0,1,0,1,0,0],[3])) (some 44) [Item.code z8,Item.inBlock 0,Item.code (cA 33 [1,1,1])] (mkJ 0 [] 0 298)] [(1,OBlk.arr 28 mb),(3,OBlk.arr 50 ms),(4,OBlk.arr 3 n0),(5,OBlk.arr 3 n1),
 (6,OBlk.arr 3 n2),(100000,noC 1 3 3 now c pd sd zd wd ed h),(100001,OBlk.cells 22 [.vec 4,.vec 5,.vec 6])])) (.br (decide (kk = 1)) (.need (0 ≤ ndI kn mb ∧ ndI kn mb < (↑(D.len mb) : Int) ∧ D.sz mb = 8)
 (.need (D.HasCell mb (Int.toNat (ndI kn mb)) 6 FT.slc ∧ D.sz mb = 8) (.br (decide ((↑(D.len z3) : Int) > 0)) (.all fun hs=>.need (0 ≤ ndI kn mb ∧ ndI kn mb < (↑(D.len mb) : Int) ∧ D.sz mb = 8) (.need
 (D.HasCells mb (Int.toNat (ndI kn mb)) 0 [FT.int .i64,FT.int .i64,FT.int .i64,FT.int .i64,FT.bool,FT.int .i64,FT.slc,FT.slc] ∧ D.sz mb = 8) (.need ((↑(D.len z3) : Int) ≠ 0) (.need (0 ≤ ndI kw z3 ∧ ndI kw z3 <
 (↑(D.len z3) : Int) ∧ D.sz z3 = 1) (.need (D.HasCell z3 (Int.toNat (ndI kw z3)) 0 (FT.int .i64)) (.need (MbD.Right z14) (.all fun hs_1=>.need (0 ≤ ndI kn mb ∧ ndI kn mb < (↑(D.len mb) : Int) ∧ D.sz mb = 8)
 (.need (Int.toNat (ndI kn mb) < D.len mb ∧ 8 ≤ D.sz mb ∧ D.sz mb = 8) (.br (decide (Prod.snd (Prod.snd z9) = 0)) (.leaf (Conf.mk (SFrm.mk 70 none none [Item.code (cA 70 [])] (mkJ 1 [(0,.ptr 100000 0),
 (1,.int .i64 (ndI kn mb)),(2,.dat (D.like (hs 14 2) (Prod.fst (Prod.snd z9))))] 0 56)) [SFrm.mk 33 (some (opsAt Try.prog 33 [1,1,0,1,0,1,1,1,0,1,1,0,1,1,0],[7,8])) (some 90) [Item.code z8,Item.inBlock 0,Item.code
 (cA 33 [1,1,1])] (mkJ 0 [(86,.lb true)] 0 298)] [(1,OBlk.arr 28 (D.setCells mb (Int.toNat (ndI kn mb)) 0 (mbRow (hs 14 0) (hs 14 1) (Prod.fst z9)))),(3,OBlk.arr 50 ms),(4,OBlk.arr 3 n0),(5,OBlk.arr 3 n1),
 (6,OBlk.arr 3 n2),(100000,noC 1 3 3 now c pd sd zd wd ed h),(100001,OBlk.cells 22 [.vec 4,.vec 5,.vec 6])])) (.leaf (Conf.mk (SFrm.mk 33 none none [Item.code z8,Item.inBlock 0,Item.code (cA 33 [1,1,1])]
 (mkJ 0 [(6,.lb false)] 0 298)) [] [(1,OBlk.arr 28 (D.setCells mb (Int.toNat (ndI kn mb)) 0 (mbRow (hs 14 0) (hs 14 1) (Prod.fst z9)))),(3,OBlk.arr 50 ms),(4,OBlk.arr 3 n0),(5,OBlk.arr 3 n1),(6,OBlk.arr 3 n2),
 (100000,noC 1 3 3 now c pd sd zd wd ed h),(100001,OBlk.cells 22 [.vec 4,.vec 5,.vec 6])]))))))))))) z2))) (.br (decide (kk = 2)) (.all fun hs=>.need (D.Is Int (D.like pd (Co.positions c)) ∧ D.Is Bool
 (D.like sd (Co.seen c))) (.br (decide (Prod.snd z10 = 0)) (.all fun hs_1=>.need (D.sz ms = 8 ∧ D.Fits (D.like (hs 9 2) (Prod.fst z10)) 8 ∧ (D.len ms + D.len (D.like (hs 9 2) (Prod.fst z10))) * 96 ≤ 140737488355328 ∧ D.len ms + D.len
 (D.like (hs 9 2) (Prod.fst z10)) ≤ 9223372036854775807) (.leaf (Conf.mk z13 [] [(0,OBlk.arr 50 (D.slc (D.hd (hs_1 8 0)) 8 (List.append (D.rows ms) (D.rows (D.like (hs 9 2) (Prod.fst z10)))))),(2,OBlk.arr 28 mb),
 (4,OBlk.arr 3 n0),(5,OBlk.arr 3 n1),(6,OBlk.arr 3 n2),(100000,noC 2 0 3 now (Prod.fst (startCo (CoD.co (coOf pd sd c)) now pa)) (hs 9 0) (hs 9 1) zd wd ed h),(100001,OBlk.cells 22 [.vec 4,.vec 5,.vec 6])]))) z2))
 (.br (decide (kk = 3)) (.br (decide ((↑(D.len ms) : Int) = 0)) (.leaf (Conf.mk (SFrm.mk 33 none none [Item.code z8,Item.code (cA 33 [1,1,0,1,0,1,1,1,1,1,1,1,0,1]),Item.inBlock 0,Item.code
 (cA 33 [1,1,1])] (mkJ 0 [(6,.lb true)] 0 298)) [] [(1,OBlk.arr 28 mb),(3,OBlk.arr 50 ms),(4,OBlk.arr 3 n0),(5,OBlk.arr 3 n1),(6,OBlk.arr 3 n2),(100000,noC 1 3 3 now c pd sd zd wd ed h),(100001,OBlk.cells 22 [.vec 4,.vec 5,.vec 6])]))
 (.all fun hs=>.need ((↑(D.len ms) : Int) ≠ 0) (.need (0 ≤ ndI kw ms ∧ ndI kw ms < (↑(D.len ms) : Int) ∧ D.sz ms = 8) (.need (D.HasCells ms (Int.toNat (ndI kw ms)) 0 [FT.int .i64,FT.int .i64,FT.int .i64,FT.int .i64,FT.int .i64,FT.int .i64,FT.slc,FT.slc] ∧ D.sz ms = 8)
 (.all fun hs=>.br (decide (D.getInt ms (Int.toNat (ndI kw ms)) 2 < 0)) (.need z5 (.need z5 (.need z5 (.need z5 (.need z5 (.need z5 (.need z5 (.need z5 (.need z5 z6))))))))) (.need z4 (.need z4 (.need z4
 (.need z4 (.need z4 (.need z4 (.need z4 (.need z4 (.need z4 (.br (decide (D.getInt ms (Int.toNat (ndI kw ms)) 2 > (↑(D.len mb) : Int))) z6 (.all fun hs=>.br (decide (D.getInt ms (Int.toNat (ndI kw ms)) 2 =
 (↑(D.len mb) : Int))) (.all fun hs=>.need (D.Is Int (D.like pd (Co.positions c)) ∧ D.Is Bool (D.like sd (Co.seen c))) (.all fun hs_1=>.need (D.sz ms = 8 ∧ D.Fits (D.like (hs 9 2) (Prod.snd z7)) 8 ∧
 (D.len ms + D.len (D.like (hs 9 2) (Prod.snd z7))) * 96 ≤ 140737488355328 ∧ D.len ms + D.len (D.like (hs 9 2) (Prod.snd z7)) ≤ 9223372036854775807) (.leaf (Conf.mk (SFrm.mk 33 none none [Item.code z8,Item.code
 (cA 33 [1,1,0,1,0,1,1,1,1,1,1,1,0,1,1,1,1]),Item.inBlock 0,Item.code (cA 33 [1,1,1])] (mkJ 0 [(6,.lb true)] 0 298)) [] [(0,OBlk.arr 50 (D.slc (D.hd (hs_1 8 0)) 8 (List.append (D.rows ms)
 (D.rows (D.like (hs 9 2) (Prod.snd z7)))))),(2,OBlk.arr 28 mb),(4,OBlk.arr 3 n0),(5,OBlk.arr 3 n1),(6,OBlk.arr 3 n2),(100000,noC 2 0 3 now (Prod.fst z7) (hs 9 0) (hs 9 1) zd wd ed h),(100001,OBlk.cells 22 [.vec 4,.vec 5,.vec 6])]))))
 (.all fun hs=>.need (0 ≤ D.getInt ms (Int.toNat (ndI kw ms)) 2 ∧ D.getInt ms (Int.toNat (ndI kw ms)) 2 < (↑(D.len mb) : Int) ∧ D.sz mb = 8) (.need (D.HasCells mb (Int.toNat z11) 0 [FT.int .i64,FT.int .i64,FT.int .i64,FT.int .i64,FT.bool,FT.int .i64,FT.slc,FT.slc] ∧ D.sz mb = 8)
 (.need (MbD.Right (mbAt mb (Int.toNat z11))) (.all fun hs_1=>.need (D.sz ms = 8 ∧ D.Fits (D.like (hs 14 3) (Prod.snd (Prod.snd z1))) 8 ∧ (D.len ms + D.len (D.like (hs 14 3) (Prod.snd (Prod.snd z1)))) * 96 ≤ 140737488355328 ∧ D.len ms + D.len
 (D.like (hs 14 3) (Prod.snd (Prod.snd z1))) ≤ 9223372036854775807) (.need (0 ≤ D.getInt ms (Int.toNat (ndI kw ms)) 2 ∧ D.getInt ms (Int.toNat (ndI kw ms)) 2 < (↑(D.len mb) : Int) ∧ D.sz mb = 8) (.need
 (Int.toNat z11 < D.len mb ∧ 8 ≤ D.sz mb ∧ D.sz mb = 8) (.leaf (Conf.mk (SFrm.mk 70 none none [Item.code (cA 70 [])] (mkJ 1 [(0,.ptr 100000 0),(1,.int .i64 z11),(2,.dat (D.like (hs 14 2) (Prod.fst
 (Prod.snd z1))))] 0 56)) [SFrm.mk 33 (some (opsAt Try.prog 33 [1,1,0,1,0,1,1,1,1,1,1,1,0,1,1,1,1,1,1,0],[5])) (some 231) [Item.code z8,Item.inBlock 0,Item.code (cA 33 [1,1,1])]
 (mkJ 0 [] 0 298)] [(1,OBlk.arr 28 (D.setCells mb (Int.toNat z11) 0 (mbRow (hs 14 0) (hs 14 1) (Prod.fst z1)))),(3,OBlk.arr 50 (D.slc (D.hd (hs_1 13 0)) 8 (List.append (D.rows ms) (D.rows (D.like (hs 14 3)
 (Prod.snd (Prod.snd z1))))))),(4,OBlk.arr 3 n0),(5,OBlk.arr 3 n1),(6,OBlk.arr 3 n2),(100000,noC 1 3 3 now c pd sd zd wd ed h),(100001,OBlk.cells 22 [.vec 4,.vec 5,.vec 6])]))))))))))))))))))))))))
 (.br (decide (kk = 4)) (.need ((8 : Int) ≠ 0) (.leaf (Conf.mk z13 [] [(1,OBlk.arr 28 mb),(3,OBlk.arr 50 ms),(4,OBlk.arr 3 n0),(5,OBlk.arr 3 n1),(6,OBlk.arr 3 n2),(100000,noC 1 3 3 (IntKind.wrap .i64
 (now + Int.tmod (if kw > 0 then kw else 0) 8)) c pd sd zd wd ed h),(100001,OBlk.cells 22 [.vec 4,.vec 5,.vec 6])]))) (.br (decide (kk = 5)) (.all fun hs=>.need (0 ≤ ndI kn mb ∧ ndI kn mb < (↑(D.len mb) : Int) ∧ D.sz mb = 8)
 (.need (D.HasCells mb (Int.toNat (ndI kn mb)) 0 [FT.int .i64,FT.int .i64,FT.int .i64,FT.int .i64,FT.bool,FT.int .i64,FT.slc,FT.slc] ∧ D.sz mb = 8) (.need (MbD.Right z14) (.all fun hs_1=>.need
 (0 ≤ ndI kn mb ∧ ndI kn mb < (↑(D.len mb) : Int) ∧ D.sz mb = 8) (.need (Int.toNat (ndI kn mb) < D.len mb ∧ 8 ≤ D.sz mb ∧ D.sz mb = 8) (.leaf (Conf.mk (SFrm.mk 70 none none [Item.code (cA 70 [])] (mkJ 1 [(0,.ptr 100000 0),
 (1,.int .i64 (ndI kn mb)),(2,.dat (D.like (hs 11 2) (Prod.snd (relMb (MbD.mb z14) now))))] 0 56)) [SFrm.mk 33 (some (oA 33 [1,1,0,1,0,1,1,1,1,1,1,1,1,1,1,1,0,1,1,0],[4])) (some 270) [Item.code z8,Item.inBlock 0,Item.code
 (cA 33 [1,1,1])] (mkJ 0 [] 0 298)] [(1,OBlk.arr 28 (D.setCells mb (Int.toNat (ndI kn mb)) 0 (mbRow (hs 11 0) (hs 11 1) (Prod.fst (relMb (MbD.mb z14) now))))),(3,OBlk.arr 50 ms),(4,OBlk.arr 3 n0),
 (5,OBlk.arr 3 n1),(6,OBlk.arr 3 n2),(100000,noC 1 3 3 now c pd sd zd wd ed h),(100001,OBlk.cells 22 [.vec 4,.vec 5,.vec 6])]))))))) (.br (decide (kk = 6)) (.all fun hs=>.need (D.Is Int (D.like pd
 (Co.positions c)) ∧ D.Is Bool (D.like sd (Co.seen c))) (.all fun hs_1=>.need (D.sz ms = 8 ∧ D.Fits (D.like (hs 8 2) (Prod.snd z12)) 8 ∧ (D.len ms + D.len (D.like (hs 8 2) (Prod.snd z12))) * 96 ≤ 140737488355328 ∧ D.len ms + D.len
 (D.like (hs 8 2) (Prod.snd z12)) ≤ 9223372036854775807) (.leaf (Conf.mk z13 [] [(0,OBlk.arr 50 (D.slc (D.hd (hs_1 8 0)) 8 (List.append (D.rows ms) (D.rows (D.like (hs 8 2) (Prod.snd z12)))))),(2,OBlk.arr 28 mb),
 (4,OBlk.arr 3 n0),(5,OBlk.arr 3 n1),(6,OBlk.arr 3 n2),(100000,noC 2 0 3 now (Prod.fst z12) (hs 8 0) (hs 8 1) zd wd ed h),(100001,OBlk.cells 22 [.vec 4,.vec 5,.vec 6])])))) z2))))))) := by
 intros; kernel_rfl
end
def ctNi : Ctrs := [(36,ctrOf (rdMb.one.sp spIssue)),(85,ctrOf ((rdHi.two rdWt).sp spIssueH))]
section
variable (now : Int) (c : Co) (pd sd mb zd wd ed ms l n0 n1 n2 : D) (h : Hist)
theorem ni10_in : 
 let z1 := (Prod.snd (issueMb (MbD.mb (mbAt mb 0))))
 let z2 := (HiD.hist (hiOf zd wd ed h))
 execRS Try.prog ctNi [] 400 (sysN 68 78 [(0,.ptr 100000 0),(1,.int .i64 0)] (noM 1 [n0] now c pd sd mb zd wd ed ms h)) =
 Tree.need ((0 : Int) ≤ 0 ∧ 0 < (↑(D.len mb) : Int) ∧ D.sz mb = 8) (.need (D.HasCells mb 0 0 [FT.int .i64,FT.int .i64,FT.int .i64,FT.int .i64,FT.bool,FT.int .i64,FT.slc,FT.slc] ∧ D.sz mb = 8) (.need
 (MbD.Right (mbAt mb 0)) (.all fun hs=>.need ((0 : Int) ≤ 0 ∧ 0 < (↑1 : Int)) (.br (Prod.snd (issueMb (MbD.mb (mbAt mb 0))) != (↑(D.len n0) : Int)) (.leaf (Conf.mk (SFrm.mk 68 none none [Item.code (cA 68 [1,1,0,1,0,1]),Item.code
 (cA 68 [1,1,1])] (mkJ 0 [(4,.lb false)] 0 78)) [] [(1,OBlk.arr 28 mb),(3,OBlk.arr 50 ms),(4,OBlk.arr 3 n0),(100000,noC 1 3 1 now c pd sd zd wd ed h),(100001,OBlk.cells 22 [.vec 4])])) (.all fun hs_1=>.need
 (HiD.Right (hiOf zd wd ed h) ∧ D.len (likeEv ed (Hist.events h)) ≤ 1000000 ∧ WtD.Ok (wtOf (hs_1 0 0) 0 z1)) (.all fun hs_2=>.all fun hs_3=>.need ((0 : Int) ≤ 0 ∧ 0 < (↑(D.len mb) : Int) ∧ D.sz mb = 8)
 (.need (0 < D.len mb ∧ 8 ≤ D.sz mb ∧ D.sz mb = 8) (.all fun hs_4=>.need ((0 : Int) ≤ 0 ∧ 0 < (↑1 : Int)) (.need (D.sz n0 = 1 ∧ D.Fits (D.slc (D.hd (hs_4 13 0)) 1 [[D.int .i64 (Prod.fst (Prod.snd (issueH z2
 (WtD.wt (wtOf (hs_1 0 0) 0 z1)))))]]) 1 ∧ (D.len n0 + D.len (D.slc (D.hd (hs_4 13 0)) 1 [[D.int .i64 (Prod.fst (Prod.snd (issueH z2 (WtD.wt (wtOf (hs_1 0 0) 0 z1)))))]])) * 8 ≤ 140737488355328 ∧ D.len n0 + D.len
 (D.slc (D.hd (hs_4 13 0)) 1 [[D.int .i64 (Prod.fst (Prod.snd (issueH z2 (WtD.wt (wtOf (hs_1 0 0) 0 z1)))))]]) ≤ 9223372036854775807) (.need ((0 : Int) ≤ 0 ∧ 0 < (↑1 : Int)) (.leaf (Conf.mk (SFrm.mk 68 none none [Item.code
 (cA 68 [1,1,0,1,0,1])] (mkJ 0 [(4,.bool (decide (Prod.snd (Prod.snd (issueH z2 (WtD.wt (wtOf (hs_1 0 0) 0 z1)))) = 0)))] 0 78)) [] [(0,OBlk.arr 3 (D.slc (D.hd (hs_4 14 0)) 1 (List.append (D.rows n0)
 (D.rows (D.slc (D.hd (hs_4 13 0)) 1 [[D.int .i64 (Prod.fst (Prod.snd (issueH z2 (WtD.wt (wtOf (hs_1 0 0) 0 z1)))))]]))))),(1,OBlk.arr 28 (D.setCells mb 0 0 (mbRow (hs 0 0) (hs 0 1) (Prod.fst (issueMb
 (MbD.mb (mbAt mb 0))))))),(4,OBlk.arr 50 ms),(100000,OBlk.cells 75 [.int .i64 now,.int .i64 (Co.nodes c),.int .i64 (Co.round c),.int .i64 (Co.phase c),.int .i64 (Co.deadline c),.dat (D.like pd
 (Co.positions c)),.dat (D.like sd (Co.seen c)),.bool (Co.valid c),.vec 1,SV.sl 100001 1,.dat (D.like (hs_2 0 0) (Hist.sizes (Prod.fst (issueH z2 (WtD.wt (wtOf (hs_1 0 0) 0 z1)))))),.dat (D.like (hs_2 0 1)
 (Hist.writes (Prod.fst (issueH z2 (WtD.wt (wtOf (hs_1 0 0) 0 z1)))))),.dat (D.like (hs_2 0 2) (Hist.events (Prod.fst (issueH z2 (WtD.wt (wtOf (hs_1 0 0) 0 z1)))))),.vec 4]),(100001,OBlk.cells 22 [.vec 0])])))))))))))) := by
 intros; kernel_rfl
theorem ni20_in : 
 let z1 := (Prod.snd (issueMb (MbD.mb (mbAt mb 0))))
 let z2 := (HiD.hist (hiOf zd wd ed h))
 execRS Try.prog ctNi [] 400 (sysN 68 78 [(0,.ptr 100000 0),(1,.int .i64 0)] (noM 2 [n0,n1] now c pd sd mb zd wd ed ms h)) =
 Tree.need ((0 : Int) ≤ 0 ∧ 0 < (↑(D.len mb) : Int) ∧ D.sz mb = 8) (.need (D.HasCells mb 0 0 [FT.int .i64,FT.int .i64,FT.int .i64,FT.int .i64,FT.bool,FT.int .i64,FT.slc,FT.slc] ∧ D.sz mb = 8) (.need
 (MbD.Right (mbAt mb 0)) (.all fun hs=>.need ((0 : Int) ≤ 0 ∧ 0 < (↑2 : Int)) (.br (Prod.snd (issueMb (MbD.mb (mbAt mb 0))) != (↑(D.len n0) : Int)) (.leaf (Conf.mk (SFrm.mk 68 none none [Item.code (cA 68 [1,1,0,1,0,1]),Item.code
 (cA 68 [1,1,1])] (mkJ 0 [(4,.lb false)] 0 78)) [] [(1,OBlk.arr 28 mb),(3,OBlk.arr 50 ms),(4,OBlk.arr 3 n0),(5,OBlk.arr 3 n1),(100000,noC 1 3 2 now c pd sd zd wd ed h),(100001,OBlk.cells 22 [.vec 4,.vec 5])]))
 (.all fun hs_1=>.need (HiD.Right (hiOf zd wd ed h) ∧ D.len (likeEv ed (Hist.events h)) ≤ 1000000 ∧ WtD.Ok (wtOf (hs_1 0 0) 0 z1)) (.all fun hs_2=>.all fun hs_3=>.need ((0 : Int) ≤ 0 ∧ 0 < (↑(D.len mb) : Int) ∧ D.sz mb = 8)
 (.need (0 < D.len mb ∧ 8 ≤ D.sz mb ∧ D.sz mb = 8) (.all fun hs_4=>.need ((0 : Int) ≤ 0 ∧ 0 < (↑2 : Int)) (.need (D.sz n0 = 1 ∧ D.Fits (D.slc (D.hd (hs_4 13 0)) 1 [[D.int .i64 (Prod.fst (Prod.snd (issueH z2
 (WtD.wt (wtOf (hs_1 0 0) 0 z1)))))]]) 1 ∧ (D.len n0 + D.len (D.slc (D.hd (hs_4 13 0)) 1 [[D.int .i64 (Prod.fst (Prod.snd (issueH z2 (WtD.wt (wtOf (hs_1 0 0) 0 z1)))))]])) * 8 ≤ 140737488355328 ∧ D.len n0 + D.len
 (D.slc (D.hd (hs_4 13 0)) 1 [[D.int .i64 (Prod.fst (Prod.snd (issueH z2 (WtD.wt (wtOf (hs_1 0 0) 0 z1)))))]]) ≤ 9223372036854775807) (.need ((0 : Int) ≤ 0 ∧ 0 < (↑2 : Int)) (.leaf (Conf.mk (SFrm.mk 68 none none [Item.code
 (cA 68 [1,1,0,1,0,1])] (mkJ 0 [(4,.bool (decide (Prod.snd (Prod.snd (issueH z2 (WtD.wt (wtOf (hs_1 0 0) 0 z1)))) = 0)))] 0 78)) [] [(0,OBlk.arr 3 (D.slc (D.hd (hs_4 14 0)) 1 (List.append (D.rows n0)
 (D.rows (D.slc (D.hd (hs_4 13 0)) 1 [[D.int .i64 (Prod.fst (Prod.snd (issueH z2 (WtD.wt (wtOf (hs_1 0 0) 0 z1)))))]]))))),(1,OBlk.arr 28 (D.setCells mb 0 0 (mbRow (hs 0 0) (hs 0 1) (Prod.fst (issueMb
 (MbD.mb (mbAt mb 0))))))),(4,OBlk.arr 50 ms),(5,OBlk.arr 3 n1),(100000,OBlk.cells 75 [.int .i64 now,.int .i64 (Co.nodes c),.int .i64 (Co.round c),.int .i64 (Co.phase c),.int .i64 (Co.deadline c),.dat
 (D.like pd (Co.positions c)),.dat (D.like sd (Co.seen c)),.bool (Co.valid c),.vec 1,SV.sl 100001 2,.dat (D.like (hs_2 0 0) (Hist.sizes (Prod.fst (issueH z2 (WtD.wt (wtOf (hs_1 0 0) 0 z1)))))),.dat
 (D.like (hs_2 0 1) (Hist.writes (Prod.fst (issueH z2 (WtD.wt (wtOf (hs_1 0 0) 0 z1)))))),.dat (D.like (hs_2 0 2) (Hist.events (Prod.fst (issueH z2 (WtD.wt (wtOf (hs_1 0 0) 0 z1)))))),.vec 4]),(100001,OBlk.cells 22 [.vec 0,.vec 5])])))))))))))) := by
 intros; kernel_rfl
theorem ni21_in : 
 let z1 := (Prod.snd (issueMb (MbD.mb (mbAt mb 1))))
 let z2 := (HiD.hist (hiOf zd wd ed h))
 execRS Try.prog ctNi [] 400 (sysN 68 78 [(0,.ptr 100000 0),(1,.int .i64 1)] (noM 2 [n0,n1] now c pd sd mb zd wd ed ms h)) =
 Tree.need ((0 : Int) ≤ 1 ∧ 1 < (↑(D.len mb) : Int) ∧ D.sz mb = 8) (.need (D.HasCells mb 1 0 [FT.int .i64,FT.int .i64,FT.int .i64,FT.int .i64,FT.bool,FT.int .i64,FT.slc,FT.slc] ∧ D.sz mb = 8) (.need
 (MbD.Right (mbAt mb 1)) (.all fun hs=>.need ((0 : Int) ≤ 1 ∧ 1 < (↑2 : Int)) (.br (Prod.snd (issueMb (MbD.mb (mbAt mb 1))) != (↑(D.len n1) : Int)) (.leaf (Conf.mk (SFrm.mk 68 none none [Item.code (cA 68 [1,1,0,1,0,1]),Item.code
 (cA 68 [1,1,1])] (mkJ 0 [(4,.lb false)] 0 78)) [] [(1,OBlk.arr 28 mb),(3,OBlk.arr 50 ms),(4,OBlk.arr 3 n0),(5,OBlk.arr 3 n1),(100000,noC 1 3 2 now c pd sd zd wd ed h),(100001,OBlk.cells 22 [.vec 4,.vec 5])]))
 (.all fun hs_1=>.need (HiD.Right (hiOf zd wd ed h) ∧ D.len (likeEv ed (Hist.events h)) ≤ 1000000 ∧ WtD.Ok (wtOf (hs_1 0 0) 1 z1)) (.all fun hs_2=>.all fun hs_3=>.need ((0 : Int) ≤ 1 ∧ 1 < (↑(D.len mb) : Int) ∧ D.sz mb = 8)
 (.need (1 < D.len mb ∧ 8 ≤ D.sz mb ∧ D.sz mb = 8) (.all fun hs_4=>.need ((0 : Int) ≤ 1 ∧ 1 < (↑2 : Int)) (.need (D.sz n1 = 1 ∧ D.Fits (D.slc (D.hd (hs_4 13 0)) 1 [[D.int .i64 (Prod.fst (Prod.snd (issueH z2
 (WtD.wt (wtOf (hs_1 0 0) 1 z1)))))]]) 1 ∧ (D.len n1 + D.len (D.slc (D.hd (hs_4 13 0)) 1 [[D.int .i64 (Prod.fst (Prod.snd (issueH z2 (WtD.wt (wtOf (hs_1 0 0) 1 z1)))))]])) * 8 ≤ 140737488355328 ∧ D.len n1 + D.len
 (D.slc (D.hd (hs_4 13 0)) 1 [[D.int .i64 (Prod.fst (Prod.snd (issueH z2 (WtD.wt (wtOf (hs_1 0 0) 1 z1)))))]]) ≤ 9223372036854775807) (.need ((0 : Int) ≤ 1 ∧ 1 < (↑2 : Int)) (.leaf (Conf.mk (SFrm.mk 68 none none [Item.code
 (cA 68 [1,1,0,1,0,1])] (mkJ 0 [(4,.bool (decide (Prod.snd (Prod.snd (issueH z2 (WtD.wt (wtOf (hs_1 0 0) 1 z1)))) = 0)))] 0 78)) [] [(0,OBlk.arr 3 (D.slc (D.hd (hs_4 14 0)) 1 (List.append (D.rows n1)
 (D.rows (D.slc (D.hd (hs_4 13 0)) 1 [[D.int .i64 (Prod.fst (Prod.snd (issueH z2 (WtD.wt (wtOf (hs_1 0 0) 1 z1)))))]]))))),(1,OBlk.arr 28 (D.setCells mb 1 0 (mbRow (hs 0 0) (hs 0 1) (Prod.fst (issueMb
 (MbD.mb (mbAt mb 1))))))),(4,OBlk.arr 50 ms),(5,OBlk.arr 3 n0),(100000,OBlk.cells 75 [.int .i64 now,.int .i64 (Co.nodes c),.int .i64 (Co.round c),.int .i64 (Co.phase c),.int .i64 (Co.deadline c),.dat
 (D.like pd (Co.positions c)),.dat (D.like sd (Co.seen c)),.bool (Co.valid c),.vec 1,SV.sl 100001 2,.dat (D.like (hs_2 0 0) (Hist.sizes (Prod.fst (issueH z2 (WtD.wt (wtOf (hs_1 0 0) 1 z1)))))),.dat
 (D.like (hs_2 0 1) (Hist.writes (Prod.fst (issueH z2 (WtD.wt (wtOf (hs_1 0 0) 1 z1)))))),.dat (D.like (hs_2 0 2) (Hist.events (Prod.fst (issueH z2 (WtD.wt (wtOf (hs_1 0 0) 1 z1)))))),.vec 4]),(100001,OBlk.cells 22 [.vec 5,.vec 0])])))))))))))) := by
 intros; kernel_rfl
theorem ni30_in : 
 let z1 := (Prod.snd (issueMb (MbD.mb (mbAt mb 0))))
 let z2 := (HiD.hist (hiOf zd wd ed h))
 execRS Try.prog ctNi [] 400 (sysN 68 78 [(0,.ptr 100000 0),(1,.int .i64 0)] (noM 3 [n0,n1,n2] now c pd sd mb zd wd ed ms h)) =
 Tree.need ((0 : Int) ≤ 0 ∧ 0 < (↑(D.len mb) : Int) ∧ D.sz mb = 8) (.need (D.HasCells mb 0 0 [FT.int .i64,FT.int .i64,FT.int .i64,FT.int .i64,FT.bool,FT.int .i64,FT.slc,FT.slc] ∧ D.sz mb = 8) (.need
 (MbD.Right (mbAt mb 0)) (.all fun hs=>.need ((0 : Int) ≤ 0 ∧ 0 < (↑3 : Int)) (.br (Prod.snd (issueMb (MbD.mb (mbAt mb 0))) != (↑(D.len n0) : Int)) (.leaf (Conf.mk (SFrm.mk 68 none none [Item.code (cA 68 [1,1,0,1,0,1]),Item.code
 (cA 68 [1,1,1])] (mkJ 0 [(4,.lb false)] 0 78)) [] [(1,OBlk.arr 28 mb),(3,OBlk.arr 50 ms),(4,OBlk.arr 3 n0),(5,OBlk.arr 3 n1),(6,OBlk.arr 3 n2),(100000,noC 1 3 3 now c pd sd zd wd ed h),(100001,OBlk.cells 22 [.vec 4,.vec 5,.vec 6])]))
 (.all fun hs_1=>.need (HiD.Right (hiOf zd wd ed h) ∧ D.len (likeEv ed (Hist.events h)) ≤ 1000000 ∧ WtD.Ok (wtOf (hs_1 0 0) 0 z1)) (.all fun hs_2=>.all fun hs_3=>.need ((0 : Int) ≤ 0 ∧ 0 < (↑(D.len mb) : Int) ∧ D.sz mb = 8)
 (.need (0 < D.len mb ∧ 8 ≤ D.sz mb ∧ D.sz mb = 8) (.all fun hs_4=>.need ((0 : Int) ≤ 0 ∧ 0 < (↑3 : Int)) (.need (D.sz n0 = 1 ∧ D.Fits (D.slc (D.hd (hs_4 13 0)) 1 [[D.int .i64 (Prod.fst (Prod.snd (issueH z2
 (WtD.wt (wtOf (hs_1 0 0) 0 z1)))))]]) 1 ∧ (D.len n0 + D.len (D.slc (D.hd (hs_4 13 0)) 1 [[D.int .i64 (Prod.fst (Prod.snd (issueH z2 (WtD.wt (wtOf (hs_1 0 0) 0 z1)))))]])) * 8 ≤ 140737488355328 ∧ D.len n0 + D.len
 (D.slc (D.hd (hs_4 13 0)) 1 [[D.int .i64 (Prod.fst (Prod.snd (issueH z2 (WtD.wt (wtOf (hs_1 0 0) 0 z1)))))]]) ≤ 9223372036854775807) (.need ((0 : Int) ≤ 0 ∧ 0 < (↑3 : Int)) (.leaf (Conf.mk (SFrm.mk 68 none none [Item.code
 (cA 68 [1,1,0,1,0,1])] (mkJ 0 [(4,.bool (decide (Prod.snd (Prod.snd (issueH z2 (WtD.wt (wtOf (hs_1 0 0) 0 z1)))) = 0)))] 0 78)) [] [(0,OBlk.arr 3 (D.slc (D.hd (hs_4 14 0)) 1 (List.append (D.rows n0)
 (D.rows (D.slc (D.hd (hs_4 13 0)) 1 [[D.int .i64 (Prod.fst (Prod.snd (issueH z2 (WtD.wt (wtOf (hs_1 0 0) 0 z1)))))]]))))),(1,OBlk.arr 28 (D.setCells mb 0 0 (mbRow (hs 0 0) (hs 0 1) (Prod.fst (issueMb
 (MbD.mb (mbAt mb 0))))))),(4,OBlk.arr 50 ms),(5,OBlk.arr 3 n1),(6,OBlk.arr 3 n2),(100000,OBlk.cells 75 [.int .i64 now,.int .i64 (Co.nodes c),.int .i64 (Co.round c),.int .i64 (Co.phase c),.int .i64
 (Co.deadline c),.dat (D.like pd (Co.positions c)),.dat (D.like sd (Co.seen c)),.bool (Co.valid c),.vec 1,SV.sl 100001 3,.dat (D.like (hs_2 0 0) (Hist.sizes (Prod.fst (issueH z2 (WtD.wt (wtOf (hs_1 0 0) 0 z1)))))),.dat
 (D.like (hs_2 0 1) (Hist.writes (Prod.fst (issueH z2 (WtD.wt (wtOf (hs_1 0 0) 0 z1)))))),.dat (D.like (hs_2 0 2) (Hist.events (Prod.fst (issueH z2 (WtD.wt (wtOf (hs_1 0 0) 0 z1)))))),.vec 4]),(100001,OBlk.cells 22 [.vec 0,.vec 5,.vec 6])])))))))))))) := by
 intros; kernel_rfl
theorem ni31_in : 
 let z1 := (Prod.snd (issueMb (MbD.mb (mbAt mb 1))))
 let z2 := (HiD.hist (hiOf zd wd ed h))
 execRS Try.prog ctNi [] 400 (sysN 68 78 [(0,.ptr 100000 0),(1,.int .i64 1)] (noM 3 [n0,n1,n2] now c pd sd mb zd wd ed ms h)) =
 Tree.need ((0 : Int) ≤ 1 ∧ 1 < (↑(D.len mb) : Int) ∧ D.sz mb = 8) (.need (D.HasCells mb 1 0 [FT.int .i64,FT.int .i64,FT.int .i64,FT.int .i64,FT.bool,FT.int .i64,FT.slc,FT.slc] ∧ D.sz mb = 8) (.need
 (MbD.Right (mbAt mb 1)) (.all fun hs=>.need ((0 : Int) ≤ 1 ∧ 1 < (↑3 : Int)) (.br (Prod.snd (issueMb (MbD.mb (mbAt mb 1))) != (↑(D.len n1) : Int)) (.leaf (Conf.mk (SFrm.mk 68 none none [Item.code (cA 68 [1,1,0,1,0,1]),Item.code
 (cA 68 [1,1,1])] (mkJ 0 [(4,.lb false)] 0 78)) [] [(1,OBlk.arr 28 mb),(3,OBlk.arr 50 ms),(4,OBlk.arr 3 n0),(5,OBlk.arr 3 n1),(6,OBlk.arr 3 n2),(100000,noC 1 3 3 now c pd sd zd wd ed h),(100001,OBlk.cells 22 [.vec 4,.vec 5,.vec 6])]))
 (.all fun hs_1=>.need (HiD.Right (hiOf zd wd ed h) ∧ D.len (likeEv ed (Hist.events h)) ≤ 1000000 ∧ WtD.Ok (wtOf (hs_1 0 0) 1 z1)) (.all fun hs_2=>.all fun hs_3=>.need ((0 : Int) ≤ 1 ∧ 1 < (↑(D.len mb) : Int) ∧ D.sz mb = 8)
 (.need (1 < D.len mb ∧ 8 ≤ D.sz mb ∧ D.sz mb = 8) (.all fun hs_4=>.need ((0 : Int) ≤ 1 ∧ 1 < (↑3 : Int)) (.need (D.sz n1 = 1 ∧ D.Fits (D.slc (D.hd (hs_4 13 0)) 1 [[D.int .i64 (Prod.fst (Prod.snd (issueH z2
 (WtD.wt (wtOf (hs_1 0 0) 1 z1)))))]]) 1 ∧ (D.len n1 + D.len (D.slc (D.hd (hs_4 13 0)) 1 [[D.int .i64 (Prod.fst (Prod.snd (issueH z2 (WtD.wt (wtOf (hs_1 0 0) 1 z1)))))]])) * 8 ≤ 140737488355328 ∧ D.len n1 + D.len
 (D.slc (D.hd (hs_4 13 0)) 1 [[D.int .i64 (Prod.fst (Prod.snd (issueH z2 (WtD.wt (wtOf (hs_1 0 0) 1 z1)))))]]) ≤ 9223372036854775807) (.need ((0 : Int) ≤ 1 ∧ 1 < (↑3 : Int)) (.leaf (Conf.mk (SFrm.mk 68 none none [Item.code
 (cA 68 [1,1,0,1,0,1])] (mkJ 0 [(4,.bool (decide (Prod.snd (Prod.snd (issueH z2 (WtD.wt (wtOf (hs_1 0 0) 1 z1)))) = 0)))] 0 78)) [] [(0,OBlk.arr 3 (D.slc (D.hd (hs_4 14 0)) 1 (List.append (D.rows n1)
 (D.rows (D.slc (D.hd (hs_4 13 0)) 1 [[D.int .i64 (Prod.fst (Prod.snd (issueH z2 (WtD.wt (wtOf (hs_1 0 0) 1 z1)))))]]))))),(1,OBlk.arr 28 (D.setCells mb 1 0 (mbRow (hs 0 0) (hs 0 1) (Prod.fst (issueMb
 (MbD.mb (mbAt mb 1))))))),(4,OBlk.arr 50 ms),(5,OBlk.arr 3 n0),(6,OBlk.arr 3 n2),(100000,OBlk.cells 75 [.int .i64 now,.int .i64 (Co.nodes c),.int .i64 (Co.round c),.int .i64 (Co.phase c),.int .i64
 (Co.deadline c),.dat (D.like pd (Co.positions c)),.dat (D.like sd (Co.seen c)),.bool (Co.valid c),.vec 1,SV.sl 100001 3,.dat (D.like (hs_2 0 0) (Hist.sizes (Prod.fst (issueH z2 (WtD.wt (wtOf (hs_1 0 0) 1 z1)))))),.dat
 (D.like (hs_2 0 1) (Hist.writes (Prod.fst (issueH z2 (WtD.wt (wtOf (hs_1 0 0) 1 z1)))))),.dat (D.like (hs_2 0 2) (Hist.events (Prod.fst (issueH z2 (WtD.wt (wtOf (hs_1 0 0) 1 z1)))))),.vec 4]),(100001,OBlk.cells 22 [.vec 5,.vec 0,.vec 6])])))))))))))) := by
 intros; kernel_rfl
theorem ni32_in : 
 let z1 := (Prod.snd (issueMb (MbD.mb (mbAt mb 2))))
 let z2 := (HiD.hist (hiOf zd wd ed h))
 execRS Try.prog ctNi [] 400 (sysN 68 78 [(0,.ptr 100000 0),(1,.int .i64 2)] (noM 3 [n0,n1,n2] now c pd sd mb zd wd ed ms h)) =
 Tree.need ((0 : Int) ≤ 2 ∧ 2 < (↑(D.len mb) : Int) ∧ D.sz mb = 8) (.need (D.HasCells mb 2 0 [FT.int .i64,FT.int .i64,FT.int .i64,FT.int .i64,FT.bool,FT.int .i64,FT.slc,FT.slc] ∧ D.sz mb = 8) (.need
 (MbD.Right (mbAt mb 2)) (.all fun hs=>.need ((0 : Int) ≤ 2 ∧ 2 < (↑3 : Int)) (.br (Prod.snd (issueMb (MbD.mb (mbAt mb 2))) != (↑(D.len n2) : Int)) (.leaf (Conf.mk (SFrm.mk 68 none none [Item.code (cA 68 [1,1,0,1,0,1]),Item.code
 (cA 68 [1,1,1])] (mkJ 0 [(4,.lb false)] 0 78)) [] [(1,OBlk.arr 28 mb),(3,OBlk.arr 50 ms),(4,OBlk.arr 3 n0),(5,OBlk.arr 3 n1),(6,OBlk.arr 3 n2),(100000,noC 1 3 3 now c pd sd zd wd ed h),(100001,OBlk.cells 22 [.vec 4,.vec 5,.vec 6])]))
 (.all fun hs_1=>.need (HiD.Right (hiOf zd wd ed h) ∧ D.len (likeEv ed (Hist.events h)) ≤ 1000000 ∧ WtD.Ok (wtOf (hs_1 0 0) 2 z1)) (.all fun hs_2=>.all fun hs_3=>.need ((0 : Int) ≤ 2 ∧ 2 < (↑(D.len mb) : Int) ∧ D.sz mb = 8)
 (.need (2 < D.len mb ∧ 8 ≤ D.sz mb ∧ D.sz mb = 8) (.all fun hs_4=>.need ((0 : Int) ≤ 2 ∧ 2 < (↑3 : Int)) (.need (D.sz n2 = 1 ∧ D.Fits (D.slc (D.hd (hs_4 13 0)) 1 [[D.int .i64 (Prod.fst (Prod.snd (issueH z2
 (WtD.wt (wtOf (hs_1 0 0) 2 z1)))))]]) 1 ∧ (D.len n2 + D.len (D.slc (D.hd (hs_4 13 0)) 1 [[D.int .i64 (Prod.fst (Prod.snd (issueH z2 (WtD.wt (wtOf (hs_1 0 0) 2 z1)))))]])) * 8 ≤ 140737488355328 ∧ D.len n2 + D.len
 (D.slc (D.hd (hs_4 13 0)) 1 [[D.int .i64 (Prod.fst (Prod.snd (issueH z2 (WtD.wt (wtOf (hs_1 0 0) 2 z1)))))]]) ≤ 9223372036854775807) (.need ((0 : Int) ≤ 2 ∧ 2 < (↑3 : Int)) (.leaf (Conf.mk (SFrm.mk 68 none none [Item.code
 (cA 68 [1,1,0,1,0,1])] (mkJ 0 [(4,.bool (decide (Prod.snd (Prod.snd (issueH z2 (WtD.wt (wtOf (hs_1 0 0) 2 z1)))) = 0)))] 0 78)) [] [(0,OBlk.arr 3 (D.slc (D.hd (hs_4 14 0)) 1 (List.append (D.rows n2)
 (D.rows (D.slc (D.hd (hs_4 13 0)) 1 [[D.int .i64 (Prod.fst (Prod.snd (issueH z2 (WtD.wt (wtOf (hs_1 0 0) 2 z1)))))]]))))),(1,OBlk.arr 28 (D.setCells mb 2 0 (mbRow (hs 0 0) (hs 0 1) (Prod.fst (issueMb
 (MbD.mb (mbAt mb 2))))))),(4,OBlk.arr 50 ms),(5,OBlk.arr 3 n0),(6,OBlk.arr 3 n1),(100000,OBlk.cells 75 [.int .i64 now,.int .i64 (Co.nodes c),.int .i64 (Co.round c),.int .i64 (Co.phase c),.int .i64
 (Co.deadline c),.dat (D.like pd (Co.positions c)),.dat (D.like sd (Co.seen c)),.bool (Co.valid c),.vec 1,SV.sl 100001 3,.dat (D.like (hs_2 0 0) (Hist.sizes (Prod.fst (issueH z2 (WtD.wt (wtOf (hs_1 0 0) 2 z1)))))),.dat
 (D.like (hs_2 0 1) (Hist.writes (Prod.fst (issueH z2 (WtD.wt (wtOf (hs_1 0 0) 2 z1)))))),.dat (D.like (hs_2 0 2) (Hist.events (Prod.fst (issueH z2 (WtD.wt (wtOf (hs_1 0 0) 2 z1)))))),.vec 4]),(100001,OBlk.cells 22 [.vec 5,.vec 6,.vec 0])])))))))))))) := by
 intros; kernel_rfl
end
section
variable (now i j : Int) (c : Co) (pd sd mb zd wd ed ms l n0 n1 n2 : D) (h : Hist)
theorem nk10_go : 
 let z2 := (ackH (HiD.hist (hiOf zd wd ed h)) (D.getInt n0 (Int.toNat (D.getInt l (Int.toNat j) 0)) 0))
 let z3 := (cA 70 [1,0,1,0,0,1,1,0,0,1,0,1,0,1])
 let z1 : Tree := (.leaf (Conf.mk (SFrm.mk 70 none none [Item.code z3,Item.code (cA 70 [1,0,1,0,0,1,1,0,0,1,1]),Item.inBlock 1,Item.code (cA 70 [1,0,1,0,0,1,1,1]),Item.inLoop (cA 70 [1,0,1,0,0]),Item.inBlock 0,Item.code (cA 70 [1,1])] (mkJ 0 [(6,.lb false)] 0 56)) [] [(0,OBlk.arr 28 mb),(1,OBlk.arr 50 ms),(2,OBlk.arr 3 n0),(100000,noC 0 1 1 now c pd sd zd wd ed h),(100001,OBlk.cells 22 [.vec 2])]))
 execRS Try.prog ctAk [] 400 (unroll (nkL 0 l j (noV 1 [n0] now c pd sd mb zd wd ed ms h))) =
 Tree.br (decide (j < (↑(D.len l) : Int))) (.need (0 ≤ j ∧ j < (↑(D.len l) : Int) ∧ D.sz l = 1) (.need (D.HasCell l (Int.toNat j) 0 (FT.int .i64)) (.br (decide (D.getInt l (Int.toNat j) 0 < 0)) z1 (.need
 (0 ≤ (↑0 : Int) ∧ (↑0 : Int) < (↑1 : Int)) (.br (decide (D.getInt l (Int.toNat j) 0 ≥ (↑(D.len n0) : Int))) z1 (.all fun hs=>.need (0 ≤ (↑0 : Int) ∧ (↑0 : Int) < (↑1 : Int)) (.need (0 ≤ D.getInt l (Int.toNat j) 0 ∧ D.getInt l
 (Int.toNat j) 0 < (↑(D.len n0) : Int) ∧ D.sz n0 = 1) (.need (D.HasCell n0 (Int.toNat (D.getInt l (Int.toNat j) 0)) 0 (FT.int .i64) ∧ D.sz n0 = 1) (.need (HiD.Right (hiOf zd wd ed h) ∧ D.len (likeEv ed
 (Hist.events h)) ≤ 1000000) (.br (Prod.snd z2 != 0) (.leaf (Conf.mk (SFrm.mk 70 none none [Item.code z3,Item.code (cA 70 [1,0,1,0,0,1,1,0,0,1,1,1,1]),Item.inBlock 1,Item.code (cA 70 [1,0,1,0,0,1,1,1]),Item.inLoop
 (cA 70 [1,0,1,0,0]),Item.inBlock 0,Item.code (cA 70 [1,1])] (mkJ 0 [(6,.lb false)] 0 56)) [] [(0,OBlk.arr 28 mb),(1,OBlk.arr 50 ms),(2,OBlk.arr 3 n0),(100000,noC 0 1 1 now c pd sd zd wd ed h),
 (100001,OBlk.cells 22 [.vec 2])])) (.leaf (Conf.mk (SFrm.mk 70 none none [Item.inLoop (cA 70 [1,0,1,0,0]),Item.inBlock 0,Item.code (cA 70 [1,1])] (mkJ 0 [(0,.ptr 100000 0),(1,.int .i64 (↑0 : Int)),
 (11,.dat l),(12,.int .i64 (↑(D.len l) : Int)),(13,.int .i64 (IntKind.wrap .i64 (j + 1)))] 0 56)) [] [(1,OBlk.arr 28 mb),(3,OBlk.arr 50 ms),(4,OBlk.arr 3 n0),(100000,OBlk.cells 75 [.int .i64 now,.int .i64
 (Co.nodes c),.int .i64 (Co.round c),.int .i64 (Co.phase c),.int .i64 (Co.deadline c),.dat (D.like pd (Co.positions c)),.dat (D.like sd (Co.seen c)),.bool (Co.valid c),.vec 1,SV.sl 100001 1,.dat
 (D.like (hs 14 0) (Hist.sizes (Prod.fst z2))),.dat (D.like (hs 14 1) (Hist.writes (Prod.fst z2))),.dat (D.like (hs 14 2) (Hist.events (Prod.fst z2))),.vec 3]),(100001,OBlk.cells 22 [.vec 4])]))))))))))))
 (.leaf (Conf.mk (SFrm.mk 70 none none [Item.code z3] (mkJ 0 [(6,.lb true)] 0 56)) [] [(0,OBlk.arr 28 mb),(1,OBlk.arr 50 ms),(2,OBlk.arr 3 n0),(100000,noC 0 1 1 now c pd sd zd wd ed h),(100001,OBlk.cells 22 [.vec 2])])) := by
 intros; kernel_rfl
theorem nk20_go : 
 let z2 := (ackH (HiD.hist (hiOf zd wd ed h)) (D.getInt n0 (Int.toNat (D.getInt l (Int.toNat j) 0)) 0))
 let z3 := (cA 70 [1,0,1,0,0,1,1,0,0,1,0,1,0,1])
 let z1 : Tree := (.leaf (Conf.mk (SFrm.mk 70 none none [Item.code z3,Item.code (cA 70 [1,0,1,0,0,1,1,0,0,1,1]),Item.inBlock 1,Item.code (cA 70 [1,0,1,0,0,1,1,1]),Item.inLoop (cA 70 [1,0,1,0,0]),Item.inBlock 0,Item.code (cA 70 [1,1])] (mkJ 0 [(6,.lb false)] 0 56)) [] [(0,OBlk.arr 28 mb),(1,OBlk.arr 50 ms),(2,OBlk.arr 3 n0),(3,OBlk.arr 3 n1),(100000,noC 0 1 2 now c pd sd zd wd ed h),(100001,OBlk.cells 22 [.vec 2,.vec 3])]))
 execRS Try.prog ctAk [] 400 (unroll (nkL 0 l j (noV 2 [n0,n1] now c pd sd mb zd wd ed ms h))) =
 Tree.br (decide (j < (↑(D.len l) : Int))) (.need (0 ≤ j ∧ j < (↑(D.len l) : Int) ∧ D.sz l = 1) (.need (D.HasCell l (Int.toNat j) 0 (FT.int .i64)) (.br (decide (D.getInt l (Int.toNat j) 0 < 0)) z1 (.need
 (0 ≤ (↑0 : Int) ∧ (↑0 : Int) < (↑2 : Int)) (.br (decide (D.getInt l (Int.toNat j) 0 ≥ (↑(D.len n0) : Int))) z1 (.all fun hs=>.need (0 ≤ (↑0 : Int) ∧ (↑0 : Int) < (↑2 : Int)) (.need (0 ≤ D.getInt l (Int.toNat j) 0 ∧ D.getInt l
 (Int.toNat j) 0 < (↑(D.len n0) : Int) ∧ D.sz n0 = 1) (.need (D.HasCell n0 (Int.toNat (D.getInt l (Int.toNat j) 0)) 0 (FT.int .i64) ∧ D.sz n0 = 1) (.need (HiD.Right (hiOf zd wd ed h) ∧ D.len (likeEv ed
 (Hist.events h)) ≤ 1000000) (.br (Prod.snd z2 != 0) (.leaf (Conf.mk (SFrm.mk 70 none none [Item.code z3,Item.code (cA 70 [1,0,1,0,0,1,1,0,0,1,1,1,1]),Item.inBlock 1,Item.code (cA 70 [1,0,1,0,0,1,1,1]),Item.inLoop
 (cA 70 [1,0,1,0,0]),Item.inBlock 0,Item.code (cA 70 [1,1])] (mkJ 0 [(6,.lb false)] 0 56)) [] [(0,OBlk.arr 28 mb),(1,OBlk.arr 50 ms),(2,OBlk.arr 3 n0),(3,OBlk.arr 3 n1),(100000,noC 0 1 2 now c pd sd zd wd ed h),
 (100001,OBlk.cells 22 [.vec 2,.vec 3])])) (.leaf (Conf.mk (SFrm.mk 70 none none [Item.inLoop (cA 70 [1,0,1,0,0]),Item.inBlock 0,Item.code (cA 70 [1,1])] (mkJ 0 [(0,.ptr 100000 0),(1,.int .i64
 (↑0 : Int)),(11,.dat l),(12,.int .i64 (↑(D.len l) : Int)),(13,.int .i64 (IntKind.wrap .i64 (j + 1)))] 0 56)) [] [(1,OBlk.arr 28 mb),(3,OBlk.arr 50 ms),(4,OBlk.arr 3 n0),(5,OBlk.arr 3 n1),
 (100000,OBlk.cells 75 [.int .i64 now,.int .i64 (Co.nodes c),.int .i64 (Co.round c),.int .i64 (Co.phase c),.int .i64 (Co.deadline c),.dat (D.like pd (Co.positions c)),.dat (D.like sd (Co.seen c)),.bool
 (Co.valid c),.vec 1,SV.sl 100001 2,.dat (D.like (hs 14 0) (Hist.sizes (Prod.fst z2))),.dat (D.like (hs 14 1) (Hist.writes (Prod.fst z2))),.dat (D.like (hs 14 2) (Hist.events (Prod.fst z2))),.vec 3]),
 (100001,OBlk.cells 22 [.vec 4,.vec 5])])))))))))))) (.leaf (Conf.mk (SFrm.mk 70 none none [Item.code z3] (mkJ 0 [(6,.lb true)] 0 56)) [] [(0,OBlk.arr 28 mb),(1,OBlk.arr 50 ms),(2,OBlk.arr 3 n0),
 (3,OBlk.arr 3 n1),(100000,noC 0 1 2 now c pd sd zd wd ed h),(100001,OBlk.cells 22 [.vec 2,.vec 3])])) := by
 intros; kernel_rfl
theorem nk21_go : 
 let z2 := (ackH (HiD.hist (hiOf zd wd ed h)) (D.getInt n1 (Int.toNat (D.getInt l (Int.toNat j) 0)) 0))
 let z3 := (cA 70 [1,0,1,0,0,1,1,0,0,1,0,1,0,1])
 let z1 : Tree := (.leaf (Conf.mk (SFrm.mk 70 none none [Item.code z3,Item.code (cA 70 [1,0,1,0,0,1,1,0,0,1,1]),Item.inBlock 1,Item.code (cA 70 [1,0,1,0,0,1,1,1]),Item.inLoop (cA 70 [1,0,1,0,0]),Item.inBlock 0,Item.code (cA 70 [1,1])] (mkJ 0 [(6,.lb false)] 0 56)) [] [(0,OBlk.arr 28 mb),(1,OBlk.arr 50 ms),(2,OBlk.arr 3 n0),(3,OBlk.arr 3 n1),(100000,noC 0 1 2 now c pd sd zd wd ed h),(100001,OBlk.cells 22 [.vec 2,.vec 3])]))
 execRS Try.prog ctAk [] 400 (unroll (nkL 1 l j (noV 2 [n0,n1] now c pd sd mb zd wd ed ms h))) =
 Tree.br (decide (j < (↑(D.len l) : Int))) (.need (0 ≤ j ∧ j < (↑(D.len l) : Int) ∧ D.sz l = 1) (.need (D.HasCell l (Int.toNat j) 0 (FT.int .i64)) (.br (decide (D.getInt l (Int.toNat j) 0 < 0)) z1 (.need
 (0 ≤ (↑1 : Int) ∧ (↑1 : Int) < (↑2 : Int)) (.br (decide (D.getInt l (Int.toNat j) 0 ≥ (↑(D.len n1) : Int))) z1 (.all fun hs=>.need (0 ≤ (↑1 : Int) ∧ (↑1 : Int) < (↑2 : Int)) (.need (0 ≤ D.getInt l (Int.toNat j) 0 ∧ D.getInt l
 (Int.toNat j) 0 < (↑(D.len n1) : Int) ∧ D.sz n1 = 1) (.need (D.HasCell n1 (Int.toNat (D.getInt l (Int.toNat j) 0)) 0 (FT.int .i64) ∧ D.sz n1 = 1) (.need (HiD.Right (hiOf zd wd ed h) ∧ D.len (likeEv ed
 (Hist.events h)) ≤ 1000000) (.br (Prod.snd z2 != 0) (.leaf (Conf.mk (SFrm.mk 70 none none [Item.code z3,Item.code (cA 70 [1,0,1,0,0,1,1,0,0,1,1,1,1]),Item.inBlock 1,Item.code (cA 70 [1,0,1,0,0,1,1,1]),Item.inLoop
 (cA 70 [1,0,1,0,0]),Item.inBlock 0,Item.code (cA 70 [1,1])] (mkJ 0 [(6,.lb false)] 0 56)) [] [(0,OBlk.arr 28 mb),(1,OBlk.arr 50 ms),(2,OBlk.arr 3 n0),(3,OBlk.arr 3 n1),(100000,noC 0 1 2 now c pd sd zd wd ed h),
 (100001,OBlk.cells 22 [.vec 2,.vec 3])])) (.leaf (Conf.mk (SFrm.mk 70 none none [Item.inLoop (cA 70 [1,0,1,0,0]),Item.inBlock 0,Item.code (cA 70 [1,1])] (mkJ 0 [(0,.ptr 100000 0),(1,.int .i64
 (↑1 : Int)),(11,.dat l),(12,.int .i64 (↑(D.len l) : Int)),(13,.int .i64 (IntKind.wrap .i64 (j + 1)))] 0 56)) [] [(1,OBlk.arr 28 mb),(3,OBlk.arr 50 ms),(4,OBlk.arr 3 n0),(5,OBlk.arr 3 n1),
 (100000,OBlk.cells 75 [.int .i64 now,.int .i64 (Co.nodes c),.int .i64 (Co.round c),.int .i64 (Co.phase c),.int .i64 (Co.deadline c),.dat (D.like pd (Co.positions c)),.dat (D.like sd (Co.seen c)),.bool
 (Co.valid c),.vec 1,SV.sl 100001 2,.dat (D.like (hs 14 0) (Hist.sizes (Prod.fst z2))),.dat (D.like (hs 14 1) (Hist.writes (Prod.fst z2))),.dat (D.like (hs 14 2) (Hist.events (Prod.fst z2))),.vec 3]),
 (100001,OBlk.cells 22 [.vec 4,.vec 5])])))))))))))) (.leaf (Conf.mk (SFrm.mk 70 none none [Item.code z3] (mkJ 0 [(6,.lb true)] 0 56)) [] [(0,OBlk.arr 28 mb),(1,OBlk.arr 50 ms),(2,OBlk.arr 3 n0),
 (3,OBlk.arr 3 n1),(100000,noC 0 1 2 now c pd sd zd wd ed h),(100001,OBlk.cells 22 [.vec 2,.vec 3])])) := by
 intros; kernel_rfl
theorem nk30_go : 
 let z1 : Tree := (.leaf (Conf.mk (SFrm.mk 70 none none [Item.code (cA 70 [1,0,1,0,0,1,1,0,0,1,0,1,0,1]),Item.code (cA 70 [1,0,1,0,0,1,1,0,0,1,1]),Item.inBlock 1,Item.code (cA 70 [1,0,1,0,0,1,1,1]),Item.inLoop (cA 70 [1,0,1,0,0]),Item.inBlock 0,Item.code (cA 70 [1,1])] (mkJ 0 [(6,.lb false)] 0 56)) [] [(0,OBlk.arr 28 mb),(1,OBlk.arr 50 ms),(2,OBlk.arr 3 n0),(3,OBlk.arr 3 n1),(4,OBlk.arr 3 n2),(100000,noC 0 1 3 now c pd sd zd wd ed h),(100001,OBlk.cells 22 [.vec 2,.vec 3,.vec 4])]))
 let z2 := (ackH (HiD.hist (hiOf zd wd ed h)) (D.getInt n0 (Int.toNat (D.getInt l (Int.toNat j) 0)) 0))
 execRS Try.prog ctAk [] 400 (unroll (nkL 0 l j (noV 3 [n0,n1,n2] now c pd sd mb zd wd ed ms h))) =
 Tree.br (decide (j < (↑(D.len l) : Int))) (.need (0 ≤ j ∧ j < (↑(D.len l) : Int) ∧ D.sz l = 1) (.need (D.HasCell l (Int.toNat j) 0 (FT.int .i64)) (.br (decide (D.getInt l (Int.toNat j) 0 < 0)) z1 (.need
 (0 ≤ (↑0 : Int) ∧ (↑0 : Int) < (↑3 : Int)) (.br (decide (D.getInt l (Int.toNat j) 0 ≥ (↑(D.len n0) : Int))) z1 (.all fun hs=>.need (0 ≤ (↑0 : Int) ∧ (↑0 : Int) < (↑3 : Int)) (.need (0 ≤ D.getInt l (Int.toNat j) 0 ∧ D.getInt l
 (Int.toNat j) 0 < (↑(D.len n0) : Int) ∧ D.sz n0 = 1) (.need (D.HasCell n0 (Int.toNat (D.getInt l (Int.toNat j) 0)) 0 (FT.int .i64) ∧ D.sz n0 = 1) (.need (HiD.Right (hiOf zd wd ed h) ∧ D.len (likeEv ed
 (Hist.events h)) ≤ 1000000) (.br (Prod.snd z2 != 0) (.leaf (Conf.mk (SFrm.mk 70 none none [Item.code (cAt Try.prog 70 [1,0,1,0,0,1,1,0,0,1,0,1,0,1]),Item.code (cA 70 [1,0,1,0,0,1,1,0,0,1,1,1,1]),Item.inBlock 1,Item.code
 (cA 70 [1,0,1,0,0,1,1,1]),Item.inLoop (cA 70 [1,0,1,0,0]),Item.inBlock 0,Item.code (cA 70 [1,1])] (mkJ 0 [(6,.lb false)] 0 56)) [] [(0,OBlk.arr 28 mb),(1,OBlk.arr 50 ms),(2,OBlk.arr 3 n0),
 (3,OBlk.arr 3 n1),(4,OBlk.arr 3 n2),(100000,noC 0 1 3 now c pd sd zd wd ed h),(100001,OBlk.cells 22 [.vec 2,.vec 3,.vec 4])])) (.leaf (Conf.mk (SFrm.mk 70 none none [Item.inLoop (cA 70 [1,0,1,0,0]),Item.inBlock 0,Item.code
 (cA 70 [1,1])] (mkJ 0 [(0,.ptr 100000 0),(1,.int .i64 (↑0 : Int)),(11,.dat l),(12,.int .i64 (↑(D.len l) : Int)),(13,.int .i64 (IntKind.wrap .i64 (j + 1)))] 0 56)) [] [(1,OBlk.arr 28 mb),(3,OBlk.arr 50 ms),
 (4,OBlk.arr 3 n0),(5,OBlk.arr 3 n1),(6,OBlk.arr 3 n2),(100000,OBlk.cells 75 [.int .i64 now,.int .i64 (Co.nodes c),.int .i64 (Co.round c),.int .i64 (Co.phase c),.int .i64 (Co.deadline c),.dat
 (D.like pd (Co.positions c)),.dat (D.like sd (Co.seen c)),.bool (Co.valid c),.vec 1,SV.sl 100001 3,.dat (D.like (hs 14 0) (Hist.sizes (Prod.fst z2))),.dat (D.like (hs 14 1) (Hist.writes (Prod.fst z2))),.dat
 (D.like (hs 14 2) (Hist.events (Prod.fst z2))),.vec 3]),(100001,OBlk.cells 22 [.vec 4,.vec 5,.vec 6])])))))))))))) (.leaf (Conf.mk (SFrm.mk 70 none none [Item.code (cA 70 [1,0,1,0,0,1,1,0,0,1,0,1,0,1])]
 (mkJ 0 [(6,.lb true)] 0 56)) [] [(0,OBlk.arr 28 mb),(1,OBlk.arr 50 ms),(2,OBlk.arr 3 n0),(3,OBlk.arr 3 n1),(4,OBlk.arr 3 n2),(100000,noC 0 1 3 now c pd sd zd wd ed h),(100001,OBlk.cells 22 [.vec 2,.vec 3,.vec 4])])) := by
 intros; kernel_rfl
theorem nk31_go : 
 let z1 : Tree := (.leaf (Conf.mk (SFrm.mk 70 none none [Item.code (cA 70 [1,0,1,0,0,1,1,0,0,1,0,1,0,1]),Item.code (cA 70 [1,0,1,0,0,1,1,0,0,1,1]),Item.inBlock 1,Item.code (cA 70 [1,0,1,0,0,1,1,1]),Item.inLoop (cA 70 [1,0,1,0,0]),Item.inBlock 0,Item.code (cA 70 [1,1])] (mkJ 0 [(6,.lb false)] 0 56)) [] [(0,OBlk.arr 28 mb),(1,OBlk.arr 50 ms),(2,OBlk.arr 3 n0),(3,OBlk.arr 3 n1),(4,OBlk.arr 3 n2),(100000,noC 0 1 3 now c pd sd zd wd ed h),(100001,OBlk.cells 22 [.vec 2,.vec 3,.vec 4])]))
 let z2 := (ackH (HiD.hist (hiOf zd wd ed h)) (D.getInt n1 (Int.toNat (D.getInt l (Int.toNat j) 0)) 0))
 execRS Try.prog ctAk [] 400 (unroll (nkL 1 l j (noV 3 [n0,n1,n2] now c pd sd mb zd wd ed ms h))) =
 Tree.br (decide (j < (↑(D.len l) : Int))) (.need (0 ≤ j ∧ j < (↑(D.len l) : Int) ∧ D.sz l = 1) (.need (D.HasCell l (Int.toNat j) 0 (FT.int .i64)) (.br (decide (D.getInt l (Int.toNat j) 0 < 0)) z1 (.need
 (0 ≤ (↑1 : Int) ∧ (↑1 : Int) < (↑3 : Int)) (.br (decide (D.getInt l (Int.toNat j) 0 ≥ (↑(D.len n1) : Int))) z1 (.all fun hs=>.need (0 ≤ (↑1 : Int) ∧ (↑1 : Int) < (↑3 : Int)) (.need (0 ≤ D.getInt l (Int.toNat j) 0 ∧ D.getInt l
 (Int.toNat j) 0 < (↑(D.len n1) : Int) ∧ D.sz n1 = 1) (.need (D.HasCell n1 (Int.toNat (D.getInt l (Int.toNat j) 0)) 0 (FT.int .i64) ∧ D.sz n1 = 1) (.need (HiD.Right (hiOf zd wd ed h) ∧ D.len (likeEv ed
 (Hist.events h)) ≤ 1000000) (.br (Prod.snd z2 != 0) (.leaf (Conf.mk (SFrm.mk 70 none none [Item.code (cAt Try.prog 70 [1,0,1,0,0,1,1,0,0,1,0,1,0,1]),Item.code (cA 70 [1,0,1,0,0,1,1,0,0,1,1,1,1]),Item.inBlock 1,Item.code
 (cA 70 [1,0,1,0,0,1,1,1]),Item.inLoop (cA 70 [1,0,1,0,0]),Item.inBlock 0,Item.code (cA 70 [1,1])] (mkJ 0 [(6,.lb false)] 0 56)) [] [(0,OBlk.arr 28 mb),(1,OBlk.arr 50 ms),(2,OBlk.arr 3 n0),
 (3,OBlk.arr 3 n1),(4,OBlk.arr 3 n2),(100000,noC 0 1 3 now c pd sd zd wd ed h),(100001,OBlk.cells 22 [.vec 2,.vec 3,.vec 4])])) (.leaf (Conf.mk (SFrm.mk 70 none none [Item.inLoop (cA 70 [1,0,1,0,0]),Item.inBlock 0,Item.code
 (cA 70 [1,1])] (mkJ 0 [(0,.ptr 100000 0),(1,.int .i64 (↑1 : Int)),(11,.dat l),(12,.int .i64 (↑(D.len l) : Int)),(13,.int .i64 (IntKind.wrap .i64 (j + 1)))] 0 56)) [] [(1,OBlk.arr 28 mb),(3,OBlk.arr 50 ms),
 (4,OBlk.arr 3 n0),(5,OBlk.arr 3 n1),(6,OBlk.arr 3 n2),(100000,OBlk.cells 75 [.int .i64 now,.int .i64 (Co.nodes c),.int .i64 (Co.round c),.int .i64 (Co.phase c),.int .i64 (Co.deadline c),.dat
 (D.like pd (Co.positions c)),.dat (D.like sd (Co.seen c)),.bool (Co.valid c),.vec 1,SV.sl 100001 3,.dat (D.like (hs 14 0) (Hist.sizes (Prod.fst z2))),.dat (D.like (hs 14 1) (Hist.writes (Prod.fst z2))),.dat
 (D.like (hs 14 2) (Hist.events (Prod.fst z2))),.vec 3]),(100001,OBlk.cells 22 [.vec 4,.vec 5,.vec 6])])))))))))))) (.leaf (Conf.mk (SFrm.mk 70 none none [Item.code (cA 70 [1,0,1,0,0,1,1,0,0,1,0,1,0,1])]
 (mkJ 0 [(6,.lb true)] 0 56)) [] [(0,OBlk.arr 28 mb),(1,OBlk.arr 50 ms),(2,OBlk.arr 3 n0),(3,OBlk.arr 3 n1),(4,OBlk.arr 3 n2),(100000,noC 0 1 3 now c pd sd zd wd ed h),(100001,OBlk.cells 22 [.vec 2,.vec 3,.vec 4])])) := by
 intros; kernel_rfl
theorem nk32_go : 
 let z1 : Tree := (.leaf (Conf.mk (SFrm.mk 70 none none [Item.code (cA 70 [1,0,1,0,0,1,1,0,0,1,0,1,0,1]),Item.code (cA 70 [1,0,1,0,0,1,1,0,0,1,1]),Item.inBlock 1,Item.code (cA 70 [1,0,1,0,0,1,1,1]),Item.inLoop (cA 70 [1,0,1,0,0]),Item.inBlock 0,Item.code (cA 70 [1,1])] (mkJ 0 [(6,.lb false)] 0 56)) [] [(0,OBlk.arr 28 mb),(1,OBlk.arr 50 ms),(2,OBlk.arr 3 n0),(3,OBlk.arr 3 n1),(4,OBlk.arr 3 n2),(100000,noC 0 1 3 now c pd sd zd wd ed h),(100001,OBlk.cells 22 [.vec 2,.vec 3,.vec 4])]))
 let z2 := (ackH (HiD.hist (hiOf zd wd ed h)) (D.getInt n2 (Int.toNat (D.getInt l (Int.toNat j) 0)) 0))
 execRS Try.prog ctAk [] 400 (unroll (nkL 2 l j (noV 3 [n0,n1,n2] now c pd sd mb zd wd ed ms h))) =
 Tree.br (decide (j < (↑(D.len l) : Int))) (.need (0 ≤ j ∧ j < (↑(D.len l) : Int) ∧ D.sz l = 1) (.need (D.HasCell l (Int.toNat j) 0 (FT.int .i64)) (.br (decide (D.getInt l (Int.toNat j) 0 < 0)) z1 (.need
 (0 ≤ (↑2 : Int) ∧ (↑2 : Int) < (↑3 : Int)) (.br (decide (D.getInt l (Int.toNat j) 0 ≥ (↑(D.len n2) : Int))) z1 (.all fun hs=>.need (0 ≤ (↑2 : Int) ∧ (↑2 : Int) < (↑3 : Int)) (.need (0 ≤ D.getInt l (Int.toNat j) 0 ∧ D.getInt l
 (Int.toNat j) 0 < (↑(D.len n2) : Int) ∧ D.sz n2 = 1) (.need (D.HasCell n2 (Int.toNat (D.getInt l (Int.toNat j) 0)) 0 (FT.int .i64) ∧ D.sz n2 = 1) (.need (HiD.Right (hiOf zd wd ed h) ∧ D.len (likeEv ed
 (Hist.events h)) ≤ 1000000) (.br (Prod.snd z2 != 0) (.leaf (Conf.mk (SFrm.mk 70 none none [Item.code (cAt Try.prog 70 [1,0,1,0,0,1,1,0,0,1,0,1,0,1]),Item.code (cA 70 [1,0,1,0,0,1,1,0,0,1,1,1,1]),Item.inBlock 1,Item.code
 (cA 70 [1,0,1,0,0,1,1,1]),Item.inLoop (cA 70 [1,0,1,0,0]),Item.inBlock 0,Item.code (cA 70 [1,1])] (mkJ 0 [(6,.lb false)] 0 56)) [] [(0,OBlk.arr 28 mb),(1,OBlk.arr 50 ms),(2,OBlk.arr 3 n0),
 (3,OBlk.arr 3 n1),(4,OBlk.arr 3 n2),(100000,noC 0 1 3 now c pd sd zd wd ed h),(100001,OBlk.cells 22 [.vec 2,.vec 3,.vec 4])])) (.leaf (Conf.mk (SFrm.mk 70 none none [Item.inLoop (cA 70 [1,0,1,0,0]),Item.inBlock 0,Item.code
 (cA 70 [1,1])] (mkJ 0 [(0,.ptr 100000 0),(1,.int .i64 (↑2 : Int)),(11,.dat l),(12,.int .i64 (↑(D.len l) : Int)),(13,.int .i64 (IntKind.wrap .i64 (j + 1)))] 0 56)) [] [(1,OBlk.arr 28 mb),(3,OBlk.arr 50 ms),
 (4,OBlk.arr 3 n0),(5,OBlk.arr 3 n1),(6,OBlk.arr 3 n2),(100000,OBlk.cells 75 [.int .i64 now,.int .i64 (Co.nodes c),.int .i64 (Co.round c),.int .i64 (Co.phase c),.int .i64 (Co.deadline c),.dat
 (D.like pd (Co.positions c)),.dat (D.like sd (Co.seen c)),.bool (Co.valid c),.vec 1,SV.sl 100001 3,.dat (D.like (hs 14 0) (Hist.sizes (Prod.fst z2))),.dat (D.like (hs 14 1) (Hist.writes (Prod.fst z2))),.dat
 (D.like (hs 14 2) (Hist.events (Prod.fst z2))),.vec 3]),(100001,OBlk.cells 22 [.vec 4,.vec 5,.vec 6])])))))))))))) (.leaf (Conf.mk (SFrm.mk 70 none none [Item.code (cA 70 [1,0,1,0,0,1,1,0,0,1,0,1,0,1])]
 (mkJ 0 [(6,.lb true)] 0 56)) [] [(0,OBlk.arr 28 mb),(1,OBlk.arr 50 ms),(2,OBlk.arr 3 n0),(3,OBlk.arr 3 n1),(4,OBlk.arr 3 n2),(100000,noC 0 1 3 now c pd sd zd wd ed h),(100001,OBlk.cells 22 [.vec 2,.vec 3,.vec 4])])) := by
 intros; kernel_rfl
end
end Sv
end
noncomputable section
open Go
namespace Sx
structure TlD where
 i : D
 a : D
def TlD.tl (x : TlD) : Tl := ⟨x.i.to Int,x.a.to Int⟩
end Sx
namespace Sx
theorem cell_okd {H : HV} {d : D} (hd : d.Ok H) {i j : Nat} : (d.cell i j).Ok H := by
 unfold D.cell D.cellAt
 cases hr : d.rows[i]? with
 | none=>exact .nil 0
 | some r =>
  cases hx : r[j]? with
  | none=>simp [hx]; exact .nil 0
  | some x =>
   simp only [Option.bind_some,hx,Option.getD_some]
   cases hd with
   | slc a c sz rows hsp hc hlen hcell hok=>exact hok r (List.mem_of_getElem? hr) x (List.mem_of_getElem? hx)
   | _=>simp [D.rows] at hr
end Sx
namespace Sx
end Sx
namespace Sx
end Sx
end
noncomputable section
open Go
namespace Sx
def idxG {α : Type} (l : List α) (p : α → Bool) : Int := match l.findIdx? p with
 | some i=>i
 | none=>-1
theorem idxG_any {α : Type} (xs : List α) (p : α → Bool) : decide (idxG xs p ≥ 0) = xs.any p := by
 unfold idxG
 cases h : xs.findIdx? p with
 | none =>
  rw [List.findIdx?_eq_none_iff] at h
  rw [show xs.any p = false from by rw [List.any_eq_false]; exact fun x hx=>by simp [h x hx]]
  rfl
 | some i =>
  rw [List.findIdx?_eq_some_iff_getElem] at h
  obtain ⟨h1,h2,_⟩ := h
  rw [show xs.any p = true from List.any_eq_true.2 ⟨_,List.getElem_mem h1,h2⟩]
  simp only [decide_eq_true_eq]
  omega
theorem idxG_hit {α : Type} {l : List α} {p : α → Bool} {j : Nat} (hj : j < l.length) (hpre : (l.take j).findIdx? p = none) (hb : p l[j] = true) : idxG l p = j := by
 have : l.findIdx? p = some j := by
  rw [List.findIdx?_eq_some_iff_getElem]
  refine ⟨hj,hb,fun i hi=>?_⟩
  rw [List.findIdx?_eq_none_iff] at hpre
  have := hpre l[i] (List.mem_take_iff_getElem.2 ⟨i,by omega,rfl⟩)
  simp [this]
 unfold idxG; rw [this]
theorem idxG_miss {α : Type} {l : List α} {p : α → Bool} {j : Nat} (hj : j < l.length) (hpre : (l.take j).findIdx? p = none) (hb : p l[j] = false) : (l.take (j + 1)).findIdx? p = none := by
 rw [List.take_succ_eq_append_getElem hj,List.findIdx?_append,hpre]
 simp [hb]
theorem idxG_none {α : Type} {l : List α} {p : α → Bool} (hpre : (l.take l.length).findIdx? p = none) : idxG l p = -1 := by
 rw [List.take_length] at hpre
 unfold idxG; rw [hpre]


instance : Plain Sec where
 cells _ _ s := [.int .u8 s.b0,.int .u8 s.b1,.int .u8 s.b2,.int .u8 s.b3,.int .u8 s.b4,.int .u8 s.b5,.int .u8 s.b6,.int .u8 s.b7]
 right d i r _ h := by obtain ⟨_,_,_,_,_,_,_,_,rfl⟩ := h; rfl
instance : Plain Ev where
 cells _ _ e := [.int .i64 e.kind,.int .i64 e.write]
 right d i r _ h := by obtain ⟨_,_,rfl⟩ := h; rfl
instance : Plain Wt where
 cells d i w := [.int .i64 w.vol,.int .i64 w.start,(d.cell i 2).plain w.data]
 right d i r h ho := by
  obtain ⟨a,b,v,rfl,hv⟩ := ho
  obtain ⟨p1,p2,p3,rfl⟩ := hv.slc
  have e1 : d.cell i 2 = .slc p1 p2 p3 := by simp [D.cell,D.cellAt,h]
  simp only [Codec.dec,e1,plain_self hv]


structure TlOrd (i : Int) (t : Tl) : Prop where
 lt : ∀ w : Nat,w < t.issued.length → t.issued.getD w 0 < i
 inc : ∀ a b : Nat,a < b → b < t.issued.length → t.issued.getD a 0 < t.issued.getD b 0
 aft : ∀ w : Nat,w < t.issued.length → 0 ≤ t.acked.getD w 0 → t.issued.getD w 0 < t.acked.getD w 0
 len : t.acked.length = t.issued.length
theorem getD_app1 {l : List Int} {x : Int} {w : Nat} (h : w < l.length) : (l ++ [x]).getD w 0 = l.getD w 0 := by
 simp [List.getElem?_append_left h]
theorem getD_app2' {l : List Int} {x : Int} {w : Nat} (h : w = l.length) : (l ++ [x]).getD w 0 = x := by subst h; simp
theorem getD_set1 {l : List Int} {x : Int} {k w : Nat} (h : k ≠ w) : (l.set k x).getD w 0 = l.getD w 0 := by
 simp [h]
theorem getD_set2 {l : List Int} {x : Int} {k : Nat} (h : k < l.length) : (l.set k x).getD k 0 = x := by simp [h]
theorem evStep_ord {n : Nat} {i : Int} {t : Tl} {e : Ev} (hi : 0 ≤ i) (h : TlOrd i t) (h0 : (evStep n i t e).1 = 0) : TlOrd (i + 1) (evStep n i t e).2 := by
 unfold evStep at h0 ⊢
 split at h0
 ·rename_i hk
  rw [if_pos hk]
  split at h0
  ·exact absurd h0 (by simp)
  ·rename_i hc
   rw [if_neg hc]
   refine ⟨fun w hw=>?_,fun a b hab hb=>?_,fun w hw ha=>?_,by simp [h.len]⟩
   ·simp only [List.length_append,List.length_singleton] at hw ⊢
    by_cases e : w < t.issued.length
    ·rw [getD_app1 e]; have := h.lt w e; omega
    ·rw [getD_app2' (by omega)]; omega
   ·simp only [List.length_append,List.length_singleton] at hb ⊢
    by_cases e : b < t.issued.length
    ·rw [getD_app1 e,getD_app1 (by omega)]; exact h.inc a b hab e
    ·rw [getD_app2' (w := b) (by omega),getD_app1 (by omega)]; exact h.lt a (by omega)
   ·simp only [List.length_append,List.length_singleton] at hw ha ⊢
    by_cases e : w < t.issued.length
    ·have e' : w < t.acked.length := by rw [h.len]; exact e
     rw [getD_app1 (l := t.acked) e'] at ha ⊢
     rw [getD_app1 (l := t.issued) e]; exact h.aft w e ha
    ·rw [getD_app2' (by rw [h.len]; omega)] at ha; omega
 ·rename_i hk
  rw [if_neg hk]
  split at h0
  ·rename_i hk1
   rw [if_pos hk1]
   split at h0
   ·exact absurd h0 (by simp)
   ·rename_i hc
    rw [if_neg hc]
    split at h0
    ·exact absurd h0 (by simp)
    ·rename_i hd
     rw [if_neg hd]
     refine ⟨fun w hw=>?_,fun a b hab hb=>h.inc a b hab hb,fun w hw ha=>?_,by simp [h.len]⟩
     ·have := h.lt w hw; simp only; omega
     ·simp only at hw ha ⊢
      by_cases e : e.write.toNat = w
      ·subst e
       rw [getD_set2 (by rw [h.len]; omega)]
       exact h.lt _ hw
      ·rw [getD_set1 e] at ha ⊢
       exact h.aft w hw ha
  ·exact absurd h0 (by simp)
theorem runEv_ord {n : Nat} {l : List Ev} : ∀ j,j ≤ l.length → (runEv n l j).1 = 0 → TlOrd j (runEv n l j).2
 | 0,_,_=>⟨fun w hw=>absurd hw (by simp [runEv]),fun a b _ hb=>absurd hb (by simp [runEv]),fun w hw=>absurd hw (by simp [runEv]),by simp [runEv]⟩
 | j + 1,hj,h0=>by
  unfold runEv at h0 ⊢
  split at h0
  ·rename_i h1; exact absurd h0 h1
  ·rename_i h1
   rw [if_neg h1]
   have e : l[j]? = some l[j] := by simp [show j < l.length by omega]
   rw [e] at h0 ⊢
   simp only at h0 ⊢
   have := evStep_ord (n := n) (e := l[j]) (by omega) (runEv_ord j (by omega) (by simpa using h1)) h0
   simpa using this
theorem checkH_run {h : Hist} (hc : (checkH h).1 = 0) : (runEv h.writes.length h.events h.events.length).1 = 0 ∧ (checkH h).2 = (runEv h.writes.length h.events h.events.length).2 := by
 unfold checkH at hc ⊢
 split at hc
 ·rename_i h1; exact absurd hc h1
 ·rename_i h1
  rw [if_neg h1]
  split at hc
  ·exact absurd hc (by simp)
  ·rename_i h2
   rw [if_neg h2]
   split at hc
   ·rename_i h3; exact absurd hc h3
   ·rename_i h3
    rw [if_neg h3]
    split at hc
    ·rename_i h4; exact absurd hc h4
    ·rename_i h4
     rw [if_neg h4]
     split at hc
     ·exact absurd hc (by simp)
     ·rename_i h5
      rw [if_neg h5]
      exact ⟨by simpa using h4,rfl⟩
theorem places {h : Hist} (hc : (checkH h).1 = 0) :
  (∀ a b : Int,a < b → 0 ≤ a → b < h.writes.length → atEv h.events ⟨0,a⟩ < atEv h.events ⟨0,b⟩) ∧
  (∀ a : Int,0 ≤ atEv h.events ⟨1,a⟩ → 0 ≤ a ∧ a < h.writes.length ∧ atEv h.events ⟨0,a⟩ < atEv h.events ⟨1,a⟩) ∧
  ∀ a : Int,0 ≤ atEv h.events ⟨0,a⟩ ↔ 0 ≤ a ∧ a < h.writes.length := by
 obtain ⟨htl,hlen,_⟩ := checkH_ok hc
 obtain ⟨h0,h2⟩ := checkH_run hc
 have ho := runEv_ord _ (Nat.le_refl _) h0
 rw [← h2] at ho
 have hI : ∀ w : Nat,w < h.writes.length → (checkH h).2.issued.getD w 0 = atEv h.events ⟨0,w⟩ ∧ 0 ≤ atEv h.events ⟨0,w⟩ := fun w hw=>by
  have := htl.iss w (by omega)
  rw [← this.1]
  exact ⟨getD_lt (by omega),this.2⟩
 have hA : ∀ w : Nat,w < h.writes.length → (checkH h).2.acked.getD w 0 = atEv h.events ⟨1,w⟩ := fun w hw=>by
  rw [← htl.ack w (by have := htl.len; omega)]
  exact getD_lt (by have := htl.len; omega)
 have hout : ∀ a : Int,¬(0 ≤ a ∧ a < h.writes.length) → atEv h.events ⟨0,a⟩ = -1 ∧ atEv h.events ⟨1,a⟩ = -1 := fun a ha=>htl.not a (by omega)
 refine ⟨fun a b hab h1 h2=>?_,fun a ha=>?_,fun a=>⟨fun ha=>?_,fun ha=>?_⟩⟩
 ·obtain ⟨x,rfl⟩ := Int.eq_ofNat_of_zero_le h1
  obtain ⟨y,rfl⟩ := Int.eq_ofNat_of_zero_le (show 0 ≤ b by omega)
  rw [← (hI x (by omega)).1,← (hI y (by omega)).1]
  exact ho.inc x y (by omega) (by omega)
 ·have hr : 0 ≤ a ∧ a < h.writes.length := by
   rcases Classical.em (0 ≤ a ∧ a < h.writes.length) with h | h
   ·exact h
   ·rw [(hout a h).2] at ha; exact absurd ha (by decide)
  obtain ⟨x,rfl⟩ := Int.eq_ofNat_of_zero_le hr.1
  refine ⟨hr.1,hr.2,?_⟩
  rw [← hA x (by omega)] at ha ⊢
  rw [← (hI x (by omega)).1]
  exact ho.aft x (by omega) ha
 ·rcases Classical.em (0 ≤ a ∧ a < h.writes.length) with h | h
  ·exact h
  ·rw [(hout a h).1] at ha; exact absurd ha (by decide)
 ·obtain ⟨x,rfl⟩ := Int.eq_ofNat_of_zero_le ha.1
  exact (hI x (by omega)).2
theorem contains_iff {l : List Int} {x : Int} : l.contains x = true ↔ x ∈ l := List.contains_iff_mem
theorem runEv_more {n m : Nat} {l : List Ev} : ∀ j,(runEv n l j).1 = 0 → (runEv n l j).2.issued.length ≤ m → runEv m l j = runEv n l j
 | 0,_,_=>rfl
 | j + 1,h0,hm=>by
  unfold runEv at h0 hm ⊢
  split at h0
  ·rename_i h1; exact absurd h0 h1
  ·rename_i h1
   rw [if_neg h1] at hm
   have h1' : (runEv n l j).1 = 0 := by simpa using h1
   cases e : l[j]? with
   | none =>
    rw [e] at h0 hm
    simp only at h0 hm
    have ih := runEv_more j h1' hm
    rw [ih,if_neg h1]
   | some x =>
    rw [e] at h0 hm
    simp only at h0 hm
    have hle := evStep_len h0
    have ih := runEv_more (m := m) j h1' (by omega)
    rw [ih,if_neg h1,if_neg h1]
    simp only
    unfold evStep at h0 hm hle ⊢
    split at h0
    ·rename_i hk
     simp only [if_pos hk] at hm hle ⊢
     split at h0
     ·exact absurd h0 (by simp)
     ·rename_i hc
      rw [if_neg hc] at hm ⊢
      simp only [List.length_append,List.length_singleton] at hm
      rw [if_neg (by omega)]
    ·rename_i hk
     simp only [if_neg hk]
theorem runEv_take {n : Nat} {l : List Ev} {k : Nat} (hk : k ≤ l.length) : ∀ j,j ≤ k → runEv n (l.take k) j = runEv n l j
 | 0,_=>rfl
 | j + 1,hj=>by
  unfold runEv
  rw [runEv_take hk j (by omega)]
  rw [List.getElem?_take_of_lt (by omega)]
theorem runEv_app {n : Nat} {l : List Ev} {e : Ev} (h0 : (runEv n l l.length).1 = 0) : runEv n (l ++ [e]) (l ++ [e]).length = evStep n l.length (runEv n l l.length).2 e := by
 have h1 := runEv_take (n := n) (l := l ++ [e]) (k := l.length) (by simp) l.length (Nat.le_refl _)
 rw [List.take_left'  rfl] at h1
 rw [List.length_append,List.length_singleton]
 conv=>lhs; unfold runEv
 rw [← h1,if_neg (by simp [h0])]
 simp
theorem checkH_of {h : Hist} (h1 : sizesErr h.sizes = 0) (h2 : h.writes.length ≤ 4096) (h3 : firstErr h.sizes h.writes = 0) (h4 : (runEv h.writes.length h.events h.events.length).1 = 0)
  (h5 : h.writes.length ≤ (runEv h.writes.length h.events h.events.length).2.issued.length) : (checkH h).1 = 0 := by
 unfold checkH
 rw [if_neg (by simp [h1]),if_neg (by omega),if_neg (by simp [h3]),if_neg (by simp [h4]),if_neg (by omega)]
theorem newH_check {s : List Int} (h : (newH s).2 = 0) : (checkH (newH s).1).1 = 0 := by
 unfold newH at h ⊢
 split at h
 ·rename_i h1; exact absurd h h1
 ·rename_i h1
  rw [if_neg h1]
  exact checkH_of (by simpa using h1) (by simp) rfl rfl (by simp)
theorem ackH_inv {h : Hist} {n : Int} (h0 : (ackH h n).2 = 0) : (checkH h).1 = 0 ∧ 0 ≤ n ∧ n < h.writes.length ∧ atEv h.events ⟨1,n⟩ < 0 ∧ (ackH h n).1 = ⟨h.sizes,h.writes,h.events ++ [⟨1,n⟩]⟩ := by
 unfold ackH at h0 ⊢
 split at h0
 ·rename_i h1; exact absurd h0 h1
 ·rename_i h1
  rw [if_neg h1]
  split at h0
  ·exact absurd h0 (by simp)
  ·rename_i h2
   rw [if_neg h2]
   split at h0
   ·exact absurd h0 (by simp)
   ·rename_i h3
    rw [if_neg h3]
    exact ⟨by simpa using h1,by omega,by omega,by omega,rfl⟩
theorem issueH_inv {h : Hist} {w : Wt} (h0 : (issueH h w).2.2 = 0) : (checkH h).1 = 0 ∧ h.writes.length < 4096 ∧ fitsErr h.sizes w = 0 ∧ (issueH h w).1 = ⟨h.sizes,h.writes ++ [w],h.events ++ [⟨0,h.writes.length⟩]⟩ := by
 unfold issueH at h0 ⊢
 split at h0
 ·rename_i h1; exact absurd h0 h1
 ·rename_i h1
  rw [if_neg h1]
  split at h0
  ·exact absurd h0 (by simp)
  ·rename_i h2
   rw [if_neg h2]
   split at h0
   ·rename_i h3; exact absurd h0 h3
   ·rename_i h3
    rw [if_neg h3]
    exact ⟨by simpa using h1,by omega,by simpa using h3,rfl⟩
theorem ackH_check {h : Hist} {n : Int} (h0 : (ackH h n).2 = 0) : (checkH (ackH h n).1).1 = 0 := by
 obtain ⟨hc,h1,h2,h3,e⟩ := ackH_inv h0
 rw [e]
 obtain ⟨htl,hlen,k1,k2,k3⟩ := checkH_ok hc
 obtain ⟨r1,r2⟩ := checkH_run hc
 rw [r2] at htl hlen
 have ha := runEv_app (n := h.writes.length) (e := ⟨1,n⟩) r1
 have hs : evStep h.writes.length h.events.length (runEv h.writes.length h.events h.events.length).2 ⟨1,n⟩ = (0,⟨(runEv h.writes.length h.events h.events.length).2.issued,(runEv h.writes.length h.events h.events.length).2.acked.set n.toNat h.events.length⟩) := by
  obtain ⟨y,rfl⟩ := Int.eq_ofNat_of_zero_le h1
  have hy : y < (runEv h.writes.length h.events h.events.length).2.acked.length := by have := htl.len; omega
  have e2 : (runEv h.writes.length h.events h.events.length).2.acked.getD (Int.toNat (y : Int)) 0 = atEv h.events ⟨1,y⟩ := by rw [← htl.ack y hy,Int.toNat_natCast]; exact getD_lt hy
  unfold evStep
  simp only
  rw [if_neg (by decide),if_pos trivial,if_neg (by omega),e2,if_neg (by omega)]
 rw [hs] at ha
 exact checkH_of k1 k2 k3 (by simp only [ha]) (by simp only [ha]; omega)
theorem issueH_check {h : Hist} {w : Wt} (h0 : (issueH h w).2.2 = 0) : (checkH (issueH h w).1).1 = 0 := by
 obtain ⟨hc,h1,h2,e⟩ := issueH_inv h0
 rw [e]
 obtain ⟨htl,hlen,k1,k2,k3⟩ := checkH_ok hc
 obtain ⟨r1,r2⟩ := checkH_run hc
 rw [r2] at hlen
 have hm := runEv_more (m := h.writes.length + 1) h.events.length r1 (by omega)
 have ha := runEv_app (n := h.writes.length + 1) (l := h.events) (e := ⟨0,h.writes.length⟩) (by rw [hm]; exact r1)
 rw [hm] at ha
 have hs : evStep (h.writes.length + 1) h.events.length (runEv h.writes.length h.events h.events.length).2 ⟨0,h.writes.length⟩ = (0,⟨(runEv h.writes.length h.events h.events.length).2.issued ++ [(h.events.length : Int)],(runEv h.writes.length h.events h.events.length).2.acked ++ [-1]⟩) := by
  unfold evStep
  simp only
  rw [if_pos trivial,if_neg (by omega)]
 rw [hs] at ha
 refine checkH_of k1 (by simp; omega) ?_ ?_ ?_
 ·simp only [firstErr_append,k3]; simp [firstErr,h2]
 ·simp only [List.length_append,List.length_singleton] at ha ⊢; rw [ha]
 ·simp only [List.length_append,List.length_singleton] at ha ⊢; rw [ha]; simp; omega
theorem newH_sizes {s : List Int} (h : sizesErr s = 0) : newH s = (⟨s,[],[]⟩,0) := by
 unfold newH; rw [if_neg (by simp [h])]
structure MbOk (m : Mb) : Prop where
 r : 0 ≤ m.round ∧ m.round ≤ 1073741824
 u : 0 ≤ m.upto ∧ m.upto ≤ 1073741824
 t : 0 ≤ m.thawed ∧ m.thawed ≤ m.round
 p : 0 ≤ m.position ∧ m.position ≤ m.issued ∧ m.issued ≤ 4096
 fh : m.frozen = false → m.held = []
 ws : m.waiting.Pairwise (· < ·)
 wi : ∀ x,x ∈ m.waiting → 0 ≤ x ∧ x < m.issued
 hn : m.held.Nodup
 hi : ∀ x,x ∈ m.held → (0 ≤ x ∧ x < m.issued) ∧ x ∉ m.waiting
theorem MbOk.check {m : Mb} (h : MbOk m) : checkMb m = 0 := by
 unfold checkMb
 have h1 : headMb m = true := by
  simp only [headMb,okTime,decide_eq_true_eq,Bool.and_eq_false_imp,decide_eq_false_iff_not]
  have := h.r; have := h.u; have := h.t; have := h.p
  rintro (h | h | h | h | h | h | h | ⟨h1,h2⟩)
  ·omega
  ·omega
  ·omega
  ·omega
  ·omega
  ·omega
  ·omega
  ·exact h2 (h.fh h1)
 have h2 : (List.range m.waiting.length).any (badW m.issued m.waiting) = false := by
  rw [List.any_eq_false]
  intro i hi
  have hi := List.mem_range.1 hi
  have hg : m.waiting.getD i 0 = m.waiting[i] := by simp [hi]
  have hm := h.wi _ (List.getElem_mem hi)
  simp only [badW,hg,Bool.or_eq_true,Bool.and_eq_true,decide_eq_true_eq,not_or,not_and]
  refine ⟨⟨by omega,by omega⟩,fun h0=>?_⟩
  have hg' : m.waiting.getD (i - 1) 0 = m.waiting[i - 1] := by simp [show i - 1 < m.waiting.length by omega]
  rw [hg']
  have := List.pairwise_iff_getElem.1 h.ws (i - 1) i (by omega) hi (by omega)
  omega
 have h3 : (List.range m.held.length).any (badH m.issued m.waiting m.held) = false := by
  rw [List.any_eq_false]
  intro i hi
  have hi := List.mem_range.1 hi
  have hg : m.held.getD i 0 = m.held[i] := by simp [hi]
  have hm := h.hi _ (List.getElem_mem hi)
  simp only [badH,hg,Bool.or_eq_true,decide_eq_true_eq,not_or,Bool.not_eq_true]
  refine ⟨⟨⟨by omega,by omega⟩,?_⟩,?_⟩
  ·rw [Bool.eq_false_iff]
   intro hc
   have hc := List.contains_iff_mem.1 hc
   obtain ⟨j,hj,he⟩ := List.mem_take_iff_getElem.1 hc
   have := List.pairwise_iff_getElem.1 h.hn j i (by omega) hi (by omega)
   exact this he
  ·rw [Bool.eq_false_iff]
   intro hc
   exact hm.2 (List.contains_iff_mem.1 hc)
 rw [if_neg (by rw [h1]; decide),if_neg (by rw [h2]; decide),if_neg (by rw [h3]; decide)]
structure Mstep (m m' : Mb) (acks : List Int) : Prop where
 ok : MbOk m'
 iss : m'.issued = m.issued
 wait : m'.waiting = m.waiting
 how : (acks = [] ∧ m'.held = m.held) ∨ (acks = m.held ∧ m'.held = [] ∧ m'.frozen = false)
theorem thaw_step {m : Mb} (h : MbOk m) {m' : Mb} (ht : m' = { m with frozen := false,held := [] }) : Mstep m m' m.held := by
 subst ht
 exact ⟨⟨h.r,h.u,h.t,h.p,fun _=>rfl,h.ws,h.wi,List.nodup_nil,fun x hx=>by cases hx⟩,rfl,rfl,.inr ⟨rfl,rfl,rfl⟩⟩
theorem same_step {m : Mb} (h : MbOk m) : Mstep m m [] := ⟨h,rfl,rfl,.inl ⟨rfl,rfl⟩⟩
theorem rel_step {m : Mb} (h : MbOk m) (now : Int) : Mstep m (relMb m now).1 (relMb m now).2 := by
 unfold relMb
 split
 ·exact same_step h
 ·exact thaw_step h rfl
theorem end_step {m : Mb} (h : MbOk m) (now : Int) (g : Msg) : Mstep m (endMb m now g).1 (endMb m now g).2.1 := by
 unfold endMb
 split
 ·exact same_step h
 ·split
  ·refine ⟨⟨h.r,h.u,⟨h.r.1,Int.le_refl _⟩,h.p,fun _=>rfl,h.ws,h.wi,List.nodup_nil,fun x hx=>by cases hx⟩,rfl,rfl,.inr ⟨rfl,rfl,rfl⟩⟩
  ·exact thaw_step h rfl
theorem clampT_rng {lo n : Int} (h : 0 ≤ lo) (h2 : lo ≤ 1073741824) : lo ≤ clampT lo n ∧ clampT lo n ≤ 1073741824 := by unfold clampT; omega
theorem obey_step {m : Mb} (h : MbOk m) (now p : Int) (g : Msg) : Mstep m (obeyMb m now p g).1 (obeyMb m now p g).2.1 := by
 have c0 := clampT_rng (lo := 0) (n := now) (by omega) (by omega)
 have c1 := clampT_rng (lo := 1) (n := p) (by omega) (by omega)
 unfold obeyMb
 split
 ·exact same_step h
 ·rename_i hc
  simp only [not_or,ne_eq,Decidable.not_not] at hc
  split
  ·split
   ·rename_i hg
    have := h.t; have := h.r; have := h.p
    exact ⟨⟨⟨by simp only; omega,by simp only; omega⟩,⟨by simp only; omega,by simp only; omega⟩,⟨by simp only; omega,by simp only; omega⟩,⟨by simp only; omega,by simp only; omega,by simp only; omega⟩,fun hf=>(by cases hf),h.ws,h.wi,h.hn,h.hi⟩,rfl,rfl,.inl ⟨rfl,rfl⟩⟩
   ·split
    ·exact same_step h
    ·exact same_step h
  ·split
   ·split
    ·exact end_step h _ _
    ·split
     ·exact same_step h
     ·exact same_step h
   ·split
    ·split
     ·exact thaw_step h rfl
     ·exact same_step h
    ·exact same_step h
theorem issue_mb {m : Mb} (h : MbOk m) (hl : m.issued < 4096) : MbOk (issueMb m).1 ∧ issueMb m = (⟨m.round,m.position,m.thawed,m.issued + 1,m.frozen,m.upto,m.waiting ++ [m.issued],m.held⟩,m.issued) := by
 have e := issue_ok h.check (by omega)
 rw [e]
 have hp := h.p
 refine ⟨⟨h.r,h.u,h.t,⟨hp.1,by simp only; omega,by simp only; omega⟩,h.fh,?_,fun x hx=>?_,h.hn,fun x hx=>?_⟩,rfl⟩
 ·simp only
  rw [List.pairwise_append]
  refine ⟨h.ws,List.pairwise_singleton _ _,fun a ha b hb=>?_⟩
  rw [List.mem_singleton.1 hb]
  exact (h.wi a ha).2
 ·simp only at hx ⊢
  rcases List.mem_append.1 hx with hx | hx
  ·have := h.wi x hx; omega
  ·rw [List.mem_singleton.1 hx]; omega
 ·simp only at hx ⊢
  obtain ⟨a,b⟩ := h.hi x hx
  refine ⟨by omega,fun hm=>?_⟩
  rcases List.mem_append.1 hm with hm | hm
  ·exact b hm
  ·have := List.mem_singleton.1 hm; omega
theorem dur_mb {m : Mb} (h : MbOk m) {x : Int} (hx : x ∈ m.waiting) : MbOk (durMb m x).1 ∧ (durMb m x).2.2 = 0 ∧ (durMb m x).1.round = m.round ∧ (durMb m x).1.position = m.position ∧ (durMb m x).1.issued = m.issued ∧
  (durMb m x).1.waiting = (m.waiting.filter fun y=>y != x) ∧ (((durMb m x).2.1 = [] ∧ (durMb m x).1.held = m.held ++ [x]) ∨ ((durMb m x).2.1 = [x] ∧ (durMb m x).1.held = m.held ∧ m.held = [])) := by
 have hk := h.check
 have hcon : m.waiting.contains x = true := List.contains_iff_mem.2 hx
 have hfm : ∀ y,y ∈ m.waiting.filter (fun y=>y != x) ↔ y ∈ m.waiting ∧ y ≠ x := fun y=>by simp [List.mem_filter]
 have hpw := h.ws.filter (fun y=>y != x)
 cases hf : m.frozen with
 | true =>
  rw [dur_held hk hcon hf]
  refine ⟨⟨h.r,h.u,h.t,h.p,fun hh=>?_,hpw,fun y hy=>h.wi y ((hfm y).1 hy).1,?_,?_⟩,rfl,rfl,rfl,rfl,rfl,.inl ⟨rfl,rfl⟩⟩
  ·simp only [hf] at hh; cases hh
  ·simp only
   rw [List.nodup_append]
   refine ⟨h.hn,by simp,fun a ha b hb=>?_⟩
   rw [List.mem_singleton.1 hb]
   rintro rfl
   exact (h.hi _ ha).2 hx
  ·intro y hy
   simp only at hy ⊢
   rcases List.mem_append.1 hy with hy | hy
   ·obtain ⟨a,b⟩ := h.hi y hy
    exact ⟨a,fun hm=>b ((hfm y).1 hm).1⟩
   ·rw [List.mem_singleton.1 hy]
    exact ⟨h.wi _ hx,fun hm=>((hfm _).1 hm).2 rfl⟩
 | false =>
  rw [dur_free hk hcon hf]
  have hheld := h.fh hf
  refine ⟨⟨h.r,h.u,h.t,h.p,fun _=>hheld,hpw,fun y hy=>h.wi y ((hfm y).1 hy).1,h.hn,fun y hy=>?_⟩,rfl,rfl,rfl,rfl,rfl,.inr ⟨rfl,rfl,hheld⟩⟩
  simp only [hheld] at hy; cases hy
abbrev Gh := Nat → List (Int × Int)
structure CoG (c : Co) (n : Nat) (G : Gh) : Prop where
 ok : checkCo c = 0
 nn : c.nodes = n
 c1 : c.phase = 1 → ∀ i : Nat,c.seen[i]? = some true → ∃ v,c.positions[i]? = some v ∧ (c.round,v) ∈ G i
 c2 : (c.phase = 2 ∨ c.valid = true) → ∀ i : Nat,i < n → ∃ v,c.positions[i]? = some v ∧ (c.round,v) ∈ G i
def MsgG (n : Nat) (G : Gh) (m : Msg) : Prop := ((0 ≤ m.to ∧ m.to < n) ∧ m.frm = n) ∨ (m.to = n ∧ (0 ≤ m.frm ∧ m.frm < n) ∧ (m.kind = 2 → (m.number,m.value) ∈ G m.frm.toNat))
theorem CoG.mono {c : Co} {n : Nat} {G G' : Gh} (h : CoG c n G) (hG : ∀ i p,p ∈ G i → p ∈ G' i) : CoG c n G' :=
 ⟨h.ok,h.nn,fun hp i hi=>by obtain ⟨v,v1,v2⟩ := h.c1 hp i hi; exact ⟨v,v1,hG _ _ v2⟩,fun hp i hi=>by obtain ⟨v,v1,v2⟩ := h.c2 hp i hi; exact ⟨v,v1,hG _ _ v2⟩⟩
theorem MsgG.mono {n : Nat} {G G' : Gh} {m : Msg} (h : MsgG n G m) (hG : ∀ i p,p ∈ G i → p ∈ G' i) : MsgG n G' m := by
 rcases h with h | ⟨h1,h2,h3⟩
 ·exact .inl h
 ·exact .inr ⟨h1,h2,fun hk=>hG _ _ (h3 hk)⟩
theorem msgsTo_g {n : Nat} (hn : n ≤ 8) (G : Gh) (r k : Int) : (msgsTo n r k).length ≤ 8 ∧ ∀ m,m ∈ msgsTo n r k → MsgG n G m := by
 refine ⟨by simp [msgsTo]; omega,fun m hm=>?_⟩
 simp only [msgsTo,List.mem_map,List.mem_range,Int.toNat_natCast] at hm
 obtain ⟨i,hi,rfl⟩ := hm
 exact .inl ⟨⟨by simp only; omega,by simp only; omega⟩,rfl⟩
theorem ck_of {c : Co} (h : checkCo c = 0) : (1 ≤ c.nodes ∧ c.nodes ≤ 8) ∧ (0 ≤ c.round ∧ c.round ≤ 1073741824) ∧ (0 ≤ c.deadline ∧ c.deadline ≤ 1073741824) ∧ (0 ≤ c.phase ∧ c.phase ≤ 2) ∧ (c.positions.length : Int) = c.nodes ∧ (c.seen.length : Int) = c.nodes ∧ (c.valid = true → c.phase = 0) ∧ c.positions.any badPos = false :=
 checkCo_zero.1 (show checkCo ⟨c.nodes,c.round,c.phase,c.deadline,c.positions,c.seen,c.valid⟩ = 0 from h)
theorem new_g {n : Nat} (h1 : 1 ≤ n) (h2 : n ≤ 8) (G : Gh) : newCo n = (⟨n,0,0,0,List.replicate n 0,List.replicate n false,false⟩,0) ∧ CoG ⟨n,0,0,0,List.replicate n 0,List.replicate n false,false⟩ n G := by
 refine ⟨by unfold newCo; rw [if_neg (by omega)]; rfl,checkCo_zero.2 ⟨by omega,by omega,by omega,by omega,by simp,by simp,(fun h=>by cases h),?_⟩,rfl,fun h=>?_,fun h=>?_⟩
 ·rw [List.any_eq_false]; intro x hx; rw [List.eq_of_mem_replicate hx]; decide
 ·exact absurd h (by simp)
 ·rcases h with h | h
  ·exact absurd h (by simp)
  ·exact absurd h (by simp)
theorem start_g {c : Co} {n : Nat} {G : Gh} (h : CoG c n G) (hn : n ≤ 8) (now p : Int) (h0 : (startCo c now p).2.2 = 0) : CoG (startCo c now p).1 n G ∧ (startCo c now p).1.round = c.round + 1 ∧ (startCo c now p).2.1.length ≤ 8 ∧ ∀ m,m ∈ (startCo c now p).2.1 → MsgG n G m := by
 have hz := ck_of h.ok
 have e := startCo_eq (now := now) (patience := p) (show checkCo ⟨c.nodes,c.round,c.phase,c.deadline,c.positions,c.seen,c.valid⟩ = 0 from h.ok)
 have e : startCo c now p = _ := e
 rw [e] at h0 ⊢
 split at h0
 ·cases h0
 split at h0
 ·cases h0
 split at h0
 ·cases h0
 rename_i h1 h2 h3
 rw [if_neg h1,if_neg h2,if_neg h3]
 have hm := msgsTo_g hn G (c.round + 1) 1
 have hnn := h.nn
 rw [h.nn]
 refine ⟨⟨checkCo_zero.2 ⟨by omega,by omega,by omega,by omega,by simp,by simp,(fun h=>by cases h),?_⟩,rfl,fun _ i hi=>?_,fun h=>?_⟩,rfl,hm.1,hm.2⟩
 ·rw [List.any_eq_false]; intro x hx; rw [List.eq_of_mem_replicate hx]; decide
 ·simp only at hi
  have := List.mem_of_getElem? hi
  have := List.eq_of_mem_replicate this
  cases this
 ·rcases h with h | h
  ·exact absurd h (by simp)
  ·exact absurd h (by simp)
theorem giveUp_g {c : Co} {n : Nat} {G : Gh} (h : CoG c n G) : CoG ⟨c.nodes,c.round,0,c.deadline,c.positions,c.seen,false⟩ n G := by
 have hz := ck_of h.ok
 refine ⟨checkCo_zero.2 ⟨hz.1,hz.2.1,hz.2.2.1,by omega,hz.2.2.2.2.1,hz.2.2.2.2.2.1,(fun h=>by cases h),hz.2.2.2.2.2.2.2⟩,h.nn,fun h=>absurd h (by simp),fun h=>?_⟩
 rcases h with h | h
 ·exact absurd h (by simp)
 ·exact absurd h (by simp)
theorem expire_g {c : Co} {n : Nat} {G : Gh} (h : CoG c n G) (hn : n ≤ 8) (now : Int) : CoG (expireCo c now).1 n G ∧ (expireCo c now).1.round = c.round ∧ (expireCo c now).2.length ≤ 8 ∧ ∀ m,m ∈ (expireCo c now).2 → MsgG n G m := by
 unfold expireCo
 split
 ·exact ⟨h,rfl,Nat.zero_le _,fun m hm=>by cases hm⟩
 ·have hm := msgsTo_g hn G c.round 24
  simp only [giveUpCo,h.nn]
  have := giveUp_g h
  rw [h.nn] at this
  exact ⟨this,trivial,hm.1,hm.2⟩
theorem any_setp {ps : List Int} {i : Nat} {v : Int} (h : ps.any badPos = false) (hv : badPos v = false) : (ps.set i v).any badPos = false := by
 rw [List.any_eq_false] at h ⊢
 intro x hx
 rcases List.mem_or_eq_of_mem_set hx with hx | hx
 ·exact h x hx
 ·rw [hx,hv]; decide
theorem collect_g {c : Co} {n : Nat} {G : Gh} (h : CoG c n G) (hn : n ≤ 8) (now : Int) {m : Msg} (hm : m.kind = 2 → (m.number,m.value) ∈ G m.frm.toNat) : CoG (collectCo c now m).1 n G ∧ (collectCo c now m).1.round = c.round ∧ (collectCo c now m).2.length ≤ 8 ∧ ∀ x,x ∈ (collectCo c now m).2 → MsgG n G x := by
 have nil : CoG c n G ∧ c.round = c.round ∧ ([] : List Msg).length ≤ 8 ∧ ∀ x,x ∈ ([] : List Msg) → MsgG n G x := ⟨h,rfl,Nat.zero_le _,fun x hx=>by cases hx⟩
 by_cases hb : ¬checkCo c = 0 ∨ c.phase = 0 ∨ now ≥ c.deadline ∨ m.frm < 0 ∨ m.frm ≥ c.nodes ∨ ¬m.number = c.round
 ·rw [coll_bad hb]; exact nil
 ·rw [coll_go hb rfl rfl]
  obtain ⟨h1,h2,h3,h4⟩ := id h
  have hz := ck_of h1
  simp only [not_or,Decidable.not_not] at hb
  obtain ⟨b1,b2,b3,b4,b5,b6⟩ := hb
  have hv0 : c.valid = true → False := fun hv=>b2 (hz.2.2.2.2.2.2.1 hv)
  have hil : m.frm.toNat < c.positions.length := by omega
  have hil2 : m.frm.toNat < c.seen.length := by omega
  have upd : c.phase = 1 → (c.round,m.value) ∈ G m.frm.toNat → ∀ i : Nat,(c.seen.set m.frm.toNat true)[i]? = some true → ∃ v,(c.positions.set m.frm.toNat m.value)[i]? = some v ∧ (c.round,v) ∈ G i := fun hp hg i hi=>by
   by_cases hx : m.frm.toNat = i
   ·subst hx
    exact ⟨m.value,List.getElem?_set_self hil,hg⟩
   ·rw [List.getElem?_set_ne hx] at hi ⊢
    exact h3 hp i hi
  unfold collGo
  repeat' split
  all_goals first
   | exact nil
   | skip
  ·rename_i hk hc hal
   simp only [not_or] at hc
   have hbv : badPos m.value = false := by simp only [badPos,Bool.or_eq_false_iff,decide_eq_false_iff_not]; omega
   have hg := hm hk
   rw [b6] at hg
   have hmm := msgsTo_g hn G c.round 3
   rw [h2]
   refine ⟨⟨checkCo_zero.2 ⟨by omega,hz.2.1,hz.2.2.1,by omega,by rw [List.length_set]; omega,by rw [List.length_replicate]; omega,fun hv=>(hv0 hv).elim,any_setp hz.2.2.2.2.2.2.2 hbv⟩,rfl,fun hp=>absurd hp (by simp),fun _ i hi=>?_⟩,rfl,hmm.1,hmm.2⟩
   refine upd (Decidable.not_not.mp hc.1) hg i ?_
   have hi2 : i < (c.seen.set m.frm.toNat true).length := by rw [List.length_set]; omega
   have := (List.all_eq_true.1 hal) _ (List.getElem_mem hi2)
   rw [List.getElem?_eq_getElem hi2]
   exact congrArg some this
  ·rename_i hk hc hal
   simp only [not_or] at hc
   have hbv : badPos m.value = false := by simp only [badPos,Bool.or_eq_false_iff,decide_eq_false_iff_not]; omega
   have hg := hm hk
   rw [b6] at hg
   refine ⟨⟨checkCo_zero.2 ⟨hz.1,hz.2.1,hz.2.2.1,hz.2.2.2.1,by rw [List.length_set]; exact hz.2.2.2.2.1,by rw [List.length_set]; exact hz.2.2.2.2.2.1,fun hv=>(hv0 hv).elim,any_setp hz.2.2.2.2.2.2.2 hbv⟩,h2,fun hp=>upd hp hg,fun hp=>?_⟩,rfl,Nat.zero_le _,fun x hx=>by cases hx⟩
   exfalso
   rcases hp with hp | hp
   ·simp only at hp; omega
   ·exact hv0 hp
  ·have hmm := msgsTo_g hn G c.round 24
   have := giveUp_g h
   rw [h2] at this ⊢
   exact ⟨this,rfl,hmm.1,hmm.2⟩
  ·rename_i hc _ _
   exact ⟨⟨checkCo_zero.2 ⟨hz.1,hz.2.1,hz.2.2.1,⟨by omega,by omega⟩,hz.2.2.2.2.1,by rw [List.length_set]; exact hz.2.2.2.2.2.1,fun _=>rfl,hz.2.2.2.2.2.2.2⟩,h2,fun hp=>absurd hp (by simp),fun _=>h4 (.inl (Decidable.not_not.mp hc))⟩,rfl,Nat.zero_le _,fun x hx=>by cases hx⟩
  ·rename_i hc _ _
   refine ⟨⟨checkCo_zero.2 ⟨hz.1,hz.2.1,hz.2.2.1,hz.2.2.2.1,hz.2.2.2.2.1,by rw [List.length_set]; exact hz.2.2.2.2.2.1,hz.2.2.2.2.2.2.1,hz.2.2.2.2.2.2.2⟩,h2,fun hp=>?_,h4⟩,rfl,Nat.zero_le _,fun x hx=>by cases hx⟩
   simp only at hp
   have := Decidable.not_not.mp hc
   omega
structure NdS where
 now : Int
 co : Co
 mbs : List Mb
 nums : List (List Int)
 whole : Hist
 msgs : List Msg
structure GM (m : Mb) (g : List (Int × Int)) : Prop where
 up : g.Pairwise fun a b=>a.1 < b.1 ∧ a.2 ≤ b.2
 le : ∀ p,p ∈ g → p.1 ≤ m.round ∧ p.2 ≤ m.issued
 now : m.round = 0 ∨ (m.round,m.position) ∈ g
theorem GM.of {m m' : Mb} {g : List (Int × Int)} (h : GM m g) (h1 : m'.round = m.round) (h2 : m'.position = m.position) (h3 : m.issued ≤ m'.issued) : GM m' g :=
 ⟨h.up,fun p hp=>by have := h.le p hp; rw [h1]; omega,by rw [h1,h2]; exact h.now⟩
theorem end_gm (m : Mb) (now : Int) (g : Msg) : (endMb m now g).1.round = m.round ∧ (endMb m now g).1.position = m.position ∧ (endMb m now g).1.issued = m.issued ∧ (∀ x,x ∈ (endMb m now g).2.2 → x.to = g.frm ∧ x.frm = g.to ∧ x.kind = 4) ∧ (endMb m now g).2.2.length ≤ 8 := by
 have ans : ∀ v,(∀ x,x ∈ ansTo g 4 v → x.to = g.frm ∧ x.frm = g.to ∧ x.kind = 4) ∧ (ansTo g 4 v).length ≤ 8 := fun v=>⟨fun x hx=>by rw [List.mem_singleton.1 hx]; exact ⟨rfl,rfl,rfl⟩,by simp [ansTo]⟩
 unfold endMb
 split
 ·exact ⟨rfl,rfl,rfl,(ans _).1,(ans _).2⟩
 ·split
  ·exact ⟨rfl,rfl,rfl,(ans _).1,(ans _).2⟩
  ·exact ⟨rfl,rfl,rfl,(ans _).1,(ans _).2⟩
theorem obey_gm {m : Mb} {g : List (Int × Int)} (h : GM m g) (now p : Int) (x : Msg) : ∃ g',(∀ q,q ∈ g → q ∈ g') ∧ GM (obeyMb m now p x).1 g' ∧ (∀ y,y ∈ (obeyMb m now p x).2.2 → y.to = x.frm ∧ y.frm = x.to ∧ (y.kind = 2 → (y.number,y.value) ∈ g')) ∧ (obeyMb m now p x).2.2.length ≤ 8 := by
 have nil : ∃ g',(∀ q,q ∈ g → q ∈ g') ∧ GM m g' ∧ (∀ y,y ∈ ([] : List Msg) → y.to = x.frm ∧ y.frm = x.to ∧ (y.kind = 2 → (y.number,y.value) ∈ g')) ∧ ([] : List Msg).length ≤ 8 := ⟨g,fun _ h=>h,h,(fun y hy=>by cases hy),Nat.zero_le _⟩
 unfold obeyMb
 split
 ·exact nil
 ·rename_i hc
  simp only [not_or] at hc
  split
  ·split
   ·rename_i hk hn
    refine ⟨g ++ [(x.number,m.issued)],fun q hq=>List.mem_append_left _ hq,⟨?_,fun q hq=>?_,.inr (List.mem_append_right _ (List.mem_singleton.2 rfl))⟩,fun y hy=>?_,by simp [ansTo]⟩
    ·rw [List.pairwise_append]
     refine ⟨h.up,List.pairwise_singleton _ _,fun a ha b hb=>?_⟩
     have := h.le a ha
     rw [List.mem_singleton.1 hb]
     exact ⟨by simp only; omega,this.2⟩
    ·simp only
     rcases List.mem_append.1 hq with hq | hq
     ·have := h.le q hq; omega
     ·rw [List.mem_singleton.1 hq]; exact ⟨Int.le_refl _,Int.le_refl _⟩
    ·rw [List.mem_singleton.1 hy]
     exact ⟨rfl,rfl,fun _=>List.mem_append_right _ (List.mem_singleton.2 rfl)⟩
   ·split
    ·rename_i hk hn he
     refine ⟨g,fun _ h=>h,h,fun y hy=>?_,by simp [ansTo]⟩
     rw [List.mem_singleton.1 hy]
     refine ⟨rfl,rfl,fun _=>?_⟩
     rcases h.now with h0 | h0
     ·omega
     ·rw [he.1]; exact h0
    ·exact nil
  ·split
   ·split
    ·obtain ⟨e1,e2,e3,e4,e5⟩ := end_gm m (clampT 0 now) x
     exact ⟨g,fun _ h=>h,h.of e1 e2 (by omega),fun y hy=>by obtain ⟨a,b,c⟩ := e4 y hy; exact ⟨a,b,fun hk=>by omega⟩,e5⟩
    ·split
     ·exact ⟨g,fun _ h=>h,h,fun y hy=>by rw [List.mem_singleton.1 hy]; exact ⟨rfl,rfl,fun hk=>absurd (show (4 : Int) = 2 from hk) (by decide)⟩,by simp [ansTo]⟩
     ·exact nil
   ·split
    ·split
     ·exact ⟨g,fun _ h=>h,h.of rfl rfl (Int.le_refl _),(fun y hy=>by cases hy),Nat.zero_le _⟩
     ·exact nil
    ·exact nil
theorem rel_gm {m : Mb} {g : List (Int × Int)} (h : GM m g) (now : Int) : GM (relMb m now).1 g := by
 unfold relMb
 split
 ·exact h
 ·exact h.of rfl rfl (Int.le_refl _)
def ackNs (h : Hist) (l ws : List Int) : Hist := ⟨h.sizes,h.writes,h.events ++ ws.map fun w=>⟨1,l.getD w.toNat 0⟩⟩
structure AckOk (h : Hist) (l ws : List Int) : Prop where
 ck : (checkH h).1 = 0
 nd : ws.Nodup
 rng : ∀ w,w ∈ ws → 0 ≤ w ∧ w < l.length ∧ (0 ≤ l.getD w.toNat 0 ∧ l.getD w.toNat 0 < h.writes.length) ∧ (⟨1,l.getD w.toNat 0⟩ : Ev) ∉ h.events
 inj : ∀ w w',w ∈ ws → w' ∈ ws → l.getD w.toNat 0 = l.getD w'.toNat 0 → w = w'
theorem ackH_is {h : Hist} {n : Int} (hc : (checkH h).1 = 0) (h1 : 0 ≤ n ∧ n < (h.writes.length : Int)) (h2 : (⟨1,n⟩ : Ev) ∉ h.events) : ackH h n = (⟨h.sizes,h.writes,h.events ++ [⟨1,n⟩]⟩,0) := by
 refine ackH_ok (by simp [hc]) (by omega) fun hx=>?_
 rcases atEv_cases h.events ⟨1,n⟩ with ⟨e,_⟩ | ⟨_,_,hm⟩
 ·omega
 ·exact h2 hm
theorem AckOk.step {h : Hist} {l r : List Int} {w : Int} (a : AckOk h l (w :: r)) : ackH h (l.getD w.toNat 0) = (ackNs h l [w],0) ∧ AckOk (ackNs h l [w]) l r := by
 obtain ⟨a1,a2,a3,a4⟩ := a
 obtain ⟨b1,b2,b3,b4⟩ := a3 w List.mem_cons_self
 have e := ackH_is a1 b3 b4
 rw [List.nodup_cons] at a2
 have hc := ackH_check (h := h) (n := l.getD w.toNat 0) (by rw [e])
 rw [e] at hc
 refine ⟨e,hc,a2.2,fun x hx=>?_,fun x y hx hy=>a4 x y (List.mem_cons_of_mem _ hx) (List.mem_cons_of_mem _ hy)⟩
 obtain ⟨c1,c2,c3,c4⟩ := a3 x (List.mem_cons_of_mem _ hx)
 refine ⟨c1,c2,c3,fun hm=>?_⟩
 rcases List.mem_append.1 hm with hm | hm
 ·exact c4 hm
 ·have := List.mem_singleton.1 hm
  simp only [Ev.mk.injEq,true_and] at this
  have := a4 x w (List.mem_cons_of_mem _ hx) List.mem_cons_self this
  subst this
  exact a2.1 hx
theorem ackNs_nil (h : Hist) (l : List Int) : ackNs h l [] = h := by cases h; simp [ackNs]
theorem ackNs_app (h : Hist) (l a b : List Int) : ackNs (ackNs h l a) l b = ackNs h l (a ++ b) := by simp [ackNs]
theorem AckOk.all {h : Hist} {l : List Int} : ∀ {ws : List Int},AckOk h l ws → (checkH (ackNs h l ws)).1 = 0
 | [],a=>by rw [ackNs_nil]; exact a.ck
 | w :: r,a=>by
  have := a.step.2.all
  rw [ackNs_app] at this
  exact this
structure NOk (s : NdS) (n : Nat) (G : Gh) (t : Nat) : Prop where
 n1 : 1 ≤ n ∧ n ≤ 3
 nb : s.mbs.length = n
 nn : s.nums.length = n
 now : 0 ≤ s.now ∧ s.now ≤ 8 * t
 co : CoG s.co n G
 mok : ∀ (i : Nat) m,s.mbs[i]? = some m → MbOk m ∧ GM m (G i) ∧ m.waiting.length ≤ t ∧ m.held.length ≤ t
 iss : ∀ (i : Nat) m l,s.mbs[i]? = some m → s.nums[i]? = some l → m.issued = (l.length : Int)
 til : ∀ (i : Nat) l,s.nums[i]? = some l → l.length ≤ t
 hok : (checkH s.whole).1 = 0
 hsz : s.whole.sizes = [(n : Int)]
 hwl : s.whole.writes.length ≤ t ∧ ∀ w,w ∈ s.whole.writes → w.data.length ≤ 1
 hel : s.whole.events.length ≤ 100 * t ∧ ∀ k,(⟨1,k⟩ : Ev) ∈ s.whole.events → k < (s.whole.writes.length : Int)
 num : ∀ (i : Nat) l (w : Nat) k,s.nums[i]? = some l → l[w]? = some k → 0 ≤ k ∧ k < (s.whole.writes.length : Int)
 inj : ∀ (i j : Nat) l l' (w w' : Nat) k,s.nums[i]? = some l → s.nums[j]? = some l' → l[w]? = some k → l'[w']? = some k → i = j ∧ w = w'
 opn : ∀ (i : Nat) m l (w : Nat) k,s.mbs[i]? = some m → s.nums[i]? = some l → l[w]? = some k → (((w : Int) ∈ m.waiting ∨ (w : Int) ∈ m.held) ↔ (⟨1,k⟩ : Ev) ∉ s.whole.events)
 ms : ∀ x,x ∈ s.msgs → MsgG n G x
 ml : s.msgs.length ≤ 8 * t
section
variable {s : NdS} {n t : Nat} {G G' : Gh}
theorem set_at {α : Type} {l : List α} {i j : Nat} {x y : α} (h : (l.set i x)[j]? = some y) : (j = i ∧ y = x) ∨ (j ≠ i ∧ l[j]? = some y) := by
 by_cases hj : i = j
 ·subst hj
  have hi : i < l.length := by
   have := (List.getElem?_eq_some_iff.1 h).1
   rwa [List.length_set] at this
  rw [List.getElem?_set_self hi] at h
  exact .inl ⟨rfl,(Option.some.inj h).symm⟩
 ·rw [List.getElem?_set_ne hj] at h
  exact .inr ⟨Ne.symm hj,h⟩
theorem getD_nat {l : List Int} {w : Nat} {k : Int} (h : l[w]? = some k) : l.getD (Int.toNat (w : Int)) 0 = k := by
 rw [Int.toNat_natCast,List.getD_eq_getElem?_getD,h]; rfl
theorem NOk.acks (h : NOk s n G t) {i : Nat} {m : Mb} {l ws : List Int} (hm : s.mbs[i]? = some m) (hl : s.nums[i]? = some l) (hn : ws.Nodup) (hw : ∀ w,w ∈ ws → (0 ≤ w ∧ w < m.issued) ∧ (w ∈ m.waiting ∨ w ∈ m.held)) : AckOk s.whole l ws := by
 have hi := h.iss i m l hm hl
 have key : ∀ w,w ∈ ws → ∃ (q : Nat) (k : Int),w = (q : Int) ∧ l[q]? = some k := fun w hx=>by
  obtain ⟨⟨a,b⟩,_⟩ := hw w hx
  obtain ⟨q,rfl⟩ := Int.eq_ofNat_of_zero_le a
  exact ⟨q,_,rfl,List.getElem?_eq_getElem (by omega)⟩
 refine ⟨h.hok,hn,fun w hx=>?_,fun w w' hx hx' e=>?_⟩
 ·obtain ⟨q,k,rfl,hk⟩ := key w hx
  obtain ⟨⟨a,b⟩,c⟩ := hw _ hx
  rw [getD_nat hk]
  exact ⟨a,by omega,h.num i l q k hl hk,(h.opn i m l q k hm hl hk).1 c⟩
 ·obtain ⟨q,k,rfl,hk⟩ := key w hx
  obtain ⟨q',k',rfl,hk'⟩ := key w' hx'
  rw [getD_nat hk,getD_nat hk'] at e
  subst e
  have := (h.inj i i l l q q' k hl hl hk hk').2
  omega
theorem NOk.put (h : NOk s n G t) (ht : t ≤ 99) {i : Nat} {m m' : Mb} {l ws : List Int} (hm : s.mbs[i]? = some m) (hl : s.nums[i]? = some l) (ha : AckOk s.whole l ws) (hwl : ws.length ≤ t + 1) (ok : MbOk m') (hi : m'.issued = m.issued)
  (hG : ∀ j p,p ∈ G j → p ∈ G' j) (hGi : GM m' (G' i)) (hGo : ∀ j,j ≠ i → G' j = G j) (hlw : m'.waiting.length ≤ t + 1 ∧ m'.held.length ≤ t + 1)
  (ho : ∀ w : Nat,(w : Int) < m.issued → (((w : Int) ∈ m'.waiting ∨ (w : Int) ∈ m'.held) ↔ (((w : Int) ∈ m.waiting ∨ (w : Int) ∈ m.held) ∧ (w : Int) ∉ ws))) :
  NOk { s with mbs := s.mbs.set i m',whole := ackNs s.whole l ws } n G' (t + 1) := by
 have hiss := h.iss i m l hm hl
 have mem : ∀ k,(⟨1,k⟩ : Ev) ∈ (ackNs s.whole l ws).events ↔ (⟨1,k⟩ : Ev) ∈ s.whole.events ∨ ∃ w,w ∈ ws ∧ l.getD w.toNat 0 = k := fun k=>by
  simp only [ackNs,List.mem_append,List.mem_map,Ev.mk.injEq,true_and]
 have hnow := h.now; have hhw := h.hwl; have hhe := h.hel; have hml := h.ml
 refine ⟨h.n1,by simp only [List.length_set]; exact h.nb,h.nn,⟨h.now.1,by simp only; omega⟩,h.co.mono hG,fun j x hx=>?_,fun j x l' hx hl'=>?_,fun j l' hl'=>?_,ha.all,h.hsz,⟨by simp only [ackNs]; omega,h.hwl.2⟩,?_,h.num,h.inj,fun j x l' w k hx hl' hk=>?_,fun x hx=>(h.ms x hx).mono hG,by simp only; omega⟩
 ·rcases set_at hx with ⟨rfl,rfl⟩ | ⟨hj,hx⟩
  ·exact ⟨ok,hGi,hlw⟩
  ·obtain ⟨a,b,c,d⟩ := h.mok j x hx
   exact ⟨a,by rw [hGo j hj]; exact b,by omega,by omega⟩
 ·rcases set_at hx with ⟨rfl,rfl⟩ | ⟨hj,hx⟩
  ·rw [hi]; exact h.iss j m l' hm hl'
  ·exact h.iss j x l' hx hl'
 ·have := h.til j l' hl'; omega
 ·refine ⟨by simp only [ackNs,List.length_append,List.length_map]; omega,fun k hk=>?_⟩
  rcases (mem k).1 hk with hk | ⟨v,hv,rfl⟩
  ·exact h.hel.2 k hk
  ·exact (ha.rng v hv).2.2.1.2
 ·have hmk := mem k
  simp only at hl' ⊢
  rcases set_at hx with ⟨rfl,rfl⟩ | ⟨hj,hx⟩
  ·rw [hl] at hl'
   cases hl'
   have hwi : (w : Int) < m.issued := by have := (List.getElem?_eq_some_iff.1 hk).1; omega
   rw [ho w hwi,h.opn j m l w k hm hl hk,hmk,not_or]
   refine and_congr_right fun _=>?_
   constructor
   ·rintro hn ⟨v,hv,he⟩
    have hr := ha.rng v hv
    obtain ⟨q,rfl⟩ := Int.eq_ofNat_of_zero_le hr.1
    have hq : l[q]? = some k := by
     rw [← he,Int.toNat_natCast,List.getD_eq_getElem?_getD,List.getElem?_eq_getElem (by omega)]; rfl
    have := (h.inj j j l l q w k hl hl hq hk).2
    subst this
    exact hn hv
   ·intro hn hv
    exact hn ⟨_,hv,getD_nat hk⟩
  ·rw [h.opn j x l' w k hx hl' hk,hmk,not_or]
   refine ⟨fun hn=>⟨hn,?_⟩,fun hn=>hn.1⟩
   rintro ⟨v,hv,he⟩
   have hr := ha.rng v hv
   obtain ⟨q,rfl⟩ := Int.eq_ofNat_of_zero_le hr.1
   have hq : l[q]? = some k := by
    rw [← he,Int.toNat_natCast,List.getD_eq_getElem?_getD,List.getElem?_eq_getElem (by omega)]; rfl
   exact hj (h.inj j i l' l w q k hl' hl hk hq).1
end
section
variable {s : NdS} {n t : Nat} {G : Gh}
theorem NOk.up (h : NOk s n G t) : NOk s n G (t + 1) :=
 ⟨h.n1,h.nb,h.nn,⟨h.now.1,by have := h.now.2; omega⟩,h.co,fun i m hm=>by obtain ⟨a,b,c,d⟩ := h.mok i m hm; exact ⟨a,b,by omega,by omega⟩,h.iss,fun i l hl=>by have := h.til i l hl; omega,h.hok,h.hsz,⟨by have := h.hwl.1; omega,h.hwl.2⟩,⟨by have := h.hel.1; omega,h.hel.2⟩,h.num,h.inj,h.opn,h.ms,by have := h.ml; omega⟩
theorem NOk.send (h : NOk s n G t) {l : List Msg} (hl : ∀ x,x ∈ l → MsgG n G x) (hml : s.msgs.length + l.length ≤ 8 * t) : NOk { s with msgs := s.msgs ++ l } n G t :=
 ⟨h.n1,h.nb,h.nn,h.now,h.co,h.mok,h.iss,h.til,h.hok,h.hsz,h.hwl,h.hel,h.num,h.inj,h.opn,fun x hx=>(List.mem_append.1 hx).elim (h.ms x) (hl x),by simp only [List.length_append]; exact hml⟩
theorem NOk.coord (h : NOk s n G t) {c : Co} (hc : CoG c n G) : NOk { s with co := c } n G t :=
 ⟨h.n1,h.nb,h.nn,h.now,hc,h.mok,h.iss,h.til,h.hok,h.hsz,h.hwl,h.hel,h.num,h.inj,h.opn,h.ms,h.ml⟩
theorem NOk.tick (h : NOk s n G t) {d : Int} (h0 : 0 ≤ d) (h1 : d ≤ 8) : NOk { s with now := s.now + d } n G (t + 1) := by
 have hn := h.now
 have := h.up
 exact ⟨h.n1,h.nb,h.nn,⟨by simp only; omega,by simp only; omega⟩,h.co,this.mok,h.iss,this.til,h.hok,h.hsz,this.hwl,this.hel,h.num,h.inj,h.opn,h.ms,this.ml⟩
theorem NOk.issue (h : NOk s n G t) (ht : t ≤ 99) {i : Nat} {m : Mb} {l : List Int} (hm : s.mbs[i]? = some m) (hl : s.nums[i]? = some l) (x : Sec) :
  issueMb m = (Mb.mk m.round m.position m.thawed (m.issued + 1) m.frozen m.upto (m.waiting ++ [m.issued]) m.held,m.issued) ∧ m.issued = (l.length : Int) ∧
  issueH s.whole (Wt.mk 0 i [x]) = (Hist.mk s.whole.sizes (s.whole.writes ++ [Wt.mk 0 i [x]]) (s.whole.events ++ [Ev.mk 0 s.whole.writes.length]),(s.whole.writes.length : Int),(0 : Int)) ∧
  NOk { s with mbs := s.mbs.set i (issueMb m).1,nums := s.nums.set i (l ++ [(s.whole.writes.length : Int)]),whole := Hist.mk s.whole.sizes (s.whole.writes ++ [Wt.mk 0 i [x]]) (s.whole.events ++ [Ev.mk 0 s.whole.writes.length]) } n G (t + 1) := by
 have hiss := h.iss i m l hm hl
 have htil := h.til i l hl
 obtain ⟨mo,mg,mw,mh⟩ := h.mok i m hm
 obtain ⟨i1,i2⟩ := issue_mb mo (by omega)
 have hin : i < n := by have := (List.getElem?_eq_some_iff.1 hm).1; rw [h.nb] at this; exact this
 have hwl := h.hwl; have hel := h.hel; have hml := h.ml; have hnow := h.now
 have e : issueH s.whole (Wt.mk 0 i [x]) = (Hist.mk s.whole.sizes (s.whole.writes ++ [Wt.mk 0 i [x]]) (s.whole.events ++ [Ev.mk 0 s.whole.writes.length]),(s.whole.writes.length : Int),(0 : Int)) := by
  refine issueH_ok (by simp [h.hok]) (by omega) ?_
  rw [h.hsz]
  unfold fitsErr
  simp
  omega
 have hc := issueH_check (h := s.whole) (w := Wt.mk 0 i [x]) (by rw [e])
 rw [e] at hc
 have evm : ∀ k,(⟨1,k⟩ : Ev) ∈ s.whole.events ++ [(⟨0,s.whole.writes.length⟩ : Ev)] ↔ (⟨1,k⟩ : Ev) ∈ s.whole.events := fun k=>by simp
 have old : ∀ (j : Nat) l' (w : Nat) k,(s.nums.set i (l ++ [(s.whole.writes.length : Int)]))[j]? = some l' → l'[w]? = some k → (j = i ∧ w = l.length ∧ k = s.whole.writes.length) ∨ ∃ l0,s.nums[j]? = some l0 ∧ l0[w]? = some k := fun j l' w k hl' hk=>by
  rcases set_at hl' with ⟨rfl,rfl⟩ | ⟨hj,hl'⟩
  ·by_cases hw : w < l.length
   ·rw [List.getElem?_append_left hw] at hk
    exact .inr ⟨l,hl,hk⟩
   ·rw [List.getElem?_append_right (by omega)] at hk
    obtain ⟨q,hq⟩ : ∃ q,w - l.length = q := ⟨_,rfl⟩
    rw [hq] at hk
    cases q with
    | zero=>simp at hk; exact .inl ⟨rfl,by omega,hk.symm⟩
    | succ q=>simp at hk
  ·exact .inr ⟨l',hl',hk⟩
 refine ⟨i2,hiss,e,h.n1,by simp only [List.length_set]; exact h.nb,by simp only [List.length_set]; exact h.nn,⟨hnow.1,by simp only; omega⟩,h.co,fun j y hy=>?_,fun j y l' hy hl'=>?_,fun j l' hl'=>?_,hc,h.hsz,⟨by simp only [List.length_append,List.length_cons,List.length_nil]; omega,fun y hy=>?_⟩,⟨by simp only [List.length_append,List.length_cons,List.length_nil]; omega,fun k hk=>?_⟩,fun j l' w k hl' hk=>?_,fun j j' l1 l2 w w' k h1 h2 k1 k2=>?_,fun j y l' w k hy hl' hk=>?_,h.ms,by simp only; omega⟩
 ·rcases set_at hy with ⟨rfl,rfl⟩ | ⟨hj,hy⟩
  ·refine ⟨i1,?_,?_,?_⟩
   ·rw [i2]; exact mg.of rfl rfl (by simp only; omega)
   ·rw [i2]; simp only [List.length_append,List.length_cons,List.length_nil]; omega
   ·rw [i2]; simp only; omega
  ·obtain ⟨a,b,c,d⟩ := h.mok j y hy
   exact ⟨a,b,by omega,by omega⟩
 ·rcases set_at hy with ⟨rfl,rfl⟩ | ⟨hj,hy⟩
  ·rcases set_at hl' with ⟨_,rfl⟩ | ⟨hj,_⟩
   ·rw [i2]; simp only [List.length_append,List.length_cons,List.length_nil]; omega
   ·exact absurd rfl hj
  ·rcases set_at hl' with ⟨hj',_⟩ | ⟨_,hl'⟩
   ·exact absurd hj' hj
   ·exact h.iss j y l' hy hl'
 ·rcases set_at hl' with ⟨rfl,rfl⟩ | ⟨hj,hl'⟩
  ·simp only [List.length_append,List.length_cons,List.length_nil]; omega
  ·have := h.til j l' hl'; omega
 ·rcases List.mem_append.1 hy with hy | hy
  ·exact hwl.2 y hy
  ·rw [List.mem_singleton.1 hy]; simp
 ·simp only [List.length_append,List.length_cons,List.length_nil]
  have := hel.2 k ((evm k).1 hk); omega
 ·simp only [List.length_append,List.length_cons,List.length_nil]
  rcases old j l' w k hl' hk with ⟨_,_,rfl⟩ | ⟨l0,a,b⟩
  ·omega
  ·have := h.num j l0 w k a b; omega
 ·rcases old j l1 w k h1 k1 with ⟨a1,a2,a3⟩ | ⟨l0,a1,a2⟩
  ·rcases old j' l2 w' k h2 k2 with ⟨b1,b2,b3⟩ | ⟨l0',b1,b2⟩
   ·exact ⟨by omega,by omega⟩
   ·have := h.num j' l0' w' k b1 b2; omega
  ·rcases old j' l2 w' k h2 k2 with ⟨b1,b2,b3⟩ | ⟨l0',b1,b2⟩
   ·have := h.num j l0 w k a1 a2; omega
   ·exact h.inj j j' l0 l0' w w' k a1 b1 a2 b2
 ·simp only
  rw [evm]
  rcases set_at hy with ⟨rfl,rfl⟩ | ⟨hj,hy⟩
  ·rw [i2]
   simp only
   rcases old j l' w k hl' hk with ⟨_,rfl,rfl⟩ | ⟨l0,a1,a2⟩
   ·refine ⟨fun _ hx=>?_,fun _=>.inl (List.mem_append_right _ (List.mem_singleton.2 hiss.symm))⟩
    have := hel.2 _ hx
    omega
   ·rw [hl] at a1
    cases a1
    have hwl' : w < l.length := (List.getElem?_eq_some_iff.1 a2).1
    rw [← h.opn j m l w k hm hl a2]
    refine or_congr_left ?_
    rw [List.mem_append,List.mem_singleton]
    exact ⟨fun h=>h.elim id fun h=>by omega,.inl⟩
  ·rcases set_at hl' with ⟨hj',_⟩ | ⟨_,hl'⟩
   ·exact absurd hj' hj
   ·exact h.opn j y l' w k hy hl' hk
end
def Nx (s : NdS) (n : Nat) (G : Gh) (t : Nat) (s' : NdS) : Prop := ∃ G',NOk s' n G' (t + 1) ∧ (∀ i p,p ∈ G i → p ∈ G' i) ∧ s.co.round ≤ s'.co.round
section
variable {s : NdS} {n t : Nat} {G : Gh}
theorem NOk.held (h : NOk s n G t) {i : Nat} {m m' : Mb} {l acks : List Int} (hm : s.mbs[i]? = some m) (hl : s.nums[i]? = some l) (st : Mstep m m' acks) : AckOk s.whole l acks ∧ acks.length ≤ t := by
 obtain ⟨mo,mg,mw,mh⟩ := h.mok i m hm
 rcases st.how with ⟨rfl,_⟩ | ⟨rfl,_,_⟩
 ·exact ⟨h.acks hm hl List.nodup_nil fun w hw=>(by cases hw),Nat.zero_le _⟩
 ·exact ⟨h.acks hm hl mo.hn fun w hw=>⟨(mo.hi w hw).1,.inr hw⟩,mh⟩
theorem NOk.mst (h : NOk s n G t) (ht : t ≤ 99) {i : Nat} {m m' : Mb} {l acks : List Int} {G' : Gh} (hm : s.mbs[i]? = some m) (hl : s.nums[i]? = some l) (st : Mstep m m' acks) (hG : ∀ j p,p ∈ G j → p ∈ G' j) (hGi : GM m' (G' i)) (hGo : ∀ j,j ≠ i → G' j = G j) :
  NOk { s with mbs := s.mbs.set i m',whole := ackNs s.whole l acks } n G' (t + 1) := by
 obtain ⟨mo,mg,mw,mh⟩ := h.mok i m hm
 obtain ⟨a1,a2⟩ := h.held hm hl st
 refine h.put ht hm hl a1 (by omega) st.ok st.iss hG hGi hGo ⟨by rw [st.wait]; omega,?_⟩ fun w hw=>?_
 ·rcases st.how with ⟨_,e⟩ | ⟨_,e,_⟩
  ·rw [e]; omega
  ·rw [e]; exact Nat.zero_le _
 ·rw [st.wait]
  rcases st.how with ⟨rfl,e⟩ | ⟨rfl,e,_⟩
  ·rw [e]; simp
  ·rw [e]
   simp only [List.not_mem_nil,or_false]
   exact ⟨fun hx=>⟨.inl hx,fun hh=>(mo.hi _ hh).2 hx⟩,fun ⟨hx,hn⟩=>hx.resolve_right hn⟩
theorem NOk.rel (h : NOk s n G t) (ht : t ≤ 99) {i : Nat} {m : Mb} {l : List Int} (hm : s.mbs[i]? = some m) (hl : s.nums[i]? = some l) : AckOk s.whole l (relMb m s.now).2 ∧ Nx s n G t { s with mbs := s.mbs.set i (relMb m s.now).1,whole := ackNs s.whole l (relMb m s.now).2 } := by
 obtain ⟨mo,mg,mw,mh⟩ := h.mok i m hm
 have st := rel_step mo s.now
 exact ⟨(h.held hm hl st).1,G,h.mst ht hm hl st (fun _ _ h=>h) (rel_gm mg _) (fun _ _=>rfl),fun _ _ h=>h,Int.le_refl _⟩
theorem NOk.obey (h : NOk s n G t) (ht : t ≤ 99) {x : Msg} (hx : x ∈ s.msgs) (p : Int) {i : Nat} (hi : x.to = i) (hin : i < n) {m : Mb} {l : List Int} (hm : s.mbs[i]? = some m) (hl : s.nums[i]? = some l) :
  AckOk s.whole l (obeyMb m s.now p x).2.1 ∧ (obeyMb m s.now p x).2.2.length ≤ 8 ∧ Nx s n G t { s with mbs := s.mbs.set i (obeyMb m s.now p x).1,whole := ackNs s.whole l (obeyMb m s.now p x).2.1,msgs := s.msgs ++ (obeyMb m s.now p x).2.2 } := by
 obtain ⟨mo,mg,mw,mh⟩ := h.mok i m hm
 have st := obey_step mo s.now p x
 obtain ⟨g',g1,g2,g3,g4⟩ := obey_gm mg s.now p x
 have hfr : x.frm = n := by
  rcases h.ms x hx with ⟨_,a⟩ | ⟨a,_⟩
  ·exact a
  ·omega
 have hml := h.ml
 have hs := h.mst (G' := fun j=>if j = i then g' else G j) ht hm hl st (fun j q hq=>by
  by_cases hj : j = i
  ·subst hj; simp only [if_true]; exact g1 q hq
  ·simp only [hj,if_false]; exact hq) (by simp only [if_true]; exact g2) (fun j hj=>by simp only [hj,if_false])
 refine ⟨(h.held hm hl st).1,g4,_,hs.send (fun y hy=>?_) (by simp only; omega),fun j q hq=>?_,Int.le_refl _⟩
 ·obtain ⟨b1,b2,b3⟩ := g3 y hy
  refine .inr ⟨by omega,⟨by omega,by omega⟩,fun hk=>?_⟩
  have : y.frm.toNat = i := by omega
  simp only [this,if_true]
  exact b3 hk
 ·by_cases hj : j = i
  ·subst hj; simp only [if_true]; exact g1 q hq
  ·simp only [hj,if_false]; exact hq
theorem NOk.dur (h : NOk s n G t) (ht : t ≤ 99) {i : Nat} {m : Mb} {l : List Int} (hm : s.mbs[i]? = some m) (hl : s.nums[i]? = some l) {x : Int} (hx : x ∈ m.waiting) :
  (durMb m x).2.2 = 0 ∧ AckOk s.whole l (durMb m x).2.1 ∧ Nx s n G t { s with mbs := s.mbs.set i (durMb m x).1,whole := ackNs s.whole l (durMb m x).2.1 } := by
 obtain ⟨mo,mg,mw,mh⟩ := h.mok i m hm
 obtain ⟨d1,d2,d3,d4,d5,d6,d7⟩ := dur_mb mo hx
 have hf : ∀ y,y ∈ (m.waiting.filter fun y=>y != x) ↔ y ∈ m.waiting ∧ y ≠ x := fun y=>by simp [List.mem_filter]
 have hfl := List.length_filter_le (fun y=>y != x) m.waiting
 have ha : AckOk s.whole l (durMb m x).2.1 := by
  rcases d7 with ⟨e,_⟩ | ⟨e,_⟩
  ·rw [e]; exact h.acks hm hl List.nodup_nil fun w hw=>(by cases hw)
  ·rw [e]; exact h.acks hm hl (by simp) fun w hw=>by rw [List.mem_singleton.1 hw]; exact ⟨mo.wi x hx,.inl hx⟩
 refine ⟨d2,ha,G,h.put ht hm hl ha ?_ d1 d5 (fun _ _ h=>h) (mg.of d3 d4 (by omega)) (fun _ _=>rfl) ⟨by rw [d6]; omega,?_⟩ fun w hw=>?_,fun _ _ h=>h,Int.le_refl _⟩
 ·rcases d7 with ⟨e,_⟩ | ⟨e,_⟩ <;> rw [e] <;> simp
 ·rcases d7 with ⟨_,e⟩ | ⟨_,e,_⟩
  ·rw [e]; simp only [List.length_append,List.length_cons,List.length_nil]; omega
  ·rw [e]; omega
 ·rw [d6,hf]
  rcases d7 with ⟨e1,e2⟩ | ⟨e1,e2,e3⟩
  ·rw [e1,e2]
   simp only [List.mem_append,List.mem_singleton,List.not_mem_nil,not_false_eq_true,and_true]
   constructor
   ·rintro (⟨a,_⟩ | a | rfl)
    ·exact .inl a
    ·exact .inr a
    ·exact .inl hx
   ·rintro (a | a)
    ·by_cases he : (w : Int) = x
     ·exact .inr (.inr he)
     ·exact .inl ⟨a,he⟩
    ·exact .inr (.inl a)
  ·rw [e1,e2,e3]
   simp
theorem NOk.cstep (h : NOk s n G t) {c : Co} {l : List Msg} (hc : CoG c n G) (hr : s.co.round ≤ c.round) (hl : ∀ x,x ∈ l → MsgG n G x) (hll : l.length ≤ 8) : Nx s n G t { s with co := c,msgs := s.msgs ++ l } := by
 have hml := h.ml
 exact ⟨G,(h.up.coord hc).send hl (by simp only; omega),fun _ _ h=>h,hr⟩
theorem NOk.wait (h : NOk s n G t) {d : Int} (h0 : 0 ≤ d) (h1 : d ≤ 8) : Nx s n G t { s with now := s.now + d } := ⟨G,h.tick h0 h1,fun _ _ h=>h,Int.le_refl _⟩
theorem NOk.same (h : NOk s n G t) : Nx s n G t s := ⟨G,h.up,fun _ _ h=>h,Int.le_refl _⟩
def LastG (last : List Int) (c : Co) (n : Nat) (G : Gh) : Prop := last = [] ∨ (last.length = n ∧ ∃ R,R ≤ c.round ∧ ∀ i : Nat,i < n → ∃ v,last[i]? = some v ∧ (R,v) ∈ G i)
theorem LastG.mono {last : List Int} {c c' : Co} {G' : Gh} (h : LastG last c n G) (hG : ∀ i p,p ∈ G i → p ∈ G' i) (hr : c.round ≤ c'.round) : LastG last c' n G' := by
 rcases h with h | ⟨h1,R,h2,h3⟩
 ·exact .inl h
 ·exact .inr ⟨h1,R,by omega,fun i hi=>by obtain ⟨v,v1,v2⟩ := h3 i hi; exact ⟨v,v1,hG _ _ v2⟩⟩
theorem up_at {g : List (Int × Int)} (h : g.Pairwise fun a b=>a.1 < b.1 ∧ a.2 ≤ b.2) {p q : Int × Int} (hp : p ∈ g) (hq : q ∈ g) (hle : p.1 ≤ q.1) : p.2 ≤ q.2 := by
 obtain ⟨i,hi,rfl⟩ := List.mem_iff_getElem.1 hp
 obtain ⟨j,hj,rfl⟩ := List.mem_iff_getElem.1 hq
 rcases Nat.lt_trichotomy i j with hx | hx | hx
 ·exact (List.pairwise_iff_getElem.1 h i j hi hj hx).2
 ·subst hx; exact Int.le_refl _
 ·have := (List.pairwise_iff_getElem.1 h j i hj hi hx).1; omega
theorem NOk.result (h : NOk s n G t) (hv : (resultCo s.co).2 = true) : (resultCo s.co).1 = s.co.positions ∧ s.co.positions.length = n ∧ ∀ i : Nat,i < n → ∃ v,s.co.positions[i]? = some v ∧ (s.co.round,v) ∈ G i := by
 unfold resultCo at hv ⊢
 split at hv
 ·cases hv
 ·rename_i hc
  simp only [not_or,ne_eq,Decidable.not_not,Bool.not_eq_false] at hc
  have hz := ck_of h.co.ok
  have hn := h.co.nn
  rw [if_neg (by simp [hc])]
  exact ⟨rfl,by omega,h.co.c2 (.inr hc.2)⟩
theorem NOk.later (h : NOk s n G t) {last : List Int} (hl : LastG last s.co n G) (hv : (resultCo s.co).2 = true) : (∀ i : Nat,i < last.length → ∃ a b,last[i]? = some a ∧ (resultCo s.co).1[i]? = some b ∧ a ≤ b) ∧ LastG (resultCo s.co).1 s.co n G := by
 obtain ⟨e1,e2,e3⟩ := h.result hv
 rw [e1]
 refine ⟨fun i hi=>?_,.inr ⟨e2,s.co.round,Int.le_refl _,e3⟩⟩
 rcases hl with rfl | ⟨l1,R,l2,l3⟩
 ·exact absurd hi (by simp)
 ·rw [l1] at hi
  obtain ⟨a,a1,a2⟩ := l3 i hi
  obtain ⟨b,b1,b2⟩ := e3 i hi
  have hm := List.getElem?_eq_getElem (l := s.mbs) (i := i) (by rw [h.nb]; exact hi)
  exact ⟨a,b,a1,b1,up_at (h.mok i _ hm).2.1.up a2 b2 l2⟩
end
end Sx
end
noncomputable section
open Go Go.Proofs Sx
namespace Sx
theorem like_leng {α : Type} [Codec α] (d : D) (l : List α) : (d.like l).len = l.length := by rw [D.Is.length (α := α),D.like_to]
theorem hi_back (zd wd ed : D) (h : Hist) : (hiOf zd wd ed h).hist = h := by
 simp only [HiD.hist,hiOf,likeSz,likeWr,likeEv,D.like_to]
def HSm (h : Hist) : Prop := h.sizes.length ≤ 8 ∧ h.writes.length ≤ 4096 ∧ h.events.length ≤ 900000 ∧ ∀ w,w ∈ h.writes → w.data.length ≤ 1
theorem HSm.right {h : Hist} (s : HSm h) (zd wd ed : D) : (hiOf zd wd ed h).Right ∧ (likeEv ed h.events).len ≤ 1000000 := by
 obtain ⟨s1,s2,s3,s4⟩ := s
 refine ⟨⟨D.like_is _ _,D.like_is _ _,D.like_is _ _,?_,?_,?_,?_⟩,?_⟩
 ·simp only [hiOf,likeSz,like_leng]; omega
 ·simp only [hiOf,likeWr,like_leng]; omega
 ·simp only [hiOf,likeEv,like_leng]; omega
 ·intro w hw; simp only [hiOf,likeWr,D.like_to] at hw; have := s4 w hw; omega
 ·simp only [likeEv,like_leng]; omega
theorem NOk.hsm {s : NdS} {n t : Nat} {G : Gh} (h : NOk s n G t) (ht : t ≤ 1000) : HSm s.whole := by
 have h1 := h.hwl; have h2 := h.hel
 exact ⟨by rw [h.hsz]; simp,by omega,by omega,h1.2⟩
structure NW (N : Nat) (ns : List D) (mb ms : D) (s : NdS) : Prop where
 mb : mb.Is Mb ∧ mb.sz = 8 ∧ mb.to Mb = s.mbs
 ms : ms.Is Msg ∧ ms.sz = 8 ∧ ms.to Msg = s.msgs
 len : ns.length = N ∧ s.nums.length = N
 ns : ∀ (i : Nat) (d : D) (l : List Int),ns[i]? = some d → s.nums[i]? = some l → d.Is Int ∧ d.sz = 1 ∧ d.to Int = l
def mvN (N : Nat) (m : Mem) : List (Nat × Nat) :=
 match m.get 100000,m.get 100001 with
 | some (.cells _ cs),some (.cells _ ds)=>((mvAt cs [8,13] 0).1 ++ (mvAt ds (List.range N) 2).1) ++ ((mvAt cs [8,13] 0).2 ++ (mvAt ds (List.range N) 2).2)
 | _,_=>[]
def ksN (N : Nat) : List Nat := [100000,100001,0,1] ++ (List.range N).map fun i=>2 + i
end Sx
namespace Sv
theorem ctAkOk : Ctrs.Ok Try.prog ctAk := by
 intro x hx
 rw [List.mem_singleton.1 hx]; exact ctrOf_ok lawAckB
def NodMem (N : Nat) (s : NdS) (mm : Mem) : Prop := ∃ (ns : List D) (pd sd mb zd wd ed ms : D),NW N ns mb ms s ∧ mm = noM N ns s.now s.co pd sd mb zd wd ed ms s.whole
def NMeth (N : Nat) (f : FuncId) (n : Nat) (args : List (Nat × SV)) (s : NdS) (Φ : NdS → Prop) : Prop :=
 ∀ (w0 : World) (H : HV) (fp : Nat → Nat) (mm : Mem),NodMem N s mm → Runs Try.prog (@Ctx.mk w0 H (pinX fp)) (sysN f n args mm) (RetP w0 H fp fun v m=>v = .lb true ∧ ∃ s',Φ s' ∧ NodMem N s' m)
theorem retNC {w0 : World} {H : HV} {f : Nat → Nat} {Ψ : Mem → Prop} {fn : FuncId} {aw : Option Tmp} {k : List Item} {tmps : List SV} {mem : Mem} {fd : Func} {l : List SV} (N : Nat) (m' : Mem) (h : Ψ m') (ht : ∀ E,(one? l).den E = .bool true := by intro _; rfl)
  (hfn : Try.prog.funcs[fn]? = some fd := by kernel_rfl) (hres : resS Try.prog mem tmps fd.results.toList = some l := by kernel_rfl) (hm : (moveM mem (mvN N mem)).map (pickK (ksN N)) = some m' := by kernel_rfl) (hn : (ksN N).Nodup := by decide)
  (hjm : m'.all (fun x=>!x.2.jk 0) = true := by kernel_rfl) : (Tree.leaf ⟨⟨fn,none,aw,.code .ret :: k,tmps⟩,[],mem⟩).holds Try.prog (@Ctx.mk w0 H (pinX f)) (RetP w0 H f fun v m=>v = .lb true ∧ Ψ m) :=
 ret_true m' (mvN N mem) (ksN N) hfn hres ht hm hn hjm h
theorem nk_loop10 {s : NdS} {l pd sd mb ms n0 : D} {li : List Int} {W : Hist} (hl : l.Is Int) (hll : l.len ≤ 100000) (hx : n0.Is Int ∧ n0.sz = 1 ∧ n0.to Int = li) (hw : NW 1 [n0] mb ms s) (w0 : World) (H : HV) (fp : Nat → Nat) : ∀ (q j : Nat) {h : Hist} {zd wd ed : D},j + q = l.len → AckOk h li ((l.to Int).drop j) → ackNs h li ((l.to Int).drop j) = W → HSm h → h.events.length + q ≤ 900000 →
  Runs Try.prog (@Ctx.mk w0 H (pinX fp)) (nkL 0 l j (noV 1 [n0] s.now s.co pd sd mb zd wd ed ms h)) (RetP w0 H fp fun v m=>v = .lb true ∧ NodMem 1 { s with whole := W } m)
 | 0,j,h,zd,wd,ed,hj,ha,hW,hs,he=>by
  have hlen := D.Is.length (α := Int) l
  rw [List.drop_of_length_le (by omega),ackNs_nil] at hW
  subst hW
  refine unroll_sound rfl ?_
  apply execRS_sound ctAkOk [] 400
  rw [nk10_go]
  exact ⟨fun hc=>absurd (of_decide_eq_true hc) (by omega),fun _=>retNC (fd := Try.f70) (l := [.lb true]) 1 (noM 1 [n0] s.now s.co pd sd mb zd wd ed ms h) ⟨_,_,_,_,_,_,_,_,⟨hw.mb,hw.ms,hw.len,hw.ns⟩,rfl⟩⟩
 | q + 1,j,h,zd,wd,ed,hj,ha,hW,hs,he=>by
  have hlen := D.Is.length (α := Int) l
  have hlt : j < (l.to Int).length := by omega
  obtain ⟨c1,c2,c3⟩ := int_at hl hlt
  simp only [Int.toNat_natCast] at c2 c3
  have hd : (l.to Int).drop j = (l.to Int)[j] :: (l.to Int).drop (j + 1) := List.drop_eq_getElem_cons hlt
  rw [hd] at ha hW
  rw [← c3] at ha hW
  obtain ⟨e,ha'⟩ := ha.step
  obtain ⟨r1,r2,r3,r4⟩ := ha.rng _ List.mem_cons_self
  have hxl := D.Is.length (α := Int) n0
  rw [hx.2.2] at hxl
  have hk : (l.getInt j 0).toNat < (n0.to Int).length := by rw [hx.2.2]; omega
  obtain ⟨d1,d2,d3⟩ := int_at hx.1 hk
  simp only [Int.toNat_natCast] at d2 d3
  have hg : li.getD (l.getInt j 0).toNat 0 = n0.getInt (l.getInt j 0).toNat 0 := by
   rw [d3,List.getD_eq_getElem?_getD,← hx.2.2,List.getElem?_eq_getElem hk]; rfl
  rw [hg] at e
  rw [show l.getInt j 0 :: (l.to Int).drop (j + 1) = [l.getInt j 0] ++ (l.to Int).drop (j + 1) from rfl,← ackNs_app] at hW
  have hwj : IntKind.i64.wrap ((j : Int) + 1) = ((j + 1 : Nat) : Int) := by rw [wrap64J (by omega) (by omega)]; rfl
  refine unroll_sound rfl ?_
  apply execRS_sound ctAkOk [] 400
  rw [nk10_go]
  simp only [Int.toNat_natCast,hi_back,e,hwj]
  refine ⟨fun _=>⟨c1,c2,fun hc=>absurd (of_decide_eq_true hc) (by omega),fun _=>⟨by decide,fun hc=>absurd (of_decide_eq_true hc) (by omega),fun _ hs0=>⟨by decide,⟨r1,by omega,hx.2.1⟩,⟨d2,hx.2.1⟩,hs.right zd wd ed,fun hc=>absurd hc (by decide),fun _=>?_⟩⟩⟩,fun hc=>absurd (of_decide_eq_false hc) (by omega)⟩
  exact nk_loop10 hl hll hx hw w0 H fp q (j + 1) (zd := hs0 14 0) (wd := hs0 14 1) (ed := hs0 14 2) (by omega) ha' hW ⟨hs.1,hs.2.1,by simp only [ackNs,List.length_append,List.length_map,List.length_cons,List.length_nil]; omega,hs.2.2.2⟩ (by simp only [ackNs,List.length_append,List.length_map,List.length_cons,List.length_nil]; omega)
theorem nk_loop20 {s : NdS} {l pd sd mb ms n0 n1 : D} {li : List Int} {W : Hist} (hl : l.Is Int) (hll : l.len ≤ 100000) (hx : n0.Is Int ∧ n0.sz = 1 ∧ n0.to Int = li) (hw : NW 2 [n0,n1] mb ms s) (w0 : World) (H : HV) (fp : Nat → Nat) : ∀ (q j : Nat) {h : Hist} {zd wd ed : D},j + q = l.len → AckOk h li ((l.to Int).drop j) → ackNs h li ((l.to Int).drop j) = W → HSm h → h.events.length + q ≤ 900000 →
  Runs Try.prog (@Ctx.mk w0 H (pinX fp)) (nkL 0 l j (noV 2 [n0,n1] s.now s.co pd sd mb zd wd ed ms h)) (RetP w0 H fp fun v m=>v = .lb true ∧ NodMem 2 { s with whole := W } m)
 | 0,j,h,zd,wd,ed,hj,ha,hW,hs,he=>by
  have hlen := D.Is.length (α := Int) l
  rw [List.drop_of_length_le (by omega),ackNs_nil] at hW
  subst hW
  refine unroll_sound rfl ?_
  apply execRS_sound ctAkOk [] 400
  rw [nk20_go]
  exact ⟨fun hc=>absurd (of_decide_eq_true hc) (by omega),fun _=>retNC (fd := Try.f70) (l := [.lb true]) 2 (noM 2 [n0,n1] s.now s.co pd sd mb zd wd ed ms h) ⟨_,_,_,_,_,_,_,_,⟨hw.mb,hw.ms,hw.len,hw.ns⟩,rfl⟩⟩
 | q + 1,j,h,zd,wd,ed,hj,ha,hW,hs,he=>by
  have hlen := D.Is.length (α := Int) l
  have hlt : j < (l.to Int).length := by omega
  obtain ⟨c1,c2,c3⟩ := int_at hl hlt
  simp only [Int.toNat_natCast] at c2 c3
  have hd : (l.to Int).drop j = (l.to Int)[j] :: (l.to Int).drop (j + 1) := List.drop_eq_getElem_cons hlt
  rw [hd] at ha hW
  rw [← c3] at ha hW
  obtain ⟨e,ha'⟩ := ha.step
  obtain ⟨r1,r2,r3,r4⟩ := ha.rng _ List.mem_cons_self
  have hxl := D.Is.length (α := Int) n0
  rw [hx.2.2] at hxl
  have hk : (l.getInt j 0).toNat < (n0.to Int).length := by rw [hx.2.2]; omega
  obtain ⟨d1,d2,d3⟩ := int_at hx.1 hk
  simp only [Int.toNat_natCast] at d2 d3
  have hg : li.getD (l.getInt j 0).toNat 0 = n0.getInt (l.getInt j 0).toNat 0 := by
   rw [d3,List.getD_eq_getElem?_getD,← hx.2.2,List.getElem?_eq_getElem hk]; rfl
  rw [hg] at e
  rw [show l.getInt j 0 :: (l.to Int).drop (j + 1) = [l.getInt j 0] ++ (l.to Int).drop (j + 1) from rfl,← ackNs_app] at hW
  have hwj : IntKind.i64.wrap ((j : Int) + 1) = ((j + 1 : Nat) : Int) := by rw [wrap64J (by omega) (by omega)]; rfl
  refine unroll_sound rfl ?_
  apply execRS_sound ctAkOk [] 400
  rw [nk20_go]
  simp only [Int.toNat_natCast,hi_back,e,hwj]
  refine ⟨fun _=>⟨c1,c2,fun hc=>absurd (of_decide_eq_true hc) (by omega),fun _=>⟨by decide,fun hc=>absurd (of_decide_eq_true hc) (by omega),fun _ hs0=>⟨by decide,⟨r1,by omega,hx.2.1⟩,⟨d2,hx.2.1⟩,hs.right zd wd ed,fun hc=>absurd hc (by decide),fun _=>?_⟩⟩⟩,fun hc=>absurd (of_decide_eq_false hc) (by omega)⟩
  exact nk_loop20 hl hll hx hw w0 H fp q (j + 1) (zd := hs0 14 0) (wd := hs0 14 1) (ed := hs0 14 2) (by omega) ha' hW ⟨hs.1,hs.2.1,by simp only [ackNs,List.length_append,List.length_map,List.length_cons,List.length_nil]; omega,hs.2.2.2⟩ (by simp only [ackNs,List.length_append,List.length_map,List.length_cons,List.length_nil]; omega)
theorem nk_loop21 {s : NdS} {l pd sd mb ms n0 n1 : D} {li : List Int} {W : Hist} (hl : l.Is Int) (hll : l.len ≤ 100000) (hx : n1.Is Int ∧ n1.sz = 1 ∧ n1.to Int = li) (hw : NW 2 [n0,n1] mb ms s) (w0 : World) (H : HV) (fp : Nat → Nat) : ∀ (q j : Nat) {h : Hist} {zd wd ed : D},j + q = l.len → AckOk h li ((l.to Int).drop j) → ackNs h li ((l.to Int).drop j) = W → HSm h → h.events.length + q ≤ 900000 →
  Runs Try.prog (@Ctx.mk w0 H (pinX fp)) (nkL 1 l j (noV 2 [n0,n1] s.now s.co pd sd mb zd wd ed ms h)) (RetP w0 H fp fun v m=>v = .lb true ∧ NodMem 2 { s with whole := W } m)
 | 0,j,h,zd,wd,ed,hj,ha,hW,hs,he=>by
  have hlen := D.Is.length (α := Int) l
  rw [List.drop_of_length_le (by omega),ackNs_nil] at hW
  subst hW
  refine unroll_sound rfl ?_
  apply execRS_sound ctAkOk [] 400
  rw [nk21_go]
  exact ⟨fun hc=>absurd (of_decide_eq_true hc) (by omega),fun _=>retNC (fd := Try.f70) (l := [.lb true]) 2 (noM 2 [n0,n1] s.now s.co pd sd mb zd wd ed ms h) ⟨_,_,_,_,_,_,_,_,⟨hw.mb,hw.ms,hw.len,hw.ns⟩,rfl⟩⟩
 | q + 1,j,h,zd,wd,ed,hj,ha,hW,hs,he=>by
  have hlen := D.Is.length (α := Int) l
  have hlt : j < (l.to Int).length := by omega
  obtain ⟨c1,c2,c3⟩ := int_at hl hlt
  simp only [Int.toNat_natCast] at c2 c3
  have hd : (l.to Int).drop j = (l.to Int)[j] :: (l.to Int).drop (j + 1) := List.drop_eq_getElem_cons hlt
  rw [hd] at ha hW
  rw [← c3] at ha hW
  obtain ⟨e,ha'⟩ := ha.step
  obtain ⟨r1,r2,r3,r4⟩ := ha.rng _ List.mem_cons_self
  have hxl := D.Is.length (α := Int) n1
  rw [hx.2.2] at hxl
  have hk : (l.getInt j 0).toNat < (n1.to Int).length := by rw [hx.2.2]; omega
  obtain ⟨d1,d2,d3⟩ := int_at hx.1 hk
  simp only [Int.toNat_natCast] at d2 d3
  have hg : li.getD (l.getInt j 0).toNat 0 = n1.getInt (l.getInt j 0).toNat 0 := by
   rw [d3,List.getD_eq_getElem?_getD,← hx.2.2,List.getElem?_eq_getElem hk]; rfl
  rw [hg] at e
  rw [show l.getInt j 0 :: (l.to Int).drop (j + 1) = [l.getInt j 0] ++ (l.to Int).drop (j + 1) from rfl,← ackNs_app] at hW
  have hwj : IntKind.i64.wrap ((j : Int) + 1) = ((j + 1 : Nat) : Int) := by rw [wrap64J (by omega) (by omega)]; rfl
  refine unroll_sound rfl ?_
  apply execRS_sound ctAkOk [] 400
  rw [nk21_go]
  simp only [Int.toNat_natCast,hi_back,e,hwj]
  refine ⟨fun _=>⟨c1,c2,fun hc=>absurd (of_decide_eq_true hc) (by omega),fun _=>⟨by decide,fun hc=>absurd (of_decide_eq_true hc) (by omega),fun _ hs0=>⟨by decide,⟨r1,by omega,hx.2.1⟩,⟨d2,hx.2.1⟩,hs.right zd wd ed,fun hc=>absurd hc (by decide),fun _=>?_⟩⟩⟩,fun hc=>absurd (of_decide_eq_false hc) (by omega)⟩
  exact nk_loop21 hl hll hx hw w0 H fp q (j + 1) (zd := hs0 14 0) (wd := hs0 14 1) (ed := hs0 14 2) (by omega) ha' hW ⟨hs.1,hs.2.1,by simp only [ackNs,List.length_append,List.length_map,List.length_cons,List.length_nil]; omega,hs.2.2.2⟩ (by simp only [ackNs,List.length_append,List.length_map,List.length_cons,List.length_nil]; omega)
theorem nk_loop30 {s : NdS} {l pd sd mb ms n0 n1 n2 : D} {li : List Int} {W : Hist} (hl : l.Is Int) (hll : l.len ≤ 100000) (hx : n0.Is Int ∧ n0.sz = 1 ∧ n0.to Int = li) (hw : NW 3 [n0,n1,n2] mb ms s) (w0 : World) (H : HV) (fp : Nat → Nat) : ∀ (q j : Nat) {h : Hist} {zd wd ed : D},j + q = l.len → AckOk h li ((l.to Int).drop j) → ackNs h li ((l.to Int).drop j) = W → HSm h → h.events.length + q ≤ 900000 →
  Runs Try.prog (@Ctx.mk w0 H (pinX fp)) (nkL 0 l j (noV 3 [n0,n1,n2] s.now s.co pd sd mb zd wd ed ms h)) (RetP w0 H fp fun v m=>v = .lb true ∧ NodMem 3 { s with whole := W } m)
 | 0,j,h,zd,wd,ed,hj,ha,hW,hs,he=>by
  have hlen := D.Is.length (α := Int) l
  rw [List.drop_of_length_le (by omega),ackNs_nil] at hW
  subst hW
  refine unroll_sound rfl ?_
  apply execRS_sound ctAkOk [] 400
  rw [nk30_go]
  exact ⟨fun hc=>absurd (of_decide_eq_true hc) (by omega),fun _=>retNC (fd := Try.f70) (l := [.lb true]) 3 (noM 3 [n0,n1,n2] s.now s.co pd sd mb zd wd ed ms h) ⟨_,_,_,_,_,_,_,_,⟨hw.mb,hw.ms,hw.len,hw.ns⟩,rfl⟩⟩
 | q + 1,j,h,zd,wd,ed,hj,ha,hW,hs,he=>by
  have hlen := D.Is.length (α := Int) l
  have hlt : j < (l.to Int).length := by omega
  obtain ⟨c1,c2,c3⟩ := int_at hl hlt
  simp only [Int.toNat_natCast] at c2 c3
  have hd : (l.to Int).drop j = (l.to Int)[j] :: (l.to Int).drop (j + 1) := List.drop_eq_getElem_cons hlt
  rw [hd] at ha hW
  rw [← c3] at ha hW
  obtain ⟨e,ha'⟩ := ha.step
  obtain ⟨r1,r2,r3,r4⟩ := ha.rng _ List.mem_cons_self
  have hxl := D.Is.length (α := Int) n0
  rw [hx.2.2] at hxl
  have hk : (l.getInt j 0).toNat < (n0.to Int).length := by rw [hx.2.2]; omega
  obtain ⟨d1,d2,d3⟩ := int_at hx.1 hk
  simp only [Int.toNat_natCast] at d2 d3
  have hg : li.getD (l.getInt j 0).toNat 0 = n0.getInt (l.getInt j 0).toNat 0 := by
   rw [d3,List.getD_eq_getElem?_getD,← hx.2.2,List.getElem?_eq_getElem hk]; rfl
  rw [hg] at e
  rw [show l.getInt j 0 :: (l.to Int).drop (j + 1) = [l.getInt j 0] ++ (l.to Int).drop (j + 1) from rfl,← ackNs_app] at hW
  have hwj : IntKind.i64.wrap ((j : Int) + 1) = ((j + 1 : Nat) : Int) := by rw [wrap64J (by omega) (by omega)]; rfl
  refine unroll_sound rfl ?_
  apply execRS_sound ctAkOk [] 400
  rw [nk30_go]
  simp only [Int.toNat_natCast,hi_back,e,hwj]
  refine ⟨fun _=>⟨c1,c2,fun hc=>absurd (of_decide_eq_true hc) (by omega),fun _=>⟨by decide,fun hc=>absurd (of_decide_eq_true hc) (by omega),fun _ hs0=>⟨by decide,⟨r1,by omega,hx.2.1⟩,⟨d2,hx.2.1⟩,hs.right zd wd ed,fun hc=>absurd hc (by decide),fun _=>?_⟩⟩⟩,fun hc=>absurd (of_decide_eq_false hc) (by omega)⟩
  exact nk_loop30 hl hll hx hw w0 H fp q (j + 1) (zd := hs0 14 0) (wd := hs0 14 1) (ed := hs0 14 2) (by omega) ha' hW ⟨hs.1,hs.2.1,by simp only [ackNs,List.length_append,List.length_map,List.length_cons,List.length_nil]; omega,hs.2.2.2⟩ (by simp only [ackNs,List.length_append,List.length_map,List.length_cons,List.length_nil]; omega)
theorem nk_loop31 {s : NdS} {l pd sd mb ms n0 n1 n2 : D} {li : List Int} {W : Hist} (hl : l.Is Int) (hll : l.len ≤ 100000) (hx : n1.Is Int ∧ n1.sz = 1 ∧ n1.to Int = li) (hw : NW 3 [n0,n1,n2] mb ms s) (w0 : World) (H : HV) (fp : Nat → Nat) : ∀ (q j : Nat) {h : Hist} {zd wd ed : D},j + q = l.len → AckOk h li ((l.to Int).drop j) → ackNs h li ((l.to Int).drop j) = W → HSm h → h.events.length + q ≤ 900000 →
  Runs Try.prog (@Ctx.mk w0 H (pinX fp)) (nkL 1 l j (noV 3 [n0,n1,n2] s.now s.co pd sd mb zd wd ed ms h)) (RetP w0 H fp fun v m=>v = .lb true ∧ NodMem 3 { s with whole := W } m)
 | 0,j,h,zd,wd,ed,hj,ha,hW,hs,he=>by
  have hlen := D.Is.length (α := Int) l
  rw [List.drop_of_length_le (by omega),ackNs_nil] at hW
  subst hW
  refine unroll_sound rfl ?_
  apply execRS_sound ctAkOk [] 400
  rw [nk31_go]
  exact ⟨fun hc=>absurd (of_decide_eq_true hc) (by omega),fun _=>retNC (fd := Try.f70) (l := [.lb true]) 3 (noM 3 [n0,n1,n2] s.now s.co pd sd mb zd wd ed ms h) ⟨_,_,_,_,_,_,_,_,⟨hw.mb,hw.ms,hw.len,hw.ns⟩,rfl⟩⟩
 | q + 1,j,h,zd,wd,ed,hj,ha,hW,hs,he=>by
  have hlen := D.Is.length (α := Int) l
  have hlt : j < (l.to Int).length := by omega
  obtain ⟨c1,c2,c3⟩ := int_at hl hlt
  simp only [Int.toNat_natCast] at c2 c3
  have hd : (l.to Int).drop j = (l.to Int)[j] :: (l.to Int).drop (j + 1) := List.drop_eq_getElem_cons hlt
  rw [hd] at ha hW
  rw [← c3] at ha hW
  obtain ⟨e,ha'⟩ := ha.step
  obtain ⟨r1,r2,r3,r4⟩ := ha.rng _ List.mem_cons_self
  have hxl := D.Is.length (α := Int) n1
  rw [hx.2.2] at hxl
  have hk : (l.getInt j 0).toNat < (n1.to Int).length := by rw [hx.2.2]; omega
  obtain ⟨d1,d2,d3⟩ := int_at hx.1 hk
  simp only [Int.toNat_natCast] at d2 d3
  have hg : li.getD (l.getInt j 0).toNat 0 = n1.getInt (l.getInt j 0).toNat 0 := by
   rw [d3,List.getD_eq_getElem?_getD,← hx.2.2,List.getElem?_eq_getElem hk]; rfl
  rw [hg] at e
  rw [show l.getInt j 0 :: (l.to Int).drop (j + 1) = [l.getInt j 0] ++ (l.to Int).drop (j + 1) from rfl,← ackNs_app] at hW
  have hwj : IntKind.i64.wrap ((j : Int) + 1) = ((j + 1 : Nat) : Int) := by rw [wrap64J (by omega) (by omega)]; rfl
  refine unroll_sound rfl ?_
  apply execRS_sound ctAkOk [] 400
  rw [nk31_go]
  simp only [Int.toNat_natCast,hi_back,e,hwj]
  refine ⟨fun _=>⟨c1,c2,fun hc=>absurd (of_decide_eq_true hc) (by omega),fun _=>⟨by decide,fun hc=>absurd (of_decide_eq_true hc) (by omega),fun _ hs0=>⟨by decide,⟨r1,by omega,hx.2.1⟩,⟨d2,hx.2.1⟩,hs.right zd wd ed,fun hc=>absurd hc (by decide),fun _=>?_⟩⟩⟩,fun hc=>absurd (of_decide_eq_false hc) (by omega)⟩
  exact nk_loop31 hl hll hx hw w0 H fp q (j + 1) (zd := hs0 14 0) (wd := hs0 14 1) (ed := hs0 14 2) (by omega) ha' hW ⟨hs.1,hs.2.1,by simp only [ackNs,List.length_append,List.length_map,List.length_cons,List.length_nil]; omega,hs.2.2.2⟩ (by simp only [ackNs,List.length_append,List.length_map,List.length_cons,List.length_nil]; omega)
theorem nk_loop32 {s : NdS} {l pd sd mb ms n0 n1 n2 : D} {li : List Int} {W : Hist} (hl : l.Is Int) (hll : l.len ≤ 100000) (hx : n2.Is Int ∧ n2.sz = 1 ∧ n2.to Int = li) (hw : NW 3 [n0,n1,n2] mb ms s) (w0 : World) (H : HV) (fp : Nat → Nat) : ∀ (q j : Nat) {h : Hist} {zd wd ed : D},j + q = l.len → AckOk h li ((l.to Int).drop j) → ackNs h li ((l.to Int).drop j) = W → HSm h → h.events.length + q ≤ 900000 →
  Runs Try.prog (@Ctx.mk w0 H (pinX fp)) (nkL 2 l j (noV 3 [n0,n1,n2] s.now s.co pd sd mb zd wd ed ms h)) (RetP w0 H fp fun v m=>v = .lb true ∧ NodMem 3 { s with whole := W } m)
 | 0,j,h,zd,wd,ed,hj,ha,hW,hs,he=>by
  have hlen := D.Is.length (α := Int) l
  rw [List.drop_of_length_le (by omega),ackNs_nil] at hW
  subst hW
  refine unroll_sound rfl ?_
  apply execRS_sound ctAkOk [] 400
  rw [nk32_go]
  exact ⟨fun hc=>absurd (of_decide_eq_true hc) (by omega),fun _=>retNC (fd := Try.f70) (l := [.lb true]) 3 (noM 3 [n0,n1,n2] s.now s.co pd sd mb zd wd ed ms h) ⟨_,_,_,_,_,_,_,_,⟨hw.mb,hw.ms,hw.len,hw.ns⟩,rfl⟩⟩
 | q + 1,j,h,zd,wd,ed,hj,ha,hW,hs,he=>by
  have hlen := D.Is.length (α := Int) l
  have hlt : j < (l.to Int).length := by omega
  obtain ⟨c1,c2,c3⟩ := int_at hl hlt
  simp only [Int.toNat_natCast] at c2 c3
  have hd : (l.to Int).drop j = (l.to Int)[j] :: (l.to Int).drop (j + 1) := List.drop_eq_getElem_cons hlt
  rw [hd] at ha hW
  rw [← c3] at ha hW
  obtain ⟨e,ha'⟩ := ha.step
  obtain ⟨r1,r2,r3,r4⟩ := ha.rng _ List.mem_cons_self
  have hxl := D.Is.length (α := Int) n2
  rw [hx.2.2] at hxl
  have hk : (l.getInt j 0).toNat < (n2.to Int).length := by rw [hx.2.2]; omega
  obtain ⟨d1,d2,d3⟩ := int_at hx.1 hk
  simp only [Int.toNat_natCast] at d2 d3
  have hg : li.getD (l.getInt j 0).toNat 0 = n2.getInt (l.getInt j 0).toNat 0 := by
   rw [d3,List.getD_eq_getElem?_getD,← hx.2.2,List.getElem?_eq_getElem hk]; rfl
  rw [hg] at e
  rw [show l.getInt j 0 :: (l.to Int).drop (j + 1) = [l.getInt j 0] ++ (l.to Int).drop (j + 1) from rfl,← ackNs_app] at hW
  have hwj : IntKind.i64.wrap ((j : Int) + 1) = ((j + 1 : Nat) : Int) := by rw [wrap64J (by omega) (by omega)]; rfl
  refine unroll_sound rfl ?_
  apply execRS_sound ctAkOk [] 400
  rw [nk32_go]
  simp only [Int.toNat_natCast,hi_back,e,hwj]
  refine ⟨fun _=>⟨c1,c2,fun hc=>absurd (of_decide_eq_true hc) (by omega),fun _=>⟨by decide,fun hc=>absurd (of_decide_eq_true hc) (by omega),fun _ hs0=>⟨by decide,⟨r1,by omega,hx.2.1⟩,⟨d2,hx.2.1⟩,hs.right zd wd ed,fun hc=>absurd hc (by decide),fun _=>?_⟩⟩⟩,fun hc=>absurd (of_decide_eq_false hc) (by omega)⟩
  exact nk_loop32 hl hll hx hw w0 H fp q (j + 1) (zd := hs0 14 0) (wd := hs0 14 1) (ed := hs0 14 2) (by omega) ha' hW ⟨hs.1,hs.2.1,by simp only [ackNs,List.length_append,List.length_map,List.length_cons,List.length_nil]; omega,hs.2.2.2⟩ (by simp only [ackNs,List.length_append,List.length_map,List.length_cons,List.length_nil]; omega)
theorem ack_meth {s : NdS} {N i : Nat} {li : List Int} {l : D} (hN : 1 ≤ N ∧ N ≤ 3) (hi : i < N) (hli : s.nums[i]? = some li) (hl : l.Is Int) (hll : l.len ≤ 100000) (ha : AckOk s.whole li (l.to Int)) (hs : HSm s.whole) (he : s.whole.events.length ≤ 700000) :
  NMeth N 70 56 [(0,.ptr 100000 0),(1,.int .i64 i),(2,.dat l)] s fun s'=>s' = { s with whole := ackNs s.whole li (l.to Int) } := by
 intro w0 H fp mm ⟨ns,pd,sd,mb,zd,wd,ed,ms,hw,hm⟩
 subst hm
 have fin : ∀ {m : Mem},NodMem N { s with whole := ackNs s.whole li (l.to Int) } m → ∃ s',s' = { s with whole := ackNs s.whole li (l.to Int) } ∧ NodMem N s' m := fun h=>⟨_,rfl,h⟩
 have mono : ∀ {c : Conf},Runs Try.prog (@Ctx.mk w0 H (pinX fp)) c (RetP w0 H fp fun v m=>v = .lb true ∧ NodMem N { s with whole := ackNs s.whole li (l.to Int) } m) → Runs Try.prog (@Ctx.mk w0 H (pinX fp)) c (RetP w0 H fp fun v m=>v = .lb true ∧ ∃ s',s' = { s with whole := ackNs s.whole li (l.to Int) } ∧ NodMem N s' m) := fun h=>by
  refine Runs.mono h fun u w' ⟨v,m,E1,H',⟨h1,h2⟩,h3⟩=>⟨v,m,E1,H',⟨h1,fin h2⟩,h3⟩
 refine mono ?_
 have hnl := hw.len.1
 have hx : ∀ d,ns[i]? = some d → d.Is Int ∧ d.sz = 1 ∧ d.to Int = li := fun d hd=>hw.ns i d li hd hli
 have e0 : l.to Int = (l.to Int).drop 0 := rfl
 rcases ns with _ | ⟨n0,_ | ⟨n1,_ | ⟨n2,_ | ⟨n3,r⟩⟩⟩⟩
 ·simp only [List.length_nil] at hnl; omega
 ·simp only [List.length_cons,List.length_nil] at hnl
  subst hnl
  have h0 : i = 0 := by omega
  subst h0
  apply execRS_sound ctAkOk [] 400
  rw [show (((0 : Nat)) : Int) = 0 from rfl,nk10_in]
  exact nk_loop10 hl hll (hx _ rfl) hw w0 H fp l.len 0 (by omega) ha rfl hs (by omega)
 ·simp only [List.length_cons,List.length_nil] at hnl
  subst hnl
  by_cases h0 : i = 0
  ·subst h0
   apply execRS_sound ctAkOk [] 400
   rw [show (((0 : Nat)) : Int) = 0 from rfl,nk20_in]
   exact nk_loop20 hl hll (hx _ rfl) hw w0 H fp l.len 0 (by omega) ha rfl hs (by omega)
  have h1 : i = 1 := by omega
  subst h1
  apply execRS_sound ctAkOk [] 400
  rw [show (((1 : Nat)) : Int) = 1 from rfl,nk21_in]
  exact nk_loop21 hl hll (hx _ rfl) hw w0 H fp l.len 0 (by omega) ha rfl hs (by omega)
 ·simp only [List.length_cons,List.length_nil] at hnl
  subst hnl
  by_cases h0 : i = 0
  ·subst h0
   apply execRS_sound ctAkOk [] 400
   rw [show (((0 : Nat)) : Int) = 0 from rfl,nk30_in]
   exact nk_loop30 hl hll (hx _ rfl) hw w0 H fp l.len 0 (by omega) ha rfl hs (by omega)
  by_cases h1 : i = 1
  ·subst h1
   apply execRS_sound ctAkOk [] 400
   rw [show (((1 : Nat)) : Int) = 1 from rfl,nk31_in]
   exact nk_loop31 hl hll (hx _ rfl) hw w0 H fp l.len 0 (by omega) ha rfl hs (by omega)
  have h2 : i = 2 := by omega
  subst h2
  apply execRS_sound ctAkOk [] 400
  rw [show (((2 : Nat)) : Int) = 2 from rfl,nk32_in]
  exact nk_loop32 hl hll (hx _ rfl) hw w0 H fp l.len 0 (by omega) ha rfl hs (by omega)
 ·simp only [List.length_cons] at hnl; omega
end Sv
end
noncomputable section
open Go Go.Proofs Sx
namespace Sx
def secOf (i k : Int) : Sec := ⟨IntKind.u8.wrap (IntKind.i64.wrap (i + 1)),IntKind.u8.wrap k,0,0,0,0,0,0⟩
theorem wt_of (d : D) (i k : Int) : (wtOf d i k).wt = Wt.mk 0 i [secOf i k] ∧ (wtOf d i k).Ok := by
 have hr : SRows Sec [[.int .u8 (IntKind.u8.wrap (IntKind.i64.wrap (i + 1))),.int .u8 (IntKind.u8.wrap k),.int .u8 0,.int .u8 0,.int .u8 0,.int .u8 0,.int .u8 0,.int .u8 0]] [secOf i k] := rows_one ⟨_,_,_,_,_,_,_,_,rfl⟩ rfl
 obtain ⟨h1,h2⟩ := is_of (h := d.hd) (s := 8) rfl hr
 exact ⟨by simp only [WtD.wt,wtOf,h2],h1,by simp [wtOf,D.len,D.rows]⟩
theorem int_oneN (n : Int) : SRows Int [[D.int .i64 n]] [n] := rows_one (ok_int n) rfl
theorem NW.put {N : Nat} {ns : List D} {mb mb' ms d' : D} {s : NdS} {i : Nat} {l' : List Int} {M : List Mb} {W : Hist} (hw : NW N ns mb ms s) (hm : mb'.Is Mb ∧ mb'.sz = 8 ∧ mb'.to Mb = M) (hd : d'.Is Int ∧ d'.sz = 1 ∧ d'.to Int = l') :
  NW N (ns.set i d') mb' ms { s with mbs := M,nums := s.nums.set i l',whole := W } :=
 ⟨hm,hw.ms,⟨by rw [List.length_set]; exact hw.len.1,by simp only [List.length_set]; exact hw.len.2⟩,fun j d l h1 h2=>by
  rcases set_at h1 with ⟨rfl,rfl⟩ | ⟨hj,h1⟩
  ·rcases set_at h2 with ⟨_,rfl⟩ | ⟨hj,_⟩
   ·exact hd
   ·exact absurd rfl hj
  ·rcases set_at h2 with ⟨hj',_⟩ | ⟨_,h2⟩
   ·exact absurd hj' hj
   ·exact hw.ns j d l h1 h2⟩
theorem mb_right {mb : D} {s : NdS} {i : Nat} {m : Mb} (h : mb.Is Mb ∧ mb.sz = 8 ∧ mb.to Mb = s.mbs) (hm : s.mbs[i]? = some m) (h1 : m.waiting.length ≤ 1000 ∧ m.held.length ≤ 1000) :
  (0 ≤ (i : Int) ∧ (i : Int) < (mb.len : Int) ∧ mb.sz = 8) ∧ mb.HasCells i 0 [.int .i64,.int .i64,.int .i64,.int .i64,.bool,.int .i64,.slc,.slc] ∧ (mbAt mb i).Right ∧ (mbAt mb i).mb = m ∧ i < mb.len := by
 obtain ⟨g1,g2,g3⟩ := h
 have hi : i < (mb.to Mb).length := by rw [g3]; exact (List.getElem?_eq_some_iff.1 hm).1
 have hl := D.Is.length (α := Mb) mb
 obtain ⟨c1,c2,c3,c4⟩ := mb_cell g1 hi
 have hme : (mb.to Mb)[i] = m := by
  have h2 : (mb.to Mb)[i]? = some m := by rw [g3]; exact hm
  exact Option.some.inj ((List.getElem?_eq_getElem hi).symm.trans h2)
 rw [hme] at c2
 have e1 : (mbAt mb i).w.to Int = m.waiting := congrArg Mb.waiting c2
 have e2 : (mbAt mb i).h.to Int = m.held := congrArg Mb.held c2
 exact ⟨⟨by omega,by omega,g2⟩,c1,⟨c3,c4,by rw [D.Is.length (α := Int),e1]; omega,by rw [D.Is.length (α := Int),e2]; omega⟩,c2,by omega⟩
end Sx
namespace Sv
theorem ctNiOk : Ctrs.Ok Try.prog ctNi := by
 intro x hx
 simp only [ctNi,List.mem_cons,List.not_mem_nil,or_false] at hx
 rcases hx with rfl | rfl
 ·exact ctrOf_ok B21.lawIssue1
 ·exact ctrOf_ok lawIssueB
def issN (s : NdS) (i : Nat) (m : Mb) (l : List Int) : NdS := { s with mbs := s.mbs.set i (issueMb m).1,nums := s.nums.set i (l ++ [(s.whole.writes.length : Int)]),whole := Hist.mk s.whole.sizes (s.whole.writes ++ [Wt.mk 0 i [secOf i l.length]]) (s.whole.events ++ [Ev.mk 0 s.whole.writes.length]) }
section
variable {s : NdS} {t : Nat} {G : Gh}
theorem ni10 {pd sd mb zd wd ed ms n0 : D} {m : Mb} {l : List Int} (h : NOk s 1 G t) (ht : t ≤ 99) (hm : s.mbs[0]? = some m) (hl : s.nums[0]? = some l) (hw : NW 1 [n0] mb ms s) (w0 : World) (H : HV) (fp : Nat → Nat) :
  Runs Try.prog (@Ctx.mk w0 H (pinX fp)) (sysN 68 78 [(0,.ptr 100000 0),(1,.int .i64 0)] (noM 1 [n0] s.now s.co pd sd mb zd wd ed ms s.whole)) (RetP w0 H fp fun v m'=>v = .lb true ∧ ∃ s',s' = issN s 0 m l ∧ NodMem 1 s' m') := by
 obtain ⟨mo,mg,mw,mh⟩ := h.mok 0 m hm
 have htil := h.til 0 l hl
 have hwl := h.hwl
 obtain ⟨b1,b2,b3,b4,b5⟩ := mb_right hw.mb hm ⟨by omega,by omega⟩
 obtain ⟨e1,e2,e3,_⟩ := h.issue ht hm hl (secOf ((0 : Nat) : Int) l.length)
 obtain ⟨x1,x2,x3⟩ := hw.ns 0 _ _ rfl hl
 have hxl := D.Is.length (α := Int) n0
 rw [x3] at hxl
 apply execRS_sound ctNiOk [] 400
 rw [ni10_in]
 have e0 : (issueMb m).2 = (l.length : Int) := by rw [e1]; exact e2
 have e4 : ∀ d : D,(wtOf d 0 (l.length : Int)).wt = Wt.mk 0 ((0 : Nat) : Int) [secOf ((0 : Nat) : Int) l.length] := fun d=>(wt_of d 0 _).1
 obtain ⟨r,hr⟩ : ∃ r,issueH s.whole (Wt.mk 0 ((0 : Nat) : Int) [secOf ((0 : Nat) : Int) l.length]) = r := ⟨_,rfl⟩
 rw [hr] at e3
 simp only [b4,hi_back,e0,e4,hr,hxl]
 refine ⟨b1,⟨b2,hw.mb.2.1⟩,b3,fun hs=>⟨by decide,fun hc=>absurd hc (by simp),fun _ hs1=>⟨⟨((h.hsm (by omega)).right zd wd ed).1,((h.hsm (by omega)).right zd wd ed).2,(wt_of _ _ _).2⟩,fun hs2 hs3=>⟨b1,⟨b5,by rw [hw.mb.2.1]; exact Nat.le_refl _,hw.mb.2.1⟩,fun hs4=>⟨by decide,⟨x2,(is_of (h := D.hd (hs4 13 0)) (s := 1) rfl (int_oneN _)).1.fits,?_,?_⟩,by decide,?_⟩⟩⟩⟩⟩
 ·simp only [len_slc,List.length_cons,List.length_nil]; omega
 ·simp only [len_slc,List.length_cons,List.length_nil]; omega
 ·have hms := mb_set hw.mb.1 (i := 0) (by rw [hw.mb.2.2]; exact (List.getElem?_eq_some_iff.1 hm).1) (hs 0 0) (hs 0 1) (issueMb m).1
  rw [hw.mb.2.2] at hms
  have key : NodMem 1 (issN s 0 m l) (noM 1 [(.slc (D.hd (hs4 14 0)) 1 (List.append n0.rows (D.slc (D.hd (hs4 13 0)) 1 [[D.int .i64 r.2.1]]).rows))] s.now s.co pd sd (mb.setCells 0 0 (mbRow (hs 0 0) (hs 0 1) (issueMb m).1)) (hs2 0 0) (hs2 0 1) (hs2 0 2) ms r.1) := by
   subst e3
   have hrr := rows_app (rows_of x1) (int_oneN (s.whole.writes.length : Int))
   obtain ⟨y1,y2⟩ := is_of (h := D.hd (hs4 14 0)) (s := 1) rfl hrr
   rw [x3] at y2
   exact ⟨_,_,_,_,_,_,_,_,hw.put (i := 0) hms ⟨y1,rfl,y2⟩,rfl⟩
  exact retNC (fd := Try.f68) (l := [.bool (decide (r.2.2 = 0))]) 1 (noM 1 [(.slc (D.hd (hs4 14 0)) 1 (List.append n0.rows (D.slc (D.hd (hs4 13 0)) 1 [[D.int .i64 r.2.1]]).rows))] s.now s.co pd sd (mb.setCells 0 0 (mbRow (hs 0 0) (hs 0 1) (issueMb m).1)) (hs2 0 0) (hs2 0 1) (hs2 0 2) ms r.1) ⟨_,rfl,key⟩ (fun E=>by rw [e3]; simp [one?,SV.den])
theorem ni20 {pd sd mb zd wd ed ms n0 n1 : D} {m : Mb} {l : List Int} (h : NOk s 2 G t) (ht : t ≤ 99) (hm : s.mbs[0]? = some m) (hl : s.nums[0]? = some l) (hw : NW 2 [n0,n1] mb ms s) (w0 : World) (H : HV) (fp : Nat → Nat) :
  Runs Try.prog (@Ctx.mk w0 H (pinX fp)) (sysN 68 78 [(0,.ptr 100000 0),(1,.int .i64 0)] (noM 2 [n0,n1] s.now s.co pd sd mb zd wd ed ms s.whole)) (RetP w0 H fp fun v m'=>v = .lb true ∧ ∃ s',s' = issN s 0 m l ∧ NodMem 2 s' m') := by
 obtain ⟨mo,mg,mw,mh⟩ := h.mok 0 m hm
 have htil := h.til 0 l hl
 have hwl := h.hwl
 obtain ⟨b1,b2,b3,b4,b5⟩ := mb_right hw.mb hm ⟨by omega,by omega⟩
 obtain ⟨e1,e2,e3,_⟩ := h.issue ht hm hl (secOf ((0 : Nat) : Int) l.length)
 obtain ⟨x1,x2,x3⟩ := hw.ns 0 _ _ rfl hl
 have hxl := D.Is.length (α := Int) n0
 rw [x3] at hxl
 apply execRS_sound ctNiOk [] 400
 rw [ni20_in]
 have e0 : (issueMb m).2 = (l.length : Int) := by rw [e1]; exact e2
 have e4 : ∀ d : D,(wtOf d 0 (l.length : Int)).wt = Wt.mk 0 ((0 : Nat) : Int) [secOf ((0 : Nat) : Int) l.length] := fun d=>(wt_of d 0 _).1
 obtain ⟨r,hr⟩ : ∃ r,issueH s.whole (Wt.mk 0 ((0 : Nat) : Int) [secOf ((0 : Nat) : Int) l.length]) = r := ⟨_,rfl⟩
 rw [hr] at e3
 simp only [b4,hi_back,e0,e4,hr,hxl]
 refine ⟨b1,⟨b2,hw.mb.2.1⟩,b3,fun hs=>⟨by decide,fun hc=>absurd hc (by simp),fun _ hs1=>⟨⟨((h.hsm (by omega)).right zd wd ed).1,((h.hsm (by omega)).right zd wd ed).2,(wt_of _ _ _).2⟩,fun hs2 hs3=>⟨b1,⟨b5,by rw [hw.mb.2.1]; exact Nat.le_refl _,hw.mb.2.1⟩,fun hs4=>⟨by decide,⟨x2,(is_of (h := D.hd (hs4 13 0)) (s := 1) rfl (int_oneN _)).1.fits,?_,?_⟩,by decide,?_⟩⟩⟩⟩⟩
 ·simp only [len_slc,List.length_cons,List.length_nil]; omega
 ·simp only [len_slc,List.length_cons,List.length_nil]; omega
 ·have hms := mb_set hw.mb.1 (i := 0) (by rw [hw.mb.2.2]; exact (List.getElem?_eq_some_iff.1 hm).1) (hs 0 0) (hs 0 1) (issueMb m).1
  rw [hw.mb.2.2] at hms
  have key : NodMem 2 (issN s 0 m l) (noM 2 [(.slc (D.hd (hs4 14 0)) 1 (List.append n0.rows (D.slc (D.hd (hs4 13 0)) 1 [[D.int .i64 r.2.1]]).rows)),n1] s.now s.co pd sd (mb.setCells 0 0 (mbRow (hs 0 0) (hs 0 1) (issueMb m).1)) (hs2 0 0) (hs2 0 1) (hs2 0 2) ms r.1) := by
   subst e3
   have hrr := rows_app (rows_of x1) (int_oneN (s.whole.writes.length : Int))
   obtain ⟨y1,y2⟩ := is_of (h := D.hd (hs4 14 0)) (s := 1) rfl hrr
   rw [x3] at y2
   exact ⟨_,_,_,_,_,_,_,_,hw.put (i := 0) hms ⟨y1,rfl,y2⟩,rfl⟩
  exact retNC (fd := Try.f68) (l := [.bool (decide (r.2.2 = 0))]) 2 (noM 2 [(.slc (D.hd (hs4 14 0)) 1 (List.append n0.rows (D.slc (D.hd (hs4 13 0)) 1 [[D.int .i64 r.2.1]]).rows)),n1] s.now s.co pd sd (mb.setCells 0 0 (mbRow (hs 0 0) (hs 0 1) (issueMb m).1)) (hs2 0 0) (hs2 0 1) (hs2 0 2) ms r.1) ⟨_,rfl,key⟩ (fun E=>by rw [e3]; simp [one?,SV.den])
theorem ni21 {pd sd mb zd wd ed ms n0 n1 : D} {m : Mb} {l : List Int} (h : NOk s 2 G t) (ht : t ≤ 99) (hm : s.mbs[1]? = some m) (hl : s.nums[1]? = some l) (hw : NW 2 [n0,n1] mb ms s) (w0 : World) (H : HV) (fp : Nat → Nat) :
  Runs Try.prog (@Ctx.mk w0 H (pinX fp)) (sysN 68 78 [(0,.ptr 100000 0),(1,.int .i64 1)] (noM 2 [n0,n1] s.now s.co pd sd mb zd wd ed ms s.whole)) (RetP w0 H fp fun v m'=>v = .lb true ∧ ∃ s',s' = issN s 1 m l ∧ NodMem 2 s' m') := by
 obtain ⟨mo,mg,mw,mh⟩ := h.mok 1 m hm
 have htil := h.til 1 l hl
 have hwl := h.hwl
 obtain ⟨b1,b2,b3,b4,b5⟩ := mb_right hw.mb hm ⟨by omega,by omega⟩
 obtain ⟨e1,e2,e3,_⟩ := h.issue ht hm hl (secOf ((1 : Nat) : Int) l.length)
 obtain ⟨x1,x2,x3⟩ := hw.ns 1 _ _ rfl hl
 have hxl := D.Is.length (α := Int) n1
 rw [x3] at hxl
 apply execRS_sound ctNiOk [] 400
 rw [ni21_in]
 have e0 : (issueMb m).2 = (l.length : Int) := by rw [e1]; exact e2
 have e4 : ∀ d : D,(wtOf d 1 (l.length : Int)).wt = Wt.mk 0 ((1 : Nat) : Int) [secOf ((1 : Nat) : Int) l.length] := fun d=>(wt_of d 1 _).1
 obtain ⟨r,hr⟩ : ∃ r,issueH s.whole (Wt.mk 0 ((1 : Nat) : Int) [secOf ((1 : Nat) : Int) l.length]) = r := ⟨_,rfl⟩
 rw [hr] at e3
 simp only [b4,hi_back,e0,e4,hr,hxl]
 refine ⟨b1,⟨b2,hw.mb.2.1⟩,b3,fun hs=>⟨by decide,fun hc=>absurd hc (by simp),fun _ hs1=>⟨⟨((h.hsm (by omega)).right zd wd ed).1,((h.hsm (by omega)).right zd wd ed).2,(wt_of _ _ _).2⟩,fun hs2 hs3=>⟨b1,⟨b5,by rw [hw.mb.2.1]; exact Nat.le_refl _,hw.mb.2.1⟩,fun hs4=>⟨by decide,⟨x2,(is_of (h := D.hd (hs4 13 0)) (s := 1) rfl (int_oneN _)).1.fits,?_,?_⟩,by decide,?_⟩⟩⟩⟩⟩
 ·simp only [len_slc,List.length_cons,List.length_nil]; omega
 ·simp only [len_slc,List.length_cons,List.length_nil]; omega
 ·have hms := mb_set hw.mb.1 (i := 1) (by rw [hw.mb.2.2]; exact (List.getElem?_eq_some_iff.1 hm).1) (hs 0 0) (hs 0 1) (issueMb m).1
  rw [hw.mb.2.2] at hms
  have key : NodMem 2 (issN s 1 m l) (noM 2 [n0,(.slc (D.hd (hs4 14 0)) 1 (List.append n1.rows (D.slc (D.hd (hs4 13 0)) 1 [[D.int .i64 r.2.1]]).rows))] s.now s.co pd sd (mb.setCells 1 0 (mbRow (hs 0 0) (hs 0 1) (issueMb m).1)) (hs2 0 0) (hs2 0 1) (hs2 0 2) ms r.1) := by
   subst e3
   have hrr := rows_app (rows_of x1) (int_oneN (s.whole.writes.length : Int))
   obtain ⟨y1,y2⟩ := is_of (h := D.hd (hs4 14 0)) (s := 1) rfl hrr
   rw [x3] at y2
   exact ⟨_,_,_,_,_,_,_,_,hw.put (i := 1) hms ⟨y1,rfl,y2⟩,rfl⟩
  exact retNC (fd := Try.f68) (l := [.bool (decide (r.2.2 = 0))]) 2 (noM 2 [n0,(.slc (D.hd (hs4 14 0)) 1 (List.append n1.rows (D.slc (D.hd (hs4 13 0)) 1 [[D.int .i64 r.2.1]]).rows))] s.now s.co pd sd (mb.setCells 1 0 (mbRow (hs 0 0) (hs 0 1) (issueMb m).1)) (hs2 0 0) (hs2 0 1) (hs2 0 2) ms r.1) ⟨_,rfl,key⟩ (fun E=>by rw [e3]; simp [one?,SV.den])
theorem ni30 {pd sd mb zd wd ed ms n0 n1 n2 : D} {m : Mb} {l : List Int} (h : NOk s 3 G t) (ht : t ≤ 99) (hm : s.mbs[0]? = some m) (hl : s.nums[0]? = some l) (hw : NW 3 [n0,n1,n2] mb ms s) (w0 : World) (H : HV) (fp : Nat → Nat) :
  Runs Try.prog (@Ctx.mk w0 H (pinX fp)) (sysN 68 78 [(0,.ptr 100000 0),(1,.int .i64 0)] (noM 3 [n0,n1,n2] s.now s.co pd sd mb zd wd ed ms s.whole)) (RetP w0 H fp fun v m'=>v = .lb true ∧ ∃ s',s' = issN s 0 m l ∧ NodMem 3 s' m') := by
 obtain ⟨mo,mg,mw,mh⟩ := h.mok 0 m hm
 have htil := h.til 0 l hl
 have hwl := h.hwl
 obtain ⟨b1,b2,b3,b4,b5⟩ := mb_right hw.mb hm ⟨by omega,by omega⟩
 obtain ⟨e1,e2,e3,_⟩ := h.issue ht hm hl (secOf ((0 : Nat) : Int) l.length)
 obtain ⟨x1,x2,x3⟩ := hw.ns 0 _ _ rfl hl
 have hxl := D.Is.length (α := Int) n0
 rw [x3] at hxl
 apply execRS_sound ctNiOk [] 400
 rw [ni30_in]
 have e0 : (issueMb m).2 = (l.length : Int) := by rw [e1]; exact e2
 have e4 : ∀ d : D,(wtOf d 0 (l.length : Int)).wt = Wt.mk 0 ((0 : Nat) : Int) [secOf ((0 : Nat) : Int) l.length] := fun d=>(wt_of d 0 _).1
 obtain ⟨r,hr⟩ : ∃ r,issueH s.whole (Wt.mk 0 ((0 : Nat) : Int) [secOf ((0 : Nat) : Int) l.length]) = r := ⟨_,rfl⟩
 rw [hr] at e3
 simp only [b4,hi_back,e0,e4,hr,hxl]
 refine ⟨b1,⟨b2,hw.mb.2.1⟩,b3,fun hs=>⟨by decide,fun hc=>absurd hc (by simp),fun _ hs1=>⟨⟨((h.hsm (by omega)).right zd wd ed).1,((h.hsm (by omega)).right zd wd ed).2,(wt_of _ _ _).2⟩,fun hs2 hs3=>⟨b1,⟨b5,by rw [hw.mb.2.1]; exact Nat.le_refl _,hw.mb.2.1⟩,fun hs4=>⟨by decide,⟨x2,(is_of (h := D.hd (hs4 13 0)) (s := 1) rfl (int_oneN _)).1.fits,?_,?_⟩,by decide,?_⟩⟩⟩⟩⟩
 ·simp only [len_slc,List.length_cons,List.length_nil]; omega
 ·simp only [len_slc,List.length_cons,List.length_nil]; omega
 ·have hms := mb_set hw.mb.1 (i := 0) (by rw [hw.mb.2.2]; exact (List.getElem?_eq_some_iff.1 hm).1) (hs 0 0) (hs 0 1) (issueMb m).1
  rw [hw.mb.2.2] at hms
  have key : NodMem 3 (issN s 0 m l) (noM 3 [(.slc (D.hd (hs4 14 0)) 1 (List.append n0.rows (D.slc (D.hd (hs4 13 0)) 1 [[D.int .i64 r.2.1]]).rows)),n1,n2] s.now s.co pd sd (mb.setCells 0 0 (mbRow (hs 0 0) (hs 0 1) (issueMb m).1)) (hs2 0 0) (hs2 0 1) (hs2 0 2) ms r.1) := by
   subst e3
   have hrr := rows_app (rows_of x1) (int_oneN (s.whole.writes.length : Int))
   obtain ⟨y1,y2⟩ := is_of (h := D.hd (hs4 14 0)) (s := 1) rfl hrr
   rw [x3] at y2
   exact ⟨_,_,_,_,_,_,_,_,hw.put (i := 0) hms ⟨y1,rfl,y2⟩,rfl⟩
  exact retNC (fd := Try.f68) (l := [.bool (decide (r.2.2 = 0))]) 3 (noM 3 [(.slc (D.hd (hs4 14 0)) 1 (List.append n0.rows (D.slc (D.hd (hs4 13 0)) 1 [[D.int .i64 r.2.1]]).rows)),n1,n2] s.now s.co pd sd (mb.setCells 0 0 (mbRow (hs 0 0) (hs 0 1) (issueMb m).1)) (hs2 0 0) (hs2 0 1) (hs2 0 2) ms r.1) ⟨_,rfl,key⟩ (fun E=>by rw [e3]; simp [one?,SV.den])
theorem ni31 {pd sd mb zd wd ed ms n0 n1 n2 : D} {m : Mb} {l : List Int} (h : NOk s 3 G t) (ht : t ≤ 99) (hm : s.mbs[1]? = some m) (hl : s.nums[1]? = some l) (hw : NW 3 [n0,n1,n2] mb ms s) (w0 : World) (H : HV) (fp : Nat → Nat) :
  Runs Try.prog (@Ctx.mk w0 H (pinX fp)) (sysN 68 78 [(0,.ptr 100000 0),(1,.int .i64 1)] (noM 3 [n0,n1,n2] s.now s.co pd sd mb zd wd ed ms s.whole)) (RetP w0 H fp fun v m'=>v = .lb true ∧ ∃ s',s' = issN s 1 m l ∧ NodMem 3 s' m') := by
 obtain ⟨mo,mg,mw,mh⟩ := h.mok 1 m hm
 have htil := h.til 1 l hl
 have hwl := h.hwl
 obtain ⟨b1,b2,b3,b4,b5⟩ := mb_right hw.mb hm ⟨by omega,by omega⟩
 obtain ⟨e1,e2,e3,_⟩ := h.issue ht hm hl (secOf ((1 : Nat) : Int) l.length)
 obtain ⟨x1,x2,x3⟩ := hw.ns 1 _ _ rfl hl
 have hxl := D.Is.length (α := Int) n1
 rw [x3] at hxl
 apply execRS_sound ctNiOk [] 400
 rw [ni31_in]
 have e0 : (issueMb m).2 = (l.length : Int) := by rw [e1]; exact e2
 have e4 : ∀ d : D,(wtOf d 1 (l.length : Int)).wt = Wt.mk 0 ((1 : Nat) : Int) [secOf ((1 : Nat) : Int) l.length] := fun d=>(wt_of d 1 _).1
 obtain ⟨r,hr⟩ : ∃ r,issueH s.whole (Wt.mk 0 ((1 : Nat) : Int) [secOf ((1 : Nat) : Int) l.length]) = r := ⟨_,rfl⟩
 rw [hr] at e3
 simp only [b4,hi_back,e0,e4,hr,hxl]
 refine ⟨b1,⟨b2,hw.mb.2.1⟩,b3,fun hs=>⟨by decide,fun hc=>absurd hc (by simp),fun _ hs1=>⟨⟨((h.hsm (by omega)).right zd wd ed).1,((h.hsm (by omega)).right zd wd ed).2,(wt_of _ _ _).2⟩,fun hs2 hs3=>⟨b1,⟨b5,by rw [hw.mb.2.1]; exact Nat.le_refl _,hw.mb.2.1⟩,fun hs4=>⟨by decide,⟨x2,(is_of (h := D.hd (hs4 13 0)) (s := 1) rfl (int_oneN _)).1.fits,?_,?_⟩,by decide,?_⟩⟩⟩⟩⟩
 ·simp only [len_slc,List.length_cons,List.length_nil]; omega
 ·simp only [len_slc,List.length_cons,List.length_nil]; omega
 ·have hms := mb_set hw.mb.1 (i := 1) (by rw [hw.mb.2.2]; exact (List.getElem?_eq_some_iff.1 hm).1) (hs 0 0) (hs 0 1) (issueMb m).1
  rw [hw.mb.2.2] at hms
  have key : NodMem 3 (issN s 1 m l) (noM 3 [n0,(.slc (D.hd (hs4 14 0)) 1 (List.append n1.rows (D.slc (D.hd (hs4 13 0)) 1 [[D.int .i64 r.2.1]]).rows)),n2] s.now s.co pd sd (mb.setCells 1 0 (mbRow (hs 0 0) (hs 0 1) (issueMb m).1)) (hs2 0 0) (hs2 0 1) (hs2 0 2) ms r.1) := by
   subst e3
   have hrr := rows_app (rows_of x1) (int_oneN (s.whole.writes.length : Int))
   obtain ⟨y1,y2⟩ := is_of (h := D.hd (hs4 14 0)) (s := 1) rfl hrr
   rw [x3] at y2
   exact ⟨_,_,_,_,_,_,_,_,hw.put (i := 1) hms ⟨y1,rfl,y2⟩,rfl⟩
  exact retNC (fd := Try.f68) (l := [.bool (decide (r.2.2 = 0))]) 3 (noM 3 [n0,(.slc (D.hd (hs4 14 0)) 1 (List.append n1.rows (D.slc (D.hd (hs4 13 0)) 1 [[D.int .i64 r.2.1]]).rows)),n2] s.now s.co pd sd (mb.setCells 1 0 (mbRow (hs 0 0) (hs 0 1) (issueMb m).1)) (hs2 0 0) (hs2 0 1) (hs2 0 2) ms r.1) ⟨_,rfl,key⟩ (fun E=>by rw [e3]; simp [one?,SV.den])
theorem ni32 {pd sd mb zd wd ed ms n0 n1 n2 : D} {m : Mb} {l : List Int} (h : NOk s 3 G t) (ht : t ≤ 99) (hm : s.mbs[2]? = some m) (hl : s.nums[2]? = some l) (hw : NW 3 [n0,n1,n2] mb ms s) (w0 : World) (H : HV) (fp : Nat → Nat) :
  Runs Try.prog (@Ctx.mk w0 H (pinX fp)) (sysN 68 78 [(0,.ptr 100000 0),(1,.int .i64 2)] (noM 3 [n0,n1,n2] s.now s.co pd sd mb zd wd ed ms s.whole)) (RetP w0 H fp fun v m'=>v = .lb true ∧ ∃ s',s' = issN s 2 m l ∧ NodMem 3 s' m') := by
 obtain ⟨mo,mg,mw,mh⟩ := h.mok 2 m hm
 have htil := h.til 2 l hl
 have hwl := h.hwl
 obtain ⟨b1,b2,b3,b4,b5⟩ := mb_right hw.mb hm ⟨by omega,by omega⟩
 obtain ⟨e1,e2,e3,_⟩ := h.issue ht hm hl (secOf ((2 : Nat) : Int) l.length)
 obtain ⟨x1,x2,x3⟩ := hw.ns 2 _ _ rfl hl
 have hxl := D.Is.length (α := Int) n2
 rw [x3] at hxl
 apply execRS_sound ctNiOk [] 400
 rw [ni32_in]
 have e0 : (issueMb m).2 = (l.length : Int) := by rw [e1]; exact e2
 have e4 : ∀ d : D,(wtOf d 2 (l.length : Int)).wt = Wt.mk 0 ((2 : Nat) : Int) [secOf ((2 : Nat) : Int) l.length] := fun d=>(wt_of d 2 _).1
 obtain ⟨r,hr⟩ : ∃ r,issueH s.whole (Wt.mk 0 ((2 : Nat) : Int) [secOf ((2 : Nat) : Int) l.length]) = r := ⟨_,rfl⟩
 rw [hr] at e3
 simp only [b4,hi_back,e0,e4,hr,hxl]
 refine ⟨b1,⟨b2,hw.mb.2.1⟩,b3,fun hs=>⟨by decide,fun hc=>absurd hc (by simp),fun _ hs1=>⟨⟨((h.hsm (by omega)).right zd wd ed).1,((h.hsm (by omega)).right zd wd ed).2,(wt_of _ _ _).2⟩,fun hs2 hs3=>⟨b1,⟨b5,by rw [hw.mb.2.1]; exact Nat.le_refl _,hw.mb.2.1⟩,fun hs4=>⟨by decide,⟨x2,(is_of (h := D.hd (hs4 13 0)) (s := 1) rfl (int_oneN _)).1.fits,?_,?_⟩,by decide,?_⟩⟩⟩⟩⟩
 ·simp only [len_slc,List.length_cons,List.length_nil]; omega
 ·simp only [len_slc,List.length_cons,List.length_nil]; omega
 ·have hms := mb_set hw.mb.1 (i := 2) (by rw [hw.mb.2.2]; exact (List.getElem?_eq_some_iff.1 hm).1) (hs 0 0) (hs 0 1) (issueMb m).1
  rw [hw.mb.2.2] at hms
  have key : NodMem 3 (issN s 2 m l) (noM 3 [n0,n1,(.slc (D.hd (hs4 14 0)) 1 (List.append n2.rows (D.slc (D.hd (hs4 13 0)) 1 [[D.int .i64 r.2.1]]).rows))] s.now s.co pd sd (mb.setCells 2 0 (mbRow (hs 0 0) (hs 0 1) (issueMb m).1)) (hs2 0 0) (hs2 0 1) (hs2 0 2) ms r.1) := by
   subst e3
   have hrr := rows_app (rows_of x1) (int_oneN (s.whole.writes.length : Int))
   obtain ⟨y1,y2⟩ := is_of (h := D.hd (hs4 14 0)) (s := 1) rfl hrr
   rw [x3] at y2
   exact ⟨_,_,_,_,_,_,_,_,hw.put (i := 2) hms ⟨y1,rfl,y2⟩,rfl⟩
  exact retNC (fd := Try.f68) (l := [.bool (decide (r.2.2 = 0))]) 3 (noM 3 [n0,n1,(.slc (D.hd (hs4 14 0)) 1 (List.append n2.rows (D.slc (D.hd (hs4 13 0)) 1 [[D.int .i64 r.2.1]]).rows))] s.now s.co pd sd (mb.setCells 2 0 (mbRow (hs 0 0) (hs 0 1) (issueMb m).1)) (hs2 0 0) (hs2 0 1) (hs2 0 2) ms r.1) ⟨_,rfl,key⟩ (fun E=>by rw [e3]; simp [one?,SV.den])
theorem iss_meth {N i : Nat} {m : Mb} {l : List Int} (h : NOk s N G t) (ht : t ≤ 99) (hm : s.mbs[i]? = some m) (hl : s.nums[i]? = some l) : NMeth N 68 78 [(0,.ptr 100000 0),(1,.int .i64 i)] s fun s'=>s' = issN s i m l := by
 intro w0 H fp mm ⟨ns,pd,sd,mb,zd,wd,ed,ms,hw,he⟩
 subst he
 have hn := h.n1
 have hnl := hw.len.1
 have hi : i < N := by have := (List.getElem?_eq_some_iff.1 hm).1; rw [h.nb] at this; exact this
 rcases ns with _ | ⟨n0,_ | ⟨n1,_ | ⟨n2,_ | ⟨n3,r⟩⟩⟩⟩
 ·simp only [List.length_nil] at hnl; omega
 ·simp only [List.length_cons,List.length_nil] at hnl
  subst hnl
  have h0 : i = 0 := by omega
  subst h0
  exact ni10 h ht hm hl hw w0 H fp
 ·simp only [List.length_cons,List.length_nil] at hnl
  subst hnl
  by_cases h0 : i = 0
  ·subst h0
   exact ni20 h ht hm hl hw w0 H fp
  have h1 : i = 1 := by omega
  subst h1
  exact ni21 h ht hm hl hw w0 H fp
 ·simp only [List.length_cons,List.length_nil] at hnl
  subst hnl
  by_cases h0 : i = 0
  ·subst h0
   exact ni30 h ht hm hl hw w0 H fp
  by_cases h1 : i = 1
  ·subst h1
   exact ni31 h ht hm hl hw w0 H fp
  have h2 : i = 2 := by omega
  subst h2
  exact ni32 h ht hm hl hw w0 H fp
 ·simp only [List.length_cons] at hnl; omega
end
end Sv
end
noncomputable section
open Go Go.Proofs Sx
namespace Sx
theorem ndI_rng {d : D} (v : Int) (h : 0 < d.len) : 0 ≤ ndI v d ∧ ndI v d < (d.len : Int) := by
 unfold ndI
 refine ⟨?_,Int.tmod_lt_of_pos _ (by omega)⟩
 rw [Int.tmod_eq_emod_of_nonneg (by split <;> omega)]
 exact Int.emod_nonneg _ (by omega)
theorem ndI_nat {d : D} (v : Int) (h : 0 < d.len) : ∃ i : Nat,ndI v d = (i : Int) ∧ i < d.len := by
 obtain ⟨h1,h2⟩ := ndI_rng v h
 obtain ⟨i,hi⟩ := Int.eq_ofNat_of_zero_le h1
 exact ⟨i,hi,by omega⟩
theorem tm8 (v : Int) : 0 ≤ Int.tmod (if v > 0 then v else 0) 8 ∧ Int.tmod (if v > 0 then v else 0) 8 ≤ 8 := by
 have h1 := Int.tmod_lt_of_pos (if v > 0 then v else 0) (b := 8) (by decide)
 rw [Int.tmod_eq_emod_of_nonneg (by split <;> omega)] at h1 ⊢
 have := Int.emod_nonneg (if v > 0 then v else 0) (b := 8) (by decide)
 omega
theorem ms_at {d : D} (h : d.Is Msg) {i : Nat} (hi : i < (d.to Msg).length) : d.HasCells i 0 [.int .i64,.int .i64,.int .i64,.int .i64,.int .i64,.int .i64,.slc,.slc] ∧ (msAt d i).msg = (d.to Msg)[i] ∧ d.getInt i 2 = ((d.to Msg)[i]).to := by
 obtain ⟨h8,h0,h1,h2,h3,h4,h5,_,h6,_,h7⟩ := msg_cell h hi
 refine ⟨h8,?_,h2⟩
 simp only [msAt,MsgD.msg,h0,h1,h2,h3,h4,h5,h6,h7]
def pickN (v : Int) (n : Nat) : Nat := (Int.tmod (if v > 0 then v else 0) (n : Int)).toNat
def stpN (s : NdS) (kk kw pa : Int) : NdS :=
 if kk = 2 then (if (startCo s.co s.now pa).2.2 = 0 then { s with co := (startCo s.co s.now pa).1,msgs := s.msgs ++ (startCo s.co s.now pa).2.1 } else s)
 else match s.msgs[pickN kw s.msgs.length]? with
  | none=>s
  | some x=>if x.to = (s.mbs.length : Int) then { s with co := (collectCo s.co s.now x).1,msgs := s.msgs ++ (collectCo s.co s.now x).2 }
   else match s.mbs[x.to.toNat]?,s.nums[x.to.toNat]? with
    | some m,some l=>{ s with mbs := s.mbs.set x.to.toNat (obeyMb m s.now pa x).1,whole := ackNs s.whole l (obeyMb m s.now pa x).2.1,msgs := s.msgs ++ (obeyMb m s.now pa x).2.2 }
    | _,_=>s
def Sx2 (s : NdS) (n : Nat) (G : Gh) (t : Nat) (kk kw pa : Int) (s' : NdS) : Prop := Nx s n G t s' ∧ (kk = 2 ∨ kk = 3 → s' = stpN s kk kw pa)
theorem dur_len (m : Mb) (x : Int) : (durMb m x).2.1.length ≤ 1 := by
 unfold durMb
 repeat' split
 all_goals simp
theorem co_back (pd sd : D) (c : Co) : (coOf pd sd c).co = c := by simp only [CoD.co,coOf,D.like_to]
theorem mb_w {mb : D} {i : Nat} {m : Mb} (h : (mbAt mb i).mb = m) : (mb.cell i 6).to Int = m.waiting := congrArg Mb.waiting h
theorem NW.mem {N : Nat} {ns : List D} {mb mb' ms : D} {s : NdS} {M : List Mb} {W : Hist} (hw : NW N ns mb ms s) (hm : mb'.Is Mb ∧ mb'.sz = 8 ∧ mb'.to Mb = M) : NW N ns mb' ms { s with mbs := M,whole := W } := ⟨hm,hw.ms,hw.len,hw.ns⟩
theorem NW.msg {N : Nat} {ns : List D} {mb ms ms' : D} {s : NdS} {l : List Msg} {now : Int} {co : Co} (hw : NW N ns mb ms s) (hm : ms'.Is Msg ∧ ms'.sz = 8 ∧ ms'.to Msg = l) : NW N ns mb ms' { s with now := now,co := co,msgs := l } := ⟨hw.mb,hm,hw.len,hw.ns⟩
theorem ms_app {ms : D} {l : List Msg} (h : ms.Is Msg ∧ ms.sz = 8 ∧ ms.to Msg = l) (d e : D) (x : List Msg) : (D.slc d.hd 8 (List.append ms.rows (e.like x).rows)).Is Msg ∧ (D.slc d.hd 8 (List.append ms.rows (e.like x).rows)).sz = 8 ∧ (D.slc d.hd 8 (List.append ms.rows (e.like x).rows)).to Msg = l ++ x := by
 have hr := rows_app (rows_of h.1) (rows_of (D.like_is e x))
 rw [D.like_to,h.2.2] at hr
 obtain ⟨y1,y2⟩ := is_of (h := d.hd) (s := 8) rfl hr
 exact ⟨y1,rfl,y2⟩
end Sx
namespace Sv
theorem ctSpOk : Ctrs.Ok Try.prog ctSp := by
 intro x hx
 simp only [ctSp,List.mem_cons,List.not_mem_nil,or_false] at hx
 rcases hx with rfl | rfl | rfl | rfl | rfl | rfl
 ·exact ctrOf_ok B21.lawDur1
 ·exact ctrOf_ok (B21.lawStart _ (.inl rfl))
 ·exact ctrOf_ok B21.lawColl1
 ·exact ctrOf_ok B21.lawObey1
 ·exact ctrOf_ok B21.lawRel1
 ·exact ctrOf_ok B21.lawExp1
theorem nmeth_call {N : Nat} {s : NdS} {f : FuncId} {n : Nat} {args : List (Nat × SV)} {Φ : NdS → Prop} (hm : NMeth N f n args s Φ) {g : SFrm} {w0 : World} {H : HV} {f0 : Nat → Nat} {R : Value → World → Prop} {mem : Mem} (m' : Mem)
  (hs : NodMem N s m') (k : ∀ s' m'',Φ s' → NodMem N s' m'' → Runs Try.prog (@Ctx.mk w0 H (pinX f0)) (backN g m'') R)
  (hto : (moveM mem (mvN N mem)).map (pickK (ksN N)) = some m' := by kernel_rfl) (hn : (ksN N).Nodup := by decide) (hfx : (SV.fixedL (mkJ 1 args 0 n) && [g].all fun f=>SV.fixedL f.tmps) = true := by kernel_rfl) (hgp : (g.tmps.all SV.pinned && ([] : List SFrm).all fun f=>f.tmps.all SV.pinned) = true := by kernel_rfl) :
  Runs Try.prog (@Ctx.mk w0 H (pinX f0)) ⟨SFrm.mk f none none [Item.code (cA f [])] (mkJ 1 args 0 n),[g],mem⟩ R :=
 runs_to (MemTo.to _ _ hto hn) hfx (runs_methP hgp (fun H f _=>hm w0 H f m' hs) (fun v m ⟨hv,s',hΦ,hm⟩=>by subst hv; exact k s' m hΦ hm))
section
variable {s : NdS} {t : Nat} {G : Gh}
theorem spi1_k {w0 : World} {H : HV} {fp : Nat → Nat} {mm : Mem} {Φ : NdS → Prop} (h : NodMem 1 s mm) (hΦ : Φ s) : Runs Try.prog (@Ctx.mk w0 H (pinX fp)) (backN spFi mm) (RetP w0 H fp fun v m=>v = .lb true ∧ ∃ s',Φ s' ∧ NodMem 1 s' m) := by
 have h0 := h
 obtain ⟨ns,pd,sd,mb,zd,wd,ed,ms,hw,he⟩ := h
 subst he
 have hnl := hw.len.1
 obtain ⟨n0,rfl⟩ : ∃ n0 : D,ns = [n0] := by
  match ns,hnl with
  | [n0],_=>exact ⟨n0,rfl⟩
 apply execRS_sound ctSpOk [] 400
 rw [spi1]
 exact retNC (fd := Try.f33) (l := [.lb true]) 1 (noM 1 [n0] s.now s.co pd sd mb zd wd ed ms s.whole) ⟨s,hΦ,h0⟩
theorem spd1_k {w0 : World} {H : HV} {fp : Nat → Nat} {mm : Mem} {Φ : NdS → Prop} (h : NodMem 1 s mm) (hΦ : Φ s) : Runs Try.prog (@Ctx.mk w0 H (pinX fp)) (backN spFd mm) (RetP w0 H fp fun v m=>v = .lb true ∧ ∃ s',Φ s' ∧ NodMem 1 s' m) := by
 have h0 := h
 obtain ⟨ns,pd,sd,mb,zd,wd,ed,ms,hw,he⟩ := h
 subst he
 have hnl := hw.len.1
 obtain ⟨n0,rfl⟩ : ∃ n0 : D,ns = [n0] := by
  match ns,hnl with
  | [n0],_=>exact ⟨n0,rfl⟩
 apply execRS_sound ctSpOk [] 400
 rw [spd1]
 exact retNC (fd := Try.f33) (l := [.lb true]) 1 (noM 1 [n0] s.now s.co pd sd mb zd wd ed ms s.whole) ⟨s,hΦ,h0⟩
theorem spo1_k {w0 : World} {H : HV} {fp : Nat → Nat} {mm : Mem} {Φ : NdS → Prop} (h : NodMem 1 s mm) (hΦ : Φ s) : Runs Try.prog (@Ctx.mk w0 H (pinX fp)) (backN spFo mm) (RetP w0 H fp fun v m=>v = .lb true ∧ ∃ s',Φ s' ∧ NodMem 1 s' m) := by
 have h0 := h
 obtain ⟨ns,pd,sd,mb,zd,wd,ed,ms,hw,he⟩ := h
 subst he
 have hnl := hw.len.1
 obtain ⟨n0,rfl⟩ : ∃ n0 : D,ns = [n0] := by
  match ns,hnl with
  | [n0],_=>exact ⟨n0,rfl⟩
 apply execRS_sound ctSpOk [] 400
 rw [spo1]
 exact retNC (fd := Try.f33) (l := [.lb true]) 1 (noM 1 [n0] s.now s.co pd sd mb zd wd ed ms s.whole) ⟨s,hΦ,h0⟩
theorem spr1_k {w0 : World} {H : HV} {fp : Nat → Nat} {mm : Mem} {Φ : NdS → Prop} (h : NodMem 1 s mm) (hΦ : Φ s) : Runs Try.prog (@Ctx.mk w0 H (pinX fp)) (backN spFr mm) (RetP w0 H fp fun v m=>v = .lb true ∧ ∃ s',Φ s' ∧ NodMem 1 s' m) := by
 have h0 := h
 obtain ⟨ns,pd,sd,mb,zd,wd,ed,ms,hw,he⟩ := h
 subst he
 have hnl := hw.len.1
 obtain ⟨n0,rfl⟩ : ∃ n0 : D,ns = [n0] := by
  match ns,hnl with
  | [n0],_=>exact ⟨n0,rfl⟩
 apply execRS_sound ctSpOk [] 400
 rw [spr1]
 exact retNC (fd := Try.f33) (l := [.lb true]) 1 (noM 1 [n0] s.now s.co pd sd mb zd wd ed ms s.whole) ⟨s,hΦ,h0⟩
theorem sp1 {pd sd mb zd wd ed ms n0 : D} (h : NOk s 1 G t) (ht : t ≤ 99) (kk kn kw pa : Int) (hw : NW 1 [n0] mb ms s) (w0 : World) (H : HV) (fp : Nat → Nat) :
  Runs Try.prog (@Ctx.mk w0 H (pinX fp)) (sysN 33 298 [(0,.ptr 100000 0),(1,.agg [.int .i64 kk,.int .i64 kn,.int .i64 kw]),(2,.int .i64 pa)] (noM 1 [n0] s.now s.co pd sd mb zd wd ed ms s.whole)) (RetP w0 H fp fun v m'=>v = .lb true ∧ ∃ s',Sx2 s 1 G t kk kw pa s' ∧ NodMem 1 s' m') := by
 have hmbl : mb.len = 1 := by rw [D.Is.length (α := Mb),hw.mb.2.2,h.nb]
 have hmsl : ms.len = s.msgs.length := by rw [D.Is.length (α := Msg),hw.ms.2.2]
 have hml := h.ml
 have hnow := h.now
 have hhs := h.hsm (by omega)
 have hev := h.hel.1
 obtain ⟨i,hi,hil⟩ := ndI_nat kn (d := mb) (by omega)
 obtain ⟨m,hm⟩ : ∃ m,s.mbs[i]? = some m := ⟨_,List.getElem?_eq_getElem (by rw [h.nb]; omega)⟩
 obtain ⟨li,hl⟩ : ∃ l,s.nums[i]? = some l := ⟨_,List.getElem?_eq_getElem (by rw [h.nn]; omega)⟩
 have right : ∀ {j : Nat} {m : Mb},s.mbs[j]? = some m → m.waiting.length ≤ 1000 ∧ m.held.length ≤ 1000 := fun hj=>by obtain ⟨_,_,a,b⟩ := h.mok _ _ hj; omega
 obtain ⟨b1,b2,b3,b4,b5⟩ := mb_right hw.mb hm (right hm)
 have hmem : NodMem 1 s (noM 1 [n0] s.now s.co pd sd mb zd wd ed ms s.whole) := ⟨_,_,_,_,_,_,_,_,hw,rfl⟩
 have same : (kk = 2 ∨ kk = 3 → s = stpN s kk kw pa) → ∃ s',Sx2 s 1 G t kk kw pa s' ∧ NodMem 1 s' (noM 1 [n0] s.now s.co pd sd mb zd wd ed ms s.whole) := fun he=>⟨s,⟨h.same,he⟩,hmem⟩
 have app : ∀ (d : D) (l : List Msg),l.length ≤ 8 → (ms.sz = 8 ∧ (d.like l).Fits 8 ∧ (ms.len + (d.like l).len) * 96 ≤ 140737488355328 ∧ ms.len + (d.like l).len ≤ 9223372036854775807) := fun d l hl=>⟨hw.ms.2.1,(D.like_is (α := Msg) _ _).fits,by simp only [like_leng]; omega,by simp only [like_leng]; omega⟩
 have put : ∀ (j : Nat) (m0 m' : Mb) (a b : D),s.mbs[j]? = some m0 → ((mb.setCells j 0 (mbRow a b m')).Is Mb ∧ (mb.setCells j 0 (mbRow a b m')).sz = 8 ∧ (mb.setCells j 0 (mbRow a b m')).to Mb = s.mbs.set j m') := fun j m0 m' a b hj=>by
  have := mb_set hw.mb.1 (i := j) (by rw [hw.mb.2.2]; exact (List.getElem?_eq_some_iff.1 hj).1) a b m'
  rw [hw.mb.2.2] at this
  exact this
 have st8 : 8 ≤ mb.sz := by rw [hw.mb.2.1]; exact Nat.le_refl _
 apply execRE_sound ctSpOk [68,70] 600
 rw [sp1_in]
 simp only [hi,Int.toNat_natCast,b4,co_back]
 refine fun _=>⟨by omega,fun hc=>?_,fun c0=>⟨fun hc=>?_,fun c1=>⟨fun hc hs=>⟨⟨D.like_is _ _,D.like_is _ _⟩,fun h0=>?_,fun _=>?_⟩,fun c2=>⟨fun hc=>⟨fun _=>?_,fun hne=>?_⟩,fun c3=>⟨fun hc=>⟨by decide,?_⟩,fun c4=>⟨fun hc hs=>?_,fun c5=>⟨fun hc hs=>?_,fun _=>?_⟩⟩⟩⟩⟩⟩⟩
 -- a write
 ·exact nmeth_call (iss_meth h ht hm hl) (g := spFi) (noM 1 [n0] s.now s.co pd sd mb zd wd ed ms s.whole) hmem fun s' m'' e hm''=>by
   subst e
   exact spi1_k hm'' ⟨⟨G,(h.issue ht hm hl (secOf (i : Int) li.length)).2.2.2,fun _ _ h=>h,Int.le_refl _⟩,fun hx=>by have := of_decide_eq_true hc; omega⟩
 -- it becomes durable
 ·have hwl := mb_w b4
  have hwi : (mb.cell i 6).Is Int := b3.1
  have hwlen := D.Is.length (α := Int) (mb.cell i 6)
  have hrm := right hm
  refine ⟨b1,⟨b2.2.2.2.2.2.2.1,hw.mb.2.1⟩,fun hp hs=>?_,fun _=>retNC (fd := Try.f33) (l := [.lb true]) 1 (noM 1 [n0] s.now s.co pd sd mb zd wd ed ms s.whole) (same fun hx=>by have := of_decide_eq_true hc; omega)⟩
  have hp := of_decide_eq_true hp
  obtain ⟨k,hk,hkl⟩ := ndI_nat kw (d := mb.cell i 6) (by omega)
  have hkl : k < ((mb.cell i 6).to Int).length := by omega
  obtain ⟨d1,d2,d3⟩ := int_at hwi hkl
  simp only [Int.toNat_natCast] at d2 d3
  have hx : (mb.cell i 6).getInt k 0 ∈ m.waiting := by rw [d3,← hwl]; exact List.getElem_mem _
  obtain ⟨e1,e2,e3⟩ := h.dur ht hm hl hx
  simp only [hk,Int.toNat_natCast]
  refine ⟨b1,⟨b2,hw.mb.2.1⟩,by omega,d1,d2,b3,fun hs1=>⟨b1,⟨b5,st8,hw.mb.2.1⟩,fun _=>?_,fun hc=>absurd hc (by rw [e1]; decide)⟩⟩
  have hd := D.like_to (hs 14 2) (durMb m ((mb.cell i 6).getInt k 0)).2.1
  refine nmeth_call (ack_meth (s := { s with mbs := s.mbs.set i (durMb m ((mb.cell i 6).getInt k 0)).1 }) (N := 1) (i := i) (li := li) (l := (hs 14 2).like (durMb m ((mb.cell i 6).getInt k 0)).2.1) (by omega) (by omega) hl (D.like_is _ _) (by rw [like_leng]; have := dur_len m ((mb.cell i 6).getInt k 0); omega) (by rw [hd]; exact e2) hhs (by show s.whole.events.length ≤ 700000; omega)) (g := spFd) (noM 1 [n0] s.now s.co pd sd (mb.setCells i 0 (mbRow (hs 14 0) (hs 14 1) (durMb m ((mb.cell i 6).getInt k 0)).1)) zd wd ed ms s.whole)
   ⟨_,_,_,_,_,_,_,_,hw.mem (put i m _ _ _ hm),rfl⟩ fun s' m'' e hm''=>?_
  subst e
  rw [hd] at hm''
  exact spd1_k hm'' ⟨e3,fun hx=>by have := of_decide_eq_true hc; omega⟩
 -- a round begins
 ·have h0 : (startCo s.co s.now pa).2.2 = 0 := of_decide_eq_true h0
  obtain ⟨g1,g2,g3,g4⟩ := start_g h.co (by omega) s.now pa h0
  refine fun hs1=>⟨app _ _ g3,?_⟩
  exact retNC (fd := Try.f33) (l := [.lb true]) 1 (noM 1 [n0] s.now (startCo s.co s.now pa).1 (hs 9 0) (hs 9 1) mb zd wd ed (.slc (D.hd (hs1 8 0)) 8 (List.append ms.rows ((hs 9 2).like (startCo s.co s.now pa).2.1).rows)) s.whole)
   ⟨_,⟨h.cstep g1 (by omega) g4 g3,fun _=>by unfold stpN; rw [if_pos (of_decide_eq_true hc),if_pos h0]⟩,_,_,_,_,_,_,_,_,hw.msg (ms_app hw.ms (hs1 8 0) (hs 9 2) _),rfl⟩
 ·rename_i h0
  exact retNC (fd := Try.f33) (l := [.lb true]) 1 (noM 1 [n0] s.now s.co pd sd mb zd wd ed ms s.whole) (same fun _=>by unfold stpN; rw [if_pos (of_decide_eq_true hc),if_neg (of_decide_eq_false h0)])
 -- a message arrives
 ·rename_i h0
  have h0 : s.msgs.length = 0 := by have := of_decide_eq_true h0; omega
  have hcc : ¬kk = 2 := of_decide_eq_false c2
  exact retNC (fd := Try.f33) (l := [.lb true]) 1 (noM 1 [n0] s.now s.co pd sd mb zd wd ed ms s.whole) (same fun _=>by unfold stpN; rw [if_neg hcc,List.length_eq_zero_iff.1 h0]; rfl)
 ·have hne := of_decide_eq_false hne
  obtain ⟨k,hk,hkl⟩ := ndI_nat kw (d := ms) (by omega)
  have hkl2 : k < (ms.to Msg).length := by rw [hw.ms.2.2]; omega
  obtain ⟨a1,a2,a3⟩ := ms_at hw.ms.1 hkl2
  obtain ⟨x,hx⟩ : ∃ x,(ms.to Msg)[k] = x := ⟨_,rfl⟩
  have hcc : ¬kk = 2 := of_decide_eq_false c2
  have hpk : s.msgs[pickN kw s.msgs.length]? = some x := by
   have e1 : pickN kw s.msgs.length = k := by rw [← hmsl]; unfold pickN; unfold ndI at hk; rw [hk]; rfl
   rw [e1,← hw.ms.2.2,List.getElem?_eq_getElem hkl2,hx]
  have hxm : x ∈ s.msgs := by rw [← hx,← hw.ms.2.2]; exact List.getElem_mem _
  rw [hx] at a2 a3
  have hg := h.ms x hxm
  have d1 : decide (x.to < 0) = false := decide_eq_false (by rcases hg with ⟨⟨a,_⟩,_⟩ | ⟨a,_⟩ <;> omega)
  have d2 : decide (x.to > (1 : Int)) = false := decide_eq_false (by rcases hg with ⟨⟨_,a⟩,_⟩ | ⟨a,_⟩ <;> omega)
  have hmbl2 : (mb.len : Int) = 1 := by omega
  simp only [hk,Int.toNat_natCast,a2,a3,hmbl2]
  refine fun hs=>⟨by omega,⟨by omega,by omega,hw.ms.2.1⟩,⟨a1,hw.ms.2.1⟩,fun hs0=>⟨fun hc=>absurd (d1.symm.trans hc) (by decide),fun _=>?_⟩⟩
  iterate 9 refine ⟨d1,?_⟩
  refine ⟨fun hc=>absurd (d2.symm.trans hc) (by decide),fun _ hs1=>⟨fun ht3 hs=>⟨⟨D.like_is _ _,D.like_is _ _⟩,fun hs1=>?_⟩,fun ht3 hs=>?_⟩⟩
  ·have ht3 := of_decide_eq_true ht3
   have hk2 : x.kind = 2 → (x.number,x.value) ∈ G x.frm.toNat := fun hk=>by
    rcases hg with ⟨⟨_,a⟩,_⟩ | ⟨_,_,a⟩
    ·omega
    ·exact a hk
   obtain ⟨g1,g2,g3,g4⟩ := collect_g h.co (by omega) s.now hk2
   refine ⟨app _ _ g3,?_⟩
   exact retNC (fd := Try.f33) (l := [.lb true]) 1 (noM 1 [n0] s.now (collectCo s.co s.now x).1 (hs 9 0) (hs 9 1) mb zd wd ed (.slc (D.hd (hs1 8 0)) 8 (List.append ms.rows ((hs 9 2).like (collectCo s.co s.now x).2).rows)) s.whole)
    ⟨_,⟨h.cstep g1 (by omega) g4 g3,fun _=>by unfold stpN; rw [if_neg hcc,hpk]; simp only; rw [if_pos (by rw [h.nb]; exact ht3)]⟩,_,_,_,_,_,_,_,_,hw.msg (ms_app hw.ms (hs1 8 0) (hs 9 2) _),rfl⟩
  ·have ht3 := of_decide_eq_false ht3
   have hto : 0 ≤ x.to ∧ x.to < 1 := by rcases hg with ⟨a,_⟩ | ⟨a,_⟩ <;> omega
   obtain ⟨j,hj⟩ := Int.eq_ofNat_of_zero_le hto.1
   obtain ⟨m2,hm2⟩ : ∃ m,s.mbs[j]? = some m := ⟨_,List.getElem?_eq_getElem (by rw [h.nb]; omega)⟩
   obtain ⟨l2,hl2⟩ : ∃ l,s.nums[j]? = some l := ⟨_,List.getElem?_eq_getElem (by rw [h.nn]; omega)⟩
   obtain ⟨q1,q2,q3,q4,q5⟩ := mb_right hw.mb hm2 (right hm2)
   obtain ⟨e1,e2,e3⟩ := h.obey ht hxm pa (i := j) hj (by omega) hm2 hl2
   have hhl := (h.held hm2 hl2 (obey_step (h.mok j m2 hm2).1 s.now pa x)).2
   simp only [hj,Int.toNat_natCast,q4]
   have q1' : 0 ≤ (j : Int) ∧ (j : Int) < (1 : Int) ∧ mb.sz = 8 := ⟨by omega,by omega,hw.mb.2.1⟩
   refine ⟨q1',⟨q2,hw.mb.2.1⟩,q3,fun hs1=>⟨app _ _ e2,q1',⟨q5,st8,hw.mb.2.1⟩,?_⟩⟩
   have hd := D.like_to (hs 14 2) (obeyMb m2 s.now pa x).2.1
   refine nmeth_call (ack_meth (s := { s with mbs := s.mbs.set j (obeyMb m2 s.now pa x).1,msgs := s.msgs ++ (obeyMb m2 s.now pa x).2.2 }) (N := 1) (i := j) (li := l2) (l := (hs 14 2).like (obeyMb m2 s.now pa x).2.1) (by omega) (by omega) hl2 (D.like_is _ _) (by rw [like_leng]; omega) (by rw [hd]; exact e1) hhs (by show s.whole.events.length ≤ 700000; omega)) (g := spFo) (noM 1 [n0] s.now s.co pd sd (mb.setCells j 0 (mbRow (hs 14 0) (hs 14 1) (obeyMb m2 s.now pa x).1)) zd wd ed (.slc (D.hd (hs1 13 0)) 8 (List.append ms.rows ((hs 14 3).like (obeyMb m2 s.now pa x).2.2).rows)) s.whole)
    ⟨_,_,_,_,_,_,_,_,⟨put j m2 _ _ _ hm2,ms_app hw.ms (hs1 13 0) (hs 14 3) _,hw.len,hw.ns⟩,rfl⟩ fun s' m'' e hm''=>?_
   subst e
   rw [hd] at hm''
   exact spo1_k hm'' ⟨e3,fun _=>by unfold stpN; rw [if_neg hcc,hpk]; simp only; rw [if_neg (by rw [h.nb]; exact ht3),hj,Int.toNat_natCast,hm2,hl2]⟩
 -- time passes
 ·obtain ⟨t1,t2⟩ := tm8 kw
  have hwr : IntKind.i64.wrap (s.now + Int.tmod (if kw > 0 then kw else 0) 8) = s.now + Int.tmod (if kw > 0 then kw else 0) 8 := wrap64J (by omega) (by omega)
  rw [hwr]
  exact retNC (fd := Try.f33) (l := [.lb true]) 1 (noM 1 [n0] (s.now + Int.tmod (if kw > 0 then kw else 0) 8) s.co pd sd mb zd wd ed ms s.whole) ⟨_,⟨h.wait t1 t2,fun hx=>by have := of_decide_eq_true hc; omega⟩,_,_,_,_,_,_,_,_,hw.msg (l := s.msgs) (co := s.co) hw.ms,rfl⟩
 -- a node looks at its patience
 ·obtain ⟨e1,e2⟩ := h.rel ht hm hl
  have hhl := (h.held hm hl (rel_step (h.mok i m hm).1 s.now)).2
  refine ⟨b1,⟨b2,hw.mb.2.1⟩,b3,fun hs1=>⟨b1,⟨b5,st8,hw.mb.2.1⟩,?_⟩⟩
  have hd := D.like_to (hs 11 2) (relMb m s.now).2
  refine nmeth_call (ack_meth (s := { s with mbs := s.mbs.set i (relMb m s.now).1 }) (N := 1) (i := i) (li := li) (l := (hs 11 2).like (relMb m s.now).2) (by omega) (by omega) hl (D.like_is _ _) (by rw [like_leng]; omega) (by rw [hd]; exact e1) hhs (by show s.whole.events.length ≤ 700000; omega)) (g := spFr) (noM 1 [n0] s.now s.co pd sd (mb.setCells i 0 (mbRow (hs 11 0) (hs 11 1) (relMb m s.now).1)) zd wd ed ms s.whole)
   ⟨_,_,_,_,_,_,_,_,hw.mem (put i m _ _ _ hm),rfl⟩ fun s' m'' e hm''=>?_
  subst e
  rw [hd] at hm''
  exact spr1_k hm'' ⟨e2,fun hx=>by have := of_decide_eq_true hc; omega⟩
 -- the coordinator looks at its deadline
 ·obtain ⟨g1,g2,g3,g4⟩ := expire_g h.co (by omega) s.now
  refine ⟨⟨D.like_is _ _,D.like_is _ _⟩,fun hs1=>⟨app _ _ g3,?_⟩⟩
  exact retNC (fd := Try.f33) (l := [.lb true]) 1 (noM 1 [n0] s.now (expireCo s.co s.now).1 (hs 8 0) (hs 8 1) mb zd wd ed (.slc (D.hd (hs1 8 0)) 8 (List.append ms.rows ((hs 8 2).like (expireCo s.co s.now).2).rows)) s.whole)
   ⟨_,⟨h.cstep g1 (by omega) g4 g3,fun hx=>by have := of_decide_eq_true hc; omega⟩,_,_,_,_,_,_,_,_,hw.msg (ms_app hw.ms (hs1 8 0) (hs 8 2) _),rfl⟩
 ·have c2' := of_decide_eq_false c2
  have c3' := of_decide_eq_false c3
  exact retNC (fd := Try.f33) (l := [.lb true]) 1 (noM 1 [n0] s.now s.co pd sd mb zd wd ed ms s.whole) (same fun hx=>by omega)
theorem spi2_k {w0 : World} {H : HV} {fp : Nat → Nat} {mm : Mem} {Φ : NdS → Prop} (h : NodMem 2 s mm) (hΦ : Φ s) : Runs Try.prog (@Ctx.mk w0 H (pinX fp)) (backN spFi mm) (RetP w0 H fp fun v m=>v = .lb true ∧ ∃ s',Φ s' ∧ NodMem 2 s' m) := by
 have h0 := h
 obtain ⟨ns,pd,sd,mb,zd,wd,ed,ms,hw,he⟩ := h
 subst he
 have hnl := hw.len.1
 obtain ⟨n0,n1,rfl⟩ : ∃ n0 n1 : D,ns = [n0,n1] := by
  match ns,hnl with
  | [n0,n1],_=>exact ⟨n0,n1,rfl⟩
 apply execRS_sound ctSpOk [] 400
 rw [spi2]
 exact retNC (fd := Try.f33) (l := [.lb true]) 2 (noM 2 [n0,n1] s.now s.co pd sd mb zd wd ed ms s.whole) ⟨s,hΦ,h0⟩
theorem spd2_k {w0 : World} {H : HV} {fp : Nat → Nat} {mm : Mem} {Φ : NdS → Prop} (h : NodMem 2 s mm) (hΦ : Φ s) : Runs Try.prog (@Ctx.mk w0 H (pinX fp)) (backN spFd mm) (RetP w0 H fp fun v m=>v = .lb true ∧ ∃ s',Φ s' ∧ NodMem 2 s' m) := by
 have h0 := h
 obtain ⟨ns,pd,sd,mb,zd,wd,ed,ms,hw,he⟩ := h
 subst he
 have hnl := hw.len.1
 obtain ⟨n0,n1,rfl⟩ : ∃ n0 n1 : D,ns = [n0,n1] := by
  match ns,hnl with
  | [n0,n1],_=>exact ⟨n0,n1,rfl⟩
 apply execRS_sound ctSpOk [] 400
 rw [spd2]
 exact retNC (fd := Try.f33) (l := [.lb true]) 2 (noM 2 [n0,n1] s.now s.co pd sd mb zd wd ed ms s.whole) ⟨s,hΦ,h0⟩
theorem spo2_k {w0 : World} {H : HV} {fp : Nat → Nat} {mm : Mem} {Φ : NdS → Prop} (h : NodMem 2 s mm) (hΦ : Φ s) : Runs Try.prog (@Ctx.mk w0 H (pinX fp)) (backN spFo mm) (RetP w0 H fp fun v m=>v = .lb true ∧ ∃ s',Φ s' ∧ NodMem 2 s' m) := by
 have h0 := h
 obtain ⟨ns,pd,sd,mb,zd,wd,ed,ms,hw,he⟩ := h
 subst he
 have hnl := hw.len.1
 obtain ⟨n0,n1,rfl⟩ : ∃ n0 n1 : D,ns = [n0,n1] := by
  match ns,hnl with
  | [n0,n1],_=>exact ⟨n0,n1,rfl⟩
 apply execRS_sound ctSpOk [] 400
 rw [spo2]
 exact retNC (fd := Try.f33) (l := [.lb true]) 2 (noM 2 [n0,n1] s.now s.co pd sd mb zd wd ed ms s.whole) ⟨s,hΦ,h0⟩
theorem spr2_k {w0 : World} {H : HV} {fp : Nat → Nat} {mm : Mem} {Φ : NdS → Prop} (h : NodMem 2 s mm) (hΦ : Φ s) : Runs Try.prog (@Ctx.mk w0 H (pinX fp)) (backN spFr mm) (RetP w0 H fp fun v m=>v = .lb true ∧ ∃ s',Φ s' ∧ NodMem 2 s' m) := by
 have h0 := h
 obtain ⟨ns,pd,sd,mb,zd,wd,ed,ms,hw,he⟩ := h
 subst he
 have hnl := hw.len.1
 obtain ⟨n0,n1,rfl⟩ : ∃ n0 n1 : D,ns = [n0,n1] := by
  match ns,hnl with
  | [n0,n1],_=>exact ⟨n0,n1,rfl⟩
 apply execRS_sound ctSpOk [] 400
 rw [spr2]
 exact retNC (fd := Try.f33) (l := [.lb true]) 2 (noM 2 [n0,n1] s.now s.co pd sd mb zd wd ed ms s.whole) ⟨s,hΦ,h0⟩
theorem sp2 {pd sd mb zd wd ed ms n0 n1 : D} (h : NOk s 2 G t) (ht : t ≤ 99) (kk kn kw pa : Int) (hw : NW 2 [n0,n1] mb ms s) (w0 : World) (H : HV) (fp : Nat → Nat) :
  Runs Try.prog (@Ctx.mk w0 H (pinX fp)) (sysN 33 298 [(0,.ptr 100000 0),(1,.agg [.int .i64 kk,.int .i64 kn,.int .i64 kw]),(2,.int .i64 pa)] (noM 2 [n0,n1] s.now s.co pd sd mb zd wd ed ms s.whole)) (RetP w0 H fp fun v m'=>v = .lb true ∧ ∃ s',Sx2 s 2 G t kk kw pa s' ∧ NodMem 2 s' m') := by
 have hmbl : mb.len = 2 := by rw [D.Is.length (α := Mb),hw.mb.2.2,h.nb]
 have hmsl : ms.len = s.msgs.length := by rw [D.Is.length (α := Msg),hw.ms.2.2]
 have hml := h.ml
 have hnow := h.now
 have hhs := h.hsm (by omega)
 have hev := h.hel.1
 obtain ⟨i,hi,hil⟩ := ndI_nat kn (d := mb) (by omega)
 obtain ⟨m,hm⟩ : ∃ m,s.mbs[i]? = some m := ⟨_,List.getElem?_eq_getElem (by rw [h.nb]; omega)⟩
 obtain ⟨li,hl⟩ : ∃ l,s.nums[i]? = some l := ⟨_,List.getElem?_eq_getElem (by rw [h.nn]; omega)⟩
 have right : ∀ {j : Nat} {m : Mb},s.mbs[j]? = some m → m.waiting.length ≤ 1000 ∧ m.held.length ≤ 1000 := fun hj=>by obtain ⟨_,_,a,b⟩ := h.mok _ _ hj; omega
 obtain ⟨b1,b2,b3,b4,b5⟩ := mb_right hw.mb hm (right hm)
 have hmem : NodMem 2 s (noM 2 [n0,n1] s.now s.co pd sd mb zd wd ed ms s.whole) := ⟨_,_,_,_,_,_,_,_,hw,rfl⟩
 have same : (kk = 2 ∨ kk = 3 → s = stpN s kk kw pa) → ∃ s',Sx2 s 2 G t kk kw pa s' ∧ NodMem 2 s' (noM 2 [n0,n1] s.now s.co pd sd mb zd wd ed ms s.whole) := fun he=>⟨s,⟨h.same,he⟩,hmem⟩
 have app : ∀ (d : D) (l : List Msg),l.length ≤ 8 → (ms.sz = 8 ∧ (d.like l).Fits 8 ∧ (ms.len + (d.like l).len) * 96 ≤ 140737488355328 ∧ ms.len + (d.like l).len ≤ 9223372036854775807) := fun d l hl=>⟨hw.ms.2.1,(D.like_is (α := Msg) _ _).fits,by simp only [like_leng]; omega,by simp only [like_leng]; omega⟩
 have put : ∀ (j : Nat) (m0 m' : Mb) (a b : D),s.mbs[j]? = some m0 → ((mb.setCells j 0 (mbRow a b m')).Is Mb ∧ (mb.setCells j 0 (mbRow a b m')).sz = 8 ∧ (mb.setCells j 0 (mbRow a b m')).to Mb = s.mbs.set j m') := fun j m0 m' a b hj=>by
  have := mb_set hw.mb.1 (i := j) (by rw [hw.mb.2.2]; exact (List.getElem?_eq_some_iff.1 hj).1) a b m'
  rw [hw.mb.2.2] at this
  exact this
 have st8 : 8 ≤ mb.sz := by rw [hw.mb.2.1]; exact Nat.le_refl _
 apply execRE_sound ctSpOk [68,70] 600
 rw [sp2_in]
 simp only [hi,Int.toNat_natCast,b4,co_back]
 refine fun _=>⟨by omega,fun hc=>?_,fun c0=>⟨fun hc=>?_,fun c1=>⟨fun hc hs=>⟨⟨D.like_is _ _,D.like_is _ _⟩,fun h0=>?_,fun _=>?_⟩,fun c2=>⟨fun hc=>⟨fun _=>?_,fun hne=>?_⟩,fun c3=>⟨fun hc=>⟨by decide,?_⟩,fun c4=>⟨fun hc hs=>?_,fun c5=>⟨fun hc hs=>?_,fun _=>?_⟩⟩⟩⟩⟩⟩⟩
 -- a write
 ·exact nmeth_call (iss_meth h ht hm hl) (g := spFi) (noM 2 [n0,n1] s.now s.co pd sd mb zd wd ed ms s.whole) hmem fun s' m'' e hm''=>by
   subst e
   exact spi2_k hm'' ⟨⟨G,(h.issue ht hm hl (secOf (i : Int) li.length)).2.2.2,fun _ _ h=>h,Int.le_refl _⟩,fun hx=>by have := of_decide_eq_true hc; omega⟩
 -- it becomes durable
 ·have hwl := mb_w b4
  have hwi : (mb.cell i 6).Is Int := b3.1
  have hwlen := D.Is.length (α := Int) (mb.cell i 6)
  have hrm := right hm
  refine ⟨b1,⟨b2.2.2.2.2.2.2.1,hw.mb.2.1⟩,fun hp hs=>?_,fun _=>retNC (fd := Try.f33) (l := [.lb true]) 2 (noM 2 [n0,n1] s.now s.co pd sd mb zd wd ed ms s.whole) (same fun hx=>by have := of_decide_eq_true hc; omega)⟩
  have hp := of_decide_eq_true hp
  obtain ⟨k,hk,hkl⟩ := ndI_nat kw (d := mb.cell i 6) (by omega)
  have hkl : k < ((mb.cell i 6).to Int).length := by omega
  obtain ⟨d1,d2,d3⟩ := int_at hwi hkl
  simp only [Int.toNat_natCast] at d2 d3
  have hx : (mb.cell i 6).getInt k 0 ∈ m.waiting := by rw [d3,← hwl]; exact List.getElem_mem _
  obtain ⟨e1,e2,e3⟩ := h.dur ht hm hl hx
  simp only [hk,Int.toNat_natCast]
  refine ⟨b1,⟨b2,hw.mb.2.1⟩,by omega,d1,d2,b3,fun hs1=>⟨b1,⟨b5,st8,hw.mb.2.1⟩,fun _=>?_,fun hc=>absurd hc (by rw [e1]; decide)⟩⟩
  have hd := D.like_to (hs 14 2) (durMb m ((mb.cell i 6).getInt k 0)).2.1
  refine nmeth_call (ack_meth (s := { s with mbs := s.mbs.set i (durMb m ((mb.cell i 6).getInt k 0)).1 }) (N := 2) (i := i) (li := li) (l := (hs 14 2).like (durMb m ((mb.cell i 6).getInt k 0)).2.1) (by omega) (by omega) hl (D.like_is _ _) (by rw [like_leng]; have := dur_len m ((mb.cell i 6).getInt k 0); omega) (by rw [hd]; exact e2) hhs (by show s.whole.events.length ≤ 700000; omega)) (g := spFd) (noM 2 [n0,n1] s.now s.co pd sd (mb.setCells i 0 (mbRow (hs 14 0) (hs 14 1) (durMb m ((mb.cell i 6).getInt k 0)).1)) zd wd ed ms s.whole)
   ⟨_,_,_,_,_,_,_,_,hw.mem (put i m _ _ _ hm),rfl⟩ fun s' m'' e hm''=>?_
  subst e
  rw [hd] at hm''
  exact spd2_k hm'' ⟨e3,fun hx=>by have := of_decide_eq_true hc; omega⟩
 -- a round begins
 ·have h0 : (startCo s.co s.now pa).2.2 = 0 := of_decide_eq_true h0
  obtain ⟨g1,g2,g3,g4⟩ := start_g h.co (by omega) s.now pa h0
  refine fun hs1=>⟨app _ _ g3,?_⟩
  exact retNC (fd := Try.f33) (l := [.lb true]) 2 (noM 2 [n0,n1] s.now (startCo s.co s.now pa).1 (hs 9 0) (hs 9 1) mb zd wd ed (.slc (D.hd (hs1 8 0)) 8 (List.append ms.rows ((hs 9 2).like (startCo s.co s.now pa).2.1).rows)) s.whole)
   ⟨_,⟨h.cstep g1 (by omega) g4 g3,fun _=>by unfold stpN; rw [if_pos (of_decide_eq_true hc),if_pos h0]⟩,_,_,_,_,_,_,_,_,hw.msg (ms_app hw.ms (hs1 8 0) (hs 9 2) _),rfl⟩
 ·rename_i h0
  exact retNC (fd := Try.f33) (l := [.lb true]) 2 (noM 2 [n0,n1] s.now s.co pd sd mb zd wd ed ms s.whole) (same fun _=>by unfold stpN; rw [if_pos (of_decide_eq_true hc),if_neg (of_decide_eq_false h0)])
 -- a message arrives
 ·rename_i h0
  have h0 : s.msgs.length = 0 := by have := of_decide_eq_true h0; omega
  have hcc : ¬kk = 2 := of_decide_eq_false c2
  exact retNC (fd := Try.f33) (l := [.lb true]) 2 (noM 2 [n0,n1] s.now s.co pd sd mb zd wd ed ms s.whole) (same fun _=>by unfold stpN; rw [if_neg hcc,List.length_eq_zero_iff.1 h0]; rfl)
 ·have hne := of_decide_eq_false hne
  obtain ⟨k,hk,hkl⟩ := ndI_nat kw (d := ms) (by omega)
  have hkl2 : k < (ms.to Msg).length := by rw [hw.ms.2.2]; omega
  obtain ⟨a1,a2,a3⟩ := ms_at hw.ms.1 hkl2
  obtain ⟨x,hx⟩ : ∃ x,(ms.to Msg)[k] = x := ⟨_,rfl⟩
  have hcc : ¬kk = 2 := of_decide_eq_false c2
  have hpk : s.msgs[pickN kw s.msgs.length]? = some x := by
   have e1 : pickN kw s.msgs.length = k := by rw [← hmsl]; unfold pickN; unfold ndI at hk; rw [hk]; rfl
   rw [e1,← hw.ms.2.2,List.getElem?_eq_getElem hkl2,hx]
  have hxm : x ∈ s.msgs := by rw [← hx,← hw.ms.2.2]; exact List.getElem_mem _
  rw [hx] at a2 a3
  have hg := h.ms x hxm
  have d1 : decide (x.to < 0) = false := decide_eq_false (by rcases hg with ⟨⟨a,_⟩,_⟩ | ⟨a,_⟩ <;> omega)
  have d2 : decide (x.to > (2 : Int)) = false := decide_eq_false (by rcases hg with ⟨⟨_,a⟩,_⟩ | ⟨a,_⟩ <;> omega)
  have hmbl2 : (mb.len : Int) = 2 := by omega
  simp only [hk,Int.toNat_natCast,a2,a3,hmbl2]
  refine fun hs=>⟨by omega,⟨by omega,by omega,hw.ms.2.1⟩,⟨a1,hw.ms.2.1⟩,fun hs0=>⟨fun hc=>absurd (d1.symm.trans hc) (by decide),fun _=>?_⟩⟩
  iterate 9 refine ⟨d1,?_⟩
  refine ⟨fun hc=>absurd (d2.symm.trans hc) (by decide),fun _ hs1=>⟨fun ht3 hs=>⟨⟨D.like_is _ _,D.like_is _ _⟩,fun hs1=>?_⟩,fun ht3 hs=>?_⟩⟩
  ·have ht3 := of_decide_eq_true ht3
   have hk2 : x.kind = 2 → (x.number,x.value) ∈ G x.frm.toNat := fun hk=>by
    rcases hg with ⟨⟨_,a⟩,_⟩ | ⟨_,_,a⟩
    ·omega
    ·exact a hk
   obtain ⟨g1,g2,g3,g4⟩ := collect_g h.co (by omega) s.now hk2
   refine ⟨app _ _ g3,?_⟩
   exact retNC (fd := Try.f33) (l := [.lb true]) 2 (noM 2 [n0,n1] s.now (collectCo s.co s.now x).1 (hs 9 0) (hs 9 1) mb zd wd ed (.slc (D.hd (hs1 8 0)) 8 (List.append ms.rows ((hs 9 2).like (collectCo s.co s.now x).2).rows)) s.whole)
    ⟨_,⟨h.cstep g1 (by omega) g4 g3,fun _=>by unfold stpN; rw [if_neg hcc,hpk]; simp only; rw [if_pos (by rw [h.nb]; exact ht3)]⟩,_,_,_,_,_,_,_,_,hw.msg (ms_app hw.ms (hs1 8 0) (hs 9 2) _),rfl⟩
  ·have ht3 := of_decide_eq_false ht3
   have hto : 0 ≤ x.to ∧ x.to < 2 := by rcases hg with ⟨a,_⟩ | ⟨a,_⟩ <;> omega
   obtain ⟨j,hj⟩ := Int.eq_ofNat_of_zero_le hto.1
   obtain ⟨m2,hm2⟩ : ∃ m,s.mbs[j]? = some m := ⟨_,List.getElem?_eq_getElem (by rw [h.nb]; omega)⟩
   obtain ⟨l2,hl2⟩ : ∃ l,s.nums[j]? = some l := ⟨_,List.getElem?_eq_getElem (by rw [h.nn]; omega)⟩
   obtain ⟨q1,q2,q3,q4,q5⟩ := mb_right hw.mb hm2 (right hm2)
   obtain ⟨e1,e2,e3⟩ := h.obey ht hxm pa (i := j) hj (by omega) hm2 hl2
   have hhl := (h.held hm2 hl2 (obey_step (h.mok j m2 hm2).1 s.now pa x)).2
   simp only [hj,Int.toNat_natCast,q4]
   have q1' : 0 ≤ (j : Int) ∧ (j : Int) < (2 : Int) ∧ mb.sz = 8 := ⟨by omega,by omega,hw.mb.2.1⟩
   refine ⟨q1',⟨q2,hw.mb.2.1⟩,q3,fun hs1=>⟨app _ _ e2,q1',⟨q5,st8,hw.mb.2.1⟩,?_⟩⟩
   have hd := D.like_to (hs 14 2) (obeyMb m2 s.now pa x).2.1
   refine nmeth_call (ack_meth (s := { s with mbs := s.mbs.set j (obeyMb m2 s.now pa x).1,msgs := s.msgs ++ (obeyMb m2 s.now pa x).2.2 }) (N := 2) (i := j) (li := l2) (l := (hs 14 2).like (obeyMb m2 s.now pa x).2.1) (by omega) (by omega) hl2 (D.like_is _ _) (by rw [like_leng]; omega) (by rw [hd]; exact e1) hhs (by show s.whole.events.length ≤ 700000; omega)) (g := spFo) (noM 2 [n0,n1] s.now s.co pd sd (mb.setCells j 0 (mbRow (hs 14 0) (hs 14 1) (obeyMb m2 s.now pa x).1)) zd wd ed (.slc (D.hd (hs1 13 0)) 8 (List.append ms.rows ((hs 14 3).like (obeyMb m2 s.now pa x).2.2).rows)) s.whole)
    ⟨_,_,_,_,_,_,_,_,⟨put j m2 _ _ _ hm2,ms_app hw.ms (hs1 13 0) (hs 14 3) _,hw.len,hw.ns⟩,rfl⟩ fun s' m'' e hm''=>?_
   subst e
   rw [hd] at hm''
   exact spo2_k hm'' ⟨e3,fun _=>by unfold stpN; rw [if_neg hcc,hpk]; simp only; rw [if_neg (by rw [h.nb]; exact ht3),hj,Int.toNat_natCast,hm2,hl2]⟩
 -- time passes
 ·obtain ⟨t1,t2⟩ := tm8 kw
  have hwr : IntKind.i64.wrap (s.now + Int.tmod (if kw > 0 then kw else 0) 8) = s.now + Int.tmod (if kw > 0 then kw else 0) 8 := wrap64J (by omega) (by omega)
  rw [hwr]
  exact retNC (fd := Try.f33) (l := [.lb true]) 2 (noM 2 [n0,n1] (s.now + Int.tmod (if kw > 0 then kw else 0) 8) s.co pd sd mb zd wd ed ms s.whole) ⟨_,⟨h.wait t1 t2,fun hx=>by have := of_decide_eq_true hc; omega⟩,_,_,_,_,_,_,_,_,hw.msg (l := s.msgs) (co := s.co) hw.ms,rfl⟩
 -- a node looks at its patience
 ·obtain ⟨e1,e2⟩ := h.rel ht hm hl
  have hhl := (h.held hm hl (rel_step (h.mok i m hm).1 s.now)).2
  refine ⟨b1,⟨b2,hw.mb.2.1⟩,b3,fun hs1=>⟨b1,⟨b5,st8,hw.mb.2.1⟩,?_⟩⟩
  have hd := D.like_to (hs 11 2) (relMb m s.now).2
  refine nmeth_call (ack_meth (s := { s with mbs := s.mbs.set i (relMb m s.now).1 }) (N := 2) (i := i) (li := li) (l := (hs 11 2).like (relMb m s.now).2) (by omega) (by omega) hl (D.like_is _ _) (by rw [like_leng]; omega) (by rw [hd]; exact e1) hhs (by show s.whole.events.length ≤ 700000; omega)) (g := spFr) (noM 2 [n0,n1] s.now s.co pd sd (mb.setCells i 0 (mbRow (hs 11 0) (hs 11 1) (relMb m s.now).1)) zd wd ed ms s.whole)
   ⟨_,_,_,_,_,_,_,_,hw.mem (put i m _ _ _ hm),rfl⟩ fun s' m'' e hm''=>?_
  subst e
  rw [hd] at hm''
  exact spr2_k hm'' ⟨e2,fun hx=>by have := of_decide_eq_true hc; omega⟩
 -- the coordinator looks at its deadline
 ·obtain ⟨g1,g2,g3,g4⟩ := expire_g h.co (by omega) s.now
  refine ⟨⟨D.like_is _ _,D.like_is _ _⟩,fun hs1=>⟨app _ _ g3,?_⟩⟩
  exact retNC (fd := Try.f33) (l := [.lb true]) 2 (noM 2 [n0,n1] s.now (expireCo s.co s.now).1 (hs 8 0) (hs 8 1) mb zd wd ed (.slc (D.hd (hs1 8 0)) 8 (List.append ms.rows ((hs 8 2).like (expireCo s.co s.now).2).rows)) s.whole)
   ⟨_,⟨h.cstep g1 (by omega) g4 g3,fun hx=>by have := of_decide_eq_true hc; omega⟩,_,_,_,_,_,_,_,_,hw.msg (ms_app hw.ms (hs1 8 0) (hs 8 2) _),rfl⟩
 ·have c2' := of_decide_eq_false c2
  have c3' := of_decide_eq_false c3
  exact retNC (fd := Try.f33) (l := [.lb true]) 2 (noM 2 [n0,n1] s.now s.co pd sd mb zd wd ed ms s.whole) (same fun hx=>by omega)
theorem spi3_k {w0 : World} {H : HV} {fp : Nat → Nat} {mm : Mem} {Φ : NdS → Prop} (h : NodMem 3 s mm) (hΦ : Φ s) : Runs Try.prog (@Ctx.mk w0 H (pinX fp)) (backN spFi mm) (RetP w0 H fp fun v m=>v = .lb true ∧ ∃ s',Φ s' ∧ NodMem 3 s' m) := by
 have h0 := h
 obtain ⟨ns,pd,sd,mb,zd,wd,ed,ms,hw,he⟩ := h
 subst he
 have hnl := hw.len.1
 obtain ⟨n0,n1,n2,rfl⟩ : ∃ n0 n1 n2 : D,ns = [n0,n1,n2] := by
  match ns,hnl with
  | [n0,n1,n2],_=>exact ⟨n0,n1,n2,rfl⟩
 apply execRS_sound ctSpOk [] 400
 rw [spi3]
 exact retNC (fd := Try.f33) (l := [.lb true]) 3 (noM 3 [n0,n1,n2] s.now s.co pd sd mb zd wd ed ms s.whole) ⟨s,hΦ,h0⟩
theorem spd3_k {w0 : World} {H : HV} {fp : Nat → Nat} {mm : Mem} {Φ : NdS → Prop} (h : NodMem 3 s mm) (hΦ : Φ s) : Runs Try.prog (@Ctx.mk w0 H (pinX fp)) (backN spFd mm) (RetP w0 H fp fun v m=>v = .lb true ∧ ∃ s',Φ s' ∧ NodMem 3 s' m) := by
 have h0 := h
 obtain ⟨ns,pd,sd,mb,zd,wd,ed,ms,hw,he⟩ := h
 subst he
 have hnl := hw.len.1
 obtain ⟨n0,n1,n2,rfl⟩ : ∃ n0 n1 n2 : D,ns = [n0,n1,n2] := by
  match ns,hnl with
  | [n0,n1,n2],_=>exact ⟨n0,n1,n2,rfl⟩
 apply execRS_sound ctSpOk [] 400
 rw [spd3]
 exact retNC (fd := Try.f33) (l := [.lb true]) 3 (noM 3 [n0,n1,n2] s.now s.co pd sd mb zd wd ed ms s.whole) ⟨s,hΦ,h0⟩
theorem spo3_k {w0 : World} {H : HV} {fp : Nat → Nat} {mm : Mem} {Φ : NdS → Prop} (h : NodMem 3 s mm) (hΦ : Φ s) : Runs Try.prog (@Ctx.mk w0 H (pinX fp)) (backN spFo mm) (RetP w0 H fp fun v m=>v = .lb true ∧ ∃ s',Φ s' ∧ NodMem 3 s' m) := by
 have h0 := h
 obtain ⟨ns,pd,sd,mb,zd,wd,ed,ms,hw,he⟩ := h
 subst he
 have hnl := hw.len.1
 obtain ⟨n0,n1,n2,rfl⟩ : ∃ n0 n1 n2 : D,ns = [n0,n1,n2] := by
  match ns,hnl with
  | [n0,n1,n2],_=>exact ⟨n0,n1,n2,rfl⟩
 apply execRS_sound ctSpOk [] 400
 rw [spo3]
 exact retNC (fd := Try.f33) (l := [.lb true]) 3 (noM 3 [n0,n1,n2] s.now s.co pd sd mb zd wd ed ms s.whole) ⟨s,hΦ,h0⟩
theorem spr3_k {w0 : World} {H : HV} {fp : Nat → Nat} {mm : Mem} {Φ : NdS → Prop} (h : NodMem 3 s mm) (hΦ : Φ s) : Runs Try.prog (@Ctx.mk w0 H (pinX fp)) (backN spFr mm) (RetP w0 H fp fun v m=>v = .lb true ∧ ∃ s',Φ s' ∧ NodMem 3 s' m) := by
 have h0 := h
 obtain ⟨ns,pd,sd,mb,zd,wd,ed,ms,hw,he⟩ := h
 subst he
 have hnl := hw.len.1
 obtain ⟨n0,n1,n2,rfl⟩ : ∃ n0 n1 n2 : D,ns = [n0,n1,n2] := by
  match ns,hnl with
  | [n0,n1,n2],_=>exact ⟨n0,n1,n2,rfl⟩
 apply execRS_sound ctSpOk [] 400
 rw [spr3]
 exact retNC (fd := Try.f33) (l := [.lb true]) 3 (noM 3 [n0,n1,n2] s.now s.co pd sd mb zd wd ed ms s.whole) ⟨s,hΦ,h0⟩
theorem sp3 {pd sd mb zd wd ed ms n0 n1 n2 : D} (h : NOk s 3 G t) (ht : t ≤ 99) (kk kn kw pa : Int) (hw : NW 3 [n0,n1,n2] mb ms s) (w0 : World) (H : HV) (fp : Nat → Nat) :
  Runs Try.prog (@Ctx.mk w0 H (pinX fp)) (sysN 33 298 [(0,.ptr 100000 0),(1,.agg [.int .i64 kk,.int .i64 kn,.int .i64 kw]),(2,.int .i64 pa)] (noM 3 [n0,n1,n2] s.now s.co pd sd mb zd wd ed ms s.whole)) (RetP w0 H fp fun v m'=>v = .lb true ∧ ∃ s',Sx2 s 3 G t kk kw pa s' ∧ NodMem 3 s' m') := by
 have hmbl : mb.len = 3 := by rw [D.Is.length (α := Mb),hw.mb.2.2,h.nb]
 have hmsl : ms.len = s.msgs.length := by rw [D.Is.length (α := Msg),hw.ms.2.2]
 have hml := h.ml
 have hnow := h.now
 have hhs := h.hsm (by omega)
 have hev := h.hel.1
 obtain ⟨i,hi,hil⟩ := ndI_nat kn (d := mb) (by omega)
 obtain ⟨m,hm⟩ : ∃ m,s.mbs[i]? = some m := ⟨_,List.getElem?_eq_getElem (by rw [h.nb]; omega)⟩
 obtain ⟨li,hl⟩ : ∃ l,s.nums[i]? = some l := ⟨_,List.getElem?_eq_getElem (by rw [h.nn]; omega)⟩
 have right : ∀ {j : Nat} {m : Mb},s.mbs[j]? = some m → m.waiting.length ≤ 1000 ∧ m.held.length ≤ 1000 := fun hj=>by obtain ⟨_,_,a,b⟩ := h.mok _ _ hj; omega
 obtain ⟨b1,b2,b3,b4,b5⟩ := mb_right hw.mb hm (right hm)
 have hmem : NodMem 3 s (noM 3 [n0,n1,n2] s.now s.co pd sd mb zd wd ed ms s.whole) := ⟨_,_,_,_,_,_,_,_,hw,rfl⟩
 have same : (kk = 2 ∨ kk = 3 → s = stpN s kk kw pa) → ∃ s',Sx2 s 3 G t kk kw pa s' ∧ NodMem 3 s' (noM 3 [n0,n1,n2] s.now s.co pd sd mb zd wd ed ms s.whole) := fun he=>⟨s,⟨h.same,he⟩,hmem⟩
 have app : ∀ (d : D) (l : List Msg),l.length ≤ 8 → (ms.sz = 8 ∧ (d.like l).Fits 8 ∧ (ms.len + (d.like l).len) * 96 ≤ 140737488355328 ∧ ms.len + (d.like l).len ≤ 9223372036854775807) := fun d l hl=>⟨hw.ms.2.1,(D.like_is (α := Msg) _ _).fits,by simp only [like_leng]; omega,by simp only [like_leng]; omega⟩
 have put : ∀ (j : Nat) (m0 m' : Mb) (a b : D),s.mbs[j]? = some m0 → ((mb.setCells j 0 (mbRow a b m')).Is Mb ∧ (mb.setCells j 0 (mbRow a b m')).sz = 8 ∧ (mb.setCells j 0 (mbRow a b m')).to Mb = s.mbs.set j m') := fun j m0 m' a b hj=>by
  have := mb_set hw.mb.1 (i := j) (by rw [hw.mb.2.2]; exact (List.getElem?_eq_some_iff.1 hj).1) a b m'
  rw [hw.mb.2.2] at this
  exact this
 have st8 : 8 ≤ mb.sz := by rw [hw.mb.2.1]; exact Nat.le_refl _
 apply execRE_sound ctSpOk [68,70] 600
 rw [sp3_in]
 simp only [hi,Int.toNat_natCast,b4,co_back]
 refine fun _=>⟨by omega,fun hc=>?_,fun c0=>⟨fun hc=>?_,fun c1=>⟨fun hc hs=>⟨⟨D.like_is _ _,D.like_is _ _⟩,fun h0=>?_,fun _=>?_⟩,fun c2=>⟨fun hc=>⟨fun _=>?_,fun hne=>?_⟩,fun c3=>⟨fun hc=>⟨by decide,?_⟩,fun c4=>⟨fun hc hs=>?_,fun c5=>⟨fun hc hs=>?_,fun _=>?_⟩⟩⟩⟩⟩⟩⟩
 -- a write
 ·exact nmeth_call (iss_meth h ht hm hl) (g := spFi) (noM 3 [n0,n1,n2] s.now s.co pd sd mb zd wd ed ms s.whole) hmem fun s' m'' e hm''=>by
   subst e
   exact spi3_k hm'' ⟨⟨G,(h.issue ht hm hl (secOf (i : Int) li.length)).2.2.2,fun _ _ h=>h,Int.le_refl _⟩,fun hx=>by have := of_decide_eq_true hc; omega⟩
 -- it becomes durable
 ·have hwl := mb_w b4
  have hwi : (mb.cell i 6).Is Int := b3.1
  have hwlen := D.Is.length (α := Int) (mb.cell i 6)
  have hrm := right hm
  refine ⟨b1,⟨b2.2.2.2.2.2.2.1,hw.mb.2.1⟩,fun hp hs=>?_,fun _=>retNC (fd := Try.f33) (l := [.lb true]) 3 (noM 3 [n0,n1,n2] s.now s.co pd sd mb zd wd ed ms s.whole) (same fun hx=>by have := of_decide_eq_true hc; omega)⟩
  have hp := of_decide_eq_true hp
  obtain ⟨k,hk,hkl⟩ := ndI_nat kw (d := mb.cell i 6) (by omega)
  have hkl : k < ((mb.cell i 6).to Int).length := by omega
  obtain ⟨d1,d2,d3⟩ := int_at hwi hkl
  simp only [Int.toNat_natCast] at d2 d3
  have hx : (mb.cell i 6).getInt k 0 ∈ m.waiting := by rw [d3,← hwl]; exact List.getElem_mem _
  obtain ⟨e1,e2,e3⟩ := h.dur ht hm hl hx
  simp only [hk,Int.toNat_natCast]
  refine ⟨b1,⟨b2,hw.mb.2.1⟩,by omega,d1,d2,b3,fun hs1=>⟨b1,⟨b5,st8,hw.mb.2.1⟩,fun _=>?_,fun hc=>absurd hc (by rw [e1]; decide)⟩⟩
  have hd := D.like_to (hs 14 2) (durMb m ((mb.cell i 6).getInt k 0)).2.1
  refine nmeth_call (ack_meth (s := { s with mbs := s.mbs.set i (durMb m ((mb.cell i 6).getInt k 0)).1 }) (N := 3) (i := i) (li := li) (l := (hs 14 2).like (durMb m ((mb.cell i 6).getInt k 0)).2.1) (by omega) (by omega) hl (D.like_is _ _) (by rw [like_leng]; have := dur_len m ((mb.cell i 6).getInt k 0); omega) (by rw [hd]; exact e2) hhs (by show s.whole.events.length ≤ 700000; omega)) (g := spFd) (noM 3 [n0,n1,n2] s.now s.co pd sd (mb.setCells i 0 (mbRow (hs 14 0) (hs 14 1) (durMb m ((mb.cell i 6).getInt k 0)).1)) zd wd ed ms s.whole)
   ⟨_,_,_,_,_,_,_,_,hw.mem (put i m _ _ _ hm),rfl⟩ fun s' m'' e hm''=>?_
  subst e
  rw [hd] at hm''
  exact spd3_k hm'' ⟨e3,fun hx=>by have := of_decide_eq_true hc; omega⟩
 -- a round begins
 ·have h0 : (startCo s.co s.now pa).2.2 = 0 := of_decide_eq_true h0
  obtain ⟨g1,g2,g3,g4⟩ := start_g h.co (by omega) s.now pa h0
  refine fun hs1=>⟨app _ _ g3,?_⟩
  exact retNC (fd := Try.f33) (l := [.lb true]) 3 (noM 3 [n0,n1,n2] s.now (startCo s.co s.now pa).1 (hs 9 0) (hs 9 1) mb zd wd ed (.slc (D.hd (hs1 8 0)) 8 (List.append ms.rows ((hs 9 2).like (startCo s.co s.now pa).2.1).rows)) s.whole)
   ⟨_,⟨h.cstep g1 (by omega) g4 g3,fun _=>by unfold stpN; rw [if_pos (of_decide_eq_true hc),if_pos h0]⟩,_,_,_,_,_,_,_,_,hw.msg (ms_app hw.ms (hs1 8 0) (hs 9 2) _),rfl⟩
 ·rename_i h0
  exact retNC (fd := Try.f33) (l := [.lb true]) 3 (noM 3 [n0,n1,n2] s.now s.co pd sd mb zd wd ed ms s.whole) (same fun _=>by unfold stpN; rw [if_pos (of_decide_eq_true hc),if_neg (of_decide_eq_false h0)])
 -- a message arrives
 ·rename_i h0
  have h0 : s.msgs.length = 0 := by have := of_decide_eq_true h0; omega
  have hcc : ¬kk = 2 := of_decide_eq_false c2
  exact retNC (fd := Try.f33) (l := [.lb true]) 3 (noM 3 [n0,n1,n2] s.now s.co pd sd mb zd wd ed ms s.whole) (same fun _=>by unfold stpN; rw [if_neg hcc,List.length_eq_zero_iff.1 h0]; rfl)
 ·have hne := of_decide_eq_false hne
  obtain ⟨k,hk,hkl⟩ := ndI_nat kw (d := ms) (by omega)
  have hkl2 : k < (ms.to Msg).length := by rw [hw.ms.2.2]; omega
  obtain ⟨a1,a2,a3⟩ := ms_at hw.ms.1 hkl2
  obtain ⟨x,hx⟩ : ∃ x,(ms.to Msg)[k] = x := ⟨_,rfl⟩
  have hcc : ¬kk = 2 := of_decide_eq_false c2
  have hpk : s.msgs[pickN kw s.msgs.length]? = some x := by
   have e1 : pickN kw s.msgs.length = k := by rw [← hmsl]; unfold pickN; unfold ndI at hk; rw [hk]; rfl
   rw [e1,← hw.ms.2.2,List.getElem?_eq_getElem hkl2,hx]
  have hxm : x ∈ s.msgs := by rw [← hx,← hw.ms.2.2]; exact List.getElem_mem _
  rw [hx] at a2 a3
  have hg := h.ms x hxm
  have d1 : decide (x.to < 0) = false := decide_eq_false (by rcases hg with ⟨⟨a,_⟩,_⟩ | ⟨a,_⟩ <;> omega)
  have d2 : decide (x.to > (3 : Int)) = false := decide_eq_false (by rcases hg with ⟨⟨_,a⟩,_⟩ | ⟨a,_⟩ <;> omega)
  have hmbl2 : (mb.len : Int) = 3 := by omega
  simp only [hk,Int.toNat_natCast,a2,a3,hmbl2]
  refine fun hs=>⟨by omega,⟨by omega,by omega,hw.ms.2.1⟩,⟨a1,hw.ms.2.1⟩,fun hs0=>⟨fun hc=>absurd (d1.symm.trans hc) (by decide),fun _=>?_⟩⟩
  iterate 9 refine ⟨d1,?_⟩
  refine ⟨fun hc=>absurd (d2.symm.trans hc) (by decide),fun _ hs1=>⟨fun ht3 hs=>⟨⟨D.like_is _ _,D.like_is _ _⟩,fun hs1=>?_⟩,fun ht3 hs=>?_⟩⟩
  ·have ht3 := of_decide_eq_true ht3
   have hk2 : x.kind = 2 → (x.number,x.value) ∈ G x.frm.toNat := fun hk=>by
    rcases hg with ⟨⟨_,a⟩,_⟩ | ⟨_,_,a⟩
    ·omega
    ·exact a hk
   obtain ⟨g1,g2,g3,g4⟩ := collect_g h.co (by omega) s.now hk2
   refine ⟨app _ _ g3,?_⟩
   exact retNC (fd := Try.f33) (l := [.lb true]) 3 (noM 3 [n0,n1,n2] s.now (collectCo s.co s.now x).1 (hs 9 0) (hs 9 1) mb zd wd ed (.slc (D.hd (hs1 8 0)) 8 (List.append ms.rows ((hs 9 2).like (collectCo s.co s.now x).2).rows)) s.whole)
    ⟨_,⟨h.cstep g1 (by omega) g4 g3,fun _=>by unfold stpN; rw [if_neg hcc,hpk]; simp only; rw [if_pos (by rw [h.nb]; exact ht3)]⟩,_,_,_,_,_,_,_,_,hw.msg (ms_app hw.ms (hs1 8 0) (hs 9 2) _),rfl⟩
  ·have ht3 := of_decide_eq_false ht3
   have hto : 0 ≤ x.to ∧ x.to < 3 := by rcases hg with ⟨a,_⟩ | ⟨a,_⟩ <;> omega
   obtain ⟨j,hj⟩ := Int.eq_ofNat_of_zero_le hto.1
   obtain ⟨m2,hm2⟩ : ∃ m,s.mbs[j]? = some m := ⟨_,List.getElem?_eq_getElem (by rw [h.nb]; omega)⟩
   obtain ⟨l2,hl2⟩ : ∃ l,s.nums[j]? = some l := ⟨_,List.getElem?_eq_getElem (by rw [h.nn]; omega)⟩
   obtain ⟨q1,q2,q3,q4,q5⟩ := mb_right hw.mb hm2 (right hm2)
   obtain ⟨e1,e2,e3⟩ := h.obey ht hxm pa (i := j) hj (by omega) hm2 hl2
   have hhl := (h.held hm2 hl2 (obey_step (h.mok j m2 hm2).1 s.now pa x)).2
   simp only [hj,Int.toNat_natCast,q4]
   have q1' : 0 ≤ (j : Int) ∧ (j : Int) < (3 : Int) ∧ mb.sz = 8 := ⟨by omega,by omega,hw.mb.2.1⟩
   refine ⟨q1',⟨q2,hw.mb.2.1⟩,q3,fun hs1=>⟨app _ _ e2,q1',⟨q5,st8,hw.mb.2.1⟩,?_⟩⟩
   have hd := D.like_to (hs 14 2) (obeyMb m2 s.now pa x).2.1
   refine nmeth_call (ack_meth (s := { s with mbs := s.mbs.set j (obeyMb m2 s.now pa x).1,msgs := s.msgs ++ (obeyMb m2 s.now pa x).2.2 }) (N := 3) (i := j) (li := l2) (l := (hs 14 2).like (obeyMb m2 s.now pa x).2.1) (by omega) (by omega) hl2 (D.like_is _ _) (by rw [like_leng]; omega) (by rw [hd]; exact e1) hhs (by show s.whole.events.length ≤ 700000; omega)) (g := spFo) (noM 3 [n0,n1,n2] s.now s.co pd sd (mb.setCells j 0 (mbRow (hs 14 0) (hs 14 1) (obeyMb m2 s.now pa x).1)) zd wd ed (.slc (D.hd (hs1 13 0)) 8 (List.append ms.rows ((hs 14 3).like (obeyMb m2 s.now pa x).2.2).rows)) s.whole)
    ⟨_,_,_,_,_,_,_,_,⟨put j m2 _ _ _ hm2,ms_app hw.ms (hs1 13 0) (hs 14 3) _,hw.len,hw.ns⟩,rfl⟩ fun s' m'' e hm''=>?_
   subst e
   rw [hd] at hm''
   exact spo3_k hm'' ⟨e3,fun _=>by unfold stpN; rw [if_neg hcc,hpk]; simp only; rw [if_neg (by rw [h.nb]; exact ht3),hj,Int.toNat_natCast,hm2,hl2]⟩
 -- time passes
 ·obtain ⟨t1,t2⟩ := tm8 kw
  have hwr : IntKind.i64.wrap (s.now + Int.tmod (if kw > 0 then kw else 0) 8) = s.now + Int.tmod (if kw > 0 then kw else 0) 8 := wrap64J (by omega) (by omega)
  rw [hwr]
  exact retNC (fd := Try.f33) (l := [.lb true]) 3 (noM 3 [n0,n1,n2] (s.now + Int.tmod (if kw > 0 then kw else 0) 8) s.co pd sd mb zd wd ed ms s.whole) ⟨_,⟨h.wait t1 t2,fun hx=>by have := of_decide_eq_true hc; omega⟩,_,_,_,_,_,_,_,_,hw.msg (l := s.msgs) (co := s.co) hw.ms,rfl⟩
 -- a node looks at its patience
 ·obtain ⟨e1,e2⟩ := h.rel ht hm hl
  have hhl := (h.held hm hl (rel_step (h.mok i m hm).1 s.now)).2
  refine ⟨b1,⟨b2,hw.mb.2.1⟩,b3,fun hs1=>⟨b1,⟨b5,st8,hw.mb.2.1⟩,?_⟩⟩
  have hd := D.like_to (hs 11 2) (relMb m s.now).2
  refine nmeth_call (ack_meth (s := { s with mbs := s.mbs.set i (relMb m s.now).1 }) (N := 3) (i := i) (li := li) (l := (hs 11 2).like (relMb m s.now).2) (by omega) (by omega) hl (D.like_is _ _) (by rw [like_leng]; omega) (by rw [hd]; exact e1) hhs (by show s.whole.events.length ≤ 700000; omega)) (g := spFr) (noM 3 [n0,n1,n2] s.now s.co pd sd (mb.setCells i 0 (mbRow (hs 11 0) (hs 11 1) (relMb m s.now).1)) zd wd ed ms s.whole)
   ⟨_,_,_,_,_,_,_,_,hw.mem (put i m _ _ _ hm),rfl⟩ fun s' m'' e hm''=>?_
  subst e
  rw [hd] at hm''
  exact spr3_k hm'' ⟨e2,fun hx=>by have := of_decide_eq_true hc; omega⟩
 -- the coordinator looks at its deadline
 ·obtain ⟨g1,g2,g3,g4⟩ := expire_g h.co (by omega) s.now
  refine ⟨⟨D.like_is _ _,D.like_is _ _⟩,fun hs1=>⟨app _ _ g3,?_⟩⟩
  exact retNC (fd := Try.f33) (l := [.lb true]) 3 (noM 3 [n0,n1,n2] s.now (expireCo s.co s.now).1 (hs 8 0) (hs 8 1) mb zd wd ed (.slc (D.hd (hs1 8 0)) 8 (List.append ms.rows ((hs 8 2).like (expireCo s.co s.now).2).rows)) s.whole)
   ⟨_,⟨h.cstep g1 (by omega) g4 g3,fun hx=>by have := of_decide_eq_true hc; omega⟩,_,_,_,_,_,_,_,_,hw.msg (ms_app hw.ms (hs1 8 0) (hs 8 2) _),rfl⟩
 ·have c2' := of_decide_eq_false c2
  have c3' := of_decide_eq_false c3
  exact retNC (fd := Try.f33) (l := [.lb true]) 3 (noM 3 [n0,n1,n2] s.now s.co pd sd mb zd wd ed ms s.whole) (same fun hx=>by omega)
theorem step_meth {N : Nat} (h : NOk s N G t) (ht : t ≤ 99) (kk kn kw pa : Int) : NMeth N 33 298 [(0,.ptr 100000 0),(1,.agg [.int .i64 kk,.int .i64 kn,.int .i64 kw]),(2,.int .i64 pa)] s (Sx2 s N G t kk kw pa) := by
 intro w0 H fp mm ⟨ns,pd,sd,mb,zd,wd,ed,ms,hw,he⟩
 subst he
 have hn := h.n1
 have hnl := hw.len.1
 rcases ns with _ | ⟨n0,_ | ⟨n1,_ | ⟨n2,_ | ⟨n3,r⟩⟩⟩⟩
 ·simp only [List.length_nil] at hnl; omega
 ·simp only [List.length_cons,List.length_nil] at hnl
  subst hnl
  exact sp1 h ht kk kn kw pa hw w0 H fp
 ·simp only [List.length_cons,List.length_nil] at hnl
  subst hnl
  exact sp2 h ht kk kn kw pa hw w0 H fp
 ·simp only [List.length_cons,List.length_nil] at hnl
  subst hnl
  exact sp3 h ht kk kn kw pa hw w0 H fp
 ·simp only [List.length_cons] at hnl; omega
end
end Sv
end
noncomputable section
open Go Go.Proofs Sx
namespace Sx
def vecAll (e : TypeId) : List Nat → Conf → Option Conf
 | [],c=>some c
 | i :: r,c=>(vecIn (11 + i) e 1 (some 100001) i c).bind (vecAll e r)
theorem vecAll_to {P : Program} {C : Ctx} {R : Value → World → Prop} {e : TypeId} : ∀ {l : List Nat} {c c' : Conf},vecAll e l c = some c' → Runs P C c' R → Runs P C c R
 | [],c,c',h,hr=>by simp only [vecAll,Option.some.injEq] at h; subst h; exact hr
 | i :: r,c,c',h,hr=>by
  simp only [vecAll,Option.bind_eq_some_iff] at h
  obtain ⟨c1,h1,h2⟩ := h
  exact vecIn_sound h1 (vecAll_to h2 hr)
def beginB (e e2 : TypeId) (N : Nat) (c : Conf) : Option Conf := (((pinOC 2 100001 c).bind (pinOC 0 100000)).bind (vecIn 10 e 8 (some 100000) 13)).bind (vecAll e2 (List.range N))
theorem beginB_to {P : Program} {C : Ctx} {R : Value → World → Prop} (e e2 : TypeId) (N : Nat) {c : Conf} (c' : Conf) (hc : beginB e e2 N c = some c') (h : Runs P C c' R) (hpn : C.x.pn = none := by rfl) : Runs P C c R := by
 unfold beginB at hc
 simp only [Option.bind_eq_some_iff] at hc
 obtain ⟨c3,⟨c2,⟨c1,h1,h2⟩,h3⟩,h4⟩ := hc
 exact pinO_to 2 100001 c1 h1 (pinO_to 0 100000 c2 h2 (vecIn_sound h3 (vecAll_to h4 h)) hpn) hpn
def zMb : Mb := ⟨0,0,0,0,false,0,[],[]⟩
def begS (N : Nat) : NdS := ⟨0,⟨N,0,0,0,List.replicate N 0,List.replicate N false,false⟩,List.replicate N zMb,List.replicate N [],⟨[(N : Int)],[],[]⟩,[]⟩
theorem begS_ok {N : Nat} (h1 : 1 ≤ N ∧ N ≤ 3) : NOk (begS N) N (fun _=>[]) 0 := by
 have hz : sizesErr [(N : Int)] = 0 := by
  have : N = 1 ∨ N = 2 ∨ N = 3 := by omega
  rcases this with rfl | rfl | rfl <;> decide
 have rep : ∀ {α : Type} {x y : α} {i : Nat},(List.replicate N x)[i]? = some y → y = x := fun h=>List.eq_of_mem_replicate (List.mem_of_getElem? h)
 refine ⟨h1,by simp [begS],by simp [begS],⟨Int.le_refl _,Int.le_refl _⟩,(new_g h1.1 (by omega) _).2,fun i m hm=>?_,fun i m l hm hl=>?_,fun i l hl=>?_,?_,rfl,⟨Nat.le_refl _,fun w hw=>(by cases hw)⟩,⟨Nat.zero_le _,fun k hk=>(by cases hk)⟩,fun i l w k hl hk=>?_,fun i j l l' w w' k hl _ hk _=>?_,fun i m l w k _ hl hk=>?_,fun x hx=>(by cases hx),Nat.zero_le _⟩
 ·have := rep hm
  subst this
  exact ⟨⟨by decide,by decide,by decide,by decide,fun _=>rfl,List.Pairwise.nil,fun x hx=>(by cases hx),List.nodup_nil,fun x hx=>(by cases hx)⟩,⟨List.Pairwise.nil,fun p hp=>(by cases hp),.inl rfl⟩,Nat.le_refl _,Nat.le_refl _⟩
 ·have := rep hm; have := rep hl
  subst_vars; rfl
 ·have := rep hl; subst this; exact Nat.le_refl _
 ·have := newH_check (s := [(N : Int)]) (by rw [newH_sizes hz])
  rw [newH_sizes hz] at this
  exact this
 all_goals
  have := rep hl
  subst this
  simp at hk
theorem beg_rows (hd : Hd) (N : Nat) : (D.slc hd 8 (List.replicate N [D.int .i64 0,.int .i64 0,.int .i64 0,.int .i64 0,.bool false,.int .i64 0,.slc none 0 [],.slc none 0 []])).Is Mb ∧ (D.slc hd 8 (List.replicate N [D.int .i64 0,.int .i64 0,.int .i64 0,.int .i64 0,.bool false,.int .i64 0,.slc none 0 [],.slc none 0 []])).to Mb = List.replicate N zMb := by
 refine is_of rfl ⟨fun r hr=>?_,by rw [List.map_replicate]; rfl⟩
 rw [List.eq_of_mem_replicate hr]
 exact ⟨_,_,_,_,_,_,_,_,rfl,is_nil _ _,is_nil _ _⟩
end Sx
namespace Sv
theorem lawNewHY : Law Try.prog 67 (rdD.one.sp spNewY) := lawNewHB
theorem ctBgOk : Ctrs.Ok Try.prog ctBg := by
 intro x hx
 simp only [ctBg,List.mem_cons,List.not_mem_nil,or_false] at hx
 rcases hx with rfl | rfl
 ·exact ctrOf_ok (B21.lawNew _ (.inl rfl))
 ·exact ctrOf_ok lawNewHY
theorem retBg {w : World} {H : HV} {Φ : SV → Mem → Prop} {fn : FuncId} {aw : Option Tmp} {k : List Item} {tmps : List SV} {mem : Mem} {fd : Func} {l : List SV} (N : Nat) (m' : Mem) (h : Φ (.tup [.ptr 100000 0,.lb true]) m') (ht : ∀ E,(one? l).den E = (SV.tup [.ptr 100000 0,.lb true]).den E)
  (hfn : Try.prog.funcs[fn]? = some fd := by kernel_rfl) (hres : resS Try.prog mem tmps fd.results.toList = some l := by kernel_rfl) (hm : (moveM mem (mvN N mem)).map (pickK (ksN N)) = some m' := by kernel_rfl) (hn : (ksN N).Nodup := by decide) (hjm : m'.all (fun x=>!x.2.jk 0) = true := by kernel_rfl) :
  Runs Try.prog ⟨w,H⟩ ⟨⟨fn,none,aw,.code .ret :: k,tmps⟩,[],mem⟩ (RetN w H Φ) :=
 ret_new (.tup [.ptr 100000 0,.lb true]) m' (mvN N mem) (ksN N) h ht hfn hres (by kernel_rfl) (by intro H; simp [SV.Ok,SV.OkL]) (by kernel_rfl) hm hn hjm
def Begun (N : Nat) (v : SV) (m : Mem) : Prop := v = .tup [.ptr 100000 0,.lb true] ∧ NodMem N (begS N) m
theorem cb1 (w : World) (H : HV) : Runs Try.prog ⟨w,H⟩ (sysN 31 31 [(0,.int .i64 1)] []) (RetN w H (Begun 1)) := by
 apply execRS_sound ctBgOk [] 400
 rw [cg1_in]
 refine fun hs0 hs1=>⟨⟨(is_of (h := D.hd (hs1 0 0)) (s := 1) rfl (rows_one (ok_int 1) rfl)).1,by simp [D.len,D.rows]⟩,fun hs2 hs3=>⟨by decide,rfl,?_⟩⟩
 obtain ⟨m1,m2⟩ := beg_rows (D.hd (hs3 2 0)) 1
 have key : NodMem 1 (begS 1) (noM 1 [(.slc none 1 [])] (begS 1).now (begS 1).co (hs0 0 0) (hs0 0 1) (.slc (D.hd (hs3 2 0)) 8 (List.replicate 1 [D.int .i64 0,.int .i64 0,.int .i64 0,.int .i64 0,.bool false,.int .i64 0,.slc none 0 [],.slc none 0 []])) (hs2 0 0) (hs2 0 1) (hs2 0 2) (.slc none 8 []) (begS 1).whole) :=
  ⟨_,_,_,_,_,_,_,_,⟨⟨m1,rfl,m2⟩,⟨is_nil _ _,rfl,rfl⟩,⟨rfl,rfl⟩,fun i d l h1 h2=>by
   have e2 := List.eq_of_mem_replicate (show l ∈ List.replicate 1 ([] : List Int) from List.mem_of_getElem? h2)
   subst e2
   have e1 : d = .slc none 1 [] := List.eq_of_mem_replicate (show d ∈ List.replicate 1 (D.slc none 1 []) from List.mem_of_getElem? h1)
   subst e1
   exact ⟨is_nil _ _,rfl,rfl⟩⟩,rfl⟩
 refine beginB_to 50 3 1 (Conf.mk (SFrm.mk 31 none none [Item.code (cA 31 [1,1,1,1])] (mkJ 0 [(2,SV.ptr 100000 0),(3,SV.bool (decide (IntKind.i64.wrap (0 + 0) = 0)))] 0 31)) [] [(11,.arr 3 (.slc none 1 [])),(10,.arr 50 (.slc none 8 [])),
  (100000,noC 1 10 1 0 (begS 1).co (hs0 0 0) (hs0 0 1) (hs2 0 0) (hs2 0 1) (hs2 0 2) (begS 1).whole),(1,.arr 28 (.slc (D.hd (hs3 2 0)) 8 (List.replicate 1 [D.int .i64 0,.int .i64 0,.int .i64 0,.int .i64 0,.bool false,.int .i64 0,.slc none 0 [],.slc none 0 []]))),(100001,.cells 22 [.vec 11])]) (by kernel_rfl) ?_
 exact retBg (fd := Try.f31) (l := [.ptr 100000 0,.bool (decide (IntKind.i64.wrap (0 + 0) = 0))]) 1 (noM 1 [(.slc none 1 [])] (begS 1).now (begS 1).co (hs0 0 0) (hs0 0 1) (.slc (D.hd (hs3 2 0)) 8 (List.replicate 1 [D.int .i64 0,.int .i64 0,.int .i64 0,.int .i64 0,.bool false,.int .i64 0,.slc none 0 [],.slc none 0 []])) (hs2 0 0) (hs2 0 1) (hs2 0 2) (.slc none 8 []) (begS 1).whole) ⟨rfl,key⟩ (fun E=>by simp [one?,SV.den,SV.denL]; decide)
theorem cb2 (w : World) (H : HV) : Runs Try.prog ⟨w,H⟩ (sysN 31 31 [(0,.int .i64 2)] []) (RetN w H (Begun 2)) := by
 apply execRS_sound ctBgOk [] 400
 rw [cg2_in]
 refine fun hs0 hs1=>⟨⟨(is_of (h := D.hd (hs1 0 0)) (s := 1) rfl (rows_one (ok_int 2) rfl)).1,by simp [D.len,D.rows]⟩,fun hs2 hs3=>⟨by decide,rfl,?_⟩⟩
 obtain ⟨m1,m2⟩ := beg_rows (D.hd (hs3 2 0)) 2
 have key : NodMem 2 (begS 2) (noM 2 [(.slc none 1 []),(.slc none 1 [])] (begS 2).now (begS 2).co (hs0 0 0) (hs0 0 1) (.slc (D.hd (hs3 2 0)) 8 (List.replicate 2 [D.int .i64 0,.int .i64 0,.int .i64 0,.int .i64 0,.bool false,.int .i64 0,.slc none 0 [],.slc none 0 []])) (hs2 0 0) (hs2 0 1) (hs2 0 2) (.slc none 8 []) (begS 2).whole) :=
  ⟨_,_,_,_,_,_,_,_,⟨⟨m1,rfl,m2⟩,⟨is_nil _ _,rfl,rfl⟩,⟨rfl,rfl⟩,fun i d l h1 h2=>by
   have e2 := List.eq_of_mem_replicate (show l ∈ List.replicate 2 ([] : List Int) from List.mem_of_getElem? h2)
   subst e2
   have e1 : d = .slc none 1 [] := List.eq_of_mem_replicate (show d ∈ List.replicate 2 (D.slc none 1 []) from List.mem_of_getElem? h1)
   subst e1
   exact ⟨is_nil _ _,rfl,rfl⟩⟩,rfl⟩
 refine beginB_to 50 3 2 (Conf.mk (SFrm.mk 31 none none [Item.code (cA 31 [1,1,1,1])] (mkJ 0 [(2,SV.ptr 100000 0),(3,SV.bool (decide (IntKind.i64.wrap (0 + 0) = 0)))] 0 31)) [] [(12,.arr 3 (.slc none 1 [])),(11,.arr 3 (.slc none 1 [])),(10,.arr 50 (.slc none 8 [])),
  (100000,noC 1 10 2 0 (begS 2).co (hs0 0 0) (hs0 0 1) (hs2 0 0) (hs2 0 1) (hs2 0 2) (begS 2).whole),(1,.arr 28 (.slc (D.hd (hs3 2 0)) 8 (List.replicate 2 [D.int .i64 0,.int .i64 0,.int .i64 0,.int .i64 0,.bool false,.int .i64 0,.slc none 0 [],.slc none 0 []]))),(100001,.cells 22 [.vec 11,.vec 12])]) (by kernel_rfl) ?_
 exact retBg (fd := Try.f31) (l := [.ptr 100000 0,.bool (decide (IntKind.i64.wrap (0 + 0) = 0))]) 2 (noM 2 [(.slc none 1 []),(.slc none 1 [])] (begS 2).now (begS 2).co (hs0 0 0) (hs0 0 1) (.slc (D.hd (hs3 2 0)) 8 (List.replicate 2 [D.int .i64 0,.int .i64 0,.int .i64 0,.int .i64 0,.bool false,.int .i64 0,.slc none 0 [],.slc none 0 []])) (hs2 0 0) (hs2 0 1) (hs2 0 2) (.slc none 8 []) (begS 2).whole) ⟨rfl,key⟩ (fun E=>by simp [one?,SV.den,SV.denL]; decide)
theorem cb3 (w : World) (H : HV) : Runs Try.prog ⟨w,H⟩ (sysN 31 31 [(0,.int .i64 3)] []) (RetN w H (Begun 3)) := by
 apply execRS_sound ctBgOk [] 400
 rw [cg3_in]
 refine fun hs0 hs1=>⟨⟨(is_of (h := D.hd (hs1 0 0)) (s := 1) rfl (rows_one (ok_int 3) rfl)).1,by simp [D.len,D.rows]⟩,fun hs2 hs3=>⟨by decide,rfl,?_⟩⟩
 obtain ⟨m1,m2⟩ := beg_rows (D.hd (hs3 2 0)) 3
 have key : NodMem 3 (begS 3) (noM 3 [(.slc none 1 []),(.slc none 1 []),(.slc none 1 [])] (begS 3).now (begS 3).co (hs0 0 0) (hs0 0 1) (.slc (D.hd (hs3 2 0)) 8 (List.replicate 3 [D.int .i64 0,.int .i64 0,.int .i64 0,.int .i64 0,.bool false,.int .i64 0,.slc none 0 [],.slc none 0 []])) (hs2 0 0) (hs2 0 1) (hs2 0 2) (.slc none 8 []) (begS 3).whole) :=
  ⟨_,_,_,_,_,_,_,_,⟨⟨m1,rfl,m2⟩,⟨is_nil _ _,rfl,rfl⟩,⟨rfl,rfl⟩,fun i d l h1 h2=>by
   have e2 := List.eq_of_mem_replicate (show l ∈ List.replicate 3 ([] : List Int) from List.mem_of_getElem? h2)
   subst e2
   have e1 : d = .slc none 1 [] := List.eq_of_mem_replicate (show d ∈ List.replicate 3 (D.slc none 1 []) from List.mem_of_getElem? h1)
   subst e1
   exact ⟨is_nil _ _,rfl,rfl⟩⟩,rfl⟩
 refine beginB_to 50 3 3 (Conf.mk (SFrm.mk 31 none none [Item.code (cA 31 [1,1,1,1])] (mkJ 0 [(2,SV.ptr 100000 0),(3,SV.bool (decide (IntKind.i64.wrap (0 + 0) = 0)))] 0 31)) [] [(13,.arr 3 (.slc none 1 [])),(12,.arr 3 (.slc none 1 [])),(11,.arr 3 (.slc none 1 [])),(10,.arr 50 (.slc none 8 [])),
  (100000,noC 1 10 3 0 (begS 3).co (hs0 0 0) (hs0 0 1) (hs2 0 0) (hs2 0 1) (hs2 0 2) (begS 3).whole),(1,.arr 28 (.slc (D.hd (hs3 2 0)) 8 (List.replicate 3 [D.int .i64 0,.int .i64 0,.int .i64 0,.int .i64 0,.bool false,.int .i64 0,.slc none 0 [],.slc none 0 []]))),(100001,.cells 22 [.vec 11,.vec 12,.vec 13])]) (by kernel_rfl) ?_
 exact retBg (fd := Try.f31) (l := [.ptr 100000 0,.bool (decide (IntKind.i64.wrap (0 + 0) = 0))]) 3 (noM 3 [(.slc none 1 []),(.slc none 1 []),(.slc none 1 [])] (begS 3).now (begS 3).co (hs0 0 0) (hs0 0 1) (.slc (D.hd (hs3 2 0)) 8 (List.replicate 3 [D.int .i64 0,.int .i64 0,.int .i64 0,.int .i64 0,.bool false,.int .i64 0,.slc none 0 [],.slc none 0 []])) (hs2 0 0) (hs2 0 1) (hs2 0 2) (.slc none 8 []) (begS 3).whole) ⟨rfl,key⟩ (fun E=>by simp [one?,SV.den,SV.denL]; decide)
end Sv
end
noncomputable section
open Go Go.Proofs Sx
namespace Sv
theorem nmeth_law {N : Nat} {s : NdS} {f : FuncId} {n : Nat} {args : List (Nat × SV)} {Φ : NdS → Prop} (hm : NMeth N f n args s Φ) {g : SFrm} {w0 : World} {H : HV} {R : Value → World → Prop} {mem : Mem} (m' : Mem)
  (hs : NodMem N s m') (k : ∀ s' m'',Φ s' → NodMem N s' m'' → Runs Try.prog ⟨w0,H⟩ (backN g m'') R)
  (hto : (moveM mem (mvN N mem)).map (pickK (ksN N)) = some m' := by kernel_rfl) (hn : (ksN N).Nodup := by decide) (hfx : (SV.fixedL (mkJ 1 args 0 n) && [g].all fun f=>SV.fixedL f.tmps) = true := by kernel_rfl) (hgp : (g.tmps.all SV.pinned && ([] : List SFrm).all fun f=>f.tmps.all SV.pinned) = true := by kernel_rfl) :
  Runs Try.prog ⟨w0,H⟩ ⟨SFrm.mk f none none [Item.code (cA f [])] (mkJ 1 args 0 n),[g],mem⟩ R :=
 runs_to (MemTo.to _ _ hto hn) hfx (runs_meth hgp (fun H f _=>hm w0 H f m' hs) (fun v m ⟨hv,s',hΦ,hm⟩=>by subst hv; exact k s' m hΦ hm))
theorem runs_nod {C : Ctx} {R : Value → World → Prop} {top : SFrm} {rest : List SFrm} {mem m' : Mem} (N : Nat) (h : Runs Try.prog C ⟨top,rest,m'⟩ R) (hto : (moveM mem (mvN N mem)).map (pickK (ksN N)) = some m' := by kernel_rfl) (hn : (ksN N).Nodup := by decide) (hp : (SV.fixedL top.tmps && rest.all fun f=>SV.fixedL f.tmps) = true := by kernel_rfl) : Runs Try.prog C ⟨top,rest,mem⟩ R :=
 runs_to (MemTo.to _ _ hto hn) hp h
theorem ctCbOk : Ctrs.Ok Try.prog ctCb := by
 intro x hx
 simp only [ctCb,List.mem_cons,List.not_mem_nil,or_false] at hx
 rcases hx with rfl | rfl
 ·exact ctrOf_ok (B21.lawRes _ (.inl rfl))
 ·exact ctrOf_ok lawEqI
def bar1 : NdS := issN (begS 2) 0 zMb []
def bar2 : NdS := issN bar1 0 (bar1.mbs.getD 0 zMb) (bar1.nums.getD 0 [])
def bar3 : NdS := issN bar2 1 (bar2.mbs.getD 1 zMb) (bar2.nums.getD 1 [])
def barS : Nat → NdS
 | 0=>stpN bar3 2 0 9
 | j + 1=>stpN (barS j) 3 j 9
theorem bar_result : resultCo (barS 8).co = ([2,1],true) := by kernel_rfl
theorem two_of {s : NdS} {mm : Mem} (h : NodMem 2 s mm) : ∃ (n0 n1 pd sd mb zd wd ed ms : D),mm = noM 2 [n0,n1] s.now s.co pd sd mb zd wd ed ms s.whole := by
 obtain ⟨ns,pd,sd,mb,zd,wd,ed,ms,hw,he⟩ := h
 have hnl := hw.len.1
 match ns,hnl with
 | [n0,n1],_=>exact ⟨n0,n1,pd,sd,mb,zd,wd,ed,ms,he⟩
theorem cq_loop (w : World) (H : HV) : ∀ (q j : Nat) {mm : Mem} {G : Gh},j + q = 8 → NOk (barS j) 2 G (4 + j) → NodMem 2 (barS j) mm → Runs Try.prog ⟨w,H⟩ (cqL j mm) (RetS w H (.lb true))
 | 0,j,mm,G,hj,h,hm=>by
  obtain rfl : j = 8 := by omega
  obtain ⟨n0,n1,pd,sd,mb,zd,wd,ed,ms,rfl⟩ := two_of hm
  refine unroll_sound rfl ?_
  apply execRE_sound ctCbOk [68,33] 400
  rw [cq_go]
  simp only [co_back]
  refine ⟨fun hc=>absurd (of_decide_eq_true hc) (by omega),fun _=>⟨⟨D.like_is _ _,D.like_is _ _⟩,fun hs=>⟨fun _ hs1=>⟨⟨D.like_is _ _,(is_of (h := D.hd (hs1 0 0)) (s := 1) rfl (rows_app (rows_one (ok_int 2) rfl) (rows_one (ok_int 1) rfl))).1,?_⟩,?_⟩,fun hv=>absurd (show (resultCo (barS 8).co).2 = false from hv) (by rw [bar_result]; decide)⟩⟩⟩
  ·rw [bar_result,like_leng]; simp
  ·refine leaf_ret (f := Try.f32) (l := [.bool (decide (D.to Int (D.like (hs 0 0) (resultCo (barS 8).co).1) = D.to Int (D.slc (D.hd (hs1 0 0)) 1 [[D.int .i64 2],[D.int .i64 1]])))]) (by kernel_rfl) (by kernel_rfl) (ret_S fun _ _=>?_)
   simp only [one?,SV.den,bar_result,D.like_to]
   rw [show D.to Int (D.slc (D.hd (hs1 0 0)) 1 [[D.int .i64 2],[D.int .i64 1]]) = [2,1] from rfl]
   rfl
 | q + 1,j,mm,G,hj,h,hm=>by
  have hm0 := hm
  obtain ⟨n0,n1,pd,sd,mb,zd,wd,ed,ms,rfl⟩ := two_of hm
  refine unroll_sound rfl ?_
  apply execRE_sound ctCbOk [68,33] 400
  rw [cq_go]
  refine ⟨fun _=>?_,fun hc=>absurd (of_decide_eq_false hc) (by omega)⟩
  refine nmeth_law (step_meth h (by omega) 3 0 j 9) (g := crF5 j) (noM 2 [n0,n1] (barS j).now (barS j).co pd sd mb zd wd ed ms (barS j).whole) hm0 fun s' m'' ⟨⟨G',hn,_,_⟩,he⟩ hm''=>?_
  have he : s' = barS (j + 1) := he (.inr rfl)
  subst he
  have hm1 := hm''
  obtain ⟨n0,n1,pd,sd,mb,zd,wd,ed,ms,rfl⟩ := two_of hm''
  apply execRE_sound ctCbOk [68,33] 400
  rw [cr_k5,show IntKind.i64.wrap ((j : Int) + 1) = ((j + 1 : Nat) : Int) by rw [wrap64J (by omega) (by omega)]; rfl]
  exact runs_nod 2 (cq_loop w H q (j + 1) (by omega) hn hm1)
theorem lawCbr : Law Try.prog 32 (rdNone.sp spTrue) := by
 refine law_in _ (by kernel_rfl) fun H w u hok hp=>?_
 apply execRE_sound ctCbOk [31] 400
 rw [show rdNone.canon u = [] from rfl,cr_in]
 refine runs_new (by kernel_rfl) (fun H _=>cb2 w H) fun v m hv=>?_
 obtain ⟨rfl,hm⟩ := hv
 have h0 := begS_ok (N := 2) (by omega)
 have e1 := (h0.issue (by omega) (i := 0) (m := zMb) (l := []) rfl rfl (secOf ((0 : Nat) : Int) ([] : List Int).length)).2.2.2
 have e2 := (e1.issue (by omega) (i := 0) (m := bar1.mbs.getD 0 zMb) (l := bar1.nums.getD 0 []) rfl rfl (secOf ((0 : Nat) : Int) (bar1.nums.getD 0 []).length)).2.2.2
 have e3 := (e2.issue (by omega) (i := 1) (m := bar2.mbs.getD 1 zMb) (l := bar2.nums.getD 1 []) rfl rfl (secOf ((1 : Nat) : Int) (bar2.nums.getD 1 []).length)).2.2.2
 have hmz := hm
 obtain ⟨n0,n1,pd,sd,mb,zd,wd,ed,ms,rfl⟩ := two_of hm
 refine (show Runs Try.prog ⟨w,H⟩ (backW (.tup [.ptr 100000 0,.lb true]) crF0 (noM 2 [n0,n1] (begS 2).now (begS 2).co pd sd mb zd wd ed ms (begS 2).whole)) _ from ?_)
 apply execRE_sound ctCbOk [68,33] 400
 rw [cr_k0]
 refine nmeth_law (iss_meth h0 (by omega) (i := 0) (m := zMb) (l := []) rfl rfl) (g := crF1) _ hmz fun s' m'' he hm''=>?_
 subst he
 have hmz := hm''
 obtain ⟨n0,n1,pd,sd,mb,zd,wd,ed,ms,rfl⟩ := two_of hm''
 apply execRE_sound ctCbOk [68,33] 400
 rw [cr_k1]
 refine nmeth_law (iss_meth (s := bar1) e1 (by omega) (i := 0) (m := bar1.mbs.getD 0 zMb) (l := bar1.nums.getD 0 []) rfl rfl) (g := crF2) _ hmz fun s' m'' he hm''=>?_
 subst he
 have hmz := hm''
 obtain ⟨n0,n1,pd,sd,mb,zd,wd,ed,ms,rfl⟩ := two_of hm''
 apply execRE_sound ctCbOk [68,33] 400
 rw [cr_k2]
 refine nmeth_law (iss_meth (s := bar2) e2 (by omega) (i := 1) (m := bar2.mbs.getD 1 zMb) (l := bar2.nums.getD 1 []) rfl rfl) (g := crF3) _ hmz fun s' m'' he hm''=>?_
 subst he
 have hmz := hm''
 obtain ⟨n0,n1,pd,sd,mb,zd,wd,ed,ms,rfl⟩ := two_of hm''
 apply execRE_sound ctCbOk [68,33] 400
 rw [cr_k3]
 refine nmeth_law (step_meth (s := bar3) e3 (by omega) 2 0 0 9) (g := crF4) _ hmz fun s' m'' ⟨⟨G',hn,_,_⟩,he⟩ hm''=>?_
 have he : s' = barS 0 := he (.inl rfl)
 subst he
 have hmz := hm''
 obtain ⟨n0,n1,pd,sd,mb,zd,wd,ed,ms,rfl⟩ := two_of hm''
 apply execRE_sound ctCbOk [68,33] 400
 rw [cr_k4]
 exact runs_nod 2 (cq_loop w H 8 0 rfl hn hmz)
end Sv
end
