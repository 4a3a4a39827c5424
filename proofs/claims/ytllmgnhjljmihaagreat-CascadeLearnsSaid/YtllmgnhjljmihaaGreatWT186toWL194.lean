/- Layer 41: the example, walked. -/
import Derived.KernelRfl
import Derived.Test.YtllmgnhjljmihaaGreatWL166toWL185
import Derived.Test.YtllmgnhjljmihaaGreatWL5toWT166
set_option linter.all false
section
open Go Go.Proofs Sx
namespace Go.Proofs.YtllmgnhjljmihaaGreat
set_option maxRecDepth 100000
set_option maxHeartbeats 0
section
theorem awake_in : (execU Tryz.prog ctTY (fun _ => true) 900 (entry Tryz.prog 7 [])).dec =
 Tree.all fun hs =>
 .all fun hs =>
 .all fun hs =>
 .all fun hs =>
 .all fun hs =>
 .all fun hs_1 =>
 .all fun hs_2 =>
 .all fun hs_3 =>
 .all fun hs_4 =>
 .need
 ((0 : Int) ≤ 0 ∧
 0 < (↑(D.len (pMs (hs 2 2) [Msg.mk 10 0 2 5 0 1 [] []])) : Int) ∧
 D.sz (pMs (hs 2 2) [Msg.mk 10 0 2 5 0 1 [] []]) = 8)
 (.need (D.HasCell (pMs (hs 2 2) [Msg.mk 10 0 2 5 0 1 [] []]) 0 0 (FT.int .i64))
 (.need
 ((0 : Int) ≤ 0 ∧
 0 < (↑(D.len (pMs (hs 2 2) [Msg.mk 10 0 2 5 0 1 [] []])) : Int) ∧
 D.sz (pMs (hs 2 2) [Msg.mk 10 0 2 5 0 1 [] []]) = 8)
 (.need (D.HasCell (pMs (hs 2 2) [Msg.mk 10 0 2 5 0 1 [] []]) 0 3 (FT.int .i64))
 (.need
 ((0 : Int) ≤ 0 ∧ 0 < (↑(D.len (pC (hs_2 2 1) [xc2])) : Int) ∧ D.sz (pC (hs_2 2 1) [xc2]) = 5)
 (.need (D.HasCell (pC (hs_2 2 1) [xc2]) 0 1 (FT.int .i64))
 (.all fun hs =>
 .need
 (D.Is Int (pI (hs_3 0 0) [6]) ∧
 D.Is Int (D.slc (D.hd (hs 0 0)) 1 [[D.int .i64 6]]) ∧
 D.len (pI (hs_3 0 0) [6]) ≤ 1048576 ∧
 D.to Int (pI (hs_3 0 0) [6]) =
 D.to Int (D.slc (D.hd (hs 0 0)) 1 [[D.int .i64 6]]))
 (.ret (.lb true)))))))) := by kernel_rfl

end
end Go.Proofs.YtllmgnhjljmihaaGreat
end
section
open Go Go.Proofs Sx
namespace Sx
noncomputable def spBeh (x : D × Int) : SpecR := .data [x.1.Is Cy ∧ x.1.len ≤ 1048576 ∧ ∀ c, c ∈ x.1.to Cy → CyOk c] fun ds => .dat ((ds 0).like (behindL (x.1.to Cy) x.2))
noncomputable def spCpRl (x : RlD) : SpecR := .data [x.Ok] fun ds => .agg (rlL (ds 0) (ds 1) x.rl)
end Sx
namespace Go.Proofs.YtllmgnhjljmihaaGreat
set_option maxRecDepth 100000
set_option maxHeartbeats 0
noncomputable def ctRsR : Ctrs := [(31, ctrOf (rdRl.one.sp spCkRl)), (47, ctrOf ((rdD.two rdInt).sp spBeh))]
noncomputable def ctSm : Ctrs := [(38, ctrOf ((rdD.two rdD).sp spInts)), (16, ctrOf ((rdCy.two rdCy).sp spCySame)), (40, ctrOf ((rdSrc.two rdSrc).sp spSame)), (6, ctrOf (rdCy.one.sp spFewC))]
noncomputable def rbL (d : D) (n : Int) (r : D) (j : Int) : Conf := Conf.mk (SFrm.mk 47 none none [Item.inLoop (cAt Tryz.prog 47 [1, 1, 0, 1, 0, 0]), Item.inBlock 0, Item.code (cAt Tryz.prog 47 [1, 1, 1])] (mkJ 0 [(0, .dat d), (1, .int .i64 n), (5, .vec 0), (6, .int .i64 j)] 0 29)) [] [(0, .arr 32 r)]
section
variable (d s o k r o' k' : D) (b : Nat) (n j a a1 a2 a3 a4 b1 b2 b3 b4 e si st ap ep na a1' a2' a3' a4' b1' b2' b3' b4' e' si' st' ap' : Int)
theorem rbL_go : exec Tryz.prog ctBgR 400 (unroll (rbL d n r j)) =
 Tree.br (decide (j < (↑(D.len d) : Int)))
 (.need (0 ≤ j ∧ j < (↑(D.len d) : Int) ∧ D.sz d = 5)
 (.need (D.HasCell d (Int.toNat j) 1 (FT.int .i64))
 (.br (decide (D.getInt d (Int.toNat j) 1 > n))
 (.need (0 ≤ j ∧ j < (↑(D.len d) : Int) ∧ D.sz d = 5)
 (.need
 (D.HasCells d (Int.toNat j) 0 [FT.int .i64, FT.int .i64, FT.int .i64, FT.slc, FT.slc])
 (.need
 (CyD.Ok
 (CyD.mk (D.getInt d (Int.toNat j) 0) (D.getInt d (Int.toNat j) 1) (D.getInt d (Int.toNat j) 2)
 (D.cell d (Int.toNat j) 3) (D.cell d (Int.toNat j) 4)))
 (.all fun hs =>
 .all fun hs_1 =>
 .need
 (D.sz r = 5 ∧
 D.Fits
 (D.slc (D.hd (hs_1 0 0)) 5
 [[D.int .i64 (D.getInt d (Int.toNat j) 0),
 D.int .i64 (D.getInt d (Int.toNat j) 1),
 D.int .i64 (D.getInt d (Int.toNat j) 2),
 D.like (hs 0 0) (D.to Int (D.cell d (Int.toNat j) 3)),
 D.like (hs 0 1) (D.to Wt (D.cell d (Int.toNat j) 4))]])
 5 ∧
 (D.len r +
 D.len
 (D.slc (D.hd (hs_1 0 0)) 5
 [[D.int .i64 (D.getInt d (Int.toNat j) 0),
 D.int .i64 (D.getInt d (Int.toNat j) 1),
 D.int .i64 (D.getInt d (Int.toNat j) 2),
 D.like (hs 0 0) (D.to Int (D.cell d (Int.toNat j) 3)),
 D.like (hs 0 1) (D.to Wt (D.cell d (Int.toNat j) 4))]])) *
 72 ≤
 140737488355328 ∧
 D.len r +
 D.len
 (D.slc (D.hd (hs_1 0 0)) 5
 [[D.int .i64 (D.getInt d (Int.toNat j) 0),
 D.int .i64 (D.getInt d (Int.toNat j) 1),
 D.int .i64 (D.getInt d (Int.toNat j) 2),
 D.like (hs 0 0) (D.to Int (D.cell d (Int.toNat j) 3)),
 D.like (hs 0 1) (D.to Wt (D.cell d (Int.toNat j) 4))]]) ≤
 9223372036854775807)
 (.all fun hs_2 =>
 .leaf
 (Conf.mk
 (SFrm.mk 47 none none
 [Item.inLoop (cAt Tryz.prog 47 [1, 1, 0, 1, 0, 0]), Item.inBlock 0,
 Item.code (cAt Tryz.prog 47 [1, 1, 1])]
 (mkJ 0
 [(0, .dat d), (1, .int .i64 n), (5, .vec 0),
 (6, .int .i64 (IntKind.wrap .i64 (j + 1)))]
 0 29))
 []
 [(0,
 OBlk.arr 32
 (D.slc (D.hd (hs_2 0 0)) 5
 (List.append (D.rows r)
 (D.rows
 (D.slc (D.hd (hs_1 0 0)) 5
 [[D.int .i64 (D.getInt d (Int.toNat j) 0),
 D.int .i64 (D.getInt d (Int.toNat j) 1),
 D.int .i64 (D.getInt d (Int.toNat j) 2),
 D.like (hs 0 0) (D.to Int (D.cell d (Int.toNat j) 3)),
 D.like (hs 0 1) (D.to Wt (D.cell d (Int.toNat j) 4))]])))))]))))))
 (.leaf
 (Conf.mk
 (SFrm.mk 47 none none
 [Item.inLoop (cAt Tryz.prog 47 [1, 1, 0, 1, 0, 0]), Item.inBlock 0,
 Item.code (cAt Tryz.prog 47 [1, 1, 1])]
 (mkJ 0
 [(0, .dat d), (1, .int .i64 n), (5, .vec 0),
 (6, .int .i64 (IntKind.wrap .i64 (j + 1)))]
 0 29))
 [] [(0, OBlk.arr 32 r)])))))
 (.ret (.dat r)) := by kernel_rfl

theorem smR_in : exec Tryz.prog ctSm 400 (entry Tryz.prog 10 [.agg [.int .i64 a1, .int .i64 a2, .int .i64 a3, .int .i64 a4, .int .i64 b1, .int .i64 b2, .int .i64 b3, .int .i64 b4, .int .i64 e, .int .i64 si, .dat o, .int .i64 st, .int .i64 ap, .dat k], .agg [.int .i64 a1', .int .i64 a2', .int .i64 a3', .int .i64 a4', .int .i64 b1', .int .i64 b2', .int .i64 b3', .int .i64 b4', .int .i64 e', .int .i64 si', .dat o', .int .i64 st', .int .i64 ap', .dat k']]) =
 Tree.br ((↑(D.len k) : Int) != (↑(D.len k') : Int)) (.ret (.lb false))
 (.need (D.Is Int o ∧ D.Is Int o' ∧ D.len o ≤ 1048576)
 (.br (!decide (D.to Int o = D.to Int o')) (.ret (.lb false))
 (.leaf
 (Conf.mk
 (SFrm.mk 10 none none
 [Item.inLoop (cAt Tryz.prog 10 [1, 1, 0, 1, 0, 0]), Item.inBlock 0, Item.code (cAt Tryz.prog 10 [1, 1, 1])]
 (mkJ 0 [(2, .ptr 0 0), (3, .ptr 1 0), (5, .int .i64 0)] 0 61))
 []
 [(0,
 OBlk.cells 29
 [.int .i64 a1, .int .i64 a2, .int .i64 a3, .int .i64 a4,
 .int .i64 b1, .int .i64 b2, .int .i64 b3, .int .i64 b4,
 .int .i64 e, .int .i64 si, .dat o, .int .i64 st, .int .i64 ap,
 .dat k]),
 (1,
 OBlk.cells 29
 [.int .i64 a1', .int .i64 a2', .int .i64 a3', .int .i64 a4',
 .int .i64 b1', .int .i64 b2', .int .i64 b3', .int .i64 b4',
 .int .i64 e', .int .i64 si', .dat o', .int .i64 st',
 .int .i64 ap', .dat k'])])))) := by kernel_rfl

theorem fwR_in : exec Tryz.prog ctSm 400 (entry Tryz.prog 5 [.agg [.int .i64 a1, .int .i64 a2, .int .i64 a3, .int .i64 a4, .int .i64 b1, .int .i64 b2, .int .i64 b3, .int .i64 b4, .int .i64 e, .int .i64 si, .dat o, .int .i64 st, .int .i64 ap, .dat k]]) =
 Tree.br (decide ((↑(D.len o) : Int) > 40)) (.ret (.lb false))
 (.br (decide ((↑(D.len k) : Int) > 40)) (.ret (.lb false))
 (.leaf
 (Conf.mk
 (SFrm.mk 5 none none
 [Item.inLoop (cAt Tryz.prog 5 [1, 1, 0, 1, 0, 0]), Item.inBlock 0, Item.code (cAt Tryz.prog 5 [1, 1, 1])]
 (mkJ 0 [(1, .ptr 0 0), (3, .int .i64 0)] 0 29))
 []
 [(0,
 OBlk.cells 29
 [.int .i64 a1, .int .i64 a2, .int .i64 a3, .int .i64 a4,
 .int .i64 b1, .int .i64 b2, .int .i64 b3, .int .i64 b4,
 .int .i64 e, .int .i64 si, .dat o, .int .i64 st, .int .i64 ap,
 .dat k])]))) := by kernel_rfl

end
end Go.Proofs.YtllmgnhjljmihaaGreat
end
section
open Go Go.Proofs Sx
namespace Go.Proofs.YtllmgnhjljmihaaGreat
set_option maxRecDepth 100000
set_option maxHeartbeats 0
noncomputable def smRL (x y : RlD) (j : Int) : Conf := Conf.mk (SFrm.mk 10 none none [Item.inLoop (cAt Tryz.prog 10 [1, 1, 0, 1, 0, 0]), Item.inBlock 0, Item.code (cAt Tryz.prog 10 [1, 1, 1])] (mkJ 0 [(2, .ptr 0 0), (3, .ptr 1 0), (5, .int .i64 j)] 0 61)) [] [(0, OBlk.cells 29 (rlCs x)), (1, OBlk.cells 29 (rlCs y))]
noncomputable def fwRL (x : RlD) (j : Int) : Conf := Conf.mk (SFrm.mk 5 none none [Item.inLoop (cAt Tryz.prog 5 [1, 1, 0, 1, 0, 0]), Item.inBlock 0, Item.code (cAt Tryz.prog 5 [1, 1, 1])] (mkJ 0 [(1, .ptr 0 0), (3, .int .i64 j)] 0 29)) [] [(0, OBlk.cells 29 (rlCs x))]
section
variable (d s o k r o' k' : D) (b : Nat) (n j a a1 a2 a3 a4 b1 b2 b3 b4 e si st ap ep na a1' a2' a3' a4' b1' b2' b3' b4' e' si' st' ap' : Int)
theorem smRL_go : exec Tryz.prog ctSm 400 (unroll (smRL ⟨⟨a1, a2, a3, a4⟩, ⟨b1, b2, b3, b4⟩, ⟨e, si, o, st, ap⟩, k⟩ ⟨⟨a1', a2', a3', a4'⟩, ⟨b1', b2', b3', b4'⟩, ⟨e', si', o', st', ap'⟩, k'⟩ j)) =
 Tree.br (decide (j < (↑(D.len k) : Int)))
 (.all fun hs =>
 .need (0 ≤ j ∧ j < (↑(D.len k) : Int) ∧ D.sz k = 5)
 (.need
 (D.HasCells k (Int.toNat j) 0 [FT.int .i64, FT.int .i64, FT.int .i64, FT.slc, FT.slc])
 (.need (0 ≤ j ∧ j < (↑(D.len k') : Int) ∧ D.sz k' = 5)
 (.need
 (D.HasCells k' (Int.toNat j) 0 [FT.int .i64, FT.int .i64, FT.int .i64, FT.slc, FT.slc])
 (.need
 (CyD.Ok
 (CyD.mk (D.getInt k (Int.toNat j) 0) (D.getInt k (Int.toNat j) 1) (D.getInt k (Int.toNat j) 2)
 (D.cell k (Int.toNat j) 3) (D.cell k (Int.toNat j) 4)) ∧
 CyD.Ok
 (CyD.mk (D.getInt k' (Int.toNat j) 0) (D.getInt k' (Int.toNat j) 1) (D.getInt k' (Int.toNat j) 2)
 (D.cell k' (Int.toNat j) 3) (D.cell k' (Int.toNat j) 4)))
 (.br
 (!decide
 (CyD.cy
 (CyD.mk (D.getInt k (Int.toNat j) 0) (D.getInt k (Int.toNat j) 1) (D.getInt k (Int.toNat j) 2)
 (D.cell k (Int.toNat j) 3) (D.cell k (Int.toNat j) 4)) =
 CyD.cy
 (CyD.mk (D.getInt k' (Int.toNat j) 0) (D.getInt k' (Int.toNat j) 1)
 (D.getInt k' (Int.toNat j) 2) (D.cell k' (Int.toNat j) 3) (D.cell k' (Int.toNat j) 4))))
 (.ret (.lb false))
 (.leaf
 (Conf.mk
 (SFrm.mk 10 none none
 [Item.inLoop (cAt Tryz.prog 10 [1, 1, 0, 1, 0, 0]), Item.inBlock 0,
 Item.code (cAt Tryz.prog 10 [1, 1, 1])]
 (mkJ 0
 [(2, .ptr 0 0), (3, .ptr 1 0), (5, .int .i64 (IntKind.wrap .i64 (j + 1)))] 0
 61))
 []
 [(0,
 OBlk.cells 29
 [.int .i64 a1, .int .i64 a2, .int .i64 a3, .int .i64 a4,
 .int .i64 b1, .int .i64 b2, .int .i64 b3, .int .i64 b4,
 .int .i64 e, .int .i64 si, .dat o, .int .i64 st,
 .int .i64 ap, .dat k]),
 (1,
 OBlk.cells 29
 [.int .i64 a1', .int .i64 a2', .int .i64 a3',
 .int .i64 a4', .int .i64 b1', .int .i64 b2',
 .int .i64 b3', .int .i64 b4', .int .i64 e',
 .int .i64 si', .dat o', .int .i64 st', .int .i64 ap',
 .dat k'])]))))))))
 (.br (decide (a1 = a1') && (decide (a2 = a2') && (decide (a3 = a3') && (decide (a4 = a4') && true))))
 (.br (decide (b1 = b1') && (decide (b2 = b2') && (decide (b3 = b3') && (decide (b4 = b4') && true))))
 (.need (D.Is Int o ∧ D.Is Int o' ∧ D.len o ≤ 1048576)
 (.ret (.bool (decide (SrcD.src (SrcD.mk e si o st ap) = SrcD.src (SrcD.mk e' si' o' st' ap'))))))
 (.ret (.lb false)))
 (.ret (.lb false))) := by kernel_rfl

theorem fwRL_go : exec Tryz.prog ctSm 400 (unroll (fwRL ⟨⟨a1, a2, a3, a4⟩, ⟨b1, b2, b3, b4⟩, ⟨e, si, o, st, ap⟩, k⟩ j)) =
 Tree.br (decide (j < (↑(D.len k) : Int)))
 (.need (0 ≤ j ∧ j < (↑(D.len k) : Int) ∧ D.sz k = 5)
 (.need
 (D.HasCells k (Int.toNat j) 0 [FT.int .i64, FT.int .i64, FT.int .i64, FT.slc, FT.slc])
 (.need (D.Is Int (D.cell k (Int.toNat j) 3) ∧ D.Is Wt (D.cell k (Int.toNat j) 4))
 (.br
 (!fewC
 (CyD.cy
 (CyD.mk (D.getInt k (Int.toNat j) 0) (D.getInt k (Int.toNat j) 1) (D.getInt k (Int.toNat j) 2)
 (D.cell k (Int.toNat j) 3) (D.cell k (Int.toNat j) 4))))
 (.ret (.lb false))
 (.leaf
 (Conf.mk
 (SFrm.mk 5 none none
 [Item.inLoop (cAt Tryz.prog 5 [1, 1, 0, 1, 0, 0]), Item.inBlock 0,
 Item.code (cAt Tryz.prog 5 [1, 1, 1])]
 (mkJ 0 [(1, .ptr 0 0), (3, .int .i64 (IntKind.wrap .i64 (j + 1)))] 0 29))
 []
 [(0,
 OBlk.cells 29
 [.int .i64 a1, .int .i64 a2, .int .i64 a3, .int .i64 a4,
 .int .i64 b1, .int .i64 b2, .int .i64 b3, .int .i64 b4,
 .int .i64 e, .int .i64 si, .dat o, .int .i64 st,
 .int .i64 ap, .dat k])]))))))
 (.ret (.lb true)) := by kernel_rfl

end
end Go.Proofs.YtllmgnhjljmihaaGreat
end
section
open Go Go.Proofs Sx
namespace Go.Proofs.YtllmgnhjljmihaaGreat
set_option maxRecDepth 100000
set_option maxHeartbeats 0
noncomputable def sm0L (P : Program) (e s st ap e' s' st' ap' : Int) (d o : D) (j : Int) : Conf := Conf.mk (SFrm.mk 40 none none
 [Item.inLoop (cAt P 40 [1, 1, 0, 1, 0, 0]), Item.inBlock 0, Item.code (cAt P 40 [1, 1, 1])]
 (mkJ 0 [(2, .ptr 0 0), (3, .ptr 1 0), (5, .int .i64 j)] 0 59))
 [] [(0, .cells 26 [.int .i64 e, .int .i64 s, .dat d, .int .i64 st, .int .i64 ap]), (1, .cells 26 [.int .i64 e', .int .i64 s', .dat o, .int .i64 st', .int .i64 ap'])]
section
variable (e s st ap j n last k m e' s' st' ap' mk mf mt mn mv me mx xk xf xt xn xv xe : Int) (d d' mb ml xb xl : D) (o ms : D)
theorem sm0_go : exec Tryz.prog ctS32 300 (unroll (sm0L Tryz.prog e s st ap e' s' st' ap' d o j)) =
 Tree.br (decide (j < (↑(D.len d) : Int)))
 (.all fun hs =>
 .need (0 ≤ j ∧ j < (↑(D.len d) : Int) ∧ D.sz d = 1)
 (.need (D.HasCell d (Int.toNat j) 0 (FT.int .i64))
 (.need (0 ≤ j ∧ j < (↑(D.len o) : Int) ∧ D.sz o = 1)
 (.need (D.HasCell o (Int.toNat j) 0 (FT.int .i64))
 (.br (D.getInt d (Int.toNat j) 0 != D.getInt o (Int.toNat j) 0) (.ret (.lb false))
 (.leaf
 (Conf.mk
 (SFrm.mk 40 none none
 [Item.inLoop (cAt Tryz.prog 40 [1, 1, 0, 1, 0, 0]), Item.inBlock 0,
 Item.code (cAt Tryz.prog 40 [1, 1, 1])]
 (mkJ 0
 [(2, .ptr 0 0), (3, .ptr 1 0), (5, .int .i64 (IntKind.wrap .i64 (j + 1)))] 0
 59))
 []
 [(0,
 OBlk.cells 26
 [.int .i64 e, .int .i64 s, .dat d, .int .i64 st,
 .int .i64 ap]),
 (1,
 OBlk.cells 26
 [.int .i64 e', .int .i64 s', .dat o, .int .i64 st',
 .int .i64 ap'])])))))))
 (.ret (.lb true)) := by kernel_rfl

end
end Go.Proofs.YtllmgnhjljmihaaGreat
end
section
open Go Go.Proofs Sx
namespace Go.Proofs.YtllmgnhjljmihaaGreat
set_option maxRecDepth 100000
theorem take_eq32 {α : Type _} {xs ys : List α} {j : Nat} (hx : j < xs.length) (hy : j < ys.length) : xs.take (j + 1) = ys.take (j + 1) ↔ xs.take j = ys.take j ∧ xs[j] = ys[j] := by
  rw [List.take_succ_eq_append_getElem hx, List.take_succ_eq_append_getElem hy]
  constructor
  · intro h
    have := List.append_inj h (by simp; omega)
    exact ⟨this.1, by simpa using this.2⟩
  · rintro ⟨h1, h2⟩; rw [h1, h2]

theorem ne_of_take32 {α : Type _} {xs ys : List α} {j : Nat} (hx : j < xs.length) (hy : j < ys.length) (h : xs[j] ≠ ys[j]) : xs ≠ ys := by
  rintro rfl; exact h rfl

theorem lawSame32 : Law Tryz.prog 40 ((rdSrc.two rdSrc).sp spSame) := by
  refine law_in _ (by kernel_rfl) fun H w ⟨⟨e, s, d, st, ap⟩, ⟨e', s', o, st', ap'⟩⟩ hok hp => ?_
  obtain ⟨hd, ho, hlen⟩ := hp _ (List.mem_singleton.2 rfl)
  simp only at hd ho hlen
  clear hp hok
  have hl := D.Is.length (α := Int) d
  have hl' := D.Is.length (α := Int) o
  apply exec_sound (noCtr _) 300
  rw [show (rdSrc.two rdSrc).canon (⟨e, s, d, st, ap⟩, ⟨e', s', o, st', ap'⟩) = [.agg [.int .i64 e, .int .i64 s, .dat d, .int .i64 st, .int .i64 ap], .agg [.int .i64 e', .int .i64 s', .dat o, .int .i64 st', .int .i64 ap']] from rfl, same_in32]
  simp only [SrcD.src, Src.mk.injEq]
  refine ⟨fun h1 => ret_lb ?_, fun h1 => ⟨fun h2 => ret_lb ?_, fun h2 => ⟨fun h3 => ret_lb ?_, fun h3 => ⟨fun h4 => ret_lb ?_, fun h4 => ⟨fun h5 => ret_lb ?_, fun h5 => ?_⟩⟩⟩⟩⟩
  · simp at h1; simp [h1]
  · simp at h2; simp [h2]
  · simp at h3; simp [h3]
  · simp at h4; simp [h4]
  · simp [hl, hl'] at h5
    symm
    simp only [decide_eq_false_iff_not]
    rintro ⟨_, _, h, _⟩
    exact h5 (by rw [h])
  · simp only [bne_eq_false_iff_eq] at h1 h2 h3 h4 h5
    subst h1; subst h2; subst h3; subst h4
    have h5 : (d.to Int).length = (o.to Int).length := by omega
    refine runs_loop (fun j : Nat => sm0L Tryz.prog e s st ap e s st ap d o j) (fun j => j ≤ (d.to Int).length ∧ (d.to Int).take j = (o.to Int).take j) (fun j => (d.to Int).length - j) (fun _ => rfl) ?_ 0 ⟨Nat.zero_le _, by simp⟩
    intro j ⟨hj, hpre⟩ ih
    apply exec_sound ctS32Ok 300
    rw [sm0_go]
    refine ⟨fun hc => ?_, fun hc => ?_⟩
    · simp [hl] at hc
      have hc' : j < (o.to Int).length := by omega
      obtain ⟨c1, c2, c3⟩ := int_at hd hc
      obtain ⟨d1, d2, d3⟩ := int_at ho hc'
      rw [c3, d3]
      refine fun _ => ⟨c1, c2, d1, d2, fun hx => ret_lb ?_, fun hx => ?_⟩
      · simp only [bne_iff_ne, ne_eq] at hx
        simp [ne_of_take32 hc hc' hx]
      · simp only [bne_eq_false_iff_eq] at hx
        have := ih (j + 1) ⟨hc, (take_eq32 hc hc').2 ⟨hpre, hx⟩⟩ (by omega)
        rw [← wrap_succ hc (by omega)] at this
        exact this
    · simp [hl] at hc
      refine ret_lb ?_
      rw [List.take_of_length_le (by omega), List.take_of_length_le (by omega)] at hpre
      simp [hpre]

end Go.Proofs.YtllmgnhjljmihaaGreat
end
section
open Go Go.Proofs Sx
namespace Sx
end Sx
namespace Go.Proofs.YtllmgnhjljmihaaGreat
set_option maxRecDepth 100000
theorem lawBehR : Law Tryz.prog 47 ((rdD.two rdInt).sp spBeh) := by
  refine law_in _ (by kernel_rfl) fun H w ⟨k, n⟩ hok hp => ?_
  obtain ⟨hk, hlen, hcs⟩ := hp _ (List.mem_singleton.2 rfl)
  simp only at hk hlen hcs
  have kl := D.Is.length (α := Cy) k
  apply exec_sound ctBgROk 400
  rw [show (rdD.two rdInt).canon (k, n) = [.dat k, .int .i64 n] from rfl, rbh_in]
  refine vecIn_to 9 32 5 none 5 (rbL k n (.slc none 5 []) 0) (by kernel_rfl) ?_
  refine runs_loop (fun p : D × Nat => rbL k n p.1 p.2) (fun p => p.2 ≤ (k.to Cy).length ∧ p.1.Is Cy ∧ p.1.sz = 5 ∧ p.1.to Cy = behindL ((k.to Cy).take p.2) n) (fun p => (k.to Cy).length - p.2) (fun _ => rfl) ?_ (.slc none 5 [], 0) ⟨Nat.zero_le _, is_nil _ _, rfl, rfl⟩
  intro ⟨q, j⟩ ⟨hj, hq, hz, hto⟩ ih
  simp only at hj hq hz hto ih
  have ql := D.Is.length (α := Cy) q
  have hfl : (behindL ((k.to Cy).take j) n).length ≤ j := by
    refine Nat.le_trans (List.length_filter_le _ _) ?_
    rw [List.length_take]; omega
  rw [hto] at ql
  apply exec_sound ctBgROk 400
  rw [rbL_go]
  refine ⟨fun hcj => ?_, fun hcj => ?_⟩
  · have hcj : j < (k.to Cy).length := by have := of_decide_eq_true hcj; omega
    obtain ⟨c1, c2, c3, c4⟩ := cy_cell hk hcj
    have hn : (k.to Cy)[j].number = k.getInt j 1 := by rw [c4]; rfl
    have htk : (k.to Cy).take (j + 1) = (k.to Cy).take j ++ [(k.to Cy)[j]] := List.take_succ_eq_append_getElem hcj
    have c0 : 0 ≤ (j : Int) ∧ (j : Int) < (k.len : Int) ∧ k.sz = 5 := ⟨by omega, by omega, hk.size hcj⟩
    refine ⟨c0, c1.2.1, fun hb => ⟨c0, c1, cyD_ok hk hcs hcj, fun hs hs1 => ⟨⟨hz, .inr rfl, by simp only [len_slc, List.length_cons, List.length_nil]; omega, by simp only [len_slc, List.length_cons, List.length_nil]; omega⟩, fun hs2 => ?_⟩⟩, fun hb => ?_⟩
    · have hb : k.getInt j 1 > n := of_decide_eq_true hb
      have hr := rows_app (rows_of hq) (cy_one (b := k.getInt j 0) (n := k.getInt j 1) (t := k.getInt j 2) (D.like_is (hs 0 0) ((k.cell j 3).to Int)) (D.like_to _ _) (D.like_is (hs 0 1) ((k.cell j 4).to Wt)) (D.like_to _ _))
      obtain ⟨i1, i2⟩ := is_of (h := (hs2 0 0).hd) (s := 5) rfl hr
      have := ih (_, j + 1) ⟨hcj, i1, rfl, i2.trans ?_⟩ (by simp only; omega)
      · simp only at this
        rw [← wrap_succ hcj (by omega)] at this
        exact this
      · simp only
        rw [htk, behindL_snoc, if_pos (by rw [hn]; exact hb), hto, c4]; rfl
    · have hb : ¬k.getInt j 1 > n := of_decide_eq_false hb
      have := ih (q, j + 1) ⟨hcj, hq, hz, ?_⟩ (by simp only; omega)
      · simp only at this
        rw [← wrap_succ hcj (by omega)] at this
        exact this
      · simp only
        rw [htk, behindL_snoc, if_neg (by rw [hn]; exact hb), hto]
  · have : j = (k.to Cy).length := by have := of_decide_eq_false hcj; omega
    subst this
    rw [List.take_length] at hto
    obtain ⟨d, h⟩ := (stands_dat hq hto).se
    exact ret_se (fun _ => d) h
theorem ctSmOk : Ctrs.Ok Tryz.prog ctSm := by
  intro x hx
  simp only [ctSm, List.mem_cons, List.not_mem_nil, or_false] at hx
  rcases hx with rfl | rfl | rfl | rfl
  · exact ctrOf_ok lawInts
  · exact ctrOf_ok lawSameC
  · exact ctrOf_ok lawSame32
  · exact ctrOf_ok lawFewC
theorem rl_ne {x y : RlD} (h : x.rl ≠ y.rl) : false = decide (x.rl = y.rl) := by rw [decide_eq_false h]
theorem lawSmR : Law Tryz.prog 10 ((rdRl.two rdRl).sp spSameRl) := by
  refine law_in _ (by kernel_rfl) fun H w ⟨⟨⟨a1, a2, a3, a4⟩, ⟨b1, b2, b3, b4⟩, ⟨e, s, o, st, ap⟩, k⟩, ⟨⟨a1', a2', a3', a4'⟩, ⟨b1', b2', b3', b4'⟩, ⟨e', s', o', st', ap'⟩, k'⟩⟩ hok hp => ?_
  obtain ⟨hx, hy⟩ := hp _ (List.mem_singleton.2 rfl)
  obtain ⟨h1, h2, h3, h4, h5⟩ := id hx
  obtain ⟨g1, g2, g3, g4, g5⟩ := id hy
  simp only at h1 h2 h3 h4 h5 g1 g2 g3 g4 g5
  have kl := D.Is.length (α := Cy) k
  have kl' := D.Is.length (α := Cy) k'
  apply exec_sound ctSmOk 400
  rw [show (rdRl.two rdRl).canon (⟨⟨a1, a2, a3, a4⟩, ⟨b1, b2, b3, b4⟩, ⟨e, s, o, st, ap⟩, k⟩, ⟨⟨a1', a2', a3', a4'⟩, ⟨b1', b2', b3', b4'⟩, ⟨e', s', o', st', ap'⟩, k'⟩) = [.agg [.int .i64 a1, .int .i64 a2, .int .i64 a3, .int .i64 a4, .int .i64 b1, .int .i64 b2, .int .i64 b3, .int .i64 b4, .int .i64 e, .int .i64 s, .dat o, .int .i64 st, .int .i64 ap, .dat k], .agg [.int .i64 a1', .int .i64 a2', .int .i64 a3', .int .i64 a4', .int .i64 b1', .int .i64 b2', .int .i64 b3', .int .i64 b4', .int .i64 e', .int .i64 s', .dat o', .int .i64 st', .int .i64 ap', .dat k']] from rfl, smR_in]
  refine ⟨fun c1 => ret_lb (rl_ne fun he => ?_), fun c1 => ⟨⟨h1, g1, h3⟩, fun c2 => ret_lb (rl_ne fun he => ?_), fun c2 => ?_⟩⟩
  · have c1 : (k.len : Int) ≠ (k'.len : Int) := by simpa using c1
    have : k.to Cy = k'.to Cy := congrArg Rl.kept he
    rw [kl, kl', this] at c1; exact c1 rfl
  · have c2 : ¬(o.to Int = o'.to Int) := by simpa using c2
    exact c2 (congrArg (fun r => r.src.offered) he)
  have c1 : (k.to Cy).length = (k'.to Cy).length := by
    have : (k.len : Int) = (k'.len : Int) := by simpa using c1
    omega
  have c2 : o.to Int = o'.to Int := by simpa using c2
  show Runs Tryz.prog ⟨w, H⟩ (smRL ⟨⟨a1, a2, a3, a4⟩, ⟨b1, b2, b3, b4⟩, ⟨e, s, o, st, ap⟩, k⟩ ⟨⟨a1', a2', a3', a4'⟩, ⟨b1', b2', b3', b4'⟩, ⟨e', s', o', st', ap'⟩, k'⟩ ((0 : Nat) : Int)) _
  refine runs_loop (fun j : Nat => smRL ⟨⟨a1, a2, a3, a4⟩, ⟨b1, b2, b3, b4⟩, ⟨e, s, o, st, ap⟩, k⟩ ⟨⟨a1', a2', a3', a4'⟩, ⟨b1', b2', b3', b4'⟩, ⟨e', s', o', st', ap'⟩, k'⟩ (j : Int)) (fun j => j ≤ (k.to Cy).length ∧ (k.to Cy).take j = (k'.to Cy).take j) (fun j => (k.to Cy).length - j) (fun _ => rfl) ?_ 0 ⟨Nat.zero_le _, rfl⟩
  intro j ⟨hj, hpre⟩ ih
  apply exec_sound ctSmOk 400
  rw [smRL_go]
  refine ⟨fun hc hs => ?_, fun hc => ?_⟩
  · have hc : j < (k.to Cy).length := by have := of_decide_eq_true hc; omega
    have hc' : j < (k'.to Cy).length := c1 ▸ hc
    obtain ⟨q1, _, _, q4⟩ := cy_cell h2 hc
    obtain ⟨r1, _, _, r4⟩ := cy_cell g2 hc'
    refine ⟨⟨by omega, by omega, h2.size hc⟩, q1, ⟨by omega, by omega, g2.size hc'⟩, r1, ⟨cyD_ok h2 h5 hc, cyD_ok g2 g5 hc'⟩, fun d1 => ret_lb (rl_ne fun he => ?_), fun d1 => ?_⟩
    · have d1 : ¬((k.to Cy)[j] = (k'.to Cy)[j]) := by rw [q4, r4]; simpa using d1
      have : k.to Cy = k'.to Cy := congrArg Rl.kept he
      exact d1 (by simp only [this])
    · have d1 : (k.to Cy)[j] = (k'.to Cy)[j] := by rw [q4, r4]; simpa using d1
      have := ih (j + 1) ⟨hc, take_succ_eq hc hc' hpre d1⟩ (by omega)
      rw [← wrap_succ hc (by omega)] at this
      exact this
  · have : j = (k.to Cy).length := by have := of_decide_eq_false hc; omega
    subst this
    have hk : k.to Cy = k'.to Cy := list_eq_of c1 rfl hpre
    refine ⟨fun d1 => ⟨fun d2 => ⟨⟨h1, g1, h3⟩, ret_bool ?_⟩, fun d2 => ret_lb (rl_ne fun he => ?_)⟩, fun d1 => ret_lb (rl_ne fun he => ?_)⟩
    · simp only [Bool.and_true, Bool.and_eq_true, decide_eq_true_eq] at d1 d2
      obtain ⟨rfl, rfl, rfl, rfl⟩ := d1
      obtain ⟨rfl, rfl, rfl, rfl⟩ := d2
      by_cases h : SrcD.src ⟨e, s, o, st, ap⟩ = SrcD.src ⟨e', s', o', st', ap'⟩
      · rw [decide_eq_true h, decide_eq_true]
        simp only [RlD.rl, h, hk]
      · rw [decide_eq_false h, decide_eq_false]
        exact fun he => h (congrArg Rl.src he)
    · have h : (Rl.far (RlD.rl ⟨⟨a1, a2, a3, a4⟩, ⟨b1, b2, b3, b4⟩, ⟨e, s, o, st, ap⟩, k⟩)) = Rl.far (RlD.rl ⟨⟨a1', a2', a3', a4'⟩, ⟨b1', b2', b3', b4'⟩, ⟨e', s', o', st', ap'⟩, k'⟩) := congrArg Rl.far he
      simp only [RlD.rl, Tgt.mk.injEq] at h
      simp [h] at d2
    · have h : (Rl.near (RlD.rl ⟨⟨a1, a2, a3, a4⟩, ⟨b1, b2, b3, b4⟩, ⟨e, s, o, st, ap⟩, k⟩)) = Rl.near (RlD.rl ⟨⟨a1', a2', a3', a4'⟩, ⟨b1', b2', b3', b4'⟩, ⟨e', s', o', st', ap'⟩, k'⟩) := congrArg Rl.near he
      simp only [RlD.rl, Tgt.mk.injEq] at h
      simp [h] at d1
theorem all_snoc (f : Cy → Bool) (l : List Cy) (c : Cy) : (l ++ [c]).all f = (l.all f && f c) := by simp
theorem lawFwR : Law Tryz.prog 5 (rdRl.one.sp spFewRl) := by
  refine law_in _ (by kernel_rfl) fun H w ⟨⟨a1, a2, a3, a4⟩, ⟨b1, b2, b3, b4⟩, ⟨e, s, o, st, ap⟩, k⟩ hok hp => ?_
  obtain ⟨h1, h2⟩ := hp _ (List.mem_singleton.2 rfl)
  simp only at h1 h2
  have kl := D.Is.length (α := Cy) k
  apply exec_sound ctSmOk 400
  rw [show rdRl.one.canon ⟨⟨a1, a2, a3, a4⟩, ⟨b1, b2, b3, b4⟩, ⟨e, s, o, st, ap⟩, k⟩ = [.agg [.int .i64 a1, .int .i64 a2, .int .i64 a3, .int .i64 a4, .int .i64 b1, .int .i64 b2, .int .i64 b3, .int .i64 b4, .int .i64 e, .int .i64 s, .dat o, .int .i64 st, .int .i64 ap, .dat k]] from rfl, fwR_in]
  refine ⟨fun c1 => ret_lb ?_, fun c1 => ⟨fun c2 => ret_lb ?_, fun c2 => ?_⟩⟩
  · have c1 := of_decide_eq_true c1
    rw [decide_eq_false (show ¬o.len ≤ 40 by omega)]; rfl
  · have c2 := of_decide_eq_true c2
    rw [decide_eq_false (show ¬k.len ≤ 40 by omega), Bool.and_false]; rfl
  have c1 := of_decide_eq_false c1
  have c2 := of_decide_eq_false c2
  rw [decide_eq_true (show o.len ≤ 40 by omega), decide_eq_true (show k.len ≤ 40 by omega), Bool.true_and, Bool.true_and]
  show Runs Tryz.prog ⟨w, H⟩ (fwRL ⟨⟨a1, a2, a3, a4⟩, ⟨b1, b2, b3, b4⟩, ⟨e, s, o, st, ap⟩, k⟩ ((0 : Nat) : Int)) _
  refine runs_loop (fun j : Nat => fwRL ⟨⟨a1, a2, a3, a4⟩, ⟨b1, b2, b3, b4⟩, ⟨e, s, o, st, ap⟩, k⟩ (j : Int)) (fun j => j ≤ (k.to Cy).length ∧ ((k.to Cy).take j).all fewC = true) (fun j => (k.to Cy).length - j) (fun _ => rfl) ?_ 0 ⟨Nat.zero_le _, rfl⟩
  intro j ⟨hj, hpre⟩ ih
  apply exec_sound ctSmOk 400
  rw [fwRL_go]
  refine ⟨fun hc => ?_, fun hc => ret_lb ?_⟩
  · have hc : j < (k.to Cy).length := by have := of_decide_eq_true hc; omega
    obtain ⟨q1, q2, q3, q4⟩ := cy_cell h2 hc
    refine ⟨⟨by omega, by omega, h2.size hc⟩, q1, ⟨q2, q3⟩, fun d1 => ret_lb ?_, fun d1 => ?_⟩
    · have d1 : fewC (k.to Cy)[j] = false := by rw [q4]; simpa using d1
      cases h : (k.to Cy).all fewC with
      | false => rfl
      | true => rw [List.all_eq_true.1 h _ (List.getElem_mem hc)] at d1; cases d1
    · have d1 : fewC (k.to Cy)[j] = true := by rw [q4]; simpa using d1
      have := ih (j + 1) ⟨hc, by rw [List.take_succ_eq_append_getElem hc, all_snoc, hpre, d1]; rfl⟩ (by omega)
      rw [← wrap_succ hc (by omega)] at this
      exact this
  · have : j = (k.to Cy).length := by have := of_decide_eq_false hc; omega
    subst this
    rw [List.take_length] at hpre
    exact hpre.symm
end Go.Proofs.YtllmgnhjljmihaaGreat
end
section
open Go
namespace Sx
def RlB (r : Rl) : Prop := r.src.offered.length ≤ 1048576 ∧ r.kept.length ≤ 1048576 ∧ ∀ c, c ∈ r.kept → CyOk c
theorem likeRl_ok {r : Rl} {o k : D} (h : RlB r) : RlD.Ok ⟨⟨r.near.epoch, r.near.site, r.near.stored, r.near.applied⟩, ⟨r.far.epoch, r.far.site, r.far.stored, r.far.applied⟩, ⟨r.src.epoch, r.src.site, o.like r.src.offered, r.src.stored, r.src.applied⟩, k.like r.kept⟩ :=
  ⟨D.like_is _ _, D.like_is _ _, by simp only; rw [D.Is.length (α := Int), D.like_to]; exact h.1, by simp only; rw [D.Is.length (α := Cy), D.like_to]; exact h.2.1, fun c hc => h.2.2 c (by simpa only [D.like_to] using hc)⟩
theorem likeRl_rl {r : Rl} {o k : D} : RlD.rl ⟨⟨r.near.epoch, r.near.site, r.near.stored, r.near.applied⟩, ⟨r.far.epoch, r.far.site, r.far.stored, r.far.applied⟩, ⟨r.src.epoch, r.src.site, o.like r.src.offered, r.src.stored, r.src.applied⟩, k.like r.kept⟩ = r := by
  simp only [RlD.rl, SrcD.src, D.like_to]
theorem same_rl {r : Rl} {o k o' k' : D} (h : RlB r) : RlD.Ok ⟨⟨r.near.epoch, r.near.site, r.near.stored, r.near.applied⟩, ⟨r.far.epoch, r.far.site, r.far.stored, r.far.applied⟩, ⟨r.src.epoch, r.src.site, o.like r.src.offered, r.src.stored, r.src.applied⟩, k.like r.kept⟩ ∧
    RlD.Ok ⟨⟨r.near.epoch, r.near.site, r.near.stored, r.near.applied⟩, ⟨r.far.epoch, r.far.site, r.far.stored, r.far.applied⟩, ⟨r.src.epoch, r.src.site, o'.like r.src.offered, r.src.stored, r.src.applied⟩, k'.like r.kept⟩ ∧
    RlD.rl ⟨⟨r.near.epoch, r.near.site, r.near.stored, r.near.applied⟩, ⟨r.far.epoch, r.far.site, r.far.stored, r.far.applied⟩, ⟨r.src.epoch, r.src.site, o.like r.src.offered, r.src.stored, r.src.applied⟩, k.like r.kept⟩ =
    RlD.rl ⟨⟨r.near.epoch, r.near.site, r.near.stored, r.near.applied⟩, ⟨r.far.epoch, r.far.site, r.far.stored, r.far.applied⟩, ⟨r.src.epoch, r.src.site, o'.like r.src.offered, r.src.stored, r.src.applied⟩, k'.like r.kept⟩ :=
  ⟨likeRl_ok h, likeRl_ok h, by rw [likeRl_rl, likeRl_rl]⟩
theorem behind_b {l : List Cy} {n : Int} (h1 : l.length ≤ 1048576) (h2 : ∀ c, c ∈ l → CyOk c) : (behindL l n).length ≤ 1048576 ∧ ∀ c, c ∈ behindL l n → CyOk c :=
  ⟨Nat.le_trans (List.length_filter_le _ _) h1, fun c hc => h2 c (List.mem_filter.1 hc).1⟩
theorem rlD_b {x : RlD} (h : x.Ok) : RlB x.rl := by
  obtain ⟨h1, h2, h3, h4, h5⟩ := h
  refine ⟨?_, ?_, h5⟩
  · show (x.src.d.to Int).length ≤ _
    rw [← D.Is.length]; exact h3
  · show (x.k.to Cy).length ≤ _
    rw [← D.Is.length]; exact h4
theorem fewW_ok {l : List Wt} (h : fewW l = true) : l.length ≤ 40 ∧ ∀ w, w ∈ l → w.data.length ≤ 24 := by
  unfold fewW at h
  simp only [Bool.and_eq_true, Bool.not_eq_true', decide_eq_true_eq] at h
  obtain ⟨h1, h2⟩ := h
  refine ⟨h2, fun w hw => ?_⟩
  rw [List.take_of_length_le (by omega)] at h1
  have := List.any_eq_false.1 h1 w hw
  simp only [decide_eq_true_eq] at this
  omega
theorem fewC_ok {c : Cy} (h : fewC c = true) : CyOk c := by
  unfold fewC at h
  simp only [Bool.and_eq_true, decide_eq_true_eq] at h
  obtain ⟨a, b⟩ := fewW_ok h.2
  exact ⟨by omega, by omega, fun w hw => by have := b w hw; omega⟩
theorem fewRl_ok {x : RlD} (h1 : x.src.d.Is Int) (h2 : x.k.Is Cy) (h : (decide (x.src.d.len ≤ 40) && decide (x.k.len ≤ 40) && (x.k.to Cy).all fewC) = true) : x.Ok := by
  simp only [Bool.and_eq_true, decide_eq_true_eq, List.all_eq_true] at h
  obtain ⟨⟨a, b⟩, c⟩ := h
  exact ⟨h1, h2, by omega, by omega, fun y hy => fewC_ok (c y hy)⟩
def spSameRS (x : RlD × RlD) : SpecR := .scalar [x.1.Ok ∧ x.2.Ok ∧ x.1.rl = x.2.rl] (.lb true)
end Sx
end
section
open Go Go.Proofs Sx
namespace Go.Proofs.YtllmgnhjljmihaaGreat
set_option maxRecDepth 100000
set_option maxHeartbeats 0
theorem lawAwk : Law Tryz.prog 7 (rdNone.sp spTrue) := by
  refine law_in _ (by kernel_rfl) fun H w _ hok hp => ?_
  refine dec_sound ctTYOk (fun _ => true) 900 (entry Tryz.prog 7 []) awake_in ?_
  refine fun _ _ _ _ hs _ hs2 hs3 _ => ⟨⟨Int.le_refl _, Int.zero_lt_one, rfl⟩, ⟨_, rfl⟩, ⟨Int.le_refl _, Int.zero_lt_one, rfl⟩, ⟨_, rfl⟩, ⟨Int.le_refl _, Int.zero_lt_one, rfl⟩, ⟨_, rfl⟩, fun _ => ⟨⟨allInt_is rfl, allInt_is rfl, Nat.le_of_ble_eq_true rfl, rfl⟩, ret_lbt⟩⟩
theorem lawSmS : Law Tryz.prog 10 ((rdRl.two rdRl).sp spSameRS) :=
  law_sure lawSmR fun b => ⟨_, _, _, rfl, rfl, fun hp => by
    obtain ⟨h1, h2, h3⟩ := hp _ (List.mem_singleton.2 rfl)
    exact ⟨fun p hp' => by rw [List.mem_singleton.1 hp']; exact ⟨h1, h2⟩, decide_eq_true h3⟩⟩
end Go.Proofs.YtllmgnhjljmihaaGreat
end
section
open Go Go.Proofs Sx
namespace Go.Proofs.YtllmgnhjljmihaaGreat
set_option maxRecDepth 100000
set_option maxHeartbeats 0
section
variable (e s st ap n m : Int) (d : D)
theorem ttR_in : exec Tryz.prog [] 400 (entry Tryz.prog 73 [.agg [.int .i64 e, .int .i64 s, .dat d, .int .i64 st, .int .i64 ap], .int .i64 n, .int .i64 m]) =
 Tree.ret
 (.agg
 [.int .i64 n, .int .i64 0, .int .i64 s, .int .i64 m, .int .i64 0,
 .int .i64 e, .nils, .nils]) := by kernel_rfl

theorem cpS_in : exec Tryz.prog [] 400 (entry Tryz.prog 72 [.agg [.int .i64 e, .int .i64 s, .dat d, .int .i64 st, .int .i64 ap]]) =
 Tree.need (D.Fits d 1 ∧ D.len d * 8 ≤ 140737488355328 ∧ D.len d ≤ 9223372036854775807)
 (.all fun hs =>
 .ret
 (.agg
 [.int .i64 e, .int .i64 s, .dat (D.slc (D.hd (hs 0 0)) 1 (D.rows d)), .int .i64 st,
 .int .i64 ap])) := by kernel_rfl

end
end Go.Proofs.YtllmgnhjljmihaaGreat
end
section
open Go
namespace Sx
noncomputable def spToT (x : SrcD × Int × Int) : SpecR := .data [x.1.d.Is Int] fun _ => .agg [.int .i64 x.2.1, .int .i64 0, .int .i64 x.1.s, .int .i64 x.2.2, .int .i64 0, .int .i64 x.1.e, .nils, .nils]
noncomputable def spCpS (x : SrcD) : SpecR := .data [x.d.Is Int ∧ x.d.len ≤ 1048576] fun ds => srcSV (ds 0) x.src
def spFrtR (x : RlD) : SpecR := .scalar [x.k.Is Cy ∧ x.k.len ≤ 1048576] (.int .i64 (((x.k.to Cy).map Cy.number).getLastD x.src.ap))
def spSameMS (x : MsgD × MsgD) : SpecR := .scalar [x.1.v.Is Int ∧ x.2.v.Is Int ∧ x.1.w.Is Byte ∧ x.2.w.Is Byte ∧ x.1.msg.values = [] ∧ x.1.msg.body = [] ∧ x.1.msg = x.2.msg] (.lb true)
def spSameMsS (x : D × D) : SpecR := .scalar [x.1.Is Msg ∧ x.2.Is Msg ∧ x.1.len ≤ 1048576 ∧ (∀ m, m ∈ x.1.to Msg → m.body = [] ∧ m.values = []) ∧ x.1.to Msg = x.2.to Msg] (.lb true)
theorem se_nils : SE .nils .nils := ⟨fun _ _ => rfl, fun _ h => h⟩
end Sx
end
section
open Go Go.Proofs Sx
namespace Go.Proofs.YtllmgnhjljmihaaGreat
set_option maxRecDepth 100000
theorem lawTt : Law Tryz.prog 73 ((rdSrc.three rdInt rdInt).sp spToT) := by
  refine law_in _ (by kernel_rfl) fun H w ⟨⟨e, s, d, st, ap⟩, n, m⟩ hok hp => ?_
  apply exec_sound (noCtr _) 400
  rw [show (rdSrc.three rdInt rdInt).canon (⟨e, s, d, st, ap⟩, n, m) = [.agg [.int .i64 e, .int .i64 s, .dat d, .int .i64 st, .int .i64 ap], .int .i64 n, .int .i64 m] from rfl, ttR_in]
  exact ret_se (fun _ => d) (se_agg (.cons (se_int rfl) (.cons (se_int rfl) (.cons (se_int rfl) (.cons (se_int rfl) (.cons (se_int rfl) (.cons (se_int rfl) (.cons se_nils (.cons se_nils .nil)))))))))
theorem lawCpS : Law Tryz.prog 72 (rdSrc.one.sp spCpS) := by
  refine law_in _ (by kernel_rfl) fun H w ⟨e, s, d, st, ap⟩ hok hp => ?_
  obtain ⟨hd, hl⟩ := hp _ (List.mem_singleton.2 rfl)
  simp only at hd hl
  apply exec_sound (noCtr _) 400
  rw [show rdSrc.one.canon ⟨e, s, d, st, ap⟩ = [.agg [.int .i64 e, .int .i64 s, .dat d, .int .i64 st, .int .i64 ap]] from rfl, cpS_in]
  refine ⟨⟨hd.fits, by omega, by omega⟩, fun hs => ?_⟩
  obtain ⟨x1, x2⟩ := slc_same hd (D.hd (hs 0 0)) (s := 1) rfl
  obtain ⟨q, hq⟩ := srcL_se (e := e) (s := s) (st := st) (ap := ap) (stands_dat x1 x2) rfl
  exact ret_se (fun _ => q) hq
end Go.Proofs.YtllmgnhjljmihaaGreat
end
section
open Go Go.Proofs Sx
namespace Go.Proofs.YtllmgnhjljmihaaGreat
set_option maxRecDepth 100000
set_option maxHeartbeats 0
noncomputable def ctOR2 : Ctrs := [(67, ctrOf (rdSrc.one.sp spCS)), (80, ctrOf ((rdD.two rdInt).sp spHas32)), (73, ctrOf ((rdSrc.three rdInt rdInt).sp spToT))]
noncomputable def ctCpR : Ctrs := [(37, ctrOf (rdCy.one.sp spCpC)), (72, ctrOf (rdSrc.one.sp spCpS))]
noncomputable def cpC (x : RlD) : SFrm := SFrm.mk 34 none none [Item.code (cAt Tryz.prog 34 [0]), Item.code (cAt Tryz.prog 34 [1])] (mkJ 1 [(0, .agg (rlCs x))] 0 32)
section
variable (e s st ap n mk mf mt mn mv me xk xf xt xn xv xe a1 a2 a3 a4 b1 b2 b3 b4 : Int) (d mb ml xb xl k : D)
theorem ofrQ_in : 
 let z1 : Tree := (.br (decide (n > 1073741824)) (.ret (SV.tup [.agg [.int .i64 0, .int .i64 0, .nils, .int .i64 0, .int .i64 0], .nils, .int .i64 2])) (.br (decide ((↑(D.len d) : Int) ≥ 1024)) (.ret (SV.tup [.agg [.int .i64 0, .int .i64 0, .nils, .int .i64 0, .int .i64 0], .nils, .int .i64 6])) (.need (D.Fits d 1 ∧ D.len d * 8 ≤ 140737488355328 ∧ D.len d ≤ 9223372036854775807) (.all fun hs => .all fun hs_1 => .need (D.sz (D.slc (D.hd (hs 0 0)) 1 (D.rows d)) = 1 ∧ D.Fits (D.slc (D.hd (hs_1 0 0)) 1 [[D.int .i64 n]]) 1 ∧ (D.len (D.slc (D.hd (hs 0 0)) 1 (D.rows d)) + D.len (D.slc (D.hd (hs_1 0 0)) 1 [[D.int .i64 n]])) * 8 ≤ 140737488355328 ∧ D.len (D.slc (D.hd (hs 0 0)) 1 (D.rows d)) + D.len (D.slc (D.hd (hs_1 0 0)) 1 [[D.int .i64 n]]) ≤ 9223372036854775807) (.all fun hs_2 => .all fun hs_3 => .need (D.Is Int d) (.ret (SV.tup [.agg [.int .i64 e, .int .i64 s, .dat (D.slc (D.hd (hs_2 0 0)) 1 (List.append (D.rows (D.slc (D.hd (hs 0 0)) 1 (D.rows d))) (D.rows (D.slc (D.hd (hs_1 0 0)) 1 [[D.int .i64 n]])))), .int .i64 st, .int .i64 ap], .dat (D.slc (D.hd (hs_3 4 0)) 8 [[D.int .i64 8, D.int .i64 0, D.int .i64 s, D.int .i64 n, D.int .i64 0, D.int .i64 e, D.slc none 0 [], D.slc none 0 []]]), .int .i64 0])))))))
 exec Tryz.prog ctOR2 400 (entry Tryz.prog 36 [.agg [.int .i64 e, .int .i64 s, .dat d, .int .i64 st, .int .i64 ap], .int .i64 n]) =
 Tree.need (D.Is Int d) (.br (checkSource (SrcD.src (SrcD.mk e s d st ap)) != 0) (.ret (SV.tup [.agg [.int .i64 0, .int .i64 0, .nils, .int .i64 0, .int .i64 0], .nils, .int .i64 (checkSource (SrcD.src
 (SrcD.mk e s d st ap)))])) (.br (decide ((↑(D.len d) : Int) > 0)) (.need (0 ≤ IntKind.wrap .i64 ((↑(D.len d) : Int) - 1) ∧ IntKind.wrap .i64 ((↑(D.len d) : Int) - 1) < (↑(D.len d) : Int) ∧ D.sz d = 1)
 (.need (D.HasCell d (Int.toNat (IntKind.wrap .i64 ((↑(D.len d) : Int) - 1))) 0 (FT.int .i64)) (.br (decide (n ≤ D.getInt d (Int.toNat (IntKind.wrap .i64 ((↑(D.len d) : Int) - 1))) 0)) (.ret (SV.tup [.agg [.int .i64 0, .int .i64 0, .nils, .int .i64 0, .int .i64 0], .nils, .int .i64 8])) z1)))
 (.br (decide (n ≤ ap)) (.ret (SV.tup [.agg [.int .i64 0, .int .i64 0, .nils, .int .i64 0, .int .i64 0], .nils, .int .i64 8])) z1))) := by
 intros; kernel_rfl

theorem lrnQ_in : goS Tryz.prog ctOR2 (fun _ => false) [(46, 45)] 600 (entry Tryz.prog 46 [.agg [.int .i64 e, .int .i64 s, .dat d, .int .i64 st, .int .i64 ap], .agg [.int .i64 mk, .int .i64 mf, .int .i64 mt, .int .i64 mn, .int .i64 mv, .int .i64 me, .dat mb, .dat ml]]) =
 Tree.need (D.Is Int d)
 (.br (checkSource (SrcD.src (SrcD.mk e s d st ap)) != 0)
 (.ret
 (SV.tup
 [.agg [.int .i64 e, .int .i64 s, .dat d, .int .i64 st, .int .i64 ap],
 .nils]))
 (.br (mf != s)
 (.ret
 (SV.tup
 [.agg [.int .i64 e, .int .i64 s, .dat d, .int .i64 st, .int .i64 ap],
 .nils]))
 (.br (decide (me < e))
 (.ret
 (SV.tup
 [.agg
 [.int .i64 e, .int .i64 s, .dat d, .int .i64 st, .int .i64 ap],
 .nils]))
 (.br (decide (me > 1073741824))
 (.ret
 (SV.tup
 [.agg
 [.int .i64 e, .int .i64 s, .dat d, .int .i64 st, .int .i64 ap],
 .nils]))
 (.br (mk != 9)
 (.br (mk != 11)
 (.br (mk != 12)
 (.ret
 (SV.tup
 [.agg
 [.int .i64 e, .int .i64 s, .dat d, .int .i64 st,
 .int .i64 ap],
 .nils]))
 (.leaf
 (Conf.mk
 (SFrm.mk 46 none none
 [Item.code (cAt Tryz.prog 46 [1, 1, 1, 0]), Item.code (cAt Tryz.prog 46 [1, 1, 1, 1])]
 (mkJ 0 [(2, .ptr 0 0), (3, .ptr 1 0), (4, .ptr 2 0)] 0 132))
 []
 [(0,
 OBlk.cells 26
 [.int .i64 e, .int .i64 s, .dat d, .int .i64 st,
 .int .i64 ap]),
 (1,
 OBlk.cells 47
 [.int .i64 mk, .int .i64 mf, .int .i64 mt, .int .i64 mn,
 .int .i64 mv, .int .i64 me, .dat mb, .dat ml]),
 (2,
 OBlk.cells 26
 [.int .i64 0, .int .i64 0, .nils, .int .i64 0,
 .int .i64 0])])))
 (.leaf
 (Conf.mk
 (SFrm.mk 46 none none
 [Item.code (cAt Tryz.prog 46 [1, 1, 1, 0]), Item.code (cAt Tryz.prog 46 [1, 1, 1, 1])]
 (mkJ 0 [(2, .ptr 0 0), (3, .ptr 1 0), (4, .ptr 2 0)] 0 132))
 []
 [(0,
 OBlk.cells 26
 [.int .i64 e, .int .i64 s, .dat d, .int .i64 st,
 .int .i64 ap]),
 (1,
 OBlk.cells 47
 [.int .i64 mk, .int .i64 mf, .int .i64 mt, .int .i64 mn,
 .int .i64 mv, .int .i64 me, .dat mb, .dat ml]),
 (2,
 OBlk.cells 26
 [.int .i64 0, .int .i64 0, .nils, .int .i64 0,
 .int .i64 0])])))
 (.leaf
 (Conf.mk
 (SFrm.mk 46 none none
 [Item.code (cAt Tryz.prog 46 [1, 1, 1, 0]), Item.code (cAt Tryz.prog 46 [1, 1, 1, 1])]
 (mkJ 0 [(2, .ptr 0 0), (3, .ptr 1 0), (4, .ptr 2 0)] 0 132))
 []
 [(0,
 OBlk.cells 26
 [.int .i64 e, .int .i64 s, .dat d, .int .i64 st,
 .int .i64 ap]),
 (1,
 OBlk.cells 47
 [.int .i64 mk, .int .i64 mf, .int .i64 mt, .int .i64 mn,
 .int .i64 mv, .int .i64 me, .dat mb, .dat ml]),
 (2,
 OBlk.cells 26
 [.int .i64 0, .int .i64 0, .nils, .int .i64 0,
 .int .i64 0])]))))))) := by kernel_rfl

theorem smg_in : exec Tryz.prog ctOR2 600 (entry Tryz.prog 41 [.agg [.int .i64 mk, .int .i64 mf, .int .i64 mt, .int .i64 mn, .int .i64 mv, .int .i64 me, .dat mb, .dat ml], .agg [.int .i64 xk, .int .i64 xf, .int .i64 xt, .int .i64 xn, .int .i64 xv, .int .i64 xe, .dat xb, .dat xl]]) =
 Tree.br ((↑(D.len mb) : Int) != (↑(D.len xb) : Int)) (.ret (.lb false))
 (.leaf
 (Conf.mk
 (SFrm.mk 41 none none
 [Item.inLoop (cAt Tryz.prog 41 [1, 1, 0, 1, 0, 0]), Item.inBlock 0, Item.code (cAt Tryz.prog 41 [1, 1, 1])]
 (mkJ 0 [(2, .ptr 0 0), (3, .ptr 1 0), (5, .int .i64 0)] 0 78))
 []
 [(0,
 OBlk.cells 47
 [.int .i64 mk, .int .i64 mf, .int .i64 mt, .int .i64 mn,
 .int .i64 mv, .int .i64 me, .dat mb, .dat ml]),
 (1,
 OBlk.cells 47
 [.int .i64 xk, .int .i64 xf, .int .i64 xt, .int .i64 xn,
 .int .i64 xv, .int .i64 xe, .dat xb, .dat xl])])) := by kernel_rfl

theorem sms_in : exec Tryz.prog ctOR2 600 (entry Tryz.prog 11 [.dat d, .dat k]) =
 Tree.br ((↑(D.len d) : Int) != (↑(D.len k) : Int)) (.ret (.lb false))
 (.leaf
 (Conf.mk
 (SFrm.mk 11 none none
 [Item.inLoop (cAt Tryz.prog 11 [1, 1, 0, 1, 0, 0]), Item.inBlock 0, Item.code (cAt Tryz.prog 11 [1, 1, 1])]
 (mkJ 0 [(0, .dat d), (1, .dat k), (5, .int .i64 0)] 0 27))
 [] [])) := by kernel_rfl

theorem cpR_in : exec Tryz.prog ctCpR 600 (entry Tryz.prog 34 [.agg [.int .i64 a1, .int .i64 a2, .int .i64 a3, .int .i64 a4, .int .i64 b1, .int .i64 b2, .int .i64 b3, .int .i64 b4, .int .i64 e, .int .i64 s, .dat d, .int .i64 st, .int .i64 ap, .dat k]]) =
 Tree.all fun hs =>
 .need (D.Is Int d ∧ D.len d ≤ 1048576)
 (.leaf
 (Conf.mk
 (SFrm.mk 34 none none
 [Item.inLoop (cAt Tryz.prog 34 [1, 1, 0, 1, 0, 0]), Item.inBlock 0, Item.code (cAt Tryz.prog 34 [1, 1, 1])]
 (mkJ 0 [(1, .ptr 0 0), (2, .ptr 1 0), (3, .ptr 2 0), (4, .int .i64 0)] 0 32))
 []
 [(0,
 OBlk.cells 29
 [.int .i64 a1, .int .i64 a2, .int .i64 a3, .int .i64 a4,
 .int .i64 b1, .int .i64 b2, .int .i64 b3, .int .i64 b4,
 .int .i64 e, .int .i64 s, .dat d, .int .i64 st, .int .i64 ap,
 .dat k]),
 (1,
 OBlk.cells 29
 [.int .i64 0, .int .i64 0, .int .i64 0, .int .i64 0,
 .int .i64 0, .int .i64 0, .int .i64 0, .int .i64 0,
 .int .i64 0, .int .i64 0, .nils, .int .i64 0, .int .i64 0,
 .nils]),
 (2,
 OBlk.cells 29
 [.int .i64 a1, .int .i64 a2, .int .i64 a3, .int .i64 a4,
 .int .i64 b1, .int .i64 b2, .int .i64 b3, .int .i64 b4,
 .int .i64 e, .int .i64 s, .dat (D.like (hs 6 0) (D.to Int d)),
 .int .i64 st, .int .i64 ap, .nils])])) := by kernel_rfl

theorem cpC_in : exec Tryz.prog ctCpR 600 (Conf.mk (cpC ⟨⟨a1, a2, a3, a4⟩, ⟨b1, b2, b3, b4⟩, ⟨e, s, d, st, ap⟩, k⟩) [] []) =
 Tree.all fun hs =>
 .need (D.Is Int d ∧ D.len d ≤ 1048576)
 (.leaf
 (Conf.mk
 (SFrm.mk 34 none none
 [Item.inLoop (cAt Tryz.prog 34 [1, 1, 0, 1, 0, 0]), Item.inBlock 0, Item.code (cAt Tryz.prog 34 [1, 1, 1])]
 (mkJ 0 [(1, .ptr 0 0), (2, .ptr 1 0), (3, .ptr 2 0), (4, .int .i64 0)] 0 32))
 []
 [(0,
 OBlk.cells 29
 [.int .i64 a1, .int .i64 a2, .int .i64 a3, .int .i64 a4,
 .int .i64 b1, .int .i64 b2, .int .i64 b3, .int .i64 b4,
 .int .i64 e, .int .i64 s, .dat d, .int .i64 st, .int .i64 ap,
 .dat k]),
 (1,
 OBlk.cells 29
 [.int .i64 0, .int .i64 0, .int .i64 0, .int .i64 0,
 .int .i64 0, .int .i64 0, .int .i64 0, .int .i64 0,
 .int .i64 0, .int .i64 0, .nils, .int .i64 0, .int .i64 0,
 .nils]),
 (2,
 OBlk.cells 29
 [.int .i64 a1, .int .i64 a2, .int .i64 a3, .int .i64 a4,
 .int .i64 b1, .int .i64 b2, .int .i64 b3, .int .i64 b4,
 .int .i64 e, .int .i64 s, .dat (D.like (hs 6 0) (D.to Int d)),
 .int .i64 st, .int .i64 ap, .nils])])) := by kernel_rfl

theorem frR_in : exec Tryz.prog ctOR2 600 (entry Tryz.prog 35 [.agg [.int .i64 a1, .int .i64 a2, .int .i64 a3, .int .i64 a4, .int .i64 b1, .int .i64 b2, .int .i64 b3, .int .i64 b4, .int .i64 e, .int .i64 s, .dat d, .int .i64 st, .int .i64 ap, .dat k]]) =
 Tree.br (decide ((↑(D.len k) : Int) > 0))
 (.need
 (0 ≤ IntKind.wrap .i64 ((↑(D.len k) : Int) - 1) ∧
 IntKind.wrap .i64 ((↑(D.len k) : Int) - 1) < (↑(D.len k) : Int) ∧ D.sz k = 5)
 (.need (D.HasCell k (Int.toNat (IntKind.wrap .i64 ((↑(D.len k) : Int) - 1))) 1 (FT.int .i64))
 (.ret (.int .i64 (D.getInt k (Int.toNat (IntKind.wrap .i64 ((↑(D.len k) : Int) - 1))) 1)))))
 (.ret (.int .i64 ap)) := by kernel_rfl

end
end Go.Proofs.YtllmgnhjljmihaaGreat
end
section
open Go Go.Proofs Sx
namespace Go.Proofs.YtllmgnhjljmihaaGreat
set_option maxRecDepth 100000
set_option maxHeartbeats 0
noncomputable def ctRA : Ctrs := [(31, ctrOf (rdRl.one.sp spCkRl)), (33, ctrOf (rdNone.sp spMost)), (32, ctrOf ((rdCy.two rdD).sp spCyCk)), (34, ctrOf (rdRl.one.sp spCpRl)), (35, ctrOf (rdRl.one.sp spFrtR)), (36, ctrOf ((rdSrc.two rdInt).sp spOffer)), (46, ctrOf ((rdSrc.two rdMsg).sp spLearn)), (37, ctrOf (rdCy.one.sp spCpC)), (47, ctrOf ((rdD.two rdInt).sp spBeh))]
noncomputable def ctRB : Ctrs := [(31, ctrOf (rdRl.one.sp spCkRl)), (33, ctrOf (rdNone.sp spMost)), (32, ctrOf ((rdCy.two rdD).sp spCyCk)), (35, ctrOf (rdRl.one.sp spFrtR)), (36, ctrOf ((rdSrc.two rdInt).sp spOffer)), (46, ctrOf ((rdSrc.two rdMsg).sp spLearn)), (37, ctrOf (rdCy.one.sp spCpC)), (47, ctrOf ((rdD.two rdInt).sp spBeh))]
section
variable (e s st ap n mk mf mt mn mv me cb cn ct a1 a2 a3 a4 b1 b2 b3 b4 : Int) (d mb ml k cp cw : D)
theorem apR_in : goS Tryz.prog ctRB (fun _ => false) [(34, 1)] 600 (entry Tryz.prog 9 [.agg [.int .i64 a1, .int .i64 a2, .int .i64 a3, .int .i64 a4, .int .i64 b1, .int .i64 b2, .int .i64 b3, .int .i64 b4, .int .i64 e, .int .i64 s, .dat d, .int .i64 st, .int .i64 ap, .dat k], .agg [.int .i64 cb, .int .i64 cn, .int .i64 ct, .dat cp, .dat cw]]) =
 Tree.need (RlD.Ok (RlD.mk (Tgt.mk a1 a2 a3 a4) (Tgt.mk b1 b2 b3 b4) (SrcD.mk e s d st ap) k))
 (.br (ckRl (RlD.rl (RlD.mk (Tgt.mk a1 a2 a3 a4) (Tgt.mk b1 b2 b3 b4) (SrcD.mk e s d st ap) k)) != 0)
 (.ret
 (SV.tup
 [.agg
 [.int .i64 0, .int .i64 0, .int .i64 0, .int .i64 0,
 .int .i64 0, .int .i64 0, .int .i64 0, .int .i64 0,
 .int .i64 0, .int .i64 0, .nils, .int .i64 0, .int .i64 0, .nils],
 .nils,
 .int .i64
 (ckRl (RlD.rl (RlD.mk (Tgt.mk a1 a2 a3 a4) (Tgt.mk b1 b2 b3 b4) (SrcD.mk e s d st ap) k)))]))
 (.all fun hs =>
 .need
 (CyD.Ok (CyD.mk cb cn ct cp cw) ∧ D.Is Int (D.like (hs 1 0) most) ∧ D.len (D.like (hs 1 0) most) ≤ 1048576)
 (.br (cyErr (CyD.cy (CyD.mk cb cn ct cp cw)) (D.to Int (D.like (hs 1 0) most)) != 0)
 (.ret
 (SV.tup
 [.agg
 [.int .i64 0, .int .i64 0, .int .i64 0, .int .i64 0,
 .int .i64 0, .int .i64 0, .int .i64 0, .int .i64 0,
 .int .i64 0, .int .i64 0, .nils, .int .i64 0, .int .i64 0,
 .nils],
 .nils,
 .int .i64 (cyErr (CyD.cy (CyD.mk cb cn ct cp cw)) (D.to Int (D.like (hs 1 0) most)))]))
 (.br (decide (cn ≤ a4))
 (.ret
 (SV.tup
 [.agg
 [.int .i64 0, .int .i64 0, .int .i64 0, .int .i64 0,
 .int .i64 0, .int .i64 0, .int .i64 0, .int .i64 0,
 .int .i64 0, .int .i64 0, .nils, .int .i64 0, .int .i64 0,
 .nils],
 .nils, .int .i64 8]))
 (.br (decide (cb > a4))
 (.ret
 (SV.tup
 [.agg
 [.int .i64 0, .int .i64 0, .int .i64 0, .int .i64 0,
 .int .i64 0, .int .i64 0, .int .i64 0, .int .i64 0,
 .int .i64 0, .int .i64 0, .nils, .int .i64 0, .int .i64 0,
 .nils],
 .nils, .int .i64 15]))
 (.leaf
 (Conf.mk
 (SFrm.mk 34 none none [Item.code (cAt Tryz.prog 34 [0]), Item.code (cAt Tryz.prog 34 [1])]
 (mkJ 1
 [(0,
 .agg
 [.int .i64 a1, .int .i64 a2, .int .i64 a3, .int .i64 a4,
 .int .i64 b1, .int .i64 b2, .int .i64 b3,
 .int .i64 b4, .int .i64 e, .int .i64 s, .dat d,
 .int .i64 st, .int .i64 ap, .dat k])]
 0 32))
 [SFrm.mk 9 (some (opsAt Tryz.prog 9 [1, 1, 1, 1, 1, 0], [2, 3])) (some 41)
 [Item.code (cAt Tryz.prog 9 [1, 1, 1, 1, 1, 1])]
 (mkJ 0 [(2, .ptr 0 0), (3, .ptr 1 0), (4, .ptr 2 0)] 0 80)]
 [(0,
 OBlk.cells 29
 [.int .i64 a1, .int .i64 a2, .int .i64 a3, .int .i64 a4,
 .int .i64 b1, .int .i64 b2, .int .i64 b3, .int .i64 b4,
 .int .i64 e, .int .i64 s, .dat d, .int .i64 st,
 .int .i64 ap, .dat k]),
 (1,
 OBlk.cells 32
 [.int .i64 cb, .int .i64 cn, .int .i64 ct, .dat cp, .dat cw]),
 (2,
 OBlk.cells 29
 [.int .i64 0, .int .i64 0, .int .i64 0, .int .i64 0,
 .int .i64 0, .int .i64 0, .int .i64 0, .int .i64 0,
 .int .i64 0, .int .i64 0, .nils, .int .i64 0,
 .int .i64 0, .nils])]))))))) := by kernel_rfl

theorem nxR_in : exec Tryz.prog ctRA 600 (entry Tryz.prog 15 [.agg [.int .i64 a1, .int .i64 a2, .int .i64 a3, .int .i64 a4, .int .i64 b1, .int .i64 b2, .int .i64 b3, .int .i64 b4, .int .i64 e, .int .i64 s, .dat d, .int .i64 st, .int .i64 ap, .dat k]]) =
 Tree.need (RlD.Ok (RlD.mk (Tgt.mk a1 a2 a3 a4) (Tgt.mk b1 b2 b3 b4) (SrcD.mk e s d st ap) k))
 (.br (ckRl (RlD.rl (RlD.mk (Tgt.mk a1 a2 a3 a4) (Tgt.mk b1 b2 b3 b4) (SrcD.mk e s d st ap) k)) != 0)
 (.ret
 (SV.tup
 [.agg [.int .i64 0, .int .i64 0, .int .i64 0, .nils, .nils], .lb false]))
 (.leaf
 (Conf.mk
 (SFrm.mk 15 none none
 [Item.inLoop (cAt Tryz.prog 15 [1, 1, 0, 1, 0, 0]), Item.inBlock 0, Item.code (cAt Tryz.prog 15 [1, 1, 1])]
 (mkJ 0 [(1, .ptr 0 0), (2, .ptr 1 0), (4, .int .i64 0)] 0 33))
 []
 [(0,
 OBlk.cells 29
 [.int .i64 a1, .int .i64 a2, .int .i64 a3, .int .i64 a4,
 .int .i64 b1, .int .i64 b2, .int .i64 b3, .int .i64 b4,
 .int .i64 e, .int .i64 s, .dat d, .int .i64 st, .int .i64 ap,
 .dat k]),
 (1, OBlk.cells 32 [.int .i64 0, .int .i64 0, .int .i64 0, .nils, .nils])]))) := by kernel_rfl

theorem lnR_in : 
 let z1 := (Prod.fst (learn (SrcD.src (SrcD.mk e s d st ap)) (MsgD.msg (MsgD.mk mk mf mt mn mv me mb ml))))
 let z2 := (RlD.mk (Tgt.mk a1 a2 a3 a4) (Tgt.mk b1 b2 b3 b4) (SrcD.mk e s d st ap) k)
 exec Tryz.prog ctRA 600 (entry Tryz.prog 13 [.agg [.int .i64 a1, .int .i64 a2, .int .i64 a3, .int .i64 a4, .int .i64 b1, .int .i64 b2, .int .i64 b3, .int .i64 b4, .int .i64 e, .int .i64 s, .dat d, .int .i64 st, .int .i64 ap, .dat k], .agg [.int .i64 mk, .int .i64 mf, .int .i64 mt, .int .i64 mn, .int .i64 mv, .int .i64 me, .dat mb, .dat ml]]) =
 Tree.need (RlD.Ok z2) (.all fun hs => .need (RlD.Ok z2) (.br (ckRl (RlD.rl z2) != 0) (.ret (SV.tup [.agg [.int .i64 a1, .int .i64 a2, .int .i64 a3, .int .i64 a4, .int .i64 b1, .int .i64 b2, .int .i64 b3, .int .i64 b4, .int .i64 e, .int .i64 s, .dat
 (D.like (hs 0 0) (D.to Int d)), .int .i64 st, .int .i64 ap, .dat (D.like (hs 0 1) (D.to Cy k))], .nils])) (.need (D.Is Int d) (.all fun hs => .all fun hs_1 => .need (D.Is Cy k ∧ D.len k ≤ 1048576 ∧ ∀ (c : Cy), List.Mem c
 (D.to Cy k) → CyOk c) (.all fun hs_2 => .br (decide (Src.epoch z1 > e)) (.all fun hs_3 => .ret (SV.tup [.agg [.int .i64 (Src.epoch z1), .int .i64 a2, .int .i64 a3, .int .i64 a4, .int .i64 (Src.epoch z1), .int .i64 b2, .int .i64
 (Src.stored z1), .int .i64 (Src.applied z1), .int .i64 (Src.epoch z1), .int .i64 (Src.site z1), .dat (D.like (hs 0 0) (Src.offered z1)), .int .i64 (Src.stored z1), .int .i64 (Src.applied z1), .nils], .dat
 (D.like (hs 0 1) (Prod.snd (learn (SrcD.src (SrcD.mk e s d st ap)) (MsgD.msg (MsgD.mk mk mf mt mn mv me mb ml)))))])) (.ret (SV.tup [.agg [.int .i64 a1, .int .i64 a2, .int .i64 a3, .int .i64 a4, .int .i64 b1, .int .i64 b2, .int .i64
 (Src.stored z1), .int .i64 (Src.applied z1), .int .i64 (Src.epoch z1), .int .i64 (Src.site z1), .dat (D.like (hs 0 0) (Src.offered z1)), .int .i64 (Src.stored z1), .int .i64 (Src.applied z1), .dat (D.like
 (hs_2 0 0) (behindL (D.to Cy k) (Src.applied z1)))], .dat (D.like (hs 0 1) (Prod.snd (learn (SrcD.src (SrcD.mk e s d st ap)) (MsgD.msg (MsgD.mk mk mf mt mn mv me mb ml)))))]))))))) := by
 intros; kernel_rfl

end
end Go.Proofs.YtllmgnhjljmihaaGreat
end
section
open Go Go.Proofs Sx
namespace Go.Proofs.YtllmgnhjljmihaaGreat
set_option maxRecDepth 100000
set_option maxHeartbeats 0
noncomputable def nxRL (x : RlD) (j : Int) : Conf := Conf.mk (SFrm.mk 15 none none [Item.inLoop (cAt Tryz.prog 15 [1, 1, 0, 1, 0, 0]), Item.inBlock 0, Item.code (cAt Tryz.prog 15 [1, 1, 1])] (mkJ 0 [(1, .ptr 0 0), (2, .ptr 1 0), (4, .int .i64 j)] 0 33)) []
 [(0, OBlk.cells 29 (rlCs x)), (1, OBlk.cells 32 [.int .i64 0, .int .i64 0, .int .i64 0, .nils, .nils])]
noncomputable def rlO (x : RlD) (o : D) (K : SV) : List SV := [.int .i64 x.near.epoch, .int .i64 x.near.site, .int .i64 x.near.stored, .int .i64 x.near.applied, .int .i64 x.far.epoch, .int .i64 x.far.site, .int .i64 x.far.stored, .int .i64 x.far.applied, .int .i64 x.src.e, .int .i64 x.src.s, .dat o, .int .i64 x.src.st, .int .i64 x.src.ap, K]
noncomputable def rlZ0 : List SV := [.int .i64 0, .int .i64 0, .int .i64 0, .int .i64 0, .int .i64 0, .int .i64 0, .int .i64 0, .int .i64 0, .int .i64 0, .int .i64 0, .nils, .int .i64 0, .int .i64 0, .nils]
noncomputable def apB (x : RlD) (o q : D) (cb cn ct : Int) (cp cw : D) : Conf := Conf.mk (SFrm.mk 9 (some (opsAt Tryz.prog 9 [1, 1, 1, 1, 1, 0], [2, 3])) none [Item.code (cAt Tryz.prog 9 [1, 1, 1, 1, 1, 1])] (putS (mkJ 0 [(2, .ptr 0 0), (3, .ptr 1 0), (4, .ptr 2 0)] 0 80) (some 41) (.agg (rlO x o (.vec 503))))) []
 [(503, .arr 32 q), (0, OBlk.cells 29 (rlCs x)), (1, OBlk.cells 32 [.int .i64 cb, .int .i64 cn, .int .i64 ct, .dat cp, .dat cw]), (2, OBlk.cells 29 rlZ0)]
section
variable (e s st ap n cb cn ct a1 a2 a3 a4 b1 b2 b3 b4 j : Int) (d o q k cp cw : D)
theorem nxR_go : exec Tryz.prog ctRA 600 (unroll (nxRL ⟨⟨a1, a2, a3, a4⟩, ⟨b1, b2, b3, b4⟩, ⟨e, s, d, st, ap⟩, k⟩ j)) =
 Tree.br (decide (j < (↑(D.len k) : Int)))
 (.all fun hs =>
 .need (0 ≤ j ∧ j < (↑(D.len k) : Int) ∧ D.sz k = 5)
 (.need (D.HasCell k (Int.toNat j) 1 (FT.int .i64))
 (.br (decide (D.getInt k (Int.toNat j) 1 > st))
 (.need (0 ≤ j ∧ j < (↑(D.len k) : Int) ∧ D.sz k = 5)
 (.need
 (D.HasCells k (Int.toNat j) 0
 [FT.int .i64, FT.int .i64, FT.int .i64, FT.slc, FT.slc])
 (.need
 (CyD.Ok
 (CyD.mk (D.getInt k (Int.toNat j) 0) (D.getInt k (Int.toNat j) 1) (D.getInt k (Int.toNat j) 2)
 (D.cell k (Int.toNat j) 3) (D.cell k (Int.toNat j) 4)))
 (.all fun hs =>
 .ret
 (SV.tup
 [.agg
 [.int .i64 (D.getInt k (Int.toNat j) 0),
 .int .i64 (D.getInt k (Int.toNat j) 1),
 .int .i64 (D.getInt k (Int.toNat j) 2),
 .dat (D.like (hs 0 0) (D.to Int (D.cell k (Int.toNat j) 3))),
 .dat (D.like (hs 0 1) (D.to Wt (D.cell k (Int.toNat j) 4)))],
 .lb true])))))
 (.leaf
 (Conf.mk
 (SFrm.mk 15 none none
 [Item.inLoop (cAt Tryz.prog 15 [1, 1, 0, 1, 0, 0]), Item.inBlock 0,
 Item.code (cAt Tryz.prog 15 [1, 1, 1])]
 (mkJ 0 [(1, .ptr 0 0), (2, .ptr 1 0), (4, .int .i64 (IntKind.wrap .i64 (j + 1)))] 0
 33))
 []
 [(0,
 OBlk.cells 29
 [.int .i64 a1, .int .i64 a2, .int .i64 a3, .int .i64 a4,
 .int .i64 b1, .int .i64 b2, .int .i64 b3, .int .i64 b4,
 .int .i64 e, .int .i64 s, .dat d, .int .i64 st,
 .int .i64 ap, .dat k]),
 (1,
 OBlk.cells 32
 [.int .i64 0, .int .i64 0, .int .i64 0, .nils, .nils])])))))
 (.ret
 (SV.tup [.agg [.int .i64 0, .int .i64 0, .int .i64 0, .nils, .nils], .lb false])) := by kernel_rfl

theorem apB_go : exec Tryz.prog ctRB 600 (apB ⟨⟨a1, a2, a3, a4⟩, ⟨b1, b2, b3, b4⟩, ⟨e, s, d, st, ap⟩, k⟩ o q cb cn ct cp cw) =
 Tree.all fun hs =>
 .all fun hs =>
 .need (D.Is Cy k ∧ D.len k ≤ 1048576)
 (.br (decide (cb > List.getLastD (List.map Cy.number (D.to Cy k)) ap))
 (.ret
 (SV.tup
 [.agg
 [.int .i64 a1, .int .i64 a2, .int .i64 cn, .int .i64 cn,
 .int .i64 b1, .int .i64 b2, .int .i64 b3, .int .i64 b4,
 .int .i64 e, .int .i64 s, .dat o, .int .i64 st, .int .i64 ap,
 .dat q],
 .nils, .int .i64 0]))
 (.need (D.Is Int d)
 (.all fun hs =>
 .br (Prod.snd (Prod.snd (offer (SrcD.src (SrcD.mk e s d st ap)) cn)) != 0)
 (.ret
 (SV.tup
 [.agg
 [.int .i64 0, .int .i64 0, .int .i64 0, .int .i64 0,
 .int .i64 0, .int .i64 0, .int .i64 0, .int .i64 0,
 .int .i64 0, .int .i64 0, .nils, .int .i64 0, .int .i64 0,
 .nils],
 .nils, .int .i64 (Prod.snd (Prod.snd (offer (SrcD.src (SrcD.mk e s d st ap)) cn)))]))
 (.all fun hs_1 =>
 .need (CyD.Ok (CyD.mk cb cn ct cp cw))
 (.need
 (D.sz q = 5 ∧
 D.Fits
 (D.slc (D.hd (hs_1 4 0)) 5
 [[D.int .i64 cb, D.int .i64 cn, D.int .i64 ct,
 D.like (hs_1 3 0) (D.to Int cp), D.like (hs_1 3 1) (D.to Wt cw)]])
 5 ∧
 (D.len q +
 D.len
 (D.slc (D.hd (hs_1 4 0)) 5
 [[D.int .i64 cb, D.int .i64 cn, D.int .i64 ct,
 D.like (hs_1 3 0) (D.to Int cp), D.like (hs_1 3 1) (D.to Wt cw)]])) *
 72 ≤
 140737488355328 ∧
 D.len q +
 D.len
 (D.slc (D.hd (hs_1 4 0)) 5
 [[D.int .i64 cb, D.int .i64 cn, D.int .i64 ct,
 D.like (hs_1 3 0) (D.to Int cp), D.like (hs_1 3 1) (D.to Wt cw)]]) ≤
 9223372036854775807)
 (.ret
 (SV.tup
 [.agg
 [.int .i64 a1, .int .i64 a2, .int .i64 cn, .int .i64 cn,
 .int .i64 b1, .int .i64 b2, .int .i64 b3,
 .int .i64 b4,
 .int .i64 (Src.epoch (Prod.fst (offer (SrcD.src (SrcD.mk e s d st ap)) cn))),
 .int .i64 (Src.site (Prod.fst (offer (SrcD.src (SrcD.mk e s d st ap)) cn))),
 .dat
 (D.like (hs 0 0) (Src.offered (Prod.fst (offer (SrcD.src (SrcD.mk e s d st ap)) cn)))),
 .int .i64 (Src.stored (Prod.fst (offer (SrcD.src (SrcD.mk e s d st ap)) cn))),
 .int .i64 (Src.applied (Prod.fst (offer (SrcD.src (SrcD.mk e s d st ap)) cn))),
 .dat
 (D.slc (D.hd (hs_1 5 0)) 5
 (List.append (D.rows q)
 (D.rows
 (D.slc (D.hd (hs_1 4 0)) 5
 [[D.int .i64 cb, D.int .i64 cn, D.int .i64 ct,
 D.like (hs_1 3 0) (D.to Int cp), D.like (hs_1 3 1) (D.to Wt cw)]]))))],
 .dat (D.like (hs 0 1) (Prod.fst (Prod.snd (offer (SrcD.src (SrcD.mk e s d st ap)) cn)))),
 .int .i64 0]))))))) := by kernel_rfl

end
end Go.Proofs.YtllmgnhjljmihaaGreat
end
section
open Go Go.Proofs Sx
namespace Go.Proofs.YtllmgnhjljmihaaGreat
set_option maxRecDepth 100000
set_option maxHeartbeats 0
def lrB (P : Program) (e s st ap mk mf mt mn mv me : Int) (d mb ml : D) : Conf := Conf.mk (SFrm.mk 46 none none [Item.code (cAt P 46 [1, 1, 1, 0]), Item.code (cAt P 46 [1, 1, 1, 1])]
 (mkJ 0 [(2, .ptr 0 0), (3, .ptr 1 0), (4, .ptr 2 0)] 0 132)) []
 [(0, OBlk.cells 26 [.int .i64 e, .int .i64 s, .dat d, .int .i64 st, .int .i64 ap]), (1, OBlk.cells 47 [.int .i64 mk, .int .i64 mf, .int .i64 mt, .int .i64 mn, .int .i64 mv, .int .i64 me, .dat mb, .dat ml]), (2, OBlk.cells 26 [.int .i64 0, .int .i64 0, .nils, .int .i64 0, .int .i64 0])]
def lrQ (P : Program) (e s st ap mk mf mt mn mv me st' : Int) (d mb ml r : D) (j : Int) : Conf := Conf.mk (SFrm.mk 46 none none
 [Item.inLoop (cAt P 46 [1, 1, 1, 1, 1, 1, 0, 1, 0, 1, 1, 0, 0]), Item.inBlock 0, Item.code (cAt P 46 [1, 1, 1, 1, 1, 1, 1])]
 (mkJ 0 [(2, .ptr 0 0), (3, .ptr 1 0), (4, .ptr 2 0), (6, .ptr 3 0), (7, .int .i64 j)] 0 132)) []
 [(0, OBlk.cells 26 [.int .i64 e, .int .i64 s, .dat d, .int .i64 st, .int .i64 ap]), (1, OBlk.cells 47 [.int .i64 mk, .int .i64 mf, .int .i64 mt, .int .i64 mn, .int .i64 mv, .int .i64 me, .dat mb, .dat ml]), (2, OBlk.cells 26 [.int .i64 0, .int .i64 0, .nils, .int .i64 0, .int .i64 0]), (3, OBlk.cells 26 [.int .i64 e, .int .i64 s, .vec 4, .int .i64 st', .int .i64 mv]), (4, .arr 3 r)]
def smgL (P : Program) (mk mf mt mn mv me xk xf xt xn xv xe : Int) (mb ml xb xl : D) (j : Int) : Conf := Conf.mk (SFrm.mk 41 none none
 [Item.inLoop (cAt P 41 [1, 1, 0, 1, 0, 0]), Item.inBlock 0, Item.code (cAt P 41 [1, 1, 1])]
 (mkJ 0 [(2, .ptr 0 0), (3, .ptr 1 0), (5, .int .i64 j)] 0 78))
 [] [(0, .cells 47 [.int .i64 mk, .int .i64 mf, .int .i64 mt, .int .i64 mn, .int .i64 mv, .int .i64 me, .dat mb, .dat ml]), (1, .cells 47 [.int .i64 xk, .int .i64 xf, .int .i64 xt, .int .i64 xn, .int .i64 xv, .int .i64 xe, .dat xb, .dat xl])]
def smsL (P : Program) (d d' : D) (j : Int) : Conf := Conf.mk (SFrm.mk 11 none none
 [Item.inLoop (cAt P 11 [1, 1, 0, 1, 0, 0]), Item.inBlock 0, Item.code (cAt P 11 [1, 1, 1])]
 (mkJ 0 [(0, .dat d), (1, .dat d'), (5, .int .i64 j)] 0 27)) [] []
def cpRL (P : Program) (a1 a2 a3 a4 b1 b2 b3 b4 e s st ap : Int) (d o k r : D) (j : Int) : Conf := Conf.mk (SFrm.mk 34 none none
 [Item.inLoop (cAt P 34 [1, 1, 0, 1, 0, 0]), Item.inBlock 0, Item.code (cAt P 34 [1, 1, 1])]
 (mkJ 0 [(1, .ptr 0 0), (2, .ptr 1 0), (3, .ptr 2 0), (4, .int .i64 j)] 0 32)) []
 [(0, OBlk.cells 29 [.int .i64 a1, .int .i64 a2, .int .i64 a3, .int .i64 a4, .int .i64 b1, .int .i64 b2, .int .i64 b3, .int .i64 b4, .int .i64 e, .int .i64 s, .dat d, .int .i64 st, .int .i64 ap, .dat k]),
 (1, OBlk.cells 29 [.int .i64 0, .int .i64 0, .int .i64 0, .int .i64 0, .int .i64 0, .int .i64 0, .int .i64 0, .int .i64 0, .int .i64 0, .int .i64 0, .nils, .int .i64 0, .int .i64 0, .nils]),
 (2, OBlk.cells 29 [.int .i64 a1, .int .i64 a2, .int .i64 a3, .int .i64 a4, .int .i64 b1, .int .i64 b2, .int .i64 b3, .int .i64 b4, .int .i64 e, .int .i64 s, .dat o, .int .i64 st, .int .i64 ap, .vec 3]), (3, .arr 32 r)]
def spSameBS (x : D × D) : SpecR := .scalar [x.1.Is Byte ∧ x.2.Is Byte ∧ x.1.to Byte = [] ∧ x.2.to Byte = []] (.lb true)
noncomputable def ctBs : Ctrs := [(75, ctrOf ((rdD.two rdD).sp spSameBS))]
def smbL (P : Program) (d d' : D) (j : Int) : Conf := Conf.mk (SFrm.mk 75 none none
 [Item.inLoop (cAt P 75 [1, 1, 0, 1, 0, 0]), Item.inBlock 0, Item.code (cAt P 75 [1, 1, 1])]
 (mkJ 0 [(0, .dat d), (1, .dat d'), (5, .int .i64 j)] 0 26)) [] []
noncomputable def ctMs : Ctrs := [(41, ctrOf ((rdMsg.two rdMsg).sp spSameMS))]
section
variable (e s st ap n mk mf mt mn mv me xk xf xt xn xv xe a1 a2 a3 a4 b1 b2 b3 b4 st' j : Int) (d d' mb ml xb xl k o r : D)
theorem lrB_go : 
 let z1 : Tree := (.all fun hs => .leaf (Conf.mk (SFrm.mk 46 none none [Item.inLoop (cAt Tryz.prog 46 [1, 1, 1, 1, 1, 1, 0, 1, 0, 1, 1, 0, 0]), Item.inBlock 0, Item.code (cAt Tryz.prog 46 [1, 1, 1, 1, 1, 1, 1])] (mkJ 0 [(2, .ptr 0 0), (3, .ptr 1 0), (4, .ptr 2 0), (6, .ptr 3 0), (7, .int .i64 0)] 0 132)) [] [(0, OBlk.cells 26 [.int .i64 e, .int .i64 s, .dat d, .int .i64 st, .int .i64 ap]), (1, OBlk.cells 47 [.int .i64 mk, .int .i64 mf, .int .i64 mt, .int .i64 mn, .int .i64 mv, .int .i64 me, .dat mb, .dat ml]), (2, OBlk.cells 26 [.int .i64 0, .int .i64 0, .nils, .int .i64 0, .int .i64 0]), (3, OBlk.cells 26 [.int .i64 e, .int .i64 s, .nils, .int .i64 (if mv > st then mv else st), .int .i64 mv])]))
 exec Tryz.prog ctOR2 600 (lrB Tryz.prog e s st ap mk mf mt mn mv me d mb ml) =
 Tree.need (D.Fits d 1 ∧ D.len d * 8 ≤ 140737488355328 ∧ D.len d ≤ 9223372036854775807) (.all fun hs => .br (decide (me > e)) (.all fun hs => .ret (SV.tup [.agg [.int .i64 me, .int .i64 s, .nils, .int .i64 ap, .int .i64 ap], .nils]))
 (.br (decide (mk = 9)) (.need (D.Is Int d ∧ D.len d ≤ 1048576) (.br (List.contains (D.to Int d) mv) (.br (decide (mv ≥ st)) (.all fun hs_1 => .need (D.Is Int d) (.ret (SV.tup [.agg [.int .i64 e, .int .i64 s, .dat
 (D.slc (D.hd (hs 0 0)) 1 (D.rows d)), .int .i64 mv, .int .i64 ap], .dat (D.slc (D.hd (hs_1 5 0)) 8 [[D.int .i64 10, D.int .i64 0, D.int .i64 s, D.int .i64 mv, D.int .i64 0, D.int .i64 e, D.slc none 0 [], D.slc none 0 []]])])))
 (.br (decide (mk = 11)) (.need (D.Is Int d ∧ D.len d ≤ 1048576) (.br (List.contains (D.to Int d) mv) z1 (.ret (SV.tup [.agg [.int .i64 e, .int .i64 s, .dat (D.slc (D.hd (hs 0 0)) 1 (D.rows d)), .int .i64 st, .int .i64 ap], .nils]))))
 (.ret (SV.tup [.agg [.int .i64 e, .int .i64 s, .dat (D.slc (D.hd (hs 0 0)) 1 (D.rows d)), .int .i64 st, .int .i64 ap], .nils])))) (.br (decide (mk = 11)) (.need (D.Is Int d ∧ D.len d ≤ 1048576) (.br (List.contains
 (D.to Int d) mv) z1 (.ret (SV.tup [.agg [.int .i64 e, .int .i64 s, .dat (D.slc (D.hd (hs 0 0)) 1 (D.rows d)), .int .i64 st, .int .i64 ap], .nils])))) (.ret (SV.tup [.agg [.int .i64 e, .int .i64 s, .dat
 (D.slc (D.hd (hs 0 0)) 1 (D.rows d)), .int .i64 st, .int .i64 ap], .nils]))))) (.br (decide (mk = 11)) (.need (D.Is Int d ∧ D.len d ≤ 1048576) (.br (List.contains (D.to Int d) mv) z1 (.ret (SV.tup [.agg [.int .i64 e, .int .i64 s, .dat
 (D.slc (D.hd (hs 0 0)) 1 (D.rows d)), .int .i64 st, .int .i64 ap], .nils])))) (.ret (SV.tup [.agg [.int .i64 e, .int .i64 s, .dat (D.slc (D.hd (hs 0 0)) 1 (D.rows d)), .int .i64 st, .int .i64 ap], .nils]))))) := by
 intros; kernel_rfl

theorem lrQ_go : exec Tryz.prog ctOR2 600 (unroll (lrQ Tryz.prog e s st ap mk mf mt mn mv me st' d mb ml r j)) =
 Tree.br (decide (j < (↑(D.len d) : Int)))
 (.all fun hs =>
 .need (0 ≤ j ∧ j < (↑(D.len d) : Int) ∧ D.sz d = 1)
 (.need (D.HasCell d (Int.toNat j) 0 (FT.int .i64))
 (.br (decide (D.getInt d (Int.toNat j) 0 > mv))
 (.all fun hs =>
 .need (0 ≤ j ∧ j < (↑(D.len d) : Int) ∧ D.sz d = 1)
 (.need (D.HasCell d (Int.toNat j) 0 (FT.int .i64))
 (.need
 (D.sz r = 1 ∧
 D.Fits (D.slc (D.hd (hs 7 0)) 1 [[D.int .i64 (D.getInt d (Int.toNat j) 0)]]) 1 ∧
 (D.len r + D.len (D.slc (D.hd (hs 7 0)) 1 [[D.int .i64 (D.getInt d (Int.toNat j) 0)]])) *
 8 ≤
 140737488355328 ∧
 D.len r + D.len (D.slc (D.hd (hs 7 0)) 1 [[D.int .i64 (D.getInt d (Int.toNat j) 0)]]) ≤
 9223372036854775807)
 (.leaf
 (Conf.mk
 (SFrm.mk 46 none none
 [Item.inLoop (cAt Tryz.prog 46 [1, 1, 1, 1, 1, 1, 0, 1, 0, 1, 1, 0, 0]), Item.inBlock 0,
 Item.code (cAt Tryz.prog 46 [1, 1, 1, 1, 1, 1, 1])]
 (mkJ 0
 [(2, .ptr 0 0), (3, .ptr 1 0), (4, .ptr 2 0), (6, .ptr 3 0),
 (7, .int .i64 (IntKind.wrap .i64 (j + 1)))]
 0 132))
 []
 [(0,
 OBlk.cells 26
 [.int .i64 e, .int .i64 s, .dat d, .int .i64 st,
 .int .i64 ap]),
 (1,
 OBlk.cells 47
 [.int .i64 mk, .int .i64 mf, .int .i64 mt, .int .i64 mn,
 .int .i64 mv, .int .i64 me, .dat mb, .dat ml]),
 (2,
 OBlk.cells 26
 [.int .i64 0, .int .i64 0, .nils, .int .i64 0,
 .int .i64 0]),
 (3,
 OBlk.cells 26
 [.int .i64 e, .int .i64 s, .vec 4, .int .i64 st',
 .int .i64 mv]),
 (4,
 OBlk.arr 3
 (D.slc (D.hd (hs 8 0)) 1
 (List.append (D.rows r)
 (D.rows
 (D.slc (D.hd (hs 7 0)) 1 [[D.int .i64 (D.getInt d (Int.toNat j) 0)]])))))])))))
 (.leaf
 (Conf.mk
 (SFrm.mk 46 none none
 [Item.inLoop (cAt Tryz.prog 46 [1, 1, 1, 1, 1, 1, 0, 1, 0, 1, 1, 0, 0]), Item.inBlock 0,
 Item.code (cAt Tryz.prog 46 [1, 1, 1, 1, 1, 1, 1])]
 (mkJ 0
 [(2, .ptr 0 0), (3, .ptr 1 0), (4, .ptr 2 0), (6, .ptr 3 0),
 (7, .int .i64 (IntKind.wrap .i64 (j + 1)))]
 0 132))
 []
 [(0,
 OBlk.cells 26
 [.int .i64 e, .int .i64 s, .dat d, .int .i64 st,
 .int .i64 ap]),
 (1,
 OBlk.cells 47
 [.int .i64 mk, .int .i64 mf, .int .i64 mt, .int .i64 mn,
 .int .i64 mv, .int .i64 me, .dat mb, .dat ml]),
 (2,
 OBlk.cells 26
 [.int .i64 0, .int .i64 0, .nils, .int .i64 0, .int .i64 0]),
 (3,
 OBlk.cells 26
 [.int .i64 e, .int .i64 s, .vec 4, .int .i64 st',
 .int .i64 mv]),
 (4, OBlk.arr 3 r)])))))
 (.ret
 (SV.tup
 [.agg [.int .i64 e, .int .i64 s, .dat r, .int .i64 st', .int .i64 mv],
 .nils])) := by kernel_rfl

theorem smb_in : exec Tryz.prog [] 600 (entry Tryz.prog 75 [.dat d, .dat d']) =
 Tree.br ((↑(D.len d) : Int) != (↑(D.len d') : Int)) (.ret (.lb false))
 (.leaf
 (Conf.mk
 (SFrm.mk 75 none none
 [Item.inLoop (cAt Tryz.prog 75 [1, 1, 0, 1, 0, 0]), Item.inBlock 0, Item.code (cAt Tryz.prog 75 [1, 1, 1])]
 (mkJ 0 [(0, .dat d), (1, .dat d'), (5, .int .i64 0)] 0 26))
 [] [])) := by kernel_rfl

theorem smb_go : exec Tryz.prog [] 600 (unroll (smbL Tryz.prog d d' j)) =
 Tree.br (decide (j < (↑(D.len d) : Int)))
 (.all fun hs =>
 .need (0 ≤ j ∧ j < (↑(D.len d) : Int) ∧ D.sz d = 1)
 (.need (D.HasCell d (Int.toNat j) 0 (FT.int .u8))
 (.need (0 ≤ j ∧ j < (↑(D.len d') : Int) ∧ D.sz d' = 1)
 (.need (D.HasCell d' (Int.toNat j) 0 (FT.int .u8))
 (.br (D.getInt d (Int.toNat j) 0 != D.getInt d' (Int.toNat j) 0) (.ret (.lb false))
 (.leaf
 (Conf.mk
 (SFrm.mk 75 none none
 [Item.inLoop (cAt Tryz.prog 75 [1, 1, 0, 1, 0, 0]), Item.inBlock 0,
 Item.code (cAt Tryz.prog 75 [1, 1, 1])]
 (mkJ 0 [(0, .dat d), (1, .dat d'), (5, .int .i64 (IntKind.wrap .i64 (j + 1)))] 0
 26))
 [] [])))))))
 (.ret (.lb true)) := by kernel_rfl

theorem smg_go : exec Tryz.prog ctBs 600 (unroll (smgL Tryz.prog mk mf mt mn mv me xk xf xt xn xv xe mb ml xb xl j)) =
 Tree.br (decide (j < (↑(D.len mb) : Int)))
 (.all fun hs =>
 .need (0 ≤ j ∧ j < (↑(D.len mb) : Int) ∧ D.sz mb = 1)
 (.need (D.HasCell mb (Int.toNat j) 0 (FT.int .i64))
 (.need (0 ≤ j ∧ j < (↑(D.len xb) : Int) ∧ D.sz xb = 1)
 (.need (D.HasCell xb (Int.toNat j) 0 (FT.int .i64))
 (.br (D.getInt mb (Int.toNat j) 0 != D.getInt xb (Int.toNat j) 0) (.ret (.lb false))
 (.leaf
 (Conf.mk
 (SFrm.mk 41 none none
 [Item.inLoop (cAt Tryz.prog 41 [1, 1, 0, 1, 0, 0]), Item.inBlock 0,
 Item.code (cAt Tryz.prog 41 [1, 1, 1])]
 (mkJ 0
 [(2, .ptr 0 0), (3, .ptr 1 0), (5, .int .i64 (IntKind.wrap .i64 (j + 1)))] 0
 78))
 []
 [(0,
 OBlk.cells 47
 [.int .i64 mk, .int .i64 mf, .int .i64 mt, .int .i64 mn,
 .int .i64 mv, .int .i64 me, .dat mb, .dat ml]),
 (1,
 OBlk.cells 47
 [.int .i64 xk, .int .i64 xf, .int .i64 xt, .int .i64 xn,
 .int .i64 xv, .int .i64 xe, .dat xb, .dat xl])])))))))
 (.br (decide (mk = xk))
 (.br (decide (mf = xf))
 (.br (decide (mt = xt))
 (.br (decide (mn = xn))
 (.br (decide (mv = xv))
 (.br (decide (me = xe))
 (.need (D.Is Byte ml ∧ D.Is Byte xl ∧ D.to Byte ml = [] ∧ D.to Byte xl = []) (.ret (.lb true)))
 (.ret (.lb false)))
 (.ret (.lb false)))
 (.ret (.lb false)))
 (.ret (.lb false)))
 (.ret (.lb false)))
 (.ret (.lb false))) := by kernel_rfl

theorem smsq_go : exec Tryz.prog ctMs 600 (unroll (smsL Tryz.prog d d' j)) =
 Tree.br (decide (j < (↑(D.len d) : Int)))
 (.all fun hs =>
 .need (0 ≤ j ∧ j < (↑(D.len d) : Int) ∧ D.sz d = 8)
 (.need
 (D.HasCells d (Int.toNat j) 0
 [FT.int .i64, FT.int .i64, FT.int .i64, FT.int .i64, FT.int .i64,
 FT.int .i64, FT.slc, FT.slc])
 (.need (0 ≤ j ∧ j < (↑(D.len d') : Int) ∧ D.sz d' = 8)
 (.need
 (D.HasCells d' (Int.toNat j) 0
 [FT.int .i64, FT.int .i64, FT.int .i64, FT.int .i64, FT.int .i64,
 FT.int .i64, FT.slc, FT.slc])
 (.need
 (D.Is Int (D.cell d (Int.toNat j) 6) ∧
 D.Is Int (D.cell d' (Int.toNat j) 6) ∧
 D.Is Byte (D.cell d (Int.toNat j) 7) ∧
 D.Is Byte (D.cell d' (Int.toNat j) 7) ∧
 D.to Int (D.cell d (Int.toNat j) 6) = [] ∧
 D.to Byte (D.cell d (Int.toNat j) 7) = [] ∧
 MsgD.msg
 (MsgD.mk (D.getInt d (Int.toNat j) 0) (D.getInt d (Int.toNat j) 1)
 (D.getInt d (Int.toNat j) 2) (D.getInt d (Int.toNat j) 3) (D.getInt d (Int.toNat j) 4)
 (D.getInt d (Int.toNat j) 5) (D.cell d (Int.toNat j) 6) (D.cell d (Int.toNat j) 7)) =
 MsgD.msg
 (MsgD.mk (D.getInt d' (Int.toNat j) 0) (D.getInt d' (Int.toNat j) 1)
 (D.getInt d' (Int.toNat j) 2) (D.getInt d' (Int.toNat j) 3)
 (D.getInt d' (Int.toNat j) 4) (D.getInt d' (Int.toNat j) 5) (D.cell d' (Int.toNat j) 6)
 (D.cell d' (Int.toNat j) 7)))
 (.leaf
 (Conf.mk
 (SFrm.mk 11 none none
 [Item.inLoop (cAt Tryz.prog 11 [1, 1, 0, 1, 0, 0]), Item.inBlock 0,
 Item.code (cAt Tryz.prog 11 [1, 1, 1])]
 (mkJ 0 [(0, .dat d), (1, .dat d'), (5, .int .i64 (IntKind.wrap .i64 (j + 1)))] 0
 27))
 [] [])))))))
 (.ret (.lb true)) := by kernel_rfl

theorem cpR_go : exec Tryz.prog ctCpR 600 (unroll (cpRL Tryz.prog a1 a2 a3 a4 b1 b2 b3 b4 e s st ap d o k r j)) =
 Tree.br (decide (j < (↑(D.len k) : Int)))
 (.all fun hs =>
 .need (0 ≤ j ∧ j < (↑(D.len k) : Int) ∧ D.sz k = 5)
 (.need
 (D.HasCells k (Int.toNat j) 0 [FT.int .i64, FT.int .i64, FT.int .i64, FT.slc, FT.slc])
 (.need
 (CyD.Ok
 (CyD.mk (D.getInt k (Int.toNat j) 0) (D.getInt k (Int.toNat j) 1) (D.getInt k (Int.toNat j) 2)
 (D.cell k (Int.toNat j) 3) (D.cell k (Int.toNat j) 4)))
 (.need
 (D.sz r = 5 ∧
 D.Fits
 (D.slc (D.hd (hs 8 0)) 5
 [[D.int .i64 (D.getInt k (Int.toNat j) 0), D.int .i64 (D.getInt k (Int.toNat j) 1),
 D.int .i64 (D.getInt k (Int.toNat j) 2),
 D.like (hs 7 0) (D.to Int (D.cell k (Int.toNat j) 3)),
 D.like (hs 7 1) (D.to Wt (D.cell k (Int.toNat j) 4))]])
 5 ∧
 (D.len r +
 D.len
 (D.slc (D.hd (hs 8 0)) 5
 [[D.int .i64 (D.getInt k (Int.toNat j) 0),
 D.int .i64 (D.getInt k (Int.toNat j) 1),
 D.int .i64 (D.getInt k (Int.toNat j) 2),
 D.like (hs 7 0) (D.to Int (D.cell k (Int.toNat j) 3)),
 D.like (hs 7 1) (D.to Wt (D.cell k (Int.toNat j) 4))]])) *
 72 ≤
 140737488355328 ∧
 D.len r +
 D.len
 (D.slc (D.hd (hs 8 0)) 5
 [[D.int .i64 (D.getInt k (Int.toNat j) 0),
 D.int .i64 (D.getInt k (Int.toNat j) 1),
 D.int .i64 (D.getInt k (Int.toNat j) 2),
 D.like (hs 7 0) (D.to Int (D.cell k (Int.toNat j) 3)),
 D.like (hs 7 1) (D.to Wt (D.cell k (Int.toNat j) 4))]]) ≤
 9223372036854775807)
 (.leaf
 (Conf.mk
 (SFrm.mk 34 none none
 [Item.inLoop (cAt Tryz.prog 34 [1, 1, 0, 1, 0, 0]), Item.inBlock 0,
 Item.code (cAt Tryz.prog 34 [1, 1, 1])]
 (mkJ 0
 [(1, .ptr 0 0), (2, .ptr 1 0), (3, .ptr 2 0),
 (4, .int .i64 (IntKind.wrap .i64 (j + 1)))]
 0 32))
 []
 [(0,
 OBlk.cells 29
 [.int .i64 a1, .int .i64 a2, .int .i64 a3, .int .i64 a4,
 .int .i64 b1, .int .i64 b2, .int .i64 b3, .int .i64 b4,
 .int .i64 e, .int .i64 s, .dat d, .int .i64 st,
 .int .i64 ap, .dat k]),
 (1,
 OBlk.cells 29
 [.int .i64 0, .int .i64 0, .int .i64 0, .int .i64 0,
 .int .i64 0, .int .i64 0, .int .i64 0, .int .i64 0,
 .int .i64 0, .int .i64 0, .nils, .int .i64 0, .int .i64 0,
 .nils]),
 (2,
 OBlk.cells 29
 [.int .i64 a1, .int .i64 a2, .int .i64 a3, .int .i64 a4,
 .int .i64 b1, .int .i64 b2, .int .i64 b3, .int .i64 b4,
 .int .i64 e, .int .i64 s, .dat o, .int .i64 st,
 .int .i64 ap, .vec 3]),
 (3,
 OBlk.arr 32
 (D.slc (D.hd (hs 9 0)) 5
 (List.append (D.rows r)
 (D.rows
 (D.slc (D.hd (hs 8 0)) 5
 [[D.int .i64 (D.getInt k (Int.toNat j) 0),
 D.int .i64 (D.getInt k (Int.toNat j) 1),
 D.int .i64 (D.getInt k (Int.toNat j) 2),
 D.like (hs 7 0) (D.to Int (D.cell k (Int.toNat j) 3)),
 D.like (hs 7 1) (D.to Wt (D.cell k (Int.toNat j) 4))]])))))]))))))
 (.ret
 (.agg
 [.int .i64 a1, .int .i64 a2, .int .i64 a3, .int .i64 a4,
 .int .i64 b1, .int .i64 b2, .int .i64 b3, .int .i64 b4,
 .int .i64 e, .int .i64 s, .dat o, .int .i64 st, .int .i64 ap, .dat r])) := by kernel_rfl

theorem cpC_go : 
 let z1 : List SV := [.int .i64 a1, .int .i64 a2, .int .i64 a3, .int .i64 a4, .int .i64 b1, .int .i64 b2, .int .i64 b3, .int .i64 b4, .int .i64 e, .int .i64 s, .dat o, .int .i64 st, .int .i64 ap, .vec 3]
 let z2 : List SV := [.int .i64 a1, .int .i64 a2, .int .i64 a3, .int .i64 a4, .int .i64 b1, .int .i64 b2, .int .i64 b3, .int .i64 b4, .int .i64 e, .int .i64 s, .dat d, .int .i64 st, .int .i64 ap, .dat k]
 execR Tryz.prog ctCpR 600 (unroll (cpRL Tryz.prog a1 a2 a3 a4 b1 b2 b3 b4 e s st ap d o k r j)) =
 Tree.br (decide (j < (↑(D.len k) : Int))) (.all fun hs => .need (0 ≤ j ∧ j < (↑(D.len k) : Int) ∧ D.sz k = 5) (.need (D.HasCells k (Int.toNat j) 0 [FT.int .i64, FT.int .i64, FT.int .i64, FT.slc, FT.slc])
 (.need (CyD.Ok (CyD.mk (D.getInt k (Int.toNat j) 0) (D.getInt k (Int.toNat j) 1) (D.getInt k (Int.toNat j) 2) (D.cell k (Int.toNat j) 3) (D.cell k (Int.toNat j) 4))) (.need (D.sz r = 5 ∧ D.Fits (D.slc
 (D.hd (hs 8 0)) 5 [[D.int .i64 (D.getInt k (Int.toNat j) 0), D.int .i64 (D.getInt k (Int.toNat j) 1), D.int .i64 (D.getInt k (Int.toNat j) 2), D.like (hs 7 0) (D.to Int (D.cell k (Int.toNat j) 3)), D.like
 (hs 7 1) (D.to Wt (D.cell k (Int.toNat j) 4))]]) 5 ∧ (D.len r + D.len (D.slc (D.hd (hs 8 0)) 5 [[D.int .i64 (D.getInt k (Int.toNat j) 0), D.int .i64 (D.getInt k (Int.toNat j) 1), D.int .i64 (D.getInt k
 (Int.toNat j) 2), D.like (hs 7 0) (D.to Int (D.cell k (Int.toNat j) 3)), D.like (hs 7 1) (D.to Wt (D.cell k (Int.toNat j) 4))]])) * 72 ≤ 140737488355328 ∧ D.len r + D.len (D.slc (D.hd (hs 8 0)) 5 [[D.int .i64
 (D.getInt k (Int.toNat j) 0), D.int .i64 (D.getInt k (Int.toNat j) 1), D.int .i64 (D.getInt k (Int.toNat j) 2), D.like (hs 7 0) (D.to Int (D.cell k (Int.toNat j) 3)), D.like (hs 7 1) (D.to Wt (D.cell k
 (Int.toNat j) 4))]]) ≤ 9223372036854775807) (.leaf (Conf.mk (SFrm.mk 34 none none [Item.inLoop (cAt Tryz.prog 34 [1, 1, 0, 1, 0, 0]), Item.inBlock 0, Item.code (cAt Tryz.prog 34 [1, 1, 1])] (mkJ 0 [(1, .ptr 0 0),
 (2, .ptr 1 0), (3, .ptr 2 0), (4, .int .i64 (IntKind.wrap .i64 (j + 1)))] 0 32)) [] [(0, OBlk.cells 29 z2), (1, OBlk.cells 29 [.int .i64 0, .int .i64 0, .int .i64 0, .int .i64 0, .int .i64 0, .int .i64 0, .int .i64 0, .int .i64 0, .int .i64 0, .int .i64 0, .nils, .int .i64 0, .int .i64 0, .nils]),
 (2, OBlk.cells 29 z1), (3, OBlk.arr 32 (D.slc (D.hd (hs 9 0)) 5 (List.append (D.rows r) (D.rows (D.slc (D.hd (hs 8 0)) 5 [[D.int .i64 (D.getInt k (Int.toNat j) 0), D.int .i64 (D.getInt k (Int.toNat j) 1), D.int .i64
 (D.getInt k (Int.toNat j) 2), D.like (hs 7 0) (D.to Int (D.cell k (Int.toNat j) 3)), D.like (hs 7 1) (D.to Wt (D.cell k (Int.toNat j) 4))]])))))])))))) (.leaf (Conf.mk (SFrm.mk 34 none none [Item.code
 (cAt Tryz.prog 34 [1, 1, 1, 1])] (mkJ 0 [(1, .ptr 0 0), (2, .ptr 1 0), (3, .ptr 2 0), (4, .int .i64 j), (13, .int .i64 j), (14, .ptr 0 13), (15, .dat k), (16, .int .i64 (↑(D.len k) : Int)), (17, .bool
 (decide (j < (↑(D.len k) : Int)))), (31, .agg z1)] 0 32)) [] [(0, OBlk.cells 29 z2), (1, OBlk.cells 29 z1), (2, OBlk.cells 29 z1), (3, OBlk.arr 32 r)])) := by
 intros; kernel_rfl

end
end Go.Proofs.YtllmgnhjljmihaaGreat
end
section
open Go Go.Proofs Sx
namespace Go.Proofs.YtllmgnhjljmihaaGreat
set_option maxRecDepth 100000
theorem ctOR2Ok : Ctrs.Ok Tryz.prog ctOR2 := by
  intro x hx
  simp only [ctOR2, List.mem_cons, List.not_mem_nil, or_false] at hx
  rcases hx with rfl | rfl | rfl
  · exact ctrOf_ok lawCS2
  · exact ctrOf_ok lawHas43
  · exact ctrOf_ok lawTt
theorem ctCpROk : Ctrs.Ok Tryz.prog ctCpR := by
  intro x hx
  simp only [ctCpR, List.mem_cons, List.not_mem_nil, or_false] at hx
  rcases hx with rfl | rfl
  · exact ctrOf_ok lawCpR
  · exact ctrOf_ok lawCpS
theorem lawOfrR : Law Tryz.prog 36 ((rdSrc.two rdInt).sp spOffer) := by
  refine law_in _ (by kernel_rfl) fun H w ⟨⟨e, s, d, st, ap⟩, n⟩ hok hp => ?_
  have hd : d.Is Int := hp _ (List.mem_singleton.2 rfl)
  clear hp hok
  have hl := D.Is.length (α := Int) d
  apply exec_sound ctOR2Ok 400
  rw [show (rdSrc.two rdInt).canon (⟨e, s, d, st, ap⟩, n) = [.agg [.int .i64 e, .int .i64 s, .dat d, .int .i64 st, .int .i64 ap], .int .i64 n] from rfl, ofrQ_in]
  show Tree.holds _ _ (RetD w H fun ds => .tup [srcSV (ds 0) (offer ⟨e, s, d.to Int, st, ap⟩ n).1, .dat ((ds 1).like (offer ⟨e, s, d.to Int, st, ap⟩ n).2.1), .int .i64 (offer ⟨e, s, d.to Int, st, ap⟩ n).2.2]) _
  refine ⟨hd, fun h1 => rt_src3 stands_nils stands_nils (offer_e (show checkSource (SrcD.src ⟨e, s, d, st, ap⟩) ≠ 0 by simpa using h1)), fun h1 => ?_⟩
  have h1 : checkSource ⟨e, s, d.to Int, st, ap⟩ = 0 := show checkSource (SrcD.src ⟨e, s, d, st, ap⟩) = 0 by simpa using h1
  have h8 : (d.to Int).length ≤ 1024 := cs_len h1
  have hcast : 0 < d.len → IntKind.i64.wrap ((d.len : Int) - 1) = ((d.len - 1 : Nat) : Int) := fun h => by rw [wrap64 (by omega) (by omega)]; omega
  have n5 : d.Fits 1 ∧ d.len * 8 ≤ 140737488355328 ∧ d.len ≤ 9223372036854775807 := ⟨hd.fits, by omega, by omega⟩
  have hrl : d.rows.length = (d.to Int).length := hl
  refine ⟨fun h2 => ?_, fun h2 => ?_⟩
  · have h2 : 0 < d.len := by have := of_decide_eq_true h2; omega
    rw [hcast h2]
    have hlt : d.len - 1 < (d.to Int).length := by omega
    obtain ⟨c1, c2, c3⟩ := int_at hd hlt
    rw [c3]
    have hx : lastOf ap (d.to Int) = (d.to Int)[d.len - 1] := by
      rw [lastOf_get (a := ap) (l := d.to Int) (by omega)]
      congr 1; omega
    have ho := offer_c (n := n) h1 hx
    refine ⟨c1, c2, fun h3 => rt_src3 stands_nils stands_nils ?_, fun h3 => ⟨fun h4 => rt_src3 stands_nils stands_nils ?_, fun h4 => ⟨fun h5 => rt_src3 stands_nils stands_nils ?_, fun h5 => ⟨n5, fun hs hs1 => ⟨⟨rfl, .inr rfl, ?_, ?_⟩, fun hs2 hs3 => ⟨hd, rt_src3 (stands_rows rfl (rows_app (rows_of (slc_same hd (D.hd (hs 0 0)) (s := 1) rfl).1) (rows_one (ok_int n) rfl))) (stands_rows rfl (msg_row rfl)) ?_⟩⟩⟩⟩⟩⟩
    · rw [ho, if_pos (of_decide_eq_true h3)]
    all_goals try rw [ho, if_neg (of_decide_eq_false h3)]
    · rw [if_pos (of_decide_eq_true h4)]
    all_goals try rw [if_neg (of_decide_eq_false h4)]
    · rw [if_pos (by have := of_decide_eq_true h5; omega)]
    all_goals try rw [if_neg (by have := of_decide_eq_false h5; omega)]
    · simp only [len_slc, List.length_cons, List.length_nil]; omega
    · simp only [len_slc, List.length_cons, List.length_nil]; omega
    · rw [(slc_same hd (D.hd (hs 0 0)) (s := 1) rfl).2]; rfl
  · have h2 : d.len = 0 := by have := of_decide_eq_false h2; omega
    have h0 : d.to Int = [] := List.eq_nil_of_length_eq_zero (by omega)
    have ho := offer_c (n := n) h1 (last := ap) (by rw [h0]; rfl)
    refine ⟨fun h3 => rt_src3 stands_nils stands_nils ?_, fun h3 => ⟨fun h4 => rt_src3 stands_nils stands_nils ?_, fun h4 => ⟨fun h5 => rt_src3 stands_nils stands_nils ?_, fun h5 => ⟨n5, fun hs hs1 => ⟨⟨rfl, .inr rfl, ?_, ?_⟩, fun hs2 hs3 => ⟨hd, rt_src3 (stands_rows rfl (rows_app (rows_of (slc_same hd (D.hd (hs 0 0)) (s := 1) rfl).1) (rows_one (ok_int n) rfl))) (stands_rows rfl (msg_row rfl)) ?_⟩⟩⟩⟩⟩⟩
    · rw [ho, if_pos (of_decide_eq_true h3)]
    all_goals try rw [ho, if_neg (of_decide_eq_false h3)]
    · rw [if_pos (of_decide_eq_true h4)]
    all_goals try rw [if_neg (of_decide_eq_false h4)]
    · rw [if_pos (by have := of_decide_eq_true h5; omega)]
    all_goals try rw [if_neg (by have := of_decide_eq_false h5; omega)]
    · simp only [len_slc, List.length_cons, List.length_nil]; omega
    · simp only [len_slc, List.length_cons, List.length_nil]; omega
    · rw [(slc_same hd (D.hd (hs 0 0)) (s := 1) rfl).2]; rfl
theorem lawSmB : Law Tryz.prog 75 ((rdD.two rdD).sp spSameBS) := by
  refine law_in _ (by kernel_rfl) fun H w ⟨d, o⟩ hok hp => ?_
  obtain ⟨hd, ho, h0, h0'⟩ := hp _ (List.mem_singleton.2 rfl)
  simp only at hd ho h0 h0'
  have l1 := D.Is.length (α := Byte) d
  have l2 := D.Is.length (α := Byte) o
  rw [h0] at l1; rw [h0'] at l2
  simp only [List.length_nil] at l1 l2
  apply exec_sound (noCtr _) 600
  rw [show (rdD.two rdD).canon (d, o) = [.dat d, .dat o] from rfl, smb_in]
  refine ⟨fun c => absurd c (by rw [l1, l2]; decide), fun _ => ?_⟩
  refine runs_loop (fun _ : Unit => smbL Tryz.prog d o 0) (fun _ => True) (fun _ => 0) (fun _ => rfl) ?_ () trivial
  intro _ _ _
  apply exec_sound (noCtr _) 600
  rw [smb_go]
  exact ⟨fun c => absurd (of_decide_eq_true c) (by omega), fun _ => ret_lb rfl⟩
theorem ctBsOk : Ctrs.Ok Tryz.prog ctBs := by
  intro x hx
  rw [List.mem_singleton.1 hx]; exact ctrOf_ok lawSmB
theorem lawSmG : Law Tryz.prog 41 ((rdMsg.two rdMsg).sp spSameMS) := by
  refine law_in _ (by kernel_rfl) fun H w ⟨⟨mk, mf, mt, mn, mv, me, mb, ml⟩, ⟨xk, xf, xt, xn, xv, xe, xb, xl⟩⟩ hok hp => ?_
  obtain ⟨h1, h2, h3, h4, h5, h6, h7⟩ := hp _ (List.mem_singleton.2 rfl)
  simp only [MsgD.msg, Msg.mk.injEq] at h1 h2 h3 h4 h5 h6 h7
  obtain ⟨rfl, rfl, rfl, rfl, rfl, rfl, e1, e2⟩ := h7
  rw [h5] at e1; rw [h6] at e2
  have l1 := D.Is.length (α := Int) mb
  have l2 := D.Is.length (α := Int) xb
  rw [h5] at l1; rw [← e1] at l2
  simp only [List.length_nil] at l1 l2
  apply exec_sound ctOR2Ok 600
  rw [show (rdMsg.two rdMsg).canon (⟨mk, mf, mt, mn, mv, me, mb, ml⟩, ⟨mk, mf, mt, mn, mv, me, xb, xl⟩) = [.agg [.int .i64 mk, .int .i64 mf, .int .i64 mt, .int .i64 mn, .int .i64 mv, .int .i64 me, .dat mb, .dat ml], .agg [.int .i64 mk, .int .i64 mf, .int .i64 mt, .int .i64 mn, .int .i64 mv, .int .i64 me, .dat xb, .dat xl]] from rfl, smg_in]
  refine ⟨fun c => absurd c (by rw [l1, l2]; decide), fun _ => ?_⟩
  refine runs_loop (fun _ : Unit => smgL Tryz.prog mk mf mt mn mv me mk mf mt mn mv me mb ml xb xl 0) (fun _ => True) (fun _ => 0) (fun _ => rfl) ?_ () trivial
  intro _ _ _
  apply exec_sound ctBsOk 600
  rw [smg_go]
  have no : ∀ {z : Int} {X : Prop}, decide (z = z) = false → X := fun h => absurd rfl (of_decide_eq_false h)
  refine ⟨fun c => absurd (of_decide_eq_true c) (by omega), fun _ => ⟨fun _ => ⟨fun _ => ⟨fun _ => ⟨fun _ => ⟨fun _ => ⟨fun _ => ⟨⟨h3, h4, h6, e2.symm⟩, ret_lb rfl⟩, no⟩, no⟩, no⟩, no⟩, no⟩, no⟩⟩
theorem ctMsOk : Ctrs.Ok Tryz.prog ctMs := by
  intro x hx
  rw [List.mem_singleton.1 hx]; exact ctrOf_ok lawSmG
theorem lawSms : Law Tryz.prog 11 ((rdD.two rdD).sp spSameMsS) := by
  refine law_in _ (by kernel_rfl) fun H w ⟨d, o⟩ hok hp => ?_
  obtain ⟨hd, ho, hlen, hv, he⟩ := hp _ (List.mem_singleton.2 rfl)
  simp only at hd ho hlen hv he
  have hl := D.Is.length (α := Msg) d
  have hl' := D.Is.length (α := Msg) o
  have hll : d.len = o.len := by rw [hl, hl', he]
  apply exec_sound ctOR2Ok 600
  rw [show (rdD.two rdD).canon (d, o) = [.dat d, .dat o] from rfl, sms_in]
  refine ⟨fun c => absurd c (by rw [hll]; simp), fun _ => ?_⟩
  refine runs_loop (fun j : Nat => smsL Tryz.prog d o j) (fun j => j ≤ (d.to Msg).length) (fun j => (d.to Msg).length - j) (fun _ => rfl) ?_ 0 (Nat.zero_le _)
  intro j hj ih
  apply exec_sound ctMsOk 600
  rw [smsq_go]
  refine ⟨fun hc => ?_, fun _ => ret_lb rfl⟩
  have hc : j < (d.to Msg).length := by have := of_decide_eq_true hc; omega
  have hc' : j < (o.to Msg).length := by omega
  obtain ⟨c1, c2, c3, c4, c5, c6, c7, c8, c9, c10, c11⟩ := msg_cell hd hc
  obtain ⟨d1, d2, d3, d4, d5, d6, d7, d8, d9, d10, d11⟩ := msg_cell ho hc'
  obtain ⟨v1, v2⟩ := hv _ (List.getElem_mem hc)
  have e1 : (MsgD.mk (d.getInt j 0) (d.getInt j 1) (d.getInt j 2) (d.getInt j 3) (d.getInt j 4) (d.getInt j 5) (d.cell j 6) (d.cell j 7)).msg = (d.to Msg)[j] := by
    simp [MsgD.msg, c2, c3, c4, c5, c6, c7, c9, c11]
  have e2 : (MsgD.mk (o.getInt j 0) (o.getInt j 1) (o.getInt j 2) (o.getInt j 3) (o.getInt j 4) (o.getInt j 5) (o.cell j 6) (o.cell j 7)).msg = (o.to Msg)[j] := by
    simp [MsgD.msg, d2, d3, d4, d5, d6, d7, d9, d11]
  have e3 : (d.to Msg)[j] = (o.to Msg)[j] := by congr 1
  refine fun _ => ⟨⟨by omega, by omega, hd.size hc⟩, c1, ⟨by omega, by omega, ho.size hc'⟩, d1, ⟨c8, d8, c10, d10, c9.trans v2, c11.trans v1, e1.trans (e3.trans e2.symm)⟩, ?_⟩
  have := ih (j + 1) hc (by omega)
  rw [← wrap_succ hc (by omega)] at this
  exact this
end Go.Proofs.YtllmgnhjljmihaaGreat
end
section
open Go Go.Proofs Sx
namespace Go.Proofs.YtllmgnhjljmihaaGreat
set_option maxRecDepth 100000
theorem lrQ_loop {w : World} {H : HV} {e s st ap mk mf mt mn mv me st' : Int} {d mb ml : D} (hd : d.Is Int) (hl : d.len ≤ 1024) {r : Src × List Msg} (hr : r = (⟨e, s, (d.to Int).filter fun x => decide (x > mv), st', mv⟩, [])) :
    Runs Tryz.prog ⟨w, H⟩ (lrQ Tryz.prog e s st ap mk mf mt mn mv me st' d mb ml (.slc none 1 []) 0) (RetD w H fun ds => .tup [srcSV (ds 0) r.1, .dat ((ds 1).like r.2)]) := by
  have dl := D.Is.length (α := Int) d
  refine runs_loop (fun p : D × Nat => lrQ Tryz.prog e s st ap mk mf mt mn mv me st' d mb ml p.1 p.2) (fun p => p.2 ≤ (d.to Int).length ∧ p.1.Is Int ∧ p.1.sz = 1 ∧ p.1.to Int = ((d.to Int).take p.2).filter fun x => decide (x > mv)) (fun p => (d.to Int).length - p.2) (fun _ => rfl) ?_ (.slc none 1 [], 0) ⟨Nat.zero_le _, is_nil _ _, rfl, rfl⟩
  intro ⟨q, j⟩ ⟨hj, hq, hz, hto⟩ ih
  simp only at hj hq hz hto ih
  have ql := D.Is.length (α := Int) q
  have hfl : (((d.to Int).take j).filter fun x => decide (x > mv)).length ≤ j := by
    refine Nat.le_trans (List.length_filter_le _ _) ?_
    rw [List.length_take]; omega
  rw [hto] at ql
  apply exec_sound ctOR2Ok 600
  rw [lrQ_go]
  refine ⟨fun hcj => ?_, fun hcj => ?_⟩
  · have hcj : j < (d.to Int).length := by have := of_decide_eq_true hcj; omega
    obtain ⟨c1, c2, c3⟩ := int_at hd hcj
    have htk : (d.to Int).take (j + 1) = (d.to Int).take j ++ [(d.to Int)[j]] := List.take_succ_eq_append_getElem hcj
    rw [c3]
    refine fun _ => ⟨c1, c2, fun hb hs => ⟨c1, c2, ⟨hz, .inr rfl, by simp only [len_slc, List.length_cons, List.length_nil]; omega, by simp only [len_slc, List.length_cons, List.length_nil]; omega⟩, ?_⟩, fun hb => ?_⟩
    · have hb : (d.to Int)[j] > mv := of_decide_eq_true hb
      obtain ⟨i1, i2⟩ := is_of (h := (hs 8 0).hd) (s := 1) rfl (rows_app (rows_of hq) (rows_one (ok_int (d.to Int)[j]) rfl))
      have := ih (_, j + 1) ⟨hcj, i1, rfl, i2.trans (by rw [htk, List.filter_append, List.filter_cons, if_pos (by simpa using hb), hto]; rfl)⟩ (by simp only; omega)
      simp only at this
      rw [← wrap_succ hcj (by omega)] at this
      exact this
    · have hb : ¬(d.to Int)[j] > mv := of_decide_eq_false hb
      have := ih (q, j + 1) ⟨hcj, hq, hz, by rw [htk, List.filter_append, List.filter_cons, if_neg (by simpa using hb), hto]; simp⟩ (by simp only; omega)
      simp only at this
      rw [← wrap_succ hcj (by omega)] at this
      exact this
  · have : j = (d.to Int).length := by have := of_decide_eq_false hcj; omega
    subst this
    rw [List.take_length] at hto
    exact rt_src2 (stands_dat hq hto) stands_nils hr
theorem lrB_runs {w : World} {H : HV} {e s st ap mk mf mt mn mv me : Int} {d mb ml : D} (hd : d.Is Int) (h1 : checkSource ⟨e, s, d.to Int, st, ap⟩ = 0) (h2 : mf = s) (h3 : ¬me < e) (h5 : ¬me > 1073741824) (hk : mk = 9 ∨ mk = 11 ∨ mk = 12) :
    Runs Tryz.prog ⟨w, H⟩ (lrB Tryz.prog e s st ap mk mf mt mn mv me d mb ml) (RetD w H fun ds => .tup [srcSV (ds 0) (learn ⟨e, s, d.to Int, st, ap⟩ ⟨mk, mf, mt, mn, mv, me, mb.to Int, ml.to Byte⟩).1, .dat ((ds 1).like (learn ⟨e, s, d.to Int, st, ap⟩ ⟨mk, mf, mt, mn, mv, me, mb.to Int, ml.to Byte⟩).2)]) := by
  have hl := D.Is.length (α := Int) d
  have h8 : (d.to Int).length ≤ 1024 := cs_len h1
  rw [learn_eq h1 h2 h3 h5, if_neg (by omega)]
  have n1 : d.Is Int ∧ d.len ≤ 1048576 := ⟨hd, by omega⟩
  have n5 : d.Fits 1 ∧ d.len * 8 ≤ 140737488355328 ∧ d.len ≤ 9223372036854775807 := ⟨hd.fits, by omega, by omega⟩
  apply exec_sound ctOR2Ok 600
  rw [lrB_go]
  refine ⟨n5, holds_all.2 fun hs => ?_⟩
  obtain ⟨x1, x2⟩ := slc_same hd (D.hd (hs 0 0)) (s := 1) rfl
  refine ⟨fun h6 _ => rt_src2 stands_nils stands_nils (by rw [if_pos (of_decide_eq_true h6)]), fun h6 => ?_⟩
  rw [if_neg (of_decide_eq_false h6)]
  refine ⟨fun h7 => ⟨n1, fun c1 => ⟨fun c2 hs1 => ⟨hd, rt_src2 (stands_dat x1 x2) (stands_rows rfl (msg_row rfl)) ?_⟩, fun c2 => ⟨fun h9 => ?_, fun _ => rt_src2 (stands_dat x1 x2) stands_nils ?_⟩⟩, fun c1 => ⟨fun h9 => ?_, fun _ => rt_src2 (stands_dat x1 x2) stands_nils ?_⟩⟩, fun h7 => ⟨fun h9 => ⟨n1, fun c1 hs1 => ?_, fun c1 => rt_src2 (stands_dat x1 x2) stands_nils ?_⟩, fun h9 => rt_src2 (stands_dat x1 x2) stands_nils ?_⟩⟩
  · have c1 : mv ∈ d.to Int := by simpa using c1
    rw [if_pos (of_decide_eq_true h7), if_pos ⟨c1, of_decide_eq_true c2⟩]
  · exact absurd (of_decide_eq_true h9) (by have := of_decide_eq_true h7; omega)
  · rw [if_pos (of_decide_eq_true h7), if_neg (fun h => of_decide_eq_false c2 h.2)]
  · exact absurd (of_decide_eq_true h9) (by have := of_decide_eq_true h7; omega)
  · have c1 : ¬mv ∈ d.to Int := by simpa using c1
    rw [if_pos (of_decide_eq_true h7), if_neg (fun h => c1 h.1)]
  · have c1 : mv ∈ d.to Int := by simpa using c1
    rw [if_neg (of_decide_eq_false h7), if_pos (of_decide_eq_true h9), if_pos c1]
    refine vecIn_to 9 3 1 (some 3) 2 (lrQ Tryz.prog e s st ap mk mf mt mn mv me (if mv > st then mv else st) d mb ml (.slc none 1 []) 0) (by kernel_rfl) ?_
    refine lrQ_loop hd (by omega) ?_
    rw [Int.max_def]
    congr 2
    split <;> split <;> omega
  · have c1 : ¬mv ∈ d.to Int := by simpa using c1
    rw [if_neg (of_decide_eq_false h7), if_pos (of_decide_eq_true h9), if_neg c1]
  · rw [if_neg (of_decide_eq_false h7), if_neg (of_decide_eq_false h9)]
theorem lawLrnR : Law Tryz.prog 46 ((rdSrc.two rdMsg).sp spLearn) := by
  refine law_in _ (by kernel_rfl) fun H w ⟨⟨e, s, d, st, ap⟩, ⟨mk, mf, mt, mn, mv, me, mb, ml⟩⟩ hok hp => ?_
  have hd : d.Is Int := hp _ (List.mem_singleton.2 rfl)
  clear hp hok
  apply goS_sound ctOR2Ok (fun _ => false) [(46, 45)] 600
  rw [show (rdSrc.two rdMsg).canon (⟨e, s, d, st, ap⟩, ⟨mk, mf, mt, mn, mv, me, mb, ml⟩) = [.agg [.int .i64 e, .int .i64 s, .dat d, .int .i64 st, .int .i64 ap], .agg [.int .i64 mk, .int .i64 mf, .int .i64 mt, .int .i64 mn, .int .i64 mv, .int .i64 me, .dat mb, .dat ml]] from rfl, lrnQ_in]
  show Tree.holds _ _ (RetD w H fun ds => .tup [srcSV (ds 0) (learn ⟨e, s, d.to Int, st, ap⟩ ⟨mk, mf, mt, mn, mv, me, mb.to Int, ml.to Byte⟩).1, .dat ((ds 1).like (learn ⟨e, s, d.to Int, st, ap⟩ ⟨mk, mf, mt, mn, mv, me, mb.to Int, ml.to Byte⟩).2)]) _
  have bad : (checkSource ⟨e, s, d.to Int, st, ap⟩ ≠ 0 ∨ mf ≠ s ∨ me < e ∨ me > 1073741824) → learn ⟨e, s, d.to Int, st, ap⟩ ⟨mk, mf, mt, mn, mv, me, mb.to Int, ml.to Byte⟩ = (⟨e, s, d.to Int, st, ap⟩, []) := fun h => by
    unfold learn; rw [if_pos h]
  refine ⟨hd, fun h1 => rt_src2 (stands_self hd) stands_nils (bad (.inl (show checkSource (SrcD.src ⟨e, s, d, st, ap⟩) ≠ 0 by simpa using h1))), fun h1 => ⟨fun h2 => rt_src2 (stands_self hd) stands_nils (bad (.inr (.inl (by simpa using h2)))), fun h2 => ⟨fun h3 => rt_src2 (stands_self hd) stands_nils (bad (.inr (.inr (.inl (of_decide_eq_true h3))))), fun h3 => ⟨fun h5 => rt_src2 (stands_self hd) stands_nils (bad (.inr (.inr (.inr (of_decide_eq_true h5))))), fun h5 => ?_⟩⟩⟩⟩
  have h1 : checkSource ⟨e, s, d.to Int, st, ap⟩ = 0 := show checkSource (SrcD.src ⟨e, s, d, st, ap⟩) = 0 by simpa using h1
  have h2 : mf = s := by simpa using h2
  have h3 : ¬me < e := of_decide_eq_false h3
  have h5 : ¬me > 1073741824 := of_decide_eq_false h5
  have key : (mk = 9 ∨ mk = 11 ∨ mk = 12) → Runs Tryz.prog ⟨w, H⟩ (lrB Tryz.prog e s st ap mk mf mt mn mv me d mb ml) (RetD w H fun ds => .tup [srcSV (ds 0) (learn ⟨e, s, d.to Int, st, ap⟩ ⟨mk, mf, mt, mn, mv, me, mb.to Int, ml.to Byte⟩).1, .dat ((ds 1).like (learn ⟨e, s, d.to Int, st, ap⟩ ⟨mk, mf, mt, mn, mv, me, mb.to Int, ml.to Byte⟩).2)]) := lrB_runs hd h1 h2 h3 h5
  refine ⟨fun k9 => ⟨fun k11 => ⟨fun k12 => rt_src2 (stands_self hd) stands_nils ?_, fun k12 => key (.inr (.inr (by simpa using k12)))⟩, fun k11 => key (.inr (.inl (by simpa using k11)))⟩, fun k9 => key (.inl (by simpa using k9))⟩
  rw [learn_eq h1 h2 h3 h5, if_pos ⟨by simpa using k9, by simpa using k11, by simpa using k12⟩]
theorem cp_step {w : World} {H : HV} {R : Value → World → Prop} {a1 a2 a3 a4 b1 b2 b3 b4 e s st ap : Int} {d o k : D} (hk : k.Is Cy) (hl : k.len ≤ 1048576) (hok : ∀ c, c ∈ k.to Cy → CyOk c)
    (fin : ∀ q : D, q.Is Cy → q.sz = 5 → q.to Cy = k.to Cy → Runs Tryz.prog ⟨w, H⟩ (unroll (cpRL Tryz.prog a1 a2 a3 a4 b1 b2 b3 b4 e s st ap d o k q k.len)) R) :
    Runs Tryz.prog ⟨w, H⟩ (cpRL Tryz.prog a1 a2 a3 a4 b1 b2 b3 b4 e s st ap d o k (.slc none 5 []) 0) R := by
  have kl := D.Is.length (α := Cy) k
  refine runs_loop (fun p : D × Nat => cpRL Tryz.prog a1 a2 a3 a4 b1 b2 b3 b4 e s st ap d o k p.1 p.2) (fun p => p.2 ≤ (k.to Cy).length ∧ p.1.Is Cy ∧ p.1.sz = 5 ∧ p.1.to Cy = (k.to Cy).take p.2) (fun p => (k.to Cy).length - p.2) (fun _ => rfl) ?_ (.slc none 5 [], 0) ⟨Nat.zero_le _, is_nil _ _, rfl, rfl⟩
  intro ⟨q, j⟩ ⟨hj, hq, hz, hto⟩ ih
  simp only at hj hq hz hto ih
  have ql := D.Is.length (α := Cy) q
  rw [hto, List.length_take] at ql
  by_cases hcj : j < (k.to Cy).length
  · apply execR_sound ctCpROk 600
    rw [cpC_go]
    refine ⟨fun _ => ?_, fun hc => absurd (of_decide_eq_false hc) (by omega)⟩
    obtain ⟨c1, c2, c3, c4⟩ := cy_cell hk hcj
    have htk : (k.to Cy).take (j + 1) = (k.to Cy).take j ++ [(k.to Cy)[j]] := List.take_succ_eq_append_getElem hcj
    refine fun hs => ⟨⟨by omega, by omega, hk.size hcj⟩, c1, cyD_ok hk hok hcj, ⟨hz, .inr rfl, by simp only [len_slc, List.length_cons, List.length_nil]; omega, by simp only [len_slc, List.length_cons, List.length_nil]; omega⟩, ?_⟩
    have hr := rows_app (rows_of hq) (cy_one (b := k.getInt j 0) (n := k.getInt j 1) (t := k.getInt j 2) (D.like_is (hs 7 0) ((k.cell j 3).to Int)) (D.like_to _ _) (D.like_is (hs 7 1) ((k.cell j 4).to Wt)) (D.like_to _ _))
    obtain ⟨i1, i2⟩ := is_of (h := (hs 9 0).hd) (s := 5) rfl hr
    have := ih (_, j + 1) ⟨hcj, i1, rfl, i2.trans (by rw [htk, hto, c4]; rfl)⟩ (by simp only; omega)
    simp only at this
    rw [← wrap_succ hcj (by omega)] at this
    exact this
  · have hjl : j = k.len := by omega
    rw [hjl, kl, List.take_length] at hto
    subst hjl
    exact fin q hq hz hto
end Go.Proofs.YtllmgnhjljmihaaGreat
end
section
open Go Go.Proofs Sx
namespace Go.Proofs.YtllmgnhjljmihaaGreat
set_option maxRecDepth 100000
theorem lawFrR : Law Tryz.prog 35 (rdRl.one.sp spFrtR) := by
  refine law_in _ (by kernel_rfl) fun H w ⟨⟨a1, a2, a3, a4⟩, ⟨b1, b2, b3, b4⟩, ⟨e, s, d, st, ap⟩, k⟩ hok hp => ?_
  obtain ⟨hk, hl⟩ := hp _ (List.mem_singleton.2 rfl)
  simp only at hk hl
  have kl := D.Is.length (α := Cy) k
  apply exec_sound ctOR2Ok 600
  rw [show rdRl.one.canon ⟨⟨a1, a2, a3, a4⟩, ⟨b1, b2, b3, b4⟩, ⟨e, s, d, st, ap⟩, k⟩ = [.agg [.int .i64 a1, .int .i64 a2, .int .i64 a3, .int .i64 a4, .int .i64 b1, .int .i64 b2, .int .i64 b3, .int .i64 b4, .int .i64 e, .int .i64 s, .dat d, .int .i64 st, .int .i64 ap, .dat k]] from rfl, frR_in]
  refine ⟨fun c => ?_, fun c => ret_int ?_⟩
  · have c : 0 < (k.to Cy).length := by have := of_decide_eq_true c; omega
    have hlt : (k.to Cy).length - 1 < (k.to Cy).length := by omega
    have ew : IntKind.i64.wrap ((k.len : Int) - 1) = (((k.to Cy).length - 1 : Nat) : Int) := by rw [wrap64 (by omega) (by omega)]; omega
    obtain ⟨q1, _, _, q4⟩ := cy_cell hk hlt
    rw [ew]
    refine ⟨⟨by omega, by omega, hk.size c⟩, q1.2.1, ret_int ?_⟩
    show _ = frontI ap (k.to Cy)
    rw [front_get c, q4]; rfl
  · have c : (k.to Cy) = [] := List.eq_nil_of_length_eq_zero (by have := of_decide_eq_false c; omega)
    show _ = frontI ap (k.to Cy)
    rw [c]; rfl
theorem lawCpRl : Law Tryz.prog 34 (rdRl.one.sp spCpRl) := by
  refine law_in _ (by kernel_rfl) fun H w ⟨⟨a1, a2, a3, a4⟩, ⟨b1, b2, b3, b4⟩, ⟨e, s, d, st, ap⟩, k⟩ hok hp => ?_
  have hx := hp _ (List.mem_singleton.2 rfl)
  obtain ⟨h1, h2, h3, h4, h5⟩ := id hx
  simp only at h1 h2 h3 h4 h5
  apply exec_sound ctCpROk 600
  rw [show rdRl.one.canon ⟨⟨a1, a2, a3, a4⟩, ⟨b1, b2, b3, b4⟩, ⟨e, s, d, st, ap⟩, k⟩ = [.agg [.int .i64 a1, .int .i64 a2, .int .i64 a3, .int .i64 a4, .int .i64 b1, .int .i64 b2, .int .i64 b3, .int .i64 b4, .int .i64 e, .int .i64 s, .dat d, .int .i64 st, .int .i64 ap, .dat k]] from rfl, cpR_in]
  refine holds_all.2 fun hs => holds_need.2 ⟨⟨h1, h3⟩, ?_⟩
  refine vecIn_to 9 32 5 (some 2) 13 (cpRL Tryz.prog a1 a2 a3 a4 b1 b2 b3 b4 e s st ap d (D.like (hs 6 0) (d.to Int)) k (.slc none 5 []) 0) (by kernel_rfl) ?_
  refine cp_step h2 h4 h5 fun q q1 q2 q3 => ?_
  apply exec_sound ctCpROk 600
  rw [cpR_go]
  refine ⟨fun c => absurd (of_decide_eq_true c) (by omega), fun _ => ?_⟩
  obtain ⟨p, r, hh⟩ := rlL_sel (a := a1) (b := a2) (c := a3) (d := a4) (e := b1) (f := b2) (g := b3) (h := b4) (i := e) (j := s) (k := st) (l := ap) (stands_like (d := hs 6 0) (xs := d.to Int)) (stands_dat q1 q3) rfl
  exact ret_se (fun i => match i with | 0 => p | _ => r) (se_agg hh)
def cpPhi (x : RlD) (v : SV) (m : Mem) : Prop := ∃ o q : D, v = .agg (rlO x o (.vec 3)) ∧ m = [(3, .arr 32 q)] ∧ (o.Is Int ∧ o.to Int = x.src.d.to Int) ∧ q.Is Cy ∧ q.sz = 5 ∧ q.to Cy = x.k.to Cy
theorem cpRuns {H : HV} {w : World} {x : RlD} (hx : x.Ok) : Runs Tryz.prog ⟨w, H⟩ ⟨cpC x, [], []⟩ (RetM w H (cpPhi x)) := by
  obtain ⟨⟨a1, a2, a3, a4⟩, ⟨b1, b2, b3, b4⟩, ⟨e, s, d, st, ap⟩, k⟩ := x
  obtain ⟨h1, h2, h3, h4, h5⟩ := id hx
  simp only at h1 h2 h3 h4 h5
  apply exec_sound ctCpROk 600
  rw [cpC_in]
  refine holds_all.2 fun hs => holds_need.2 ⟨⟨h1, h3⟩, ?_⟩
  refine vecIn_to 9 32 5 (some 2) 13 (cpRL Tryz.prog a1 a2 a3 a4 b1 b2 b3 b4 e s st ap d (D.like (hs 6 0) (d.to Int)) k (.slc none 5 []) 0) (by kernel_rfl) ?_
  refine cp_step h2 h4 h5 fun q q1 q2 q3 => ?_
  apply execR_sound ctCpROk 600
  rw [cpC_go]
  refine ⟨fun c => absurd (of_decide_eq_true c) (by omega), fun _ => ?_⟩
  refine retM (f := Tryz.f34) (l := [.agg (rlO ⟨⟨a1, a2, a3, a4⟩, ⟨b1, b2, b3, b4⟩, ⟨e, s, d, st, ap⟩, k⟩ (D.like (hs 6 0) (d.to Int)) (.vec 3))]) [(3, .arr 32 q)] (by kernel_rfl) (by kernel_rfl) ?_ (by kernel_rfl) (by kernel_rfl) ⟨_, _, rfl, rfl, ⟨D.like_is _ _, D.like_to _ _⟩, q1, q2, q3⟩
  exact .cons _ (.cons _ (.cons _ (.cons₂ _ .slnil)))
theorem cpC_pure {x : RlD} : ∀ k, k ∉ SV.keysL (cpC x).tmps := fun k hk => by
  have h : SV.keysL (cpC x).tmps = [] := by kernel_rfl
  rw [h] at hk; cases hk
theorem ctRBOk : Ctrs.Ok Tryz.prog ctRB := by
  intro x hx
  simp only [ctRB, List.mem_cons, List.not_mem_nil, or_false] at hx
  rcases hx with rfl | rfl | rfl | rfl | rfl | rfl | rfl | rfl
  · exact ctrOf_ok lawCkRf
  · exact ctrOf_ok lawMostR
  · exact ctrOf_ok lawCyCkR
  · exact ctrOf_ok lawFrR
  · exact ctrOf_ok lawOfrR
  · exact ctrOf_ok lawLrnR
  · exact ctrOf_ok lawCpR
  · exact ctrOf_ok lawBehR
theorem ctRAOk : Ctrs.Ok Tryz.prog ctRA := by
  intro x hx
  simp only [ctRA, List.mem_cons, List.not_mem_nil, or_false] at hx
  rcases hx with rfl | rfl | rfl | rfl | rfl | rfl | rfl | rfl | rfl
  · exact ctrOf_ok lawCkRf
  · exact ctrOf_ok lawMostR
  · exact ctrOf_ok lawCyCkR
  · exact ctrOf_ok lawCpRl
  · exact ctrOf_ok lawFrR
  · exact ctrOf_ok lawOfrR
  · exact ctrOf_ok lawLrnR
  · exact ctrOf_ok lawCpR
  · exact ctrOf_ok lawBehR
theorem lawLnR : Law Tryz.prog 13 ((rdRl.two rdMsg).sp spLearnRl) := by
  refine law_in _ (by kernel_rfl) fun H w ⟨⟨⟨a1, a2, a3, a4⟩, ⟨b1, b2, b3, b4⟩, ⟨e, s, d, st, ap⟩, k⟩, ⟨mk, mf, mt, mn, mv, me, mb, ml⟩⟩ hok hp => ?_
  have hx := hp _ (List.mem_singleton.2 rfl)
  obtain ⟨h1, h2, h3, h4, h5⟩ := id hx
  simp only at h1 h2 h3 h4 h5
  apply exec_sound ctRAOk 600
  rw [show (rdRl.two rdMsg).canon (⟨⟨a1, a2, a3, a4⟩, ⟨b1, b2, b3, b4⟩, ⟨e, s, d, st, ap⟩, k⟩, ⟨mk, mf, mt, mn, mv, me, mb, ml⟩) = [.agg [.int .i64 a1, .int .i64 a2, .int .i64 a3, .int .i64 a4, .int .i64 b1, .int .i64 b2, .int .i64 b3, .int .i64 b4, .int .i64 e, .int .i64 s, .dat d, .int .i64 st, .int .i64 ap, .dat k], .agg [.int .i64 mk, .int .i64 mf, .int .i64 mt, .int .i64 mn, .int .i64 mv, .int .i64 me, .dat mb, .dat ml]] from rfl, lnR_in]
  show Tree.holds _ _ (RetD w H fun ds => .tup [.agg (rlL (ds 0) (ds 1) (learnRl (RlD.rl ⟨⟨a1, a2, a3, a4⟩, ⟨b1, b2, b3, b4⟩, ⟨e, s, d, st, ap⟩, k⟩) (MsgD.msg ⟨mk, mf, mt, mn, mv, me, mb, ml⟩)).1), .dat ((ds 2).like (learnRl (RlD.rl ⟨⟨a1, a2, a3, a4⟩, ⟨b1, b2, b3, b4⟩, ⟨e, s, d, st, ap⟩, k⟩) (MsgD.msg ⟨mk, mf, mt, mn, mv, me, mb, ml⟩)).2)]) _
  refine holds_need.2 ⟨hx, holds_all.2 fun hs => holds_need.2 ⟨hx, holds_br.2 ⟨fun c1 => ret_rl2 stands_like stands_like stands_nils ?_, fun c1 => ?_⟩⟩⟩
  · have c1 : ckRl (RlD.rl ⟨⟨a1, a2, a3, a4⟩, ⟨b1, b2, b3, b4⟩, ⟨e, s, d, st, ap⟩, k⟩) ≠ 0 := by simpa using c1
    unfold learnRl; rw [if_pos c1]; rfl
  have c1 : ckRl (RlD.rl ⟨⟨a1, a2, a3, a4⟩, ⟨b1, b2, b3, b4⟩, ⟨e, s, d, st, ap⟩, k⟩) = 0 := by simpa using c1
  generalize hL : learn (SrcD.src (SrcD.mk e s d st ap)) (MsgD.msg ⟨mk, mf, mt, mn, mv, me, mb, ml⟩) = L
  obtain ⟨⟨le, ls, lo, lst, lap⟩, lm⟩ := L
  have hdef : (learnRl (RlD.rl ⟨⟨a1, a2, a3, a4⟩, ⟨b1, b2, b3, b4⟩, ⟨e, s, d, st, ap⟩, k⟩) (MsgD.msg ⟨mk, mf, mt, mn, mv, me, mb, ml⟩)) = if le > e then (⟨⟨le, a2, a3, a4⟩, ⟨le, b2, lst, lap⟩, ⟨le, ls, lo, lst, lap⟩, []⟩, lm) else (⟨⟨a1, a2, a3, a4⟩, ⟨b1, b2, lst, lap⟩, ⟨le, ls, lo, lst, lap⟩, behindL (k.to Cy) lap⟩, lm) := by
    have hL' : learn (Rl.src (RlD.rl ⟨⟨a1, a2, a3, a4⟩, ⟨b1, b2, b3, b4⟩, ⟨e, s, d, st, ap⟩, k⟩)) (MsgD.msg ⟨mk, mf, mt, mn, mv, me, mb, ml⟩) = (⟨le, ls, lo, lst, lap⟩, lm) := hL
    unfold learnRl
    rw [if_neg (by simp [c1])]
    simp only [hL']
    rfl
  refine holds_need.2 ⟨h1, holds_all.2 fun hs0 => holds_all.2 fun hs1 => holds_need.2 ⟨⟨h2, h4, h5⟩, holds_all.2 fun hs2 => holds_br.2 ⟨fun c => holds_all.2 fun hs3 => ret_rl2 (stands_like) stands_nils stands_like (hdef.trans (if_pos (of_decide_eq_true c))), fun c => ret_rl2 stands_like stands_like stands_like (hdef.trans (if_neg (of_decide_eq_false c)))⟩⟩⟩
theorem beh_hit {l : List Cy} {n : Int} {j : Nat} (hj : j < l.length) (h0 : behindL (l.take j) n = []) (h : l[j].number > n) : nextL (behindL l n) = (l[j], true) := by
  have e0 : behindL l n = behindL (l.take (j + 1)) n ++ behindL (l.drop (j + 1)) n := by
    rw [behindL, behindL, behindL, ← List.filter_append, List.take_append_drop]
  rw [e0, List.take_succ_eq_append_getElem hj, behindL_snoc, if_pos h, h0]
  rfl
theorem lawNxR : Law Tryz.prog 15 (rdRl.one.sp spNextRl) := by
  refine law_in _ (by kernel_rfl) fun H w ⟨⟨a1, a2, a3, a4⟩, ⟨b1, b2, b3, b4⟩, ⟨e, s, d, st, ap⟩, k⟩ hok hp => ?_
  have hx := hp _ (List.mem_singleton.2 rfl)
  obtain ⟨h1, h2, h3, h4, h5⟩ := id hx
  simp only at h1 h2 h3 h4 h5
  have kl := D.Is.length (α := Cy) k
  apply exec_sound ctRAOk 600
  rw [show rdRl.one.canon ⟨⟨a1, a2, a3, a4⟩, ⟨b1, b2, b3, b4⟩, ⟨e, s, d, st, ap⟩, k⟩ = [.agg [.int .i64 a1, .int .i64 a2, .int .i64 a3, .int .i64 a4, .int .i64 b1, .int .i64 b2, .int .i64 b3, .int .i64 b4, .int .i64 e, .int .i64 s, .dat d, .int .i64 st, .int .i64 ap, .dat k]] from rfl, nxR_in]
  show Tree.holds _ _ (RetD w H fun ds => .tup [.agg (cyL (ds 0) (ds 1) (nextRl (RlD.rl ⟨⟨a1, a2, a3, a4⟩, ⟨b1, b2, b3, b4⟩, ⟨e, s, d, st, ap⟩, k⟩)).1), .bool (nextRl (RlD.rl ⟨⟨a1, a2, a3, a4⟩, ⟨b1, b2, b3, b4⟩, ⟨e, s, d, st, ap⟩, k⟩)).2]) _
  have no : ∀ {r : Cy × Bool}, r = (zCy, false) → (Tree.ret (.tup [.agg [.int .i64 0, .int .i64 0, .int .i64 0, .nils, .nils], .lb false])).holds Tryz.prog ⟨w, H⟩ (RetD w H fun ds => .tup [.agg (cyL (ds 0) (ds 1) r.1), .bool r.2]) := fun h => by
    subst h
    obtain ⟨p, q, hs⟩ := cyL_sel (b := 0) (n := 0) (t := 0) stands_nils stands_nils (c := zCy) rfl
    exact ret_se (fun i => match i with | 0 => p | _ => q) (se_tup (.cons (se_agg hs) (.cons (se_lb rfl) .nil)))
  refine holds_need.2 ⟨hx, holds_br.2 ⟨fun c1 => no ?_, fun c1 => ?_⟩⟩
  · have c1 : ckRl (RlD.rl ⟨⟨a1, a2, a3, a4⟩, ⟨b1, b2, b3, b4⟩, ⟨e, s, d, st, ap⟩, k⟩) ≠ 0 := by simpa using c1
    unfold nextRl; rw [if_pos c1]
  have c1 : ckRl (RlD.rl ⟨⟨a1, a2, a3, a4⟩, ⟨b1, b2, b3, b4⟩, ⟨e, s, d, st, ap⟩, k⟩) = 0 := by simpa using c1
  have hdef : (nextRl (RlD.rl ⟨⟨a1, a2, a3, a4⟩, ⟨b1, b2, b3, b4⟩, ⟨e, s, d, st, ap⟩, k⟩)) = nextL (behindL (k.to Cy) st) := by
    unfold nextRl; rw [if_neg (by simp [c1])]; rfl
  rw [hdef]
  refine runs_loop (fun j : Nat => nxRL ⟨⟨a1, a2, a3, a4⟩, ⟨b1, b2, b3, b4⟩, ⟨e, s, d, st, ap⟩, k⟩ j) (fun j => j ≤ (k.to Cy).length ∧ behindL ((k.to Cy).take j) st = []) (fun j => (k.to Cy).length - j) (fun _ => rfl) ?_ 0 ⟨Nat.zero_le _, rfl⟩
  intro j ⟨hj, h0⟩ ih
  apply exec_sound ctRAOk 600
  rw [nxR_go]
  refine ⟨fun hc => ?_, fun hc => no ?_⟩
  · have hc : j < (k.to Cy).length := by have := of_decide_eq_true hc; omega
    obtain ⟨q1, q2, q3, q4⟩ := cy_cell h2 hc
    have hn : (k.to Cy)[j].number = k.getInt j 1 := by rw [q4]; rfl
    refine fun _ => ⟨⟨by omega, by omega, h2.size hc⟩, q1.2.1, fun hb => ⟨⟨by omega, by omega, h2.size hc⟩, q1, cyD_ok h2 h5 hc, fun hs => ?_⟩, fun hb => ?_⟩
    · have hb : k.getInt j 1 > st := of_decide_eq_true hb
      rw [beh_hit hc h0 (by rw [hn]; exact hb), q4]
      obtain ⟨p, q, hh⟩ := cyL_sel (b := k.getInt j 0) (n := k.getInt j 1) (t := k.getInt j 2) (stands_like (d := hs 0 0) (xs := (k.cell j 3).to Int)) (stands_like (d := hs 0 1) (xs := (k.cell j 4).to Wt)) (c := CyD.cy ⟨k.getInt j 0, k.getInt j 1, k.getInt j 2, k.cell j 3, k.cell j 4⟩) rfl
      exact ret_se (fun i => match i with | 0 => p | _ => q) (se_tup (.cons (se_agg hh) (.cons (se_lb rfl) .nil)))
    · have hb : ¬k.getInt j 1 > st := of_decide_eq_false hb
      have := ih (j + 1) ⟨hc, by rw [List.take_succ_eq_append_getElem hc, behindL_snoc, if_neg (by rw [hn]; exact hb), h0]⟩ (by omega)
      rw [← wrap_succ hc (by omega)] at this
      exact this
  · have : j = (k.to Cy).length := by have := of_decide_eq_false hc; omega
    subst this
    rw [List.take_length] at h0
    rw [h0]; rfl
theorem lawApR : Law Tryz.prog 9 ((rdRl.two rdCy).sp spApplyRl) := by
  refine law_in _ (by kernel_rfl) fun H w ⟨⟨⟨a1, a2, a3, a4⟩, ⟨b1, b2, b3, b4⟩, ⟨e, s, d, st, ap⟩, k⟩, ⟨cb, cn, ct, cp, cw⟩⟩ hok hp => ?_
  obtain ⟨hx, hc⟩ := hp _ (List.mem_singleton.2 rfl)
  obtain ⟨h1, h2, h3, h4, h5⟩ := id hx
  simp only at h1 h2 h3 h4 h5
  apply goS_sound ctRBOk (fun _ => false) [(34, 1)] 600
  rw [show (rdRl.two rdCy).canon (⟨⟨a1, a2, a3, a4⟩, ⟨b1, b2, b3, b4⟩, ⟨e, s, d, st, ap⟩, k⟩, ⟨cb, cn, ct, cp, cw⟩) = [.agg [.int .i64 a1, .int .i64 a2, .int .i64 a3, .int .i64 a4, .int .i64 b1, .int .i64 b2, .int .i64 b3, .int .i64 b4, .int .i64 e, .int .i64 s, .dat d, .int .i64 st, .int .i64 ap, .dat k], .agg [.int .i64 cb, .int .i64 cn, .int .i64 ct, .dat cp, .dat cw]] from rfl, apR_in]
  show Tree.holds _ _ (RetD w H fun ds => .tup [.agg (rlL (ds 0) (ds 1) (applyRl (RlD.rl ⟨⟨a1, a2, a3, a4⟩, ⟨b1, b2, b3, b4⟩, ⟨e, s, d, st, ap⟩, k⟩) (CyD.cy ⟨cb, cn, ct, cp, cw⟩)).1), .dat ((ds 2).like (applyRl (RlD.rl ⟨⟨a1, a2, a3, a4⟩, ⟨b1, b2, b3, b4⟩, ⟨e, s, d, st, ap⟩, k⟩) (CyD.cy ⟨cb, cn, ct, cp, cw⟩)).2.1), .int .i64 (applyRl (RlD.rl ⟨⟨a1, a2, a3, a4⟩, ⟨b1, b2, b3, b4⟩, ⟨e, s, d, st, ap⟩, k⟩) (CyD.cy ⟨cb, cn, ct, cp, cw⟩)).2.2]) _
  have hdef : ckRl (RlD.rl ⟨⟨a1, a2, a3, a4⟩, ⟨b1, b2, b3, b4⟩, ⟨e, s, d, st, ap⟩, k⟩) = 0 → (applyRl (RlD.rl ⟨⟨a1, a2, a3, a4⟩, ⟨b1, b2, b3, b4⟩, ⟨e, s, d, st, ap⟩, k⟩) (CyD.cy ⟨cb, cn, ct, cp, cw⟩)) = (if cyErr (CyD.cy ⟨cb, cn, ct, cp, cw⟩) most ≠ 0 then (zRl, [], cyErr (CyD.cy ⟨cb, cn, ct, cp, cw⟩) most)
      else if cn ≤ a4 then (zRl, [], 8) else if cb > a4 then (zRl, [], 15)
      else if cb > ((k.to Cy).map Cy.number).getLastD ap then (⟨⟨a1, a2, cn, cn⟩, ⟨b1, b2, b3, b4⟩, ⟨e, s, d.to Int, st, ap⟩, k.to Cy⟩, [], 0)
      else if (offer ⟨e, s, d.to Int, st, ap⟩ cn).2.2 ≠ 0 then (zRl, [], (offer ⟨e, s, d.to Int, st, ap⟩ cn).2.2)
      else (⟨⟨a1, a2, cn, cn⟩, ⟨b1, b2, b3, b4⟩, (offer ⟨e, s, d.to Int, st, ap⟩ cn).1, k.to Cy ++ [CyD.cy ⟨cb, cn, ct, cp, cw⟩]⟩, (offer ⟨e, s, d.to Int, st, ap⟩ cn).2.1, 0)) := fun h => by
    unfold applyRl; rw [if_neg (by simp [h])]; rfl
  refine ⟨hx, fun c1 => rl3_bad ?_, fun c1 => ?_⟩
  · have c1 : ckRl (RlD.rl ⟨⟨a1, a2, a3, a4⟩, ⟨b1, b2, b3, b4⟩, ⟨e, s, d, st, ap⟩, k⟩) ≠ 0 := by simpa using c1
    unfold applyRl; rw [if_pos c1]
  have c1 : ckRl (RlD.rl ⟨⟨a1, a2, a3, a4⟩, ⟨b1, b2, b3, b4⟩, ⟨e, s, d, st, ap⟩, k⟩) = 0 := by simpa using c1
  rw [hdef c1]
  refine holds_all.2 fun hs => holds_need.2 ⟨⟨hc, D.like_is _ _, by rw [D.Is.length (α := Int), D.like_to]; decide⟩, ?_⟩
  rw [D.like_to]
  refine ⟨fun c2 => rl3_bad ?_, fun c2 => ⟨fun c3 => rl3_bad ?_, fun c3 => ⟨fun c4 => rl3_bad ?_, fun c4 => ?_⟩⟩⟩
  · have c2 : cyErr (CyD.cy ⟨cb, cn, ct, cp, cw⟩) most ≠ 0 := by simpa using c2
    rw [if_pos c2]
  all_goals (have c2' : ¬cyErr (CyD.cy ⟨cb, cn, ct, cp, cw⟩) most ≠ 0 := by simpa using c2); rw [if_neg c2']
  · rw [if_pos (of_decide_eq_true c3)]
  all_goals rw [if_neg (of_decide_eq_false c3)]
  · rw [if_pos (of_decide_eq_true c4)]
  rw [if_neg (of_decide_eq_false c4)]
  refine runs_frame (Φ := cpPhi ⟨⟨a1, a2, a3, a4⟩, ⟨b1, b2, b3, b4⟩, ⟨e, s, d, st, ap⟩, k⟩) (top := cpC ⟨⟨a1, a2, a3, a4⟩, ⟨b1, b2, b3, b4⟩, ⟨e, s, d, st, ap⟩, k⟩) cpC_pure (fun kx hk => ?_) (fun H w _ => cpRuns hx) fun v m hv => ?_
  · have h : (SV.keysL (mkJ 0 [(2, SV.ptr 0 0), (3, SV.ptr 1 0), (4, SV.ptr 2 0)] 0 80) ++ ((([] : List SFrm).flatMap fun f => SV.keysL f.tmps) ++ Mem.named [(0, OBlk.cells 29 (rlCs ⟨⟨a1, a2, a3, a4⟩, ⟨b1, b2, b3, b4⟩, ⟨e, s, d, st, ap⟩, k⟩)), (1, OBlk.cells 32 [.int .i64 cb, .int .i64 cn, .int .i64 ct, SV.dat cp, SV.dat cw]), (2, OBlk.cells 29 rlZ0)])).all (fun k => decide (k < 500)) = true := by kernel_rfl
    exact of_decide_eq_true (List.all_eq_true.1 h kx hk)
  · obtain ⟨p, q, rfl, rfl, ⟨p1, p3⟩, q1, q2, q3⟩ := hv
    simp only at q3 p3
    have er : (SV.agg (rlO ⟨⟨a1, a2, a3, a4⟩, ⟨b1, b2, b3, b4⟩, ⟨e, s, d, st, ap⟩, k⟩ p (.vec 3))).ren (· + 500) = .agg (rlO ⟨⟨a1, a2, a3, a4⟩, ⟨b1, b2, b3, b4⟩, ⟨e, s, d, st, ap⟩, k⟩ p (.vec 503)) := by kernel_rfl
    rw [er]
    show Runs _ _ (apB ⟨⟨a1, a2, a3, a4⟩, ⟨b1, b2, b3, b4⟩, ⟨e, s, d, st, ap⟩, k⟩ p q cb cn ct cp cw) _
    apply exec_sound ctRBOk 600
    rw [apB_go]
    have kl := D.Is.length (α := Cy) k
    have ql := D.Is.length (α := Cy) q
    rw [q3] at ql
    refine holds_all.2 fun hs0 => holds_all.2 fun hs1 => holds_need.2 ⟨⟨h2, h4⟩, holds_br.2 ⟨fun d1 => ret_rl3 (stands_dat p1 p3) (stands_dat q1 q3) stands_nils ?_, fun d1 => ?_⟩⟩
    · rw [if_pos (of_decide_eq_true d1)]
    rw [if_neg (of_decide_eq_false d1)]
    refine ⟨h1, fun hs2 => ⟨fun d2 => rl3_bad ?_, fun d2 hs3 => ⟨hc, ⟨q2, .inr rfl, ?_, ?_⟩, ?_⟩⟩⟩
    · have d2 : (offer (SrcD.src (SrcD.mk e s d st ap)) cn).2.2 ≠ 0 := by simpa using d2
      have d2 : (offer ⟨e, s, d.to Int, st, ap⟩ cn).2.2 ≠ 0 := d2
      rw [if_pos d2]; rfl
    · simp only [len_slc, List.length_cons, List.length_nil]; omega
    · simp only [len_slc, List.length_cons, List.length_nil]; omega
    · have d2 : ¬(offer (SrcD.src (SrcD.mk e s d st ap)) cn).2.2 ≠ 0 := by simpa using d2
      have d2 : ¬(offer ⟨e, s, d.to Int, st, ap⟩ cn).2.2 ≠ 0 := d2
      have hrow := rows_app (rows_of q1) (cy_one (b := cb) (n := cn) (t := ct) (D.like_is (hs3 3 0) (cp.to Int)) (D.like_to _ _) (D.like_is (hs3 3 1) (cw.to Wt)) (D.like_to _ _))
      refine ret_rl3 stands_like (stands_rows rfl hrow) stands_like ?_
      rw [if_neg d2, q3]; rfl
end Go.Proofs.YtllmgnhjljmihaaGreat
end
section
open Go Go.Proofs Sx
namespace Sx
def spCySameS (x : CyD × CyD) : SpecR := .scalar [x.1.Ok ∧ x.2.Ok ∧ x.1.cy = x.2.cy] (.lb true)
end Sx
namespace Go.Proofs.YtllmgnhjljmihaaGreat
set_option maxRecDepth 100000
set_option maxHeartbeats 0
noncomputable def ctLz : Ctrs := [(5, ctrOf (rdRl.one.sp spFewRl)), (6, ctrOf (rdCy.one.sp spFewC)), (7, ctrOf (rdNone.sp spTrue)), (10, ctrOf ((rdRl.two rdRl).sp spSameRS)), (11, ctrOf ((rdD.two rdD).sp spSameMsS)), (16, ctrOf ((rdCy.two rdCy).sp spCySameS)),
 (8, ctrOf ((rdRl.two rdCy).sp spApplyRl)), (9, ctrOf ((rdRl.two rdCy).sp spApplyRl)), (12, ctrOf ((rdRl.two rdMsg).sp spLearnRl)), (13, ctrOf ((rdRl.two rdMsg).sp spLearnRl)), (14, ctrOf (rdRl.one.sp spNextRl)), (15, ctrOf (rdRl.one.sp spNextRl))]
section
variable (o k cp cw mb ml : D) (cb cn ct mk mf mt mn mv me a1 a2 a3 a4 b1 b2 b3 b4 e s st ap : Int)

theorem cle_in : 
 let z5 := (RlD.mk (Tgt.mk a1 a2 a3 a4) (Tgt.mk b1 b2 b3 b4) (SrcD.mk e s o st ap) k)
 let z1 := (learnRl (RlD.rl z5) (MsgD.msg (MsgD.mk mk mf mt mn mv me mb ml)))
 let z2 := (Prod.fst (nextRl (RlD.rl z5)))
 let z3 := (Tgt.mk (Tgt.epoch (Rl.near (Prod.fst z1))) (Tgt.site (Rl.near (Prod.fst z1))) (Tgt.stored (Rl.near (Prod.fst z1))) (Tgt.applied (Rl.near (Prod.fst z1))))
 let z4 := (Tgt.mk (Tgt.epoch (Rl.far (Prod.fst z1))) (Tgt.site (Rl.far (Prod.fst z1))) (Tgt.stored (Rl.far (Prod.fst z1))) (Tgt.applied (Rl.far (Prod.fst z1))))
 exec Tryz.prog ctLz 400 (entry Tryz.prog 4 [.agg [.int .i64 a1, .int .i64 a2, .int .i64 a3, .int .i64 a4, .int .i64 b1, .int .i64 b2, .int .i64 b3, .int .i64 b4, .int .i64 e, .int .i64 s, .dat o, .int .i64 st, .int .i64 ap, .dat k], .agg [.int .i64 mk, .int .i64 mf, .int .i64 mt, .int .i64 mn, .int .i64 mv, .int .i64 me, .dat mb, .dat ml]]) =
 Tree.need (D.Is Int o ∧ D.Is Cy k) (.br (!(decide (D.len o ≤ 40) && decide (D.len k ≤ 40) && List.all (D.to Cy k) fewC)) (.ret (.lb true)) (.br (decide ((↑(D.len mb) : Int) > 20)) (.ret (.lb true)) (.br
 (decide ((↑(D.len ml) : Int) > 100)) (.ret (.lb true)) (.need (RlD.Ok z5) (.all fun hs => .need (RlD.Ok z5) (.all fun hs_1 => .need (RlD.Ok z5) (.all fun hs_2 => .need (RlD.Ok z5) (.all fun hs_3 => .need
 (RlD.Ok (RlD.mk z3 z4 (SrcD.mk (Src.epoch (Rl.src (Prod.fst z1))) (Src.site (Rl.src (Prod.fst z1))) (D.like (hs 0 0) (Src.offered (Rl.src (Prod.fst z1)))) (Src.stored (Rl.src (Prod.fst z1))) (Src.applied
 (Rl.src (Prod.fst z1)))) (D.like (hs 0 1) (Rl.kept (Prod.fst z1)))) ∧ RlD.Ok (RlD.mk z3 z4 (SrcD.mk (Src.epoch (Rl.src (Prod.fst z1))) (Src.site (Rl.src (Prod.fst z1))) (D.like (hs_1 0 0) (Src.offered
 (Rl.src (Prod.fst z1)))) (Src.stored (Rl.src (Prod.fst z1))) (Src.applied (Rl.src (Prod.fst z1)))) (D.like (hs_1 0 1) (Rl.kept (Prod.fst z1)))) ∧ RlD.rl (RlD.mk z3 z4 (SrcD.mk (Src.epoch (Rl.src (Prod.fst z1)))
 (Src.site (Rl.src (Prod.fst z1))) (D.like (hs 0 0) (Src.offered (Rl.src (Prod.fst z1)))) (Src.stored (Rl.src (Prod.fst z1))) (Src.applied (Rl.src (Prod.fst z1)))) (D.like (hs 0 1) (Rl.kept (Prod.fst z1)))) = RlD.rl
 (RlD.mk z3 z4 (SrcD.mk (Src.epoch (Rl.src (Prod.fst z1))) (Src.site (Rl.src (Prod.fst z1))) (D.like (hs_1 0 0) (Src.offered (Rl.src (Prod.fst z1)))) (Src.stored (Rl.src (Prod.fst z1))) (Src.applied (Rl.src
 (Prod.fst z1)))) (D.like (hs_1 0 1) (Rl.kept (Prod.fst z1))))) (.need (D.Is Msg (D.like (hs 0 2) (Prod.snd z1)) ∧ D.Is Msg (D.like (hs_1 0 2) (Prod.snd z1)) ∧ D.len (D.like (hs 0 2) (Prod.snd z1)) ≤ 1048576 ∧
 (∀ (m : Msg), List.Mem m (D.to Msg (D.like (hs 0 2) (Prod.snd z1))) → Msg.body m = [] ∧ Msg.values m = []) ∧ D.to Msg (D.like (hs 0 2) (Prod.snd z1)) = D.to Msg (D.like (hs_1 0 2) (Prod.snd z1))) (.need
 (CyD.Ok (CyD.mk (Cy.base z2) (Cy.number z2) (Cy.time z2) (D.like (hs_2 0 0) (Cy.pos z2)) (D.like (hs_2 0 1) (Cy.wr z2))) ∧ CyD.Ok (CyD.mk (Cy.base z2) (Cy.number z2) (Cy.time z2) (D.like (hs_3 0 0) (Cy.pos z2))
 (D.like (hs_3 0 1) (Cy.wr z2))) ∧ CyD.cy (CyD.mk (Cy.base z2) (Cy.number z2) (Cy.time z2) (D.like (hs_2 0 0) (Cy.pos z2)) (D.like (hs_2 0 1) (Cy.wr z2))) = CyD.cy (CyD.mk (Cy.base z2) (Cy.number z2) (Cy.time z2)
 (D.like (hs_3 0 0) (Cy.pos z2)) (D.like (hs_3 0 1) (Cy.wr z2)))) (.br (decide (Prod.snd (nextRl (RlD.rl z5)) = Prod.snd (nextRl (RlD.rl z5)))) (.ret (.lb true)) (.ret (.lb false))))))))))))) := by
 intros; kernel_rfl

end
end Go.Proofs.YtllmgnhjljmihaaGreat
end
section
open Go
namespace Sx
theorem learn_len (s : Src) (m : Msg) : (learn s m).1.offered.length ≤ s.offered.length := by
  unfold learn
  repeat' split
  all_goals first | exact Nat.le_refl _ | exact Nat.zero_le _ | exact List.length_filter_le _ _
def PlainMs (l : List Msg) : Prop := l.length ≤ 1048576 ∧ ∀ m, m ∈ l → m.body = [] ∧ m.values = []
theorem plain_nil : PlainMs [] := ⟨by simp, fun m hm => by cases hm⟩
theorem plain_one {m : Msg} (h : m.body = []) (h' : m.values = []) : PlainMs [m] := ⟨by simp, fun x hx => by rw [List.mem_singleton.1 hx]; exact ⟨h, h'⟩⟩
theorem learn_pl (s : Src) (m : Msg) : PlainMs (learn s m).2 := by
  unfold learn
  repeat' split
  all_goals first | exact plain_nil | exact plain_one rfl rfl
theorem learnRl_pl (r : Rl) (m : Msg) : PlainMs (learnRl r m).2 := by
  unfold learnRl
  split
  · exact plain_nil
  · simp only
    split
    · exact learn_pl _ _
    · exact learn_pl _ _
theorem learnRl_b {r : Rl} {m : Msg} (h : RlB r) : RlB (learnRl r m).1 := by
  have ho := learn_len r.src m
  obtain ⟨h1, h2, h3⟩ := h
  unfold learnRl
  split
  · exact ⟨h1, h2, h3⟩
  · simp only
    split
    · exact ⟨by simp only; omega, by simp, fun x hx => by cases hx⟩
    · obtain ⟨b1, b2⟩ := behind_b (n := (learn r.src m).1.applied) h2 h3
      exact ⟨by simp only; omega, b1, b2⟩
theorem zCy_ok : CyOk zCy := ⟨by simp [zCy], by simp [zCy], fun w hw => by cases hw⟩
theorem nextRl_ok {r : Rl} (h : RlB r) : CyOk (nextRl r).1 := by
  unfold nextRl
  split
  · exact zCy_ok
  · split
    · exact zCy_ok
    · rename_i c t he
      have : c ∈ behindL r.kept r.src.stored := by rw [he]; exact List.mem_cons_self
      exact h.2.2 c (List.mem_filter.1 this).1
theorem same_ms {l : List Msg} {o o' : D} (h : PlainMs l) : D.Is Msg (o.like l) ∧ D.Is Msg (o'.like l) ∧ (o.like l).len ≤ 1048576 ∧ (∀ m, m ∈ (o.like l).to Msg → m.body = [] ∧ m.values = []) ∧ (o.like l).to Msg = (o'.like l).to Msg :=
  ⟨D.like_is _ _, D.like_is _ _, by rw [D.Is.length (α := Msg), D.like_to]; exact h.1, by rw [D.like_to]; exact h.2, by rw [D.like_to, D.like_to]⟩
theorem like_cy {c : Cy} {p w : D} (h : CyOk c) : CyD.Ok ⟨c.base, c.number, c.time, p.like c.pos, w.like c.wr⟩ ∧ CyD.cy ⟨c.base, c.number, c.time, p.like c.pos, w.like c.wr⟩ = c := by
  refine ⟨⟨D.like_is _ _, D.like_is _ _, ?_, ?_, ?_⟩, ?_⟩
  · simp only; rw [D.Is.length (α := Int), D.like_to]; exact h.1
  · simp only; rw [D.Is.length (α := Wt), D.like_to]; exact h.2.1
  · simp only [D.like_to]; exact h.2.2
  · simp only [CyD.cy, D.like_to]
theorem same_cy {c : Cy} {p w p' w' : D} (h : CyOk c) : CyD.Ok ⟨c.base, c.number, c.time, p.like c.pos, w.like c.wr⟩ ∧ CyD.Ok ⟨c.base, c.number, c.time, p'.like c.pos, w'.like c.wr⟩ ∧ CyD.cy ⟨c.base, c.number, c.time, p.like c.pos, w.like c.wr⟩ = CyD.cy ⟨c.base, c.number, c.time, p'.like c.pos, w'.like c.wr⟩ :=
  ⟨(like_cy h).1, (like_cy h).1, by rw [(like_cy (p := p) (w := w) h).2, (like_cy (p := p') (w := w') h).2]⟩
def spCAp (x : RlD × CyD) : SpecR := .scalar [x.1.src.d.Is Int ∧ x.1.k.Is Cy ∧ x.2.p.Is Int ∧ x.2.w.Is Wt] (.lb true)
def spCLe (x : RlD × MsgD) : SpecR := .scalar [x.1.src.d.Is Int ∧ x.1.k.Is Cy] (.lb true)
end Sx
end
section
open Go Go.Proofs Sx
namespace Go.Proofs.YtllmgnhjljmihaaGreat
set_option maxRecDepth 100000
set_option maxHeartbeats 0
theorem lawCySS : Law Tryz.prog 16 ((rdCy.two rdCy).sp spCySameS) :=
  law_sure lawSameC fun b => ⟨_, _, _, rfl, rfl, fun hp => by
    obtain ⟨h1, h2, h3⟩ := hp _ (List.mem_singleton.2 rfl)
    exact ⟨fun p hp' => by rw [List.mem_singleton.1 hp']; exact ⟨h1, h2⟩, decide_eq_true h3⟩⟩
theorem ctLzOk : Ctrs.Ok Tryz.prog ctLz := by
  intro x hx
  simp only [ctLz, List.mem_cons, List.not_mem_nil, or_false] at hx
  rcases hx with rfl | rfl | rfl | rfl | rfl | rfl | rfl | rfl | rfl | rfl | rfl | rfl
  · exact ctrOf_ok lawFwR
  · exact ctrOf_ok lawFewC
  · exact ctrOf_ok lawAwk
  · exact ctrOf_ok lawSmS
  · exact ctrOf_ok lawSms
  · exact ctrOf_ok lawCySS
  · exact ctrOf_ok lawApl
  · exact ctrOf_ok lawApR
  · exact ctrOf_ok lawCln
  · exact ctrOf_ok lawLnR
  · exact ctrOf_ok lawNxt
  · exact ctrOf_ok lawNxR
theorem lawCLe : Law Tryz.prog 4 ((rdRl.two rdMsg).sp spCLe) := by
  refine law_in _ (by kernel_rfl) fun H w ⟨⟨⟨a1, a2, a3, a4⟩, ⟨b1, b2, b3, b4⟩, ⟨e, s, o, st, ap⟩, k⟩, ⟨mk, mf, mt, mn, mv, me, mb, ml⟩⟩ hok hp => ?_
  obtain ⟨h1, h2⟩ := hp _ (List.mem_singleton.2 rfl)
  simp only at h1 h2
  apply exec_sound ctLzOk 400
  rw [show (rdRl.two rdMsg).canon (⟨⟨a1, a2, a3, a4⟩, ⟨b1, b2, b3, b4⟩, ⟨e, s, o, st, ap⟩, k⟩, ⟨mk, mf, mt, mn, mv, me, mb, ml⟩) = [.agg [.int .i64 a1, .int .i64 a2, .int .i64 a3, .int .i64 a4, .int .i64 b1, .int .i64 b2, .int .i64 b3, .int .i64 b4, .int .i64 e, .int .i64 s, .dat o, .int .i64 st, .int .i64 ap, .dat k], .agg [.int .i64 mk, .int .i64 mf, .int .i64 mt, .int .i64 mn, .int .i64 mv, .int .i64 me, .dat mb, .dat ml]] from rfl, cle_in]
  refine holds_need.2 ⟨⟨h1, h2⟩, holds_br.2 ⟨fun _ => ret_lbt, fun hf => holds_br.2 ⟨fun _ => ret_lbt, fun _ => holds_br.2 ⟨fun _ => ret_lbt, fun _ => ?_⟩⟩⟩⟩
  have hx : RlD.Ok ⟨⟨a1, a2, a3, a4⟩, ⟨b1, b2, b3, b4⟩, ⟨e, s, o, st, ap⟩, k⟩ := fewRl_ok h1 h2 (by simpa using hf)
  have hb := learnRl_b (m := MsgD.msg ⟨mk, mf, mt, mn, mv, me, mb, ml⟩) (rlD_b hx)
  exact ⟨hx, fun _ => ⟨hx, fun _ => ⟨hx, fun _ => ⟨hx, fun _ => ⟨same_rl hb, same_ms (learnRl_pl _ _), same_cy (nextRl_ok (rlD_b hx)), fun _ => ret_lbt, fun h => absurd rfl (of_decide_eq_false h)⟩⟩⟩⟩⟩
end Go.Proofs.YtllmgnhjljmihaaGreat
end
