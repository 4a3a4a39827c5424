/- Layer 15: lists, walked (2). -/
import Derived.KernelRfl
import Derived.Test.YtdiekahpofifeaaOvtoN16
set_option linter.all false
section
open Go Go.Proofs Sx
namespace Go.Proofs.Ytdiekahpofifeaa
set_option maxRecDepth 100000
set_option maxHeartbeats 0
noncomputable def atL (d : D) (k w j : Int) : Conf := Conf.mk (SFrm.mk 48 none none [Item.inLoop (cAt Try.prog 48 [1, 0, 1, 0, 0]), Item.inBlock 0, Item.code (cAt Try.prog 48 [1, 1])]
 (mkJ 0 [(0, .dat d), (3, .ptr 0 0), (5, .int .i64 j)] 0 19)) [] [(0, .cells 77 [.int .i64 k, .int .i64 w])]
noncomputable def intsL (a b : D) (j : Int) : Conf := Conf.mk (SFrm.mk 53 none none [Item.inLoop (cAt Try.prog 53 [1, 1, 0, 1, 0, 0]), Item.inBlock 0, Item.code (cAt Try.prog 53 [1, 1, 1])]
 (mkJ 0 [(0, .dat a), (1, .dat b), (5, .int .i64 j)] 0 26)) [] []
noncomputable def evsL (a b : D) (j : Int) : Conf := Conf.mk (SFrm.mk 55 none none [Item.inLoop (cAt Try.prog 55 [1, 1, 0, 1, 0, 0]), Item.inBlock 0, Item.code (cAt Try.prog 55 [1, 1, 1])]
 (mkJ 0 [(0, .dat a), (1, .dat b), (5, .int .i64 j)] 0 26)) [] []
noncomputable def secsL (a b : D) (j : Int) : Conf := Conf.mk (SFrm.mk 74 none none [Item.inLoop (cAt Try.prog 74 [1, 1, 0, 1, 0, 0]), Item.inBlock 0, Item.code (cAt Try.prog 74 [1, 1, 1])]
 (mkJ 0 [(0, .dat a), (1, .dat b), (5, .int .i64 j)] 0 26)) [] []
noncomputable def wtsL (a b : D) (j : Int) : Conf := Conf.mk (SFrm.mk 54 none none [Item.inLoop (cAt Try.prog 54 [1, 1, 0, 1, 0, 0]), Item.inBlock 0, Item.code (cAt Try.prog 54 [1, 1, 1])]
 (mkJ 0 [(0, .dat a), (1, .dat b), (5, .int .i64 j)] 0 55)) [] []
noncomputable def hasL (a : D) (n j : Int) : Conf := Conf.mk (SFrm.mk 70 none none [Item.inLoop (cAt Try.prog 70 [1, 0, 1, 0, 0]), Item.inBlock 0, Item.code (cAt Try.prog 70 [1, 1])]
 (mkJ 0 [(0, .dat a), (1, .int .i64 n), (5, .int .i64 j)] 0 18)) [] []
noncomputable def setL (a : D) (n j : Int) : Conf := Conf.mk (SFrm.mk 46 none none [Item.inLoop (cAt Try.prog 46 [1, 0, 1, 0, 0]), Item.inBlock 0, Item.code (cAt Try.prog 46 [1, 1])]
 (mkJ 0 [(0, .dat a), (1, .int .i64 n), (5, .int .i64 j)] 0 41)) [] []
noncomputable def fewL (ha hb hc : D) (j : Int) : Conf := Conf.mk (SFrm.mk 11 none none [Item.inLoop (cAt Try.prog 11 [1, 1, 0, 1, 0, 0]), Item.inBlock 0, Item.code (cAt Try.prog 11 [1, 1, 1])]
 (mkJ 0 [(1, .ptr 0 0), (3, .int .i64 j)] 0 49)) [] [(0, .cells 26 [.dat ha, .dat hb, .dat hc])]
section
variable (n j k w : Int) (d e a b i o ha hb hc : D) (v s : Int)
theorem at_go : exec Try.prog [] 200 (unroll (atL d k w j)) =
 Tree.br (decide (j < (↑(D.len d) : Int)))
 (.all fun hs =>
 .need (0 ≤ j ∧ j < (↑(D.len d) : Int) ∧ D.sz d = 2)
 (.need (D.HasCells d (Int.toNat j) 0 [FT.int .i64, FT.int .i64])
 (.br (decide (D.getInt d (Int.toNat j) 0 = k) && (decide (D.getInt d (Int.toNat j) 1 = w) && true))
 (.ret (.int .i64 j))
 (.leaf
 (Conf.mk
 (SFrm.mk 48 none none
 [Item.inLoop (cAt Try.prog 48 [1, 0, 1, 0, 0]), Item.inBlock 0, Item.code (cAt Try.prog 48 [1, 1])]
 (mkJ 0 [(0, .dat d), (3, .ptr 0 0), (5, .int .i64 (IntKind.wrap .i64 (j + 1)))] 0
 19))
 [] [(0, OBlk.cells 77 [.int .i64 k, .int .i64 w])])))))
 (.ret (.int .i64 (Int.neg 1))) := by kernel_rfl

theorem ints_go : exec Try.prog [] 200 (unroll (intsL a b j)) =
 Tree.br (decide (j < (↑(D.len a) : Int)))
 (.all fun hs =>
 .need (0 ≤ j ∧ j < (↑(D.len a) : Int) ∧ D.sz a = 1)
 (.need (D.HasCell a (Int.toNat j) 0 (FT.int .i64))
 (.need (0 ≤ j ∧ j < (↑(D.len b) : Int) ∧ D.sz b = 1)
 (.need (D.HasCell b (Int.toNat j) 0 (FT.int .i64))
 (.br (D.getInt a (Int.toNat j) 0 != D.getInt b (Int.toNat j) 0) (.ret (.lb false))
 (.leaf
 (Conf.mk
 (SFrm.mk 53 none none
 [Item.inLoop (cAt Try.prog 53 [1, 1, 0, 1, 0, 0]), Item.inBlock 0,
 Item.code (cAt Try.prog 53 [1, 1, 1])]
 (mkJ 0 [(0, .dat a), (1, .dat b), (5, .int .i64 (IntKind.wrap .i64 (j + 1)))] 0
 26))
 [] [])))))))
 (.ret (.lb true)) := by kernel_rfl

theorem evs_go : exec Try.prog [] 200 (unroll (evsL a b j)) =
 Tree.br (decide (j < (↑(D.len a) : Int)))
 (.all fun hs =>
 .need (0 ≤ j ∧ j < (↑(D.len a) : Int) ∧ D.sz a = 2)
 (.need (D.HasCells a (Int.toNat j) 0 [FT.int .i64, FT.int .i64])
 (.need (0 ≤ j ∧ j < (↑(D.len b) : Int) ∧ D.sz b = 2)
 (.need (D.HasCells b (Int.toNat j) 0 [FT.int .i64, FT.int .i64])
 (.br
 (!(decide (D.getInt a (Int.toNat j) 0 = D.getInt b (Int.toNat j) 0) &&
 (decide (D.getInt a (Int.toNat j) 1 = D.getInt b (Int.toNat j) 1) && true)))
 (.ret (.lb false))
 (.leaf
 (Conf.mk
 (SFrm.mk 55 none none
 [Item.inLoop (cAt Try.prog 55 [1, 1, 0, 1, 0, 0]), Item.inBlock 0,
 Item.code (cAt Try.prog 55 [1, 1, 1])]
 (mkJ 0 [(0, .dat a), (1, .dat b), (5, .int .i64 (IntKind.wrap .i64 (j + 1)))] 0
 26))
 [] [])))))))
 (.ret (.lb true)) := by kernel_rfl

theorem secs_go : exec Try.prog [] 200 (unroll (secsL a b j)) =
 Tree.br (decide (j < (↑(D.len a) : Int)))
 (.all fun hs =>
 .need (0 ≤ j ∧ j < (↑(D.len a) : Int) ∧ D.sz a = 8)
 (.need
 (D.HasCells a (Int.toNat j) 0
 [FT.int .u8, FT.int .u8, FT.int .u8, FT.int .u8, FT.int .u8,
 FT.int .u8, FT.int .u8, FT.int .u8])
 (.need (0 ≤ j ∧ j < (↑(D.len b) : Int) ∧ D.sz b = 8)
 (.need
 (D.HasCells b (Int.toNat j) 0
 [FT.int .u8, FT.int .u8, FT.int .u8, FT.int .u8, FT.int .u8,
 FT.int .u8, FT.int .u8, FT.int .u8])
 (.br
 (!(decide (D.getInt a (Int.toNat j) 0 = D.getInt b (Int.toNat j) 0) &&
 (decide (D.getInt a (Int.toNat j) 1 = D.getInt b (Int.toNat j) 1) &&
 (decide (D.getInt a (Int.toNat j) 2 = D.getInt b (Int.toNat j) 2) &&
 (decide (D.getInt a (Int.toNat j) 3 = D.getInt b (Int.toNat j) 3) &&
 (decide (D.getInt a (Int.toNat j) 4 = D.getInt b (Int.toNat j) 4) &&
 (decide (D.getInt a (Int.toNat j) 5 = D.getInt b (Int.toNat j) 5) &&
 (decide (D.getInt a (Int.toNat j) 6 = D.getInt b (Int.toNat j) 6) &&
 (decide (D.getInt a (Int.toNat j) 7 = D.getInt b (Int.toNat j) 7) && true)))))))))
 (.ret (.lb false))
 (.leaf
 (Conf.mk
 (SFrm.mk 74 none none
 [Item.inLoop (cAt Try.prog 74 [1, 1, 0, 1, 0, 0]), Item.inBlock 0,
 Item.code (cAt Try.prog 74 [1, 1, 1])]
 (mkJ 0 [(0, .dat a), (1, .dat b), (5, .int .i64 (IntKind.wrap .i64 (j + 1)))] 0
 26))
 [] [])))))))
 (.ret (.lb true)) := by kernel_rfl

theorem wts_go : exec Try.prog [(74, ctrOf ((rdD.two rdD).sp spSecs))] 300 (unroll (wtsL a b j)) =
 Tree.br (decide (j < (↑(D.len a) : Int)))
 (.all fun hs =>
 .br (D.getInt a (Int.toNat j) 0 != D.getInt b (Int.toNat j) 0)
 (.need (0 ≤ j ∧ j < (↑(D.len a) : Int) ∧ D.sz a = 3)
 (.need (D.HasCell a (Int.toNat j) 0 (FT.int .i64))
 (.need (0 ≤ j ∧ j < (↑(D.len b) : Int) ∧ D.sz b = 3)
 (.need (D.HasCell b (Int.toNat j) 0 (FT.int .i64))
 (.need ((D.getInt a (Int.toNat j) 0 != D.getInt b (Int.toNat j) 0) = true)
 (.need ((D.getInt a (Int.toNat j) 0 != D.getInt b (Int.toNat j) 0) = true)
 (.need ((D.getInt a (Int.toNat j) 0 != D.getInt b (Int.toNat j) 0) = true)
 (.need ((D.getInt a (Int.toNat j) 0 != D.getInt b (Int.toNat j) 0) = true)
 (.need ((D.getInt a (Int.toNat j) 0 != D.getInt b (Int.toNat j) 0) = true)
 (.need ((D.getInt a (Int.toNat j) 0 != D.getInt b (Int.toNat j) 0) = true)
 (.need ((D.getInt a (Int.toNat j) 0 != D.getInt b (Int.toNat j) 0) = true)
 (.need ((D.getInt a (Int.toNat j) 0 != D.getInt b (Int.toNat j) 0) = true)
 (.need ((D.getInt a (Int.toNat j) 0 != D.getInt b (Int.toNat j) 0) = true)
 (.need ((D.getInt a (Int.toNat j) 0 != D.getInt b (Int.toNat j) 0) = true)
 (.need ((D.getInt a (Int.toNat j) 0 != D.getInt b (Int.toNat j) 0) = true)
 (.need ((D.getInt a (Int.toNat j) 0 != D.getInt b (Int.toNat j) 0) = true)
 (.ret (.lb false))))))))))))))))))
 (.br (D.getInt a (Int.toNat j) 1 != D.getInt b (Int.toNat j) 1)
 (.need (0 ≤ j ∧ j < (↑(D.len a) : Int) ∧ D.sz a = 3)
 (.need (D.HasCell a (Int.toNat j) 0 (FT.int .i64))
 (.need (0 ≤ j ∧ j < (↑(D.len b) : Int) ∧ D.sz b = 3)
 (.need (D.HasCell b (Int.toNat j) 0 (FT.int .i64))
 (.need ((D.getInt a (Int.toNat j) 0 != D.getInt b (Int.toNat j) 0) = false)
 (.need ((D.getInt a (Int.toNat j) 0 != D.getInt b (Int.toNat j) 0) = false)
 (.need ((D.getInt a (Int.toNat j) 0 != D.getInt b (Int.toNat j) 0) = false)
 (.need (0 ≤ j ∧ j < (↑(D.len a) : Int) ∧ D.sz a = 3)
 (.need ((D.getInt a (Int.toNat j) 0 != D.getInt b (Int.toNat j) 0) = false)
 (.need ((D.getInt a (Int.toNat j) 0 != D.getInt b (Int.toNat j) 0) = false)
 (.need (D.HasCell a (Int.toNat j) 1 (FT.int .i64))
 (.need ((D.getInt a (Int.toNat j) 0 != D.getInt b (Int.toNat j) 0) = false)
 (.need ((D.getInt a (Int.toNat j) 0 != D.getInt b (Int.toNat j) 0) = false)
 (.need ((D.getInt a (Int.toNat j) 0 != D.getInt b (Int.toNat j) 0) = false)
 (.need (0 ≤ j ∧ j < (↑(D.len b) : Int) ∧ D.sz b = 3)
 (.need ((D.getInt a (Int.toNat j) 0 != D.getInt b (Int.toNat j) 0) = false)
 (.need ((D.getInt a (Int.toNat j) 0 != D.getInt b (Int.toNat j) 0) = false)
 (.need (D.HasCell b (Int.toNat j) 1 (FT.int .i64))
 (.need
 ((D.getInt a (Int.toNat j) 0 != D.getInt b (Int.toNat j) 0) = false)
 (.need
 ((D.getInt a (Int.toNat j) 0 != D.getInt b (Int.toNat j) 0) = false)
 (.need
 ((D.getInt a (Int.toNat j) 1 != D.getInt b (Int.toNat j) 1) = true)
 (.need
 ((D.getInt a (Int.toNat j) 1 != D.getInt b (Int.toNat j) 1) = true)
 (.need
 ((D.getInt a (Int.toNat j) 1 != D.getInt b (Int.toNat j) 1) =
 true)
 (.need
 ((D.getInt a (Int.toNat j) 1 != D.getInt b (Int.toNat j) 1) =
 true)
 (.need
 ((D.getInt a (Int.toNat j) 1 != D.getInt b (Int.toNat j) 1) =
 true)
 (.need
 ((D.getInt a (Int.toNat j) 1 !=
 D.getInt b (Int.toNat j) 1) =
 true)
 (.need
 ((D.getInt a (Int.toNat j) 1 !=
 D.getInt b (Int.toNat j) 1) =
 true)
 (.need
 ((D.getInt a (Int.toNat j) 1 !=
 D.getInt b (Int.toNat j) 1) =
 true)
 (.need
 ((D.getInt a (Int.toNat j) 1 !=
 D.getInt b (Int.toNat j) 1) =
 true)
 (.need
 ((D.getInt a (Int.toNat j) 1 !=
 D.getInt b (Int.toNat j) 1) =
 true)
 (.need
 ((D.getInt a (Int.toNat j) 1 !=
 D.getInt b (Int.toNat j) 1) =
 true)
 (.need
 ((D.getInt a (Int.toNat j) 1 !=
 D.getInt b (Int.toNat j) 1) =
 true)
 (.need
 ((D.getInt a (Int.toNat j) 1 !=
 D.getInt b (Int.toNat j) 1) =
 true)
 (.ret
 (.lb
 false)))))))))))))))))))))))))))))))))))
 (.need (0 ≤ j ∧ j < (↑(D.len a) : Int) ∧ D.sz a = 3)
 (.need (D.HasCell a (Int.toNat j) 0 (FT.int .i64))
 (.need (0 ≤ j ∧ j < (↑(D.len b) : Int) ∧ D.sz b = 3)
 (.need (D.HasCell b (Int.toNat j) 0 (FT.int .i64))
 (.need ((D.getInt a (Int.toNat j) 0 != D.getInt b (Int.toNat j) 0) = false)
 (.need ((D.getInt a (Int.toNat j) 0 != D.getInt b (Int.toNat j) 0) = false)
 (.need ((D.getInt a (Int.toNat j) 0 != D.getInt b (Int.toNat j) 0) = false)
 (.need (0 ≤ j ∧ j < (↑(D.len a) : Int) ∧ D.sz a = 3)
 (.need ((D.getInt a (Int.toNat j) 0 != D.getInt b (Int.toNat j) 0) = false)
 (.need ((D.getInt a (Int.toNat j) 0 != D.getInt b (Int.toNat j) 0) = false)
 (.need (D.HasCell a (Int.toNat j) 1 (FT.int .i64))
 (.need ((D.getInt a (Int.toNat j) 0 != D.getInt b (Int.toNat j) 0) = false)
 (.need ((D.getInt a (Int.toNat j) 0 != D.getInt b (Int.toNat j) 0) = false)
 (.need ((D.getInt a (Int.toNat j) 0 != D.getInt b (Int.toNat j) 0) = false)
 (.need (0 ≤ j ∧ j < (↑(D.len b) : Int) ∧ D.sz b = 3)
 (.need ((D.getInt a (Int.toNat j) 0 != D.getInt b (Int.toNat j) 0) = false)
 (.need ((D.getInt a (Int.toNat j) 0 != D.getInt b (Int.toNat j) 0) = false)
 (.need (D.HasCell b (Int.toNat j) 1 (FT.int .i64))
 (.need
 ((D.getInt a (Int.toNat j) 0 != D.getInt b (Int.toNat j) 0) = false)
 (.need
 ((D.getInt a (Int.toNat j) 0 != D.getInt b (Int.toNat j) 0) = false)
 (.need
 ((D.getInt a (Int.toNat j) 1 != D.getInt b (Int.toNat j) 1) = false)
 (.need
 ((D.getInt a (Int.toNat j) 1 != D.getInt b (Int.toNat j) 1) = false)
 (.need
 ((D.getInt a (Int.toNat j) 1 != D.getInt b (Int.toNat j) 1) =
 false)
 (.need (0 ≤ j ∧ j < (↑(D.len a) : Int) ∧ D.sz a = 3)
 (.need
 ((D.getInt a (Int.toNat j) 1 != D.getInt b (Int.toNat j) 1) =
 false)
 (.need
 ((D.getInt a (Int.toNat j) 1 !=
 D.getInt b (Int.toNat j) 1) =
 false)
 (.need (D.HasCell a (Int.toNat j) 2 FT.slc)
 (.need
 ((D.getInt a (Int.toNat j) 1 !=
 D.getInt b (Int.toNat j) 1) =
 false)
 (.need
 ((D.getInt a (Int.toNat j) 1 !=
 D.getInt b (Int.toNat j) 1) =
 false)
 (.need
 ((D.getInt a (Int.toNat j) 1 !=
 D.getInt b (Int.toNat j) 1) =
 false)
 (.need
 (0 ≤ j ∧ j < (↑(D.len b) : Int) ∧ D.sz b = 3)
 (.need
 ((D.getInt a (Int.toNat j) 1 !=
 D.getInt b (Int.toNat j) 1) =
 false)
 (.need
 ((D.getInt a (Int.toNat j) 1 !=
 D.getInt b (Int.toNat j) 1) =
 false)
 (.need
 (D.HasCell b (Int.toNat j) 2 FT.slc)
 (.need
 ((D.getInt a (Int.toNat j) 1 !=
 D.getInt b (Int.toNat j) 1) =
 false)
 (.need
 (D.Is Sec (D.cell a (Int.toNat j) 2) ∧
 D.Is Sec (D.cell b (Int.toNat j) 2) ∧
 D.len (D.cell a (Int.toNat j) 2) ≤
 1048576)
 (.need
 ((D.getInt a (Int.toNat j) 1 !=
 D.getInt b (Int.toNat j) 1) =
 false)
 (.need
 ((D.getInt a (Int.toNat j) 1 !=
 D.getInt b (Int.toNat j) 1) =
 false)
 (.br
 (!decide
 (D.to Sec
 (D.cell a (Int.toNat j)
 2) =
 D.to Sec
 (D.cell b (Int.toNat j)
 2)))
 (.ret (.lb false))
 (.leaf
 (Conf.mk
 (SFrm.mk 54 none none
 [Item.inLoop
 (cAt Try.prog 54
 [1, 1, 0, 1, 0, 0]),
 Item.inBlock 0,
 Item.code
 (cAt Try.prog 54
 [1, 1, 1])]
 (mkJ 0
 [(0, .dat a),
 (1, .dat b),
 (5,
 .int .i64
 (IntKind.wrap
 .i64
 (j + 1)))]
 0 55))
 []
 [])))))))))))))))))))))))))))))))))))))))))))
 (.ret (.lb true)) := by kernel_rfl

theorem has_go : exec Try.prog [] 200 (unroll (hasL a n j)) =
 Tree.br (decide (j < (↑(D.len a) : Int)))
 (.need (0 ≤ j ∧ j < (↑(D.len a) : Int) ∧ D.sz a = 1)
 (.need (D.HasCell a (Int.toNat j) 0 (FT.int .i64))
 (.br (decide (D.getInt a (Int.toNat j) 0 = n)) (.ret (.lb true))
 (.leaf
 (Conf.mk
 (SFrm.mk 70 none none
 [Item.inLoop (cAt Try.prog 70 [1, 0, 1, 0, 0]), Item.inBlock 0, Item.code (cAt Try.prog 70 [1, 1])]
 (mkJ 0
 [(0, .dat a), (1, .int .i64 n), (5, .int .i64 (IntKind.wrap .i64 (j + 1)))] 0
 18))
 [] [])))))
 (.ret (.lb false)) := by kernel_rfl

theorem set_go : 
 let z1 : Tree := (.leaf (Conf.mk (SFrm.mk 46 none none [Item.inLoop (cAt Try.prog 46 [1, 0, 1, 0, 0]), Item.inBlock 0, Item.code (cAt Try.prog 46 [1, 1])] (mkJ 0 [(0, .dat a), (1, .int .i64 n), (5, .int .i64 (IntKind.wrap .i64 (j + 1)))] 0 41)) [] []))
 exec Try.prog [] 200 (unroll (setL a n j)) =
 Tree.br (decide (j < (↑(D.len a) : Int))) (.all fun hs => .br (decide (D.getInt a (Int.toNat j) 0 < 0)) (.need (0 ≤ j ∧ j < (↑(D.len a) : Int) ∧ D.sz a = 1) (.need (D.HasCell a (Int.toNat j) 0 (FT.int .i64))
 (.need (decide (D.getInt a (Int.toNat j) 0 < 0) = true) (.need (decide (D.getInt a (Int.toNat j) 0 < 0) = true) (.need (decide (D.getInt a (Int.toNat j) 0 < 0) = true) (.need (decide (D.getInt a (Int.toNat j) 0 < 0) = true)
 (.need (decide (D.getInt a (Int.toNat j) 0 < 0) = true) (.need (decide (D.getInt a (Int.toNat j) 0 < 0) = true) (.need (decide (D.getInt a (Int.toNat j) 0 < 0) = true) (.ret (.lb false))))))))))) (.br
 (decide (D.getInt a (Int.toNat j) 0 ≥ n)) (.need (0 ≤ j ∧ j < (↑(D.len a) : Int) ∧ D.sz a = 1) (.need (D.HasCell a (Int.toNat j) 0 (FT.int .i64)) (.need (decide (D.getInt a (Int.toNat j) 0 < 0) = false)
 (.need (decide (D.getInt a (Int.toNat j) 0 < 0) = false) (.need (decide (D.getInt a (Int.toNat j) 0 < 0) = false) (.need (0 ≤ j ∧ j < (↑(D.len a) : Int) ∧ D.sz a = 1) (.need (decide (D.getInt a (Int.toNat j) 0 < 0) = false)
 (.need (D.HasCell a (Int.toNat j) 0 (FT.int .i64)) (.need (decide (D.getInt a (Int.toNat j) 0 < 0) = false) (.need (decide (D.getInt a (Int.toNat j) 0 < 0) = false) (.need (decide (D.getInt a (Int.toNat j) 0 < 0) = false)
 (.need (decide (D.getInt a (Int.toNat j) 0 ≥ n) = true) (.need (decide (D.getInt a (Int.toNat j) 0 ≥ n) = true) (.need (decide (D.getInt a (Int.toNat j) 0 ≥ n) = true) (.need (decide (D.getInt a (Int.toNat j) 0 ≥ n) = true)
 (.need (decide (D.getInt a (Int.toNat j) 0 ≥ n) = true) (.ret (.lb false)))))))))))))))))) (.br (decide (j > 0)) (.need (0 ≤ j ∧ j < (↑(D.len a) : Int) ∧ D.sz a = 1) (.need (D.HasCell a (Int.toNat j) 0
 (FT.int .i64)) (.need (decide (D.getInt a (Int.toNat j) 0 < 0) = false) (.need (decide (D.getInt a (Int.toNat j) 0 < 0) = false) (.need (decide (D.getInt a (Int.toNat j) 0 < 0) = false) (.need (0 ≤ j ∧ j <
 (↑(D.len a) : Int) ∧ D.sz a = 1) (.need (decide (D.getInt a (Int.toNat j) 0 < 0) = false) (.need (D.HasCell a (Int.toNat j) 0 (FT.int .i64)) (.need (decide (D.getInt a (Int.toNat j) 0 < 0) = false) (.need
 (decide (D.getInt a (Int.toNat j) 0 < 0) = false) (.need (decide (D.getInt a (Int.toNat j) 0 < 0) = false) (.need (decide (D.getInt a (Int.toNat j) 0 ≥ n) = false) (.need (decide (D.getInt a (Int.toNat j) 0 ≥ n) = false)
 (.need (decide (D.getInt a (Int.toNat j) 0 ≥ n) = false) (.need (decide (j > 0) = true) (.need (decide (j > 0) = true) (.need (decide (j > 0) = true) (.need (0 ≤ j ∧ j < (↑(D.len a) : Int) ∧ D.sz a = 1)
 (.need (decide (j > 0) = true) (.need (D.HasCell a (Int.toNat j) 0 (FT.int .i64)) (.need (decide (j > 0) = true) (.need (decide (j > 0) = true) (.need (decide (j > 0) = true) (.need (decide (j > 0) = true)
 (.need (0 ≤ IntKind.wrap .i64 (j - 1) ∧ IntKind.wrap .i64 (j - 1) < (↑(D.len a) : Int) ∧ D.sz a = 1) (.need (decide (j > 0) = true) (.need (D.HasCell a (Int.toNat (IntKind.wrap .i64 (j - 1))) 0 (FT.int .i64))
 (.need (decide (j > 0) = true) (.need (decide (D.getInt a (Int.toNat j) 0 ≥ n) = false) (.need (decide (j > 0) = true) (.need (decide (D.getInt a (Int.toNat j) 0 ≥ n) = false) (.br (decide (D.getInt a
 (Int.toNat j) 0 ≤ D.getInt a (Int.toNat (IntKind.wrap .i64 (j - 1))) 0)) (.ret (.lb false)) z1)))))))))))))))))))))))))))))))) (.need (0 ≤ j ∧ j < (↑(D.len a) : Int) ∧ D.sz a = 1) (.need (D.HasCell a (Int.toNat j) 0
 (FT.int .i64)) (.need (decide (D.getInt a (Int.toNat j) 0 < 0) = false) (.need (decide (D.getInt a (Int.toNat j) 0 < 0) = false) (.need (decide (D.getInt a (Int.toNat j) 0 < 0) = false) (.need (0 ≤ j ∧ j <
 (↑(D.len a) : Int) ∧ D.sz a = 1) (.need (decide (D.getInt a (Int.toNat j) 0 < 0) = false) (.need (D.HasCell a (Int.toNat j) 0 (FT.int .i64)) (.need (decide (D.getInt a (Int.toNat j) 0 < 0) = false) (.need
 (decide (D.getInt a (Int.toNat j) 0 < 0) = false) (.need (decide (D.getInt a (Int.toNat j) 0 < 0) = false) (.need (decide (D.getInt a (Int.toNat j) 0 ≥ n) = false) (.need (decide (D.getInt a (Int.toNat j) 0 ≥ n) = false)
 (.need (decide (D.getInt a (Int.toNat j) 0 ≥ n) = false) (.need (decide (j > 0) = false) (.need (decide (j > 0) = false) (.need (decide (j > 0) = false) (.need (decide (j > 0) = false) (.need (decide (j > 0) = false)
 (.need (decide (j > 0) = false) (.need (decide (j > 0) = false) (.need (decide (j > 0) = false) (.need (decide (j > 0) = false) (.need (decide (j > 0) = false) (.need (decide (D.getInt a (Int.toNat j) 0 ≥ n) = false)
 (.need (decide (j > 0) = false) (.need (decide (D.getInt a (Int.toNat j) 0 ≥ n) = false) z1)))))))))))))))))))))))))))))) (.ret (.lb true)) := by
 intros; kernel_rfl

theorem few_go : exec Try.prog [] 200 (unroll (fewL ha hb hc j)) =
 Tree.br (decide (j < (↑(D.len ha) : Int)))
 (.need (0 ≤ j ∧ j < (↑(D.len ha) : Int) ∧ D.sz ha = 1)
 (.need (D.HasCell ha (Int.toNat j) 0 (FT.int .i64))
 (.br (decide (D.getInt ha (Int.toNat j) 0 > 24)) (.ret (.lb false))
 (.leaf
 (Conf.mk
 (SFrm.mk 11 none none
 [Item.inLoop (cAt Try.prog 11 [1, 1, 0, 1, 0, 0]), Item.inBlock 0, Item.code (cAt Try.prog 11 [1, 1, 1])]
 (mkJ 0 [(1, .ptr 0 0), (3, .int .i64 (IntKind.wrap .i64 (j + 1)))] 0 49))
 [] [(0, OBlk.cells 26 [.dat ha, .dat hb, .dat hc])])))))
 (.leaf
 (Conf.mk
 (SFrm.mk 11 none none
 [Item.inLoop (cAt Try.prog 11 [1, 1, 1, 0, 1, 0, 0]), Item.inBlock 2, Item.code (cAt Try.prog 11 [1, 1, 1, 1])]
 (mkJ 0 [(1, .ptr 0 0), (4, .int .i64 0)] 0 49))
 [] [(0, OBlk.cells 26 [.dat ha, .dat hb, .dat hc])])) := by kernel_rfl

end
end Go.Proofs.Ytdiekahpofifeaa
end
section
open Go Go.Proofs Sx
namespace Go.Proofs.Ytdiekahpofifeaa
set_option maxRecDepth 100000

theorem ctIdxOk : Ctrs.Ok Try.prog [(88, ctrOf ((rdD.two (rdFn 84)).sp spIdxBad))] := by
  intro x hx; rw [List.mem_singleton.1 hx]; exact ctrOf_ok lawIdx
theorem lawAny : Law Try.prog 83 ((rdD.two (rdFn 84)).sp spAnyBad) := by
  refine law_in _ (by kernel_rfl) fun H w ⟨d, u⟩ hok hp => ?_
  apply exec_sound ctIdxOk 200
  rw [show (rdD.two (rdFn 84)).canon (d, u) = [.dat d, .fn 84 [] []] from rfl, any_in]
  exact ⟨hp _ (List.mem_singleton.2 rfl), ret_bool (idxP_any _ _)⟩
theorem ctAnyOk : Ctrs.Ok Try.prog [(83, ctrOf ((rdD.two (rdFn 84)).sp spAnyBad))] := by
  intro x hx; rw [List.mem_singleton.1 hx]; exact ctrOf_ok lawAny
theorem lawSizes : Law Try.prog 71 (rdD.one.sp spSizes) := by
  refine law_in _ (by kernel_rfl) fun H w d hok hp => ?_
  obtain ⟨hd, hlen⟩ := hp _ (List.mem_singleton.2 rfl)
  have hl := D.Is.length (α := Int) d
  apply exec_sound ctAnyOk 200
  rw [show rdD.one.canon d = [.dat d] from rfl, cs_in]
  refine ⟨fun hc => ret_int ?_, fun hc => ⟨fun hc2 => ret_int ?_, fun hc2 => ⟨⟨hd, hlen⟩, fun h => ret_int ?_, fun h => ret_int ?_⟩⟩⟩
  · have := of_decide_eq_true hc; unfold sizesErr; rw [if_pos (by omega)]
  · have := of_decide_eq_true hc2; unfold sizesErr; rw [if_pos (by omega)]
  · have := of_decide_eq_false hc; have := of_decide_eq_false hc2; unfold sizesErr; rw [if_neg (by omega), if_pos h]
  · have := of_decide_eq_false hc; have := of_decide_eq_false hc2; unfold sizesErr; rw [if_neg (by omega), if_neg (by simp [h])]
theorem ctNewOk : Ctrs.Ok Try.prog [(71, ctrOf (rdD.one.sp spSizes)), (72, ctrOf ((rdD.two (rdFn 73)).sp spMapN))] := by
  intro x hx
  rcases List.mem_cons.1 hx with rfl | hx
  · exact ctrOf_ok lawSizes
  · rw [List.mem_singleton.1 hx]; exact ctrOf_ok lawMapN
theorem lawNewI : Law Try.prog 50 (rdD.one.sp spNewI) := by
  refine law_in _ (by kernel_rfl) fun H w d hok hp => ?_
  obtain ⟨hd, hlen⟩ := hp _ (List.mem_singleton.2 rfl)
  have hl := D.Is.length (α := Int) d
  apply exec_sound ctNewOk 200
  rw [show rdD.one.canon d = [.dat d] from rfl, new_in]
  refine ⟨⟨hd, hlen⟩, fun h => ?_, fun h => ?_⟩
  · refine ret_oneI stands_nils ?_ rfl
    unfold imgOf
    rw [if_pos (by simpa using h)]
  · have h0 : sizesErr (d.to Int) = 0 := by simpa using h
    obtain ⟨s1, s2, s3⟩ := sizesErr_ok h0
    refine ⟨⟨hd, by omega, fun n hn => by have := s3 n hn; omega⟩, fun hs => ret_oneI stands_like ?_ h0.symm⟩
    unfold imgOf
    rw [if_neg (by simp [h0])]
theorem ctSzOk : Ctrs.Ok Try.prog [(89, ctrOf ((rdD.two (rdFn 90)).sp spMapS))] := by
  intro x hx; rw [List.mem_singleton.1 hx]; exact ctrOf_ok lawMapS
theorem lawSzs : Law Try.prog 85 (rdD.one.sp spSzs) := by
  refine law_in _ (by kernel_rfl) fun H w d hok hp => ?_
  apply exec_sound ctSzOk 200
  rw [show rdD.one.canon d = [.dat d] from rfl, sz_in]
  exact ⟨hp _ (List.mem_singleton.2 rfl), fun hs => ret_one stands_like rfl⟩
theorem ctChkOk : Ctrs.Ok Try.prog [(85, ctrOf (rdD.one.sp spSzs)), (71, ctrOf (rdD.one.sp spSizes))] := by
  intro x hx
  rcases List.mem_cons.1 hx with rfl | hx
  · exact ctrOf_ok lawSzs
  · rw [List.mem_singleton.1 hx]; exact ctrOf_ok lawSizes
theorem lawChkI : Law Try.prog 76 (rdD.one.sp spChkI) := by
  refine law_in _ (by kernel_rfl) fun H w d hok hp => ?_
  obtain ⟨hd, hlen⟩ := hp _ (List.mem_singleton.2 rfl)
  have hl := D.Is.length (α := Vol) d
  apply exec_sound ctChkOk 200
  rw [show rdD.one.canon d = [.dat d] from rfl, chk_in]
  refine ⟨⟨hd, hlen⟩, fun hs => ⟨⟨D.like_is _ _, ?_⟩, ret_int (by rw [D.like_to])⟩⟩
  rw [D.Is.length (α := Int), D.like_to]; simp only [volSizes, List.length_map]; omega
theorem ctFitsOk : Ctrs.Ok Try.prog [(76, ctrOf (rdD.one.sp spChkI)), (78, ctrOf ((rdD.two rdWt).sp spFits1))] := by
  intro x hx
  rcases List.mem_cons.1 hx with rfl | hx
  · exact ctrOf_ok lawChkI
  · rw [List.mem_singleton.1 hx]; exact ctrOf_ok lawFits1
theorem lawFitsI : Law Try.prog 66 ((rdD.two rdWt).sp spFitsI) := by
  refine law_in _ (by kernel_rfl) fun H w ⟨d, ⟨v, s, e⟩⟩ hok hp => ?_
  obtain ⟨hd, he⟩ := hp _ (List.mem_singleton.2 rfl)
  apply exec_sound ctFitsOk 200
  rw [show (rdD.two rdWt).canon (d, ⟨v, s, e⟩) = [.dat d, .agg [.int .i64 v, .int .i64 s, .dat e]] from rfl, fits_in]
  refine ⟨⟨hd.1, hd.2.1⟩, fun h => ret_int ?_, fun h => ⟨⟨hd, he⟩, ret_int ?_⟩⟩
  · unfold fitsI; rw [if_pos (by simpa using h)]
  · unfold fitsI; rw [if_neg (by simpa using h)]

theorem lawAt : Law Try.prog 48 ((rdD.two rdEv).sp spAt) := by
  refine law_in _ (by kernel_rfl) fun H w ⟨d, ⟨k, e⟩⟩ hok hp => ?_
  obtain ⟨hd, hlen⟩ := hp _ (List.mem_singleton.2 rfl)
  simp only at hd hlen
  have hl := D.Is.length (α := Ev) d
  apply exec_sound (noCtr _) 200
  rw [show (rdD.two rdEv).canon (d, ⟨k, e⟩) = [.dat d, .agg [.int .i64 k, .int .i64 e]] from rfl, at_in]
  refine runs_loop (fun j : Nat => atL d k e j) (fun j => j ≤ (d.to Ev).length ∧ atEv ((d.to Ev).take j) ⟨k, e⟩ = -1) (fun j => (d.to Ev).length - j) (fun _ => rfl) ?_ 0 ⟨Nat.zero_le _, by rw [List.take_zero]; rfl⟩
  intro j ⟨hj, hpre⟩ ih
  apply exec_sound (noCtr _) 200
  rw [at_go]
  refine ⟨fun hc hs => ?_, fun hc => ret_int ?_⟩
  · have hc : j < (d.to Ev).length := by have := of_decide_eq_true hc; omega
    obtain ⟨c1, c2, c3⟩ := ev_cell hd hc
    refine ⟨⟨by omega, by omega, hd.size hc⟩, c1, fun h => ret_int ?_, fun h => ?_⟩
    · simp only [Int.toNat_natCast, c2, c3, Bool.and_true, Bool.and_eq_true, decide_eq_true_eq] at h
      exact (atEv_hit hc hpre (by rw [← h.1, ← h.2])).symm
    · have := ih (j + 1) ⟨hc, atEv_miss hc hpre (fun he => by
        simp only [Int.toNat_natCast, c2, c3, Bool.and_true, he, decide_true] at h
        cases h)⟩ (by omega)
      rw [← wrap_succ hc (by omega)] at this
      exact this
  · have := of_decide_eq_false hc
    have : j = (d.to Ev).length := by omega
    subst this
    rw [List.take_length] at hpre
    rw [show EvD.ev ⟨k, e⟩ = ⟨k, e⟩ from rfl, hpre]; rfl

theorem lawInts : Law Try.prog 53 ((rdD.two rdD).sp spInts) := by
  refine law_in _ (by kernel_rfl) fun H w ⟨a, b⟩ hok hp => ?_
  obtain ⟨ha, hb, hlen⟩ := hp _ (List.mem_singleton.2 rfl)
  simp only at ha hb hlen
  have hla := D.Is.length (α := Int) a
  have hlb := D.Is.length (α := Int) b
  apply exec_sound (noCtr _) 200
  rw [show (rdD.two rdD).canon (a, b) = [.dat a, .dat b] from rfl, ints_in]
  refine ⟨fun hc => ret_lb ?_, fun hc => ?_⟩
  · exact same_not fun he => by simp [hla, hlb, he] at hc
  have hc' : (a.to Int).length = (b.to Int).length := by simp [hla, hlb] at hc; omega
  refine runs_loop (fun j : Nat => intsL a b j) (fun j => j ≤ (a.to Int).length ∧ (a.to Int).take j = (b.to Int).take j) (fun j => (a.to Int).length - j) (fun _ => rfl) ?_ 0 ⟨Nat.zero_le _, rfl⟩
  intro j ⟨hj, hpre⟩ ih
  apply exec_sound (noCtr _) 200
  rw [ints_go]
  refine ⟨fun hc hs => ?_, fun hc => ret_lb ?_⟩
  · have hc : j < (a.to Int).length := by have := of_decide_eq_true hc; omega
    obtain ⟨c1, c2, c3⟩ := int_at ha hc
    obtain ⟨e1, e2, e3⟩ := int_at hb (hc' ▸ hc)
    refine ⟨c1, c2, e1, e2, fun h => ret_lb ?_, fun h => ?_⟩
    · refine same_not fun he => ?_
      simp only [c3, e3, he, bne_self_eq_false] at h
      cases h
    · have hx : (a.to Int)[j] = (b.to Int)[j]'(hc' ▸ hc) := by rw [c3, e3] at h; simpa using h
      have := ih (j + 1) ⟨hc, take_succ_eq hc (hc' ▸ hc) hpre hx⟩ (by omega)
      rw [← wrap_succ hc (by omega)] at this
      exact this
  · have := of_decide_eq_false hc
    exact (decide_eq_true (list_eq_of hc' (by omega) hpre)).symm

theorem lawEvs : Law Try.prog 55 ((rdD.two rdD).sp spEvs) := by
  refine law_in _ (by kernel_rfl) fun H w ⟨a, b⟩ hok hp => ?_
  obtain ⟨ha, hb, hlen⟩ := hp _ (List.mem_singleton.2 rfl)
  simp only at ha hb hlen
  have hla := D.Is.length (α := Ev) a
  have hlb := D.Is.length (α := Ev) b
  apply exec_sound (noCtr _) 200
  rw [show (rdD.two rdD).canon (a, b) = [.dat a, .dat b] from rfl, evs_in]
  refine ⟨fun hc => ret_lb ?_, fun hc => ?_⟩
  · exact same_not fun he => by simp [hla, hlb, he] at hc
  have hc' : (a.to Ev).length = (b.to Ev).length := by simp [hla, hlb] at hc; omega
  refine runs_loop (fun j : Nat => evsL a b j) (fun j => j ≤ (a.to Ev).length ∧ (a.to Ev).take j = (b.to Ev).take j) (fun j => (a.to Ev).length - j) (fun _ => rfl) ?_ 0 ⟨Nat.zero_le _, rfl⟩
  intro j ⟨hj, hpre⟩ ih
  apply exec_sound (noCtr _) 200
  rw [evs_go]
  refine ⟨fun hc hs => ?_, fun hc => ret_lb ?_⟩
  · have hc : j < (a.to Ev).length := by have := of_decide_eq_true hc; omega
    obtain ⟨c1, c2, c3⟩ := ev_cell ha hc
    obtain ⟨e1, e2, e3⟩ := ev_cell hb (hc' ▸ hc)
    refine ⟨⟨by omega, by omega, ha.size hc⟩, c1, ⟨by omega, by omega, hb.size (hc' ▸ hc)⟩, e1, fun h => ret_lb ?_, fun h => ?_⟩
    · refine same_not fun he => ?_
      simp only [Int.toNat_natCast, c2, c3, e2, e3, he, decide_true, Bool.and_true, Bool.not_true] at h
      cases h
    · have hx : (a.to Ev)[j] = (b.to Ev)[j]'(hc' ▸ hc) := by
        simp only [Int.toNat_natCast, c2, c3, e2, e3, Bool.and_true, Bool.not_eq_false', Bool.and_eq_true, decide_eq_true_eq] at h
        generalize (a.to Ev)[j] = x at h; generalize (b.to Ev)[j]'(hc' ▸ hc) = y at h
        obtain ⟨_, _⟩ := x; obtain ⟨_, _⟩ := y
        simp only at h; rw [h.1, h.2]
      have := ih (j + 1) ⟨hc, take_succ_eq hc (hc' ▸ hc) hpre hx⟩ (by omega)
      rw [← wrap_succ hc (by omega)] at this
      exact this
  · have := of_decide_eq_false hc
    exact (decide_eq_true (list_eq_of hc' (by omega) hpre)).symm

theorem lawSecs : Law Try.prog 74 ((rdD.two rdD).sp spSecs) := by
  refine law_in _ (by kernel_rfl) fun H w ⟨a, b⟩ hok hp => ?_
  obtain ⟨ha, hb, hlen⟩ := hp _ (List.mem_singleton.2 rfl)
  simp only at ha hb hlen
  have hla := D.Is.length (α := Sec) a
  have hlb := D.Is.length (α := Sec) b
  apply exec_sound (noCtr _) 200
  rw [show (rdD.two rdD).canon (a, b) = [.dat a, .dat b] from rfl, secs_in]
  refine ⟨fun hc => ret_lb ?_, fun hc => ?_⟩
  · exact same_not fun he => by simp [hla, hlb, he] at hc
  have hc' : (a.to Sec).length = (b.to Sec).length := by simp [hla, hlb] at hc; omega
  refine runs_loop (fun j : Nat => secsL a b j) (fun j => j ≤ (a.to Sec).length ∧ (a.to Sec).take j = (b.to Sec).take j) (fun j => (a.to Sec).length - j) (fun _ => rfl) ?_ 0 ⟨Nat.zero_le _, rfl⟩
  intro j ⟨hj, hpre⟩ ih
  apply exec_sound (noCtr _) 200
  rw [secs_go]
  refine ⟨fun hc hs => ?_, fun hc => ret_lb ?_⟩
  · have hc : j < (a.to Sec).length := by have := of_decide_eq_true hc; omega
    obtain ⟨c1, c2⟩ := sec_cell ha hc
    obtain ⟨e1, e2⟩ := sec_cell hb (hc' ▸ hc)
    refine ⟨⟨by omega, by omega, ha.size hc⟩, c1, ⟨by omega, by omega, hb.size (hc' ▸ hc)⟩, e1, fun h => ret_lb ?_, fun h => ?_⟩
    · refine same_not fun he => ?_
      have he2 : (a.to Sec)[j] = (b.to Sec)[j]'(hc' ▸ hc) := by simp only [he]
      rw [c2, e2] at he2
      simp only [Sec.mk.injEq] at he2
      simp [he2] at h
    · have hx : (a.to Sec)[j] = (b.to Sec)[j]'(hc' ▸ hc) := by
        rw [c2, e2]
        simp only [Int.toNat_natCast, Bool.and_true, Bool.not_eq_false', Bool.and_eq_true, decide_eq_true_eq] at h
        rw [h.1, h.2.1, h.2.2.1, h.2.2.2.1, h.2.2.2.2.1, h.2.2.2.2.2.1, h.2.2.2.2.2.2.1, h.2.2.2.2.2.2.2]
      have := ih (j + 1) ⟨hc, take_succ_eq hc (hc' ▸ hc) hpre hx⟩ (by omega)
      rw [← wrap_succ hc (by omega)] at this
      exact this
  · have := of_decide_eq_false hc
    exact (decide_eq_true (list_eq_of hc' (by omega) hpre)).symm
theorem ctSecs : Ctrs.Ok Try.prog [(74, ctrOf ((rdD.two rdD).sp spSecs))] := by
  intro x hx; rw [List.mem_singleton.1 hx]; exact ctrOf_ok lawSecs

theorem lawWts : Law Try.prog 54 ((rdD.two rdD).sp spWts) := by
  refine law_in _ (by kernel_rfl) fun H w ⟨a, b⟩ hok hp => ?_
  obtain ⟨ha, hb, hlen, hbig⟩ := hp _ (List.mem_singleton.2 rfl)
  simp only at ha hb hlen hbig
  have hla := D.Is.length (α := Wt) a
  have hlb := D.Is.length (α := Wt) b
  apply exec_sound (noCtr _) 200
  rw [show (rdD.two rdD).canon (a, b) = [.dat a, .dat b] from rfl, wts_in]
  refine ⟨fun hc => ret_lb ?_, fun hc => ?_⟩
  · exact same_not fun he => by simp [hla, hlb, he] at hc
  have hc' : (a.to Wt).length = (b.to Wt).length := by simp [hla, hlb] at hc; omega
  refine runs_loop (fun j : Nat => wtsL a b j) (fun j => j ≤ (a.to Wt).length ∧ (a.to Wt).take j = (b.to Wt).take j) (fun j => (a.to Wt).length - j) (fun _ => rfl) ?_ 0 ⟨Nat.zero_le _, rfl⟩
  intro j ⟨hj, hpre⟩ ih
  apply exec_sound ctSecs 300
  rw [wts_go]
  refine ⟨fun hc hs => ?_, fun hc => ret_lb ?_⟩
  · have hc : j < (a.to Wt).length := by have := of_decide_eq_true hc; omega
    obtain ⟨c1, c2, c3⟩ := wt_cell ha hc
    obtain ⟨e1, e2, e3⟩ := wt_cell hb (hc' ▸ hc)
    have a0 : 0 ≤ (j : Int) ∧ (j : Int) < (a.len : Int) ∧ a.sz = 3 := ⟨by omega, by omega, ha.size hc⟩
    have b0 : 0 ≤ (j : Int) ∧ (j : Int) < (b.len : Int) ∧ b.sz = 3 := ⟨by omega, by omega, hb.size (hc' ▸ hc)⟩
    have a1 : a.HasCell (Int.toNat (j : Int)) 0 (.int .i64) := c1.1
    have a2 : a.HasCell (Int.toNat (j : Int)) 1 (.int .i64) := c1.2.1
    have a3 : a.HasCell (Int.toNat (j : Int)) 2 .slc := c1.2.2.1
    have b1 : b.HasCell (Int.toNat (j : Int)) 0 (.int .i64) := e1.1
    have b2 : b.HasCell (Int.toNat (j : Int)) 1 (.int .i64) := e1.2.1
    have b3 : b.HasCell (Int.toNat (j : Int)) 2 .slc := e1.2.2.1
    have hsz := hbig _ (List.getElem_mem hc)
    rw [c3] at hsz
    have dif : (¬((a.getInt j 0 = b.getInt j 0 ∧ a.getInt j 1 = b.getInt j 1) ∧ (a.cell j 2).to Sec = (b.cell j 2).to Sec)) → (a.to Wt) ≠ (b.to Wt) := fun hn he => hn (by
      have he2 : (a.to Wt)[j] = (b.to Wt)[j]'(hc' ▸ hc) := by simp only [he]
      rw [c3, e3] at he2
      simp only [Wt.mk.injEq] at he2
      exact ⟨⟨he2.1, he2.2.1⟩, he2.2.2⟩)
    have s0 : D.Is Sec (a.cell (Int.toNat (j : Int)) 2) ∧ D.Is Sec (b.cell (Int.toNat (j : Int)) 2) ∧ D.len (a.cell (Int.toNat (j : Int)) 2) ≤ 1048576 := ⟨c2, e2, by rw [D.Is.length (α := Sec)]; exact hsz⟩
    refine ⟨fun h1 => ?_, fun h1 => ⟨fun h2 => ?_, fun h2 => ?_⟩⟩
    · have nn := dif (fun hh => by simp only [Int.toNat_natCast, hh.1.1, bne_self_eq_false] at h1; cases h1)
      repeat' first
      | exact h1
      | exact a0
      | exact b0
      | exact a1
      | exact b1
      | exact ret_lb (same_not nn)
      | refine ⟨?_, ?_⟩
    · have nn := dif (fun hh => by simp only [Int.toNat_natCast, hh.1.2, bne_self_eq_false] at h2; cases h2)
      repeat' first
      | exact h1
      | exact h2
      | exact a0
      | exact b0
      | exact a1
      | exact b1
      | exact a2
      | exact b2
      | exact ret_lb (same_not nn)
      | refine ⟨?_, ?_⟩
    · have q1 : a.getInt j 0 = b.getInt j 0 := by simpa using h1
      have q2 : a.getInt j 1 = b.getInt j 1 := by simpa using h2
      have fin : ((Tree.br (!decide (D.to Sec (a.cell (Int.toNat (j : Int)) 2) = D.to Sec (b.cell (Int.toNat (j : Int)) 2))) (Tree.ret (SV.lb false)) (Tree.leaf (wtsL a b (IntKind.i64.wrap ((j : Int) + 1))))).holds Try.prog ⟨w, H⟩ (RetS w H (.bool (decide (a.to Wt = b.to Wt))))) := by
        refine ⟨fun h3 => ret_lb (same_not (dif fun hh => ?_)), fun h3 => ?_⟩
        · simp only [Int.toNat_natCast, hh.2, decide_true, Bool.not_true] at h3; cases h3
        · have q3 : (a.cell j 2).to Sec = (b.cell j 2).to Sec := by simpa using h3
          have := ih (j + 1) ⟨hc, take_succ_eq hc (hc' ▸ hc) hpre (by rw [c3, e3, q1, q2, q3])⟩ (by omega)
          rw [← wrap_succ hc (by omega)] at this
          exact this
      repeat' first
      | exact h1
      | exact h2
      | exact a0
      | exact b0
      | exact a1
      | exact b1
      | exact a2
      | exact b2
      | exact a3
      | exact b3
      | exact s0
      | exact fin
      | refine ⟨?_, ?_⟩
  · have := of_decide_eq_false hc
    exact (decide_eq_true (list_eq_of hc' (by omega) hpre)).symm

theorem lawHas : Law Try.prog 70 ((rdD.two rdInt).sp spHas) := by
  refine law_in _ (by kernel_rfl) fun H w ⟨a, n⟩ hok hp => ?_
  obtain ⟨ha, hlen⟩ := hp _ (List.mem_singleton.2 rfl)
  simp only at ha hlen
  have hl := D.Is.length (α := Int) a
  apply exec_sound (noCtr _) 200
  rw [show (rdD.two rdInt).canon (a, n) = [.dat a, .int .i64 n] from rfl, has_in]
  refine runs_loop (fun j : Nat => hasL a n j) (fun j => j ≤ (a.to Int).length ∧ ((a.to Int).take j).contains n = false) (fun j => (a.to Int).length - j) (fun _ => rfl) ?_ 0 ⟨Nat.zero_le _, by simp⟩
  intro j ⟨hj, hpre⟩ ih
  apply exec_sound (noCtr _) 200
  rw [has_go]
  refine ⟨fun hc => ?_, fun hc => ret_lb ?_⟩
  · have hc : j < (a.to Int).length := by have := of_decide_eq_true hc; omega
    obtain ⟨c1, c2, c3⟩ := int_at ha hc
    rw [c3]
    refine ⟨c1, c2, fun h => ret_lb ?_, fun h => ?_⟩
    · symm
      rw [List.contains_iff_mem]
      have := of_decide_eq_true h
      rw [← this]; exact List.getElem_mem hc
    · have := ih (j + 1) ⟨hc, by rw [take_has hc, hpre, Bool.false_or]; simpa using h⟩ (by omega)
      rw [← wrap_succ hc (by omega)] at this
      exact this
  · have := of_decide_eq_false hc
    have : j = (a.to Int).length := by omega
    subst this
    rw [List.take_length] at hpre
    exact hpre.symm

theorem lawSet : Law Try.prog 46 ((rdD.two rdInt).sp spSet) := by
  refine law_in _ (by kernel_rfl) fun H w ⟨a, n⟩ hok hp => ?_
  obtain ⟨ha, hlen⟩ := hp _ (List.mem_singleton.2 rfl)
  simp only at ha hlen
  have hl := D.Is.length (α := Int) a
  apply exec_sound (noCtr _) 200
  rw [show (rdD.two rdInt).canon (a, n) = [.dat a, .int .i64 n] from rfl, set_in]
  refine runs_loop (fun j : Nat => setL a n j) (fun j => j ≤ (a.to Int).length ∧ setUp (a.to Int) n j = true) (fun j => (a.to Int).length - j) (fun _ => rfl) ?_ 0 ⟨Nat.zero_le _, rfl⟩
  intro j ⟨hj, hpre⟩ ih
  apply exec_sound (noCtr _) 200
  rw [set_go]
  refine ⟨fun hc hs => ?_, fun hc => ret_lb ?_⟩
  · have hc : j < (a.to Int).length := by have := of_decide_eq_true hc; omega
    obtain ⟨c1, c2, c3⟩ := int_at ha hc
    have hg : (a.to Int).getD j 0 = a.getInt j 0 := by rw [getD_lt hc]; exact c3.symm
    have bad : ∀ x : Bool, (decide (0 ≤ a.getInt j 0) && (decide (a.getInt j 0 < n) && x)) = false → (j = 0 ∨ ((a.to Int).getD (j - 1) 0 < a.getInt j 0) ↔ x = true) → false = setH (a.to Int) n := fun x h1 h2 => by
      refine (setH_false hc ?_).symm
      rw [hg]
      have : (decide (j = 0) || decide ((a.to Int).getD (j - 1) 0 < a.getInt j 0)) = x := by
        rw [Bool.eq_iff_iff, ← h2]; simp
      rw [this]; exact h1
    have nxt : (decide (0 ≤ a.getInt j 0) && (decide (a.getInt j 0 < n) && (decide (j = 0) || decide ((a.to Int).getD (j - 1) 0 < a.getInt j 0)))) = true → Runs Try.prog ⟨w, H⟩ (setL a n (IntKind.i64.wrap ((j : Int) + 1))) (RetS w H (.bool (setH (a.to Int) n))) := fun h => by
      have := ih (j + 1) ⟨hc, by simp only [setUp]; rw [hpre, hg, h]; rfl⟩ (by omega)
      rw [← wrap_succ hc (by omega)] at this
      exact this
    refine ⟨fun h1 => ?_, fun h1 => ⟨fun h2 => ?_, fun h2 => ⟨fun h3 => ?_, fun h3 => ?_⟩⟩⟩
    · have h1' : a.getInt j 0 < 0 := of_decide_eq_true h1
      have fin := bad _ (by rw [decide_eq_false (p := 0 ≤ a.getInt j 0) (by omega)]; rfl) (show _ ↔ decide (j = 0 ∨ ((a.to Int).getD (j - 1) 0 < a.getInt j 0)) = true from (by simp))
      repeat' first
      | exact h1
      | exact c1
      | exact c2
      | exact ret_lb fin
      | refine ⟨?_, ?_⟩
    · have h2' : a.getInt j 0 ≥ n := of_decide_eq_true h2
      have fin := bad _ (by rw [decide_eq_false (p := a.getInt j 0 < n) (by omega)]; simp) (show _ ↔ decide (j = 0 ∨ ((a.to Int).getD (j - 1) 0 < a.getInt j 0)) = true from (by simp))
      repeat' first
      | exact h1
      | exact h2
      | exact c1
      | exact c2
      | exact ret_lb fin
      | refine ⟨?_, ?_⟩
    · have h1' : ¬a.getInt j 0 < 0 := of_decide_eq_false h1
      have h2' : ¬a.getInt j 0 ≥ n := of_decide_eq_false h2
      have h3' : (j : Int) > 0 := of_decide_eq_true h3
      have hw : IntKind.i64.wrap ((j : Int) - 1) = ((j - 1 : Nat) : Int) := by rw [wrap64 (by omega) (by omega)]; omega
      obtain ⟨d1, d2, d3⟩ := int_at ha (show j - 1 < (a.to Int).length by omega)
      rw [hw]
      have hg1 : (a.to Int).getD (j - 1) 0 = a.getInt (Int.toNat ((j - 1 : Nat) : Int)) 0 := by rw [getD_lt (by omega)]; exact d3.symm
      have fin : ((Tree.br (decide (a.getInt (Int.toNat (j : Int)) 0 ≤ a.getInt (Int.toNat ((j - 1 : Nat) : Int)) 0)) (Tree.ret (SV.lb false)) (Tree.leaf (setL a n (IntKind.i64.wrap ((j : Int) + 1))))).holds Try.prog ⟨w, H⟩ (RetS w H (.bool (setH (a.to Int) n)))) := by
        refine ⟨fun h4 => ret_lb (bad false (by simp) ?_), fun h4 => nxt ?_⟩
        · have : a.getInt j 0 ≤ a.getInt (Int.toNat ((j - 1 : Nat) : Int)) 0 := of_decide_eq_true h4
          rw [hg1]
          constructor
          · intro h; omega
          · intro h; cases h
        · have : ¬a.getInt j 0 ≤ a.getInt (Int.toNat ((j - 1 : Nat) : Int)) 0 := of_decide_eq_false h4
          rw [hg1]
          simp only [Bool.and_eq_true, Bool.or_eq_true, decide_eq_true_eq]
          omega
      repeat' first
      | exact h1
      | exact h2
      | exact h3
      | exact c1
      | exact c2
      | exact d1
      | exact d2
      | exact fin
      | refine ⟨?_, ?_⟩
    · have h1' : ¬a.getInt j 0 < 0 := of_decide_eq_false h1
      have h2' : ¬a.getInt j 0 ≥ n := of_decide_eq_false h2
      have h3' : ¬(j : Int) > 0 := of_decide_eq_false h3
      have fin := nxt (by simp only [Bool.and_eq_true, Bool.or_eq_true, decide_eq_true_eq]; omega)
      repeat' first
      | exact h1
      | exact h2
      | exact h3
      | exact c1
      | exact c2
      | exact fin
      | refine ⟨?_, ?_⟩
  · have := of_decide_eq_false hc
    have : j = (a.to Int).length := by omega
    subst this
    exact hpre.symm
theorem lawIssE : Law Try.prog 57 (rdInt.one.sp spIssE) := by
  refine law_in _ (by kernel_rfl) fun H w n hok hp => ?_
  apply exec_sound (noCtr _) 200
  rw [show rdInt.one.canon n = [.int .i64 n] from rfl, iss_in]
  exact ret_D (fun _ => default) (fun _ _ => rfl) (fun _ _ => ⟨trivial, trivial, trivial⟩)
theorem lawAckE : Law Try.prog 49 (rdInt.one.sp spAckE) := by
  refine law_in _ (by kernel_rfl) fun H w n hok hp => ?_
  apply exec_sound (noCtr _) 200
  rw [show rdInt.one.canon n = [.int .i64 n] from rfl, ack_in]
  exact ret_D (fun _ => default) (fun _ _ => rfl) (fun _ _ => ⟨trivial, trivial, trivial⟩)
end Go.Proofs.Ytdiekahpofifeaa
end
section
open Go Go.Proofs Sx
namespace Go.Proofs.Ytdiekahpofifeaa
set_option maxRecDepth 100000
set_option maxHeartbeats 0
noncomputable def ctC1 : Ctrs := [(50, ctrOf (rdD.one.sp spNewI)), (66, ctrOf ((rdD.two rdWt).sp spFitsI))]
noncomputable def ctC2 : Ctrs := [(52, ctrOf (rdD.one.sp spSizes)), (56, ctrOf ((rdD.two rdWt).sp spFitsR)), (48, ctrOf ((rdD.two rdEv).sp spAt)), (57, ctrOf (rdInt.one.sp spIssE)), (49, ctrOf (rdInt.one.sp spAckE))]
noncomputable def few2L (ha hb hc : D) (j : Int) : Conf := Conf.mk (SFrm.mk 11 none none [Item.inLoop (cAt Try.prog 11 [1, 1, 1, 0, 1, 0, 0]), Item.inBlock 2, Item.code (cAt Try.prog 11 [1, 1, 1, 1])]
 (mkJ 0 [(1, .ptr 0 0), (4, .int .i64 j)] 0 49)) [] [(0, .cells 26 [.dat ha, .dat hb, .dat hc])]
noncomputable def issetL (ha hb hc i o a : D) (j : Int) : Conf := Conf.mk (SFrm.mk 44 none none [Item.inLoop (cAt Try.prog 44 [1, 0, 1, 0, 0]), Item.inBlock 0, Item.code (cAt Try.prog 44 [1, 1])]
 (mkJ 0 [(1, .dat a), (2, .ptr 0 0), (7, .dat a), (8, .int .i64 a.len), (9, .int .i64 j)] 0 38)) [] [(0, .cells 81 [.dat ha, .dat hb, .dat hc, .dat i, .dat o])]
section
variable (n j k w : Int) (d e a b i o ha hb hc : D) (v s : Int)
theorem few2_go : exec Try.prog [] 200 (unroll (few2L ha hb hc j)) =
 Tree.br (decide (j < (↑(D.len hb) : Int)))
 (.need (0 ≤ j ∧ j < (↑(D.len hb) : Int) ∧ D.sz hb = 3)
 (.need (D.HasCell hb (Int.toNat j) 2 FT.slc)
 (.br (decide ((↑(D.len (D.cell hb (Int.toNat j) 2)) : Int) > 30)) (.ret (.lb false))
 (.leaf
 (Conf.mk
 (SFrm.mk 11 none none
 [Item.inLoop (cAt Try.prog 11 [1, 1, 1, 0, 1, 0, 0]), Item.inBlock 2,
 Item.code (cAt Try.prog 11 [1, 1, 1, 1])]
 (mkJ 0 [(1, .ptr 0 0), (4, .int .i64 (IntKind.wrap .i64 (j + 1)))] 0 49))
 [] [(0, OBlk.cells 26 [.dat ha, .dat hb, .dat hc])])))))
 (.ret (.lb true)) := by kernel_rfl

theorem isset_go : exec Try.prog [] 300 (unroll (issetL ha hb hc i o a j)) =
 Tree.br (decide (j < (↑(D.len a) : Int)))
 (.need (0 ≤ j ∧ j < (↑(D.len a) : Int) ∧ D.sz a = 1)
 (.need (D.HasCell a (Int.toNat j) 0 (FT.int .i64))
 (.br (decide (D.getInt a (Int.toNat j) 0 < 0)) (.ret (.lb false))
 (.br (decide (D.getInt a (Int.toNat j) 0 ≥ (↑(D.len hb) : Int))) (.ret (.lb false))
 (.br (decide (j > 0))
 (.need
 (0 ≤ IntKind.wrap .i64 (j - 1) ∧
 IntKind.wrap .i64 (j - 1) < (↑(D.len a) : Int) ∧ D.sz a = 1)
 (.need (D.HasCell a (Int.toNat (IntKind.wrap .i64 (j - 1))) 0 (FT.int .i64))
 (.br
 (decide (D.getInt a (Int.toNat j) 0 ≤ D.getInt a (Int.toNat (IntKind.wrap .i64 (j - 1))) 0))
 (.ret (.lb false))
 (.leaf
 (Conf.mk
 (SFrm.mk 44 none none
 [Item.inLoop (cAt Try.prog 44 [1, 0, 1, 0, 0]), Item.inBlock 0,
 Item.code (cAt Try.prog 44 [1, 1])]
 (mkJ 0
 [(1, .dat a), (2, .ptr 0 0), (7, .dat a), (8, .int .i64 (↑(D.len a) : Int)),
 (9, .int .i64 (IntKind.wrap .i64 (j + 1)))]
 0 38))
 [] [(0, OBlk.cells 81 [.dat ha, .dat hb, .dat hc, .dat i, .dat o])])))))
 (.leaf
 (Conf.mk
 (SFrm.mk 44 none none
 [Item.inLoop (cAt Try.prog 44 [1, 0, 1, 0, 0]), Item.inBlock 0, Item.code (cAt Try.prog 44 [1, 1])]
 (mkJ 0
 [(1, .dat a), (2, .ptr 0 0), (7, .dat a), (8, .int .i64 (↑(D.len a) : Int)),
 (9, .int .i64 (IntKind.wrap .i64 (j + 1)))]
 0 38))
 [] [(0, OBlk.cells 81 [.dat ha, .dat hb, .dat hc, .dat i, .dat o])])))))))
 (.ret (.lb true)) := by kernel_rfl

theorem ck_in : exec Try.prog ctC1 400 (entry Try.prog 41 [.agg [.dat ha, .dat hb, .dat hc]]) =
 Tree.need (D.Is Int ha ∧ D.len ha ≤ 1048576)
 (.all fun hs =>
 .br (sizesErr (D.to Int ha) != 0)
 (.ret
 (SV.tup [.agg [.nils, .nils, .nils, .nils, .nils], .int .i64 (sizesErr (D.to Int ha))]))
 (.br (decide ((↑(D.len hb) : Int) > 4096))
 (.ret (SV.tup [.agg [.nils, .nils, .nils, .nils, .nils], .int .i64 6]))
 (.leaf
 (Conf.mk
 (SFrm.mk 41 none none
 [Item.inLoop (cAt Try.prog 41 [1, 1, 1, 1, 1, 0, 1, 0, 0]), Item.inBlock 0,
 Item.code (cAt Try.prog 41 [1, 1, 1, 1, 1, 1])]
 (mkJ 0
 [(1, .ptr 0 0), (2, .ptr 1 0), (4, .ptr 2 0), (5, .dat (D.like (hs 0 0) (imgOf (D.to Int ha)))),
 (31, .dat hb), (32, .int .i64 (↑(D.len hb) : Int)), (33, .int .i64 0)]
 0 71))
 []
 [(0, OBlk.cells 26 [.dat ha, .dat hb, .dat hc]),
 (1, OBlk.cells 81 [.nils, .nils, .nils, .nils, .nils]),
 (2, OBlk.cells 81 [.dat ha, .dat hb, .dat hc, .nils, .nils])])))) := by kernel_rfl

theorem ck2_in : exec Try.prog ctC2 400 (entry Try.prog 24 [.agg [.dat ha, .dat hb, .dat hc]]) =
 Tree.need (D.Is Int ha ∧ D.len ha ≤ 1048576)
 (.br (sizesErr (D.to Int ha) != 0) (.ret (.int .i64 (sizesErr (D.to Int ha))))
 (.br (decide ((↑(D.len hb) : Int) > 4096)) (.ret (.int .i64 6))
 (.leaf
 (Conf.mk
 (SFrm.mk 24 none none
 [Item.inLoop (cAt Try.prog 24 [1, 1, 1, 0, 1, 0, 0]), Item.inBlock 0,
 Item.code (cAt Try.prog 24 [1, 1, 1, 1])]
 (mkJ 0 [(1, .ptr 0 0), (4, .int .i64 0)] 0 93))
 [] [(0, OBlk.cells 26 [.dat ha, .dat hb, .dat hc])])))) := by kernel_rfl

end
end Go.Proofs.Ytdiekahpofifeaa
end
section
open Go Go.Proofs Sx
namespace Go.Proofs.Ytdiekahpofifeaa
set_option maxRecDepth 100000
set_option maxHeartbeats 0
noncomputable def ckA (ha hb hc im : D) (j : Int) : Conf := Conf.mk (SFrm.mk 41 none none [Item.inLoop (cAt Try.prog 41 [1, 1, 1, 1, 1, 0, 1, 0, 0]), Item.inBlock 0, Item.code (cAt Try.prog 41 [1, 1, 1, 1, 1, 1])]
 (mkJ 0 [(1, .ptr 0 0), (2, .ptr 1 0), (4, .ptr 2 0), (5, .dat im), (31, .dat hb), (32, .int .i64 hb.len), (33, .int .i64 j)] 0 71)) [] [(0, .cells 26 [.dat ha, .dat hb, .dat hc]), (1, .cells 81 [.nils, .nils, .nils, .nils, .nils]), (2, .cells 81 [.dat ha, .dat hb, .dat hc, .nils, .nils])]
noncomputable def crA (ha hb hc : D) (j : Int) : Conf := Conf.mk (SFrm.mk 24 none none [Item.inLoop (cAt Try.prog 24 [1, 1, 1, 0, 1, 0, 0]), Item.inBlock 0, Item.code (cAt Try.prog 24 [1, 1, 1, 1])]
 (mkJ 0 [(1, .ptr 0 0), (4, .int .i64 j)] 0 93)) [] [(0, .cells 26 [.dat ha, .dat hb, .dat hc])]
section
variable (n j k w : Int) (d e a b i o ha hb hc im : D) (v s : Int)
theorem ckA_go : exec Try.prog ctC1 400 (unroll (ckA ha hb hc im j)) =
 Tree.br (decide (j < (↑(D.len hb) : Int)))
 (.need (0 ≤ j ∧ j < (↑(D.len hb) : Int) ∧ D.sz hb = 3)
 (.need (D.HasCells hb (Int.toNat j) 0 [FT.int .i64, FT.int .i64, FT.slc])
 (.need
 (ImgOk im ∧
 WtD.Ok (WtD.mk (D.getInt hb (Int.toNat j) 0) (D.getInt hb (Int.toNat j) 1) (D.cell hb (Int.toNat j) 2)))
 (.br
 (fitsI (D.to Vol im)
 (WtD.wt
 (WtD.mk (D.getInt hb (Int.toNat j) 0) (D.getInt hb (Int.toNat j) 1) (D.cell hb (Int.toNat j) 2))) !=
 0)
 (.ret
 (SV.tup
 [.agg [.nils, .nils, .nils, .nils, .nils],
 .int .i64
 (fitsI (D.to Vol im)
 (WtD.wt
 (WtD.mk (D.getInt hb (Int.toNat j) 0) (D.getInt hb (Int.toNat j) 1)
 (D.cell hb (Int.toNat j) 2))))]))
 (.leaf
 (Conf.mk
 (SFrm.mk 41 none none
 [Item.inLoop (cAt Try.prog 41 [1, 1, 1, 1, 1, 0, 1, 0, 0]), Item.inBlock 0,
 Item.code (cAt Try.prog 41 [1, 1, 1, 1, 1, 1])]
 (mkJ 0
 [(1, .ptr 0 0), (2, .ptr 1 0), (4, .ptr 2 0), (5, .dat im), (31, .dat hb),
 (32, .int .i64 (↑(D.len hb) : Int)),
 (33, .int .i64 (IntKind.wrap .i64 (j + 1)))]
 0 71))
 []
 [(0, OBlk.cells 26 [.dat ha, .dat hb, .dat hc]),
 (1, OBlk.cells 81 [.nils, .nils, .nils, .nils, .nils]),
 (2, OBlk.cells 81 [.dat ha, .dat hb, .dat hc, .nils, .nils])]))))))
 (.leaf
 (Conf.mk
 (SFrm.mk 41 none none
 [Item.inLoop (cAt Try.prog 41 [1, 1, 1, 1, 1, 1, 0, 1, 0, 0]), Item.inBlock 2,
 Item.code (cAt Try.prog 41 [1, 1, 1, 1, 1, 1, 1])]
 (mkJ 0
 [(1, .ptr 0 0), (2, .ptr 1 0), (4, .ptr 2 0), (46, .dat hc),
 (47, .int .i64 (↑(D.len hc) : Int)), (48, .int .i64 0)]
 0 71))
 []
 [(0, OBlk.cells 26 [.dat ha, .dat hb, .dat hc]),
 (1, OBlk.cells 81 [.nils, .nils, .nils, .nils, .nils]),
 (2, OBlk.cells 81 [.dat ha, .dat hb, .dat hc, .nils, .nils])])) := by kernel_rfl

theorem crA_go : exec Try.prog ctC2 400 (unroll (crA ha hb hc j)) =
 Tree.br (decide (j < (↑(D.len hb) : Int)))
 (.all fun hs =>
 .need (0 ≤ j ∧ j < (↑(D.len hb) : Int) ∧ D.sz hb = 3)
 (.need (D.HasCells hb (Int.toNat j) 0 [FT.int .i64, FT.int .i64, FT.slc])
 (.need
 (D.Is Int ha ∧
 D.len ha ≤ 1048576 ∧
 (∀ (n : Int), List.Mem n (D.to Int ha) → 1 ≤ n ∧ n ≤ 4096) ∧
 WtD.Ok (WtD.mk (D.getInt hb (Int.toNat j) 0) (D.getInt hb (Int.toNat j) 1) (D.cell hb (Int.toNat j) 2)))
 (.br
 (fitsErr (D.to Int ha)
 (WtD.wt
 (WtD.mk (D.getInt hb (Int.toNat j) 0) (D.getInt hb (Int.toNat j) 1) (D.cell hb (Int.toNat j) 2))) !=
 0)
 (.ret
 (.int .i64
 (fitsErr (D.to Int ha)
 (WtD.wt
 (WtD.mk (D.getInt hb (Int.toNat j) 0) (D.getInt hb (Int.toNat j) 1) (D.cell hb (Int.toNat j) 2))))))
 (.leaf
 (Conf.mk
 (SFrm.mk 24 none none
 [Item.inLoop (cAt Try.prog 24 [1, 1, 1, 0, 1, 0, 0]), Item.inBlock 0,
 Item.code (cAt Try.prog 24 [1, 1, 1, 1])]
 (mkJ 0 [(1, .ptr 0 0), (4, .int .i64 (IntKind.wrap .i64 (j + 1)))] 0 93))
 [] [(0, OBlk.cells 26 [.dat ha, .dat hb, .dat hc])]))))))
 (.leaf
 (Conf.mk
 (SFrm.mk 24 none none
 [Item.inLoop (cAt Try.prog 24 [1, 1, 1, 1, 1, 0, 1, 0, 0]), Item.inBlock 2,
 Item.code (cAt Try.prog 24 [1, 1, 1, 1, 1, 1])]
 (mkJ 0 [(1, .ptr 0 0), (6, .int .i64 0), (7, .int .i64 0)] 0 93))
 [] [(0, OBlk.cells 26 [.dat ha, .dat hb, .dat hc])])) := by kernel_rfl

end
end Go.Proofs.Ytdiekahpofifeaa
end
section
open Go Go.Proofs Sx
namespace Go.Proofs.Ytdiekahpofifeaa
set_option maxRecDepth 100000
set_option maxHeartbeats 0
noncomputable def ckB (ha hb hc t u : D) (j : Int) : Conf := Conf.mk (SFrm.mk 41 none none [Item.inLoop (cAt Try.prog 41 [1, 1, 1, 1, 1, 1, 0, 1, 0, 0]), Item.inBlock 2, Item.code (cAt Try.prog 41 [1, 1, 1, 1, 1, 1, 1])]
 (mkJ 0 [(1, .ptr 0 0), (2, .ptr 1 0), (4, .ptr 2 0), (46, .dat hc), (47, .int .i64 hc.len), (48, .int .i64 j)] 0 71)) [] [(0, .cells 26 [.dat ha, .dat hb, .dat hc]), (1, .cells 81 [.nils, .nils, .nils, .nils, .nils]), (2, .cells 81 [.dat ha, .dat hb, .dat hc, .vec 3, .vec 4]), (3, .arr 3 t), (4, .arr 3 u)]
noncomputable def crB (ha hb hc : D) (n j : Int) : Conf := Conf.mk (SFrm.mk 24 none none [Item.inLoop (cAt Try.prog 24 [1, 1, 1, 1, 1, 0, 1, 0, 0]), Item.inBlock 2, Item.code (cAt Try.prog 24 [1, 1, 1, 1, 1, 1])]
 (mkJ 0 [(1, .ptr 0 0), (6, .int .i64 n), (7, .int .i64 j)] 0 93)) [] [(0, .cells 26 [.dat ha, .dat hb, .dat hc])]
section
variable (n j k w : Int) (ha hb hc t u : D) (v s : Int)
theorem ckB_go : 
 let z2 := (SFrm.mk 41 none none [Item.inLoop (cAt Try.prog 41 [1, 1, 1, 1, 1, 1, 0, 1, 0, 0]), Item.inBlock 2, Item.code (cAt Try.prog 41 [1, 1, 1, 1, 1, 1, 1])] (mkJ 0 [(1, .ptr 0 0), (2, .ptr 1 0), (4, .ptr 2 0), (46, .dat hc), (47, .int .i64 (↑(D.len hc) : Int)), (48, .int .i64 (IntKind.wrap .i64 (j + 1)))] 0 71))
 let z1 : Tree := (.leaf (Conf.mk z2 [] [(0, OBlk.cells 26 [.dat ha, .dat hb, .dat hc]), (1, OBlk.cells 81 [.nils, .nils, .nils, .nils, .nils]), (2, OBlk.cells 81 [.dat ha, .dat hb, .dat hc, .vec 3, .vec 4]), (3, OBlk.arr 3 t), (4, OBlk.arr 3 u)]))
 let z3 : Tree := (.ret (SV.tup [.agg [.nils, .nils, .nils, .nils, .nils], .int .i64 3]))
 exec Try.prog ctC1 600 (unroll (ckB ha hb hc t u j)) =
 Tree.br (decide (j < (↑(D.len hc) : Int))) (.need (0 ≤ j ∧ j < (↑(D.len hc) : Int) ∧ D.sz hc = 2) (.need (D.HasCells hc (Int.toNat j) 0 [FT.int .i64, FT.int .i64]) (.br (decide (D.getInt hc (Int.toNat j) 0 = 0))
 (.all fun hs => .br (D.getInt hc (Int.toNat j) 1 != (↑(D.len t) : Int)) (.need ((D.getInt hc (Int.toNat j) 1 != (↑(D.len t) : Int)) = true) (.need ((D.getInt hc (Int.toNat j) 1 != (↑(D.len t) : Int)) = true)
 (.need ((D.getInt hc (Int.toNat j) 1 != (↑(D.len t) : Int)) = true) (.need ((D.getInt hc (Int.toNat j) 1 != (↑(D.len t) : Int)) = true) (.need ((D.getInt hc (Int.toNat j) 1 != (↑(D.len t) : Int)) = true)
 (.need ((D.getInt hc (Int.toNat j) 1 != (↑(D.len t) : Int)) = true) (.need ((D.getInt hc (Int.toNat j) 1 != (↑(D.len t) : Int)) = true) (.need ((D.getInt hc (Int.toNat j) 1 != (↑(D.len t) : Int)) = true)
 (.need ((D.getInt hc (Int.toNat j) 1 != (↑(D.len t) : Int)) = true) (.need ((D.getInt hc (Int.toNat j) 1 != (↑(D.len t) : Int)) = true) (.br true z3 z1))))))))))) (.need ((D.getInt hc (Int.toNat j) 1 !=
 (↑(D.len t) : Int)) = false) (.need ((D.getInt hc (Int.toNat j) 1 != (↑(D.len t) : Int)) = false) (.need ((D.getInt hc (Int.toNat j) 1 != (↑(D.len t) : Int)) = false) (.need ((D.getInt hc (Int.toNat j) 1 !=
 (↑(D.len t) : Int)) = false) (.need ((D.getInt hc (Int.toNat j) 1 != (↑(D.len t) : Int)) = false) (.need ((D.getInt hc (Int.toNat j) 1 != (↑(D.len t) : Int)) = false) (.need ((D.getInt hc (Int.toNat j) 1 !=
 (↑(D.len t) : Int)) = false) (.need ((D.getInt hc (Int.toNat j) 1 != (↑(D.len t) : Int)) = false) (.need ((D.getInt hc (Int.toNat j) 1 != (↑(D.len t) : Int)) = false) (.need ((D.getInt hc (Int.toNat j) 1 !=
 (↑(D.len t) : Int)) = false) (.br (decide (D.getInt hc (Int.toNat j) 1 ≥ (↑(D.len hb) : Int))) (.br true z3 z1) (.all fun hs => .need (D.sz t = 1 ∧ D.Fits (D.slc (D.hd (hs 8 0)) 1 [[D.int .i64 j]]) 1 ∧
 (D.len t + D.len (D.slc (D.hd (hs 8 0)) 1 [[D.int .i64 j]])) * 8 ≤ 140737488355328 ∧ D.len t + D.len (D.slc (D.hd (hs 8 0)) 1 [[D.int .i64 j]]) ≤ 9223372036854775807) (.need (D.sz u = 1 ∧ D.Fits (D.slc
 (D.hd (hs 15 0)) 1 [[D.int .i64 (Int.neg 1)]]) 1 ∧ (D.len u + D.len (D.slc (D.hd (hs 15 0)) 1 [[D.int .i64 (Int.neg 1)]])) * 8 ≤ 140737488355328 ∧ D.len u + D.len (D.slc (D.hd (hs 15 0)) 1 [[D.int .i64
 (Int.neg 1)]]) ≤ 9223372036854775807) (.br false (.ret (SV.tup [.agg [.nils, .nils, .nils, .nils, .nils], .int .i64 0])) (.leaf (Conf.mk z2 [] [(0, OBlk.cells 26 [.dat ha, .dat hb, .dat hc]), (1, OBlk.cells 81 [.nils, .nils, .nils, .nils, .nils]),
 (2, OBlk.cells 81 [.dat ha, .dat hb, .dat hc, .vec 3, .vec 4]), (3, OBlk.arr 3 (D.slc (D.hd (hs 9 0)) 1 (List.append (D.rows t) (D.rows (D.slc (D.hd (hs 8 0)) 1 [[D.int .i64 j]]))))), (4, OBlk.arr 3 (D.slc
 (D.hd (hs 16 0)) 1 (List.append (D.rows u) (D.rows (D.slc (D.hd (hs 15 0)) 1 [[D.int .i64 (Int.neg 1)]])))))]))))))))))))))))) (.br (decide (D.getInt hc (Int.toNat j) 0 = 1)) (.all fun hs => .br (decide
 (D.getInt hc (Int.toNat j) 1 < 0)) (.need (decide (D.getInt hc (Int.toNat j) 1 < 0) = true) (.need (decide (D.getInt hc (Int.toNat j) 1 < 0) = true) (.need (decide (D.getInt hc (Int.toNat j) 1 < 0) = true)
 (.need (decide (D.getInt hc (Int.toNat j) 1 < 0) = true) (.need (decide (D.getInt hc (Int.toNat j) 1 < 0) = true) (.need (decide (D.getInt hc (Int.toNat j) 1 < 0) = true) (.need (decide (D.getInt hc (Int.toNat j) 1 < 0) = true)
 (.need (decide (D.getInt hc (Int.toNat j) 1 < 0) = true) (.need (decide (D.getInt hc (Int.toNat j) 1 < 0) = true) (.need (decide (D.getInt hc (Int.toNat j) 1 < 0) = true) (.br true (.ret (SV.tup [.agg [.nils, .nils, .nils, .nils, .nils], .int .i64 7])) z1)))))))))))
 (.need (decide (D.getInt hc (Int.toNat j) 1 < 0) = false) (.need (decide (D.getInt hc (Int.toNat j) 1 < 0) = false) (.need (decide (D.getInt hc (Int.toNat j) 1 < 0) = false) (.need (decide (D.getInt hc
 (Int.toNat j) 1 < 0) = false) (.need (decide (D.getInt hc (Int.toNat j) 1 < 0) = false) (.need (decide (D.getInt hc (Int.toNat j) 1 < 0) = false) (.need (decide (D.getInt hc (Int.toNat j) 1 < 0) = false)
 (.need (decide (D.getInt hc (Int.toNat j) 1 < 0) = false) (.need (decide (D.getInt hc (Int.toNat j) 1 < 0) = false) (.need (decide (D.getInt hc (Int.toNat j) 1 < 0) = false) (.br (decide (D.getInt hc (Int.toNat j) 1 ≥
 (↑(D.len t) : Int))) (.br true (.ret (SV.tup [.agg [.nils, .nils, .nils, .nils, .nils], .int .i64 7])) z1) (.all fun hs => .need (0 ≤ D.getInt hc (Int.toNat j) 1 ∧ D.getInt hc (Int.toNat j) 1 < (↑(D.len u) : Int) ∧ D.sz u = 1)
 (.need (D.HasCell u (Int.toNat (D.getInt hc (Int.toNat j) 1)) 0 (FT.int .i64) ∧ D.sz u = 1) (.br (decide (D.getInt u (Int.toNat (D.getInt hc (Int.toNat j) 1)) 0 ≥ 0)) (.br true (.ret (SV.tup [.agg [.nils, .nils, .nils, .nils, .nils], .int .i64 8])) z1)
 (.all fun hs => .need (0 ≤ D.getInt hc (Int.toNat j) 1 ∧ D.getInt hc (Int.toNat j) 1 < (↑(D.len u) : Int) ∧ D.sz u = 1) (.need (Int.toNat (D.getInt hc (Int.toNat j) 1) < D.len u ∧ 1 ≤ D.sz u ∧ D.sz u = 1)
 (.br false (.ret (SV.tup [.agg [.nils, .nils, .nils, .nils, .nils], .int .i64 0])) (.leaf (Conf.mk z2 [] [(0, OBlk.cells 26 [.dat ha, .dat hb, .dat hc]), (1, OBlk.cells 81 [.nils, .nils, .nils, .nils, .nils]),
 (2, OBlk.cells 81 [.dat ha, .dat hb, .dat hc, .vec 3, .vec 4]), (3, OBlk.arr 3 t), (4, OBlk.arr 3 (D.setCells u (Int.toNat (D.getInt hc (Int.toNat j) 1)) 0 [D.int .i64 j]))])))))))))))))))))))) (.br true z3 z1)))))
 (.br (decide ((↑(D.len t) : Int) < (↑(D.len hb) : Int))) z3 (.ret (SV.tup [.agg [.dat ha, .dat hb, .dat hc, .dat t, .dat u], .int .i64 0]))) := by
 intros; kernel_rfl

theorem crB_go : exec Try.prog ctC2 400 (unroll (crB ha hb hc n j)) =
 Tree.br (decide (j < (↑(D.len hc) : Int)))
 (.need (0 ≤ j ∧ j < (↑(D.len hc) : Int) ∧ D.sz hc = 2)
 (.need (D.HasCells hc (Int.toNat j) 0 [FT.int .i64, FT.int .i64])
 (.br (decide (D.getInt hc (Int.toNat j) 0 = 0))
 (.br (D.getInt hc (Int.toNat j) 1 != n) (.ret (.int .i64 3))
 (.br (decide (n ≥ (↑(D.len hb) : Int))) (.ret (.int .i64 3))
 (.leaf
 (Conf.mk
 (SFrm.mk 24 none none
 [Item.inLoop (cAt Try.prog 24 [1, 1, 1, 1, 1, 0, 1, 0, 0]), Item.inBlock 2,
 Item.code (cAt Try.prog 24 [1, 1, 1, 1, 1, 1])]
 (mkJ 0
 [(1, .ptr 0 0), (6, .int .i64 (IntKind.wrap .i64 (n + 1))),
 (7, .int .i64 (IntKind.wrap .i64 (j + 1)))]
 0 93))
 [] [(0, OBlk.cells 26 [.dat ha, .dat hb, .dat hc])]))))
 (.br (D.getInt hc (Int.toNat j) 0 != 1) (.ret (.int .i64 3))
 (.all fun hs =>
 .need (0 ≤ (↑0 : Int) ∧ (↑0 : Int) ≤ j ∧ j ≤ (↑(D.len hc) : Int) ∧ D.Fits hc 2)
 (.need (D.Is Ev (D.sub hc 0 (Int.toNat j)) ∧ D.len (D.sub hc 0 (Int.toNat j)) ≤ 1048576)
 (.br
 (decide
 (atEv (D.to Ev (D.sub hc 0 (Int.toNat j))) (EvD.ev (EvD.mk 0 (D.getInt hc (Int.toNat j) 1))) < 0))
 (.ret (.int .i64 7))
 (.all fun hs =>
 .need (0 ≤ (↑0 : Int) ∧ (↑0 : Int) ≤ j ∧ j ≤ (↑(D.len hc) : Int) ∧ D.Fits hc 2)
 (.need (D.Is Ev (D.sub hc 0 (Int.toNat j)) ∧ D.len (D.sub hc 0 (Int.toNat j)) ≤ 1048576)
 (.br
 (decide
 (atEv (D.to Ev (D.sub hc 0 (Int.toNat j)))
 (EvD.ev (EvD.mk (D.getInt hc (Int.toNat j) 0) (D.getInt hc (Int.toNat j) 1))) ≥
 0))
 (.ret (.int .i64 8))
 (.leaf
 (Conf.mk
 (SFrm.mk 24 none none
 [Item.inLoop (cAt Try.prog 24 [1, 1, 1, 1, 1, 0, 1, 0, 0]), Item.inBlock 2,
 Item.code (cAt Try.prog 24 [1, 1, 1, 1, 1, 1])]
 (mkJ 0
 [(1, .ptr 0 0), (6, .int .i64 n),
 (7, .int .i64 (IntKind.wrap .i64 (j + 1)))]
 0 93))
 [] [(0, OBlk.cells 26 [.dat ha, .dat hb, .dat hc])]))))))))))))
 (.br (decide (n < (↑(D.len hb) : Int))) (.ret (.int .i64 3)) (.ret (.int .i64 0))) := by kernel_rfl

end
end Go.Proofs.Ytdiekahpofifeaa
end
section
open Go
namespace Sx
theorem runEv_step {n : Nat} {l : List Ev} {i : Nat} (hi : i < l.length) (h0 : (runEv n l i).1 = 0) : runEv n l (i + 1) = evStep n i (runEv n l i).2 l[i] := by
  have hl : l[i]? = some l[i] := List.getElem?_eq_getElem hi
  simp only [runEv, hl]
  rw [if_neg (by simp [h0])]
theorem runEv_stop {n : Nat} {l : List Ev} {i : Nat} (h : (runEv n l i).1 ≠ 0) : ∀ k, runEv n l (i + k) = runEv n l i
  | 0 => rfl
  | k + 1 => by
    have ih := runEv_stop h k
    show runEv n l ((i + k) + 1) = _
    simp only [runEv]
    rw [ih, if_pos h]
theorem checkH_sz {h : Hist} (h1 : sizesErr h.sizes ≠ 0) : checkH h = (sizesErr h.sizes, zTl) := by unfold checkH; rw [if_pos h1]
theorem checkH_many {h : Hist} (h1 : sizesErr h.sizes = 0) (h2 : h.writes.length > 4096) : checkH h = (6, zTl) := by unfold checkH; rw [if_neg (by simp [h1]), if_pos h2]
theorem checkH_fit {h : Hist} (h1 : sizesErr h.sizes = 0) (h2 : ¬h.writes.length > 4096) (h3 : firstErr h.sizes h.writes ≠ 0) : checkH h = (firstErr h.sizes h.writes, zTl) := by
  unfold checkH; rw [if_neg (by simp [h1]), if_neg h2, if_pos h3]
theorem checkH_ev {h : Hist} (h1 : sizesErr h.sizes = 0) (h2 : ¬h.writes.length > 4096) (h3 : firstErr h.sizes h.writes = 0) : checkH h =
    if (runEv h.writes.length h.events h.events.length).1 ≠ 0 then ((runEv h.writes.length h.events h.events.length).1, zTl)
    else if (runEv h.writes.length h.events h.events.length).2.issued.length < h.writes.length then (3, zTl)
    else (0, (runEv h.writes.length h.events h.events.length).2) := by
  unfold checkH; rw [if_neg (by simp [h1]), if_neg h2, if_neg (by simp [h3])]
theorem checkH_evErr {h : Hist} (h1 : sizesErr h.sizes = 0) (h2 : ¬h.writes.length > 4096) (h3 : firstErr h.sizes h.writes = 0) {i : Nat} (hi : i < h.events.length) (h0 : (runEv h.writes.length h.events i).1 = 0) {k : Int}
    (hk : (evStep h.writes.length i (runEv h.writes.length h.events i).2 h.events[i]).1 = k) (hk0 : k ≠ 0) : checkH h = (k, zTl) := by
  have hs := runEv_step (n := h.writes.length) hi h0
  have hne : (runEv h.writes.length h.events (i + 1)).1 ≠ 0 := by rw [hs, hk]; exact hk0
  obtain ⟨d, hd⟩ := Nat.exists_eq_add_of_le (show i + 1 ≤ h.events.length by omega)
  have hst := runEv_stop hne d
  rw [← hd] at hst
  rw [checkH_ev h1 h2 h3, hst, if_pos hne, hs, hk]
def onOk (e : Int) (d : D) : D := if e = 0 then d else .slc none 0 []
theorem onOk_ok (d : D) : onOk 0 d = d := if_pos rfl
theorem onOk_bad {e : Int} (h : e ≠ 0) (d : D) : onOk e d = .slc none 0 [] := if_neg h
noncomputable def ckSV (x : HiD) (ds : Nat → D) : SV := .tup [.agg [.dat (onOk (checkH x.hist).1 x.s), .dat (onOk (checkH x.hist).1 x.w), .dat (onOk (checkH x.hist).1 x.e), .dat ((ds 0).like (checkH x.hist).2.issued), .dat ((ds 1).like (checkH x.hist).2.acked)], .int .i64 (checkH x.hist).1]
noncomputable def spCk (x : HiD) : SpecR := .data [x.Right] (ckSV x)
def spCkI (x : HiD) : SpecR := .scalar [x.Right] (.int .i64 (checkH x.hist).1)

section
variable {P : Program} {w : World} {H : HV}
theorem ret_ck0 {x : HiD} {e : Int} (h : checkH x.hist = (e, zTl)) (he : e ≠ 0) : (Tree.ret (.tup [.agg [.nils, .nils, .nils, .nils, .nils], .int .i64 e])).holds P ⟨w, H⟩ (RetD w H (ckSV x)) := by
  have hn : (D.slc none 0 []).Is Int := is_nil _ _
  have e1 : (D.slc none 0 []).like (zTl.issued) = D.slc none 0 [] := D.like_self hn rfl
  have e2 : (D.slc none 0 []).like (zTl.acked) = D.slc none 0 [] := D.like_self hn rfl
  have hz : ∀ H', (D.slc none 0 []).Ok H' ∧ (D.slc none 0 []).IsSlc := fun H' => ⟨.nil 0, _, _, _, rfl⟩
  refine ret_D (fun _ => .slc none 0 []) (fun E E' => ?_) (fun H' ho => ?_)
  · simp only [ckSV, h, onOk_bad he, e1, e2]; simp [SV.den, SV.denL, D.val, hval]
  · simp only [ckSV, h, onOk_bad he, e1, e2, SV.Ok, SV.OkL]; exact ⟨⟨hz H', hz H', hz H', hz H', hz H', trivial⟩, trivial, trivial⟩
theorem ret_ck1 {x : HiD} {t u : D} (ht : t.Is Int) (hu : u.Is Int) (h : checkH x.hist = (0, ⟨t.to Int, u.to Int⟩)) : (Tree.ret (.tup [.agg [.dat x.s, .dat x.w, .dat x.e, .dat t, .dat u], .int .i64 0])).holds P ⟨w, H⟩ (RetD w H (ckSV x)) := by
  refine ret_D (fun i => match i with | 0 => t | _ => u) (fun E E' => ?_) (fun H' ho => ?_)
  · simp only [ckSV, h, onOk_ok, D.like_self ht rfl, D.like_self hu rfl]; simp [SV.den, SV.denL]
  · simp only [ckSV, h, onOk_ok, D.like_self ht rfl, D.like_self hu rfl]; exact ho
end
end Sx
end
section
open Go Go.Proofs Sx
namespace Go.Proofs.Ytdiekahpofifeaa
set_option maxRecDepth 100000

theorem ctC1Ok : Ctrs.Ok Try.prog ctC1 := by
  intro x hx
  rcases List.mem_cons.1 hx with rfl | hx
  · exact ctrOf_ok lawNewI
  · rw [List.mem_singleton.1 hx]; exact ctrOf_ok lawFitsI
theorem ctC2Ok : Ctrs.Ok Try.prog ctC2 := by
  intro x hx
  simp only [ctC2, List.mem_cons, List.not_mem_nil, or_false] at hx
  rcases hx with rfl | rfl | rfl | rfl | rfl
  · exact ctrOf_ok lawSizesR
  · exact ctrOf_ok lawFitsR
  · exact ctrOf_ok lawAt
  · exact ctrOf_ok lawIssE
  · exact ctrOf_ok lawAckE

theorem ckB_loop {H : HV} {w : World} {ha hb hc : D} (hR : (HiD.mk ha hb hc).Right) (h1 : sizesErr (ha.to Int) = 0) (h2 : ¬(hb.to Wt).length > 4096) (h3 : firstErr (ha.to Int) (hb.to Wt) = 0) :
    Runs Try.prog ⟨w, H⟩ (ckB ha hb hc (.slc none 1 []) (.slc none 1 []) 0) (RetD w H (ckSV ⟨ha, hb, hc⟩)) := by
  obtain ⟨ra, rb, rc, la, lb, lc, rd⟩ := hR
  simp only at ra rb rc la lb lc rd
  have el := D.Is.length (α := Ev) hc
  have bl := D.Is.length (α := Wt) hb
  have errs : ∀ {i : Nat} (hi : i < (hc.to Ev).length) (h0 : (runEv (hb.to Wt).length (hc.to Ev) i).1 = 0) {k : Int}, (evStep (hb.to Wt).length i (runEv (hb.to Wt).length (hc.to Ev) i).2 (hc.to Ev)[i]).1 = k → k ≠ 0 → checkH (HiD.mk ha hb hc).hist = (k, zTl) :=
    fun hi h0 => fun hk hk0 => checkH_evErr (h := (HiD.mk ha hb hc).hist) h1 h2 h3 hi h0 hk hk0
  refine runs_loop (fun p : (D × D) × Nat => ckB ha hb hc p.1.1 p.1.2 p.2) (fun p => p.2 ≤ (hc.to Ev).length ∧ (runEv (hb.to Wt).length (hc.to Ev) p.2).1 = 0 ∧ (p.1.1.Is Int ∧ p.1.1.sz = 1 ∧ p.1.1.to Int = (runEv (hb.to Wt).length (hc.to Ev) p.2).2.issued) ∧
    (p.1.2.Is Int ∧ p.1.2.sz = 1 ∧ p.1.2.to Int = (runEv (hb.to Wt).length (hc.to Ev) p.2).2.acked)) (fun p => (hc.to Ev).length - p.2) (fun _ => rfl) ?_ ((.slc none 1 [], .slc none 1 []), 0) ⟨Nat.zero_le _, rfl, ⟨is_nil _ _, rfl, rfl⟩, ⟨is_nil _ _, rfl, rfl⟩⟩
  intro ⟨⟨t, u⟩, j⟩ ⟨hj, h0, ⟨ti, ts, tt⟩, ui, us, ut⟩ ih
  simp only at hj h0 ti ts tt ui us ut
  have hto := runEv_ok (n := (hb.to Wt).length) (l := hc.to Ev) j hj h0
  have tl := D.Is.length (α := Int) t
  have ul := D.Is.length (α := Int) u
  rw [tt] at tl
  rw [ut] at ul
  have hlen := hto.len
  have hle := hto.le
  show Runs Try.prog ⟨w, H⟩ (unroll (ckB ha hb hc t u j)) (RetD w H (ckSV ⟨ha, hb, hc⟩))
  apply exec_sound ctC1Ok 600
  rw [ckB_go]
  refine ⟨fun hcj => ?_, fun hcj => ?_⟩
  · have hcj : j < (hc.to Ev).length := by have := of_decide_eq_true hcj; omega
    obtain ⟨c1, c2, c3⟩ := ev_cell rc hcj
    have c0 : 0 ≤ (j : Int) ∧ (j : Int) < (hc.len : Int) ∧ hc.sz = 2 := ⟨by omega, by omega, rc.size hcj⟩
    have hstep := runEv_step (n := (hb.to Wt).length) hcj h0
    generalize hev : (hc.to Ev)[j] = ev at c2 c3 hstep
    obtain ⟨k, x⟩ := ev
    simp only at c2 c3
    have g0 : hc.getInt (Int.toNat (j : Int)) 0 = k := c2
    have g1 : hc.getInt (Int.toNat (j : Int)) 1 = x := c3
    rw [g0, g1]
    generalize hrt : runEv (hb.to Wt).length (hc.to Ev) j = rt at *
    have errs' : ∀ {q : Int}, (evStep (hb.to Wt).length j rt.2 ⟨k, x⟩).1 = q → q ≠ 0 → checkH (HiD.mk ha hb hc).hist = (q, zTl) := fun hq hq0 => errs hcj (by rw [hrt]; exact h0) (by rw [hrt, hev]; exact hq) hq0
    have nxt : ∀ (t' u' : D), t'.Is Int → t'.sz = 1 → u'.Is Int → u'.sz = 1 → (evStep (hb.to Wt).length j rt.2 ⟨k, x⟩) = (0, ⟨t'.to Int, u'.to Int⟩) → Runs Try.prog ⟨w, H⟩ (ckB ha hb hc t' u' (IntKind.i64.wrap ((j : Int) + 1))) (RetD w H (ckSV ⟨ha, hb, hc⟩)) := fun t' u' a1 a2 a3 a4 he => by
      have := ih ((t', u'), j + 1) ⟨hcj, by rw [hstep, he], ⟨a1, a2, by rw [hstep, he]⟩, a3, a4, by rw [hstep, he]⟩ (by simp only; omega)
      simp only at this
      rw [← wrap_succ hcj (by omega)] at this
      exact this
    refine ⟨c0, c1, fun hk => ?_, fun hk => ⟨fun hk1 hs => ?_, fun hk1 => ?_⟩⟩
    · have hk : k = 0 := of_decide_eq_true hk
      subst hk
      refine fun hs => ⟨fun hx => ?_, fun hx => ?_⟩
      · have hx' : x ≠ (t.len : Int) := by simpa using hx
        have fin := ret_ck0 (P := Try.prog) (w := w) (H := H) (errs' (q := 3) (by unfold evStep; rw [if_pos rfl, if_pos (by simp only; omega)]) (by decide)) (by decide)
        repeat' first
        | exact hx
        | exact fin
        | exact fun h => absurd h (by decide)
        | exact fun _ => fin
        | refine ⟨?_, ?_⟩
      · have hx' : x = (t.len : Int) := by simpa using hx
        have issN : decide (x ≥ (hb.len : Int)) = false → ∀ h1 h2 h3 h4 : Hd, Runs Try.prog ⟨w, H⟩ (ckB ha hb hc (.slc h1 1 (List.append t.rows (D.rows (.slc h2 1 [[.int .i64 (j : Int)]])))) (.slc h3 1 (List.append u.rows (D.rows (.slc h4 1 [[.int .i64 (Int.neg 1)]])))) (IntKind.i64.wrap ((j : Int) + 1))) (RetD w H (ckSV ⟨ha, hb, hc⟩)) := fun hy h1 h2 h3 h4 => by
          have hy' := of_decide_eq_false hy
          obtain ⟨p1, p2⟩ := is_of (h := h1) (s := 1) rfl (rows_app (rows_of ti) (int_one (j : Int)))
          obtain ⟨q1, q2⟩ := is_of (h := h3) (s := 1) rfl (rows_app (rows_of ui) (int_one (Int.neg 1)))
          refine nxt _ _ p1 rfl q1 rfl ?_
          unfold evStep
          rw [if_pos rfl, if_neg (by simp only; omega)]
          rw [show (D.rows (.slc h2 1 [[.int .i64 (j : Int)]])) = [[.int .i64 (j : Int)]] from rfl, show (D.rows (.slc h4 1 [[.int .i64 (Int.neg 1)]])) = [[.int .i64 (Int.neg 1)]] from rfl, p2, q2, tt, ut]
          rfl
        repeat' first
        | exact hx
        | exact fun hy => ⟨fun _ => ret_ck0 (errs' (q := 3) (by have := of_decide_eq_true hy; unfold evStep; rw [if_pos rfl, if_pos (by simp only; omega)]) (by decide)) (by decide), fun h => absurd h (by decide)⟩
        | (intro hy hs3; refine ⟨⟨ts, .inr rfl, ?_, ?_⟩, ⟨us, .inr rfl, ?_, ?_⟩, fun h => absurd h (by decide), fun _ => ?_⟩)
        | exact issN hy _ _ _ _
        | (simp only [len_slc, List.length_cons, List.length_nil]; omega)
        | refine ⟨?_, ?_⟩
    · have hk : ¬k = 0 := of_decide_eq_false hk
      have hk1 : k = 1 := of_decide_eq_true hk1
      subst hk1
      refine ⟨fun hx => ?_, fun hx => ?_⟩
      · have hx' : x < 0 := of_decide_eq_true hx
        have fin := ret_ck0 (P := Try.prog) (w := w) (H := H) (errs' (q := 7) (by unfold evStep; rw [if_neg hk, if_pos rfl, if_pos (by simp only; omega)]) (by decide)) (by decide)
        repeat' first
        | exact hx
        | exact fin
        | exact fun h => absurd h (by decide)
        | exact fun _ => fin
        | refine ⟨?_, ?_⟩
      · have hx' : ¬x < 0 := of_decide_eq_false hx
        repeat' first
        | exact hx
        | exact fun hy => ⟨fun _ => ret_ck0 (errs' (q := 7) (by have := of_decide_eq_true hy; unfold evStep; rw [if_neg hk, if_pos rfl, if_pos (by simp only; omega)]) (by decide)) (by decide), fun h => absurd h (by decide)⟩
        | exact fun hy hs3 => by
            have hy' := of_decide_eq_false hy
            obtain ⟨y, rfl⟩ := Int.eq_ofNat_of_zero_le (show 0 ≤ x by omega)
            have hyl : y < (u.to Int).length := by rw [ut]; omega
            obtain ⟨d1, d2, d3⟩ := int_at ui hyl
            have hgd : rt.2.acked.getD (Int.toNat (y : Int)) 0 = u.getInt (Int.toNat (y : Int)) 0 := by rw [← ut, d3, Int.toNat_natCast, getD_lt hyl]
            refine ⟨d1, ⟨d2, us⟩, fun hz => ⟨fun _ => ret_ck0 (errs' (q := 8) ?_ (by decide)) (by decide), fun h => absurd h (by decide)⟩, fun hz hs4 => ⟨d1, ⟨by rw [D.Is.length (α := Int)]; simpa using hyl, by rw [us]; decide, us⟩, fun h => absurd h (by decide), fun _ => ?_⟩⟩
            · have := of_decide_eq_true hz
              unfold evStep; rw [if_neg hk, if_pos rfl, if_neg (by simp only; omega), if_pos (by simp only [hgd]; exact this)]
            · have := of_decide_eq_false hz
              obtain ⟨q1, q2⟩ := set_full ui (i := Int.toNat (y : Int)) (by simpa using hyl) (xs := [D.int IntKind.i64 (j : Int)]) (x := (j : Int)) rfl (ok_int _) rfl
              refine nxt _ _ ti ts q1 us ?_
              unfold evStep; rw [if_neg hk, if_pos rfl, if_neg (by simp only; omega), if_neg (by simp only [hgd]; exact this), q2, tt, ut]
        | refine ⟨?_, ?_⟩
    · have hk : ¬k = 0 := of_decide_eq_false hk
      have hk1 : ¬k = 1 := of_decide_eq_false hk1
      exact ⟨fun _ => ret_ck0 (errs' (q := 3) (by unfold evStep; rw [if_neg hk, if_neg hk1]) (by decide)) (by decide), fun h => absurd h (by decide)⟩
  · have : j = (hc.to Ev).length := by have := of_decide_eq_false hcj; omega
    subst this
    have hall := checkH_ev (h := (HiD.mk ha hb hc).hist) h1 h2 h3
    have h0' : ¬((runEv (HiD.mk ha hb hc).hist.writes.length (HiD.mk ha hb hc).hist.events (HiD.mk ha hb hc).hist.events.length).1 ≠ 0) := by
      show ¬((runEv (hb.to Wt).length (hc.to Ev) (hc.to Ev).length).1 ≠ 0)
      simp [h0]
    rw [if_neg h0'] at hall
    refine ⟨fun hy => ret_ck0 (e := 3) ?_ (by decide), fun hy => ret_ck1 (x := ⟨ha, hb, hc⟩) ti ui ?_⟩
    · have := of_decide_eq_true hy
      rw [hall, if_pos]
      show (runEv (hb.to Wt).length (hc.to Ev) (hc.to Ev).length).2.issued.length < (hb.to Wt).length
      omega
    · have := of_decide_eq_false hy
      rw [hall, if_neg]
      · rw [tt, ut]; rfl
      · show ¬(runEv (hb.to Wt).length (hc.to Ev) (hc.to Ev).length).2.issued.length < (hb.to Wt).length
        omega

theorem lawCk : Law Try.prog 41 (rdHi.one.sp spCk) := by
  refine law_in _ (by kernel_rfl) fun H w ⟨ha, hb, hc⟩ hok hp => ?_
  have hR : (HiD.mk ha hb hc).Right := hp _ (List.mem_singleton.2 rfl)
  obtain ⟨ra, rb, rc, la, lb, lc, rd⟩ := id hR
  simp only at ra rb rc la lb lc rd
  have al := D.Is.length (α := Int) ha
  have bl := D.Is.length (α := Wt) hb
  apply exec_sound ctC1Ok 400
  rw [show rdHi.one.canon ⟨ha, hb, hc⟩ = [.agg [.dat ha, .dat hb, .dat hc]] from rfl, ck_in]
  refine ⟨⟨ra, la⟩, fun hs => ⟨fun h => ?_, fun h => ⟨fun h2 => ?_, fun h2 => ?_⟩⟩⟩
  · have h' : sizesErr (ha.to Int) ≠ 0 := by simpa using h
    exact ret_ck0 (checkH_sz (h := (HiD.mk ha hb hc).hist) h') h'
  · have h' : sizesErr (ha.to Int) = 0 := by simpa using h
    have := of_decide_eq_true h2
    exact ret_ck0 (checkH_many (h := (HiD.mk ha hb hc).hist) h' (by show (hb.to Wt).length > 4096; omega)) (by decide)
  have h1 : sizesErr (ha.to Int) = 0 := by simpa using h
  have h2 : ¬(hb.to Wt).length > 4096 := by have := of_decide_eq_false h2; omega
  have im : ImgOk ((hs 0 0).like (imgOf (ha.to Int))) := by
    refine ⟨D.like_is _ _, ?_, fun v hv => ?_⟩
    · rw [D.Is.length (α := Vol), D.like_to]
      unfold imgOf
      rw [if_neg (by simp [h1])]
      simp only [List.length_map]; omega
    · rw [D.like_to] at hv
      unfold imgOf at hv
      rw [if_neg (by simp [h1])] at hv
      obtain ⟨n, hn, rfl⟩ := List.mem_map.1 hv
      have := (sizesErr_ok h1).2.2 n hn
      simp only [volOf, List.length_replicate]; omega
  generalize hIm : (hs 0 0).like (imgOf (ha.to Int)) = I at im
  have hIt : I.to Vol = imgOf (ha.to Int) := by rw [← hIm, D.like_to]
  refine runs_loop (fun j : Nat => ckA ha hb hc I j) (fun j => j ≤ (hb.to Wt).length ∧ firstErr (ha.to Int) ((hb.to Wt).take j) = 0) (fun j => (hb.to Wt).length - j) (fun _ => rfl) ?_ 0 ⟨Nat.zero_le _, rfl⟩
  intro j ⟨hj, hpre⟩ ih
  apply exec_sound ctC1Ok 400
  rw [ckA_go]
  refine ⟨fun hcj => ?_, fun hcj => ?_⟩
  · have hcj : j < (hb.to Wt).length := by have := of_decide_eq_true hcj; omega
    obtain ⟨c1, c2, c3⟩ := wt_cell rb hcj
    have hw : WtD.wt ⟨hb.getInt (Int.toNat (j : Int)) 0, hb.getInt (Int.toNat (j : Int)) 1, hb.cell (Int.toNat (j : Int)) 2⟩ = (hb.to Wt)[j] := c3.symm
    have hwd := rd _ (List.getElem_mem hcj)
    rw [c3] at hwd
    have hok2 : WtD.Ok ⟨hb.getInt (Int.toNat (j : Int)) 0, hb.getInt (Int.toNat (j : Int)) 1, hb.cell (Int.toNat (j : Int)) 2⟩ := ⟨c2, by rw [D.Is.length (α := Sec)]; exact hwd⟩
    rw [hw, hIt, fitsI_img h1]
    have ft := firstErr_take (s := ha.to Int) hcj
    rw [hpre, if_neg (by simp)] at ft
    refine ⟨⟨by omega, by omega, rb.size hcj⟩, c1, ⟨im, hok2⟩, fun he => ?_, fun he => ?_⟩
    · have he : fitsErr (ha.to Int) (hb.to Wt)[j] ≠ 0 := by simpa using he
      have hf := firstErr_of_take (s := ha.to Int) (l := hb.to Wt) (i := j + 1) (by rw [ft]; exact he)
      rw [ft] at hf
      exact ret_ck0 ((checkH_fit (h := (HiD.mk ha hb hc).hist) h1 h2 (by show firstErr (ha.to Int) (hb.to Wt) ≠ 0; rw [hf]; exact he)).trans (by show (firstErr (ha.to Int) (hb.to Wt), zTl) = _; rw [hf])) he
    · have he : fitsErr (ha.to Int) (hb.to Wt)[j] = 0 := by simpa using he
      have := ih (j + 1) ⟨hcj, by rw [ft, he]⟩ (by omega)
      rw [← wrap_succ hcj (by omega)] at this
      exact this
  · have : j = (hb.to Wt).length := by have := of_decide_eq_false hcj; omega
    subst this
    rw [List.take_length] at hpre
    exact vecIn2_to 9 3 1 (some 2) 3 10 3 1 (some 2) 4 (ckB ha hb hc (.slc none 1 []) (.slc none 1 []) 0) (by kernel_rfl) (ckB_loop hR h1 h2 hpre)
end Go.Proofs.Ytdiekahpofifeaa
end
section
open Go Go.Proofs Sx
namespace Go.Proofs.Ytdiekahpofifeaa
set_option maxRecDepth 100000

theorem crB_loop {H : HV} {w : World} {ha hb hc : D} (hR : (HiD.mk ha hb hc).Right) (h1 : sizesErr (ha.to Int) = 0) (h2 : ¬(hb.to Wt).length > 4096) (h3 : firstErr (ha.to Int) (hb.to Wt) = 0) :
    Runs Try.prog ⟨w, H⟩ (crB ha hb hc 0 0) (RetS w H (.int .i64 (checkH (HiD.mk ha hb hc).hist).1)) := by
  obtain ⟨ra, rb, rc, la, lb, lc, rd⟩ := hR
  simp only at ra rb rc la lb lc rd
  have el := D.Is.length (α := Ev) hc
  have bl := D.Is.length (α := Wt) hb
  have errs : ∀ {i : Nat} (hi : i < (hc.to Ev).length) (h0 : (runEv (hb.to Wt).length (hc.to Ev) i).1 = 0) {k : Int}, (evStep (hb.to Wt).length i (runEv (hb.to Wt).length (hc.to Ev) i).2 (hc.to Ev)[i]).1 = k → k ≠ 0 → k = (checkH (HiD.mk ha hb hc).hist).1 :=
    fun hi h0 => fun hk hk0 => by rw [checkH_evErr (h := (HiD.mk ha hb hc).hist) h1 h2 h3 hi h0 hk hk0]
  refine runs_loop (fun p : Nat × Nat => crB ha hb hc p.1 p.2) (fun p => p.2 ≤ (hc.to Ev).length ∧ (runEv (hb.to Wt).length (hc.to Ev) p.2).1 = 0 ∧ p.1 = (runEv (hb.to Wt).length (hc.to Ev) p.2).2.issued.length)
    (fun p => (hc.to Ev).length - p.2) (fun _ => rfl) ?_ (0, 0) ⟨Nat.zero_le _, rfl, rfl⟩
  intro ⟨n, j⟩ ⟨hj, h0, hn⟩ ih
  simp only at hj h0 hn
  have hto := runEv_ok (n := (hb.to Wt).length) (l := hc.to Ev) j hj h0
  have hlen := hto.len
  have hle := hto.le
  show Runs Try.prog ⟨w, H⟩ (unroll (crB ha hb hc n j)) (RetS w H (.int .i64 (checkH (HiD.mk ha hb hc).hist).1))
  apply exec_sound ctC2Ok 400
  rw [crB_go]
  refine ⟨fun hcj => ?_, fun hcj => ?_⟩
  · have hcj : j < (hc.to Ev).length := by have := of_decide_eq_true hcj; omega
    obtain ⟨c1, c2, c3⟩ := ev_cell rc hcj
    have c0 : 0 ≤ (j : Int) ∧ (j : Int) < (hc.len : Int) ∧ hc.sz = 2 := ⟨by omega, by omega, rc.size hcj⟩
    have hstep := runEv_step (n := (hb.to Wt).length) hcj h0
    have hkind := evStep_kind hto (hc.to Ev)[j]
    generalize hev : (hc.to Ev)[j] = ev at c2 c3 hstep hkind
    obtain ⟨k, x⟩ := ev
    simp only at c2 c3
    have g0 : hc.getInt (Int.toNat (j : Int)) 0 = k := c2
    have g1 : hc.getInt (Int.toNat (j : Int)) 1 = x := c3
    rw [g0, g1]
    generalize hrt : runEv (hb.to Wt).length (hc.to Ev) j = rt at *
    have errs' : ∀ {q : Int}, (evStep (hb.to Wt).length j rt.2 ⟨k, x⟩).1 = q → q ≠ 0 → q = (checkH (HiD.mk ha hb hc).hist).1 := fun hq hq0 => errs hcj (by rw [hrt]; exact h0) (by rw [hrt, hev]; exact hq) hq0
    have nxt : (evStep (hb.to Wt).length j rt.2 ⟨k, x⟩).1 = 0 → ∀ m : Nat, (m : Int) = n + (if k = 0 then 1 else 0) → Runs Try.prog ⟨w, H⟩ (crB ha hb hc m (IntKind.i64.wrap ((j : Int) + 1))) (RetS w H (.int .i64 (checkH (HiD.mk ha hb hc).hist).1)) := fun h m hm => by
      have hl := evStep_len h
      have := ih (m, j + 1) ⟨hcj, by rw [hstep]; exact h, by rw [hstep]; simp only at hl ⊢; omega⟩ (by simp only; omega)
      simp only at this
      rw [← wrap_succ hcj (by omega)] at this
      exact this
    simp only at hkind
    have hsub := rc.sub 0 (Int.toNat (j : Int))
    simp only [Int.toNat_natCast, List.drop_zero, Nat.sub_zero] at hsub
    have hsl : (hc.sub 0 j).len ≤ 1048576 := by rw [D.Is.length (α := Ev), hsub.2, List.length_take]; omega
    have i0 : (0 : Int) ≤ 0 ∧ (0 : Int) ≤ (j : Int) ∧ (j : Int) ≤ (hc.len : Int) ∧ hc.Fits 2 := ⟨by omega, by omega, by omega, rc.fits⟩
    refine ⟨c0, c1, fun hk => ?_, fun hk => ⟨fun hk1 => ?_, fun hk1 hs => ?_⟩⟩
    · have hk : k = 0 := of_decide_eq_true hk
      subst hk
      rw [if_pos rfl] at hkind
      refine ⟨fun hx => ret_int (errs' (q := 3) ?_ (by decide)), fun hx => ⟨fun hy => ret_int (errs' (q := 3) ?_ (by decide)), fun hy => ?_⟩⟩
      · have hx' : x ≠ (n : Int) := by simpa using hx
        rw [hkind, if_pos (by omega)]
      · have := of_decide_eq_true hy
        rw [hkind, if_pos (by omega)]
      · have hx' : x = (n : Int) := by simpa using hx
        have hy' := of_decide_eq_false hy
        have := nxt (by rw [hkind, if_neg (by omega)]) (n + 1) (by simp)
        rw [← wrap_succ (n := 4097) (by omega) (by omega)] at this
        exact this
    · have hk : ¬k = 0 := of_decide_eq_false hk
      have hk1 : k ≠ 1 := by simpa using hk1
      exact ret_int (errs' (q := 3) (by rw [hkind, if_neg hk, if_pos hk1]) (by decide))
    · have hk : ¬k = 0 := of_decide_eq_false hk
      have hk1 : ¬(k ≠ 1) := by simpa using hk1
      rw [if_neg hk, if_neg hk1] at hkind
      have ee : ∀ q, EvD.ev ⟨q, x⟩ = ⟨q, x⟩ := fun _ => rfl
      simp only [Int.toNat_natCast, hsub.2, ee]
      refine ⟨i0, ⟨hsub.1, hsl⟩, fun hx => ret_int (errs' (q := 7) ?_ (by decide)), fun hx hs => ⟨i0, ⟨hsub.1, hsl⟩, fun hy => ret_int (errs' (q := 8) ?_ (by decide)), fun hy => ?_⟩⟩
      · have := of_decide_eq_true hx
        rw [hkind, if_pos this]
      · have h7 := of_decide_eq_false hx
        have h8 := of_decide_eq_true hy
        rw [hkind, if_neg h7, if_pos h8]
      · have h7 := of_decide_eq_false hx
        have h8 := of_decide_eq_false hy
        exact nxt (by rw [hkind, if_neg h7, if_neg h8]) n (by rw [if_neg hk]; simp)
  · have : j = (hc.to Ev).length := by have := of_decide_eq_false hcj; omega
    subst this
    have hall := checkH_ev (h := (HiD.mk ha hb hc).hist) h1 h2 h3
    have h0' : ¬((runEv (HiD.mk ha hb hc).hist.writes.length (HiD.mk ha hb hc).hist.events (HiD.mk ha hb hc).hist.events.length).1 ≠ 0) := by
      show ¬((runEv (hb.to Wt).length (hc.to Ev) (hc.to Ev).length).1 ≠ 0)
      simp [h0]
    rw [if_neg h0'] at hall
    refine ⟨fun hy => ret_int ?_, fun hy => ret_int ?_⟩
    · have := of_decide_eq_true hy
      rw [hall, if_pos]
      show (runEv (hb.to Wt).length (hc.to Ev) (hc.to Ev).length).2.issued.length < (hb.to Wt).length
      omega
    · have := of_decide_eq_false hy
      rw [hall, if_neg]
      show ¬(runEv (hb.to Wt).length (hc.to Ev) (hc.to Ev).length).2.issued.length < (hb.to Wt).length
      omega

theorem lawCkR : Law Try.prog 24 (rdHi.one.sp spCkI) := by
  refine law_in _ (by kernel_rfl) fun H w ⟨ha, hb, hc⟩ hok hp => ?_
  have hR : (HiD.mk ha hb hc).Right := hp _ (List.mem_singleton.2 rfl)
  obtain ⟨ra, rb, rc, la, lb, lc, rd⟩ := id hR
  simp only at ra rb rc la lb lc rd
  have al := D.Is.length (α := Int) ha
  have bl := D.Is.length (α := Wt) hb
  apply exec_sound ctC2Ok 400
  rw [show rdHi.one.canon ⟨ha, hb, hc⟩ = [.agg [.dat ha, .dat hb, .dat hc]] from rfl, ck2_in]
  refine ⟨⟨ra, la⟩, fun h => ?_, fun h => ⟨fun h2 => ?_, fun h2 => ?_⟩⟩
  · have h' : sizesErr (ha.to Int) ≠ 0 := by simpa using h
    exact ret_int (by rw [checkH_sz (h := (HiD.mk ha hb hc).hist) h']; rfl)
  · have h' : sizesErr (ha.to Int) = 0 := by simpa using h
    have := of_decide_eq_true h2
    exact ret_int (by rw [checkH_many (h := (HiD.mk ha hb hc).hist) h' (by show (hb.to Wt).length > 4096; omega)])
  have h1 : sizesErr (ha.to Int) = 0 := by simpa using h
  have h2 : ¬(hb.to Wt).length > 4096 := by have := of_decide_eq_false h2; omega
  refine runs_loop (fun j : Nat => crA ha hb hc j) (fun j => j ≤ (hb.to Wt).length ∧ firstErr (ha.to Int) ((hb.to Wt).take j) = 0) (fun j => (hb.to Wt).length - j) (fun _ => rfl) ?_ 0 ⟨Nat.zero_le _, rfl⟩
  intro j ⟨hj, hpre⟩ ih
  apply exec_sound ctC2Ok 400
  rw [crA_go]
  refine ⟨fun hcj hs => ?_, fun hcj => ?_⟩
  · have hcj : j < (hb.to Wt).length := by have := of_decide_eq_true hcj; omega
    obtain ⟨c1, c2, c3⟩ := wt_cell rb hcj
    have hw : WtD.wt ⟨hb.getInt (Int.toNat (j : Int)) 0, hb.getInt (Int.toNat (j : Int)) 1, hb.cell (Int.toNat (j : Int)) 2⟩ = (hb.to Wt)[j] := c3.symm
    have hwd := rd _ (List.getElem_mem hcj)
    rw [c3] at hwd
    have hok2 : WtD.Ok ⟨hb.getInt (Int.toNat (j : Int)) 0, hb.getInt (Int.toNat (j : Int)) 1, hb.cell (Int.toNat (j : Int)) 2⟩ := ⟨c2, by rw [D.Is.length (α := Sec)]; exact hwd⟩
    rw [hw]
    have ft := firstErr_take (s := ha.to Int) hcj
    rw [hpre, if_neg (by simp)] at ft
    refine ⟨⟨by omega, by omega, rb.size hcj⟩, c1, ⟨ra, la, (sizesErr_ok h1).2.2, hok2⟩, fun he => ?_, fun he => ?_⟩
    · have he : fitsErr (ha.to Int) (hb.to Wt)[j] ≠ 0 := by simpa using he
      have hf := firstErr_of_take (s := ha.to Int) (l := hb.to Wt) (i := j + 1) (by rw [ft]; exact he)
      rw [ft] at hf
      exact ret_int (by rw [checkH_fit (h := (HiD.mk ha hb hc).hist) h1 h2 (by show firstErr (ha.to Int) (hb.to Wt) ≠ 0; rw [hf]; exact he)]; exact hf.symm)
    · have he : fitsErr (ha.to Int) (hb.to Wt)[j] = 0 := by simpa using he
      have := ih (j + 1) ⟨hcj, by rw [ft, he]⟩ (by omega)
      rw [← wrap_succ hcj (by omega)] at this
      exact this
  · have : j = (hb.to Wt).length := by have := of_decide_eq_false hcj; omega
    subst this
    rw [List.take_length] at hpre
    exact crB_loop hR h1 h2 hpre

theorem lawFew : Law Try.prog 11 (rdHi.one.sp spFew) := by
  refine law_in _ (by kernel_rfl) fun H w ⟨ha, hb, hc⟩ hok hp => ?_
  obtain ⟨ra, rb, rc⟩ := hp _ (List.mem_singleton.2 rfl)
  simp only at ra rb rc
  have al := D.Is.length (α := Int) ha
  have bl := D.Is.length (α := Wt) hb
  have el := D.Is.length (α := Ev) hc
  have ef : fewH (HiD.mk ha hb hc).hist = (decide ((ha.to Int).length ≤ 9) && (decide ((hb.to Wt).length ≤ 40) && (decide ((hc.to Ev).length ≤ 90) && ((ha.to Int).all (fun n => decide (n ≤ 24)) && (hb.to Wt).all fun w => decide (w.data.length ≤ 30))))) := rfl
  apply exec_sound (noCtr _) 200
  rw [show rdHi.one.canon ⟨ha, hb, hc⟩ = [.agg [.dat ha, .dat hb, .dat hc]] from rfl, few_in]
  refine ⟨fun h => ret_lb ?_, fun h1 => ⟨fun h => ret_lb ?_, fun h2 => ⟨fun h => ret_lb ?_, fun h3 => ?_⟩⟩⟩
  · have := of_decide_eq_true h; rw [ef, decide_eq_false (p := (ha.to Int).length ≤ 9) (by omega)]; rfl
  · have := of_decide_eq_true h; rw [ef, decide_eq_false (p := (hb.to Wt).length ≤ 40) (by omega)]; simp
  · have := of_decide_eq_true h; rw [ef, decide_eq_false (p := (hc.to Ev).length ≤ 90) (by omega)]; simp
  have h1 := of_decide_eq_false h1
  have h2 := of_decide_eq_false h2
  have h3 := of_decide_eq_false h3
  rw [decide_eq_true (p := (ha.to Int).length ≤ 9) (by omega), decide_eq_true (p := (hb.to Wt).length ≤ 40) (by omega), decide_eq_true (p := (hc.to Ev).length ≤ 90) (by omega)] at ef
  simp only [Bool.true_and] at ef
  refine runs_loop (fun j : Nat => fewL ha hb hc j) (fun j => j ≤ (ha.to Int).length ∧ ∀ n, n ∈ (ha.to Int).take j → n ≤ 24) (fun j => (ha.to Int).length - j) (fun _ => rfl) ?_ 0 ⟨Nat.zero_le _, by simp⟩
  intro j ⟨hj, hpre⟩ ih
  apply exec_sound (noCtr _) 200
  rw [few_go]
  refine ⟨fun hcj => ?_, fun hcj => ?_⟩
  · have hcj : j < (ha.to Int).length := by have := of_decide_eq_true hcj; omega
    obtain ⟨c1, c2, c3⟩ := int_at ra hcj
    rw [c3]
    refine ⟨c1, c2, fun h => ret_lb ?_, fun h => ?_⟩
    · have := of_decide_eq_true h
      rw [ef]
      have : (ha.to Int).all (fun n => decide (n ≤ 24)) = false := by
        rw [List.all_eq_false]
        exact ⟨_, List.getElem_mem hcj, by simp; omega⟩
      rw [this]; rfl
    · have h := of_decide_eq_false h
      have := ih (j + 1) ⟨hcj, fun n hn => by
        rw [List.take_succ_eq_append_getElem hcj] at hn
        rcases List.mem_append.1 hn with hn | hn
        · exact hpre n hn
        · rw [List.mem_singleton.1 hn]; omega⟩ (by omega)
      rw [← wrap_succ hcj (by omega)] at this
      exact this
  · have : j = (ha.to Int).length := by have := of_decide_eq_false hcj; omega
    subst this
    rw [List.take_length] at hpre
    have ha24 : (ha.to Int).all (fun n => decide (n ≤ 24)) = true := List.all_eq_true.2 fun n hn => decide_eq_true (hpre n hn)
    rw [ha24, Bool.true_and] at ef
    refine runs_loop (fun j : Nat => few2L ha hb hc j) (fun j => j ≤ (hb.to Wt).length ∧ ∀ n, n ∈ (hb.to Wt).take j → n.data.length ≤ 30) (fun j => (hb.to Wt).length - j) (fun _ => rfl) ?_ 0 ⟨Nat.zero_le _, by simp⟩
    intro j ⟨hj, hpre⟩ ih
    apply exec_sound (noCtr _) 200
    rw [few2_go]
    refine ⟨fun hcj => ?_, fun hcj => ret_lb ?_⟩
    · have hcj : j < (hb.to Wt).length := by have := of_decide_eq_true hcj; omega
      obtain ⟨c1, c2, c3⟩ := wt_cell rb hcj
      have hls := D.Is.length (α := Sec) (hb.cell j 2)
      refine ⟨⟨by omega, by omega, rb.size hcj⟩, c1.2.2.1, fun h => ret_lb ?_, fun h => ?_⟩
      · have h : ((hb.cell j 2).len : Int) > 30 := of_decide_eq_true h
        rw [ef]
        symm
        rw [List.all_eq_false]
        exact ⟨_, List.getElem_mem hcj, by rw [c3]; simp only [decide_eq_true_eq]; omega⟩
      · have h : ¬((hb.cell j 2).len : Int) > 30 := of_decide_eq_false h
        have := ih (j + 1) ⟨hcj, fun n hn => by
          rw [List.take_succ_eq_append_getElem hcj] at hn
          rcases List.mem_append.1 hn with hn | hn
          · exact hpre n hn
          · rw [List.mem_singleton.1 hn, c3]; simp only; omega⟩ (by omega)
        rw [← wrap_succ hcj (by omega)] at this
        exact this
    · have : j = (hb.to Wt).length := by have := of_decide_eq_false hcj; omega
      subst this
      rw [List.take_length] at hpre
      rw [ef]
      exact (List.all_eq_true.2 fun n hn => decide_eq_true (hpre n hn)).symm
end Go.Proofs.Ytdiekahpofifeaa
end
section
open Go Go.Proofs Sx
namespace Go.Proofs.Ytdiekahpofifeaa
set_option maxRecDepth 100000
set_option maxHeartbeats 0
noncomputable def ctK : Ctrs := [(51, oCtr (spClone Int 3)), (67, oCtr (spClone Sec 105)), (82, oCtr (spClone Ev 77))]
section
variable (n j k w : Int) (d e a b i o ha hb hc : D) (v s : Int)
theorem cl1_in : execT Try.prog [] (fun _ => false) 19 (entry Try.prog 51 [.dat d]) =
 Tree.br
 (nilOf
 (evS
 (putS [.dat d, SV.undef, .nils, SV.undef, SV.undef, SV.undef, SV.undef, SV.undef] (some 3)
 (evS [.dat d, SV.undef, .nils, SV.undef, SV.undef, SV.undef, SV.undef, SV.undef] (Operand.tmp 0)))
 (Operand.tmp 3))
 d)
 (.ret .nils)
 (.all fun hs =>
 .need
 (D.sz (D.slc (D.hd (hs 0 0)) 1 []) = 1 ∧
 D.Fits d 1 ∧
 (D.len (D.slc (D.hd (hs 0 0)) 1 []) + D.len d) * 8 ≤ 140737488355328 ∧
 D.len (D.slc (D.hd (hs 0 0)) 1 []) + D.len d ≤ 9223372036854775807)
 (.all fun hs_1 =>
 .leaf
 (Conf.mk
 (SFrm.mk 51 none none [Item.code (cAt Try.prog 51 [1, 0, 1, 0, 1])]
 (mkU
 [(0, .dat d), (2, .vec 1007), (3, .dat d),
 (4,
 .bool
 (nilOf
 (evS
 (putS [.dat d, SV.undef, .nils, SV.undef, SV.undef, SV.undef, SV.undef, SV.undef] (some 3)
 (evS [.dat d, SV.undef, .nils, SV.undef, SV.undef, SV.undef, SV.undef, SV.undef]
 (Operand.tmp 0)))
 (Operand.tmp 3))
 d)),
 (5, .vec 1005), (6, .dat d), (7, .vec 1007)]
 0 8))
 []
 [(1007,
 OBlk.arr 3
 (D.slc (D.hd (hs_1 0 0)) 1 (List.append (D.rows (D.slc (D.hd (hs 0 0)) 1 [])) (D.rows d))))]))) := by kernel_rfl

theorem cl2_in : execT Try.prog [] (fun _ => false) 19 (entry Try.prog 67 [.dat d]) =
 Tree.br
 (nilOf
 (evS
 (putS [.dat d, SV.undef, .nils, SV.undef, SV.undef, SV.undef, SV.undef, SV.undef] (some 3)
 (evS [.dat d, SV.undef, .nils, SV.undef, SV.undef, SV.undef, SV.undef, SV.undef] (Operand.tmp 0)))
 (Operand.tmp 3))
 d)
 (.ret .nils)
 (.all fun hs =>
 .need
 (D.sz (D.slc (D.hd (hs 0 0)) 8 []) = 8 ∧
 D.Fits d 8 ∧
 (D.len (D.slc (D.hd (hs 0 0)) 8 []) + D.len d) * 8 ≤ 140737488355328 ∧
 D.len (D.slc (D.hd (hs 0 0)) 8 []) + D.len d ≤ 9223372036854775807)
 (.all fun hs_1 =>
 .leaf
 (Conf.mk
 (SFrm.mk 67 none none [Item.code (cAt Try.prog 67 [1, 0, 1, 0, 1])]
 (mkU
 [(0, .dat d), (2, .vec 1007), (3, .dat d),
 (4,
 .bool
 (nilOf
 (evS
 (putS [.dat d, SV.undef, .nils, SV.undef, SV.undef, SV.undef, SV.undef, SV.undef] (some 3)
 (evS [.dat d, SV.undef, .nils, SV.undef, SV.undef, SV.undef, SV.undef, SV.undef]
 (Operand.tmp 0)))
 (Operand.tmp 3))
 d)),
 (5, .vec 1005), (6, .dat d), (7, .vec 1007)]
 0 8))
 []
 [(1007,
 OBlk.arr 105
 (D.slc (D.hd (hs_1 0 0)) 8 (List.append (D.rows (D.slc (D.hd (hs 0 0)) 8 [])) (D.rows d))))]))) := by kernel_rfl

theorem cl3_in : execT Try.prog [] (fun _ => false) 19 (entry Try.prog 82 [.dat d]) =
 Tree.br
 (nilOf
 (evS
 (putS [.dat d, SV.undef, .nils, SV.undef, SV.undef, SV.undef, SV.undef, SV.undef] (some 3)
 (evS [.dat d, SV.undef, .nils, SV.undef, SV.undef, SV.undef, SV.undef, SV.undef] (Operand.tmp 0)))
 (Operand.tmp 3))
 d)
 (.ret .nils)
 (.all fun hs =>
 .need
 (D.sz (D.slc (D.hd (hs 0 0)) 2 []) = 2 ∧
 D.Fits d 2 ∧
 (D.len (D.slc (D.hd (hs 0 0)) 2 []) + D.len d) * 16 ≤ 140737488355328 ∧
 D.len (D.slc (D.hd (hs 0 0)) 2 []) + D.len d ≤ 9223372036854775807)
 (.all fun hs_1 =>
 .leaf
 (Conf.mk
 (SFrm.mk 82 none none [Item.code (cAt Try.prog 82 [1, 0, 1, 0, 1])]
 (mkU
 [(0, .dat d), (2, .vec 1007), (3, .dat d),
 (4,
 .bool
 (nilOf
 (evS
 (putS [.dat d, SV.undef, .nils, SV.undef, SV.undef, SV.undef, SV.undef, SV.undef] (some 3)
 (evS [.dat d, SV.undef, .nils, SV.undef, SV.undef, SV.undef, SV.undef, SV.undef]
 (Operand.tmp 0)))
 (Operand.tmp 3))
 d)),
 (5, .vec 1005), (6, .dat d), (7, .vec 1007)]
 0 8))
 []
 [(1007,
 OBlk.arr 77
 (D.slc (D.hd (hs_1 0 0)) 2 (List.append (D.rows (D.slc (D.hd (hs 0 0)) 2 [])) (D.rows d))))]))) := by kernel_rfl

theorem cop_in : exec Try.prog ctK 400 (entry Try.prog 63 [.agg [.dat ha, .dat hb, .dat hc]]) =
 Tree.all fun hs =>
 .need (D.Is Int ha ∧ D.len ha ≤ 1048576)
 (.need (D.Is Ev hc ∧ D.len hc ≤ 1048576)
 (.leaf
 (Conf.mk
 (SFrm.mk 63 none none
 [Item.inLoop (cAt Try.prog 63 [1, 1, 0, 1, 0, 0]), Item.inBlock 0, Item.code (cAt Try.prog 63 [1, 1, 1])]
 (mkJ 0
 [(2, .ptr 0 0), (3, .ptr 1 0), (14, .dat hb), (15, .int .i64 (↑(D.len hb) : Int)),
 (16, .int .i64 0)]
 0 32))
 []
 [(0, OBlk.cells 26 [.nils, .nils, .nils]), (1, OBlk.cells 26 [.vec 2, .nils, .vec 3]),
 (2, OBlk.arr 3 (D.slc (D.hd (hs 2 0)) 1 (D.rows ha))),
 (3, OBlk.arr 77 (D.slc (D.hd (hs 5 0)) 2 (D.rows hc)))]))) := by kernel_rfl

theorem copR_in : exec Try.prog [] 400 (entry Try.prog 64 [.agg [.dat ha, .dat hb, .dat hc]]) =
 Tree.leaf
 (Conf.mk
 (SFrm.mk 64 none none
 [Item.inLoop (cAt Try.prog 64 [1, 1, 1, 1, 0, 1, 0, 0]), Item.inBlock 0,
 Item.code (cAt Try.prog 64 [1, 1, 1, 1, 1])]
 (mkJ 0 [(1, .ptr 0 0), (2, .ptr 1 0), (3, .nils), (4, .nils), (5, .nils), (6, .int .i64 0)] 0
 43))
 [] [(0, OBlk.cells 26 [.dat ha, .dat hb, .dat hc]), (1, OBlk.cells 26 [.nils, .nils, .nils])]) := by kernel_rfl

end
end Go.Proofs.Ytdiekahpofifeaa
end
section
open Go Go.Proofs Sx
namespace Go.Proofs.Ytdiekahpofifeaa
set_option maxRecDepth 100000
set_option maxHeartbeats 0
noncomputable def cpL (hb p q r : D) (j : Int) : Conf := Conf.mk (SFrm.mk 63 none none [Item.inLoop (cAt Try.prog 63 [1, 1, 0, 1, 0, 0]), Item.inBlock 0, Item.code (cAt Try.prog 63 [1, 1, 1])]
 (mkJ 0 [(2, .ptr 0 0), (3, .ptr 1 0), (14, .dat hb), (15, .int .i64 hb.len), (16, .int .i64 j)] 0 32)) [] [(0, .cells 26 [.nils, .nils, .nils]), (1, .cells 26 [.vec 2, .vec 3, .vec 4]), (2, .arr 3 p), (3, .arr 55 q), (4, .arr 77 r)]
noncomputable def crL (ha hb hc q : D) (j : Int) : Conf := Conf.mk (SFrm.mk 64 none none [Item.inLoop (cAt Try.prog 64 [1, 1, 1, 1, 0, 1, 0, 0]), Item.inBlock 0, Item.code (cAt Try.prog 64 [1, 1, 1, 1, 1])]
 (mkJ 0 [(1, .ptr 0 0), (2, .ptr 1 0), (3, .nils), (4, .vec 2), (5, .nils), (6, .int .i64 j)] 0 43)) [] [(0, .cells 26 [.dat ha, .dat hb, .dat hc]), (1, .cells 26 [.nils, .nils, .nils]), (2, .arr 55 q)]
section
variable (j : Int) (ha hb hc p q r : D)
theorem cpL_go : exec Try.prog ctK 400 (unroll (cpL hb p q r j)) =
 Tree.br (decide (j < (↑(D.len hb) : Int)))
 (.need (0 ≤ j ∧ j < (↑(D.len hb) : Int) ∧ D.sz hb = 3)
 (.need (D.HasCells hb (Int.toNat j) 0 [FT.int .i64, FT.int .i64, FT.slc])
 (.need (D.Is Sec (D.cell hb (Int.toNat j) 2) ∧ D.len (D.cell hb (Int.toNat j) 2) ≤ 1048576)
 (.all fun hs =>
 .all fun hs_1 =>
 .need
 (D.sz q = 3 ∧
 D.Fits
 (D.slc (D.hd (hs_1 0 0)) 3
 [[D.int .i64 (D.getInt hb (Int.toNat j) 0),
 D.int .i64 (D.getInt hb (Int.toNat j) 1),
 D.slc (D.hd (hs 0 0)) 8 (D.rows (D.cell hb (Int.toNat j) 2))]])
 3 ∧
 (D.len q +
 D.len
 (D.slc (D.hd (hs_1 0 0)) 3
 [[D.int .i64 (D.getInt hb (Int.toNat j) 0),
 D.int .i64 (D.getInt hb (Int.toNat j) 1),
 D.slc (D.hd (hs 0 0)) 8 (D.rows (D.cell hb (Int.toNat j) 2))]])) *
 40 ≤
 140737488355328 ∧
 D.len q +
 D.len
 (D.slc (D.hd (hs_1 0 0)) 3
 [[D.int .i64 (D.getInt hb (Int.toNat j) 0),
 D.int .i64 (D.getInt hb (Int.toNat j) 1),
 D.slc (D.hd (hs 0 0)) 8 (D.rows (D.cell hb (Int.toNat j) 2))]]) ≤
 9223372036854775807)
 (.all fun hs_2 =>
 .leaf
 (Conf.mk
 (SFrm.mk 63 none none
 [Item.inLoop (cAt Try.prog 63 [1, 1, 0, 1, 0, 0]), Item.inBlock 0,
 Item.code (cAt Try.prog 63 [1, 1, 1])]
 (mkJ 0
 [(2, .ptr 0 0), (3, .ptr 1 0), (14, .dat hb),
 (15, .int .i64 (↑(D.len hb) : Int)),
 (16, .int .i64 (IntKind.wrap .i64 (j + 1)))]
 0 32))
 []
 [(0, OBlk.cells 26 [.nils, .nils, .nils]), (1, OBlk.cells 26 [.vec 2, .vec 3, .vec 4]),
 (2, OBlk.arr 3 p),
 (3,
 OBlk.arr 55
 (D.slc (D.hd (hs_2 0 0)) 3
 (List.append (D.rows q)
 (D.rows
 (D.slc (D.hd (hs_1 0 0)) 3
 [[D.int .i64 (D.getInt hb (Int.toNat j) 0),
 D.int .i64 (D.getInt hb (Int.toNat j) 1),
 D.slc (D.hd (hs 0 0)) 8 (D.rows (D.cell hb (Int.toNat j) 2))]]))))),
 (4, OBlk.arr 77 r)]))))))
 (.ret (.agg [.dat p, .dat q, .dat r])) := by kernel_rfl

theorem crL_go : exec Try.prog [] 400 (unroll (crL ha hb hc q j)) =
 Tree.br (decide (j < (↑(D.len hb) : Int)))
 (.need (0 ≤ j ∧ j < (↑(D.len hb) : Int) ∧ D.sz hb = 3)
 (.need (D.HasCells hb (Int.toNat j) 0 [FT.int .i64, FT.int .i64, FT.slc])
 (.all fun hs =>
 .need
 (D.Fits (D.cell hb (Int.toNat j) 2) 8 ∧
 D.len (D.cell hb (Int.toNat j) 2) * 8 ≤ 140737488355328 ∧
 D.len (D.cell hb (Int.toNat j) 2) ≤ 9223372036854775807)
 (.need
 (D.sz q = 3 ∧
 D.Fits
 (D.slc (D.hd (hs 10 0)) 3
 [[D.int .i64 (D.getInt hb (Int.toNat j) 0), D.int .i64 (D.getInt hb (Int.toNat j) 1),
 D.slc (D.hd (hs 8 0)) 8 (D.rows (D.cell hb (Int.toNat j) 2))]])
 3 ∧
 (D.len q +
 D.len
 (D.slc (D.hd (hs 10 0)) 3
 [[D.int .i64 (D.getInt hb (Int.toNat j) 0),
 D.int .i64 (D.getInt hb (Int.toNat j) 1),
 D.slc (D.hd (hs 8 0)) 8 (D.rows (D.cell hb (Int.toNat j) 2))]])) *
 40 ≤
 140737488355328 ∧
 D.len q +
 D.len
 (D.slc (D.hd (hs 10 0)) 3
 [[D.int .i64 (D.getInt hb (Int.toNat j) 0),
 D.int .i64 (D.getInt hb (Int.toNat j) 1),
 D.slc (D.hd (hs 8 0)) 8 (D.rows (D.cell hb (Int.toNat j) 2))]]) ≤
 9223372036854775807)
 (.leaf
 (Conf.mk
 (SFrm.mk 64 none none
 [Item.inLoop (cAt Try.prog 64 [1, 1, 1, 1, 0, 1, 0, 0]), Item.inBlock 0,
 Item.code (cAt Try.prog 64 [1, 1, 1, 1, 1])]
 (mkJ 0
 [(1, .ptr 0 0), (2, .ptr 1 0), (3, .nils), (4, .vec 2), (5, .nils),
 (6, .int .i64 (IntKind.wrap .i64 (j + 1)))]
 0 43))
 []
 [(0, OBlk.cells 26 [.dat ha, .dat hb, .dat hc]), (1, OBlk.cells 26 [.nils, .nils, .nils]),
 (2,
 OBlk.arr 55
 (D.slc (D.hd (hs 11 0)) 3
 (List.append (D.rows q)
 (D.rows
 (D.slc (D.hd (hs 10 0)) 3
 [[D.int .i64 (D.getInt hb (Int.toNat j) 0),
 D.int .i64 (D.getInt hb (Int.toNat j) 1),
 D.slc (D.hd (hs 8 0)) 8 (D.rows (D.cell hb (Int.toNat j) 2))]])))))]))))))
 (.all fun hs =>
 .need (D.Fits ha 1 ∧ D.len ha * 8 ≤ 140737488355328 ∧ D.len ha ≤ 9223372036854775807)
 (.need (D.Fits hc 2 ∧ D.len hc * 16 ≤ 140737488355328 ∧ D.len hc ≤ 9223372036854775807)
 (.ret
 (.agg
 [.dat (D.slc (D.hd (hs 3 0)) 1 (D.rows ha)), .dat q, .dat (D.slc (D.hd (hs 8 0)) 2 (D.rows hc))])))) := by kernel_rfl

end
end Go.Proofs.Ytdiekahpofifeaa
end
section
open Go
namespace Sx
noncomputable def hiSV (ds : Nat → D) (h : Hist) : SV := .agg [.dat ((ds 0).like h.sizes), .dat ((ds 1).like h.writes), .dat ((ds 2).like h.events)]
noncomputable def spCopy (x : HiD) : SpecR := .data [x.Right] fun ds => hiSV ds x.hist
theorem slc_same {α : Type} [Codec α] {d : D} (h : d.Is α) (hd : Hd) {s : Nat} (hs : s = Codec.sz α) : (D.slc hd s d.rows).Is α ∧ (D.slc hd s d.rows).to α = d.to α := is_of hs (rows_of h)
section
variable {P : Program} {w : World} {H : HV}
theorem ret_hi {X Y Z : SV} {s : List Int} {ws : List Wt} {es : List Ev} {h : Hist} (hx : Stands Int X s) (hy : Stands Wt Y ws) (hz : Stands Ev Z es) (e : h = ⟨s, ws, es⟩) :
    (Tree.ret (.agg [X, Y, Z])).holds P ⟨w, H⟩ (RetD w H fun ds => hiSV ds h) := by
  subst e
  obtain ⟨d, h1, h2, h3, h4⟩ := hx
  obtain ⟨d', h1', h2', h3', h4'⟩ := hy
  obtain ⟨d'', h1'', h2'', h3'', h4''⟩ := hz
  refine ret_D (fun i => match i with | 0 => d | 1 => d' | _ => d'') (fun E E' => ?_) (fun H' ho => ?_)
  · simp only [hiSV, SV.den, SV.denL, D.like_self h2 h3, D.like_self h2' h3', D.like_self h2'' h3'', h1, h1', h1'']
  · simp only [hiSV, SV.Ok, SV.OkL, D.like_self h2 h3, D.like_self h2' h3', D.like_self h2'' h3''] at ho ⊢
    exact ⟨⟨h4 _ ho.1, h2.slc⟩, ⟨h4' _ ho.2.1, h2'.slc⟩, ⟨h4'' _ ho.2.2.1, h2''.slc⟩, trivial⟩
theorem ret_hiI {X Y Z : SV} {s : List Int} {ws : List Wt} {es : List Ev} {h : Hist} {k k' : Int} (hx : Stands Int X s) (hy : Stands Wt Y ws) (hz : Stands Ev Z es) (e : h = ⟨s, ws, es⟩) (hk : k = k') :
    (Tree.ret (.tup [.agg [X, Y, Z], .int .i64 k])).holds P ⟨w, H⟩ (RetD w H fun ds => .tup [hiSV ds h, .int .i64 k']) := by
  subst e; subst hk
  obtain ⟨d, h1, h2, h3, h4⟩ := hx
  obtain ⟨d', h1', h2', h3', h4'⟩ := hy
  obtain ⟨d'', h1'', h2'', h3'', h4''⟩ := hz
  refine ret_D (fun i => match i with | 0 => d | 1 => d' | _ => d'') (fun E E' => ?_) (fun H' ho => ?_)
  · simp only [hiSV, SV.den, SV.denL, D.like_self h2 h3, D.like_self h2' h3', D.like_self h2'' h3'', h1, h1', h1'']
  · simp only [hiSV, SV.Ok, SV.OkL, D.like_self h2 h3, D.like_self h2' h3', D.like_self h2'' h3''] at ho ⊢
    exact ⟨⟨⟨h4 _ ho.1.1, h2.slc⟩, ⟨h4' _ ho.1.2.1, h2'.slc⟩, ⟨h4'' _ ho.1.2.2.1, h2''.slc⟩, trivial⟩, trivial, trivial⟩
theorem ret_hiII {X Y Z : SV} {s : List Int} {ws : List Wt} {es : List Ev} {h : Hist} {k k' m m' : Int} (hx : Stands Int X s) (hy : Stands Wt Y ws) (hz : Stands Ev Z es) (e : h = ⟨s, ws, es⟩) (hk : k = k') (hm : m = m') :
    (Tree.ret (.tup [.agg [X, Y, Z], .int .i64 k, .int .i64 m])).holds P ⟨w, H⟩ (RetD w H fun ds => .tup [hiSV ds h, .int .i64 k', .int .i64 m']) := by
  subst e; subst hk; subst hm
  obtain ⟨d, h1, h2, h3, h4⟩ := hx
  obtain ⟨d', h1', h2', h3', h4'⟩ := hy
  obtain ⟨d'', h1'', h2'', h3'', h4''⟩ := hz
  refine ret_D (fun i => match i with | 0 => d | 1 => d' | _ => d'') (fun E E' => ?_) (fun H' ho => ?_)
  · simp only [hiSV, SV.den, SV.denL, D.like_self h2 h3, D.like_self h2' h3', D.like_self h2'' h3'', h1, h1', h1'']
  · simp only [hiSV, SV.Ok, SV.OkL, D.like_self h2 h3, D.like_self h2' h3', D.like_self h2'' h3''] at ho ⊢
    exact ⟨⟨⟨h4 _ ho.1.1, h2.slc⟩, ⟨h4' _ ho.1.2.1, h2'.slc⟩, ⟨h4'' _ ho.1.2.2.1, h2''.slc⟩, trivial⟩, trivial, trivial, trivial⟩
end
def zHist : Hist := ⟨[], [], []⟩
def newH (s : List Int) : Hist × Int := if sizesErr s ≠ 0 then (zHist, sizesErr s) else (⟨s, [], []⟩, 0)
noncomputable def spNewH (x : D) : SpecR := .data [x.Is Int ∧ x.len ≤ 1048576] fun ds => .tup [hiSV ds (newH (x.to Int)).1, .int .i64 (newH (x.to Int)).2]
def issueH (h : Hist) (w : Wt) : Hist × Int × Int :=
  if (checkH h).1 ≠ 0 then (zHist, 0, (checkH h).1) else if h.writes.length ≥ 4096 then (zHist, 0, 6)
  else if fitsErr h.sizes w ≠ 0 then (zHist, 0, fitsErr h.sizes w) else (⟨h.sizes, h.writes ++ [w], h.events ++ [⟨0, h.writes.length⟩]⟩, h.writes.length, 0)
noncomputable def spIssueH (x : HiD × WtD) : SpecR := .data [x.1.Right ∧ x.1.e.len ≤ 1000000 ∧ x.2.Ok] fun ds => .tup [hiSV ds (issueH x.1.hist x.2.wt).1, .int .i64 (issueH x.1.hist x.2.wt).2.1, .int .i64 (issueH x.1.hist x.2.wt).2.2]
def ackH (h : Hist) (n : Int) : Hist × Int :=
  if (checkH h).1 ≠ 0 then (zHist, (checkH h).1) else if n < 0 ∨ n ≥ h.writes.length then (zHist, 7)
  else if atEv h.events ⟨1, n⟩ ≥ 0 then (zHist, 8) else (⟨h.sizes, h.writes, h.events ++ [⟨1, n⟩]⟩, 0)
noncomputable def spAckH (x : HiD × Int) : SpecR := .data [x.1.Right ∧ x.1.e.len ≤ 1000000] fun ds => .tup [hiSV ds (ackH x.1.hist x.2).1, .int .i64 (ackH x.1.hist x.2).2]
theorem issueH_e1 {h : Hist} {x : Wt} (h1 : (checkH h).1 ≠ 0) : issueH h x = (zHist, 0, (checkH h).1) := by unfold issueH; rw [if_pos h1]
theorem issueH_e2 {h : Hist} {x : Wt} (h1 : ¬((checkH h).1 ≠ 0)) (h2 : h.writes.length ≥ 4096) : issueH h x = (zHist, 0, 6) := by unfold issueH; rw [if_neg h1, if_pos h2]
theorem issueH_e3 {h : Hist} {x : Wt} (h1 : ¬((checkH h).1 ≠ 0)) (h2 : ¬h.writes.length ≥ 4096) (h3 : fitsErr h.sizes x ≠ 0) : issueH h x = (zHist, 0, fitsErr h.sizes x) := by unfold issueH; rw [if_neg h1, if_neg h2, if_pos h3]
theorem issueH_ok {h : Hist} {x : Wt} (h1 : ¬((checkH h).1 ≠ 0)) (h2 : ¬h.writes.length ≥ 4096) (h3 : ¬(fitsErr h.sizes x ≠ 0)) : issueH h x = (Hist.mk h.sizes (h.writes ++ [x]) (h.events ++ [Ev.mk 0 h.writes.length]), (h.writes.length : Int), (0 : Int)) := by
  unfold issueH; rw [if_neg h1, if_neg h2, if_neg h3]
theorem ackH_e1 {h : Hist} {n : Int} (h1 : (checkH h).1 ≠ 0) : ackH h n = (zHist, (checkH h).1) := by unfold ackH; rw [if_pos h1]
theorem ackH_e7 {h : Hist} {n : Int} (h1 : ¬((checkH h).1 ≠ 0)) (h2 : n < 0 ∨ n ≥ h.writes.length) : ackH h n = (zHist, 7) := by unfold ackH; rw [if_neg h1, if_pos h2]
theorem ackH_e8 {h : Hist} {n : Int} (h1 : ¬((checkH h).1 ≠ 0)) (h2 : ¬(n < 0 ∨ n ≥ h.writes.length)) (h3 : atEv h.events ⟨1, n⟩ ≥ 0) : ackH h n = (zHist, 8) := by unfold ackH; rw [if_neg h1, if_neg h2, if_pos h3]
theorem ackH_ok {h : Hist} {n : Int} (h1 : ¬((checkH h).1 ≠ 0)) (h2 : ¬(n < 0 ∨ n ≥ h.writes.length)) (h3 : ¬(atEv h.events ⟨1, n⟩ ≥ 0)) : ackH h n = (Hist.mk h.sizes h.writes (h.events ++ [Ev.mk 1 n]), (0 : Int)) := by
  unfold ackH; rw [if_neg h1, if_neg h2, if_neg h3]
theorem img_ok {l : List Int} (h1 : sizesErr l = 0) (d : D) : ImgOk (d.like (imgOf l)) := by
  refine ⟨D.like_is _ _, ?_, fun v hv => ?_⟩
  · rw [D.Is.length (α := Vol), D.like_to]
    unfold imgOf
    rw [if_neg (by simp [h1])]
    have := sizesErr_ok h1
    simp only [List.length_map]; omega
  · rw [D.like_to] at hv
    unfold imgOf at hv
    rw [if_neg (by simp [h1])] at hv
    obtain ⟨n, hn, rfl⟩ := List.mem_map.1 hv
    have := (sizesErr_ok h1).2.2 n hn
    simp only [volOf, List.length_replicate]; omega
theorem sub3_all {α : Type} [Codec α] {d : D} (h : d.Is α) : (d.sub3 0 (Int.toNat (d.len : Int))).Tight ∧ (d.sub3 0 (Int.toNat (d.len : Int))).Is α ∧ (d.sub3 0 (Int.toNat (d.len : Int))).to α = d.to α ∧ (d.sub3 0 (Int.toNat (d.len : Int))).len = d.len := by
  obtain ⟨h1, h2⟩ := h.sub3 0 (Int.toNat (d.len : Int))
  simp only [Int.toNat_natCast, List.drop_zero, Nat.sub_zero] at h1 h2 ⊢
  have h3 : (d.sub3 0 d.len).to α = d.to α := by rw [h2, D.Is.length (α := α), List.take_length]
  have h4 : (d.sub3 0 d.len).len = d.len := by rw [D.Is.length (α := α) (d.sub3 0 d.len), h3, D.Is.length (α := α) d]
  refine ⟨fun a c hc => ?_, h1, h3, h4⟩
  rw [h4]
  simp only [D.sub3, D.hd] at hc
  cases hd : d.hd with
  | none => simp only [D.hd] at hd; simp [hd] at hc
  | some q => simp only [D.hd] at hd; simp [hd] at hc; omega
def spSameH (x : HiD × HiD) : SpecR := .scalar [x.1.Right ∧ x.2.s.Is Int ∧ x.2.w.Is Wt ∧ x.2.e.Is Ev] (.bool (decide (x.1.hist = x.2.hist)))
end Sx
end
section
open Go Go.Proofs Sx
namespace Go.Proofs.Ytdiekahpofifeaa
set_option maxRecDepth 100000

theorem lawCl1 : OLaw Try.prog 51 (spClone Int 3) := by
  refine olaw_clone (by kernel_rfl) fun H w d hok hd hlen => ?_
  apply execT_sound (noCtr _) (fun _ => false) 19
  rw [cl1_in]
  refine ⟨fun hc => ?_, fun hc hs => ⟨⟨rfl, hd.fits, by simp only [len_slc, List.length_nil]; omega, by simp only [len_slc, List.length_nil]; omega⟩, fun hs1 => ?_⟩⟩
  · have hc : d.isNil = true := hc
    have := nil_rows hok hc
    exact own_nil (h := .slc none 1 []) (by rw [this]; rfl)
  · exact own_ret (f := Try.f51) (j := 1007) (h := hs1 0 0) (by kernel_rfl) (by kernel_rfl) rfl rfl
theorem lawCl2 : OLaw Try.prog 67 (spClone Sec 105) := by
  refine olaw_clone (by kernel_rfl) fun H w d hok hd hlen => ?_
  apply execT_sound (noCtr _) (fun _ => false) 19
  rw [cl2_in]
  refine ⟨fun hc => ?_, fun hc hs => ⟨⟨rfl, hd.fits, by simp only [len_slc, List.length_nil]; omega, by simp only [len_slc, List.length_nil]; omega⟩, fun hs1 => ?_⟩⟩
  · have hc : d.isNil = true := hc
    have := nil_rows hok hc
    exact own_nil (h := .slc none 8 []) (by rw [this]; rfl)
  · exact own_ret (f := Try.f67) (j := 1007) (h := hs1 0 0) (by kernel_rfl) (by kernel_rfl) rfl rfl
theorem lawCl3 : OLaw Try.prog 82 (spClone Ev 77) := by
  refine olaw_clone (by kernel_rfl) fun H w d hok hd hlen => ?_
  apply execT_sound (noCtr _) (fun _ => false) 19
  rw [cl3_in]
  refine ⟨fun hc => ?_, fun hc hs => ⟨⟨rfl, hd.fits, by simp only [len_slc, List.length_nil]; omega, by simp only [len_slc, List.length_nil]; omega⟩, fun hs1 => ?_⟩⟩
  · have hc : d.isNil = true := hc
    have := nil_rows hok hc
    exact own_nil (h := .slc none 2 []) (by rw [this]; rfl)
  · exact own_ret (f := Try.f82) (j := 1007) (h := hs1 0 0) (by kernel_rfl) (by kernel_rfl) rfl rfl
theorem ctKOk : Ctrs.Ok Try.prog ctK := by
  intro x hx
  simp only [ctK, List.mem_cons, List.not_mem_nil, or_false] at hx
  rcases hx with rfl | rfl | rfl
  · exact oCtr_ok lawCl1
  · exact oCtr_ok lawCl2
  · exact oCtr_ok lawCl3

theorem lawCopied : Law Try.prog 63 (rdHi.one.sp spCopy) := by
  refine law_in _ (by kernel_rfl) fun H w ⟨ha, hb, hc⟩ hok hp => ?_
  have hR : (HiD.mk ha hb hc).Right := hp _ (List.mem_singleton.2 rfl)
  obtain ⟨ra, rb, rc, la, lb, lc, rd⟩ := id hR
  simp only at ra rb rc la lb lc rd
  have bl := D.Is.length (α := Wt) hb
  apply exec_sound ctKOk 400
  rw [show rdHi.one.canon ⟨ha, hb, hc⟩ = [.agg [.dat ha, .dat hb, .dat hc]] from rfl, cop_in]
  refine fun hs => ⟨⟨ra, la⟩, ⟨rc, lc⟩, ?_⟩
  obtain ⟨p1, p2⟩ := slc_same ra (D.hd (hs 2 0)) (s := 1) rfl
  obtain ⟨r1, r2⟩ := slc_same rc (D.hd (hs 5 0)) (s := 2) rfl
  refine vecIn_to 9 55 3 (some 1) 1 (cpL hb (D.slc (D.hd (hs 2 0)) 1 (D.rows ha)) (.slc none 3 []) (D.slc (D.hd (hs 5 0)) 2 (D.rows hc)) 0) (by kernel_rfl) ?_
  generalize D.slc (D.hd (hs 2 0)) 1 (D.rows ha) = p at p1 p2
  generalize D.slc (D.hd (hs 5 0)) 2 (D.rows hc) = r at r1 r2
  refine runs_loop (fun q : D × Nat => cpL hb p q.1 r q.2) (fun q => q.2 ≤ (hb.to Wt).length ∧ q.1.Is Wt ∧ q.1.sz = 3 ∧ q.1.to Wt = (hb.to Wt).take q.2) (fun q => (hb.to Wt).length - q.2) (fun _ => rfl) ?_ (.slc none 3 [], 0) ⟨Nat.zero_le _, is_nil _ _, rfl, rfl⟩
  intro ⟨q, j⟩ ⟨hj, hq, hz, hto⟩ ih
  simp only at hj hq hz hto
  have ql := D.Is.length (α := Wt) q
  rw [hto, List.length_take] at ql
  show Runs Try.prog ⟨w, H⟩ (unroll (cpL hb p q r j)) _
  apply exec_sound ctKOk 400
  rw [cpL_go]
  refine ⟨fun hcj => ?_, fun hcj => ?_⟩
  · have hcj : j < (hb.to Wt).length := by have := of_decide_eq_true hcj; omega
    obtain ⟨c1, c2, c3⟩ := wt_cell rb hcj
    have hwd := rd _ (List.getElem_mem hcj)
    rw [c3] at hwd
    refine ⟨⟨by omega, by omega, rb.size hcj⟩, c1, ⟨c2, by rw [D.Is.length (α := Sec)]; exact hwd⟩, fun hs1 hs2 => ⟨⟨hz, .inr rfl, by simp only [len_slc, List.length_cons, List.length_nil]; omega, by simp only [len_slc, List.length_cons, List.length_nil]; omega⟩, fun hs3 => ?_⟩⟩
    obtain ⟨x1, x2⟩ := slc_same c2 (D.hd (hs1 0 0)) (s := 8) rfl
    have hr := rows_app (rows_of hq) (wt_one (hb.getInt j 0) (hb.getInt j 1) x1)
    obtain ⟨i1, i2⟩ := is_of (h := D.hd (hs3 0 0)) (s := 3) rfl hr
    have := ih (_, j + 1) ⟨hcj, i1, rfl, i2.trans (by rw [hto, List.take_succ_eq_append_getElem hcj, c3, x2])⟩ (by simp only; omega)
    simp only at this
    rw [← wrap_succ hcj (by omega)] at this
    exact this
  · have : j = (hb.to Wt).length := by have := of_decide_eq_false hcj; omega
    subst this
    rw [List.take_length] at hto
    exact ret_hi (stands_dat p1 p2) (stands_dat hq hto) (stands_dat r1 r2) rfl

theorem copR_loop {H : HV} {w : World} {ha hb hc : D} (hR : (HiD.mk ha hb hc).Right) :
    Runs Try.prog ⟨w, H⟩ (crL ha hb hc (.slc none 3 []) 0) (RetD w H fun ds => hiSV ds (HiD.mk ha hb hc).hist) := by
  obtain ⟨ra, rb, rc, la, lb, lc, rd⟩ := id hR
  simp only at ra rb rc la lb lc rd
  have bl := D.Is.length (α := Wt) hb
  refine runs_loop (fun q : D × Nat => crL ha hb hc q.1 q.2) (fun q => q.2 ≤ (hb.to Wt).length ∧ q.1.Is Wt ∧ q.1.sz = 3 ∧ q.1.to Wt = (hb.to Wt).take q.2) (fun q => (hb.to Wt).length - q.2) (fun _ => rfl) ?_ (.slc none 3 [], 0) ⟨Nat.zero_le _, is_nil _ _, rfl, rfl⟩
  intro ⟨q, j⟩ ⟨hj, hq, hz, hto⟩ ih
  simp only at hj hq hz hto
  have ql := D.Is.length (α := Wt) q
  rw [hto, List.length_take] at ql
  show Runs Try.prog ⟨w, H⟩ (unroll (crL ha hb hc q j)) _
  apply exec_sound (noCtr _) 400
  rw [crL_go]
  refine ⟨fun hcj => ?_, fun hcj hs => ?_⟩
  · have hcj : j < (hb.to Wt).length := by have := of_decide_eq_true hcj; omega
    obtain ⟨c1, c2, c3⟩ := wt_cell rb hcj
    have hwd := rd _ (List.getElem_mem hcj)
    rw [c3] at hwd
    have hls : (hb.cell (Int.toNat (j : Int)) 2).len ≤ 1048576 := by rw [D.Is.length (α := Sec)]; exact hwd
    refine ⟨⟨by omega, by omega, rb.size hcj⟩, c1, fun hs => ⟨⟨c2.fits, by omega, by omega⟩, ⟨hz, .inr rfl, by simp only [len_slc, List.length_cons, List.length_nil]; omega, by simp only [len_slc, List.length_cons, List.length_nil]; omega⟩, ?_⟩⟩
    obtain ⟨x1, x2⟩ := slc_same c2 (D.hd (hs 8 0)) (s := 8) rfl
    have hr := rows_app (rows_of hq) (wt_one (hb.getInt j 0) (hb.getInt j 1) x1)
    obtain ⟨i1, i2⟩ := is_of (h := D.hd (hs 11 0)) (s := 3) rfl hr
    have := ih (_, j + 1) ⟨hcj, i1, rfl, i2.trans (by rw [hto, List.take_succ_eq_append_getElem hcj, c3, x2])⟩ (by simp only; omega)
    simp only at this
    rw [← wrap_succ hcj (by omega)] at this
    exact this
  · have : j = (hb.to Wt).length := by have := of_decide_eq_false hcj; omega
    subst this
    rw [List.take_length] at hto
    obtain ⟨p1, p2⟩ := slc_same ra (D.hd (hs 3 0)) (s := 1) rfl
    obtain ⟨r1, r2⟩ := slc_same rc (D.hd (hs 8 0)) (s := 2) rfl
    exact ⟨⟨ra.fits, by omega, by omega⟩, ⟨rc.fits, by omega, by omega⟩, ret_hi (stands_dat p1 p2) (stands_dat hq hto) (stands_dat r1 r2) rfl⟩
theorem lawCopyR : Law Try.prog 64 (rdHi.one.sp spCopy) := by
  refine law_in _ (by kernel_rfl) fun H w ⟨ha, hb, hc⟩ hok hp => ?_
  have hR : (HiD.mk ha hb hc).Right := hp _ (List.mem_singleton.2 rfl)
  apply exec_sound (noCtr _) 400
  rw [show rdHi.one.canon ⟨ha, hb, hc⟩ = [.agg [.dat ha, .dat hb, .dat hc]] from rfl, copR_in]
  exact vecIn_to 9 55 3 none 4 (crL ha hb hc (.slc none 3 []) 0) (by kernel_rfl) (copR_loop hR)
end Go.Proofs.Ytdiekahpofifeaa
end
section
open Go Go.Proofs Sx
namespace Go.Proofs.Ytdiekahpofifeaa
set_option maxRecDepth 100000
set_option maxHeartbeats 0
noncomputable def ctM : Ctrs := (41, ctrOf (rdHi.one.sp spCk)) :: (24, ctrOf (rdHi.one.sp spCkI)) :: (64, ctrOf (rdHi.one.sp spCopy)) :: (ctK ++ (ctC1 ++ ctC2))
section
variable (n j k w : Int) (d e a b i o ha hb hc ga gb gc : D) (v s : Int)
theorem nw_in : exec Try.prog ctM 300 (entry Try.prog 20 [.dat d]) =
 Tree.need (D.Is Int d ∧ D.len d ≤ 1048576)
 (.all fun hs =>
 .br (sizesErr (D.to Int d) != 0)
 (.ret (SV.tup [.agg [.nils, .nils, .nils], .int .i64 (sizesErr (D.to Int d))]))
 (.need (D.Is Int d ∧ D.len d ≤ 1048576)
 (.all fun hs =>
 .ret
 (SV.tup [.agg [.dat (D.slc (D.hd (hs 0 0)) 1 (D.rows d)), .nils, .nils], .int .i64 0])))) := by kernel_rfl

theorem nwR_in : exec Try.prog ctM 300 (entry Try.prog 21 [.dat d]) =
 Tree.need (D.Is Int d ∧ D.len d ≤ 1048576)
 (.br (sizesErr (D.to Int d) != 0)
 (.ret (SV.tup [.agg [.nils, .nils, .nils], .int .i64 (sizesErr (D.to Int d))]))
 (.need (D.Fits d 1 ∧ D.len d * 8 ≤ 140737488355328 ∧ D.len d ≤ 9223372036854775807)
 (.all fun hs =>
 .ret
 (SV.tup [.agg [.dat (D.slc (D.hd (hs 0 0)) 1 (D.rows d)), .nils, .nils], .int .i64 0])))) := by kernel_rfl

theorem chk1_in : exec Try.prog ctM 300 (entry Try.prog 23 [.agg [.dat ha, .dat hb, .dat hc]]) =
 Tree.need (HiD.Right (HiD.mk ha hb hc))
 (.all fun hs => .ret (.int .i64 (Prod.fst (checkH (HiD.hist (HiD.mk ha hb hc)))))) := by kernel_rfl


theorem isR_in : exec Try.prog ctM 500 (entry Try.prog 31 [.agg [.dat ha, .dat hb, .dat hc], .agg [.int .i64 v, .int .i64 s, .dat e]]) =
 Tree.need (HiD.Right (HiD.mk ha hb hc))
 (.br (Prod.fst (checkH (HiD.hist (HiD.mk ha hb hc))) != 0)
 (.ret
 (SV.tup
 [.agg [.nils, .nils, .nils], .int .i64 0,
 .int .i64 (Prod.fst (checkH (HiD.hist (HiD.mk ha hb hc))))]))
 (.br (decide ((↑(D.len hb) : Int) ≥ 4096))
 (.ret (SV.tup [.agg [.nils, .nils, .nils], .int .i64 0, .int .i64 6]))
 (.need
 (D.Is Int ha ∧
 D.len ha ≤ 1048576 ∧ (∀ (n : Int), List.Mem n (D.to Int ha) → 1 ≤ n ∧ n ≤ 4096) ∧ WtD.Ok (WtD.mk v s e))
 (.br (fitsErr (D.to Int ha) (WtD.wt (WtD.mk v s e)) != 0)
 (.ret
 (SV.tup
 [.agg [.nils, .nils, .nils], .int .i64 0,
 .int .i64 (fitsErr (D.to Int ha) (WtD.wt (WtD.mk v s e)))]))
 (.all fun hs =>
 .need
 (0 ≤ (↑0 : Int) ∧
 (↑0 : Int) ≤ (↑(D.len hb) : Int) ∧
 (↑(D.len hb) : Int) ≤ (↑(D.len hb) : Int) ∧ (↑(D.len hb) : Int) = (↑(D.len hb) : Int) ∧ D.Fits hb 3)
 (.need
 (D.Tight (D.sub3 hb 0 (Int.toNat (↑(D.len hb) : Int))) ∧
 D.Fits (D.sub3 hb 0 (Int.toNat (↑(D.len hb) : Int))) 3 ∧
 D.Fits (D.slc (D.hd (hs 6 0)) 3 [[D.int .i64 v, D.int .i64 s, e]]) 3 ∧
 0 < D.len (D.slc (D.hd (hs 6 0)) 3 [[D.int .i64 v, D.int .i64 s, e]]) ∧
 (D.len (D.sub3 hb 0 (Int.toNat (↑(D.len hb) : Int))) +
 D.len (D.slc (D.hd (hs 6 0)) 3 [[D.int .i64 v, D.int .i64 s, e]])) *
 40 ≤
 140737488355328 ∧
 D.len (D.sub3 hb 0 (Int.toNat (↑(D.len hb) : Int))) +
 D.len (D.slc (D.hd (hs 6 0)) 3 [[D.int .i64 v, D.int .i64 s, e]]) ≤
 9223372036854775807)
 (.all fun hs_1 =>
 .need
 (0 ≤ (↑0 : Int) ∧
 (↑0 : Int) ≤ (↑(D.len hc) : Int) ∧
 (↑(D.len hc) : Int) ≤ (↑(D.len hc) : Int) ∧
 (↑(D.len hc) : Int) = (↑(D.len hc) : Int) ∧ D.Fits hc 2)
 (.need
 (D.Tight (D.sub3 hc 0 (Int.toNat (↑(D.len hc) : Int))) ∧
 D.Fits (D.sub3 hc 0 (Int.toNat (↑(D.len hc) : Int))) 2 ∧
 D.Fits
 (D.slc (D.hd (hs_1 11 0)) 2
 [[D.int .i64 0, D.int .i64 (↑(D.len hb) : Int)]])
 2 ∧
 0 <
 D.len
 (D.slc (D.hd (hs_1 11 0)) 2
 [[D.int .i64 0, D.int .i64 (↑(D.len hb) : Int)]]) ∧
 (D.len (D.sub3 hc 0 (Int.toNat (↑(D.len hc) : Int))) +
 D.len
 (D.slc (D.hd (hs_1 11 0)) 2
 [[D.int .i64 0, D.int .i64 (↑(D.len hb) : Int)]])) *
 16 ≤
 140737488355328 ∧
 D.len (D.sub3 hc 0 (Int.toNat (↑(D.len hc) : Int))) +
 D.len
 (D.slc (D.hd (hs_1 11 0)) 2
 [[D.int .i64 0, D.int .i64 (↑(D.len hb) : Int)]]) ≤
 9223372036854775807)
 (.need
 (HiD.Right
 (HiD.mk ha
 (D.slc (D.hd (hs 7 0)) 3
 (List.append (D.rows (D.sub3 hb 0 (Int.toNat (↑(D.len hb) : Int))))
 (D.rows (D.slc (D.hd (hs 6 0)) 3 [[D.int .i64 v, D.int .i64 s, e]]))))
 (D.slc (D.hd (hs_1 12 0)) 2
 (List.append (D.rows (D.sub3 hc 0 (Int.toNat (↑(D.len hc) : Int))))
 (D.rows
 (D.slc (D.hd (hs_1 11 0)) 2
 [[D.int .i64 0, D.int .i64 (↑(D.len hb) : Int)]]))))))
 (.all fun hs_2 =>
 .ret
 (SV.tup
 [.agg
 [.dat (D.like (hs_2 0 0) (D.to Int ha)),
 .dat
 (D.like (hs_2 0 1)
 (D.to Wt
 (D.slc (D.hd (hs 7 0)) 3
 (List.append (D.rows (D.sub3 hb 0 (Int.toNat (↑(D.len hb) : Int))))
 (D.rows
 (D.slc (D.hd (hs 6 0)) 3
 [[D.int .i64 v, D.int .i64 s, e]])))))),
 .dat
 (D.like (hs_2 0 2)
 (D.to Ev
 (D.slc (D.hd (hs_1 12 0)) 2
 (List.append (D.rows (D.sub3 hc 0 (Int.toNat (↑(D.len hc) : Int))))
 (D.rows
 (D.slc (D.hd (hs_1 11 0)) 2
 [[D.int .i64 0, D.int .i64 (↑(D.len hb) : Int)]]))))))],
 .int .i64 (↑(D.len hb) : Int), .int .i64 0]))))))))))) := by kernel_rfl


theorem akR_in : exec Try.prog ctM 500 (entry Try.prog 33 [.agg [.dat ha, .dat hb, .dat hc], .int .i64 n]) =
 Tree.need (HiD.Right (HiD.mk ha hb hc))
 (.br (Prod.fst (checkH (HiD.hist (HiD.mk ha hb hc))) != 0)
 (.ret
 (SV.tup
 [.agg [.nils, .nils, .nils], .int .i64 (Prod.fst (checkH (HiD.hist (HiD.mk ha hb hc))))]))
 (.br (decide (n < 0)) (.ret (SV.tup [.agg [.nils, .nils, .nils], .int .i64 7]))
 (.br (decide (n ≥ (↑(D.len hb) : Int)))
 (.ret (SV.tup [.agg [.nils, .nils, .nils], .int .i64 7]))
 (.all fun hs =>
 .need (D.Is Ev hc ∧ D.len hc ≤ 1048576)
 (.br (decide (atEv (D.to Ev hc) (EvD.ev (EvD.mk 1 n)) ≥ 0))
 (.ret (SV.tup [.agg [.nils, .nils, .nils], .int .i64 8]))
 (.all fun hs =>
 .need
 (0 ≤ (↑0 : Int) ∧
 (↑0 : Int) ≤ (↑(D.len hc) : Int) ∧
 (↑(D.len hc) : Int) ≤ (↑(D.len hc) : Int) ∧
 (↑(D.len hc) : Int) = (↑(D.len hc) : Int) ∧ D.Fits hc 2)
 (.need
 (D.Tight (D.sub3 hc 0 (Int.toNat (↑(D.len hc) : Int))) ∧
 D.Fits (D.sub3 hc 0 (Int.toNat (↑(D.len hc) : Int))) 2 ∧
 D.Fits (D.slc (D.hd (hs 11 0)) 2 [[D.int .i64 1, D.int .i64 n]]) 2 ∧
 0 < D.len (D.slc (D.hd (hs 11 0)) 2 [[D.int .i64 1, D.int .i64 n]]) ∧
 (D.len (D.sub3 hc 0 (Int.toNat (↑(D.len hc) : Int))) +
 D.len (D.slc (D.hd (hs 11 0)) 2 [[D.int .i64 1, D.int .i64 n]])) *
 16 ≤
 140737488355328 ∧
 D.len (D.sub3 hc 0 (Int.toNat (↑(D.len hc) : Int))) +
 D.len (D.slc (D.hd (hs 11 0)) 2 [[D.int .i64 1, D.int .i64 n]]) ≤
 9223372036854775807)
 (.need
 (HiD.Right
 (HiD.mk ha hb
 (D.slc (D.hd (hs 12 0)) 2
 (List.append (D.rows (D.sub3 hc 0 (Int.toNat (↑(D.len hc) : Int))))
 (D.rows (D.slc (D.hd (hs 11 0)) 2 [[D.int .i64 1, D.int .i64 n]]))))))
 (.all fun hs_1 =>
 .ret
 (SV.tup
 [.agg
 [.dat (D.like (hs_1 0 0) (D.to Int ha)), .dat (D.like (hs_1 0 1) (D.to Wt hb)),
 .dat
 (D.like (hs_1 0 2)
 (D.to Ev
 (D.slc (D.hd (hs 12 0)) 2
 (List.append (D.rows (D.sub3 hc 0 (Int.toNat (↑(D.len hc) : Int))))
 (D.rows
 (D.slc (D.hd (hs 11 0)) 2
 [[D.int .i64 1, D.int .i64 n]]))))))],
 .int .i64 0])))))))))) := by kernel_rfl

theorem sm_in : exec Try.prog ((53, ctrOf ((rdD.two rdD).sp spInts)) :: (54, ctrOf ((rdD.two rdD).sp spWts)) :: (55, ctrOf ((rdD.two rdD).sp spEvs)) :: []) 300 (entry Try.prog 22 [.agg [.dat ha, .dat hb, .dat hc], .agg [.dat ga, .dat gb, .dat gc]]) =
 Tree.need (D.Is Int ha ∧ D.Is Int ga ∧ D.len ha ≤ 1048576)
 (.br (decide (D.to Int ha = D.to Int ga))
 (.need
 (D.Is Wt hb ∧
 D.Is Wt gb ∧ D.len hb ≤ 1048576 ∧ ∀ (w : Wt), List.Mem w (D.to Wt hb) → List.length (Wt.data w) ≤ 1048576)
 (.br (decide (D.to Wt hb = D.to Wt gb))
 (.need (D.Is Ev hc ∧ D.Is Ev gc ∧ D.len hc ≤ 1048576)
 (.ret (.bool (decide (D.to Ev hc = D.to Ev gc)))))
 (.ret (.lb false))))
 (.ret (.lb false))) := by kernel_rfl

end
end Go.Proofs.Ytdiekahpofifeaa
end
section
open Go Go.Proofs Sx
namespace Go.Proofs.Ytdiekahpofifeaa
set_option maxRecDepth 100000
set_option maxHeartbeats 0
section
variable (n j k w : Int) (d e a b i o ha hb hc ga gb gc : D) (v s : Int)
theorem is2_in : goS Try.prog ctM (fun _ => false) [(63, 1), (63, 2), (63, 3), (63, 4), (63, 5), (63, 6)] 500 (entry Try.prog 30 [.agg [.dat ha, .dat hb, .dat hc], .agg [.int .i64 v, .int .i64 s, .dat e]]) =
 Tree.need (HiD.Right (HiD.mk ha hb hc))
 (.all fun hs =>
 .br (Prod.fst (checkH (HiD.hist (HiD.mk ha hb hc))) != 0)
 (.ret
 (SV.tup
 [.agg [.nils, .nils, .nils], .int .i64 0,
 .int .i64 (Prod.fst (checkH (HiD.hist (HiD.mk ha hb hc))))]))
 (.br (decide ((↑(D.len hb) : Int) ≥ 4096))
 (.ret (SV.tup [.agg [.nils, .nils, .nils], .int .i64 0, .int .i64 6]))
 (.need (D.Is Int ha ∧ D.len ha ≤ 1048576)
 (.all fun hs =>
 .need (ImgOk (D.like (hs 0 0) (imgOf (D.to Int ha))) ∧ WtD.Ok (WtD.mk v s e))
 (.br (fitsI (D.to Vol (D.like (hs 0 0) (imgOf (D.to Int ha)))) (WtD.wt (WtD.mk v s e)) != 0)
 (.ret
 (SV.tup
 [.agg [.nils, .nils, .nils], .int .i64 0,
 .int .i64
 (fitsI (D.to Vol (D.like (hs 0 0) (imgOf (D.to Int ha)))) (WtD.wt (WtD.mk v s e)))]))
 (.leaf
 (Conf.mk
 (SFrm.mk 63 none none [Item.code (cAt Try.prog 63 [0]), Item.code (cAt Try.prog 63 [1])]
 (mkJ 1 [(0, .agg [.dat ha, .dat hb, .dat hc])] 0 32))
 [SFrm.mk 30 (some (opsAt Try.prog 30 [1, 1, 1, 1, 1, 1, 0], [2, 3])) (some 45)
 [Item.code (cAt Try.prog 30 [1, 1, 1, 1, 1, 1, 1])]
 (mkJ 0 [(3, .ptr 0 0), (4, .ptr 1 0), (12, .int .i64 (↑(D.len hb) : Int))] 0 65)]
 [(0, OBlk.cells 55 [.int .i64 v, .int .i64 s, .dat e]),
 (1, OBlk.cells 26 [.nils, .nils, .nils])]))))))) := by kernel_rfl

theorem ak2_in : goS Try.prog ctM (fun _ => false) [(63, 1), (63, 2), (63, 3), (63, 4), (63, 5), (63, 6)] 500 (entry Try.prog 32 [.agg [.dat ha, .dat hb, .dat hc], .int .i64 n]) =
 Tree.need (HiD.Right (HiD.mk ha hb hc))
 (.all fun hs =>
 .br (Prod.fst (checkH (HiD.hist (HiD.mk ha hb hc))) != 0)
 (.ret
 (SV.tup
 [.agg [.nils, .nils, .nils], .int .i64 (Prod.fst (checkH (HiD.hist (HiD.mk ha hb hc))))]))
 (.br (decide (n < 0)) (.ret (SV.tup [.agg [.nils, .nils, .nils], .int .i64 7]))
 (.br (decide (n ≥ (↑(D.len hb) : Int)))
 (.ret (SV.tup [.agg [.nils, .nils, .nils], .int .i64 7]))
 (.need
 (0 ≤ n ∧
 n < (↑(D.len (D.like (hs 0 1) (Tl.acked (Prod.snd (checkH (HiD.hist (HiD.mk ha hb hc))))))) : Int) ∧
 D.sz (D.like (hs 0 1) (Tl.acked (Prod.snd (checkH (HiD.hist (HiD.mk ha hb hc)))))) = 1)
 (.need
 (D.HasCell (D.like (hs 0 1) (Tl.acked (Prod.snd (checkH (HiD.hist (HiD.mk ha hb hc)))))) (Int.toNat n) 0
 (FT.int .i64))
 (.br
 (decide
 (D.getInt (D.like (hs 0 1) (Tl.acked (Prod.snd (checkH (HiD.hist (HiD.mk ha hb hc)))))) (Int.toNat n)
 0 ≥
 0))
 (.ret (SV.tup [.agg [.nils, .nils, .nils], .int .i64 8]))
 (.leaf
 (Conf.mk
 (SFrm.mk 63 none none [Item.code (cAt Try.prog 63 [0]), Item.code (cAt Try.prog 63 [1])]
 (mkJ 1 [(0, .agg [.dat ha, .dat hb, .dat hc])] 0 32))
 [SFrm.mk 32 (some (opsAt Try.prog 32 [1, 1, 1, 0], [2, 3])) (some 40)
 [Item.code (cAt Try.prog 32 [1, 1, 1, 1])]
 (mkJ 0 [(1, .int .i64 n), (4, .ptr 0 0)] 0 49)]
 [(0, OBlk.cells 26 [.nils, .nils, .nils])])))))))) := by kernel_rfl

end
end Go.Proofs.Ytdiekahpofifeaa
end
section
open Go Go.Proofs Sx
namespace Go.Proofs.Ytdiekahpofifeaa
set_option maxRecDepth 100000
set_option maxHeartbeats 0
noncomputable def isF (n : Int) : SFrm := SFrm.mk 30 (some (opsAt Try.prog 30 [1, 1, 1, 1, 1, 1, 0], [2, 3])) (some 45) [Item.code (cAt Try.prog 30 [1, 1, 1, 1, 1, 1, 1])] (mkJ 0 [(3, .ptr 0 0), (4, .ptr 1 0), (12, .int .i64 n)] 0 65)
noncomputable def akF (n : Int) : SFrm := SFrm.mk 32 (some (opsAt Try.prog 32 [1, 1, 1, 0], [2, 3])) (some 40) [Item.code (cAt Try.prog 32 [1, 1, 1, 1])] (mkJ 0 [(1, .int .i64 n), (4, .ptr 0 0)] 0 49)
noncomputable def isE (ha hb hc : D) (v s : Int) (e : D) : Conf := Conf.mk (SFrm.mk 63 none none [Item.code (cAt Try.prog 63 [0]), Item.code (cAt Try.prog 63 [1])] (mkJ 1 [(0, .agg [.dat ha, .dat hb, .dat hc])] 0 32)) [isF hb.len]
 [(0, .cells 55 [.int .i64 v, .int .i64 s, .dat e]), (1, .cells 26 [.nils, .nils, .nils])]
noncomputable def akE (ha hb hc : D) (n : Int) : Conf := Conf.mk (SFrm.mk 63 none none [Item.code (cAt Try.prog 63 [0]), Item.code (cAt Try.prog 63 [1])] (mkJ 1 [(0, .agg [.dat ha, .dat hb, .dat hc])] 0 32)) [akF n]
 [(0, .cells 26 [.nils, .nils, .nils])]
section
variable (n j k w : Int) (d e a b i o ha hb hc ga gb gc : D) (v s : Int)
theorem isE_in : exec Try.prog ctK 400 (isE ha hb hc v s e) =
 Tree.all fun hs =>
 .need (D.Is Int ha ∧ D.len ha ≤ 1048576)
 (.need (D.Is Ev hc ∧ D.len hc ≤ 1048576)
 (.leaf
 (Conf.mk
 (SFrm.mk 63 none none
 [Item.inLoop (cAt Try.prog 63 [1, 1, 0, 1, 0, 0]), Item.inBlock 0, Item.code (cAt Try.prog 63 [1, 1, 1])]
 (mkJ 1
 [(2, .ptr 0 0), (3, .ptr 1 0), (14, .dat hb), (15, .int .i64 (↑(D.len hb) : Int)),
 (16, .int .i64 0)]
 0 32))
 [SFrm.mk 30 (some (opsAt Try.prog 30 [1, 1, 1, 1, 1, 1, 0], [2, 3])) (some 45)
 [Item.code (cAt Try.prog 30 [1, 1, 1, 1, 1, 1, 1])]
 (mkJ 0 [(3, .ptr 2 0), (4, .ptr 3 0), (12, .int .i64 (↑(D.len hb) : Int))] 0 65)]
 [(0, OBlk.cells 26 [.nils, .nils, .nils]), (1, OBlk.cells 26 [.vec 4, .nils, .vec 5]),
 (2, OBlk.cells 55 [.int .i64 v, .int .i64 s, .dat e]),
 (3, OBlk.cells 26 [.nils, .nils, .nils]), (4, OBlk.arr 3 (D.slc (D.hd (hs 2 0)) 1 (D.rows ha))),
 (5, OBlk.arr 77 (D.slc (D.hd (hs 5 0)) 2 (D.rows hc)))]))) := by kernel_rfl

theorem akE_in : exec Try.prog ctK 400 (akE ha hb hc n) =
 Tree.all fun hs =>
 .need (D.Is Int ha ∧ D.len ha ≤ 1048576)
 (.need (D.Is Ev hc ∧ D.len hc ≤ 1048576)
 (.leaf
 (Conf.mk
 (SFrm.mk 63 none none
 [Item.inLoop (cAt Try.prog 63 [1, 1, 0, 1, 0, 0]), Item.inBlock 0, Item.code (cAt Try.prog 63 [1, 1, 1])]
 (mkJ 1
 [(2, .ptr 0 0), (3, .ptr 1 0), (14, .dat hb), (15, .int .i64 (↑(D.len hb) : Int)),
 (16, .int .i64 0)]
 0 32))
 [SFrm.mk 32 (some (opsAt Try.prog 32 [1, 1, 1, 0], [2, 3])) (some 40)
 [Item.code (cAt Try.prog 32 [1, 1, 1, 1])] (mkJ 0 [(1, .int .i64 n), (4, .ptr 2 0)] 0 49)]
 [(0, OBlk.cells 26 [.nils, .nils, .nils]), (1, OBlk.cells 26 [.vec 3, .nils, .vec 4]),
 (2, OBlk.cells 26 [.nils, .nils, .nils]), (3, OBlk.arr 3 (D.slc (D.hd (hs 2 0)) 1 (D.rows ha))),
 (4, OBlk.arr 77 (D.slc (D.hd (hs 5 0)) 2 (D.rows hc)))]))) := by kernel_rfl

end
end Go.Proofs.Ytdiekahpofifeaa
end
section
open Go Go.Proofs Sx
namespace Go.Proofs.Ytdiekahpofifeaa
set_option maxRecDepth 100000
set_option maxHeartbeats 0
noncomputable def cpT (hb : D) (j : Int) : SFrm := SFrm.mk 63 none none [Item.inLoop (cAt Try.prog 63 [1, 1, 0, 1, 0, 0]), Item.inBlock 0, Item.code (cAt Try.prog 63 [1, 1, 1])] (mkJ 1 [(2, .ptr 0 0), (3, .ptr 1 0), (14, .dat hb), (15, .int .i64 hb.len), (16, .int .i64 j)] 0 32)
noncomputable def isL (hb p q r : D) (v s : Int) (e : D) (j : Int) : Conf := Conf.mk (cpT hb j) [SFrm.mk 30 (some (opsAt Try.prog 30 [1, 1, 1, 1, 1, 1, 0], [2, 3])) (some 45) [Item.code (cAt Try.prog 30 [1, 1, 1, 1, 1, 1, 1])] (mkJ 0 [(3, .ptr 2 0), (4, .ptr 3 0), (12, .int .i64 hb.len)] 0 65)]
 [(0, .cells 26 [.nils, .nils, .nils]), (1, .cells 26 [.vec 4, .vec 5, .vec 6]), (2, .cells 55 [.int .i64 v, .int .i64 s, .dat e]), (3, .cells 26 [.nils, .nils, .nils]), (4, .arr 3 p), (5, .arr 55 q), (6, .arr 77 r)]
noncomputable def akL (hb p q r : D) (n : Int) (j : Int) : Conf := Conf.mk (cpT hb j) [SFrm.mk 32 (some (opsAt Try.prog 32 [1, 1, 1, 0], [2, 3])) (some 40) [Item.code (cAt Try.prog 32 [1, 1, 1, 1])] (mkJ 0 [(1, .int .i64 n), (4, .ptr 2 0)] 0 49)]
 [(0, .cells 26 [.nils, .nils, .nils]), (1, .cells 26 [.vec 3, .vec 4, .vec 5]), (2, .cells 26 [.nils, .nils, .nils]), (3, .arr 3 p), (4, .arr 55 q), (5, .arr 77 r)]
section
variable (n j k w : Int) (d e a b i o ha hb hc ga gb gc p q r : D) (v s : Int)
theorem isL_go : exec Try.prog ctK 500 (unroll (isL hb p q r v s e j)) =
 Tree.br (decide (j < (↑(D.len hb) : Int)))
 (.need (0 ≤ j ∧ j < (↑(D.len hb) : Int) ∧ D.sz hb = 3)
 (.need (D.HasCells hb (Int.toNat j) 0 [FT.int .i64, FT.int .i64, FT.slc])
 (.need (D.Is Sec (D.cell hb (Int.toNat j) 2) ∧ D.len (D.cell hb (Int.toNat j) 2) ≤ 1048576)
 (.all fun hs =>
 .all fun hs_1 =>
 .need
 (D.sz q = 3 ∧
 D.Fits
 (D.slc (D.hd (hs_1 0 0)) 3
 [[D.int .i64 (D.getInt hb (Int.toNat j) 0),
 D.int .i64 (D.getInt hb (Int.toNat j) 1),
 D.slc (D.hd (hs 0 0)) 8 (D.rows (D.cell hb (Int.toNat j) 2))]])
 3 ∧
 (D.len q +
 D.len
 (D.slc (D.hd (hs_1 0 0)) 3
 [[D.int .i64 (D.getInt hb (Int.toNat j) 0),
 D.int .i64 (D.getInt hb (Int.toNat j) 1),
 D.slc (D.hd (hs 0 0)) 8 (D.rows (D.cell hb (Int.toNat j) 2))]])) *
 40 ≤
 140737488355328 ∧
 D.len q +
 D.len
 (D.slc (D.hd (hs_1 0 0)) 3
 [[D.int .i64 (D.getInt hb (Int.toNat j) 0),
 D.int .i64 (D.getInt hb (Int.toNat j) 1),
 D.slc (D.hd (hs 0 0)) 8 (D.rows (D.cell hb (Int.toNat j) 2))]]) ≤
 9223372036854775807)
 (.all fun hs_2 =>
 .leaf
 (Conf.mk
 (SFrm.mk 63 none none
 [Item.inLoop (cAt Try.prog 63 [1, 1, 0, 1, 0, 0]), Item.inBlock 0,
 Item.code (cAt Try.prog 63 [1, 1, 1])]
 (mkJ 1
 [(2, .ptr 0 0), (3, .ptr 1 0), (14, .dat hb),
 (15, .int .i64 (↑(D.len hb) : Int)),
 (16, .int .i64 (IntKind.wrap .i64 (j + 1)))]
 0 32))
 [SFrm.mk 30 (some (opsAt Try.prog 30 [1, 1, 1, 1, 1, 1, 0], [2, 3])) (some 45)
 [Item.code (cAt Try.prog 30 [1, 1, 1, 1, 1, 1, 1])]
 (mkJ 0 [(3, .ptr 2 0), (4, .ptr 3 0), (12, .int .i64 (↑(D.len hb) : Int))] 0 65)]
 [(0, OBlk.cells 26 [.nils, .nils, .nils]), (1, OBlk.cells 26 [.vec 4, .vec 5, .vec 6]),
 (2, OBlk.cells 55 [.int .i64 v, .int .i64 s, .dat e]),
 (3, OBlk.cells 26 [.nils, .nils, .nils]), (4, OBlk.arr 3 p),
 (5,
 OBlk.arr 55
 (D.slc (D.hd (hs_2 0 0)) 3
 (List.append (D.rows q)
 (D.rows
 (D.slc (D.hd (hs_1 0 0)) 3
 [[D.int .i64 (D.getInt hb (Int.toNat j) 0),
 D.int .i64 (D.getInt hb (Int.toNat j) 1),
 D.slc (D.hd (hs 0 0)) 8 (D.rows (D.cell hb (Int.toNat j) 2))]]))))),
 (6, OBlk.arr 77 r)]))))))
 (.need (D.Is Sec e ∧ D.len e ≤ 1048576)
 (.all fun hs =>
 .all fun hs_1 =>
 .need
 (D.sz q = 3 ∧
 D.Fits
 (D.slc (D.hd (hs_1 0 0)) 3
 [[D.int .i64 v, D.int .i64 s, D.slc (D.hd (hs 0 0)) 8 (D.rows e)]])
 3 ∧
 (D.len q +
 D.len
 (D.slc (D.hd (hs_1 0 0)) 3
 [[D.int .i64 v, D.int .i64 s, D.slc (D.hd (hs 0 0)) 8 (D.rows e)]])) *
 40 ≤
 140737488355328 ∧
 D.len q +
 D.len
 (D.slc (D.hd (hs_1 0 0)) 3
 [[D.int .i64 v, D.int .i64 s, D.slc (D.hd (hs 0 0)) 8 (D.rows e)]]) ≤
 9223372036854775807)
 (.all fun hs_2 =>
 .all fun hs_3 =>
 .need
 (D.sz r = 2 ∧
 D.Fits (D.slc (D.hd (hs_3 0 0)) 2 [[D.int .i64 0, D.int .i64 (↑(D.len hb) : Int)]]) 2 ∧
 (D.len r +
 D.len
 (D.slc (D.hd (hs_3 0 0)) 2
 [[D.int .i64 0, D.int .i64 (↑(D.len hb) : Int)]])) *
 16 ≤
 140737488355328 ∧
 D.len r +
 D.len
 (D.slc (D.hd (hs_3 0 0)) 2 [[D.int .i64 0, D.int .i64 (↑(D.len hb) : Int)]]) ≤
 9223372036854775807)
 (.all fun hs_4 =>
 .ret
 (SV.tup
 [.agg
 [.dat p,
 .dat
 (D.slc (D.hd (hs_2 0 0)) 3
 (List.append (D.rows q)
 (D.rows
 (D.slc (D.hd (hs_1 0 0)) 3
 [[D.int .i64 v, D.int .i64 s,
 D.slc (D.hd (hs 0 0)) 8 (D.rows e)]])))),
 .dat
 (D.slc (D.hd (hs_4 0 0)) 2
 (List.append (D.rows r)
 (D.rows
 (D.slc (D.hd (hs_3 0 0)) 2
 [[D.int .i64 0, D.int .i64 (↑(D.len hb) : Int)]]))))],
 .int .i64 (↑(D.len hb) : Int), .int .i64 0]))))) := by kernel_rfl

theorem akL_go : exec Try.prog ctK 500 (unroll (akL hb p q r n j)) =
 Tree.br (decide (j < (↑(D.len hb) : Int)))
 (.need (0 ≤ j ∧ j < (↑(D.len hb) : Int) ∧ D.sz hb = 3)
 (.need (D.HasCells hb (Int.toNat j) 0 [FT.int .i64, FT.int .i64, FT.slc])
 (.need (D.Is Sec (D.cell hb (Int.toNat j) 2) ∧ D.len (D.cell hb (Int.toNat j) 2) ≤ 1048576)
 (.all fun hs =>
 .all fun hs_1 =>
 .need
 (D.sz q = 3 ∧
 D.Fits
 (D.slc (D.hd (hs_1 0 0)) 3
 [[D.int .i64 (D.getInt hb (Int.toNat j) 0),
 D.int .i64 (D.getInt hb (Int.toNat j) 1),
 D.slc (D.hd (hs 0 0)) 8 (D.rows (D.cell hb (Int.toNat j) 2))]])
 3 ∧
 (D.len q +
 D.len
 (D.slc (D.hd (hs_1 0 0)) 3
 [[D.int .i64 (D.getInt hb (Int.toNat j) 0),
 D.int .i64 (D.getInt hb (Int.toNat j) 1),
 D.slc (D.hd (hs 0 0)) 8 (D.rows (D.cell hb (Int.toNat j) 2))]])) *
 40 ≤
 140737488355328 ∧
 D.len q +
 D.len
 (D.slc (D.hd (hs_1 0 0)) 3
 [[D.int .i64 (D.getInt hb (Int.toNat j) 0),
 D.int .i64 (D.getInt hb (Int.toNat j) 1),
 D.slc (D.hd (hs 0 0)) 8 (D.rows (D.cell hb (Int.toNat j) 2))]]) ≤
 9223372036854775807)
 (.all fun hs_2 =>
 .leaf
 (Conf.mk
 (SFrm.mk 63 none none
 [Item.inLoop (cAt Try.prog 63 [1, 1, 0, 1, 0, 0]), Item.inBlock 0,
 Item.code (cAt Try.prog 63 [1, 1, 1])]
 (mkJ 1
 [(2, .ptr 0 0), (3, .ptr 1 0), (14, .dat hb),
 (15, .int .i64 (↑(D.len hb) : Int)),
 (16, .int .i64 (IntKind.wrap .i64 (j + 1)))]
 0 32))
 [SFrm.mk 32 (some (opsAt Try.prog 32 [1, 1, 1, 0], [2, 3])) (some 40)
 [Item.code (cAt Try.prog 32 [1, 1, 1, 1])]
 (mkJ 0 [(1, .int .i64 n), (4, .ptr 2 0)] 0 49)]
 [(0, OBlk.cells 26 [.nils, .nils, .nils]), (1, OBlk.cells 26 [.vec 3, .vec 4, .vec 5]),
 (2, OBlk.cells 26 [.nils, .nils, .nils]), (3, OBlk.arr 3 p),
 (4,
 OBlk.arr 55
 (D.slc (D.hd (hs_2 0 0)) 3
 (List.append (D.rows q)
 (D.rows
 (D.slc (D.hd (hs_1 0 0)) 3
 [[D.int .i64 (D.getInt hb (Int.toNat j) 0),
 D.int .i64 (D.getInt hb (Int.toNat j) 1),
 D.slc (D.hd (hs 0 0)) 8 (D.rows (D.cell hb (Int.toNat j) 2))]]))))),
 (5, OBlk.arr 77 r)]))))))
 (.all fun hs =>
 .need
 (D.sz r = 2 ∧
 D.Fits (D.slc (D.hd (hs 0 0)) 2 [[D.int .i64 1, D.int .i64 n]]) 2 ∧
 (D.len r + D.len (D.slc (D.hd (hs 0 0)) 2 [[D.int .i64 1, D.int .i64 n]])) * 16 ≤
 140737488355328 ∧
 D.len r + D.len (D.slc (D.hd (hs 0 0)) 2 [[D.int .i64 1, D.int .i64 n]]) ≤
 9223372036854775807)
 (.all fun hs_1 =>
 .ret
 (SV.tup
 [.agg
 [.dat p, .dat q,
 .dat
 (D.slc (D.hd (hs_1 0 0)) 2
 (List.append (D.rows r)
 (D.rows (D.slc (D.hd (hs 0 0)) 2 [[D.int .i64 1, D.int .i64 n]]))))],
 .int .i64 0]))) := by kernel_rfl

end
end Go.Proofs.Ytdiekahpofifeaa
end
section
open Go Go.Proofs Sx
namespace Go.Proofs.Ytdiekahpofifeaa
set_option maxRecDepth 100000

theorem ctMOk : Ctrs.Ok Try.prog ctM := by
  intro x hx
  simp only [ctM, List.mem_cons, List.mem_append] at hx
  rcases hx with rfl | rfl | rfl | hx | hx | hx
  · exact ctrOf_ok lawCk
  · exact ctrOf_ok lawCkR
  · exact ctrOf_ok lawCopyR
  · exact ctKOk _ hx
  · exact ctC1Ok _ hx
  · exact ctC2Ok _ hx

theorem lawNewH : Law Try.prog 20 (rdD.one.sp spNewH) := by
  refine law_in _ (by kernel_rfl) fun H w d hok hp => ?_
  obtain ⟨hd, hlen⟩ := hp _ (List.mem_singleton.2 rfl)
  apply exec_sound ctMOk 300
  rw [show rdD.one.canon d = [.dat d] from rfl, nw_in]
  refine ⟨⟨hd, hlen⟩, fun hs => ⟨fun h => ?_, fun h => ⟨⟨hd, hlen⟩, fun hs1 => ?_⟩⟩⟩
  · have h : sizesErr (d.to Int) ≠ 0 := by simpa using h
    exact ret_hiI (s := []) (ws := []) (es := []) stands_nils stands_nils stands_nils (by unfold newH; rw [if_pos h]; rfl) (by unfold newH; rw [if_pos h])
  · have h : ¬(sizesErr (d.to Int) ≠ 0) := by simpa using h
    obtain ⟨x1, x2⟩ := slc_same hd (D.hd (hs1 0 0)) (s := 1) rfl
    exact ret_hiI (stands_dat x1 x2) stands_nils stands_nils (by unfold newH; rw [if_neg h]) (by unfold newH; rw [if_neg h])
theorem lawNewHR : Law Try.prog 21 (rdD.one.sp spNewH) := by
  refine law_in _ (by kernel_rfl) fun H w d hok hp => ?_
  obtain ⟨hd, hlen⟩ := hp _ (List.mem_singleton.2 rfl)
  apply exec_sound ctMOk 300
  rw [show rdD.one.canon d = [.dat d] from rfl, nwR_in]
  refine ⟨⟨hd, hlen⟩, fun h => ?_, fun h => ⟨⟨hd.fits, by omega, by omega⟩, fun hs1 => ?_⟩⟩
  · have h : sizesErr (d.to Int) ≠ 0 := by simpa using h
    exact ret_hiI (s := []) (ws := []) (es := []) stands_nils stands_nils stands_nils (by unfold newH; rw [if_pos h]; rfl) (by unfold newH; rw [if_pos h])
  · have h : ¬(sizesErr (d.to Int) ≠ 0) := by simpa using h
    obtain ⟨x1, x2⟩ := slc_same hd (D.hd (hs1 0 0)) (s := 1) rfl
    exact ret_hiI (stands_dat x1 x2) stands_nils stands_nils (by unfold newH; rw [if_neg h]) (by unfold newH; rw [if_neg h])
theorem lawChkH : Law Try.prog 23 (rdHi.one.sp spCkI) := by
  refine law_in _ (by kernel_rfl) fun H w ⟨ha, hb, hc⟩ hok hp => ?_
  apply exec_sound ctMOk 300
  rw [show rdHi.one.canon ⟨ha, hb, hc⟩ = [.agg [.dat ha, .dat hb, .dat hc]] from rfl, chk1_in]
  exact ⟨hp _ (List.mem_singleton.2 rfl), fun hs => ret_int rfl⟩

theorem isE_run {H : HV} {w : World} {ha hb hc e : D} {v s : Int} (hR : (HiD.mk ha hb hc).Right) (hb2 : hb.len ≤ 4096) (he : WtD.Ok ⟨v, s, e⟩) :
    Runs Try.prog ⟨w, H⟩ (isE ha hb hc v s e) (RetD w H fun ds => .tup [hiSV ds ⟨ha.to Int, hb.to Wt ++ ([⟨v, s, e.to Sec⟩] : List Wt), hc.to Ev ++ ([⟨0, (hb.to Wt).length⟩] : List Ev)⟩, .int .i64 (hb.to Wt).length, .int .i64 0]) := by
  obtain ⟨ra, rb, rc, la, lb, lc, rd⟩ := id hR
  simp only at ra rb rc la lb lc rd
  have bl := D.Is.length (α := Wt) hb
  have el := D.Is.length (α := Ev) hc
  apply exec_sound ctKOk 400
  rw [isE_in]
  refine fun hs => ⟨⟨ra, la⟩, ⟨rc, lc⟩, ?_⟩
  obtain ⟨p1, p2⟩ := slc_same ra (D.hd (hs 2 0)) (s := 1) rfl
  obtain ⟨r1, r2⟩ := slc_same rc (D.hd (hs 5 0)) (s := 2) rfl
  refine vecIn_to 9 55 3 (some 1) 1 (isL hb (D.slc (D.hd (hs 2 0)) 1 (D.rows ha)) (.slc none 3 []) (D.slc (D.hd (hs 5 0)) 2 (D.rows hc)) v s e 0) (by kernel_rfl) ?_
  have rsz : (D.slc (D.hd (hs 5 0)) 2 (D.rows hc)).sz = 2 := rfl
  generalize D.slc (D.hd (hs 2 0)) 1 (D.rows ha) = p at p1 p2
  generalize D.slc (D.hd (hs 5 0)) 2 (D.rows hc) = r at r1 r2 rsz
  have rl := D.Is.length (α := Ev) r
  rw [r2] at rl
  refine runs_loop (fun q : D × Nat => isL hb p q.1 r v s e q.2) (fun q => q.2 ≤ (hb.to Wt).length ∧ q.1.Is Wt ∧ q.1.sz = 3 ∧ q.1.to Wt = (hb.to Wt).take q.2) (fun q => (hb.to Wt).length - q.2) (fun _ => rfl) ?_ (.slc none 3 [], 0) ⟨Nat.zero_le _, is_nil _ _, rfl, rfl⟩
  intro ⟨q, j⟩ ⟨hj, hq, hz, hto⟩ ih
  simp only at hj hq hz hto
  have ql := D.Is.length (α := Wt) q
  rw [hto, List.length_take] at ql
  show Runs Try.prog ⟨w, H⟩ (unroll (isL hb p q r v s e j)) _
  apply exec_sound ctKOk 500
  rw [isL_go]
  refine ⟨fun hcj => ?_, fun hcj => ?_⟩
  · have hcj : j < (hb.to Wt).length := by have := of_decide_eq_true hcj; omega
    obtain ⟨c1, c2, c3⟩ := wt_cell rb hcj
    have hwd := rd _ (List.getElem_mem hcj)
    rw [c3] at hwd
    refine ⟨⟨by omega, by omega, rb.size hcj⟩, c1, ⟨c2, by rw [D.Is.length (α := Sec)]; exact hwd⟩, fun hs1 hs2 => ⟨⟨hz, .inr rfl, by simp only [len_slc, List.length_cons, List.length_nil]; omega, by simp only [len_slc, List.length_cons, List.length_nil]; omega⟩, fun hs3 => ?_⟩⟩
    obtain ⟨x1, x2⟩ := slc_same c2 (D.hd (hs1 0 0)) (s := 8) rfl
    have hr := rows_app (rows_of hq) (wt_one (hb.getInt j 0) (hb.getInt j 1) x1)
    obtain ⟨i1, i2⟩ := is_of (h := D.hd (hs3 0 0)) (s := 3) rfl hr
    have := ih (_, j + 1) ⟨hcj, i1, rfl, i2.trans (by rw [hto, List.take_succ_eq_append_getElem hcj, c3, x2])⟩ (by simp only; omega)
    simp only at this
    rw [← wrap_succ hcj (by omega)] at this
    exact this
  · have : j = (hb.to Wt).length := by have := of_decide_eq_false hcj; omega
    subst this
    rw [List.take_length] at hto
    refine ⟨he, fun hs1 hs2 => ⟨⟨hz, .inr rfl, by simp only [len_slc, List.length_cons, List.length_nil]; omega, by simp only [len_slc, List.length_cons, List.length_nil]; omega⟩, fun hs3 hs4 => ⟨⟨rsz, .inr rfl, by simp only [len_slc, List.length_cons, List.length_nil]; omega, by simp only [len_slc, List.length_cons, List.length_nil]; omega⟩, fun hs5 => ?_⟩⟩⟩
    obtain ⟨x1, x2⟩ := slc_same he.1 (D.hd (hs1 0 0)) (s := 8) rfl
    obtain ⟨i1, i2⟩ := is_of (h := D.hd (hs3 0 0)) (s := 3) rfl (rows_app (rows_of hq) (wt_one v s x1))
    obtain ⟨k1, k2⟩ := is_of (h := D.hd (hs5 0 0)) (s := 2) rfl (rows_app (rows_of r1) (ev_one 0 (hb.len : Int)))
    rw [hto, x2] at i2
    rw [r2, bl] at k2
    rw [bl] at k1
    rw [bl]
    exact ret_hiII (stands_dat p1 p2) (stands_dat i1 i2) (stands_dat k1 k2) rfl rfl rfl

theorem lawIssue : Law Try.prog 30 ((rdHi.two rdWt).sp spIssueH) := by
  refine law_in _ (by kernel_rfl) fun H w ⟨⟨ha, hb, hc⟩, ⟨v, s, e⟩⟩ hok hp => ?_
  obtain ⟨hR, hce, he⟩ := hp _ (List.mem_singleton.2 rfl)
  have hR : (HiD.mk ha hb hc).Right := hR
  have he : WtD.Ok ⟨v, s, e⟩ := he
  obtain ⟨ra, rb, rc, la, lb, lc, rd⟩ := id hR
  simp only at ra rb rc la lb lc rd hce
  have al := D.Is.length (α := Int) ha
  have bl := D.Is.length (α := Wt) hb
  apply goS_sound ctMOk
  rw [show (rdHi.two rdWt).canon (⟨ha, hb, hc⟩, ⟨v, s, e⟩) = [.agg [.dat ha, .dat hb, .dat hc], .agg [.int .i64 v, .int .i64 s, .dat e]] from rfl, is2_in]
  have ni : ∀ {k : Int}, issueH (HiD.mk ha hb hc).hist (WtD.wt ⟨v, s, e⟩) = (zHist, 0, k) → (Tree.ret (.tup [.agg [.nils, .nils, .nils], .int .i64 0, .int .i64 k])).holds Try.prog ⟨w, H⟩
      (RetD w H fun ds => .tup [hiSV ds (issueH (HiD.mk ha hb hc).hist (WtD.wt ⟨v, s, e⟩)).1, .int .i64 (issueH (HiD.mk ha hb hc).hist (WtD.wt ⟨v, s, e⟩)).2.1, .int .i64 (issueH (HiD.mk ha hb hc).hist (WtD.wt ⟨v, s, e⟩)).2.2]) := fun h => by
    rw [h]; exact ret_hiII (s := []) (ws := []) (es := []) stands_nils stands_nils stands_nils rfl rfl rfl
  refine ⟨hR, fun hs => ⟨fun h => ni ?_, fun h => ⟨fun h2 => ni ?_, fun h2 => ?_⟩⟩⟩
  · exact issueH_e1 (by simpa using h)
  · have h1 : ¬((checkH (HiD.mk ha hb hc).hist).1 ≠ 0) := by simpa using h
    have := of_decide_eq_true h2
    exact issueH_e2 h1 (by show (hb.to Wt).length ≥ 4096; omega)
  have h1 : ¬((checkH (HiD.mk ha hb hc).hist).1 ≠ 0) := by simpa using h
  have h2' : ¬(HiD.mk ha hb hc).hist.writes.length ≥ 4096 := by have := of_decide_eq_false h2; show ¬(hb.to Wt).length ≥ 4096; omega
  have h0 : sizesErr (ha.to Int) = 0 := (checkH_ok (h := (HiD.mk ha hb hc).hist) (by simpa using h1)).2.2.1
  refine ⟨⟨ra, la⟩, fun hs1 => ?_⟩
  simp only
  have im : ImgOk ((hs1 0 0).like (imgOf (ha.to Int))) := img_ok h0 _
  rw [D.like_to, fitsI_img h0]
  refine ⟨⟨im, he⟩, fun h3 => ni ?_, fun h3 => ?_⟩
  · have h3' : fitsErr (ha.to Int) (WtD.wt ⟨v, s, e⟩) ≠ 0 := by simpa using h3
    exact issueH_e3 h1 h2' h3'
  · have h3' : ¬(fitsErr (ha.to Int) (WtD.wt ⟨v, s, e⟩) ≠ 0) := by simpa using h3
    rw [issueH_ok h1 h2' h3']
    have h2l : hb.len ≤ 4096 := by have := of_decide_eq_false h2; omega
    exact isE_run hR h2l he

theorem lawIssueR : Law Try.prog 31 ((rdHi.two rdWt).sp spIssueH) := by
  refine law_in _ (by kernel_rfl) fun H w ⟨⟨ha, hb, hc⟩, ⟨v, s, e⟩⟩ hok hp => ?_
  obtain ⟨hR, hce, he⟩ := hp _ (List.mem_singleton.2 rfl)
  have hR : (HiD.mk ha hb hc).Right := hR
  have he : WtD.Ok ⟨v, s, e⟩ := he
  obtain ⟨ra, rb, rc, la, lb, lc, rd⟩ := id hR
  simp only at ra rb rc la lb lc rd hce
  have al := D.Is.length (α := Int) ha
  have bl := D.Is.length (α := Wt) hb
  have el := D.Is.length (α := Ev) hc
  apply exec_sound ctMOk 500
  rw [show (rdHi.two rdWt).canon (⟨ha, hb, hc⟩, ⟨v, s, e⟩) = [.agg [.dat ha, .dat hb, .dat hc], .agg [.int .i64 v, .int .i64 s, .dat e]] from rfl, isR_in]
  have ni : ∀ {k : Int}, issueH (HiD.mk ha hb hc).hist (WtD.wt ⟨v, s, e⟩) = (zHist, 0, k) → (Tree.ret (.tup [.agg [.nils, .nils, .nils], .int .i64 0, .int .i64 k])).holds Try.prog ⟨w, H⟩
      (RetD w H fun ds => .tup [hiSV ds (issueH (HiD.mk ha hb hc).hist (WtD.wt ⟨v, s, e⟩)).1, .int .i64 (issueH (HiD.mk ha hb hc).hist (WtD.wt ⟨v, s, e⟩)).2.1, .int .i64 (issueH (HiD.mk ha hb hc).hist (WtD.wt ⟨v, s, e⟩)).2.2]) := fun h => by
    rw [h]; exact ret_hiII (s := []) (ws := []) (es := []) stands_nils stands_nils stands_nils rfl rfl rfl
  refine ⟨hR, fun h => ni ?_, fun h => ⟨fun h2 => ni ?_, fun h2 => ?_⟩⟩
  · exact issueH_e1 (by simpa using h)
  · have h1 : ¬((checkH (HiD.mk ha hb hc).hist).1 ≠ 0) := by simpa using h
    have := of_decide_eq_true h2
    exact issueH_e2 h1 (by show (hb.to Wt).length ≥ 4096; omega)
  have h1 : ¬((checkH (HiD.mk ha hb hc).hist).1 ≠ 0) := by simpa using h
  have h2' : ¬(HiD.mk ha hb hc).hist.writes.length ≥ 4096 := by have := of_decide_eq_false h2; show ¬(hb.to Wt).length ≥ 4096; omega
  have h2l : ¬hb.len ≥ 4096 := by have := of_decide_eq_false h2; omega
  have h0 : sizesErr (ha.to Int) = 0 := (checkH_ok (h := (HiD.mk ha hb hc).hist) (by simpa using h1)).2.2.1
  refine ⟨⟨ra, la, (sizesErr_ok h0).2.2, he⟩, fun h3 => ni ?_, fun h3 hs => ?_⟩
  · have h3' : fitsErr (ha.to Int) (WtD.wt ⟨v, s, e⟩) ≠ 0 := by simpa using h3
    exact issueH_e3 h1 h2' h3'
  · have h3' : ¬(fitsErr (ha.to Int) (WtD.wt ⟨v, s, e⟩) ≠ 0) := by simpa using h3
    rw [issueH_ok h1 h2' h3']
    obtain ⟨t1, t2, t3, t4⟩ := sub3_all rb
    obtain ⟨u1, u2, u3, u4⟩ := sub3_all rc
    obtain ⟨i1, i2⟩ := is_of (h := D.hd (hs 7 0)) (s := 3) rfl (rows_app (rows_of t2) (wt_one v s he.1))
    rw [t3] at i2
    refine ⟨⟨by omega, by omega, by omega, rfl, rb.fits⟩, ⟨t1, t2.fits, .inr rfl, by simp only [len_slc, List.length_cons, List.length_nil]; omega, by rw [t4]; simp only [len_slc, List.length_cons, List.length_nil]; omega, by rw [t4]; simp only [len_slc, List.length_cons, List.length_nil]; omega⟩, fun hs1 => ?_⟩
    obtain ⟨k1, k2⟩ := is_of (h := D.hd (hs1 12 0)) (s := 2) rfl (rows_app (rows_of u2) (ev_one 0 (hb.len : Int)))
    rw [u3] at k2
    refine ⟨⟨by omega, by omega, by omega, rfl, rc.fits⟩, ⟨u1, u2.fits, .inr rfl, by simp only [len_slc, List.length_cons, List.length_nil]; omega, by rw [u4]; simp only [len_slc, List.length_cons, List.length_nil]; omega, by rw [u4]; simp only [len_slc, List.length_cons, List.length_nil]; omega⟩, ?_, fun hs2 => ?_⟩
    · have i2' : D.to Wt (D.slc (D.hd (hs 7 0)) 3 (List.append (D.rows (hb.sub3 0 (Int.toNat (hb.len : Int)))) (D.rows (D.slc (D.hd (hs 6 0)) 3 [[D.int IntKind.i64 v, D.int IntKind.i64 s, e]])))) = hb.to Wt ++ [WtD.wt ⟨v, s, e⟩] := i2
      have k2' : D.to Ev (D.slc (D.hd (hs1 12 0)) 2 (List.append (D.rows (hc.sub3 0 (Int.toNat (hc.len : Int)))) (D.rows (D.slc (D.hd (hs1 11 0)) 2 [[D.int IntKind.i64 0, D.int IntKind.i64 (hb.len : Int)]])))) = hc.to Ev ++ [⟨0, (hb.len : Int)⟩] := k2
      refine ⟨ra, i1, k1, la, ?_, ?_, fun x hx => ?_⟩
      · simp only
        rw [D.Is.length (α := Wt), i2']; simp only [List.length_append, List.length_cons, List.length_nil]; omega
      · simp only
        rw [D.Is.length (α := Ev), k2']; simp only [List.length_append, List.length_cons, List.length_nil]; omega
      · simp only at hx
        rw [i2'] at hx
        rcases List.mem_append.1 hx with hx | hx
        · exact rd x hx
        · rw [List.mem_singleton.1 hx]; have := he.2; rw [D.Is.length (α := Sec)] at this; exact this
    · have k2' : D.to Ev (D.slc (D.hd (hs1 12 0)) 2 (List.append (D.rows (hc.sub3 0 (Int.toNat (hc.len : Int)))) (D.rows (D.slc (D.hd (hs1 11 0)) 2 [[D.int IntKind.i64 0, D.int IntKind.i64 (hb.len : Int)]])))) = hc.to Ev ++ ([⟨0, ((hb.to Wt).length : Int)⟩] : List Ev) := by
        rw [← bl]; exact k2
      exact ret_hiII stands_like stands_like stands_like (congr (congrArg (Hist.mk (ha.to Int)) i2.symm) k2'.symm) (by rw [bl]; rfl) rfl

theorem akE_run {H : HV} {w : World} {ha hb hc : D} {n : Int} (hR : (HiD.mk ha hb hc).Right) (hce : hc.len ≤ 1000000) :
    Runs Try.prog ⟨w, H⟩ (akE ha hb hc n) (RetD w H fun ds => .tup [hiSV ds ⟨ha.to Int, hb.to Wt, hc.to Ev ++ ([⟨1, n⟩] : List Ev)⟩, .int .i64 0]) := by
  obtain ⟨ra, rb, rc, la, lb, lc, rd⟩ := id hR
  simp only at ra rb rc la lb lc rd
  have bl := D.Is.length (α := Wt) hb
  have el := D.Is.length (α := Ev) hc
  apply exec_sound ctKOk 400
  rw [akE_in]
  refine fun hs => ⟨⟨ra, la⟩, ⟨rc, lc⟩, ?_⟩
  obtain ⟨p1, p2⟩ := slc_same ra (D.hd (hs 2 0)) (s := 1) rfl
  obtain ⟨r1, r2⟩ := slc_same rc (D.hd (hs 5 0)) (s := 2) rfl
  refine vecIn_to 9 55 3 (some 1) 1 (akL hb (D.slc (D.hd (hs 2 0)) 1 (D.rows ha)) (.slc none 3 []) (D.slc (D.hd (hs 5 0)) 2 (D.rows hc)) n 0) (by kernel_rfl) ?_
  have rsz : (D.slc (D.hd (hs 5 0)) 2 (D.rows hc)).sz = 2 := rfl
  generalize D.slc (D.hd (hs 2 0)) 1 (D.rows ha) = p at p1 p2
  generalize D.slc (D.hd (hs 5 0)) 2 (D.rows hc) = r at r1 r2 rsz
  have rl := D.Is.length (α := Ev) r
  rw [r2] at rl
  refine runs_loop (fun q : D × Nat => akL hb p q.1 r n q.2) (fun q => q.2 ≤ (hb.to Wt).length ∧ q.1.Is Wt ∧ q.1.sz = 3 ∧ q.1.to Wt = (hb.to Wt).take q.2) (fun q => (hb.to Wt).length - q.2) (fun _ => rfl) ?_ (.slc none 3 [], 0) ⟨Nat.zero_le _, is_nil _ _, rfl, rfl⟩
  intro ⟨q, j⟩ ⟨hj, hq, hz, hto⟩ ih
  simp only at hj hq hz hto
  have ql := D.Is.length (α := Wt) q
  rw [hto, List.length_take] at ql
  show Runs Try.prog ⟨w, H⟩ (unroll (akL hb p q r n j)) _
  apply exec_sound ctKOk 500
  rw [akL_go]
  refine ⟨fun hcj => ?_, fun hcj hs1 => ?_⟩
  · have hcj : j < (hb.to Wt).length := by have := of_decide_eq_true hcj; omega
    obtain ⟨c1, c2, c3⟩ := wt_cell rb hcj
    have hwd := rd _ (List.getElem_mem hcj)
    rw [c3] at hwd
    refine ⟨⟨by omega, by omega, rb.size hcj⟩, c1, ⟨c2, by rw [D.Is.length (α := Sec)]; exact hwd⟩, fun hs1 hs2 => ⟨⟨hz, .inr rfl, by simp only [len_slc, List.length_cons, List.length_nil]; omega, by simp only [len_slc, List.length_cons, List.length_nil]; omega⟩, fun hs3 => ?_⟩⟩
    obtain ⟨x1, x2⟩ := slc_same c2 (D.hd (hs1 0 0)) (s := 8) rfl
    have hr := rows_app (rows_of hq) (wt_one (hb.getInt j 0) (hb.getInt j 1) x1)
    obtain ⟨i1, i2⟩ := is_of (h := D.hd (hs3 0 0)) (s := 3) rfl hr
    have := ih (_, j + 1) ⟨hcj, i1, rfl, i2.trans (by rw [hto, List.take_succ_eq_append_getElem hcj, c3, x2])⟩ (by simp only; omega)
    simp only at this
    rw [← wrap_succ hcj (by omega)] at this
    exact this
  · have : j = (hb.to Wt).length := by have := of_decide_eq_false hcj; omega
    subst this
    rw [List.take_length] at hto
    refine ⟨⟨rsz, .inr rfl, by simp only [len_slc, List.length_cons, List.length_nil]; omega, by simp only [len_slc, List.length_cons, List.length_nil]; omega⟩, fun hs5 => ?_⟩
    obtain ⟨k1, k2⟩ := is_of (h := D.hd (hs5 0 0)) (s := 2) rfl (rows_app (rows_of r1) (ev_one 1 n))
    rw [r2] at k2
    exact ret_hiI (stands_dat p1 p2) (stands_dat hq hto) (stands_dat k1 k2) rfl rfl

theorem lawAck : Law Try.prog 32 ((rdHi.two rdInt).sp spAckH) := by
  refine law_in _ (by kernel_rfl) fun H w ⟨⟨ha, hb, hc⟩, n⟩ hok hp => ?_
  obtain ⟨hR, hce⟩ := hp _ (List.mem_singleton.2 rfl)
  have hR : (HiD.mk ha hb hc).Right := hR
  obtain ⟨ra, rb, rc, la, lb, lc, rd⟩ := id hR
  simp only at ra rb rc la lb lc rd hce
  have bl := D.Is.length (α := Wt) hb
  apply goS_sound ctMOk
  rw [show (rdHi.two rdInt).canon (⟨ha, hb, hc⟩, n) = [.agg [.dat ha, .dat hb, .dat hc], .int .i64 n] from rfl, ak2_in]
  have ni : ∀ {k : Int}, ackH (HiD.mk ha hb hc).hist n = (zHist, k) → (Tree.ret (.tup [.agg [.nils, .nils, .nils], .int .i64 k])).holds Try.prog ⟨w, H⟩
      (RetD w H fun ds => .tup [hiSV ds (ackH (HiD.mk ha hb hc).hist n).1, .int .i64 (ackH (HiD.mk ha hb hc).hist n).2]) := fun h => by
    rw [h]; exact ret_hiI (s := []) (ws := []) (es := []) stands_nils stands_nils stands_nils rfl rfl
  have n7 : ¬((checkH (HiD.mk ha hb hc).hist).1 ≠ 0) → (n < 0 ∨ n ≥ ((hb.to Wt).length : Int)) → ackH (HiD.mk ha hb hc).hist n = (zHist, 7) := fun h1 h2 => ackH_e7 h1 h2
  refine ⟨hR, fun hs => ⟨fun h => ni ?_, fun h => ⟨fun h2 => ni (n7 (by simpa using h) (.inl (of_decide_eq_true h2))), fun h2 => ⟨fun h3 => ni (n7 (by simpa using h) (.inr (by have := of_decide_eq_true h3; omega))), fun h3 => ?_⟩⟩⟩⟩
  · exact ackH_e1 (by simpa using h)
  have h1 : ¬((checkH (HiD.mk ha hb hc).hist).1 ≠ 0) := by simpa using h
  have h2' := of_decide_eq_false h2
  have h3' := of_decide_eq_false h3
  have hn : ¬(n < 0 ∨ n ≥ ((hb.to Wt).length : Int)) := by omega
  obtain ⟨hT, hTl, _⟩ := checkH_ok (h := (HiD.mk ha hb hc).hist) (by simpa using h1)
  obtain ⟨y, rfl⟩ := Int.eq_ofNat_of_zero_le (show 0 ≤ n by omega)
  have hTl : (checkH (HiD.mk ha hb hc).hist).2.issued.length = (hb.to Wt).length := hTl
  have hyl : y < (checkH (HiD.mk ha hb hc).hist).2.acked.length := by have := hT.len; omega
  have hli := D.like_is (hs 0 1) (checkH (HiD.mk ha hb hc).hist).2.acked
  have hlt := D.like_to (hs 0 1) (checkH (HiD.mk ha hb hc).hist).2.acked
  obtain ⟨d1, d2, d3⟩ := int_at hli (j := y) (by rw [hlt]; exact hyl)
  have hak : D.getInt ((hs 0 1).like (checkH (HiD.mk ha hb hc).hist).2.acked) (Int.toNat (y : Int)) 0 = atEv (hc.to Ev) ⟨1, y⟩ := by
    rw [d3]
    simp only [hlt]
    exact hT.ack y hyl
  rw [hak]
  refine ⟨d1, d2, fun h4 => ni ?_, fun h4 => ?_⟩
  · exact ackH_e8 h1 hn (of_decide_eq_true h4)
  · rw [ackH_ok h1 hn (of_decide_eq_false h4)]
    exact akE_run hR hce
theorem lawAckR : Law Try.prog 33 ((rdHi.two rdInt).sp spAckH) := by
  refine law_in _ (by kernel_rfl) fun H w ⟨⟨ha, hb, hc⟩, n⟩ hok hp => ?_
  obtain ⟨hR, hce⟩ := hp _ (List.mem_singleton.2 rfl)
  have hR : (HiD.mk ha hb hc).Right := hR
  obtain ⟨ra, rb, rc, la, lb, lc, rd⟩ := id hR
  simp only at ra rb rc la lb lc rd hce
  have bl := D.Is.length (α := Wt) hb
  have el := D.Is.length (α := Ev) hc
  apply exec_sound ctMOk 500
  rw [show (rdHi.two rdInt).canon (⟨ha, hb, hc⟩, n) = [.agg [.dat ha, .dat hb, .dat hc], .int .i64 n] from rfl, akR_in]
  have ni : ∀ {k : Int}, ackH (HiD.mk ha hb hc).hist n = (zHist, k) → (Tree.ret (.tup [.agg [.nils, .nils, .nils], .int .i64 k])).holds Try.prog ⟨w, H⟩
      (RetD w H fun ds => .tup [hiSV ds (ackH (HiD.mk ha hb hc).hist n).1, .int .i64 (ackH (HiD.mk ha hb hc).hist n).2]) := fun h => by
    rw [h]; exact ret_hiI (s := []) (ws := []) (es := []) stands_nils stands_nils stands_nils rfl rfl
  have n7 : ¬((checkH (HiD.mk ha hb hc).hist).1 ≠ 0) → (n < 0 ∨ n ≥ ((hb.to Wt).length : Int)) → ackH (HiD.mk ha hb hc).hist n = (zHist, 7) := fun h1 h2 => ackH_e7 h1 h2
  refine ⟨hR, fun h => ni ?_, fun h => ⟨fun h2 => ni (n7 (by simpa using h) (.inl (of_decide_eq_true h2))), fun h2 => ⟨fun h3 => ni (n7 (by simpa using h) (.inr (by have := of_decide_eq_true h3; omega))), fun h3 hs => ?_⟩⟩⟩
  · exact ackH_e1 (by simpa using h)
  have h1 : ¬((checkH (HiD.mk ha hb hc).hist).1 ≠ 0) := by simpa using h
  have h2' := of_decide_eq_false h2
  have h3' := of_decide_eq_false h3
  have hn : ¬(n < 0 ∨ n ≥ ((hb.to Wt).length : Int)) := by omega
  refine ⟨⟨rc, lc⟩, fun h4 => ni ?_, fun h4 hs => ?_⟩
  · exact ackH_e8 h1 hn (of_decide_eq_true h4)
  · rw [ackH_ok h1 hn (of_decide_eq_false h4)]
    obtain ⟨u1, u2, u3, u4⟩ := sub3_all rc
    obtain ⟨k1, k2⟩ := is_of (h := D.hd (hs 12 0)) (s := 2) rfl (rows_app (rows_of u2) (ev_one 1 n))
    rw [u3] at k2
    refine ⟨⟨by omega, by omega, by omega, rfl, rc.fits⟩, ⟨u1, u2.fits, .inr rfl, by simp only [len_slc, List.length_cons, List.length_nil]; omega, by rw [u4]; simp only [len_slc, List.length_cons, List.length_nil]; omega, by rw [u4]; simp only [len_slc, List.length_cons, List.length_nil]; omega⟩, ?_, fun hs2 => ?_⟩
    · have k2' : D.to Ev (D.slc (D.hd (hs 12 0)) 2 (List.append (D.rows (hc.sub3 0 (Int.toNat (hc.len : Int)))) (D.rows (D.slc (D.hd (hs 11 0)) 2 [[D.int IntKind.i64 1, D.int IntKind.i64 n]])))) = hc.to Ev ++ [⟨1, n⟩] := k2
      refine ⟨ra, rb, k1, la, lb, ?_, rd⟩
      simp only
      rw [D.Is.length (α := Ev), k2']; simp only [List.length_append, List.length_cons, List.length_nil]; omega
    · exact ret_hiI stands_like stands_like stands_like (congrArg (Hist.mk (ha.to Int) (hb.to Wt)) k2.symm) rfl

theorem lawSameH : Law Try.prog 22 ((rdHi.two rdHi).sp spSameH) := by
  refine law_in _ (by kernel_rfl) fun H w ⟨⟨ha, hb, hc⟩, ⟨ga, gb, gc⟩⟩ hok hp => ?_
  obtain ⟨⟨ra, rb, rc, la, lb, lc, rd⟩, sa, sb, sc⟩ := hp _ (List.mem_singleton.2 rfl)
  simp only at ra rb rc la lb lc rd sa sb sc
  have cs : Ctrs.Ok Try.prog ((53, ctrOf ((rdD.two rdD).sp spInts)) :: (54, ctrOf ((rdD.two rdD).sp spWts)) :: (55, ctrOf ((rdD.two rdD).sp spEvs)) :: []) := by
    intro x hx
    simp only [List.mem_cons, List.not_mem_nil, or_false] at hx
    rcases hx with rfl | rfl | rfl
    · exact ctrOf_ok lawInts
    · exact ctrOf_ok lawWts
    · exact ctrOf_ok lawEvs
  have ed : decide ((HiD.mk ha hb hc).hist = (HiD.mk ga gb gc).hist) = (decide (ha.to Int = ga.to Int) && (decide (hb.to Wt = gb.to Wt) && decide (hc.to Ev = gc.to Ev))) := by
    rw [Bool.eq_iff_iff]
    simp only [HiD.hist, Hist.mk.injEq, Bool.and_eq_true, decide_eq_true_eq]
  apply exec_sound cs 300
  rw [show (rdHi.two rdHi).canon (⟨ha, hb, hc⟩, ⟨ga, gb, gc⟩) = [.agg [.dat ha, .dat hb, .dat hc], .agg [.dat ga, .dat gb, .dat gc]] from rfl, sm_in]
  refine ⟨⟨ra, sa, la⟩, fun h1 => ⟨⟨rb, sb, lb, rd⟩, fun h2 => ⟨⟨rc, sc, lc⟩, ret_bool ?_⟩, fun h2 => ret_lb ?_⟩, fun h1 => ret_lb ?_⟩
  · rw [ed, h1, h2]; simp
  · rw [ed, h1, h2]; simp
  · rw [ed, h1]; simp
end Go.Proofs.Ytdiekahpofifeaa
end
section
open Go
namespace Sx
structure TlD where
  i : D
  a : D
def TlD.tl (x : TlD) : Tl := ⟨x.i.to Int, x.a.to Int⟩
def rdTl : Rd1 TlD where
  read x := match x with
    | .agg [i, a] => match rdD.read i, rdD.read a with
      | some i, some a => some ⟨i, a⟩
      | _, _ => none
    | _ => none
  canon h := .agg [.dat h.i, .dat h.a]
  right H E x b h hok := by
    split at h
    · split at h
      · rename_i h1 h2
        cases h
        obtain ⟨a1, a2, _⟩ := hok
        obtain ⟨i1, i2⟩ := rdD.right H E _ _ h1 a1
        obtain ⟨j1, j2⟩ := rdD.right H E _ _ h2 a2
        refine ⟨?_, i2, j2, trivial⟩
        simp only [SV.den, SV.denL, i1, j1]
        rfl
      · cases h
    · cases h
def spBefT (x : TlD × Int × Int) : SpecR := .scalar [x.1.i.Is Int ∧ x.1.a.Is Int ∧ 0 ≤ x.2.1 ∧ x.2.1 < (x.1.a.to Int).length ∧ 0 ≤ x.2.2 ∧ x.2.2 < (x.1.i.to Int).length] (.bool (beforeT x.1.tl x.2.1 x.2.2))
end Sx
namespace Sx
noncomputable def wvH (hb : D) (z : Int) : SV := .agg [.int .i64 (hb.getInt (Int.toNat z) 0), .int .i64 (hb.getInt (Int.toNat z) 1), .dat (hb.cell (Int.toNat z) 2)]
theorem cell_okd {H : HV} {d : D} (hd : d.Ok H) {i j : Nat} : (d.cell i j).Ok H := by
  unfold D.cell D.cellAt
  cases hr : d.rows[i]? with
  | none => exact .nil 0
  | some r =>
    cases hx : r[j]? with
    | none => simp [hx]; exact .nil 0
    | some x =>
      simp only [Option.bind_some, hx, Option.getD_some]
      cases hd with
      | slc a c sz rows hsp hc hlen hcell hok => exact hok r (List.mem_of_getElem? hr) x (List.mem_of_getElem? hx)
      | _ => simp [D.rows] at hr
theorem wvH_ok {H : HV} {hb : D} (hw : hb.Is Wt) (hok : hb.Ok H) {z : Int} (h0 : 0 ≤ z) (h1 : z < (hb.len : Int)) : (wvH hb z).Ok H := by
  have hi : Int.toNat z < (hb.to Wt).length := by rw [← D.Is.length (α := Wt)]; omega
  exact ⟨trivial, trivial, ⟨cell_okd hok, (wt_cell hw hi).2.1.slc⟩, trivial⟩
end Sx
namespace Sx
def rowOk (t : Tl) (n : Nat) (set : List Int) (b : Int) : Bool := (List.range n).all fun (a : Nat) => set.contains (a : Int) || !beforeT t a b
def closedT (t : Tl) (n : Nat) (set : List Int) : Bool := set.all fun b => rowOk t n set b
def inL (n : Nat) (l : List Int) : List Bool := (List.range n).map fun (x : Nat) => l.contains (x : Int)
theorem inL_nil (n : Nat) : inL n [] = List.replicate n false := by
  simp only [inL, List.contains_nil]
  rw [List.map_const', List.length_range]
theorem inL_len (n : Nat) (l : List Int) : (inL n l).length = n := by simp [inL]
theorem inL_snoc {n : Nat} {l : List Int} {z : Nat} : inL n (l ++ [(z : Int)]) = (inL n l).set z true := by
  apply List.ext_getElem (by simp [inL])
  intro k h1 h2
  simp only [inL, List.getElem_map, List.getElem_range, List.getElem_set]
  by_cases h : z = k
  · subst h; simp
  · rw [if_neg h]
    simp [List.contains_eq_any_beq, List.any_append]
    omega
theorem inL_get {n : Nat} {l : List Int} {k : Nat} (h : k < (inL n l).length) : (inL n l)[k] = l.contains (k : Int) := by simp [inL]
theorem setUp_le {l : List Int} {n : Int} : ∀ {i : Nat}, setUp l n i = true → ∀ k, k < i → 0 ≤ l.getD k 0 ∧ l.getD k 0 < n
  | 0, _, k, hk => by omega
  | i + 1, h, k, hk => by
    simp only [setUp, Bool.and_eq_true, decide_eq_true_eq] at h
    by_cases e : k = i
    · subst e; exact ⟨h.2.1, h.2.2.1⟩
    · exact setUp_le h.1 k (by omega)
theorem setH_in {l : List Int} {n : Int} (h : setH l n = true) {k : Nat} (hk : k < l.length) : 0 ≤ l[k] ∧ l[k] < n := by
  have := setUp_le h k hk
  rwa [getD_lt hk] at this
def spIsCl (x : CkD × D) : SpecR := .scalar [x.1.w.Is Wt ∧ x.1.i.Is Int ∧ x.1.a.Is Int ∧ x.2.Is Int ∧ x.1.w.len ≤ 1048576 ∧ x.2.len ≤ 1048576 ∧ (x.1.i.to Int).length = (x.1.w.to Wt).length ∧ (x.1.a.to Int).length = (x.1.w.to Wt).length ∧ setH (x.2.to Int) (x.1.w.to Wt).length = true]
  (.bool (closedT ⟨x.1.i.to Int, x.1.a.to Int⟩ (x.1.w.to Wt).length (x.2.to Int)))
end Sx
namespace Sx
def spBefR (x : HiD × Int × Int) : SpecR := .scalar [x.1.e.Is Ev ∧ x.1.e.len ≤ 1048576] (.bool (beforeR (x.1.e.to Ev) x.2.1 x.2.2))
def rowOkR (l : List Ev) (n : Nat) (set : List Int) (b : Int) : Bool := (List.range n).all fun (a : Nat) => !beforeR l a b || set.contains (a : Int)
def closedS (l : List Ev) (n : Nat) (set : List Int) : Bool := set.all fun b => rowOkR l n set b
def spClR (x : HiD × D) : SpecR := .scalar [x.1.e.Is Ev ∧ x.1.e.len ≤ 1048576 ∧ x.1.w.Is Wt ∧ x.1.w.len ≤ 1048576 ∧ x.2.Is Int ∧ x.2.len ≤ 1048576] (.bool (closedS (x.1.e.to Ev) (x.1.w.to Wt).length (x.2.to Int)))
def closedB (h : Hist) (set : List Int) : Bool := decide ((checkH h).1 = 0) && (setH set h.writes.length && closedS h.events h.writes.length set)
def spBef (x : HiD × Int × Int) : SpecR := .scalar [x.1.Right] (.bool (beforeH x.1.hist x.2.1 x.2.2))
def spCls (x : HiD × D) : SpecR := .scalar [x.1.Right ∧ x.2.Is Int ∧ x.2.len ≤ 1048576] (.bool (closedB x.1.hist (x.2.to Int)))
noncomputable def spAcd (x : HiD × Int) : SpecR := .data [x.1.Right] fun ds => .dat ((ds 0).like (ackedH x.1.hist x.2))
def firstN (n : Int) : List Int := (List.range n.toNat).map fun (a : Nat) => (a : Int)
noncomputable def spFst (n : Int) : SpecR := .data [n ≤ 1000000] fun ds => .dat ((ds 0).like (firstN n))
theorem closed_same {h : Hist} {set : List Int} (hc : (checkH h).1 = 0) (hs : setH set h.writes.length = true) : closedT (checkH h).2 h.writes.length set = closedS h.events h.writes.length set := by
  obtain ⟨htl, hlen, _⟩ := checkH_ok hc
  unfold closedT closedS
  rw [Bool.eq_iff_iff, List.all_eq_true, List.all_eq_true]
  have key : ∀ b, b ∈ set → rowOk (checkH h).2 h.writes.length set b = rowOkR h.events h.writes.length set b := fun b hb => by
    obtain ⟨k, hk, rfl⟩ := List.getElem_of_mem hb
    have hz := setH_in hs hk
    unfold rowOk rowOkR
    rw [Bool.eq_iff_iff, List.all_eq_true, List.all_eq_true]
    have e : ∀ a, a ∈ List.range h.writes.length → beforeT (checkH h).2 (a : Int) set[k] = beforeR h.events a set[k] := fun a ha => by
      have ha := List.mem_range.1 ha
      exact before_same htl ⟨by omega, by omega⟩ ⟨hz.1, by omega⟩
    constructor
    · intro h1 a ha; rw [← e a ha, Bool.or_comm]; exact h1 a ha
    · intro h1 a ha; rw [e a ha, Bool.or_comm]; exact h1 a ha
  constructor
  · intro h1 b hb; rw [← key b hb]; exact h1 b hb
  · intro h1 b hb; rw [key b hb]; exact h1 b hb
end Sx
end
section
open Go Go.Proofs Sx
namespace Go.Proofs.Ytdiekahpofifeaa
set_option maxRecDepth 100000

theorem lawIsSet : Law Try.prog 44 ((rdCk.two rdD).sp spIsSet) := by
  refine law_in _ (by kernel_rfl) fun H w ⟨⟨ha, hb, hc, i, o⟩, a⟩ hok hp => ?_
  obtain ⟨ra, la, rw'⟩ := hp _ (List.mem_singleton.2 rfl)
  simp only at ra la rw'
  have al := D.Is.length (α := Int) a
  have bl := D.Is.length (α := Wt) hb
  apply exec_sound (noCtr _) 200
  rw [show (rdCk.two rdD).canon (⟨ha, hb, hc, i, o⟩, a) = [.agg [.dat ha, .dat hb, .dat hc, .dat i, .dat o], .dat a] from rfl, isset_in]
  refine runs_loop (fun j : Nat => issetL ha hb hc i o a j) (fun j => j ≤ (a.to Int).length ∧ setUp (a.to Int) (hb.to Wt).length j = true) (fun j => (a.to Int).length - j) (fun _ => rfl) ?_ 0 ⟨Nat.zero_le _, rfl⟩
  intro j ⟨hj, hpre⟩ ih
  apply exec_sound (noCtr _) 300
  rw [isset_go]
  refine ⟨fun hcj => ?_, fun hcj => ?_⟩
  · have hcj : j < (a.to Int).length := by have := of_decide_eq_true hcj; omega
    obtain ⟨c1, c2, c3⟩ := int_at ra hcj
    have ge : (a.to Int).getD j 0 = (a.to Int)[j] := getD_lt hcj
    have stop : (decide (0 ≤ (a.to Int).getD j 0) && (decide ((a.to Int).getD j 0 < ((hb.to Wt).length : Int)) && (decide (j = 0) || decide ((a.to Int).getD (j - 1) 0 < (a.to Int).getD j 0)))) = false → setH (a.to Int) (hb.to Wt).length = false := setH_false hcj
    have nxt : (decide (0 ≤ (a.to Int).getD j 0) && (decide ((a.to Int).getD j 0 < ((hb.to Wt).length : Int)) && (decide (j = 0) || decide ((a.to Int).getD (j - 1) 0 < (a.to Int).getD j 0)))) = true → Runs Try.prog ⟨w, H⟩ (issetL ha hb hc i o a (IntKind.i64.wrap ((j : Int) + 1))) (RetS w H (.bool (setH (a.to Int) (hb.to Wt).length))) := fun h => by
      have := ih (j + 1) ⟨hcj, by simp only [setUp, hpre, h, Bool.and_self]⟩ (by omega)
      rw [← wrap_succ hcj (by omega)] at this
      exact this
    rw [c3]
    refine ⟨c1, c2, fun h1 => ?_, fun h1 => ⟨fun h2 => ?_, fun h2 => ⟨fun h3 => ?_, fun h3 => ?_⟩⟩⟩
    · have h1 := of_decide_eq_true h1
      exact ret_lb (stop (by rw [ge, decide_eq_false (p := 0 ≤ (a.to Int)[j]) (by omega)]; rfl)).symm
    · have h2 := of_decide_eq_true h2
      exact ret_lb (stop (by rw [ge, decide_eq_false (p := (a.to Int)[j] < ((hb.to Wt).length : Int)) (by omega)]; simp)).symm
    · have h1 := of_decide_eq_false h1
      have h2 := of_decide_eq_false h2
      have h3 := of_decide_eq_true h3
      have hj1 : j - 1 < (a.to Int).length := by omega
      have ew : IntKind.i64.wrap ((j : Int) - 1) = ((j - 1 : Nat) : Int) := by rw [wrap64 (by omega) (by omega)]; omega
      obtain ⟨d1, d2, d3⟩ := int_at ra hj1
      have ge1 : (a.to Int).getD (j - 1) 0 = (a.to Int)[j - 1] := getD_lt hj1
      rw [ew, d3]
      refine ⟨d1, d2, fun h4 => ?_, fun h4 => ?_⟩
      · have h4 := of_decide_eq_true h4
        exact ret_lb (stop (by rw [ge, ge1, decide_eq_false (p := (a.to Int)[j - 1] < (a.to Int)[j]) (by omega), decide_eq_false (p := j = 0) (by omega)]; simp)).symm
      · have h4 := of_decide_eq_false h4
        exact nxt (by rw [ge, ge1, decide_eq_true (p := (a.to Int)[j - 1] < (a.to Int)[j]) (by omega), decide_eq_true (p := 0 ≤ (a.to Int)[j]) (by omega), decide_eq_true (p := (a.to Int)[j] < ((hb.to Wt).length : Int)) (by omega)]; simp)
    · have h1 := of_decide_eq_false h1
      have h2 := of_decide_eq_false h2
      have h3 := of_decide_eq_false h3
      exact nxt (by rw [ge, decide_eq_true (p := 0 ≤ (a.to Int)[j]) (by omega), decide_eq_true (p := (a.to Int)[j] < ((hb.to Wt).length : Int)) (by omega), decide_eq_true (p := j = 0) (by omega)]; simp)
  · have : j = (a.to Int).length := by have := of_decide_eq_false hcj; omega
    subst this
    exact ret_lb hpre.symm

theorem lawBefT : Law Try.prog 42 ((rdTl.three rdInt rdInt).sp spBefT) := by
  refine law_in _ (by kernel_rfl) fun H w ⟨⟨i, o⟩, n, j⟩ hok hp => ?_
  obtain ⟨ri, ro, hn0, hn1, hj0, hj1⟩ := hp _ (List.mem_singleton.2 rfl)
  simp only at ri ro hn0 hn1 hj0 hj1
  obtain ⟨x, rfl⟩ := Int.eq_ofNat_of_zero_le hn0
  obtain ⟨y, rfl⟩ := Int.eq_ofNat_of_zero_le hj0
  have hx : x < (o.to Int).length := by omega
  have hy : y < (i.to Int).length := by omega
  obtain ⟨c1, c2, c3⟩ := int_at ro hx
  obtain ⟨d1, d2, d3⟩ := int_at ri hy
  apply exec_sound (noCtr _) 200
  rw [show (rdTl.three rdInt rdInt).canon (⟨i, o⟩, (x : Int), (y : Int)) = [.agg [.dat i, .dat o], .int .i64 x, .int .i64 y] from rfl, tb_in]
  have e1 : (o.to Int).getD (Int.toNat (x : Int)) 0 = (o.to Int)[x] := getD_lt hx
  have e2 : (i.to Int).getD (Int.toNat (y : Int)) 0 = (i.to Int)[y] := getD_lt hy
  have eb : beforeT ⟨i.to Int, o.to Int⟩ x y = (decide ((o.to Int)[x] ≥ 0) && decide ((o.to Int)[x] < (i.to Int)[y])) := by unfold beforeT; simp only [e1, e2]
  intro hs
  rw [c3, d3]
  refine ⟨fun h => ?_, fun h => ?_⟩
  · refine ⟨c1, c2, h, h, h, h, c1, h, c2, h, h, h, h, d1, h, d2, h, h, ret_bool (Eq.trans ?_ eb.symm)⟩
    rw [h]; rfl
  · refine ⟨c1, c2, h, h, h, h, h, h, h, h, h, h, h, h, ret_lb (Eq.trans ?_ eb.symm)⟩
    rw [h]; rfl
end Go.Proofs.Ytdiekahpofifeaa
end
section
namespace Sx
open Go RowKit
def atEnd (c : Conf) : Bool :=
  match c.rest with
  | [] => match c.top.ri with
    | none => match c.top.todo with
      | [] => true
      | .code .ret :: _ => true
      | _ => false
    | some _ => false
  | _ :: _ => false
noncomputable def execP (P : Program) (cs : Ctrs) (n : Nat) : Conf → Tree :=
  Nat.rec (motive := fun _ => Conf → Tree) (fun _ => .stuck) (fun _ ih c => match atEnd c with
    | true => leafR c
    | false => stepC P cs (fun _ => false) ih c) n

theorem execP_sound {P : Program} {C : Ctx} {R : Value → World → Prop} {cs : Ctrs} (hcs : cs.Ok P) : ∀ (n : Nat) (c : Conf), (execP P cs n c).holds P C R → Runs P C c R
  | 0, _, h => h.elim
  | n + 1, c, h => by
    have e : execP P cs (n + 1) c = match atEnd c with
      | true => leafR c
      | false => stepC P cs (fun _ => false) (execP P cs n) c := rfl
    rw [e] at h
    cases hr : atEnd c with
    | true => rw [hr, leafR_eq] at h; exact h
    | false => rw [hr] at h; exact step_sound (U := fun _ => false) (ih := execP P cs n) hcs (fun c h => execP_sound hcs n c h) c h
def EndR (C : Ctx) (Φ : Bool → List SV → Mem → Prop) (v : Value) (w : World) : Prop :=
  ∃ e tmps mem E H, Φ e tmps mem ∧ v = rv e (SV.denL E tmps).toArray ∧ Good C mem E H w ∧ SV.OkL H tmps

section
variable {P : Program} {C : Ctx} {Φ : Bool → List SV → Mem → Prop}

theorem kind_piece {C : Ctx} (hrd : C.x.rd = true) : kindOf C.x = some (marksOf C.x.df) := by simp [kindOf, hrd]

theorem end_here {fn : FuncId} {aw : Option Tmp} {tmps : List SV} {mem : Mem} (hrd : C.x.rd = true) (h : Φ true tmps mem) : Runs P C ⟨⟨fn, none, aw, [], tmps⟩, [], mem⟩ (EndR C Φ) := by
  intro E H w g ok
  show Go1 P (kindOf C.x) fn [] ⟨(SV.denL E tmps).toArray, marksOf C.x.df⟩ w _
  rw [kind_piece hrd]
  exact Go1.round_end ⟨true, tmps, mem, E, H, h, rfl, g, ok.1⟩

theorem end_ret {fn : FuncId} {aw : Option Tmp} {k : List Item} {tmps : List SV} {mem : Mem} (hrd : C.x.rd = true) (h : Φ false tmps mem) : Runs P C ⟨⟨fn, none, aw, .code .ret :: k, tmps⟩, [], mem⟩ (EndR C Φ) := by
  intro E H w g ok
  show Go1 P (kindOf C.x) fn (.code .ret :: k) ⟨(SV.denL E tmps).toArray, marksOf C.x.df⟩ w _
  rw [kind_piece hrd]
  exact Go1.round_ret ⟨false, tmps, mem, E, H, h, rfl, g, ok.1⟩

theorem end_ops {fn : FuncId} {aw : Option Tmp} {ops : Array Oper} {tmps : List SV} {mem : Mem} (hrd : C.x.rd = true) (h : Φ true tmps mem) : Runs P C ⟨⟨fn, some (ops, []), aw, [], tmps⟩, [], mem⟩ (EndR C Φ) := by
  intro E H w g ok
  show wpOps P ops (Qk P (kindOf C.x) fn [] (EndR C Φ)) [] ⟨(SV.denL E tmps).toArray, marksOf C.x.df⟩ w
  rw [kind_piece hrd]
  exact ⟨rfl, Go1.round_end ⟨true, tmps, mem, E, H, h, rfl, g, ok.1⟩⟩
theorem piece (hrd : C.x.rd = true) {fn : FuncId} {aw : Option Tmp} {todo : List Item} {tmps : List SV} {mem : Mem} (h : Runs P C ⟨⟨fn, none, aw, todo, tmps⟩, [], mem⟩ (EndR C Φ)) {E : Env} {H : HV} {w : World} (g : Good C mem E H w) (ok : SV.OkL H tmps)
    (b : Frame) (K : List Item) (cs : List Frame) (hb : b.fn = fn) :
    ∃ e tmps' mem' E' H' w', Φ e tmps' mem' ∧ Good C mem' E' H' w' ∧ SV.OkL H' tmps' ∧
      RoundTo P (lone (b.atR ⟨(SV.denL E tmps).toArray, marksOf C.x.df⟩ (todo ++ K)) cs w) b K cs ⟨(SV.denL E' tmps').toArray, marksOf C.x.df⟩ w' e := by
  have h1 : Go1 P (kindOf C.x) fn todo ⟨(SV.denL E tmps).toArray, marksOf C.x.df⟩ w (EndR C Φ) := h E H w g ⟨ok, by simp⟩
  rw [kind_piece hrd] at h1
  obtain ⟨e, T, w', ⟨e', tmps', mem', E', H', h2, h3, h4, h5⟩, h6⟩ := h1 b K cs hb
  simp only [rv, Value.tuple.injEq, Array.mk.injEq, List.cons.injEq, Value.bool.injEq, and_true] at h3
  obtain ⟨rfl, rfl⟩ := h3
  exact ⟨e, tmps', mem', E', H', w', h2, h4, h5, h6⟩
theorem piece_ops (hrd : C.x.rd = true) {fn : FuncId} {aw : Option Tmp} {ops : Array Oper} (hcalm : calmOps ops = true) {l : List Nat} {tmps : List SV} {mem : Mem}
    (h : Runs P C ⟨⟨fn, some (ops, l), aw, [], tmps⟩, [], mem⟩ (EndR C fun e t m => e = true ∧ Φ true t m)) {E : Env} {H : HV} {w : World} (g : Good C mem E H w) (ok : SV.OkL H tmps)
    (b : Frame) (more : List Nat) (K : List Item) (cs : List Frame) (hb : b.fn = fn) :
    ∃ tmps' mem' E' H' w', Φ true tmps' mem' ∧ Good C mem' E' H' w' ∧ SV.OkL H' tmps' ∧
      Steps P (lone (b.atR ⟨(SV.denL E tmps).toArray, marksOf C.x.df⟩ (.inRegion ops (l ++ more) :: K)) cs w) (lone (b.atR ⟨(SV.denL E' tmps').toArray, marksOf C.x.df⟩ (.inRegion ops more :: K)) cs w') := by
  have h1 : wpOps P ops (Qk P (kindOf C.x) fn [] (EndR C fun e t m => e = true ∧ Φ true t m)) l ⟨(SV.denL E tmps).toArray, marksOf C.x.df⟩ w := h E H w g ⟨ok, by simp⟩
  rw [kind_piece hrd] at h1
  obtain ⟨a', w', h2, h3⟩ := ops_part hcalm (T := fun a w => Go1 P (some (marksOf C.x.df)) fn [] a w (EndR C fun e t m => e = true ∧ Φ true t m)) l more _ _ h1 b K cs
  obtain ⟨e, T, w2, ⟨e', tmps', mem', E', H', ⟨h4, h4'⟩, h5, h6, h7⟩, h8⟩ := h2 b (.inRegion ops more :: K) cs hb
  simp only [rv, Value.tuple.injEq, Array.mk.injEq, List.cons.injEq, Value.bool.injEq, and_true] at h5
  obtain ⟨rfl, rfl⟩ := h5
  subst h4
  exact ⟨tmps', mem', E', H', w2, h4', h6, h7, h3.trans h8⟩
end
def SV.plainK : SV → Bool
  | .int .. => true
  | .bool _ => true
  | .lb _ => true
  | .str _ => true
  | .nils => true
  | .dat _ => true
  | _ => false
def SV.kept : SV → Bool
  | .vec _ => false
  | .ptr k _ => Nat.ble PIN k
  | .velt .. => false
  | .view .. => false
  | .mapp _ => false
  | .agg l => l.all SV.plainK
  | .tup _ => false
  | .fn _ a c => a.isEmpty && c.all fun x => match x with
    | .ptr k _ => Nat.ble PIN k
    | _ => false
  | _ => true

theorem kept_den {E E' : Env} (hj : E'.j = E.j) (hb : ∀ k, PIN ≤ k → E'.b k = E.b k) (x : SV) (h : x.kept = true) : x.den E' = x.den E := by
  cases x <;> simp only [SV.kept] at h <;> try (first | rfl | (cases h; done))
  case ptr k o => simp only [SV.den, hb k (Nat.le_of_ble_eq_true h)]
  case agg l =>
    have : SV.denL E' l = SV.denL E l := by
      rw [SV.denL_eq, SV.denL_eq]
      apply List.map_congr_left
      intro y hy
      have := List.all_eq_true.1 h y hy
      cases y <;> first | rfl | (cases this; done)
    simp only [SV.den, this]
  case fn f a c =>
    simp only [Bool.and_eq_true, List.isEmpty_iff, List.all_eq_true] at h
    obtain ⟨rfl, h⟩ := h
    have : SV.denL E' c = SV.denL E c := by
      rw [SV.denL_eq, SV.denL_eq]
      apply List.map_congr_left
      intro y hy
      have := h y hy
      cases y <;> simp only [SV.den] <;> try (cases this; done)
      rw [hb _ (Nat.le_of_ble_eq_true this)]
    simp only [SV.den, this, SV.denL]
  case junk i => simp only [SV.den, hj]
theorem kept_denL {E E' : Env} (hj : E'.j = E.j) (hb : ∀ k, PIN ≤ k → E'.b k = E.b k) {l : List SV} (h : l.all SV.kept = true) : SV.denL E' l = SV.denL E l := by
  rw [SV.denL_eq, SV.denL_eq]
  exact List.map_congr_left fun x hx => kept_den hj hb x (List.all_eq_true.1 h x hx)
theorem Good.ctx {C C' : Ctx} {m : Mem} {E : Env} {H : HV} {w : World} (g : Good C m E H w) (h0 : C'.w0 = C.w0) (hle : HLe C'.H0 H) (hf : ∀ b o v, H b o = some v → C'.H0 b o = some v ∨ C.w0.heap.size ≤ b) (hx : FixOk C'.x C.w0.heap.size E w) : Good C' m E H w := by
  obtain ⟨w0, H0⟩ := C'
  simp only at h0
  subst h0
  refine ⟨g.below, hle, hf, g.cell, fun k o hk => ?_, g.keys, g.apart, hx⟩
  have := g.own k o hk
  cases o <;> exact this
theorem Good.still {C : Ctx} {m : Mem} {E : Env} {H : HV} {w w' : World} (g : Good C m E H w) (hos : w'.os = w.os) (ht : w'.tape = w.tape) (hu : w'.output = w.output) (hs : w.heap.size ≤ w'.heap.size)
    (hb : ∀ j o, w.heap[j]? = some o → w'.heap[j]? = some o ∨ (stillO o = true ∧ C.w0.heap.size ≤ j ∧ C.x.fx j = none)) : Good C m E H w' := by
  have hq : ∀ j o, w.heap[j]? = some o → stillO o = false → w'.heap[j]? = w.heap[j]? := fun j o hj ho => by
    rcases hb j o hj with h | ⟨h, _⟩
    · rw [h, hj]
    · rw [ho] at h; cases h
  have hc : ∀ b o v, H b o = some v → w'.heap[b]? = w.heap[b]? := fun b o v h => by
    have h1 := g.cell b o v h
    cases hj : w.heap[b]? with
    | none => simp [World.cell?, hj] at h1
    | some q =>
      rw [← hj]
      refine hq b q hj ?_
      simp only [World.cell?, hj, Option.isSome_none, Bool.false_eq_true, if_false] at h1
      cases q <;> first | rfl | (simp at h1)
  refine ⟨⟨hos.trans g.below.os, ht.trans g.below.tape, hu.trans g.below.output, Nat.le_trans g.below.size hs, fun j hj => ?_⟩, g.ext, g.fresh, fun b o v h => ?_, fun k o h => ?_, g.keys, g.apart, ?_⟩
  · rw [← g.below.block j hj]
    have hlt : j < w.heap.size := Nat.lt_of_lt_of_le hj g.below.size
    have hget : w.heap[j]? = some w.heap[j] := by simp [hlt]
    rcases hb j _ hget with h | ⟨_, h, _⟩
    · rw [h, hget]
    · omega
  · rw [cell_of_heap (w := w) (hc b o v h)]; exact g.cell b o v h
  · refine (g.own k o h).keep fun hl => ?_
    have hlt := (g.own k o h).lt hl
    have hget : w.heap[E.b k]? = some w.heap[E.b k] := by simp [hlt]
    exact hq _ _ hget ((g.own k o h).moves hl hget)
  · refine ⟨fun b o h => ⟨?_, (g.fix.fx b o h).2⟩, g.fix.mark, g.fix.nodup, g.fix.pin⟩
    rcases hb b o (g.fix.fx b o h).1 with h1 | ⟨_, _, h1⟩
    · exact h1
    · rw [h1] at h; cases h
theorem Good.junk {C : Ctx} {m : Mem} {E : Env} {H : HV} {w : World} (g : Good C m E H w) (j : Nat → Value) (hm : m.all (fun x => !x.2.jk 0) = true) : Good C m ⟨E.b, E.v, j⟩ H w :=
  g.same' (n := 0) ⟨rfl, rfl, fun i hi => absurd hi (Nat.not_lt_zero _)⟩ fun x hx => by simpa using List.all_eq_true.1 hm x hx
end Sx
end
section
namespace Sx
open Go RowKit
structure IterCode (P : Program) (it : FuncId) where
  fn : Func
  hfn : P.funcs[it]? = some fn
  name : (fn.name == "runtime.NumGoroutine") = false
  ntmps : fn.ntmps = 23
  results : fn.results = #[]
  i0 : Nat
  i1 : Nat
  i2 : Nat
  i3 : Nat
  i4 : Nat
  ops0 : Array Oper
  ops1 : Array Oper
  ops2 : Array Oper
  ops3 : Array Oper
  ops4 : Array Oper
  body : fn.body = some (.seq (.region i0 ops0 false) (.block 0 (.loop (.seq (.region i1 ops1 false) (.seq (.cond (.tmp 9) .skip (.exit 0))
    (.seq (.block 1 (.seq (.region i2 ops2 false) (.seq (.region i3 ops3 false) (.cond (.tmp 21) .ret .skip)))) (.region i4 ops4 false)))))))
  calm3 : calmOps ops3 = true
  size3 : ops3.size = 10
  o8 : Oper
  at8 : ops3[8]? = some o8
  tys : Array TypeId
  op8 : o8.op = .call { callee := .value (.tmp 12), args := #[.tmp 13, .tmp 19], argTypes := tys }
  dst8 : o8.dst = some 20
  guard8 : o8.guard = none

def IterCode.loopC {P : Program} {it : FuncId} (I : IterCode P it) : Code := .seq (.region I.i1 I.ops1 false) (.seq (.cond (.tmp 9) .skip (.exit 0))
    (.seq (.block 1 (.seq (.region I.i2 I.ops2 false) (.seq (.region I.i3 I.ops3 false) (.cond (.tmp 21) .ret .skip)))) (.region I.i4 I.ops4 false)))
def liveIt : List Nat := [0, 1, 2, 6, 7, 8]
def MemTo (m m' : Mem) : Prop := ∀ (C : Ctx) (E : Env) (H : HV) (w : World), Good C m E H w → ∃ E', E'.j = E.j ∧ (∀ k, PIN ≤ k → E'.b k = E.b k) ∧ Good C m' E' H w

theorem MemTo.sub {m m' : Mem} (h : m'.Sublist m) : MemTo m m' := fun _ E _ _ g => ⟨E, rfl, fun _ _ => rfl, g.sub h⟩
theorem MemTo.refl (m : Mem) : MemTo m m := fun _ E _ _ g => ⟨E, rfl, fun _ _ => rfl, g⟩
theorem MemTo.ren {m : Mem} (ρ : Nat → Nat) (hpin : ∀ k, PIN ≤ k → ρ k = k) (hlow : ∀ k, k ∈ m.named → k < PIN → ρ k < PIN)
    (hinj : ∀ k j, k ∈ m.named → j ∈ m.named → ρ k = ρ j → k = j) : MemTo m (m.map fun e => (ρ e.1, e.2.ren ρ)) := by
  intro C E H w g
  let inv : Nat → Nat := fun i => if PIN ≤ i then i else ((m.named.find? fun k => ρ k == i).getD i)
  let E' : Env := ⟨fun i => E.b (inv i), fun i => E.v (inv i), E.j⟩
  have hinv : ∀ k, k ∈ m.named → inv (ρ k) = k := fun k hk => by
    rcases Nat.lt_or_ge k PIN with h | h
    · have hl := hlow k hk h
      simp only [inv, if_neg (Nat.not_le.2 hl)]
      cases hf : m.named.find? fun j => ρ j == ρ k with
      | none =>
        have := List.find?_eq_none.1 hf k hk
        simp at this
      | some j =>
        have h1 := List.find?_some hf
        have h2 := List.mem_of_find?_eq_some hf
        simp only [beq_iff_eq] at h1
        simp only [Option.getD_some]
        exact hinj j k h2 hk h1
    · rw [hpin k h]; simp only [inv, if_pos h]
  have ren : ∀ k, k ∈ m.named → Ren ρ E E' k := fun k hk => by
    simp only [Ren, E', hinv k hk, and_self]
  refine ⟨E', rfl, fun k hk => by simp only [E', inv, if_pos hk], ?_⟩
  refine ⟨g.below, g.ext, g.fresh, g.cell, fun k o hko => ?_, ?_, fun x y hx hy hne hlx hly => ?_, g.fix.keep (fun k hk => by simp only [E', inv, if_pos hk]) fun _ _ h _ => h⟩
  · obtain ⟨e, he, h1⟩ := List.mem_map.1 hko
    simp only [Prod.mk.injEq] at h1
    obtain ⟨rfl, rfl⟩ := h1
    exact (g.own e.1 e.2 he).ren (E' := E') (show E'.j = E.j from rfl) (ren _ (named_key (o := e.2) he)) (fun j hj => ren j (named_in he hj)) (fun es _ hk => keysOk_ren hk)
  · rw [List.pairwise_map]
    refine g.keys.imp_of_mem ?_
    intro a b ha hb hne e
    exact hne (hinj _ _ (named_key (o := a.2) ha) (named_key (o := b.2) hb) e)
  · obtain ⟨a, ha, h1⟩ := List.mem_map.1 hx
    obtain ⟨b, hb, h2⟩ := List.mem_map.1 hy
    subst h1; subst h2
    simp only at hne hlx hly ⊢
    rw [(ren a.1 (named_key (o := a.2) ha)).1, (ren b.1 (named_key (o := b.2) hb)).1]
    exact g.apart a b ha hb (fun e => hne (by rw [e])) ((OBlk.lies_ren _ _).1 hlx) ((OBlk.lies_ren _ _).1 hly)
def Ctx.marked (C : Ctx) (D : Nat) : Ctx := @Ctx.mk C.w0 C.H0 ⟨fun b => if b = D then some (.deferred (some [])) else C.x.fx b, D :: C.x.df, C.x.rd, C.x.pn⟩
def Ctx.loopX (C : Ctx) (Hb : HV) (pb : Nat → Nat) (D l : Nat) (r : Loop) : Ctx :=
  @Ctx.mk C.w0 Hb ⟨fun b => if b = D then some (.deferred (some [])) else if b = l then some (.loop r) else C.x.fx b, [], true, some pb⟩

def yieldV (l : Nat) : Value := .func (.yield l) #[] #[]

section
variable {P : Program} {it : FuncId}
structure IterWalk (I : IterCode P it) {σ : Type} (mm : σ → Mem) (n : Nat) (z : Nat → Int) (wv : Nat → SV) (Inv : Nat → σ → Prop) (caps : List SV) where
  itL : Nat → Nat → List SV
  TA : Nat → List SV
  T1 : Nat → Nat → List SV
  T2 : Nat → Nat → List SV
  T3 : Nat → Nat → List SV
  TC : Bool → Nat → Nat → List SV
  TD : Nat → Nat → List SV
  kept : ∀ l j, (itL l j).all SV.kept = true
  okL : ∀ (C : Ctx) (E : Env) (H : HV) (w : World) (s : σ), Good C (mm s) E H w → ∀ l j, SV.OkL H (itL l j)
  okw : ∀ (C : Ctx) (E : Env) (H : HV) (w : World) (s : σ), Good C (mm s) E H w → ∀ j, j < n → (wv j).Ok H
  A : ∀ (C : Ctx) (s : σ) (l : Nat), C.x.rd = true → Inv 0 s → Runs P C ⟨⟨it, none, none, [.code (.region I.i0 I.ops0 false)], SV.raw (yieldV l) :: caps ++ List.replicate 20 .undef⟩, [], mm s⟩ (EndR C fun e T m => e = true ∧ T = TA l ∧ m = mm s)
  mA : ∀ l, maskT 0 liveIt 0 (TA l) = itL l 0 ∧ keptOk 0 liveIt 0 (TA l) = true
  B1 : ∀ (C : Ctx) (s : σ) (l j : Nat), C.x.rd = true → j ≤ n → Inv j s → Runs P C ⟨⟨it, none, none, [.code (.region I.i1 I.ops1 false)], itL l j⟩, [], mm s⟩ (EndR C fun e T m => e = true ∧ T = T1 l j ∧ m = mm s)
  c1 : ∀ l j, (T1 l j)[9]? = some (.bool (decide ((j : Int) < n)))
  B2 : ∀ (C : Ctx) (s : σ) (l j : Nat), C.x.rd = true → j < n → Inv j s → Runs P C ⟨⟨it, none, none, [.code (.region I.i2 I.ops2 false)], T1 l j⟩, [], mm s⟩ (EndR C fun e T m => e = true ∧ T = T2 l j ∧ m = mm s)
  B3 : ∀ (C : Ctx) (s : σ) (l j : Nat), C.x.rd = true → j < n → Inv j s → Runs P C ⟨⟨it, some (I.ops3, [0, 1, 2, 3, 4, 5, 6, 7]), none, [], T2 l j⟩, [], mm s⟩ (EndR C fun e T m => e = true ∧ T = T3 l j ∧ m = mm s)
  c3 : ∀ l j, (T3 l j)[12]? = some (.raw (yieldV l)) ∧ (T3 l j)[13]? = some (.int .i64 (z j)) ∧ (T3 l j)[19]? = some (wv j)
  m3 : ∀ l j, maskT 0 liveIt 0 (T3 l j) = itL l j ∧ keptOk 0 liveIt 0 (T3 l j) = true
  Cc : ∀ (C : Ctx) (s : σ) (m : Mem) (e : Bool) (l j : Nat), C.x.rd = true → Runs P C ⟨⟨it, some (I.ops3, [9]), none, [], (itL l j).set 20 (.lb e)⟩, [], m⟩ (EndR C fun e' T m' => e' = true ∧ T = TC e l j ∧ m' = m)
  cC : ∀ e l j, (TC e l j)[21]? = some (.lb (!e))
  Dd : ∀ (C : Ctx) (s : σ) (l j : Nat), C.x.rd = true → j < n → Runs P C ⟨⟨it, none, none, [.code (.region I.i4 I.ops4 false)], TC true l j⟩, [], mm s⟩ (EndR C fun e T m => e = true ∧ T = TD l j ∧ m = mm s)
  mD : ∀ l j, j < n → maskT 0 liveIt 0 (TD l j) = itL l (j + 1) ∧ keptOk 0 liveIt 0 (TD l j) = true
  indep : ∀ (j : Nat) (E E' : Env), (wv j).den E' = (wv j).den E
end


theorem act_get {tmps : List SV} {E : Env} {i : Nat} {x : SV} (h : tmps[i]? = some x) (ds : List Deferred) : (⟨(SV.denL E tmps).toArray, ds⟩ : Act).eval (.tmp i) = x.den E := by
  simp [Act.eval, SV.denL_eq, h, Array.getD]
  split
  · have := (List.getElem?_eq_some_iff.1 h).2
    simp [this]
  · rename_i hlt
    have := (List.getElem?_eq_some_iff.1 h).1
    exact absurd this hlt

theorem maskIt {E : Env} {T L : List SV} (h : maskT 0 liveIt 0 T = L ∧ keptOk 0 liveIt 0 T = true) : ∃ J : Nat → Value, SV.denL ⟨E.b, E.v, J⟩ L = SV.denL E T := by
  refine ⟨fun i => ((SV.denL E T)[i]?).getD Go.undef, ?_⟩
  rw [← h.1]
  refine maskT_den (n := 0) (E := E) (E' := ⟨E.b, E.v, fun i => ((SV.denL E T)[i]?).getD Go.undef⟩) ⟨rfl, rfl, fun i hi => absurd hi (Nat.not_lt_zero _)⟩ liveIt T 0 h.2 fun i v hv => ?_
  simp [SV.denL_eq, hv]

section
variable {P : Program} {it : FuncId}
theorem iter_out (I : IterCode P it) {b bF : Frame} {a aM : Act} {l : Nat} {k : List Item} {cs : List Frame} {w : World} {r : Loop} (hb : b.fn = it) (hk : b.kind = .normal) (hro : b.roundOf = none) (hd : a.defers = [])
    (hl : w.heap[l]? = some (.loop r)) (hr : r.state ≠ .busy) {todo : List Item} (ht : todo = [] ∨ ∃ q, todo = .code .ret :: q) :
    Steps P (lone (b.atR a todo) (bF.atR aM (.inRangeFunc l :: k) :: cs) w) (lone (bF.atR aM ((r.pending.map Item.code).toList ++ k)) cs (w.putObj l (.loop { r with state := .exhausted }))) := by
  have hres : (results I.fn a.tmps).run P w = .ok (.tuple #[]) w := by simp [Go.results, I.results]
  have leave : ∀ todo, Steps P (lone { b.atR a todo with mode := .returning } (bF.atR aM (.inRangeFunc l :: k) :: cs) w) (lone (bF.atR aM ((r.pending.map Item.code).toList ++ k)) cs (w.putObj l (.loop { r with state := .exhausted }))) := fun todo => by
    have hleave : Frame.leaving P { b.atR a todo with mode := .returning } w (.returned (.tuple #[])) := ⟨rfl, hd, hk, I.fn, by rw [← I.hfn]; exact congrArg _ hb, hres⟩
    refine .head (step_leave_returned hleave) ?_
    rw [finish_atR_inRangeFunc]
    exact .one (stepR_endRangeFunc (run_endLoop hl hr))
  rcases ht with rfl | ⟨q, rfl⟩
  · exact .head (stepR_end hro) (leave [])
  · exact .head (stepR_ret hro) (leave _)

theorem run_yieldOp {I : IterCode P it} {a : Act} {l : Nat} {r : Loop} {x y : Value} {w : World} (h12 : a.eval (.tmp 12) = yieldV l) (h13 : a.eval (.tmp 13) = x) (h19 : a.eval (.tmp 19) = y)
    (hl : w.heap[l]? = some (.loop r)) (hs : r.params.size = 2) :
    (execOp a.eval I.o8).run P w = .ok (.round l r.fn ((r.params.zip #[x, y]).foldl (fun tmps (t, a) => tmps.setIfInBounds t a) r.tmps) r.assign r.body) w := by
  have hy := run_yield (P := P) (args := #[x, y]) hl (by rw [hs]; rfl)
  unfold execOp
  simp only [I.op8, resolve, h12, yieldV, Deferred.ofValue, Sem.run_bind, Sem.run_pure, Result.andThen_ok, invoke]
  simp only [List.map_toArray, List.map_cons, List.map_nil, h13, h19]
  simpa using hy
def roundF (fn : FuncId) (l : Nat) : Frame := { (default : Frame) with fn := fn, kind := .normal, roundOf := some l }
theorem steps_round {I : IterCode P it} {b : Frame} {a : Act} {k : List Item} {cs : List Frame} {w w1 w2 : World} {l : Nat} {r : Loop} {T T1 T2 : Array Value} {e : Bool} (hb : b.roundOf = none)
    (hy : (execOp a.eval I.o8).run P w = .ok (.round l r.fn T r.assign r.body) w)
    (h1 : Steps P (lone ((roundF r.fn l).atR ⟨T, []⟩ [.code r.assign, .beginRound, .code r.body]) (b.atR a (.inRegion I.ops3 [8, 9] :: k) :: cs) w) (lone ((roundF r.fn l).atR ⟨T1, []⟩ [.beginRound, .code r.body]) (b.atR a (.inRegion I.ops3 [8, 9] :: k) :: cs) w1))
    (hl1 : w1.heap[l]? = some (.loop { r with state := .ready, pending := none }))
    (h2 : RoundTo P (lone ((roundF r.fn l).atR ⟨T1, []⟩ [.code r.body]) (b.atR a (.inRegion I.ops3 [8, 9] :: k) :: cs) (w1.putObj l (.loop { r with state := .busy, pending := none }))) (roundF r.fn l) [] (b.atR a (.inRegion I.ops3 [8, 9] :: k) :: cs) ⟨T2, []⟩ w2 e)
    (hl2 : w2.heap[l]? = some (.loop { r with state := .busy, pending := none })) :
    Steps P (lone (b.atR a (.inRegion I.ops3 [8, 9] :: k)) cs w) (lone (b.atR (a.put (some 20) (.bool e)) (.inRegion I.ops3 [9] :: k)) cs
      (w2.putObj l (.loop { r with state := if e then .ready else .done, pending := if e then none else some .ret }))) := by
  have hw : Region.wanted I.o8 (yielded I.ops3 a.tmps) = true := by simp [Region.wanted, I.guard8]
  have hg := stepGR_op (P := P) (b := b) (k := k) (cs := cs) (w := w) (rest := [9]) I.at8 hw
  rw [semAt_calm I.calm3 I.at8] at hg
  have hfin : ∀ v, (b.atR a (.inRegion I.ops3 [8, 9] :: k)).finish v = b.atR (a.put (some 20) v) (.inRegion I.ops3 [9] :: k) := by
    intro v; rw [Frame.finish_atR, I.at8]; simp [I.dst8]
  have henter : Go.step P (lone (b.atR a (.inRegion I.ops3 [8, 9] :: k)) cs w) = .next (lone ((roundF r.fn l).atR ⟨T, []⟩ [.code r.assign, .beginRound, .code r.body]) (b.atR a (.inRegion I.ops3 [8, 9] :: k) :: cs) w) :=
    step_lone_go (by rw [hg]; simp [stepG.apply, hy, Frame.atR, Frame.round, roundF])
  refine .head henter (h1.trans ?_)
  have hbeg := run_beginRound (P := P) hl1 rfl
  refine .head (stepR_beginRound (b := roundF r.fn l) rfl hbeg) ?_
  cases e with
  | true =>
    refine Steps.trans h2 (.one ?_)
    have hend := run_endRound (P := P) none hl2
    rw [← hfin]
    exact stepR_round_end (b := roundF r.fn l) rfl rfl hend
  | false =>
    obtain ⟨q, h3⟩ := h2
    refine Steps.trans h3 (.one ?_)
    have hend := run_endRound (P := P) (some .ret) hl2
    rw [← hfin]
    exact stepR_round_ret (b := roundF r.fn l) rfl rfl hend
end

section
variable {P : Program} {it : FuncId}

theorem kind_none {X : CtxX} (h : X.rd = false) : kindOf X = none := by unfold kindOf; rw [h]

theorem loopX_at {C : Ctx} {Hb : HV} {pb : Nat → Nat} {D l : Nat} {r : Loop} (hne : l ≠ D) : (C.loopX Hb pb D l r).x.fx l = some (.loop r) := by
  show (if l = D then some (Obj.deferred (some [])) else if l = l then some (.loop r) else C.x.fx l) = _
  rw [if_neg hne, if_pos rfl]

theorem loopX_fix {C : Ctx} {Hb : HV} {E : Env} {w : World} {D l : Nat} {r : Loop} (hf : FixOk C.x C.w0.heap.size E w) {E' : Env} {w' : World} (hk : ∀ (b : Nat) (o : Obj), C.x.fx b = some o → w'.heap[b]? = some o)
    (hD : w'.heap[D]? = some (.deferred (some []))) (hl : w'.heap[l]? = some (.loop r)) (hp : ∀ k, PIN ≤ k → E'.b k = E.b k) : FixOk (C.loopX Hb E.b D l r).x C.w0.heap.size E' w' := by
  refine ⟨fun b o h => ?_, (fun _ h => by cases h), List.nodup_nil, fun f h k hk => ?_⟩
  · have h : (if b = D then some (Obj.deferred (some [])) else if b = l then some (.loop r) else C.x.fx b) = some o := h
    split at h
    · cases h; rename_i e; rw [e]; exact ⟨hD, rfl⟩
    · split at h
      · cases h; rename_i e; rw [e]; exact ⟨hl, rfl⟩
      · exact ⟨hk b o h, (hf.fx b o h).2⟩
  · cases h; exact hp k hk
theorem Good.record {C : Ctx} {Hb : HV} {pb : Nat → Nat} {D l : Nat} {r r' : Loop} {m : Mem} {E : Env} {H : HV} {w : World} (g : Good (C.loopX Hb pb D l r) m E H w) (hlow : C.w0.heap.size ≤ l) (hne : l ≠ D) (hfx : C.x.fx l = none) :
    Good (C.loopX Hb pb D l r') m E H (w.putObj l (.loop r')) := by
  have hl := (g.fix.fx l (.loop r) (loopX_at hne)).1
  have hlt := (Array.getElem?_eq_some_iff.1 hl).1
  have g1 : Good (@Ctx.mk C.w0 Hb ⟨fun b => if b = D then some (.deferred (some [])) else C.x.fx b, [], true, some pb⟩) m E H w := by
    refine g.ctx rfl g.ext (fun b o v h => g.fresh b o v h) ⟨fun b o h => ?_, (fun _ h => by cases h), List.nodup_nil, g.fix.pin⟩
    refine g.fix.fx b o ?_
    show (if b = D then some (Obj.deferred (some [])) else if b = l then some (.loop r) else C.x.fx b) = some o
    have h : (if b = D then some (Obj.deferred (some [])) else C.x.fx b) = some o := h
    split at h
    · rename_i e; rw [if_pos e]; exact h
    · rename_i e
      rw [if_neg e]
      by_cases e2 : b = l
      · rw [e2, hfx] at h; cases h
      · rw [if_neg e2]; exact h
  have g2 := g1.still (w' := w.putObj l (.loop r')) rfl rfl rfl (by simp) fun j o hj => by
    by_cases e : j = l
    · subst e; rw [hl] at hj; cases hj
      exact .inr ⟨rfl, hlow, by show (if j = D then some (Obj.deferred (some [])) else C.x.fx j) = none; rw [if_neg hne, hfx]⟩
    · exact .inl (by rw [heap_putObj _ _ _ _ e]; exact hj)
  refine g2.ctx rfl g2.ext (fun b o v h => g2.fresh b o v h) ⟨fun b o h => ?_, (fun _ h => by cases h), List.nodup_nil, g2.fix.pin⟩
  have h : (if b = D then some (Obj.deferred (some [])) else if b = l then some (.loop r') else C.x.fx b) = some o := h
  split at h
  · rename_i e
    exact g2.fix.fx b o (by show (if b = D then some (Obj.deferred (some [])) else C.x.fx b) = some o; rw [if_pos e]; exact h)
  · rename_i e
    split at h
    · rename_i e2; cases h; rw [e2]
      exact ⟨World.putObj_heap_same hlt, rfl⟩
    · exact g2.fix.fx b o (by show (if b = D then some (Obj.deferred (some [])) else C.x.fx b) = some o; rw [if_neg e]; exact h)
theorem Good.behind {C : Ctx} {Hb : HV} {pb : Nat → Nat} {D l : Nat} {r : Loop} {m : Mem} {E : Env} {H : HV} {w : World} (g : Good (C.loopX Hb pb D l r) m E H w) (hle : HLe C.H0 Hb) (hfr : ∀ b o v, Hb b o = some v → C.H0 b o = some v ∨ C.w0.heap.size ≤ b)
    (hpn : C.x.pn = none) (hlowD : C.w0.heap.size ≤ D) (hlow : C.w0.heap.size ≤ l) (hne : l ≠ D) (hfl : C.x.fx l = none) (hnd : D ∉ C.x.df) (hm : ∀ b, b ∈ C.x.df → C.w0.heap.size ≤ b ∧ b ≠ D ∧ C.x.fx b = some (.deferred (some []))) (hn : C.x.df.Nodup) (r' : Loop) :
    Good (C.marked D) m E H (w.putObj l (.loop r')) := by
  have g1 := g.record (r' := r') hlow hne hfl
  refine g1.ctx rfl (hle.trans g1.ext) (fun b o v h => ?_) ⟨fun b o h => ?_, fun b h => ?_, ?_, fun f h => ?_⟩
  · rcases g1.fresh b o v h with h1 | h1
    · exact hfr b o v h1
    · exact .inr h1
  · refine g1.fix.fx b o ?_
    show (if b = D then some (Obj.deferred (some [])) else if b = l then some (.loop r') else C.x.fx b) = some o
    have h : (if b = D then some (Obj.deferred (some [])) else C.x.fx b) = some o := h
    split at h
    · rename_i e; rw [if_pos e]; exact h
    · rename_i e
      rw [if_neg e]
      by_cases e2 : b = l
      · rw [e2, hfl] at h; cases h
      · rw [if_neg e2]; exact h
  · have h : b ∈ D :: C.x.df := h
    rcases List.mem_cons.1 h with rfl | h
    · exact ⟨hlowD, by show (if b = b then some (Obj.deferred (some [])) else C.x.fx b) = _; rw [if_pos rfl]⟩
    · obtain ⟨h1, h2, h3⟩ := hm b h
      exact ⟨h1, by show (if b = D then some (Obj.deferred (some [])) else C.x.fx b) = _; rw [if_neg h2]; exact h3⟩
  · exact List.nodup_cons.2 ⟨hnd, hn⟩
  · have h : C.x.pn = some f := h
    rw [hpn] at h; cases h

theorem runs_range {C : Ctx} {R : Value → World → Prop} (I : IterCode P it) {fnF : FuncId} {aw : Option Tmp} {t p0 p1 : Tmp} {assign body : Code} {k : List Item} {tmps caps : List SV}
    {σ : Type} {mm : σ → Mem} {n : Nat} {z : Nat → Int} {wv : Nat → SV} {Inv : Nat → σ → Prop} {Stop : Mem → Prop} (W : IterWalk I mm n z wv Inv caps) (s0 : σ) (h0 : Inv 0 s0)
    (hrd : C.x.rd = false) (hpn : C.x.pn = none) (hkept : tmps.all SV.kept = true) (hcap : caps.all SV.kept = true) (hlen : caps.length = 2) (ht : tmps[t]? = some (.fn it [] caps)) (hj : ∀ s, (mm s).all (fun x => !x.2.jk 0) = true)
    (rT : Nat → List SV) (am : Nat → σ → Mem) (assigned : ∀ (C1 : Ctx) (s : σ) (j : Nat), C1.x.rd = true → j < n → Inv j s → Runs P C1 ⟨⟨fnF, none, none, [.code assign], (tmps.set p0 (.int .i64 (z j))).set p1 (wv j)⟩, [], mm s⟩ (EndR C1 fun e T m => e = true ∧ T = rT j ∧ m = am j s))
    (rounds : ∀ (C1 : Ctx) (s : σ) (j : Nat), C1.x.rd = true → j < n → Inv j s → Runs P C1 ⟨⟨fnF, none, none, [.code body], rT j⟩, [], am j s⟩ (EndR C1 fun e T m => (e = true → ∃ s', MemTo m (mm s') ∧ Inv (j + 1) s') ∧ (e = false → ∃ s', MemTo m (mm s') ∧ Stop (mm s'))))
    (done : ∀ (D : Nat) (s : σ), Inv n s → Runs P (C.marked D) ⟨⟨fnF, none, aw, k, tmps⟩, [], mm s⟩ R)
    (stop : ∀ (D : Nat) (s : σ), Stop (mm s) → Runs P (C.marked D) ⟨⟨fnF, none, aw, .code .ret :: k, tmps⟩, [], mm s⟩ R) :
    Runs P C ⟨⟨fnF, none, aw, .code (.rangeFunc (.tmp t) #[p0, p1] assign body) :: k, tmps⟩, [], mm s0⟩ R := by
  intro E H w g ok
  show Go1 P (kindOf C.x) fnF (.code (.rangeFunc (.tmp t) #[p0, p1] assign body) :: k) ⟨(SV.denL E tmps).toArray, marksOf C.x.df⟩ w R
  rw [kind_none hrd]
  intro b cs hb hk hro
  have okT : SV.OkL H tmps := ok.1
  let TF : Array Value := (SV.denL E tmps).toArray
  let D := w.heap.size
  let l := w.heap.size + 1
  let rec' : LoopState → Option Code → Loop := fun st pe => { state := st, pending := pe, fn := fnF, tmps := TF, params := #[p0, p1], assign, body, defers := D }
  let W1 := (w.alloc (.deferred (some []))).alloc (.loop (rec' .ready none))
  have hlow : C.w0.heap.size ≤ w.heap.size := g.below.size
  have hsz : W1.heap.size = w.heap.size + 2 := by simp [W1]
  have hold : ∀ j, j < w.heap.size → W1.heap[j]? = w.heap[j]? := fun j hj => by
    rw [Below.heap_alloc _ _ _ (by simp; omega), Below.heap_alloc _ _ _ hj]
  have hD1 : W1.heap[D]? = some (.deferred (some [])) := (Below.heap_alloc _ _ _ (by simp [D])).trans (World.alloc_heap_new w _)
  have hl1 : W1.heap[l]? = some (.loop (rec' .ready none)) := by
    have := World.alloc_heap_new (w.alloc (.deferred (some []))) (.loop (rec' .ready none))
    rwa [World.size_alloc] at this
  have hfxlt : ∀ q o, C.x.fx q = some o → q < w.heap.size := fun q o h => (Array.getElem?_eq_some_iff.1 (g.fix.fx q o h).1).1
  have hfl : C.x.fx l = none := by
    cases h : C.x.fx l with
    | none => rfl
    | some o => have := hfxlt l o h; simp only [l] at this; omega
  have hne : l ≠ D := by simp only [l, D]; omega
  -- what stands while the loop runs
  have gW1 : Good C (mm s0) E H W1 := g.still rfl rfl rfl (by rw [hsz]; omega) fun j o hj => .inl (by rw [hold j (lt_of_some hj)]; exact hj)
  let X : Loop → Ctx := C.loopX H E.b D l
  have gX : Good (X (rec' .ready none)) (mm s0) E H W1 := gW1.ctx rfl (HLe.refl _) (fun _ _ _ h => .inl h) (loopX_fix g.fix (fun q o h => by rw [hold q (hfxlt q o h)]; exact (g.fix.fx q o h).1) hD1 hl1 fun _ _ => rfl)
  have okI := W.okL C E H w s0 g
  have okW := W.okw C E H w s0 g
  -- the frame that waits
  let bF := b
  let aM : Act := ⟨TF, [({ target := .collected D, args := #[] } : Deferred)] ++ marksOf C.x.df⟩
  -- behind the loop
  have fin : ∀ (pe : Option Code) (s : σ) (E2 : Env) (H2 : HV) (w2 : World) (q : Loop), (pe = none ∧ Inv n s) ∨ (pe = some .ret ∧ Stop (mm s)) → q.state ≠ .busy → Good (X q) (mm s) E2 H2 w2 →
      ∃ v w3 fr, R v w3 ∧ Steps P (lone (b.atR aM ((pe.map Item.code).toList ++ k)) cs (w2.putObj l (.loop { q with state := .exhausted }))) (lone fr cs w3) ∧ fr.fn = fnF ∧ fr.leaving P w3 (.returned v) := by
    intro pe s E2 H2 w2 q hpe hq g2
    have hpin : ∀ k, PIN ≤ k → E2.b k = E.b k := fun k hk => g2.fix.pin E.b rfl k hk
    have g3 : Good (C.marked D) (mm s) E2 H2 (w2.putObj l (.loop { q with state := .exhausted })) := g2.behind g.ext g.fresh hpn hlow (by simp only [l]; omega) hne hfl
      (fun h => by have := hfxlt D _ (g.fix.mark D h).2; simp only [D] at this; omega)
      (fun q hq => ⟨(g.fix.mark q hq).1, fun e => by have := hfxlt q _ (g.fix.mark q hq).2; simp only [D] at e; omega, (g.fix.mark q hq).2⟩) g.fix.nodup _
    have g4 := g3.junk E.j (hj s)
    have hden : SV.denL ⟨E2.b, E2.v, E.j⟩ tmps = SV.denL E tmps := kept_denL (E := E) (E' := ⟨E2.b, E2.v, E.j⟩) rfl hpin hkept
    have okT2 : SV.OkL H2 tmps := SV.OkL.mono g2.ext _ okT
    have run : ∀ todo, Runs P (C.marked D) ⟨⟨fnF, none, aw, todo, tmps⟩, [], mm s⟩ R → ∃ v w3 fr, R v w3 ∧ Steps P (lone (b.atR aM todo) cs (w2.putObj l (.loop { q with state := .exhausted }))) (lone fr cs w3) ∧ fr.fn = fnF ∧ fr.leaving P w3 (.returned v) := by
      intro todo hr
      have h1 : Go1 P (kindOf (C.marked D).x) fnF todo ⟨(SV.denL ⟨E2.b, E2.v, E.j⟩ tmps).toArray, marksOf (C.marked D).x.df⟩ _ R := hr _ _ _ g4 ⟨okT2, by simp⟩
      rw [kind_none (X := (C.marked D).x) hrd, hden] at h1
      exact h1 b cs hb hk hro
    rcases hpe with ⟨rfl, hi⟩ | ⟨rfl, hs⟩
    · exact run k (done D s hi)
    · exact run _ (stop D s hs)
  -- the iterator's frame
  let bI : Frame := { (default : Frame) with fn := it, kind := .normal, roundOf := none }
  let calls : List Frame := b.atR aM (.inRangeFunc l :: k) :: cs
  have claim : ∀ (d j : Nat) (s : σ) (E2 : Env) (H2 : HV) (w2 : World) (J : Nat → Value), n - j = d → j ≤ n → Inv j s → Good (X (rec' .ready none)) (mm s) E2 H2 w2 →
      ∃ v w3 fr, R v w3 ∧ Steps P (lone (bI.atR ⟨(SV.denL ⟨E2.b, E2.v, J⟩ (W.itL l j)).toArray, []⟩ [.code I.loopC, .inLoop I.loopC, .inBlock 0]) calls w2) (lone fr cs w3) ∧ fr.fn = fnF ∧ fr.leaving P w3 (.returned v) := by
    intro d
    induction d with
    | zero =>
      intro j s E2 H2 w2 J hd hjn hi g2
      have okL2 : SV.OkL H2 (W.itL l j) := SV.OkL.mono g2.ext _ (okI l j)
      obtain ⟨e, T, m, E3, H3, w3, ⟨rfl, rfl, rfl⟩, g3, ok3, st⟩ := piece (C := X (rec' .ready none)) rfl (W.B1 (X (rec' .ready none)) s l j rfl hjn hi) (g2.junk J (hj s)) okL2 bI [.code (.seq (.cond (.tmp 9) .skip (.exit 0)) (.seq (.block 1 (.seq (.region I.i2 I.ops2 false) (.seq (.region I.i3 I.ops3 false) (.cond (.tmp 21) .ret .skip)))) (.region I.i4 I.ops4 false))), .inLoop I.loopC, .inBlock 0] calls rfl
      have hc := act_get (E := E3) (W.c1 l j) []
      simp only [SV.den] at hc
      rw [decide_eq_false (by omega)] at hc
      have hl3 : w3.heap[l]? = some (.loop (rec' .ready none)) := (g3.fix.fx l _ (loopX_at hne)).1
      have hout := iter_out I (b := bI) (bF := b) (a := ⟨(SV.denL E3 (W.T1 l j)).toArray, []⟩) (aM := aM) (l := l) (k := k) (cs := cs) rfl rfl rfl rfl hl3 (by simp [rec']) (todo := []) (.inl rfl)
      obtain ⟨v, w4, fr, h1, h2, h3⟩ := fin none s E3 H3 w3 (rec' .ready none) (.inl ⟨rfl, by rw [show n = j by omega]; exact hi⟩) (by simp [rec']) g3
      refine ⟨v, w4, fr, h1, ?_, h3⟩
      refine .head stepR_seq (Steps.trans st (.head stepR_seq (.head (stepR_cond hc) ?_)))
      refine .head (stepR_exit (id := 0) (k' := []) rfl) ?_
      exact hout.trans h2
    | succ d ih =>
      intro j s E2 H2 w2 J hd hjn hi g2
      have hjlt : j < n := by omega
      have okL2 : SV.OkL H2 (W.itL l j) := SV.OkL.mono g2.ext _ (okI l j)
      -- up to the call of yield
      obtain ⟨e, T, m, E3, H3, w3, ⟨rfl, rfl, rfl⟩, g3, ok3, st1⟩ := piece (C := X (rec' .ready none)) rfl (W.B1 (X (rec' .ready none)) s l j rfl hjn hi) (g2.junk J (hj s)) okL2 bI [.code (.seq (.cond (.tmp 9) .skip (.exit 0)) (.seq (.block 1 (.seq (.region I.i2 I.ops2 false) (.seq (.region I.i3 I.ops3 false) (.cond (.tmp 21) .ret .skip)))) (.region I.i4 I.ops4 false))), .inLoop I.loopC, .inBlock 0] calls rfl
      have hc := act_get (E := E3) (W.c1 l j) []
      simp only [SV.den] at hc
      rw [decide_eq_true (by omega)] at hc
      let K3 : List Item := [.code (.cond (.tmp 21) .ret .skip), .inBlock 1, .code (.region I.i4 I.ops4 false), .inLoop I.loopC, .inBlock 0]
      obtain ⟨e, T, m, E4, H4, w4, ⟨rfl, rfl, rfl⟩, g4, ok4, st2⟩ := piece (C := X (rec' .ready none)) rfl (W.B2 (X (rec' .ready none)) s l j rfl hjlt hi) g3 ok3 bI (.code (.seq (.region I.i3 I.ops3 false) (.cond (.tmp 21) .ret .skip)) :: K3.tail) calls rfl
      obtain ⟨T, m, E5, H5, w5, ⟨rfl, rfl⟩, g5, ok5, st3⟩ := piece_ops (C := X (rec' .ready none)) (Φ := fun _ T m => T = W.T3 l j ∧ m = mm s) rfl I.calm3 (W.B3 (X (rec' .ready none)) s l j rfl hjlt hi) g4 ok4 bI [8, 9] K3 calls rfl
      obtain ⟨c12, c13, c19⟩ := W.c3 l j
      have e12 := act_get (E := E5) c12 []
      have e13 := act_get (E := E5) c13 []
      have e19 := act_get (E := E5) c19 []
      simp only [SV.den] at e12 e13
      have hl5 : w5.heap[l]? = some (.loop (rec' .ready none)) := (g5.fix.fx l _ (loopX_at hne)).1
      have hy := run_yieldOp (I := I) (P := P) e12 e13 e19 hl5 rfl
      -- the round's frame
      have hpin5 : ∀ k, PIN ≤ k → E5.b k = E.b k := fun k hk => g5.fix.pin E.b rfl k hk
      let E6 : Env := ⟨E5.b, E5.v, E.j⟩
      have g6 : Good (X (rec' .ready none)) (mm s) E6 H5 w5 := g5.junk E.j (hj s)
      have hTF : SV.denL E6 tmps = SV.denL E tmps := kept_denL (E := E) (E' := E6) rfl hpin5 hkept
      have hTR : ((#[p0, p1].zip #[Value.int .i64 (z j), (wv j).den E5]).foldl (fun tmps (t, a) => tmps.setIfInBounds t a) TF) = (SV.denL E6 ((tmps.set p0 (.int .i64 (z j))).set p1 (wv j))).toArray := by
        simp [TF, ← hTF, denL_set, SV.den, W.indep j E6 E5]
      have okR : SV.OkL H5 ((tmps.set p0 (.int .i64 (z j))).set p1 (wv j)) := okL_putS (dst := some p1) (okL_putS (dst := some p0) (SV.OkL.mono g5.ext _ okT) (by simp [SV.Ok])) ((okW j hjlt).mono g5.ext)
      let itf : Frame := bI.atR ⟨(SV.denL E5 (W.T3 l j)).toArray, []⟩ (.inRegion I.ops3 [8, 9] :: K3)
      obtain ⟨e, T, m, E7, H7, w7, ⟨rfl, rfl, rfl⟩, g7, ok7, st7⟩ := piece (C := X (rec' .ready none)) rfl (assigned (X (rec' .ready none)) s j rfl hjlt hi) g6 okR (roundF fnF l) [.beginRound, .code body] (itf :: calls) rfl
      have hl7 : w7.heap[l]? = some (.loop (rec' .ready none)) := (g7.fix.fx l _ (loopX_at hne)).1
      have g8 : Good (X (rec' .busy none)) (am j s) E7 H7 (w7.putObj l (.loop (rec' .busy none))) := g7.record (by simp only [l]; omega) hne hfl
      obtain ⟨e, T9, m9, E9, H9, w9, ⟨hTr, hFa⟩, g9, ok9, st9⟩ := piece (C := X (rec' .busy none)) rfl (rounds (X (rec' .busy none)) s j rfl hjlt hi) g8 ok7 (roundF fnF l) [] (itf :: calls) rfl
      have hl9 : w9.heap[l]? = some (.loop (rec' .busy none)) := (g9.fix.fx l _ (loopX_at hne)).1
      rw [hTR] at hy
      have stR := steps_round (I := I) (P := P) (b := bI) (a := ⟨(SV.denL E5 (W.T3 l j)).toArray, []⟩) (k := K3) (cs := calls) (r := rec' .ready none) rfl hy st7 hl7 st9 hl9
      -- behind the round
      obtain ⟨J5, hJ5⟩ := maskIt (E := E5) (W.m3 l j)
      have pre : Steps P (lone (bI.atR ⟨(SV.denL ⟨E2.b, E2.v, J⟩ (W.itL l j)).toArray, []⟩ [.code I.loopC, .inLoop I.loopC, .inBlock 0]) calls w2) (lone itf calls w5) := by
        refine .head stepR_seq (Steps.trans st1 (.head stepR_seq (.head (stepR_cond hc) (.head stepR_skip (.head stepR_seq (.head stepR_block (.head stepR_seq (Steps.trans st2 (.head stepR_seq (.head stepR_region ?_))))))))))
        rw [show List.range I.ops3.size = [0, 1, 2, 3, 4, 5, 6, 7] ++ [8, 9] by rw [I.size3]; rfl]
        exact st3
      have back : ∀ (s' : σ) (q : Loop), MemTo m9 (mm s') → Good (X q) m9 E9 H9 (w9.putObj l (.loop q)) → ∃ E10 : Env, (∀ k, PIN ≤ k → E10.b k = E.b k) ∧ Good (X q) (mm s') E10 H9 (w9.putObj l (.loop q)) ∧
          (⟨(SV.denL E5 (W.T3 l j)).toArray, []⟩ : Act).put (some 20) (.bool e) = ⟨(SV.denL E10 ((W.itL l j).set 20 (.lb e))).toArray, []⟩ := by
        intro s' q hm g10
        obtain ⟨E10, h1, h2, h3⟩ := hm _ _ _ _ g10
        have hp10 : ∀ k, PIN ≤ k → E10.b k = E.b k := fun k hk => (h2 k hk).trans (g9.fix.pin E.b rfl k hk)
        refine ⟨⟨E10.b, E10.v, J5⟩, hp10, h3.junk J5 (hj s'), ?_⟩
        rw [← hJ5, ← kept_denL (E := ⟨E5.b, E5.v, J5⟩) (E' := ⟨E10.b, E10.v, J5⟩) rfl (fun k hk => (hp10 k hk).trans (hpin5 k hk).symm) (W.kept l j)]
        exact put_den [] ⟨E10.b, E10.v, J5⟩ (W.itL l j) (some 20) (.lb e)
      have okS : SV.OkL H9 ((W.itL l j).set 20 (.lb e)) := okL_putS (dst := some 20) (SV.OkL.mono g9.ext _ (okI l j)) (by simp [SV.Ok])
      cases e with
      | true =>
        obtain ⟨s', hm, hi'⟩ := hTr rfl
        obtain ⟨E10, hp10, g10, hput⟩ := back s' (rec' .ready none) hm (g9.record (by simp only [l]; omega) hne hfl)
        obtain ⟨T, m, E11, H11, w11, ⟨rfl, rfl⟩, g11, ok11, st11⟩ := piece_ops (C := X (rec' .ready none)) (Φ := fun _ T m => T = W.TC true l j ∧ m = mm s') rfl I.calm3 (W.Cc (X (rec' .ready none)) s' (mm s') true l j rfl) g10 okS bI [] K3 calls rfl
        have hcc := act_get (E := E11) (W.cC true l j) []
        simp only [SV.den] at hcc
        obtain ⟨e, T, m, E12, H12, w12, ⟨rfl, rfl, rfl⟩, g12, ok12, st12⟩ := piece (C := X (rec' .ready none)) rfl (W.Dd (X (rec' .ready none)) s' l j rfl hjlt) g11 ok11 bI [.inLoop I.loopC, .inBlock 0] calls rfl
        obtain ⟨J13, hJ13⟩ := maskIt (E := E12) (W.mD l j hjlt)
        obtain ⟨v, w13, fr, h1, h2, h3⟩ := ih (j + 1) s' E12 H12 w12 J13 (by omega) (by omega) hi' g12
        refine ⟨v, w13, fr, h1, ?_, h3⟩
        refine pre.trans (stR.trans ?_)
        rw [hput]
        refine Steps.trans st11 (.head stepR_region_end (.head (stepR_cond hcc) (.head stepR_skip (.head stepR_inBlock (Steps.trans st12 (.head stepR_inLoop ?_))))))
        rw [← hJ13]
        exact h2
      | false =>
        obtain ⟨s', hm, hs'⟩ := hFa rfl
        obtain ⟨E10, hp10, g10, hput⟩ := back s' (rec' .done (some .ret)) hm (g9.record (by simp only [l]; omega) hne hfl)
        obtain ⟨T, m, E11, H11, w11, ⟨rfl, rfl⟩, g11, ok11, st11⟩ := piece_ops (C := X (rec' .done (some .ret))) (Φ := fun _ T m => T = W.TC false l j ∧ m = mm s') rfl I.calm3 (W.Cc (X (rec' .done (some .ret))) s' (mm s') false l j rfl) g10 okS bI [] K3 calls rfl
        have hcc := act_get (E := E11) (W.cC false l j) []
        simp only [SV.den] at hcc
        have hl11 : w11.heap[l]? = some (.loop (rec' .done (some .ret))) := (g11.fix.fx l _ (loopX_at hne)).1
        have hout := iter_out I (b := bI) (bF := b) (a := ⟨(SV.denL E11 (W.TC false l j)).toArray, []⟩) (aM := aM) (l := l) (k := k) (cs := cs) rfl rfl rfl rfl hl11 (by simp [rec']) (todo := .code .ret :: K3.tail) (.inr ⟨_, rfl⟩)
        obtain ⟨v, w13, fr, h1, h2, h3⟩ := fin (some .ret) s' E11 H11 w11 (rec' .done (some .ret)) (.inr ⟨rfl, hs'⟩) (by simp [rec']) g11
        refine ⟨v, w13, fr, h1, ?_, h3⟩
        refine pre.trans (stR.trans ?_)
        rw [hput]
        refine Steps.trans st11 (.head stepR_region_end (.head (stepR_cond hcc) ?_))
        exact hout.trans h2
  -- the statement itself
  have hev := act_get (E := E) ht (marksOf C.x.df)
  simp only [SV.den, SV.denL] at hev
  have hev : (⟨TF, marksOf C.x.df⟩ : Act).eval (.tmp t) = .func (.func it) #[] (SV.denL E caps).toArray := hev
  have hcapv : SV.denL E (SV.raw (yieldV l) :: caps ++ List.replicate 20 .undef) = yieldV l :: (SV.denL E caps ++ List.replicate 20 Go.undef) := by
    simp [SV.denL_eq, SV.den]
  have hstep : Go.step P (lone (b.atR ⟨TF, marksOf C.x.df⟩ (.code (.rangeFunc (.tmp t) #[p0, p1] assign body) :: k)) cs w) =
      .next (lone (Frame.enter P it (#[yieldV l] ++ (SV.denL E caps).toArray) .normal) calls W1) := by
    refine stepR_rangeFunc (w₁ := W1) (d := { target := .fn (.func it) (SV.denL E caps).toArray, args := #[yieldV l] }) (w₁' := W1) ?_ ?_ ?_
    · rw [hb, hro]; exact run_enterLoop_outer _ _ _ _ _
    · simp only [resolve, rangeCall, hev, Deferred.ofValue]
      simp [Act.eval, yieldV]
    · have hbn : I.fn.body.isNone = false := by simp [I.body]
      simp only [invoke, callFunc, Sem.run_bind, run_program, Result.andThen_ok, I.hfn, I.name, hbn, Bool.false_eq_true, if_false, Sem.run_pure]
  have henter : Frame.enter P it (#[yieldV l] ++ (SV.denL E caps).toArray) .normal = bI.atR ⟨(SV.denL E (SV.raw (yieldV l) :: caps ++ List.replicate 20 .undef)).toArray, []⟩ [.code (.seq (.region I.i0 I.ops0 false) (.block 0 (.loop I.loopC)))] := by
    have h2 : (SV.denL E caps).length = 2 := by rw [SV.denL_eq, List.length_map, hlen]
    have h3 : #[yieldV l] ++ (SV.denL E caps).toArray ++ Array.replicate (23 - (#[yieldV l] ++ (SV.denL E caps).toArray).size) undef = (SV.denL E (SV.raw (yieldV l) :: caps ++ List.replicate 20 .undef)).toArray := by
      rw [hcapv]; simp [h2, ← List.toArray_replicate]
    rw [← h3]
    simp [Frame.enter, Frame.atR, I.hfn, I.body, I.ntmps, bI, IterCode.loopC]
  have okA : SV.OkL H (SV.raw (yieldV l) :: caps ++ List.replicate 20 .undef) := by
    refine okL_append ⟨by simp [SV.Ok], ?_⟩ (by rw [SV.OkL_iff]; intro x hx; rw [List.eq_of_mem_replicate hx]; simp [SV.Ok])
    have := (SV.OkL_iff _).1 okT _ (List.mem_of_getElem? ht)
    exact this.2
  obtain ⟨e, T, m, E3, H3, w3, ⟨rfl, rfl, rfl⟩, g3, ok3, stA⟩ := piece (C := X (rec' .ready none)) rfl (W.A (X (rec' .ready none)) s0 l rfl h0) gX okA bI [.code (.block 0 (.loop I.loopC))] calls rfl
  obtain ⟨JA, hJA⟩ := maskIt (E := E3) (W.mA l)
  obtain ⟨v, w4, fr, h1, h2, h3⟩ := claim n 0 s0 E3 H3 w3 JA (by omega) (Nat.zero_le _) h0 g3
  refine ⟨v, w4, fr, h1, .head hstep ?_, h3⟩
  rw [henter]
  refine .head stepR_seq (Steps.trans stA (.head stepR_block (.head stepR_loop ?_)))
  rw [← hJA]
  exact h2
end
end Sx
end
section
namespace Sx
open Go RowKit
def usesC : Code → List Nat
  | .seq a b => usesC a ++ usesC b
  | .cond x a b => (match x with | .tmp t => [t] | _ => []) ++ (usesC a ++ usesC b)
  | .block _ b => usesC b
  | .loop b => usesC b
  | .scope b => usesC b
  | .region _ ops _ => ops.toList.flatMap (usesOp ops)
  | .rangeFunc g _ a b => (match g with | .tmp t => [t] | _ => []) ++ (usesC a ++ usesC b)
  | _ => []

def atRange (c : Conf) : Bool :=
  match c.rest with
  | [] => match c.top.ri with
    | none => match c.top.todo with
      | .code (.rangeFunc ..) :: _ => true
      | _ => false
    | some _ => false
  | _ :: _ => false
def fgtQ (P : Program) (c : Conf) : Conf :=
  match c.top.todo with
  | .code (.rangeFunc g ps a b) :: k =>
    match forgetC (addNs (usesC (.rangeFunc g ps a b)) (liveI (retN P c.top.fn) k).1) c with
    | some c' => c'
    | none => c
  | _ => c

noncomputable def restQ (P : Program) (c : Conf) : Tree := nz (renC (fgtQ P c)) fun c => nz (sortC c) leafR

noncomputable def execQ (P : Program) (cs : Ctrs) (n : Nat) : Conf → Tree :=
  Nat.rec (motive := fun _ => Conf → Tree) (fun _ => .stuck) (fun _ ih c => match atRange c with
    | true => restQ P c
    | false => stepC P cs (fun _ => false) ih c) n

section
variable {P : Program} {C : Ctx} {R : Value → World → Prop}
theorem fgtQ_sound {c : Conf} (h : Runs P C (fgtQ P c) R) : Runs P C c R := by
  unfold fgtQ at h
  split at h
  · split at h
    · rename_i hc; exact forget_sound hc h
    · exact h
  · exact h

theorem execQ_sound {cs : Ctrs} (hcs : cs.Ok P) : ∀ (n : Nat) (c : Conf), (execQ P cs n c).holds P C R → Runs P C c R
  | 0, _, h => h.elim
  | n + 1, c, h => by
    have e : execQ P cs (n + 1) c = match atRange c with
      | true => restQ P c
      | false => stepC P cs (fun _ => false) (execQ P cs n) c := rfl
    rw [e] at h
    cases hr : atRange c with
    | true =>
      rw [hr] at h
      simp only [restQ, nz_eq, leafR_eq] at h
      exact fgtQ_sound (renC_sound (sortC_sound h))
    | false => rw [hr] at h; exact step_sound (U := fun _ => false) (ih := execQ P cs n) hcs (fun c h => execQ_sound hcs n c h) c h
def pinK (B k : Nat) : Nat :=
  match Nat.ble PIN k with
  | true => k
  | false => k + B

def pinC (B : Nat) (c : Conf) : Option Conf :=
  match Nat.ble PIN B && c.allKeys.all (fun k => Nat.blt k B) with
  | true => some (renWith (pinK B) c)
  | false => none

theorem pin_to (B : Nat) {c : Conf} (c' : Conf) (hc : pinC B c = some c') (h : Runs P C c' R) (hpn : C.x.pn = none := by rfl) : Runs P C c R := by
  unfold pinC at hc
  split at hc
  · rename_i hchk
    cases hc
    simp only [Bool.and_eq_true, List.all_eq_true] at hchk
    obtain ⟨hB, hall⟩ := hchk
    have hB : PIN ≤ B := Nat.le_of_ble_eq_true hB
    have hall : ∀ k, k ∈ c.allKeys → k < B := fun k hk => by simpa [Nat.blt_eq] using hall k hk
    intro E H w g ok
    have all : ∀ k, k ∈ SV.keysL c.top.tmps ∨ (∃ f, f ∈ c.rest ∧ k ∈ SV.keysL f.tmps) ∨ k ∈ Mem.named c.mem → k ∈ c.allKeys := fun k hk => by
      rcases hk with hk | ⟨f, hf, hk⟩ | hk
      · exact meet_mem (.inl (walkK_mem (meet_mem (.inr (List.mem_append_left _ hk)))))
      · exact meet_mem (.inl (walkK_mem (meet_mem (.inr (List.mem_append_right _ (List.mem_flatMap.2 ⟨f, hf, hk⟩))))))
      · exact meet_mem (.inr hk)
    let E' : Env := ⟨fun i => if B ≤ i then E.b (i - B) else E.b i, fun i => if B ≤ i then E.v (i - B) else E.v i, E.j⟩
    have cas : ∀ k, k ∈ c.allKeys → (PIN ≤ k ∧ pinK B k = k ∧ k < B) ∨ (k < PIN ∧ pinK B k = k + B) := fun k hk => by
      rcases Nat.lt_or_ge k PIN with hl | hl
      · right
        refine ⟨hl, ?_⟩
        have : Nat.ble PIN k = false := by
          cases hb : Nat.ble PIN k with
          | false => rfl
          | true => have := Nat.le_of_ble_eq_true hb; omega
        simp only [pinK, this]
      · left
        refine ⟨hl, ?_, hall k hk⟩
        simp only [pinK, Nat.ble_eq_true_of_le hl]
    have ren : ∀ k, k ∈ c.allKeys → Ren (pinK B) E E' k := fun k hk => by
      rcases cas k hk with ⟨h1, h2, h3⟩ | ⟨h1, h2⟩
      · simp only [Ren, E', h2, if_neg (Nat.not_le.2 h3), and_self]
      · simp only [Ren, E', h2, if_pos (Nat.le_add_left B k), Nat.add_sub_cancel, and_self]
    have inj : ∀ k j, k ∈ c.allKeys → j ∈ c.allKeys → pinK B k = pinK B j → k = j := fun k j hk hj e => by
      rcases cas k hk with ⟨h1, h2, h3⟩ | ⟨h1, h2⟩ <;> rcases cas j hj with ⟨g1, g2, g3⟩ | ⟨g1, g2⟩ <;> omega
    have named : ∀ k o, (k, o) ∈ c.mem → k ∈ c.allKeys ∧ ∀ j, j ∈ o.keys → j ∈ c.allKeys := fun k o hm => by
      refine ⟨all k (.inr (.inr ?_)), fun j hj => all j (.inr (.inr ?_))⟩
      · simp only [Mem.named, List.mem_flatMap]; exact ⟨_, hm, List.mem_cons_self⟩
      · simp only [Mem.named, List.mem_flatMap]; exact ⟨_, hm, List.mem_cons_of_mem _ hj⟩
    have gd : Good C (c.mem.map fun e => (pinK B e.1, e.2.ren (pinK B))) E' H w := by
      refine ⟨g.below, g.ext, g.fresh, g.cell, fun k o hko => ?_, ?_, fun x y hx hy hne hlx hly => ?_, ⟨g.fix.fx, g.fix.mark, g.fix.nodup, fun f hf => by rw [hpn] at hf; cases hf⟩⟩
      · obtain ⟨e, he, h1⟩ := List.mem_map.1 hko
        simp only [Prod.mk.injEq] at h1
        obtain ⟨rfl, rfl⟩ := h1
        obtain ⟨n1, n2⟩ := named e.1 e.2 he
        exact (g.own e.1 e.2 he).ren (E' := E') (show E'.j = E.j from rfl) (ren _ n1) (fun j hj => ren j (n2 j hj)) (fun es _ hk => keysOk_ren hk)
      · rw [List.pairwise_map]
        refine g.keys.imp_of_mem ?_
        intro a b ha hb hne e
        exact hne (inj _ _ (named a.1 a.2 ha).1 (named b.1 b.2 hb).1 e)
      · obtain ⟨a, ha, h1⟩ := List.mem_map.1 hx
        obtain ⟨b, hb, h2⟩ := List.mem_map.1 hy
        subst h1; subst h2
        simp only at hne hlx hly ⊢
        rw [(ren a.1 (named a.1 a.2 ha).1).1, (ren b.1 (named b.1 b.2 hb).1).1]
        exact g.apart a b ha hb (fun e => hne (by rw [e])) ((OBlk.lies_ren _ _).1 hlx) ((OBlk.lies_ren _ _).1 hly)
    have hr := h E' H w gd ⟨SV.okL_ren _ ok.1, fun f hf => by
      obtain ⟨f', hf', rfl⟩ := List.mem_map.1 hf
      exact SV.okL_ren _ (ok.2 f' hf')⟩
    have e1 : (renWith (pinK B) c).top.den E' = c.top.den E := by
      simp only [renWith, SFrm.den]
      rw [SV.denL_ren (E := E) (E' := E') rfl _ fun k hk => ren k (all k (.inl hk))]
    have e2 : (renWith (pinK B) c).rest.map (SFrm.den E') = c.rest.map (SFrm.den E) := by
      simp only [renWith, List.map_map]
      apply List.map_congr_left
      intro f hf
      simp only [Function.comp, SFrm.den]
      rw [SV.denL_ren (E := E) (E' := E') rfl _ fun k hk => ren k (all k (.inr (.inl ⟨f, hf, hk⟩)))]
    rw [e1, e2] at hr
    exact hr
  · cases hc

theorem holds_of {t t' : Tree} (e : t = t') (h : t'.holds P C R) : t.holds P C R := by rw [e]; exact h
theorem runs_perm {top : SFrm} {rest : List SFrm} {m : Mem} (m' : Mem) (hp : m'.Perm m) (h : Runs P C ⟨top, rest, m'⟩ R) : Runs P C ⟨top, rest, m⟩ R := fun E H w g ok => h E H w (g.perm hp) ok
theorem runs_sub {top : SFrm} {rest : List SFrm} {m : Mem} (m' : Mem) (hp : m'.Sublist m) (h : Runs P C ⟨top, rest, m'⟩ R) : Runs P C ⟨top, rest, m⟩ R := fun E H w g ok => h E H w (g.sub hp) ok
theorem MemTo.perm {m m' : Mem} (hp : m'.Perm m) : MemTo m m' := fun _ E _ _ g => ⟨E, rfl, fun _ _ => rfl, g.perm hp⟩
theorem MemTo.trans {a b c : Mem} (h : MemTo a b) (k : MemTo b c) : MemTo a c := fun C E H w g => by
  obtain ⟨E1, h1, h2, h3⟩ := h C E H w g
  obtain ⟨E2, k1, k2, k3⟩ := k C E1 H w h3
  exact ⟨E2, k1.trans h1, fun q hq => (k2 q hq).trans (h2 q hq), k3⟩
theorem perm_front {α : Type} (a b c : List α) : (b ++ (a ++ c)).Perm (a ++ (b ++ c)) := by
  rw [← List.append_assoc, ← List.append_assoc]
  exact List.Perm.append_right c List.perm_append_comm
def moveK (a b k : Nat) : Nat :=
  match Nat.beq k a with
  | true => b
  | false => k
theorem MemTo.move {m : Mem} (a b : Nat) (hab : (Nat.blt a PIN && Nat.blt b PIN && !(m.named.contains b)) = true) : MemTo m (m.map fun e => (moveK a b e.1, e.2.ren (moveK a b))) := by
  simp only [Bool.and_eq_true, Bool.not_eq_true', Nat.blt_eq] at hab
  obtain ⟨⟨ha, hb⟩, hno⟩ := hab
  have hno : b ∉ m.named := fun h => by
    have := List.contains_iff_mem.2 h
    rw [hno] at this; cases this
  have e1 : ∀ k, k ≠ a → moveK a b k = k := fun k h => by
    have : Nat.beq k a = false := by
      cases hb : Nat.beq k a with
      | false => rfl
      | true => exact absurd (Nat.eq_of_beq_eq_true hb) h
    simp only [moveK, this]
  have e2 : moveK a b a = b := by simp only [moveK, Nat.beq_refl]
  refine MemTo.ren _ (fun k hk => e1 k (by omega)) (fun k _ hk => ?_) fun k j hk hj e => ?_
  · by_cases h : k = a
    · subst h; rw [e2]; exact hb
    · rw [e1 k h]; exact hk
  · by_cases h : k = a <;> by_cases h' : j = a
    · rw [h, h']
    · subst h; rw [e2, e1 j h'] at e; exact absurd (e ▸ hj) hno
    · subst h'; rw [e2, e1 k h] at e; exact absurd (e ▸ hk) hno
    · rw [e1 k h, e1 j h'] at e; exact e
theorem ret_marked {v : SV} {D : Nat} (h : (Tree.ret v).holds P C R) : (Tree.ret v).holds P (C.marked D) R := h
end
end Sx
end
section
open Go Go.Proofs Sx
namespace Go.Proofs.Ytdiekahpofifeaa
set_option maxRecDepth 100000
set_option maxHeartbeats 0
noncomputable def icode : IterCode Try.prog 75 where
  fn := Try.f75
  hfn := by kernel_rfl
  name := by kernel_rfl
  ntmps := by kernel_rfl
  results := by kernel_rfl
  i0 := 0
  i1 := 1
  i2 := 2
  i3 := 3
  i4 := 4
  ops0 := opsAt Try.prog 75 [0]
  ops1 := opsAt Try.prog 75 [1, 0, 0, 0]
  ops2 := opsAt Try.prog 75 [1, 0, 0, 1, 1, 0, 0, 0]
  ops3 := opsAt Try.prog 75 [1, 0, 0, 1, 1, 0, 0, 1, 0]
  ops4 := opsAt Try.prog 75 [1, 0, 0, 1, 1, 1]
  body := by kernel_rfl
  calm3 := by kernel_rfl
  size3 := by kernel_rfl
  o8 := (opsAt Try.prog 75 [1, 0, 0, 1, 1, 0, 0, 1, 0])[8]!
  at8 := by kernel_rfl
  tys := #[3, 55]
  op8 := by kernel_rfl
  dst8 := by kernel_rfl
  guard8 := by kernel_rfl


noncomputable def c1L (a : D) (l : Nat) (x : Int) : List SV := mkJ 0 [(0, SV.raw (yieldV l)), (1, SV.ptr 100003 0), (2, SV.ptr 100004 0), (6, SV.dat a), (7, SV.int IntKind.i64 (D.len a : Int)), (8, SV.int IntKind.i64 x)] 0 23
noncomputable def c1A (a : D) (l : Nat) : List SV := mkU [(0, SV.raw (yieldV l)), (1, SV.ptr 100003 0), (2, SV.ptr 100004 0), (6, SV.dat a), (7, SV.int IntKind.i64 (D.len a : Int)), (8, SV.int IntKind.i64 0)] 0 23
noncomputable def c1T1 (a : D) (l : Nat) (x : Int) : List SV := mkJ 0 [(0, SV.raw (yieldV l)), (1, SV.ptr 100003 0), (2, SV.ptr 100004 0), (6, SV.dat a), (7, SV.int IntKind.i64 (D.len a : Int)), (8, SV.int IntKind.i64 x), (9, SV.bool (decide (x < (D.len a : Int))))] 0 23
noncomputable def c1T2 (a : D) (l : Nat) (x : Int) : List SV := mkJ 0 [(5, SV.int IntKind.i64 (D.getInt a (Int.toNat x) 0)), (0, SV.raw (yieldV l)), (1, SV.ptr 100003 0), (2, SV.ptr 100004 0), (6, SV.dat a), (7, SV.int IntKind.i64 (D.len a : Int)), (8, SV.int IntKind.i64 x), (9, SV.bool (decide (x < (D.len a : Int)))), (10, SV.elt a (Int.toNat x) 0), (11, SV.int IntKind.i64 (D.getInt a (Int.toNat x) 0))] 0 23
noncomputable def c1T3 (hb a : D) (l : Nat) (x : Int) : List SV := mkJ 0 [(5, SV.int IntKind.i64 (D.getInt a (Int.toNat x) 0)), (0, SV.raw (yieldV l)), (1, SV.ptr 100003 0), (2, SV.ptr 100004 0), (6, SV.dat a), (7, SV.int IntKind.i64 (D.len a : Int)), (8, SV.int IntKind.i64 x), (9, SV.bool (decide (x < (D.len a : Int)))), (10, SV.elt a (Int.toNat x) 0), (11, SV.int IntKind.i64 (D.getInt a (Int.toNat x) 0)), (12, SV.raw (yieldV l)), (13, SV.int IntKind.i64 (D.getInt a (Int.toNat x) 0)), (14, SV.ptr 100004 0), (15, SV.ptr 100004 1), (16, SV.dat hb), (17, SV.int IntKind.i64 (D.getInt a (Int.toNat x) 0)), (18, SV.elt hb (Int.toNat (D.getInt a (Int.toNat x) 0)) 0), (19, (SV.agg [SV.int IntKind.i64 (D.getInt hb (Int.toNat (D.getInt a (Int.toNat x) 0)) 0), SV.int IntKind.i64 (D.getInt hb (Int.toNat (D.getInt a (Int.toNat x) 0)) 1), SV.dat (D.cell hb (Int.toNat (D.getInt a (Int.toNat x) 0)) 2)]))] 0 23
noncomputable def c1TC (a : D) (e : Bool) (l : Nat) (x : Int) : List SV := mkJ 0 [(0, SV.raw (yieldV l)), (1, SV.ptr 100003 0), (2, SV.ptr 100004 0), (6, SV.dat a), (7, SV.int IntKind.i64 (D.len a : Int)), (8, SV.int IntKind.i64 x), (20, SV.lb e), (21, SV.lb (!e))] 0 23
noncomputable def c1TD (a : D) (l : Nat) (x : Int) : List SV := mkJ 0 [(0, SV.raw (yieldV l)), (1, SV.ptr 100003 0), (2, SV.ptr 100004 0), (6, SV.dat a), (7, SV.int IntKind.i64 (D.len a : Int)), (8, SV.int IntKind.i64 (IntKind.wrap IntKind.i64 (x + 1))), (20, SV.lb true), (21, SV.lb false), (22, SV.int IntKind.i64 (IntKind.wrap IntKind.i64 (x + 1)))] 0 23
section
variable (ha hb hc i o a : D) (l : Nat) (x : Int) (e : Bool) (r : Mem)
theorem c1_A : execT Try.prog [] (fun _ => false) 4 ⟨⟨75, none, none, [.code (cAt Try.prog 75 [0])], SV.raw (yieldV l) :: [SV.ptr 100003 0, SV.ptr 100004 0] ++ List.replicate 20 .undef⟩, [], ((100003, OBlk.cells 22 [SV.dat a]) :: (100004, OBlk.cells 81 [SV.dat ha, SV.dat hb, SV.dat hc, SV.dat i, SV.dat o]) :: r)⟩ = .leaf ⟨⟨75, some (opsAt Try.prog 75 [0], []), none, [], c1A a l⟩, [], ((100003, OBlk.cells 22 [SV.dat a]) :: (100004, OBlk.cells 81 [SV.dat ha, SV.dat hb, SV.dat hc, SV.dat i, SV.dat o]) :: r)⟩ := by kernel_rfl
theorem c1_B1 : execT Try.prog [] (fun _ => false) 2 ⟨⟨75, none, none, [.code (cAt Try.prog 75 [1, 0, 0, 0])], c1L a l x⟩, [], ((100003, OBlk.cells 22 [SV.dat a]) :: (100004, OBlk.cells 81 [SV.dat ha, SV.dat hb, SV.dat hc, SV.dat i, SV.dat o]) :: r)⟩ = .leaf ⟨⟨75, some (opsAt Try.prog 75 [1, 0, 0, 0], []), none, [], c1T1 a l x⟩, [], ((100003, OBlk.cells 22 [SV.dat a]) :: (100004, OBlk.cells 81 [SV.dat ha, SV.dat hb, SV.dat hc, SV.dat i, SV.dat o]) :: r)⟩ := by kernel_rfl
theorem c1_B2 : execT Try.prog [] (fun _ => false) 4 ⟨⟨75, none, none, [.code (cAt Try.prog 75 [1, 0, 0, 1, 1, 0, 0, 0])], c1T1 a l x⟩, [], ((100003, OBlk.cells 22 [SV.dat a]) :: (100004, OBlk.cells 81 [SV.dat ha, SV.dat hb, SV.dat hc, SV.dat i, SV.dat o]) :: r)⟩ = .need (0 ≤ x ∧ x < (D.len a : Int) ∧ D.sz a = 1) (.need (D.HasCell a (Int.toNat x) 0 (FT.int IntKind.i64)) (.leaf ⟨⟨75, some (opsAt Try.prog 75 [1, 0, 0, 1, 1, 0, 0, 0], []), none, [], c1T2 a l x⟩, [], ((100003, OBlk.cells 22 [SV.dat a]) :: (100004, OBlk.cells 81 [SV.dat ha, SV.dat hb, SV.dat hc, SV.dat i, SV.dat o]) :: r)⟩)) := by kernel_rfl
theorem c1_B3 : execT Try.prog [] (fun _ => false) 8 ⟨⟨75, some (opsAt Try.prog 75 [1, 0, 0, 1, 1, 0, 0, 1, 0], [0, 1, 2, 3, 4, 5, 6, 7]), none, [], c1T2 a l x⟩, [], ((100003, OBlk.cells 22 [SV.dat a]) :: (100004, OBlk.cells 81 [SV.dat ha, SV.dat hb, SV.dat hc, SV.dat i, SV.dat o]) :: r)⟩ = .need (0 ≤ (D.getInt a (Int.toNat x) 0) ∧ (D.getInt a (Int.toNat x) 0) < (D.len hb : Int) ∧ D.sz hb = 3) (.need (D.HasCells hb (Int.toNat (D.getInt a (Int.toNat x) 0)) 0 [FT.int IntKind.i64, FT.int IntKind.i64, FT.slc]) (.leaf ⟨⟨75, some (opsAt Try.prog 75 [1, 0, 0, 1, 1, 0, 0, 1, 0], []), none, [], c1T3 hb a l x⟩, [], ((100003, OBlk.cells 22 [SV.dat a]) :: (100004, OBlk.cells 81 [SV.dat ha, SV.dat hb, SV.dat hc, SV.dat i, SV.dat o]) :: r)⟩)) := by kernel_rfl
theorem c1_C (m : Mem) : execT Try.prog [] (fun _ => false) 1 ⟨⟨75, some (opsAt Try.prog 75 [1, 0, 0, 1, 1, 0, 0, 1, 0], [9]), none, [], (c1L a l x).set 20 (.lb e)⟩, [], m⟩ = .leaf ⟨⟨75, some (opsAt Try.prog 75 [1, 0, 0, 1, 1, 0, 0, 1, 0], []), none, [], c1TC a e l x⟩, [], m⟩ := by cases e <;> kernel_rfl
theorem c1_D : execT Try.prog [] (fun _ => false) 3 ⟨⟨75, none, none, [.code (cAt Try.prog 75 [1, 0, 0, 1, 1, 1])], c1TC a true l x⟩, [], ((100003, OBlk.cells 22 [SV.dat a]) :: (100004, OBlk.cells 81 [SV.dat ha, SV.dat hb, SV.dat hc, SV.dat i, SV.dat o]) :: r)⟩ = .leaf ⟨⟨75, some (opsAt Try.prog 75 [1, 0, 0, 1, 1, 1], []), none, [], c1TD a l x⟩, [], ((100003, OBlk.cells 22 [SV.dat a]) :: (100004, OBlk.cells 81 [SV.dat ha, SV.dat hb, SV.dat hc, SV.dat i, SV.dat o]) :: r)⟩ := by kernel_rfl
end
noncomputable def c1W {σ : Type} {ha hb hc i o a : D} (r : σ → Mem) (Inv : Nat → σ → Prop) (hset : a.Is Int) (hw : hb.Is Wt) (hlen : a.len ≤ 1048576) (hin : ∀ j, j < a.len → 0 ≤ a.getInt (Int.toNat (j : Int)) 0 ∧ a.getInt (Int.toNat (j : Int)) 0 < (hb.len : Int)) :
    IterWalk icode (fun s => (100003, OBlk.cells 22 [SV.dat a]) :: (100004, OBlk.cells 81 [SV.dat ha, SV.dat hb, SV.dat hc, SV.dat i, SV.dat o]) :: r s) a.len (fun j => a.getInt (Int.toNat (j : Int)) 0) (fun j => wvH hb (a.getInt (Int.toNat (j : Int)) 0)) Inv [SV.ptr 100003 0, SV.ptr 100004 0] where
  itL l j := c1L a l j
  TA l := c1A a l
  T1 l j := c1T1 a l j
  T2 l j := c1T2 a l j
  T3 l j := c1T3 hb a l j
  TC e l j := c1TC a e l j
  TD l j := c1TD a l j
  kept _ _ := rfl
  okL C E H w s g l j := by
    obtain ⟨_, _, _, h⟩ := g.own 100003 _ List.mem_cons_self
    simp [c1L, mkJ, slotS, SV.OkL, SV.Ok, h.1.1, h.1.2]
  okw C E H w s g j hj := by
    obtain ⟨_, _, _, h⟩ := g.own 100004 _ (List.mem_cons_of_mem _ List.mem_cons_self)
    have hz := hin j hj
    exact wvH_ok hw h.2.1.1 hz.1 hz.2
  A C s l hrd _ := by
    apply execT_sound (noCtr _) (fun _ => false) 4
    refine holds_of (c1_A ha hb hc i o a l (r s)) ?_
    exact end_ops hrd ⟨rfl, rfl, rfl⟩
  mA l := ⟨rfl, rfl⟩
  B1 C s l j hrd _ _ := by
    apply execT_sound (noCtr _) (fun _ => false) 2
    refine holds_of (c1_B1 ha hb hc i o a l j (r s)) ?_
    exact end_ops hrd ⟨rfl, rfl, rfl⟩
  c1 l j := rfl
  B2 C s l j hrd hj _ := by
    apply execT_sound (noCtr _) (fun _ => false) 4
    refine holds_of (c1_B2 ha hb hc i o a l j (r s)) ?_
    have hj' : j < (a.to Int).length := by rw [← D.Is.length (α := Int)]; exact hj
    obtain ⟨c1, c2, _⟩ := int_at hset hj'
    exact ⟨c1, c2, end_ops hrd ⟨rfl, rfl, rfl⟩⟩
  B3 C s l j hrd hj _ := by
    apply execT_sound (noCtr _) (fun _ => false) 8
    refine holds_of (c1_B3 ha hb hc i o a l j (r s)) ?_
    have hz := hin j hj
    have hi : Int.toNat (a.getInt (Int.toNat (j : Int)) 0) < (hb.to Wt).length := by rw [← D.Is.length (α := Wt)]; omega
    exact ⟨⟨hz.1, hz.2, hw.size hi⟩, (wt_cell hw hi).1, end_ops hrd ⟨rfl, rfl, rfl⟩⟩
  c3 l j := ⟨rfl, rfl, rfl⟩
  m3 l j := ⟨rfl, rfl⟩
  Cc C s m e l j hrd := by
    apply execT_sound (noCtr _) (fun _ => false) 1
    refine holds_of (c1_C a l j e m) ?_
    exact end_ops hrd ⟨rfl, rfl, rfl⟩
  cC e l j := rfl
  Dd C s l j hrd _ := by
    apply execT_sound (noCtr _) (fun _ => false) 3
    refine holds_of (c1_D ha hb hc i o a l j (r s)) ?_
    exact end_ops hrd ⟨rfl, rfl, rfl⟩
  mD l j hj := by
    refine ⟨?_, rfl⟩
    have e : maskT 0 liveIt 0 (c1TD a l j) = c1L a l (IntKind.wrap IntKind.i64 ((j : Int) + 1)) := rfl
    rw [e, wrap_succ hj hlen]
  indep j E E' := by simp [wvH, SV.den, SV.denL]


noncomputable def c2L (a : D) (l : Nat) (x : Int) : List SV := mkJ 0 [(0, SV.raw (yieldV l)), (1, SV.ptr 200005 0), (2, SV.ptr 200006 0), (6, SV.dat a), (7, SV.int IntKind.i64 (D.len a : Int)), (8, SV.int IntKind.i64 x)] 0 23
noncomputable def c2A (a : D) (l : Nat) : List SV := mkU [(0, SV.raw (yieldV l)), (1, SV.ptr 200005 0), (2, SV.ptr 200006 0), (6, SV.dat a), (7, SV.int IntKind.i64 (D.len a : Int)), (8, SV.int IntKind.i64 0)] 0 23
noncomputable def c2T1 (a : D) (l : Nat) (x : Int) : List SV := mkJ 0 [(0, SV.raw (yieldV l)), (1, SV.ptr 200005 0), (2, SV.ptr 200006 0), (6, SV.dat a), (7, SV.int IntKind.i64 (D.len a : Int)), (8, SV.int IntKind.i64 x), (9, SV.bool (decide (x < (D.len a : Int))))] 0 23
noncomputable def c2T2 (a : D) (l : Nat) (x : Int) : List SV := mkJ 0 [(5, SV.int IntKind.i64 (D.getInt a (Int.toNat x) 0)), (0, SV.raw (yieldV l)), (1, SV.ptr 200005 0), (2, SV.ptr 200006 0), (6, SV.dat a), (7, SV.int IntKind.i64 (D.len a : Int)), (8, SV.int IntKind.i64 x), (9, SV.bool (decide (x < (D.len a : Int)))), (10, SV.elt a (Int.toNat x) 0), (11, SV.int IntKind.i64 (D.getInt a (Int.toNat x) 0))] 0 23
noncomputable def c2T3 (hb a : D) (l : Nat) (x : Int) : List SV := mkJ 0 [(5, SV.int IntKind.i64 (D.getInt a (Int.toNat x) 0)), (0, SV.raw (yieldV l)), (1, SV.ptr 200005 0), (2, SV.ptr 200006 0), (6, SV.dat a), (7, SV.int IntKind.i64 (D.len a : Int)), (8, SV.int IntKind.i64 x), (9, SV.bool (decide (x < (D.len a : Int)))), (10, SV.elt a (Int.toNat x) 0), (11, SV.int IntKind.i64 (D.getInt a (Int.toNat x) 0)), (12, SV.raw (yieldV l)), (13, SV.int IntKind.i64 (D.getInt a (Int.toNat x) 0)), (14, SV.ptr 200006 0), (15, SV.ptr 200006 1), (16, SV.dat hb), (17, SV.int IntKind.i64 (D.getInt a (Int.toNat x) 0)), (18, SV.elt hb (Int.toNat (D.getInt a (Int.toNat x) 0)) 0), (19, (SV.agg [SV.int IntKind.i64 (D.getInt hb (Int.toNat (D.getInt a (Int.toNat x) 0)) 0), SV.int IntKind.i64 (D.getInt hb (Int.toNat (D.getInt a (Int.toNat x) 0)) 1), SV.dat (D.cell hb (Int.toNat (D.getInt a (Int.toNat x) 0)) 2)]))] 0 23
noncomputable def c2TC (a : D) (e : Bool) (l : Nat) (x : Int) : List SV := mkJ 0 [(0, SV.raw (yieldV l)), (1, SV.ptr 200005 0), (2, SV.ptr 200006 0), (6, SV.dat a), (7, SV.int IntKind.i64 (D.len a : Int)), (8, SV.int IntKind.i64 x), (20, SV.lb e), (21, SV.lb (!e))] 0 23
noncomputable def c2TD (a : D) (l : Nat) (x : Int) : List SV := mkJ 0 [(0, SV.raw (yieldV l)), (1, SV.ptr 200005 0), (2, SV.ptr 200006 0), (6, SV.dat a), (7, SV.int IntKind.i64 (D.len a : Int)), (8, SV.int IntKind.i64 (IntKind.wrap IntKind.i64 (x + 1))), (20, SV.lb true), (21, SV.lb false), (22, SV.int IntKind.i64 (IntKind.wrap IntKind.i64 (x + 1)))] 0 23
section
variable (ha hb hc i o a : D) (l : Nat) (x : Int) (e : Bool) (r : Mem)
theorem c2_A : execT Try.prog [] (fun _ => false) 4 ⟨⟨75, none, none, [.code (cAt Try.prog 75 [0])], SV.raw (yieldV l) :: [SV.ptr 200005 0, SV.ptr 200006 0] ++ List.replicate 20 .undef⟩, [], ((200005, OBlk.cells 22 [SV.dat a]) :: (200006, OBlk.cells 81 [SV.dat ha, SV.dat hb, SV.dat hc, SV.dat i, SV.dat o]) :: r)⟩ = .leaf ⟨⟨75, some (opsAt Try.prog 75 [0], []), none, [], c2A a l⟩, [], ((200005, OBlk.cells 22 [SV.dat a]) :: (200006, OBlk.cells 81 [SV.dat ha, SV.dat hb, SV.dat hc, SV.dat i, SV.dat o]) :: r)⟩ := by kernel_rfl
theorem c2_B1 : execT Try.prog [] (fun _ => false) 2 ⟨⟨75, none, none, [.code (cAt Try.prog 75 [1, 0, 0, 0])], c2L a l x⟩, [], ((200005, OBlk.cells 22 [SV.dat a]) :: (200006, OBlk.cells 81 [SV.dat ha, SV.dat hb, SV.dat hc, SV.dat i, SV.dat o]) :: r)⟩ = .leaf ⟨⟨75, some (opsAt Try.prog 75 [1, 0, 0, 0], []), none, [], c2T1 a l x⟩, [], ((200005, OBlk.cells 22 [SV.dat a]) :: (200006, OBlk.cells 81 [SV.dat ha, SV.dat hb, SV.dat hc, SV.dat i, SV.dat o]) :: r)⟩ := by kernel_rfl
theorem c2_B2 : execT Try.prog [] (fun _ => false) 4 ⟨⟨75, none, none, [.code (cAt Try.prog 75 [1, 0, 0, 1, 1, 0, 0, 0])], c2T1 a l x⟩, [], ((200005, OBlk.cells 22 [SV.dat a]) :: (200006, OBlk.cells 81 [SV.dat ha, SV.dat hb, SV.dat hc, SV.dat i, SV.dat o]) :: r)⟩ = .need (0 ≤ x ∧ x < (D.len a : Int) ∧ D.sz a = 1) (.need (D.HasCell a (Int.toNat x) 0 (FT.int IntKind.i64)) (.leaf ⟨⟨75, some (opsAt Try.prog 75 [1, 0, 0, 1, 1, 0, 0, 0], []), none, [], c2T2 a l x⟩, [], ((200005, OBlk.cells 22 [SV.dat a]) :: (200006, OBlk.cells 81 [SV.dat ha, SV.dat hb, SV.dat hc, SV.dat i, SV.dat o]) :: r)⟩)) := by kernel_rfl
theorem c2_B3 : execT Try.prog [] (fun _ => false) 8 ⟨⟨75, some (opsAt Try.prog 75 [1, 0, 0, 1, 1, 0, 0, 1, 0], [0, 1, 2, 3, 4, 5, 6, 7]), none, [], c2T2 a l x⟩, [], ((200005, OBlk.cells 22 [SV.dat a]) :: (200006, OBlk.cells 81 [SV.dat ha, SV.dat hb, SV.dat hc, SV.dat i, SV.dat o]) :: r)⟩ = .need (0 ≤ (D.getInt a (Int.toNat x) 0) ∧ (D.getInt a (Int.toNat x) 0) < (D.len hb : Int) ∧ D.sz hb = 3) (.need (D.HasCells hb (Int.toNat (D.getInt a (Int.toNat x) 0)) 0 [FT.int IntKind.i64, FT.int IntKind.i64, FT.slc]) (.leaf ⟨⟨75, some (opsAt Try.prog 75 [1, 0, 0, 1, 1, 0, 0, 1, 0], []), none, [], c2T3 hb a l x⟩, [], ((200005, OBlk.cells 22 [SV.dat a]) :: (200006, OBlk.cells 81 [SV.dat ha, SV.dat hb, SV.dat hc, SV.dat i, SV.dat o]) :: r)⟩)) := by kernel_rfl
theorem c2_C (m : Mem) : execT Try.prog [] (fun _ => false) 1 ⟨⟨75, some (opsAt Try.prog 75 [1, 0, 0, 1, 1, 0, 0, 1, 0], [9]), none, [], (c2L a l x).set 20 (.lb e)⟩, [], m⟩ = .leaf ⟨⟨75, some (opsAt Try.prog 75 [1, 0, 0, 1, 1, 0, 0, 1, 0], []), none, [], c2TC a e l x⟩, [], m⟩ := by cases e <;> kernel_rfl
theorem c2_D : execT Try.prog [] (fun _ => false) 3 ⟨⟨75, none, none, [.code (cAt Try.prog 75 [1, 0, 0, 1, 1, 1])], c2TC a true l x⟩, [], ((200005, OBlk.cells 22 [SV.dat a]) :: (200006, OBlk.cells 81 [SV.dat ha, SV.dat hb, SV.dat hc, SV.dat i, SV.dat o]) :: r)⟩ = .leaf ⟨⟨75, some (opsAt Try.prog 75 [1, 0, 0, 1, 1, 1], []), none, [], c2TD a l x⟩, [], ((200005, OBlk.cells 22 [SV.dat a]) :: (200006, OBlk.cells 81 [SV.dat ha, SV.dat hb, SV.dat hc, SV.dat i, SV.dat o]) :: r)⟩ := by kernel_rfl
end
noncomputable def c2W {σ : Type} {ha hb hc i o a : D} (r : σ → Mem) (Inv : Nat → σ → Prop) (hset : a.Is Int) (hw : hb.Is Wt) (hlen : a.len ≤ 1048576) (hin : ∀ j, j < a.len → 0 ≤ a.getInt (Int.toNat (j : Int)) 0 ∧ a.getInt (Int.toNat (j : Int)) 0 < (hb.len : Int)) :
    IterWalk icode (fun s => (200005, OBlk.cells 22 [SV.dat a]) :: (200006, OBlk.cells 81 [SV.dat ha, SV.dat hb, SV.dat hc, SV.dat i, SV.dat o]) :: r s) a.len (fun j => a.getInt (Int.toNat (j : Int)) 0) (fun j => wvH hb (a.getInt (Int.toNat (j : Int)) 0)) Inv [SV.ptr 200005 0, SV.ptr 200006 0] where
  itL l j := c2L a l j
  TA l := c2A a l
  T1 l j := c2T1 a l j
  T2 l j := c2T2 a l j
  T3 l j := c2T3 hb a l j
  TC e l j := c2TC a e l j
  TD l j := c2TD a l j
  kept _ _ := rfl
  okL C E H w s g l j := by
    obtain ⟨_, _, _, h⟩ := g.own 200005 _ List.mem_cons_self
    simp [c2L, mkJ, slotS, SV.OkL, SV.Ok, h.1.1, h.1.2]
  okw C E H w s g j hj := by
    obtain ⟨_, _, _, h⟩ := g.own 200006 _ (List.mem_cons_of_mem _ List.mem_cons_self)
    have hz := hin j hj
    exact wvH_ok hw h.2.1.1 hz.1 hz.2
  A C s l hrd _ := by
    apply execT_sound (noCtr _) (fun _ => false) 4
    refine holds_of (c2_A ha hb hc i o a l (r s)) ?_
    exact end_ops hrd ⟨rfl, rfl, rfl⟩
  mA l := ⟨rfl, rfl⟩
  B1 C s l j hrd _ _ := by
    apply execT_sound (noCtr _) (fun _ => false) 2
    refine holds_of (c2_B1 ha hb hc i o a l j (r s)) ?_
    exact end_ops hrd ⟨rfl, rfl, rfl⟩
  c1 l j := rfl
  B2 C s l j hrd hj _ := by
    apply execT_sound (noCtr _) (fun _ => false) 4
    refine holds_of (c2_B2 ha hb hc i o a l j (r s)) ?_
    have hj' : j < (a.to Int).length := by rw [← D.Is.length (α := Int)]; exact hj
    obtain ⟨c1, c2, _⟩ := int_at hset hj'
    exact ⟨c1, c2, end_ops hrd ⟨rfl, rfl, rfl⟩⟩
  B3 C s l j hrd hj _ := by
    apply execT_sound (noCtr _) (fun _ => false) 8
    refine holds_of (c2_B3 ha hb hc i o a l j (r s)) ?_
    have hz := hin j hj
    have hi : Int.toNat (a.getInt (Int.toNat (j : Int)) 0) < (hb.to Wt).length := by rw [← D.Is.length (α := Wt)]; omega
    exact ⟨⟨hz.1, hz.2, hw.size hi⟩, (wt_cell hw hi).1, end_ops hrd ⟨rfl, rfl, rfl⟩⟩
  c3 l j := ⟨rfl, rfl, rfl⟩
  m3 l j := ⟨rfl, rfl⟩
  Cc C s m e l j hrd := by
    apply execT_sound (noCtr _) (fun _ => false) 1
    refine holds_of (c2_C a l j e m) ?_
    exact end_ops hrd ⟨rfl, rfl, rfl⟩
  cC e l j := rfl
  Dd C s l j hrd _ := by
    apply execT_sound (noCtr _) (fun _ => false) 3
    refine holds_of (c2_D ha hb hc i o a l j (r s)) ?_
    exact end_ops hrd ⟨rfl, rfl, rfl⟩
  mD l j hj := by
    refine ⟨?_, rfl⟩
    have e : maskT 0 liveIt 0 (c2TD a l j) = c2L a l (IntKind.wrap IntKind.i64 ((j : Int) + 1)) := rfl
    rw [e, wrap_succ hj hlen]
  indep j E E' := by simp [wvH, SV.den, SV.denL]

end Go.Proofs.Ytdiekahpofifeaa
end
