/- Layer 32: CommitRefuses, its loops. -/
import Derived.KernelRfl
import Derived.Test.YtnfkkmdbaknnlaaW12gtoW24c
set_option linter.all false
open Go Go.Proofs Sx
namespace Go.Proofs.Ytnfkkmdbaknnlaa
set_option maxRecDepth 100000
set_option maxHeartbeats 0
section
variable (l : D) (e s st ap te ts tst tap i k : Int) (d : D) (h1 h2 : Hd) (r1 r2 : List (List D))
theorem a_11 : goS Try.prog ctL (fun _ => false) [(38, 2), (38, 246)] 400 (unroll (A11 l i ⟨e, s, d, st, ap⟩ ⟨te, ts, tst, tap⟩ h1 h2 r1 r2)) =
  Tree.br (decide (i < (↑(D.len l) : Int)))
    (Tree.all fun hs =>
      Tree.need (0 ≤ i ∧ i < (↑(D.len l) : Int) ∧ D.sz l = 2)
        (Tree.need (D.HasCells l (Int.toNat i) 0 [FT.int IntKind.u8, FT.int IntKind.u8])
          (Tree.leaf
            (Conf.mk
              (SFrm.mk 38 none none [Item.code (cAt Try.prog 38 [0]), Item.code (cAt Try.prog 38 [1])]
                (mkJ 1
                  [(0,
                      SV.agg
                        [SV.int IntKind.i64 e, SV.int IntKind.i64 s, SV.dat d, SV.int IntKind.i64 st,
                          SV.int IntKind.i64 ap, SV.int IntKind.i64 te, SV.int IntKind.i64 ts, SV.int IntKind.i64 tst,
                          SV.int IntKind.i64 tap, SV.vec 0, SV.vec 1, SV.lb true]),
                    (1,
                      SV.agg
                        [SV.int IntKind.u8 (D.getInt l (Int.toNat i) 0), SV.int IntKind.u8 (D.getInt l (Int.toNat i) 1)])]
                  0 252))
              [SFrm.mk 11 (some (opsAt Try.prog 11 [1, 1, 1, 0, 1, 0, 0, 1, 0, 0, 0], [6])) (some 28)
                  [Item.code (cAt Try.prog 11 [1, 1, 1, 0, 1, 0, 0, 1, 0, 0, 1]), Item.inBlock 1,
                    Item.code (cAt Try.prog 11 [1, 1, 1, 0, 1, 0, 0, 1, 1]),
                    Item.inLoop (cAt Try.prog 11 [1, 1, 1, 0, 1, 0, 0]), Item.inBlock 0,
                    Item.code (cAt Try.prog 11 [1, 1, 1, 1])]
                  (mkJ 0 [(0, SV.dat l), (3, SV.ptr 2 0), (4, SV.int IntKind.i64 i)] 0 130)]
              [(0, OBlk.arr 3 (D.slc h1 1 r1)), (1, OBlk.arr 53 (D.slc h2 8 r2)),
                (2,
                  OBlk.cells 67
                    [SV.int IntKind.i64 e, SV.int IntKind.i64 s, SV.dat d, SV.int IntKind.i64 st, SV.int IntKind.i64 ap,
                      SV.int IntKind.i64 te, SV.int IntKind.i64 ts, SV.int IntKind.i64 tst, SV.int IntKind.i64 tap,
                      SV.vec 0, SV.vec 1, SV.lb true])]))))
    (Tree.ret (SV.lb true)) := by kernel_rfl

theorem refuses_in : exec Try.prog ctL 300 (entry Try.prog 11 [.dat l]) =
  Tree.br (decide ((↑(D.len l) : Int) > 60)) (Tree.ret (SV.lb true))
    (Tree.all fun hs =>
      Tree.all fun hs_1 =>
        Tree.br true
          (Tree.leaf
            (Conf.mk
              (SFrm.mk 11 none none
                [Item.inLoop (cAt Try.prog 11 [1, 1, 1, 0, 1, 0, 0]), Item.inBlock 0,
                  Item.code (cAt Try.prog 11 [1, 1, 1, 1])]
                (mkJ 0 [(0, SV.dat l), (3, SV.ptr 0 0), (4, SV.int IntKind.i64 0)] 0 130))
              []
              [(0,
                  OBlk.cells 67
                    [SV.int IntKind.i64 1, SV.int IntKind.i64 2, SV.dat (D.like (hs 0 0) ([] : List Int)), SV.int IntKind.i64 3,
                      SV.int IntKind.i64 3, SV.int IntKind.i64 1, SV.int IntKind.i64 2, SV.int IntKind.i64 3,
                      SV.int IntKind.i64 3, SV.nils, SV.nils, SV.bool true])]))
          (Tree.leaf
            (Conf.mk
              (SFrm.mk 11 none none
                [Item.inLoop (cAt Try.prog 11 [1, 1, 1, 0, 1, 0, 0]), Item.inBlock 0,
                  Item.code (cAt Try.prog 11 [1, 1, 1, 1])]
                (mkJ 0 [(0, SV.dat l), (3, SV.ptr 0 0), (4, SV.int IntKind.i64 0)] 0 130))
              []
              [(0,
                  OBlk.cells 67
                    [SV.int IntKind.i64 1, SV.int IntKind.i64 2, SV.dat (D.like (hs 0 0) ([] : List Int)), SV.int IntKind.i64 3,
                      SV.int IntKind.i64 3, SV.int IntKind.i64 1, SV.int IntKind.i64 2, SV.int IntKind.i64 3,
                      SV.int IntKind.i64 3, SV.nils, SV.nils, SV.lb false])]))) := by kernel_rfl

theorem k_11 : goS Try.prog ctR (fun _ => false) [(38, 2), (38, 246)] 400 (unroll (K11 l i k ⟨e, s, d, st, ap⟩ ⟨te, ts, tst, tap⟩ h1 h2 r1 r2)) =
  Tree.br (decide (k < (↑(D.len (D.slc h2 8 r2)) : Int)))
    (Tree.need (0 ≤ k ∧ k < (↑(D.len (D.slc h2 8 r2)) : Int) ∧ D.sz (D.slc h2 8 r2) = 8)
      (Tree.need
        (D.HasCells (D.slc h2 8 r2) (Int.toNat k) 0
            [FT.int IntKind.i64, FT.int IntKind.i64, FT.int IntKind.i64, FT.int IntKind.i64, FT.int IntKind.i64,
              FT.int IntKind.i64, FT.slc, FT.slc] ∧
          D.sz (D.slc h2 8 r2) = 8)
        (Tree.br (D.getInt (D.slc h2 8 r2) (Int.toNat k) 0 != 8)
          (Tree.br (D.getInt (D.slc h2 8 r2) (Int.toNat k) 0 != 10)
            (Tree.leaf
              (Conf.mk
                (SFrm.mk 11 none none
                  [Item.inLoop (cAt Try.prog 11 [1, 1, 1, 0, 1, 0, 0, 1, 0, 0, 1, 1, 0, 0]), Item.inBlock 2,
                    Item.inBlock 1, Item.code (cAt Try.prog 11 [1, 1, 1, 0, 1, 0, 0, 1, 1]),
                    Item.inLoop (cAt Try.prog 11 [1, 1, 1, 0, 1, 0, 0]), Item.inBlock 0,
                    Item.code (cAt Try.prog 11 [1, 1, 1, 1])]
                  (mkJ 0
                    [(0, SV.dat l), (3, SV.ptr 0 0), (4, SV.int IntKind.i64 i),
                      (5, SV.int IntKind.i64 (IntKind.wrap IntKind.i64 (k + 1)))]
                    0 130))
                []
                [(0,
                    OBlk.cells 67
                      [SV.int IntKind.i64 e, SV.int IntKind.i64 s, SV.dat d, SV.int IntKind.i64 st, SV.int IntKind.i64 ap,
                        SV.int IntKind.i64 te, SV.int IntKind.i64 ts, SV.int IntKind.i64 tst, SV.int IntKind.i64 tap,
                        SV.vec 1, SV.vec 2, SV.lb true]),
                  (1, OBlk.arr 3 (D.slc h1 1 r1)), (2, OBlk.arr 53 (D.slc h2 8 r2))]))
            (Tree.br (decide (D.getInt (D.slc h2 8 r2) (Int.toNat k) 5 ≥ te))
              (Tree.leaf
                (Conf.mk
                  (SFrm.mk 11 none none
                    [Item.inLoop (cAt Try.prog 11 [1, 1, 1, 0, 1, 0, 0, 1, 0, 0, 1, 1, 0, 0]), Item.inBlock 2,
                      Item.inBlock 1, Item.code (cAt Try.prog 11 [1, 1, 1, 0, 1, 0, 0, 1, 1]),
                      Item.inLoop (cAt Try.prog 11 [1, 1, 1, 0, 1, 0, 0]), Item.inBlock 0,
                      Item.code (cAt Try.prog 11 [1, 1, 1, 1])]
                    (mkJ 0
                      [(0, SV.dat l), (3, SV.ptr 0 0), (4, SV.int IntKind.i64 i),
                        (5, SV.int IntKind.i64 (IntKind.wrap IntKind.i64 (k + 1)))]
                      0 130))
                  []
                  [(0,
                      OBlk.cells 67
                        [SV.int IntKind.i64 e, SV.int IntKind.i64 s, SV.dat d, SV.int IntKind.i64 st,
                          SV.int IntKind.i64 ap, SV.int IntKind.i64 te, SV.int IntKind.i64 ts, SV.int IntKind.i64 tst,
                          SV.int IntKind.i64 tap, SV.vec 1, SV.vec 2, SV.lb true]),
                    (1, OBlk.arr 3 (D.slc h1 1 r1)), (2, OBlk.arr 53 (D.slc h2 8 r2))]))
              (Tree.need
                (answer (Tgt.mk te ts tst tap)
                    (MsgD.msg
                      (MsgD.mk (D.getInt (D.slc h2 8 r2) (Int.toNat k) 0) (D.getInt (D.slc h2 8 r2) (Int.toNat k) 1)
                        (D.getInt (D.slc h2 8 r2) (Int.toNat k) 2) (D.getInt (D.slc h2 8 r2) (Int.toNat k) 3)
                        (D.getInt (D.slc h2 8 r2) (Int.toNat k) 4) (D.getInt (D.slc h2 8 r2) (Int.toNat k) 5)
                        (D.cell (D.slc h2 8 r2) (Int.toNat k) 6) (D.cell (D.slc h2 8 r2) (Int.toNat k) 7))) =
                  (Tgt.mk te ts tst tap, [Msg.mk 12 ts 0 0 0 te [] []]))
                (Tree.all fun hs =>
                  Tree.all fun hs_1 =>
                    Tree.br
                      (!(decide (te = te) && (decide (ts = ts) && (decide (tst = tst) && (decide (tap = tap) && true)))))
                      (Tree.need
                        ((!(decide (te = te) &&
                              (decide (ts = ts) && (decide (tst = tst) && (decide (tap = tap) && true))))) =
                          true)
                        (Tree.need
                          ((!(decide (te = te) &&
                                (decide (ts = ts) && (decide (tst = tst) && (decide (tap = tap) && true))))) =
                            true)
                          (Tree.need
                            ((!(decide (te = te) &&
                                  (decide (ts = ts) && (decide (tst = tst) && (decide (tap = tap) && true))))) =
                              true)
                            (Tree.need
                              ((!(decide (te = te) &&
                                    (decide (ts = ts) && (decide (tst = tst) && (decide (tap = tap) && true))))) =
                                true)
                              (Tree.ret (SV.lb false))))))
                      (Tree.br ((↑(D.len (pM (hs 0 0) [Msg.mk 12 ts 0 0 0 te [] []])) : Int) != 1)
                        (Tree.need
                          ((!(decide (te = te) &&
                                (decide (ts = ts) && (decide (tst = tst) && (decide (tap = tap) && true))))) =
                            false)
                          (Tree.need
                            ((!(decide (te = te) &&
                                  (decide (ts = ts) && (decide (tst = tst) && (decide (tap = tap) && true))))) =
                              false)
                            (Tree.need
                              ((!(decide (te = te) &&
                                    (decide (ts = ts) && (decide (tst = tst) && (decide (tap = tap) && true))))) =
                                false)
                              (Tree.need
                                ((!(decide (te = te) &&
                                      (decide (ts = ts) && (decide (tst = tst) && (decide (tap = tap) && true))))) =
                                  false)
                                (Tree.need (((↑(D.len (pM (hs 0 0) [Msg.mk 12 ts 0 0 0 te [] []])) : Int) != 1) = true)
                                  (Tree.need (((↑(D.len (pM (hs 0 0) [Msg.mk 12 ts 0 0 0 te [] []])) : Int) != 1) = true)
                                    (Tree.need
                                      (((↑(D.len (pM (hs 0 0) [Msg.mk 12 ts 0 0 0 te [] []])) : Int) != 1) = true)
                                      (Tree.need
                                        (((↑(D.len (pM (hs 0 0) [Msg.mk 12 ts 0 0 0 te [] []])) : Int) != 1) = true)
                                        (Tree.need
                                          (((↑(D.len (pM (hs 0 0) [Msg.mk 12 ts 0 0 0 te [] []])) : Int) != 1) = true)
                                          (Tree.need
                                            (((↑(D.len (pM (hs 0 0) [Msg.mk 12 ts 0 0 0 te [] []])) : Int) != 1) = true)
                                            (Tree.ret (SV.lb false))))))))))))
                        (Tree.br (D.getInt (pM (hs 0 0) [Msg.mk 12 ts 0 0 0 te [] []]) 0 0 != 12)
                          (Tree.need
                            ((!(decide (te = te) &&
                                  (decide (ts = ts) && (decide (tst = tst) && (decide (tap = tap) && true))))) =
                              false)
                            (Tree.need
                              ((!(decide (te = te) &&
                                    (decide (ts = ts) && (decide (tst = tst) && (decide (tap = tap) && true))))) =
                                false)
                              (Tree.need
                                ((!(decide (te = te) &&
                                      (decide (ts = ts) && (decide (tst = tst) && (decide (tap = tap) && true))))) =
                                  false)
                                (Tree.need
                                  ((!(decide (te = te) &&
                                        (decide (ts = ts) && (decide (tst = tst) && (decide (tap = tap) && true))))) =
                                    false)
                                  (Tree.need (((↑(D.len (pM (hs 0 0) [Msg.mk 12 ts 0 0 0 te [] []])) : Int) != 1) = false)
                                    (Tree.need
                                      (((↑(D.len (pM (hs 0 0) [Msg.mk 12 ts 0 0 0 te [] []])) : Int) != 1) = false)
                                      (Tree.need
                                        ((0 : Int) ≤ 0 ∧
                                          0 < (↑(D.len (pM (hs 0 0) [Msg.mk 12 ts 0 0 0 te [] []])) : Int) ∧
                                            D.sz (pM (hs 0 0) [Msg.mk 12 ts 0 0 0 te [] []]) = 8)
                                        (Tree.need
                                          (((↑(D.len (pM (hs 0 0) [Msg.mk 12 ts 0 0 0 te [] []])) : Int) != 1) = false)
                                          (Tree.need
                                            (((↑(D.len (pM (hs 0 0) [Msg.mk 12 ts 0 0 0 te [] []])) : Int) != 1) = false)
                                            (Tree.need
                                              (D.HasCell (pM (hs 0 0) [Msg.mk 12 ts 0 0 0 te [] []]) 0 0
                                                (FT.int IntKind.i64))
                                              (Tree.need
                                                (((↑(D.len (pM (hs 0 0) [Msg.mk 12 ts 0 0 0 te [] []])) : Int) != 1) =
                                                  false)
                                                (Tree.need
                                                  (((↑(D.len (pM (hs 0 0) [Msg.mk 12 ts 0 0 0 te [] []])) : Int) != 1) =
                                                    false)
                                                  (Tree.need
                                                    ((D.getInt (pM (hs 0 0) [Msg.mk 12 ts 0 0 0 te [] []]) 0 0 != 12) =
                                                      true)
                                                    (Tree.need
                                                      ((D.getInt (pM (hs 0 0) [Msg.mk 12 ts 0 0 0 te [] []]) 0 0 != 12) =
                                                        true)
                                                      (Tree.need
                                                        ((D.getInt (pM (hs 0 0) [Msg.mk 12 ts 0 0 0 te [] []]) 0 0 !=
                                                            12) =
                                                          true)
                                                        (Tree.need
                                                          ((D.getInt (pM (hs 0 0) [Msg.mk 12 ts 0 0 0 te [] []]) 0 0 !=
                                                              12) =
                                                            true)
                                                          (Tree.need
                                                            ((D.getInt (pM (hs 0 0) [Msg.mk 12 ts 0 0 0 te [] []]) 0 0 !=
                                                                12) =
                                                              true)
                                                            (Tree.need
                                                              ((D.getInt (pM (hs 0 0) [Msg.mk 12 ts 0 0 0 te [] []]) 0
                                                                    0 !=
                                                                  12) =
                                                                true)
                                                              (Tree.need
                                                                ((D.getInt (pM (hs 0 0) [Msg.mk 12 ts 0 0 0 te [] []]) 0
                                                                      0 !=
                                                                    12) =
                                                                  true)
                                                                (Tree.need
                                                                  ((D.getInt (pM (hs 0 0) [Msg.mk 12 ts 0 0 0 te [] []]) 0
                                                                        0 !=
                                                                      12) =
                                                                    true)
                                                                  (Tree.ret (SV.lb false))))))))))))))))))))))
                          (Tree.need
                            ((!(decide (te = te) &&
                                  (decide (ts = ts) && (decide (tst = tst) && (decide (tap = tap) && true))))) =
                              false)
                            (Tree.need
                              ((!(decide (te = te) &&
                                    (decide (ts = ts) && (decide (tst = tst) && (decide (tap = tap) && true))))) =
                                false)
                              (Tree.need
                                ((!(decide (te = te) &&
                                      (decide (ts = ts) && (decide (tst = tst) && (decide (tap = tap) && true))))) =
                                  false)
                                (Tree.need
                                  ((!(decide (te = te) &&
                                        (decide (ts = ts) && (decide (tst = tst) && (decide (tap = tap) && true))))) =
                                    false)
                                  (Tree.need (((↑(D.len (pM (hs 0 0) [Msg.mk 12 ts 0 0 0 te [] []])) : Int) != 1) = false)
                                    (Tree.need
                                      (((↑(D.len (pM (hs 0 0) [Msg.mk 12 ts 0 0 0 te [] []])) : Int) != 1) = false)
                                      (Tree.need
                                        ((0 : Int) ≤ 0 ∧
                                          0 < (↑(D.len (pM (hs 0 0) [Msg.mk 12 ts 0 0 0 te [] []])) : Int) ∧
                                            D.sz (pM (hs 0 0) [Msg.mk 12 ts 0 0 0 te [] []]) = 8)
                                        (Tree.need
                                          (((↑(D.len (pM (hs 0 0) [Msg.mk 12 ts 0 0 0 te [] []])) : Int) != 1) = false)
                                          (Tree.need
                                            (((↑(D.len (pM (hs 0 0) [Msg.mk 12 ts 0 0 0 te [] []])) : Int) != 1) = false)
                                            (Tree.need
                                              (D.HasCell (pM (hs 0 0) [Msg.mk 12 ts 0 0 0 te [] []]) 0 0
                                                (FT.int IntKind.i64))
                                              (Tree.need
                                                (((↑(D.len (pM (hs 0 0) [Msg.mk 12 ts 0 0 0 te [] []])) : Int) != 1) =
                                                  false)
                                                (Tree.need
                                                  (((↑(D.len (pM (hs 0 0) [Msg.mk 12 ts 0 0 0 te [] []])) : Int) != 1) =
                                                    false)
                                                  (Tree.need
                                                    ((D.getInt (pM (hs 0 0) [Msg.mk 12 ts 0 0 0 te [] []]) 0 0 != 12) =
                                                      false)
                                                    (Tree.need
                                                      ((D.getInt (pM (hs 0 0) [Msg.mk 12 ts 0 0 0 te [] []]) 0 0 != 12) =
                                                        false)
                                                      (Tree.need
                                                        ((0 : Int) ≤ 0 ∧
                                                          0 <
                                                              (↑(D.len (pM (hs 0 0) [Msg.mk 12 ts 0 0 0 te [] []])) :
                                                                Int) ∧
                                                            D.sz (pM (hs 0 0) [Msg.mk 12 ts 0 0 0 te [] []]) = 8)
                                                        (Tree.need
                                                          ((D.getInt (pM (hs 0 0) [Msg.mk 12 ts 0 0 0 te [] []]) 0 0 !=
                                                              12) =
                                                            false)
                                                          (Tree.need
                                                            ((D.getInt (pM (hs 0 0) [Msg.mk 12 ts 0 0 0 te [] []]) 0 0 !=
                                                                12) =
                                                              false)
                                                            (Tree.need
                                                              (D.HasCell (pM (hs 0 0) [Msg.mk 12 ts 0 0 0 te [] []]) 0 5
                                                                (FT.int IntKind.i64))
                                                              (Tree.need
                                                                ((D.getInt (pM (hs 0 0) [Msg.mk 12 ts 0 0 0 te [] []]) 0
                                                                      0 !=
                                                                    12) =
                                                                  false)
                                                                (Tree.need
                                                                  ((D.getInt (pM (hs 0 0) [Msg.mk 12 ts 0 0 0 te [] []]) 0
                                                                        0 !=
                                                                      12) =
                                                                    false)
                                                                  (Tree.need
                                                                    ((D.getInt (pM (hs 0 0) [Msg.mk 12 ts 0 0 0 te [] []])
                                                                          0 0 !=
                                                                        12) =
                                                                      false)
                                                                    (Tree.need
                                                                      ((D.getInt
                                                                            (pM (hs 0 0) [Msg.mk 12 ts 0 0 0 te [] []]) 0
                                                                            0 !=
                                                                          12) =
                                                                        false)
                                                                      (Tree.br
                                                                        (D.getInt
                                                                            (pM (hs 0 0) [Msg.mk 12 ts 0 0 0 te [] []]) 0
                                                                            5 !=
                                                                          te)
                                                                        (Tree.ret (SV.lb false))
                                                                        (Tree.all fun hs_2 =>
                                                                          Tree.need
                                                                            ((0 : Int) ≤ 0 ∧
                                                                              0 <
                                                                                  (↑(D.len
                                                                                        (pM (hs 0 0)
                                                                                          [Msg.mk 12 ts 0 0 0 te []
                                                                                              []])) :
                                                                                    Int) ∧
                                                                                D.sz
                                                                                    (pM (hs 0 0)
                                                                                      [Msg.mk 12 ts 0 0 0 te [] []]) =
                                                                                  8)
                                                                            (Tree.need
                                                                              (D.HasCells
                                                                                (pM (hs 0 0)
                                                                                  [Msg.mk 12 ts 0 0 0 te [] []])
                                                                                0 0
                                                                                [FT.int IntKind.i64, FT.int IntKind.i64,
                                                                                  FT.int IntKind.i64, FT.int IntKind.i64,
                                                                                  FT.int IntKind.i64, FT.int IntKind.i64,
                                                                                  FT.slc, FT.slc])
                                                                              (Tree.need
                                                                                (D.Is Int d ∧
                                                                                  learn
                                                                                      (SrcD.src
                                                                                        (SrcD.mk
                                                                                          (D.getInt (D.slc h2 8 r2)
                                                                                            (Int.toNat k) 5)
                                                                                          s d st ap))
                                                                                      (MsgD.msg
                                                                                        (MsgD.mk
                                                                                          (D.getInt
                                                                                            (pM (hs 0 0)
                                                                                              [Msg.mk 12 ts 0 0 0 te []
                                                                                                  []])
                                                                                            0 0)
                                                                                          (D.getInt
                                                                                            (pM (hs 0 0)
                                                                                              [Msg.mk 12 ts 0 0 0 te []
                                                                                                  []])
                                                                                            0 1)
                                                                                          (D.getInt
                                                                                            (pM (hs 0 0)
                                                                                              [Msg.mk 12 ts 0 0 0 te []
                                                                                                  []])
                                                                                            0 2)
                                                                                          (D.getInt
                                                                                            (pM (hs 0 0)
                                                                                              [Msg.mk 12 ts 0 0 0 te []
                                                                                                  []])
                                                                                            0 3)
                                                                                          (D.getInt
                                                                                            (pM (hs 0 0)
                                                                                              [Msg.mk 12 ts 0 0 0 te []
                                                                                                  []])
                                                                                            0 4)
                                                                                          (D.getInt
                                                                                            (pM (hs 0 0)
                                                                                              [Msg.mk 12 ts 0 0 0 te []
                                                                                                  []])
                                                                                            0 5)
                                                                                          (D.cell
                                                                                            (pM (hs 0 0)
                                                                                              [Msg.mk 12 ts 0 0 0 te []
                                                                                                  []])
                                                                                            0 6)
                                                                                          (D.cell
                                                                                            (pM (hs 0 0)
                                                                                              [Msg.mk 12 ts 0 0 0 te []
                                                                                                  []])
                                                                                            0 7))) =
                                                                                    (Src.mk
                                                                                        (D.getInt
                                                                                          (pM (hs 0 0)
                                                                                            [Msg.mk 12 ts 0 0 0 te [] []])
                                                                                          0 5)
                                                                                        s [] ap ap,
                                                                                      []))
                                                                                (Tree.br
                                                                                  ((↑(D.len (pM (hs_2 4 1) [])) : Int) !=
                                                                                    0)
                                                                                  (Tree.ret (SV.lb false))
                                                                                  (Tree.br
                                                                                    ((↑(D.len (pI (hs_2 4 0) [])) :
                                                                                        Int) !=
                                                                                      0)
                                                                                    (Tree.ret (SV.lb false))
                                                                                    (Tree.br
                                                                                      (D.getInt
                                                                                          (pM (hs 0 0)
                                                                                            [Msg.mk 12 ts 0 0 0 te [] []])
                                                                                          0 5 !=
                                                                                        te)
                                                                                      (Tree.ret (SV.lb false))
                                                                                      (Tree.br (ap != ap)
                                                                                        (Tree.ret (SV.lb false))
                                                                                        (Tree.leaf
                                                                                          (Conf.mk
                                                                                            (SFrm.mk 11 none none
                                                                                              [Item.inLoop
                                                                                                  (cAt Try.prog 11
                                                                                                    [1, 1, 1, 0, 1, 0, 0,
                                                                                                      1, 0, 0, 1, 1, 0,
                                                                                                      0]),
                                                                                                Item.inBlock 2,
                                                                                                Item.inBlock 1,
                                                                                                Item.code
                                                                                                  (cAt Try.prog 11
                                                                                                    [1, 1, 1, 0, 1, 0, 0,
                                                                                                      1, 1]),
                                                                                                Item.inLoop
                                                                                                  (cAt Try.prog 11
                                                                                                    [1, 1, 1, 0, 1, 0,
                                                                                                      0]),
                                                                                                Item.inBlock 0,
                                                                                                Item.code
                                                                                                  (cAt Try.prog 11
                                                                                                    [1, 1, 1, 1])]
                                                                                              (mkJ 0
                                                                                                [(0, SV.dat l),
                                                                                                  (3, SV.ptr 0 0),
                                                                                                  (4,
                                                                                                    SV.int IntKind.i64 i),
                                                                                                  (5,
                                                                                                    SV.int IntKind.i64
                                                                                                      (IntKind.wrap
                                                                                                        IntKind.i64
                                                                                                        (k + 1)))]
                                                                                                0 130))
                                                                                            []
                                                                                            [(0,
                                                                                                OBlk.cells 67
                                                                                                  [SV.int IntKind.i64 e,
                                                                                                    SV.int IntKind.i64 s,
                                                                                                    SV.dat d,
                                                                                                    SV.int IntKind.i64 st,
                                                                                                    SV.int IntKind.i64 ap,
                                                                                                    SV.int IntKind.i64 te,
                                                                                                    SV.int IntKind.i64 ts,
                                                                                                    SV.int IntKind.i64
                                                                                                      tst,
                                                                                                    SV.int IntKind.i64
                                                                                                      tap,
                                                                                                    SV.vec 1, SV.vec 2,
                                                                                                    SV.lb true]),
                                                                                              (1,
                                                                                                OBlk.arr 3
                                                                                                  (D.slc h1 1 r1)),
                                                                                              (2,
                                                                                                OBlk.arr 53
                                                                                                  (D.slc h2 8
                                                                                                    r2))]))))))))))))))))))))))))))))))))))))))
          (Tree.br (decide (D.getInt (D.slc h2 8 r2) (Int.toNat k) 5 ≥ te))
            (Tree.leaf
              (Conf.mk
                (SFrm.mk 11 none none
                  [Item.inLoop (cAt Try.prog 11 [1, 1, 1, 0, 1, 0, 0, 1, 0, 0, 1, 1, 0, 0]), Item.inBlock 2,
                    Item.inBlock 1, Item.code (cAt Try.prog 11 [1, 1, 1, 0, 1, 0, 0, 1, 1]),
                    Item.inLoop (cAt Try.prog 11 [1, 1, 1, 0, 1, 0, 0]), Item.inBlock 0,
                    Item.code (cAt Try.prog 11 [1, 1, 1, 1])]
                  (mkJ 0
                    [(0, SV.dat l), (3, SV.ptr 0 0), (4, SV.int IntKind.i64 i),
                      (5, SV.int IntKind.i64 (IntKind.wrap IntKind.i64 (k + 1)))]
                    0 130))
                []
                [(0,
                    OBlk.cells 67
                      [SV.int IntKind.i64 e, SV.int IntKind.i64 s, SV.dat d, SV.int IntKind.i64 st, SV.int IntKind.i64 ap,
                        SV.int IntKind.i64 te, SV.int IntKind.i64 ts, SV.int IntKind.i64 tst, SV.int IntKind.i64 tap,
                        SV.vec 1, SV.vec 2, SV.lb true]),
                  (1, OBlk.arr 3 (D.slc h1 1 r1)), (2, OBlk.arr 53 (D.slc h2 8 r2))]))
            (Tree.need
              (answer (Tgt.mk te ts tst tap)
                  (MsgD.msg
                    (MsgD.mk (D.getInt (D.slc h2 8 r2) (Int.toNat k) 0) (D.getInt (D.slc h2 8 r2) (Int.toNat k) 1)
                      (D.getInt (D.slc h2 8 r2) (Int.toNat k) 2) (D.getInt (D.slc h2 8 r2) (Int.toNat k) 3)
                      (D.getInt (D.slc h2 8 r2) (Int.toNat k) 4) (D.getInt (D.slc h2 8 r2) (Int.toNat k) 5)
                      (D.cell (D.slc h2 8 r2) (Int.toNat k) 6) (D.cell (D.slc h2 8 r2) (Int.toNat k) 7))) =
                (Tgt.mk te ts tst tap, [Msg.mk 12 ts 0 0 0 te [] []]))
              (Tree.all fun hs =>
                Tree.all fun hs_1 =>
                  Tree.br
                    (!(decide (te = te) && (decide (ts = ts) && (decide (tst = tst) && (decide (tap = tap) && true)))))
                    (Tree.need
                      ((!(decide (te = te) &&
                            (decide (ts = ts) && (decide (tst = tst) && (decide (tap = tap) && true))))) =
                        true)
                      (Tree.need
                        ((!(decide (te = te) &&
                              (decide (ts = ts) && (decide (tst = tst) && (decide (tap = tap) && true))))) =
                          true)
                        (Tree.need
                          ((!(decide (te = te) &&
                                (decide (ts = ts) && (decide (tst = tst) && (decide (tap = tap) && true))))) =
                            true)
                          (Tree.need
                            ((!(decide (te = te) &&
                                  (decide (ts = ts) && (decide (tst = tst) && (decide (tap = tap) && true))))) =
                              true)
                            (Tree.ret (SV.lb false))))))
                    (Tree.br ((↑(D.len (pM (hs 0 0) [Msg.mk 12 ts 0 0 0 te [] []])) : Int) != 1)
                      (Tree.need
                        ((!(decide (te = te) &&
                              (decide (ts = ts) && (decide (tst = tst) && (decide (tap = tap) && true))))) =
                          false)
                        (Tree.need
                          ((!(decide (te = te) &&
                                (decide (ts = ts) && (decide (tst = tst) && (decide (tap = tap) && true))))) =
                            false)
                          (Tree.need
                            ((!(decide (te = te) &&
                                  (decide (ts = ts) && (decide (tst = tst) && (decide (tap = tap) && true))))) =
                              false)
                            (Tree.need
                              ((!(decide (te = te) &&
                                    (decide (ts = ts) && (decide (tst = tst) && (decide (tap = tap) && true))))) =
                                false)
                              (Tree.need (((↑(D.len (pM (hs 0 0) [Msg.mk 12 ts 0 0 0 te [] []])) : Int) != 1) = true)
                                (Tree.need (((↑(D.len (pM (hs 0 0) [Msg.mk 12 ts 0 0 0 te [] []])) : Int) != 1) = true)
                                  (Tree.need (((↑(D.len (pM (hs 0 0) [Msg.mk 12 ts 0 0 0 te [] []])) : Int) != 1) = true)
                                    (Tree.need
                                      (((↑(D.len (pM (hs 0 0) [Msg.mk 12 ts 0 0 0 te [] []])) : Int) != 1) = true)
                                      (Tree.need
                                        (((↑(D.len (pM (hs 0 0) [Msg.mk 12 ts 0 0 0 te [] []])) : Int) != 1) = true)
                                        (Tree.need
                                          (((↑(D.len (pM (hs 0 0) [Msg.mk 12 ts 0 0 0 te [] []])) : Int) != 1) = true)
                                          (Tree.ret (SV.lb false))))))))))))
                      (Tree.br (D.getInt (pM (hs 0 0) [Msg.mk 12 ts 0 0 0 te [] []]) 0 0 != 12)
                        (Tree.need
                          ((!(decide (te = te) &&
                                (decide (ts = ts) && (decide (tst = tst) && (decide (tap = tap) && true))))) =
                            false)
                          (Tree.need
                            ((!(decide (te = te) &&
                                  (decide (ts = ts) && (decide (tst = tst) && (decide (tap = tap) && true))))) =
                              false)
                            (Tree.need
                              ((!(decide (te = te) &&
                                    (decide (ts = ts) && (decide (tst = tst) && (decide (tap = tap) && true))))) =
                                false)
                              (Tree.need
                                ((!(decide (te = te) &&
                                      (decide (ts = ts) && (decide (tst = tst) && (decide (tap = tap) && true))))) =
                                  false)
                                (Tree.need (((↑(D.len (pM (hs 0 0) [Msg.mk 12 ts 0 0 0 te [] []])) : Int) != 1) = false)
                                  (Tree.need (((↑(D.len (pM (hs 0 0) [Msg.mk 12 ts 0 0 0 te [] []])) : Int) != 1) = false)
                                    (Tree.need
                                      ((0 : Int) ≤ 0 ∧
                                        0 < (↑(D.len (pM (hs 0 0) [Msg.mk 12 ts 0 0 0 te [] []])) : Int) ∧
                                          D.sz (pM (hs 0 0) [Msg.mk 12 ts 0 0 0 te [] []]) = 8)
                                      (Tree.need
                                        (((↑(D.len (pM (hs 0 0) [Msg.mk 12 ts 0 0 0 te [] []])) : Int) != 1) = false)
                                        (Tree.need
                                          (((↑(D.len (pM (hs 0 0) [Msg.mk 12 ts 0 0 0 te [] []])) : Int) != 1) = false)
                                          (Tree.need
                                            (D.HasCell (pM (hs 0 0) [Msg.mk 12 ts 0 0 0 te [] []]) 0 0
                                              (FT.int IntKind.i64))
                                            (Tree.need
                                              (((↑(D.len (pM (hs 0 0) [Msg.mk 12 ts 0 0 0 te [] []])) : Int) != 1) =
                                                false)
                                              (Tree.need
                                                (((↑(D.len (pM (hs 0 0) [Msg.mk 12 ts 0 0 0 te [] []])) : Int) != 1) =
                                                  false)
                                                (Tree.need
                                                  ((D.getInt (pM (hs 0 0) [Msg.mk 12 ts 0 0 0 te [] []]) 0 0 != 12) =
                                                    true)
                                                  (Tree.need
                                                    ((D.getInt (pM (hs 0 0) [Msg.mk 12 ts 0 0 0 te [] []]) 0 0 != 12) =
                                                      true)
                                                    (Tree.need
                                                      ((D.getInt (pM (hs 0 0) [Msg.mk 12 ts 0 0 0 te [] []]) 0 0 != 12) =
                                                        true)
                                                      (Tree.need
                                                        ((D.getInt (pM (hs 0 0) [Msg.mk 12 ts 0 0 0 te [] []]) 0 0 !=
                                                            12) =
                                                          true)
                                                        (Tree.need
                                                          ((D.getInt (pM (hs 0 0) [Msg.mk 12 ts 0 0 0 te [] []]) 0 0 !=
                                                              12) =
                                                            true)
                                                          (Tree.need
                                                            ((D.getInt (pM (hs 0 0) [Msg.mk 12 ts 0 0 0 te [] []]) 0 0 !=
                                                                12) =
                                                              true)
                                                            (Tree.need
                                                              ((D.getInt (pM (hs 0 0) [Msg.mk 12 ts 0 0 0 te [] []]) 0
                                                                    0 !=
                                                                  12) =
                                                                true)
                                                              (Tree.need
                                                                ((D.getInt (pM (hs 0 0) [Msg.mk 12 ts 0 0 0 te [] []]) 0
                                                                      0 !=
                                                                    12) =
                                                                  true)
                                                                (Tree.ret (SV.lb false))))))))))))))))))))))
                        (Tree.need
                          ((!(decide (te = te) &&
                                (decide (ts = ts) && (decide (tst = tst) && (decide (tap = tap) && true))))) =
                            false)
                          (Tree.need
                            ((!(decide (te = te) &&
                                  (decide (ts = ts) && (decide (tst = tst) && (decide (tap = tap) && true))))) =
                              false)
                            (Tree.need
                              ((!(decide (te = te) &&
                                    (decide (ts = ts) && (decide (tst = tst) && (decide (tap = tap) && true))))) =
                                false)
                              (Tree.need
                                ((!(decide (te = te) &&
                                      (decide (ts = ts) && (decide (tst = tst) && (decide (tap = tap) && true))))) =
                                  false)
                                (Tree.need (((↑(D.len (pM (hs 0 0) [Msg.mk 12 ts 0 0 0 te [] []])) : Int) != 1) = false)
                                  (Tree.need (((↑(D.len (pM (hs 0 0) [Msg.mk 12 ts 0 0 0 te [] []])) : Int) != 1) = false)
                                    (Tree.need
                                      ((0 : Int) ≤ 0 ∧
                                        0 < (↑(D.len (pM (hs 0 0) [Msg.mk 12 ts 0 0 0 te [] []])) : Int) ∧
                                          D.sz (pM (hs 0 0) [Msg.mk 12 ts 0 0 0 te [] []]) = 8)
                                      (Tree.need
                                        (((↑(D.len (pM (hs 0 0) [Msg.mk 12 ts 0 0 0 te [] []])) : Int) != 1) = false)
                                        (Tree.need
                                          (((↑(D.len (pM (hs 0 0) [Msg.mk 12 ts 0 0 0 te [] []])) : Int) != 1) = false)
                                          (Tree.need
                                            (D.HasCell (pM (hs 0 0) [Msg.mk 12 ts 0 0 0 te [] []]) 0 0
                                              (FT.int IntKind.i64))
                                            (Tree.need
                                              (((↑(D.len (pM (hs 0 0) [Msg.mk 12 ts 0 0 0 te [] []])) : Int) != 1) =
                                                false)
                                              (Tree.need
                                                (((↑(D.len (pM (hs 0 0) [Msg.mk 12 ts 0 0 0 te [] []])) : Int) != 1) =
                                                  false)
                                                (Tree.need
                                                  ((D.getInt (pM (hs 0 0) [Msg.mk 12 ts 0 0 0 te [] []]) 0 0 != 12) =
                                                    false)
                                                  (Tree.need
                                                    ((D.getInt (pM (hs 0 0) [Msg.mk 12 ts 0 0 0 te [] []]) 0 0 != 12) =
                                                      false)
                                                    (Tree.need
                                                      ((0 : Int) ≤ 0 ∧
                                                        0 < (↑(D.len (pM (hs 0 0) [Msg.mk 12 ts 0 0 0 te [] []])) : Int) ∧
                                                          D.sz (pM (hs 0 0) [Msg.mk 12 ts 0 0 0 te [] []]) = 8)
                                                      (Tree.need
                                                        ((D.getInt (pM (hs 0 0) [Msg.mk 12 ts 0 0 0 te [] []]) 0 0 !=
                                                            12) =
                                                          false)
                                                        (Tree.need
                                                          ((D.getInt (pM (hs 0 0) [Msg.mk 12 ts 0 0 0 te [] []]) 0 0 !=
                                                              12) =
                                                            false)
                                                          (Tree.need
                                                            (D.HasCell (pM (hs 0 0) [Msg.mk 12 ts 0 0 0 te [] []]) 0 5
                                                              (FT.int IntKind.i64))
                                                            (Tree.need
                                                              ((D.getInt (pM (hs 0 0) [Msg.mk 12 ts 0 0 0 te [] []]) 0
                                                                    0 !=
                                                                  12) =
                                                                false)
                                                              (Tree.need
                                                                ((D.getInt (pM (hs 0 0) [Msg.mk 12 ts 0 0 0 te [] []]) 0
                                                                      0 !=
                                                                    12) =
                                                                  false)
                                                                (Tree.need
                                                                  ((D.getInt (pM (hs 0 0) [Msg.mk 12 ts 0 0 0 te [] []]) 0
                                                                        0 !=
                                                                      12) =
                                                                    false)
                                                                  (Tree.need
                                                                    ((D.getInt (pM (hs 0 0) [Msg.mk 12 ts 0 0 0 te [] []])
                                                                          0 0 !=
                                                                        12) =
                                                                      false)
                                                                    (Tree.br
                                                                      (D.getInt
                                                                          (pM (hs 0 0) [Msg.mk 12 ts 0 0 0 te [] []]) 0
                                                                          5 !=
                                                                        te)
                                                                      (Tree.ret (SV.lb false))
                                                                      (Tree.all fun hs_2 =>
                                                                        Tree.need
                                                                          ((0 : Int) ≤ 0 ∧
                                                                            0 <
                                                                                (↑(D.len
                                                                                      (pM (hs 0 0)
                                                                                        [Msg.mk 12 ts 0 0 0 te [] []])) :
                                                                                  Int) ∧
                                                                              D.sz
                                                                                  (pM (hs 0 0)
                                                                                    [Msg.mk 12 ts 0 0 0 te [] []]) =
                                                                                8)
                                                                          (Tree.need
                                                                            (D.HasCells
                                                                              (pM (hs 0 0) [Msg.mk 12 ts 0 0 0 te [] []])
                                                                              0 0
                                                                              [FT.int IntKind.i64, FT.int IntKind.i64,
                                                                                FT.int IntKind.i64, FT.int IntKind.i64,
                                                                                FT.int IntKind.i64, FT.int IntKind.i64,
                                                                                FT.slc, FT.slc])
                                                                            (Tree.need
                                                                              (D.Is Int d ∧
                                                                                learn
                                                                                    (SrcD.src
                                                                                      (SrcD.mk
                                                                                        (D.getInt (D.slc h2 8 r2)
                                                                                          (Int.toNat k) 5)
                                                                                        s d st ap))
                                                                                    (MsgD.msg
                                                                                      (MsgD.mk
                                                                                        (D.getInt
                                                                                          (pM (hs 0 0)
                                                                                            [Msg.mk 12 ts 0 0 0 te [] []])
                                                                                          0 0)
                                                                                        (D.getInt
                                                                                          (pM (hs 0 0)
                                                                                            [Msg.mk 12 ts 0 0 0 te [] []])
                                                                                          0 1)
                                                                                        (D.getInt
                                                                                          (pM (hs 0 0)
                                                                                            [Msg.mk 12 ts 0 0 0 te [] []])
                                                                                          0 2)
                                                                                        (D.getInt
                                                                                          (pM (hs 0 0)
                                                                                            [Msg.mk 12 ts 0 0 0 te [] []])
                                                                                          0 3)
                                                                                        (D.getInt
                                                                                          (pM (hs 0 0)
                                                                                            [Msg.mk 12 ts 0 0 0 te [] []])
                                                                                          0 4)
                                                                                        (D.getInt
                                                                                          (pM (hs 0 0)
                                                                                            [Msg.mk 12 ts 0 0 0 te [] []])
                                                                                          0 5)
                                                                                        (D.cell
                                                                                          (pM (hs 0 0)
                                                                                            [Msg.mk 12 ts 0 0 0 te [] []])
                                                                                          0 6)
                                                                                        (D.cell
                                                                                          (pM (hs 0 0)
                                                                                            [Msg.mk 12 ts 0 0 0 te [] []])
                                                                                          0 7))) =
                                                                                  (Src.mk
                                                                                      (D.getInt
                                                                                        (pM (hs 0 0)
                                                                                          [Msg.mk 12 ts 0 0 0 te [] []])
                                                                                        0 5)
                                                                                      s [] ap ap,
                                                                                    []))
                                                                              (Tree.br
                                                                                ((↑(D.len (pM (hs_2 4 1) [])) : Int) != 0)
                                                                                (Tree.ret (SV.lb false))
                                                                                (Tree.br
                                                                                  ((↑(D.len (pI (hs_2 4 0) [])) : Int) !=
                                                                                    0)
                                                                                  (Tree.ret (SV.lb false))
                                                                                  (Tree.br
                                                                                    (D.getInt
                                                                                        (pM (hs 0 0)
                                                                                          [Msg.mk 12 ts 0 0 0 te [] []])
                                                                                        0 5 !=
                                                                                      te)
                                                                                    (Tree.ret (SV.lb false))
                                                                                    (Tree.br (ap != ap)
                                                                                      (Tree.ret (SV.lb false))
                                                                                      (Tree.leaf
                                                                                        (Conf.mk
                                                                                          (SFrm.mk 11 none none
                                                                                            [Item.inLoop
                                                                                                (cAt Try.prog 11
                                                                                                  [1, 1, 1, 0, 1, 0, 0, 1,
                                                                                                    0, 0, 1, 1, 0, 0]),
                                                                                              Item.inBlock 2,
                                                                                              Item.inBlock 1,
                                                                                              Item.code
                                                                                                (cAt Try.prog 11
                                                                                                  [1, 1, 1, 0, 1, 0, 0, 1,
                                                                                                    1]),
                                                                                              Item.inLoop
                                                                                                (cAt Try.prog 11
                                                                                                  [1, 1, 1, 0, 1, 0, 0]),
                                                                                              Item.inBlock 0,
                                                                                              Item.code
                                                                                                (cAt Try.prog 11
                                                                                                  [1, 1, 1, 1])]
                                                                                            (mkJ 0
                                                                                              [(0, SV.dat l),
                                                                                                (3, SV.ptr 0 0),
                                                                                                (4, SV.int IntKind.i64 i),
                                                                                                (5,
                                                                                                  SV.int IntKind.i64
                                                                                                    (IntKind.wrap
                                                                                                      IntKind.i64
                                                                                                      (k + 1)))]
                                                                                              0 130))
                                                                                          []
                                                                                          [(0,
                                                                                              OBlk.cells 67
                                                                                                [SV.int IntKind.i64 e,
                                                                                                  SV.int IntKind.i64 s,
                                                                                                  SV.dat d,
                                                                                                  SV.int IntKind.i64 st,
                                                                                                  SV.int IntKind.i64 ap,
                                                                                                  SV.int IntKind.i64 te,
                                                                                                  SV.int IntKind.i64 ts,
                                                                                                  SV.int IntKind.i64 tst,
                                                                                                  SV.int IntKind.i64 tap,
                                                                                                  SV.vec 1, SV.vec 2,
                                                                                                  SV.lb true]),
                                                                                            (1,
                                                                                              OBlk.arr 3 (D.slc h1 1 r1)),
                                                                                            (2,
                                                                                              OBlk.arr 53
                                                                                                (D.slc h2 8
                                                                                                  r2))]))))))))))))))))))))))))))))))))))))))))
    (Tree.leaf
      (Conf.mk
        (SFrm.mk 11 none none
          [Item.inLoop (cAt Try.prog 11 [1, 1, 1, 0, 1, 0, 0]), Item.inBlock 0, Item.code (cAt Try.prog 11 [1, 1, 1, 1])]
          (mkJ 0 [(0, SV.dat l), (3, SV.ptr 0 0), (4, SV.int IntKind.i64 (IntKind.wrap IntKind.i64 (i + 1)))] 0 130))
        []
        [(0,
            OBlk.cells 67
              [SV.int IntKind.i64 e, SV.int IntKind.i64 s, SV.dat d, SV.int IntKind.i64 st, SV.int IntKind.i64 ap,
                SV.int IntKind.i64 te, SV.int IntKind.i64 ts, SV.int IntKind.i64 tst, SV.int IntKind.i64 tap, SV.vec 1,
                SV.vec 2, SV.lb true]),
          (1, OBlk.arr 3 (D.slc h1 1 r1)), (2, OBlk.arr 53 (D.slc h2 8 r2))])) := by kernel_rfl

end
end Go.Proofs.Ytnfkkmdbaknnlaa
