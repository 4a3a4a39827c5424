/- Layer 32: a step, walked, within the statement of number 10. -/
import Derived.KernelRfl
import Derived.Test.YtnfkkmdbaknnlaaW12gtoW30g
import Derived.Test.YtnfkkmdbaknnlaaW31gtoW26
set_option linter.all false
section
open Go Go.Proofs Sx
namespace Go.Proofs.Ytnfkkmdbaknnlaa
set_option maxRecDepth 100000
set_option maxHeartbeats 0
section
variable (l : D) (e s st ap te ts tst tap i k x q e0 s0 st0 ap0 te0 ts0 tst0 tap0 : Int) (d d0 dm : D) (h1 h2 : Hd) (r1 r2 : List (List D))
theorem step_10 : goS Try.prog ctL (fun _ => false) [(38, 2), (38, 246)] 400 (E10 l i ⟨e, s, d, st, ap⟩ ⟨te, ts, tst, tap⟩ k x h1 h2 r1 r2) =
  Tree.need ((7 : Int) ≠ 0)
    (Tree.br (decide (Int.tmod k 7 = 0))
      (Tree.br (decide ((↑(D.len d) : Int) > 0))
        (Tree.need
          (0 ≤ IntKind.wrap IntKind.i64 ((↑(D.len d) : Int) - 1) ∧
            IntKind.wrap IntKind.i64 ((↑(D.len d) : Int) - 1) < (↑(D.len d) : Int) ∧ D.sz d = 1)
          (Tree.need (D.HasCell d (Int.toNat (IntKind.wrap IntKind.i64 ((↑(D.len d) : Int) - 1))) 0 (FT.int IntKind.i64))
            (Tree.need ((2 : Int) ≠ 0)
              (Tree.need (D.Is Int d)
                (Tree.all fun hs =>
                  Tree.br
                    (decide
                      (Prod.snd
                          (Prod.snd
                            (offer (SrcD.src (SrcD.mk e s d st ap))
                              (IntKind.wrap IntKind.i64
                                (IntKind.wrap IntKind.i64
                                    (D.getInt d (Int.toNat (IntKind.wrap IntKind.i64 ((↑(D.len d) : Int) - 1))) 0 + 1) +
                                  IntKind.wrap IntKind.i64 (Int.tmod x 2))))) =
                        0))
                    (Tree.need ((2 : Int) ≠ 0)
                      (Tree.all fun hs_1 =>
                        Tree.need
                          (D.sz (D.slc h1 1 r1) = 1 ∧
                            D.Fits
                                (D.slc (D.hd (hs_1 0 0)) 1
                                  [[D.int IntKind.i64
                                        (IntKind.wrap IntKind.i64
                                          (IntKind.wrap IntKind.i64
                                              (D.getInt d (Int.toNat (IntKind.wrap IntKind.i64 ((↑(D.len d) : Int) - 1)))
                                                  0 +
                                                1) +
                                            IntKind.wrap IntKind.i64 (Int.tmod x 2)))]])
                                1 ∧
                              (D.len (D.slc h1 1 r1) +
                                      D.len
                                        (D.slc (D.hd (hs_1 0 0)) 1
                                          [[D.int IntKind.i64
                                                (IntKind.wrap IntKind.i64
                                                  (IntKind.wrap IntKind.i64
                                                      (D.getInt d
                                                          (Int.toNat (IntKind.wrap IntKind.i64 ((↑(D.len d) : Int) - 1)))
                                                          0 +
                                                        1) +
                                                    IntKind.wrap IntKind.i64 (Int.tmod x 2)))]])) *
                                    8 ≤
                                  140737488355328 ∧
                                D.len (D.slc h1 1 r1) +
                                    D.len
                                      (D.slc (D.hd (hs_1 0 0)) 1
                                        [[D.int IntKind.i64
                                              (IntKind.wrap IntKind.i64
                                                (IntKind.wrap IntKind.i64
                                                    (D.getInt d
                                                        (Int.toNat (IntKind.wrap IntKind.i64 ((↑(D.len d) : Int) - 1)))
                                                        0 +
                                                      1) +
                                                  IntKind.wrap IntKind.i64 (Int.tmod x 2)))]]) ≤
                                  9223372036854775807)
                          (Tree.all fun hs_2 =>
                            Tree.leaf
                              (Conf.mk
                                (SFrm.mk 38 none none
                                  [Item.code (cAt Try.prog 38 [1, 1, 1, 0]), Item.code (cAt Try.prog 38 [1, 1, 1, 1])]
                                  (mkJ 1
                                    [(2, SV.ptr 0 0), (4, SV.ptr 1 0),
                                      (5,
                                        SV.dat
                                          (D.like (hs 0 1)
                                            (Prod.fst
                                              (Prod.snd
                                                (offer (SrcD.src (SrcD.mk e s d st ap))
                                                  (IntKind.wrap IntKind.i64
                                                    (IntKind.wrap IntKind.i64
                                                        (D.getInt d
                                                            (Int.toNat
                                                              (IntKind.wrap IntKind.i64 ((↑(D.len d) : Int) - 1)))
                                                            0 +
                                                          1) +
                                                      IntKind.wrap IntKind.i64 (Int.tmod x 2))))))))]
                                    0 252))
                                [SFrm.mk 10 (some (opsAt Try.prog 10 [1, 1, 1, 0, 1, 0, 0, 1, 0, 0], [6])) (some 38)
                                    [Item.inBlock 1, Item.code (cAt Try.prog 10 [1, 1, 1, 0, 1, 0, 0, 1, 1]),
                                      Item.inLoop (cAt Try.prog 10 [1, 1, 1, 0, 1, 0, 0]), Item.inBlock 0,
                                      Item.code (cAt Try.prog 10 [1, 1, 1, 1])]
                                    (mkJ 0 [(0, SV.dat l), (3, SV.ptr 2 0), (4, SV.int IntKind.i64 i)] 0 155)]
                                [(0,
                                    OBlk.cells 67
                                      [SV.int IntKind.i64
                                          (Src.epoch
                                            (Prod.fst
                                              (offer (SrcD.src (SrcD.mk e s d st ap))
                                                (IntKind.wrap IntKind.i64
                                                  (IntKind.wrap IntKind.i64
                                                      (D.getInt d
                                                          (Int.toNat (IntKind.wrap IntKind.i64 ((↑(D.len d) : Int) - 1)))
                                                          0 +
                                                        1) +
                                                    IntKind.wrap IntKind.i64 (Int.tmod x 2)))))),
                                        SV.int IntKind.i64
                                          (Src.site
                                            (Prod.fst
                                              (offer (SrcD.src (SrcD.mk e s d st ap))
                                                (IntKind.wrap IntKind.i64
                                                  (IntKind.wrap IntKind.i64
                                                      (D.getInt d
                                                          (Int.toNat (IntKind.wrap IntKind.i64 ((↑(D.len d) : Int) - 1)))
                                                          0 +
                                                        1) +
                                                    IntKind.wrap IntKind.i64 (Int.tmod x 2)))))),
                                        SV.dat
                                          (D.like (hs 0 0)
                                            (Src.offered
                                              (Prod.fst
                                                (offer (SrcD.src (SrcD.mk e s d st ap))
                                                  (IntKind.wrap IntKind.i64
                                                    (IntKind.wrap IntKind.i64
                                                        (D.getInt d
                                                            (Int.toNat
                                                              (IntKind.wrap IntKind.i64 ((↑(D.len d) : Int) - 1)))
                                                            0 +
                                                          1) +
                                                      IntKind.wrap IntKind.i64 (Int.tmod x 2))))))),
                                        SV.int IntKind.i64
                                          (Src.stored
                                            (Prod.fst
                                              (offer (SrcD.src (SrcD.mk e s d st ap))
                                                (IntKind.wrap IntKind.i64
                                                  (IntKind.wrap IntKind.i64
                                                      (D.getInt d
                                                          (Int.toNat (IntKind.wrap IntKind.i64 ((↑(D.len d) : Int) - 1)))
                                                          0 +
                                                        1) +
                                                    IntKind.wrap IntKind.i64 (Int.tmod x 2)))))),
                                        SV.int IntKind.i64
                                          (Src.applied
                                            (Prod.fst
                                              (offer (SrcD.src (SrcD.mk e s d st ap))
                                                (IntKind.wrap IntKind.i64
                                                  (IntKind.wrap IntKind.i64
                                                      (D.getInt d
                                                          (Int.toNat (IntKind.wrap IntKind.i64 ((↑(D.len d) : Int) - 1)))
                                                          0 +
                                                        1) +
                                                    IntKind.wrap IntKind.i64 (Int.tmod x 2)))))),
                                        SV.int IntKind.i64 te, SV.int IntKind.i64 ts, SV.int IntKind.i64 tst,
                                        SV.int IntKind.i64 tap, SV.vec 3, SV.vec 4, SV.lb true]),
                                  (1,
                                    OBlk.cells 67
                                      [SV.int IntKind.i64 0, SV.int IntKind.i64 0, SV.nils, SV.int IntKind.i64 0,
                                        SV.int IntKind.i64 0, SV.int IntKind.i64 0, SV.int IntKind.i64 0,
                                        SV.int IntKind.i64 0, SV.int IntKind.i64 0, SV.nils, SV.nils, SV.lb false]),
                                  (2,
                                    OBlk.cells 67
                                      [SV.int IntKind.i64 e, SV.int IntKind.i64 s, SV.dat d, SV.int IntKind.i64 st,
                                        SV.int IntKind.i64 ap, SV.int IntKind.i64 te, SV.int IntKind.i64 ts,
                                        SV.int IntKind.i64 tst, SV.int IntKind.i64 tap, SV.vec 5, SV.vec 4, SV.lb true]),
                                  (3,
                                    OBlk.arr 3
                                      (D.slc (D.hd (hs_2 0 0)) 1
                                        (List.append (D.rows (D.slc h1 1 r1))
                                          (D.rows
                                            (D.slc (D.hd (hs_1 0 0)) 1
                                              [[D.int IntKind.i64
                                                    (IntKind.wrap IntKind.i64
                                                      (IntKind.wrap IntKind.i64
                                                          (D.getInt d
                                                              (Int.toNat
                                                                (IntKind.wrap IntKind.i64 ((↑(D.len d) : Int) - 1)))
                                                              0 +
                                                            1) +
                                                        IntKind.wrap IntKind.i64 (Int.tmod x 2)))]]))))),
                                  (4, OBlk.arr 53 (D.slc h2 8 r2))]))))
                    (Tree.leaf
                      (Conf.mk
                        (SFrm.mk 38 none none
                          [Item.code (cAt Try.prog 38 [1, 1, 1, 0]), Item.code (cAt Try.prog 38 [1, 1, 1, 1])]
                          (mkJ 1 [(2, SV.ptr 0 0), (4, SV.ptr 1 0), (5, SV.nils)] 0 252))
                        [SFrm.mk 10 (some (opsAt Try.prog 10 [1, 1, 1, 0, 1, 0, 0, 1, 0, 0], [6])) (some 38)
                            [Item.inBlock 1, Item.code (cAt Try.prog 10 [1, 1, 1, 0, 1, 0, 0, 1, 1]),
                              Item.inLoop (cAt Try.prog 10 [1, 1, 1, 0, 1, 0, 0]), Item.inBlock 0,
                              Item.code (cAt Try.prog 10 [1, 1, 1, 1])]
                            (mkJ 0 [(0, SV.dat l), (3, SV.ptr 2 0), (4, SV.int IntKind.i64 i)] 0 155)]
                        [(0,
                            OBlk.cells 67
                              [SV.int IntKind.i64 e, SV.int IntKind.i64 s, SV.dat d, SV.int IntKind.i64 st,
                                SV.int IntKind.i64 ap, SV.int IntKind.i64 te, SV.int IntKind.i64 ts,
                                SV.int IntKind.i64 tst, SV.int IntKind.i64 tap, SV.vec 3, SV.vec 4, SV.lb true]),
                          (1,
                            OBlk.cells 67
                              [SV.int IntKind.i64 0, SV.int IntKind.i64 0, SV.nils, SV.int IntKind.i64 0,
                                SV.int IntKind.i64 0, SV.int IntKind.i64 0, SV.int IntKind.i64 0, SV.int IntKind.i64 0,
                                SV.int IntKind.i64 0, SV.nils, SV.nils, SV.lb false]),
                          (2,
                            OBlk.cells 67
                              [SV.int IntKind.i64 e, SV.int IntKind.i64 s, SV.dat d, SV.int IntKind.i64 st,
                                SV.int IntKind.i64 ap, SV.int IntKind.i64 te, SV.int IntKind.i64 ts,
                                SV.int IntKind.i64 tst, SV.int IntKind.i64 tap, SV.vec 3, SV.vec 4, SV.lb true]),
                          (3, OBlk.arr 3 (D.slc h1 1 r1)), (4, OBlk.arr 53 (D.slc h2 8 r2))])))))))
        (Tree.need ((2 : Int) ≠ 0)
          (Tree.need (D.Is Int d)
            (Tree.all fun hs =>
              Tree.br
                (decide
                  (Prod.snd
                      (Prod.snd
                        (offer (SrcD.src (SrcD.mk e s d st ap))
                          (IntKind.wrap IntKind.i64
                            (IntKind.wrap IntKind.i64 (ap + 1) + IntKind.wrap IntKind.i64 (Int.tmod x 2))))) =
                    0))
                (Tree.need ((2 : Int) ≠ 0)
                  (Tree.all fun hs_1 =>
                    Tree.need
                      (D.sz (D.slc h1 1 r1) = 1 ∧
                        D.Fits
                            (D.slc (D.hd (hs_1 0 0)) 1
                              [[D.int IntKind.i64
                                    (IntKind.wrap IntKind.i64
                                      (IntKind.wrap IntKind.i64 (ap + 1) + IntKind.wrap IntKind.i64 (Int.tmod x 2)))]])
                            1 ∧
                          (D.len (D.slc h1 1 r1) +
                                  D.len
                                    (D.slc (D.hd (hs_1 0 0)) 1
                                      [[D.int IntKind.i64
                                            (IntKind.wrap IntKind.i64
                                              (IntKind.wrap IntKind.i64 (ap + 1) +
                                                IntKind.wrap IntKind.i64 (Int.tmod x 2)))]])) *
                                8 ≤
                              140737488355328 ∧
                            D.len (D.slc h1 1 r1) +
                                D.len
                                  (D.slc (D.hd (hs_1 0 0)) 1
                                    [[D.int IntKind.i64
                                          (IntKind.wrap IntKind.i64
                                            (IntKind.wrap IntKind.i64 (ap + 1) +
                                              IntKind.wrap IntKind.i64 (Int.tmod x 2)))]]) ≤
                              9223372036854775807)
                      (Tree.all fun hs_2 =>
                        Tree.leaf
                          (Conf.mk
                            (SFrm.mk 38 none none
                              [Item.code (cAt Try.prog 38 [1, 1, 1, 0]), Item.code (cAt Try.prog 38 [1, 1, 1, 1])]
                              (mkJ 1
                                [(2, SV.ptr 0 0), (4, SV.ptr 1 0),
                                  (5,
                                    SV.dat
                                      (D.like (hs 0 1)
                                        (Prod.fst
                                          (Prod.snd
                                            (offer (SrcD.src (SrcD.mk e s d st ap))
                                              (IntKind.wrap IntKind.i64
                                                (IntKind.wrap IntKind.i64 (ap + 1) +
                                                  IntKind.wrap IntKind.i64 (Int.tmod x 2))))))))]
                                0 252))
                            [SFrm.mk 10 (some (opsAt Try.prog 10 [1, 1, 1, 0, 1, 0, 0, 1, 0, 0], [6])) (some 38)
                                [Item.inBlock 1, Item.code (cAt Try.prog 10 [1, 1, 1, 0, 1, 0, 0, 1, 1]),
                                  Item.inLoop (cAt Try.prog 10 [1, 1, 1, 0, 1, 0, 0]), Item.inBlock 0,
                                  Item.code (cAt Try.prog 10 [1, 1, 1, 1])]
                                (mkJ 0 [(0, SV.dat l), (3, SV.ptr 2 0), (4, SV.int IntKind.i64 i)] 0 155)]
                            [(0,
                                OBlk.cells 67
                                  [SV.int IntKind.i64
                                      (Src.epoch
                                        (Prod.fst
                                          (offer (SrcD.src (SrcD.mk e s d st ap))
                                            (IntKind.wrap IntKind.i64
                                              (IntKind.wrap IntKind.i64 (ap + 1) +
                                                IntKind.wrap IntKind.i64 (Int.tmod x 2)))))),
                                    SV.int IntKind.i64
                                      (Src.site
                                        (Prod.fst
                                          (offer (SrcD.src (SrcD.mk e s d st ap))
                                            (IntKind.wrap IntKind.i64
                                              (IntKind.wrap IntKind.i64 (ap + 1) +
                                                IntKind.wrap IntKind.i64 (Int.tmod x 2)))))),
                                    SV.dat
                                      (D.like (hs 0 0)
                                        (Src.offered
                                          (Prod.fst
                                            (offer (SrcD.src (SrcD.mk e s d st ap))
                                              (IntKind.wrap IntKind.i64
                                                (IntKind.wrap IntKind.i64 (ap + 1) +
                                                  IntKind.wrap IntKind.i64 (Int.tmod x 2))))))),
                                    SV.int IntKind.i64
                                      (Src.stored
                                        (Prod.fst
                                          (offer (SrcD.src (SrcD.mk e s d st ap))
                                            (IntKind.wrap IntKind.i64
                                              (IntKind.wrap IntKind.i64 (ap + 1) +
                                                IntKind.wrap IntKind.i64 (Int.tmod x 2)))))),
                                    SV.int IntKind.i64
                                      (Src.applied
                                        (Prod.fst
                                          (offer (SrcD.src (SrcD.mk e s d st ap))
                                            (IntKind.wrap IntKind.i64
                                              (IntKind.wrap IntKind.i64 (ap + 1) +
                                                IntKind.wrap IntKind.i64 (Int.tmod x 2)))))),
                                    SV.int IntKind.i64 te, SV.int IntKind.i64 ts, SV.int IntKind.i64 tst,
                                    SV.int IntKind.i64 tap, SV.vec 3, SV.vec 4, SV.lb true]),
                              (1,
                                OBlk.cells 67
                                  [SV.int IntKind.i64 0, SV.int IntKind.i64 0, SV.nils, SV.int IntKind.i64 0,
                                    SV.int IntKind.i64 0, SV.int IntKind.i64 0, SV.int IntKind.i64 0,
                                    SV.int IntKind.i64 0, SV.int IntKind.i64 0, SV.nils, SV.nils, SV.lb false]),
                              (2,
                                OBlk.cells 67
                                  [SV.int IntKind.i64 e, SV.int IntKind.i64 s, SV.dat d, SV.int IntKind.i64 st,
                                    SV.int IntKind.i64 ap, SV.int IntKind.i64 te, SV.int IntKind.i64 ts,
                                    SV.int IntKind.i64 tst, SV.int IntKind.i64 tap, SV.vec 5, SV.vec 4, SV.lb true]),
                              (3,
                                OBlk.arr 3
                                  (D.slc (D.hd (hs_2 0 0)) 1
                                    (List.append (D.rows (D.slc h1 1 r1))
                                      (D.rows
                                        (D.slc (D.hd (hs_1 0 0)) 1
                                          [[D.int IntKind.i64
                                                (IntKind.wrap IntKind.i64
                                                  (IntKind.wrap IntKind.i64 (ap + 1) +
                                                    IntKind.wrap IntKind.i64 (Int.tmod x 2)))]]))))),
                              (4, OBlk.arr 53 (D.slc h2 8 r2))]))))
                (Tree.leaf
                  (Conf.mk
                    (SFrm.mk 38 none none
                      [Item.code (cAt Try.prog 38 [1, 1, 1, 0]), Item.code (cAt Try.prog 38 [1, 1, 1, 1])]
                      (mkJ 1 [(2, SV.ptr 0 0), (4, SV.ptr 1 0), (5, SV.nils)] 0 252))
                    [SFrm.mk 10 (some (opsAt Try.prog 10 [1, 1, 1, 0, 1, 0, 0, 1, 0, 0], [6])) (some 38)
                        [Item.inBlock 1, Item.code (cAt Try.prog 10 [1, 1, 1, 0, 1, 0, 0, 1, 1]),
                          Item.inLoop (cAt Try.prog 10 [1, 1, 1, 0, 1, 0, 0]), Item.inBlock 0,
                          Item.code (cAt Try.prog 10 [1, 1, 1, 1])]
                        (mkJ 0 [(0, SV.dat l), (3, SV.ptr 2 0), (4, SV.int IntKind.i64 i)] 0 155)]
                    [(0,
                        OBlk.cells 67
                          [SV.int IntKind.i64 e, SV.int IntKind.i64 s, SV.dat d, SV.int IntKind.i64 st,
                            SV.int IntKind.i64 ap, SV.int IntKind.i64 te, SV.int IntKind.i64 ts, SV.int IntKind.i64 tst,
                            SV.int IntKind.i64 tap, SV.vec 3, SV.vec 4, SV.lb true]),
                      (1,
                        OBlk.cells 67
                          [SV.int IntKind.i64 0, SV.int IntKind.i64 0, SV.nils, SV.int IntKind.i64 0,
                            SV.int IntKind.i64 0, SV.int IntKind.i64 0, SV.int IntKind.i64 0, SV.int IntKind.i64 0,
                            SV.int IntKind.i64 0, SV.nils, SV.nils, SV.lb false]),
                      (2,
                        OBlk.cells 67
                          [SV.int IntKind.i64 e, SV.int IntKind.i64 s, SV.dat d, SV.int IntKind.i64 st,
                            SV.int IntKind.i64 ap, SV.int IntKind.i64 te, SV.int IntKind.i64 ts, SV.int IntKind.i64 tst,
                            SV.int IntKind.i64 tap, SV.vec 3, SV.vec 4, SV.lb true]),
                      (3, OBlk.arr 3 (D.slc h1 1 r1)), (4, OBlk.arr 53 (D.slc h2 8 r2))]))))))
      (Tree.br (decide (Int.tmod k 7 = 1))
        (Tree.leaf
          (Conf.mk
            (SFrm.mk 38 none none
              [Item.inLoop (cAt Try.prog 38 [1, 1, 0, 1, 0, 1, 1, 1, 0, 1, 0, 0]), Item.inBlock 1, Item.inBlock 0,
                Item.code (cAt Try.prog 38 [1, 1, 1])]
              (mkJ 1 [(2, SV.ptr 0 0), (4, SV.ptr 1 0), (5, SV.nils), (10, SV.int IntKind.i64 0)] 0 252))
            [SFrm.mk 10 (some (opsAt Try.prog 10 [1, 1, 1, 0, 1, 0, 0, 1, 0, 0], [6])) (some 38)
                [Item.inBlock 1, Item.code (cAt Try.prog 10 [1, 1, 1, 0, 1, 0, 0, 1, 1]),
                  Item.inLoop (cAt Try.prog 10 [1, 1, 1, 0, 1, 0, 0]), Item.inBlock 0,
                  Item.code (cAt Try.prog 10 [1, 1, 1, 1])]
                (mkJ 0 [(0, SV.dat l), (3, SV.ptr 2 0), (4, SV.int IntKind.i64 i)] 0 155)]
            [(0,
                OBlk.cells 67
                  [SV.int IntKind.i64 e, SV.int IntKind.i64 s, SV.dat d, SV.int IntKind.i64 st, SV.int IntKind.i64 ap,
                    SV.int IntKind.i64 te, SV.int IntKind.i64 ts, SV.int IntKind.i64 tst, SV.int IntKind.i64 tap,
                    SV.vec 3, SV.vec 4, SV.lb true]),
              (1,
                OBlk.cells 67
                  [SV.int IntKind.i64 0, SV.int IntKind.i64 0, SV.nils, SV.int IntKind.i64 0, SV.int IntKind.i64 0,
                    SV.int IntKind.i64 0, SV.int IntKind.i64 0, SV.int IntKind.i64 0, SV.int IntKind.i64 0, SV.nils,
                    SV.nils, SV.lb false]),
              (2,
                OBlk.cells 67
                  [SV.int IntKind.i64 e, SV.int IntKind.i64 s, SV.dat d, SV.int IntKind.i64 st, SV.int IntKind.i64 ap,
                    SV.int IntKind.i64 te, SV.int IntKind.i64 ts, SV.int IntKind.i64 tst, SV.int IntKind.i64 tap,
                    SV.vec 3, SV.vec 4, SV.lb true]),
              (3, OBlk.arr 3 (D.slc h1 1 r1)), (4, OBlk.arr 53 (D.slc h2 8 r2))]))
        (Tree.br (decide (Int.tmod k 7 = 2))
          (Tree.leaf
            (Conf.mk
              (SFrm.mk 38 none none
                [Item.inLoop (cAt Try.prog 38 [1, 1, 0, 1, 0, 1, 1, 1, 1, 1, 0, 1, 0, 0]), Item.inBlock 3, Item.inBlock 0,
                  Item.code (cAt Try.prog 38 [1, 1, 1])]
                (mkJ 1
                  [(2, SV.ptr 0 0), (3, SV.ptr 1 0), (4, SV.ptr 2 0), (5, SV.nils),
                    (15, SV.int IntKind.i64 (IntKind.wrap IntKind.i64 ((↑(D.len d) : Int) - 1)))]
                  0 252))
              [SFrm.mk 10 (some (opsAt Try.prog 10 [1, 1, 1, 0, 1, 0, 0, 1, 0, 0], [6])) (some 38)
                  [Item.inBlock 1, Item.code (cAt Try.prog 10 [1, 1, 1, 0, 1, 0, 0, 1, 1]),
                    Item.inLoop (cAt Try.prog 10 [1, 1, 1, 0, 1, 0, 0]), Item.inBlock 0,
                    Item.code (cAt Try.prog 10 [1, 1, 1, 1])]
                  (mkJ 0 [(0, SV.dat l), (3, SV.ptr 3 0), (4, SV.int IntKind.i64 i)] 0 155)]
              [(0,
                  OBlk.cells 67
                    [SV.int IntKind.i64 e, SV.int IntKind.i64 s, SV.dat d, SV.int IntKind.i64 st, SV.int IntKind.i64 ap,
                      SV.int IntKind.i64 te, SV.int IntKind.i64 ts, SV.int IntKind.i64 tst, SV.int IntKind.i64 tap,
                      SV.vec 4, SV.vec 5, SV.lb true]),
                (1, OBlk.cells 71 [SV.int IntKind.u8 k, SV.int IntKind.u8 x]),
                (2,
                  OBlk.cells 67
                    [SV.int IntKind.i64 0, SV.int IntKind.i64 0, SV.nils, SV.int IntKind.i64 0, SV.int IntKind.i64 0,
                      SV.int IntKind.i64 0, SV.int IntKind.i64 0, SV.int IntKind.i64 0, SV.int IntKind.i64 0, SV.nils,
                      SV.nils, SV.lb false]),
                (3,
                  OBlk.cells 67
                    [SV.int IntKind.i64 e, SV.int IntKind.i64 s, SV.dat d, SV.int IntKind.i64 st, SV.int IntKind.i64 ap,
                      SV.int IntKind.i64 te, SV.int IntKind.i64 ts, SV.int IntKind.i64 tst, SV.int IntKind.i64 tap,
                      SV.vec 4, SV.vec 5, SV.lb true]),
                (4, OBlk.arr 3 (D.slc h1 1 r1)), (5, OBlk.arr 53 (D.slc h2 8 r2))]))
          (Tree.br (decide (Int.tmod k 7 = 3))
            (Tree.br (decide ((↑(D.len (D.slc h2 8 r2)) : Int) > 0))
              (Tree.all fun hs =>
                Tree.need ((↑(D.len (D.slc h2 8 r2)) : Int) ≠ 0)
                  (Tree.need
                    (0 ≤ Int.tmod (IntKind.wrap IntKind.i64 x) (↑(D.len (D.slc h2 8 r2)) : Int) ∧
                      Int.tmod (IntKind.wrap IntKind.i64 x) (↑(D.len (D.slc h2 8 r2)) : Int) <
                          (↑(D.len (D.slc h2 8 r2)) : Int) ∧
                        D.sz (D.slc h2 8 r2) = 8)
                    (Tree.need
                      (D.HasCells (D.slc h2 8 r2)
                          (Int.toNat (Int.tmod (IntKind.wrap IntKind.i64 x) (↑(D.len (D.slc h2 8 r2)) : Int))) 0
                          [FT.int IntKind.i64, FT.int IntKind.i64, FT.int IntKind.i64, FT.int IntKind.i64,
                            FT.int IntKind.i64, FT.int IntKind.i64, FT.slc, FT.slc] ∧
                        D.sz (D.slc h2 8 r2) = 8)
                      (Tree.need (D.Is Int d)
                        (Tree.leaf
                          (Conf.mk
                            (SFrm.mk 38 none none
                              [Item.code (cAt Try.prog 38 [1, 1, 1, 0]), Item.code (cAt Try.prog 38 [1, 1, 1, 1])]
                              (mkJ 1
                                [(2, SV.ptr 0 0), (4, SV.ptr 1 0),
                                  (5,
                                    SV.dat
                                      (D.like (hs 13 1)
                                        (Prod.snd
                                          (learn (SrcD.src (SrcD.mk e s d st ap))
                                            (MsgD.msg
                                              (MsgD.mk
                                                (D.getInt (D.slc h2 8 r2)
                                                  (Int.toNat
                                                    (Int.tmod (IntKind.wrap IntKind.i64 x)
                                                      (↑(D.len (D.slc h2 8 r2)) : Int)))
                                                  0)
                                                (D.getInt (D.slc h2 8 r2)
                                                  (Int.toNat
                                                    (Int.tmod (IntKind.wrap IntKind.i64 x)
                                                      (↑(D.len (D.slc h2 8 r2)) : Int)))
                                                  1)
                                                (D.getInt (D.slc h2 8 r2)
                                                  (Int.toNat
                                                    (Int.tmod (IntKind.wrap IntKind.i64 x)
                                                      (↑(D.len (D.slc h2 8 r2)) : Int)))
                                                  2)
                                                (D.getInt (D.slc h2 8 r2)
                                                  (Int.toNat
                                                    (Int.tmod (IntKind.wrap IntKind.i64 x)
                                                      (↑(D.len (D.slc h2 8 r2)) : Int)))
                                                  3)
                                                (D.getInt (D.slc h2 8 r2)
                                                  (Int.toNat
                                                    (Int.tmod (IntKind.wrap IntKind.i64 x)
                                                      (↑(D.len (D.slc h2 8 r2)) : Int)))
                                                  4)
                                                (D.getInt (D.slc h2 8 r2)
                                                  (Int.toNat
                                                    (Int.tmod (IntKind.wrap IntKind.i64 x)
                                                      (↑(D.len (D.slc h2 8 r2)) : Int)))
                                                  5)
                                                (D.cell (D.slc h2 8 r2)
                                                  (Int.toNat
                                                    (Int.tmod (IntKind.wrap IntKind.i64 x)
                                                      (↑(D.len (D.slc h2 8 r2)) : Int)))
                                                  6)
                                                (D.cell (D.slc h2 8 r2)
                                                  (Int.toNat
                                                    (Int.tmod (IntKind.wrap IntKind.i64 x)
                                                      (↑(D.len (D.slc h2 8 r2)) : Int)))
                                                  7)))))))]
                                0 252))
                            [SFrm.mk 10 (some (opsAt Try.prog 10 [1, 1, 1, 0, 1, 0, 0, 1, 0, 0], [6])) (some 38)
                                [Item.inBlock 1, Item.code (cAt Try.prog 10 [1, 1, 1, 0, 1, 0, 0, 1, 1]),
                                  Item.inLoop (cAt Try.prog 10 [1, 1, 1, 0, 1, 0, 0]), Item.inBlock 0,
                                  Item.code (cAt Try.prog 10 [1, 1, 1, 1])]
                                (mkJ 0 [(0, SV.dat l), (3, SV.ptr 2 0), (4, SV.int IntKind.i64 i)] 0 155)]
                            [(0,
                                OBlk.cells 67
                                  [SV.int IntKind.i64
                                      (Src.epoch
                                        (Prod.fst
                                          (learn (SrcD.src (SrcD.mk e s d st ap))
                                            (MsgD.msg
                                              (MsgD.mk
                                                (D.getInt (D.slc h2 8 r2)
                                                  (Int.toNat
                                                    (Int.tmod (IntKind.wrap IntKind.i64 x)
                                                      (↑(D.len (D.slc h2 8 r2)) : Int)))
                                                  0)
                                                (D.getInt (D.slc h2 8 r2)
                                                  (Int.toNat
                                                    (Int.tmod (IntKind.wrap IntKind.i64 x)
                                                      (↑(D.len (D.slc h2 8 r2)) : Int)))
                                                  1)
                                                (D.getInt (D.slc h2 8 r2)
                                                  (Int.toNat
                                                    (Int.tmod (IntKind.wrap IntKind.i64 x)
                                                      (↑(D.len (D.slc h2 8 r2)) : Int)))
                                                  2)
                                                (D.getInt (D.slc h2 8 r2)
                                                  (Int.toNat
                                                    (Int.tmod (IntKind.wrap IntKind.i64 x)
                                                      (↑(D.len (D.slc h2 8 r2)) : Int)))
                                                  3)
                                                (D.getInt (D.slc h2 8 r2)
                                                  (Int.toNat
                                                    (Int.tmod (IntKind.wrap IntKind.i64 x)
                                                      (↑(D.len (D.slc h2 8 r2)) : Int)))
                                                  4)
                                                (D.getInt (D.slc h2 8 r2)
                                                  (Int.toNat
                                                    (Int.tmod (IntKind.wrap IntKind.i64 x)
                                                      (↑(D.len (D.slc h2 8 r2)) : Int)))
                                                  5)
                                                (D.cell (D.slc h2 8 r2)
                                                  (Int.toNat
                                                    (Int.tmod (IntKind.wrap IntKind.i64 x)
                                                      (↑(D.len (D.slc h2 8 r2)) : Int)))
                                                  6)
                                                (D.cell (D.slc h2 8 r2)
                                                  (Int.toNat
                                                    (Int.tmod (IntKind.wrap IntKind.i64 x)
                                                      (↑(D.len (D.slc h2 8 r2)) : Int)))
                                                  7)))))),
                                    SV.int IntKind.i64
                                      (Src.site
                                        (Prod.fst
                                          (learn (SrcD.src (SrcD.mk e s d st ap))
                                            (MsgD.msg
                                              (MsgD.mk
                                                (D.getInt (D.slc h2 8 r2)
                                                  (Int.toNat
                                                    (Int.tmod (IntKind.wrap IntKind.i64 x)
                                                      (↑(D.len (D.slc h2 8 r2)) : Int)))
                                                  0)
                                                (D.getInt (D.slc h2 8 r2)
                                                  (Int.toNat
                                                    (Int.tmod (IntKind.wrap IntKind.i64 x)
                                                      (↑(D.len (D.slc h2 8 r2)) : Int)))
                                                  1)
                                                (D.getInt (D.slc h2 8 r2)
                                                  (Int.toNat
                                                    (Int.tmod (IntKind.wrap IntKind.i64 x)
                                                      (↑(D.len (D.slc h2 8 r2)) : Int)))
                                                  2)
                                                (D.getInt (D.slc h2 8 r2)
                                                  (Int.toNat
                                                    (Int.tmod (IntKind.wrap IntKind.i64 x)
                                                      (↑(D.len (D.slc h2 8 r2)) : Int)))
                                                  3)
                                                (D.getInt (D.slc h2 8 r2)
                                                  (Int.toNat
                                                    (Int.tmod (IntKind.wrap IntKind.i64 x)
                                                      (↑(D.len (D.slc h2 8 r2)) : Int)))
                                                  4)
                                                (D.getInt (D.slc h2 8 r2)
                                                  (Int.toNat
                                                    (Int.tmod (IntKind.wrap IntKind.i64 x)
                                                      (↑(D.len (D.slc h2 8 r2)) : Int)))
                                                  5)
                                                (D.cell (D.slc h2 8 r2)
                                                  (Int.toNat
                                                    (Int.tmod (IntKind.wrap IntKind.i64 x)
                                                      (↑(D.len (D.slc h2 8 r2)) : Int)))
                                                  6)
                                                (D.cell (D.slc h2 8 r2)
                                                  (Int.toNat
                                                    (Int.tmod (IntKind.wrap IntKind.i64 x)
                                                      (↑(D.len (D.slc h2 8 r2)) : Int)))
                                                  7)))))),
                                    SV.dat
                                      (D.like (hs 13 0)
                                        (Src.offered
                                          (Prod.fst
                                            (learn (SrcD.src (SrcD.mk e s d st ap))
                                              (MsgD.msg
                                                (MsgD.mk
                                                  (D.getInt (D.slc h2 8 r2)
                                                    (Int.toNat
                                                      (Int.tmod (IntKind.wrap IntKind.i64 x)
                                                        (↑(D.len (D.slc h2 8 r2)) : Int)))
                                                    0)
                                                  (D.getInt (D.slc h2 8 r2)
                                                    (Int.toNat
                                                      (Int.tmod (IntKind.wrap IntKind.i64 x)
                                                        (↑(D.len (D.slc h2 8 r2)) : Int)))
                                                    1)
                                                  (D.getInt (D.slc h2 8 r2)
                                                    (Int.toNat
                                                      (Int.tmod (IntKind.wrap IntKind.i64 x)
                                                        (↑(D.len (D.slc h2 8 r2)) : Int)))
                                                    2)
                                                  (D.getInt (D.slc h2 8 r2)
                                                    (Int.toNat
                                                      (Int.tmod (IntKind.wrap IntKind.i64 x)
                                                        (↑(D.len (D.slc h2 8 r2)) : Int)))
                                                    3)
                                                  (D.getInt (D.slc h2 8 r2)
                                                    (Int.toNat
                                                      (Int.tmod (IntKind.wrap IntKind.i64 x)
                                                        (↑(D.len (D.slc h2 8 r2)) : Int)))
                                                    4)
                                                  (D.getInt (D.slc h2 8 r2)
                                                    (Int.toNat
                                                      (Int.tmod (IntKind.wrap IntKind.i64 x)
                                                        (↑(D.len (D.slc h2 8 r2)) : Int)))
                                                    5)
                                                  (D.cell (D.slc h2 8 r2)
                                                    (Int.toNat
                                                      (Int.tmod (IntKind.wrap IntKind.i64 x)
                                                        (↑(D.len (D.slc h2 8 r2)) : Int)))
                                                    6)
                                                  (D.cell (D.slc h2 8 r2)
                                                    (Int.toNat
                                                      (Int.tmod (IntKind.wrap IntKind.i64 x)
                                                        (↑(D.len (D.slc h2 8 r2)) : Int)))
                                                    7))))))),
                                    SV.int IntKind.i64
                                      (Src.stored
                                        (Prod.fst
                                          (learn (SrcD.src (SrcD.mk e s d st ap))
                                            (MsgD.msg
                                              (MsgD.mk
                                                (D.getInt (D.slc h2 8 r2)
                                                  (Int.toNat
                                                    (Int.tmod (IntKind.wrap IntKind.i64 x)
                                                      (↑(D.len (D.slc h2 8 r2)) : Int)))
                                                  0)
                                                (D.getInt (D.slc h2 8 r2)
                                                  (Int.toNat
                                                    (Int.tmod (IntKind.wrap IntKind.i64 x)
                                                      (↑(D.len (D.slc h2 8 r2)) : Int)))
                                                  1)
                                                (D.getInt (D.slc h2 8 r2)
                                                  (Int.toNat
                                                    (Int.tmod (IntKind.wrap IntKind.i64 x)
                                                      (↑(D.len (D.slc h2 8 r2)) : Int)))
                                                  2)
                                                (D.getInt (D.slc h2 8 r2)
                                                  (Int.toNat
                                                    (Int.tmod (IntKind.wrap IntKind.i64 x)
                                                      (↑(D.len (D.slc h2 8 r2)) : Int)))
                                                  3)
                                                (D.getInt (D.slc h2 8 r2)
                                                  (Int.toNat
                                                    (Int.tmod (IntKind.wrap IntKind.i64 x)
                                                      (↑(D.len (D.slc h2 8 r2)) : Int)))
                                                  4)
                                                (D.getInt (D.slc h2 8 r2)
                                                  (Int.toNat
                                                    (Int.tmod (IntKind.wrap IntKind.i64 x)
                                                      (↑(D.len (D.slc h2 8 r2)) : Int)))
                                                  5)
                                                (D.cell (D.slc h2 8 r2)
                                                  (Int.toNat
                                                    (Int.tmod (IntKind.wrap IntKind.i64 x)
                                                      (↑(D.len (D.slc h2 8 r2)) : Int)))
                                                  6)
                                                (D.cell (D.slc h2 8 r2)
                                                  (Int.toNat
                                                    (Int.tmod (IntKind.wrap IntKind.i64 x)
                                                      (↑(D.len (D.slc h2 8 r2)) : Int)))
                                                  7)))))),
                                    SV.int IntKind.i64
                                      (Src.applied
                                        (Prod.fst
                                          (learn (SrcD.src (SrcD.mk e s d st ap))
                                            (MsgD.msg
                                              (MsgD.mk
                                                (D.getInt (D.slc h2 8 r2)
                                                  (Int.toNat
                                                    (Int.tmod (IntKind.wrap IntKind.i64 x)
                                                      (↑(D.len (D.slc h2 8 r2)) : Int)))
                                                  0)
                                                (D.getInt (D.slc h2 8 r2)
                                                  (Int.toNat
                                                    (Int.tmod (IntKind.wrap IntKind.i64 x)
                                                      (↑(D.len (D.slc h2 8 r2)) : Int)))
                                                  1)
                                                (D.getInt (D.slc h2 8 r2)
                                                  (Int.toNat
                                                    (Int.tmod (IntKind.wrap IntKind.i64 x)
                                                      (↑(D.len (D.slc h2 8 r2)) : Int)))
                                                  2)
                                                (D.getInt (D.slc h2 8 r2)
                                                  (Int.toNat
                                                    (Int.tmod (IntKind.wrap IntKind.i64 x)
                                                      (↑(D.len (D.slc h2 8 r2)) : Int)))
                                                  3)
                                                (D.getInt (D.slc h2 8 r2)
                                                  (Int.toNat
                                                    (Int.tmod (IntKind.wrap IntKind.i64 x)
                                                      (↑(D.len (D.slc h2 8 r2)) : Int)))
                                                  4)
                                                (D.getInt (D.slc h2 8 r2)
                                                  (Int.toNat
                                                    (Int.tmod (IntKind.wrap IntKind.i64 x)
                                                      (↑(D.len (D.slc h2 8 r2)) : Int)))
                                                  5)
                                                (D.cell (D.slc h2 8 r2)
                                                  (Int.toNat
                                                    (Int.tmod (IntKind.wrap IntKind.i64 x)
                                                      (↑(D.len (D.slc h2 8 r2)) : Int)))
                                                  6)
                                                (D.cell (D.slc h2 8 r2)
                                                  (Int.toNat
                                                    (Int.tmod (IntKind.wrap IntKind.i64 x)
                                                      (↑(D.len (D.slc h2 8 r2)) : Int)))
                                                  7)))))),
                                    SV.int IntKind.i64 te, SV.int IntKind.i64 ts, SV.int IntKind.i64 tst,
                                    SV.int IntKind.i64 tap, SV.vec 3, SV.vec 4, SV.lb true]),
                              (1,
                                OBlk.cells 67
                                  [SV.int IntKind.i64 0, SV.int IntKind.i64 0, SV.nils, SV.int IntKind.i64 0,
                                    SV.int IntKind.i64 0, SV.int IntKind.i64 0, SV.int IntKind.i64 0,
                                    SV.int IntKind.i64 0, SV.int IntKind.i64 0, SV.nils, SV.nils, SV.lb false]),
                              (2,
                                OBlk.cells 67
                                  [SV.int IntKind.i64 e, SV.int IntKind.i64 s, SV.dat d, SV.int IntKind.i64 st,
                                    SV.int IntKind.i64 ap, SV.int IntKind.i64 te, SV.int IntKind.i64 ts,
                                    SV.int IntKind.i64 tst, SV.int IntKind.i64 tap, SV.vec 3, SV.vec 4, SV.lb true]),
                              (3, OBlk.arr 3 (D.slc h1 1 r1)), (4, OBlk.arr 53 (D.slc h2 8 r2))]))))))
              (Tree.leaf
                (Conf.mk
                  (SFrm.mk 38 none none
                    [Item.code (cAt Try.prog 38 [1, 1, 1, 0]), Item.code (cAt Try.prog 38 [1, 1, 1, 1])]
                    (mkJ 1 [(2, SV.ptr 0 0), (4, SV.ptr 1 0), (5, SV.nils)] 0 252))
                  [SFrm.mk 10 (some (opsAt Try.prog 10 [1, 1, 1, 0, 1, 0, 0, 1, 0, 0], [6])) (some 38)
                      [Item.inBlock 1, Item.code (cAt Try.prog 10 [1, 1, 1, 0, 1, 0, 0, 1, 1]),
                        Item.inLoop (cAt Try.prog 10 [1, 1, 1, 0, 1, 0, 0]), Item.inBlock 0,
                        Item.code (cAt Try.prog 10 [1, 1, 1, 1])]
                      (mkJ 0 [(0, SV.dat l), (3, SV.ptr 2 0), (4, SV.int IntKind.i64 i)] 0 155)]
                  [(0,
                      OBlk.cells 67
                        [SV.int IntKind.i64 e, SV.int IntKind.i64 s, SV.dat d, SV.int IntKind.i64 st,
                          SV.int IntKind.i64 ap, SV.int IntKind.i64 te, SV.int IntKind.i64 ts, SV.int IntKind.i64 tst,
                          SV.int IntKind.i64 tap, SV.vec 3, SV.vec 4, SV.lb true]),
                    (1,
                      OBlk.cells 67
                        [SV.int IntKind.i64 0, SV.int IntKind.i64 0, SV.nils, SV.int IntKind.i64 0, SV.int IntKind.i64 0,
                          SV.int IntKind.i64 0, SV.int IntKind.i64 0, SV.int IntKind.i64 0, SV.int IntKind.i64 0, SV.nils,
                          SV.nils, SV.lb false]),
                    (2,
                      OBlk.cells 67
                        [SV.int IntKind.i64 e, SV.int IntKind.i64 s, SV.dat d, SV.int IntKind.i64 st,
                          SV.int IntKind.i64 ap, SV.int IntKind.i64 te, SV.int IntKind.i64 ts, SV.int IntKind.i64 tst,
                          SV.int IntKind.i64 tap, SV.vec 3, SV.vec 4, SV.lb true]),
                    (3, OBlk.arr 3 (D.slc h1 1 r1)), (4, OBlk.arr 53 (D.slc h2 8 r2))])))
            (Tree.br (decide (Int.tmod k 7 = 4))
              (Tree.br (decide ((↑(D.len (D.slc h2 8 r2)) : Int) > 0))
                (Tree.all fun hs =>
                  Tree.need ((↑(D.len (D.slc h2 8 r2)) : Int) ≠ 0)
                    (Tree.need
                      (0 ≤ Int.tmod (IntKind.wrap IntKind.i64 x) (↑(D.len (D.slc h2 8 r2)) : Int) ∧
                        Int.tmod (IntKind.wrap IntKind.i64 x) (↑(D.len (D.slc h2 8 r2)) : Int) <
                            (↑(D.len (D.slc h2 8 r2)) : Int) ∧
                          D.sz (D.slc h2 8 r2) = 8)
                      (Tree.need
                        (D.HasCells (D.slc h2 8 r2)
                            (Int.toNat (Int.tmod (IntKind.wrap IntKind.i64 x) (↑(D.len (D.slc h2 8 r2)) : Int))) 0
                            [FT.int IntKind.i64, FT.int IntKind.i64, FT.int IntKind.i64, FT.int IntKind.i64,
                              FT.int IntKind.i64, FT.int IntKind.i64, FT.slc, FT.slc] ∧
                          D.sz (D.slc h2 8 r2) = 8)
                        (Tree.leaf
                          (Conf.mk
                            (SFrm.mk 38 none none
                              [Item.code (cAt Try.prog 38 [1, 1, 1, 0]), Item.code (cAt Try.prog 38 [1, 1, 1, 1])]
                              (mkJ 1
                                [(2, SV.ptr 0 0), (4, SV.ptr 1 0),
                                  (5,
                                    SV.dat
                                      (D.like (hs 13 0)
                                        (Prod.snd
                                          (answer (Tgt.mk te ts tst tap)
                                            (MsgD.msg
                                              (MsgD.mk
                                                (D.getInt (D.slc h2 8 r2)
                                                  (Int.toNat
                                                    (Int.tmod (IntKind.wrap IntKind.i64 x)
                                                      (↑(D.len (D.slc h2 8 r2)) : Int)))
                                                  0)
                                                (D.getInt (D.slc h2 8 r2)
                                                  (Int.toNat
                                                    (Int.tmod (IntKind.wrap IntKind.i64 x)
                                                      (↑(D.len (D.slc h2 8 r2)) : Int)))
                                                  1)
                                                (D.getInt (D.slc h2 8 r2)
                                                  (Int.toNat
                                                    (Int.tmod (IntKind.wrap IntKind.i64 x)
                                                      (↑(D.len (D.slc h2 8 r2)) : Int)))
                                                  2)
                                                (D.getInt (D.slc h2 8 r2)
                                                  (Int.toNat
                                                    (Int.tmod (IntKind.wrap IntKind.i64 x)
                                                      (↑(D.len (D.slc h2 8 r2)) : Int)))
                                                  3)
                                                (D.getInt (D.slc h2 8 r2)
                                                  (Int.toNat
                                                    (Int.tmod (IntKind.wrap IntKind.i64 x)
                                                      (↑(D.len (D.slc h2 8 r2)) : Int)))
                                                  4)
                                                (D.getInt (D.slc h2 8 r2)
                                                  (Int.toNat
                                                    (Int.tmod (IntKind.wrap IntKind.i64 x)
                                                      (↑(D.len (D.slc h2 8 r2)) : Int)))
                                                  5)
                                                (D.cell (D.slc h2 8 r2)
                                                  (Int.toNat
                                                    (Int.tmod (IntKind.wrap IntKind.i64 x)
                                                      (↑(D.len (D.slc h2 8 r2)) : Int)))
                                                  6)
                                                (D.cell (D.slc h2 8 r2)
                                                  (Int.toNat
                                                    (Int.tmod (IntKind.wrap IntKind.i64 x)
                                                      (↑(D.len (D.slc h2 8 r2)) : Int)))
                                                  7)))))))]
                                0 252))
                            [SFrm.mk 10 (some (opsAt Try.prog 10 [1, 1, 1, 0, 1, 0, 0, 1, 0, 0], [6])) (some 38)
                                [Item.inBlock 1, Item.code (cAt Try.prog 10 [1, 1, 1, 0, 1, 0, 0, 1, 1]),
                                  Item.inLoop (cAt Try.prog 10 [1, 1, 1, 0, 1, 0, 0]), Item.inBlock 0,
                                  Item.code (cAt Try.prog 10 [1, 1, 1, 1])]
                                (mkJ 0 [(0, SV.dat l), (3, SV.ptr 2 0), (4, SV.int IntKind.i64 i)] 0 155)]
                            [(0,
                                OBlk.cells 67
                                  [SV.int IntKind.i64 e, SV.int IntKind.i64 s, SV.dat d, SV.int IntKind.i64 st,
                                    SV.int IntKind.i64 ap,
                                    SV.int IntKind.i64
                                      (Tgt.epoch
                                        (Prod.fst
                                          (answer (Tgt.mk te ts tst tap)
                                            (MsgD.msg
                                              (MsgD.mk
                                                (D.getInt (D.slc h2 8 r2)
                                                  (Int.toNat
                                                    (Int.tmod (IntKind.wrap IntKind.i64 x)
                                                      (↑(D.len (D.slc h2 8 r2)) : Int)))
                                                  0)
                                                (D.getInt (D.slc h2 8 r2)
                                                  (Int.toNat
                                                    (Int.tmod (IntKind.wrap IntKind.i64 x)
                                                      (↑(D.len (D.slc h2 8 r2)) : Int)))
                                                  1)
                                                (D.getInt (D.slc h2 8 r2)
                                                  (Int.toNat
                                                    (Int.tmod (IntKind.wrap IntKind.i64 x)
                                                      (↑(D.len (D.slc h2 8 r2)) : Int)))
                                                  2)
                                                (D.getInt (D.slc h2 8 r2)
                                                  (Int.toNat
                                                    (Int.tmod (IntKind.wrap IntKind.i64 x)
                                                      (↑(D.len (D.slc h2 8 r2)) : Int)))
                                                  3)
                                                (D.getInt (D.slc h2 8 r2)
                                                  (Int.toNat
                                                    (Int.tmod (IntKind.wrap IntKind.i64 x)
                                                      (↑(D.len (D.slc h2 8 r2)) : Int)))
                                                  4)
                                                (D.getInt (D.slc h2 8 r2)
                                                  (Int.toNat
                                                    (Int.tmod (IntKind.wrap IntKind.i64 x)
                                                      (↑(D.len (D.slc h2 8 r2)) : Int)))
                                                  5)
                                                (D.cell (D.slc h2 8 r2)
                                                  (Int.toNat
                                                    (Int.tmod (IntKind.wrap IntKind.i64 x)
                                                      (↑(D.len (D.slc h2 8 r2)) : Int)))
                                                  6)
                                                (D.cell (D.slc h2 8 r2)
                                                  (Int.toNat
                                                    (Int.tmod (IntKind.wrap IntKind.i64 x)
                                                      (↑(D.len (D.slc h2 8 r2)) : Int)))
                                                  7)))))),
                                    SV.int IntKind.i64
                                      (Tgt.site
                                        (Prod.fst
                                          (answer (Tgt.mk te ts tst tap)
                                            (MsgD.msg
                                              (MsgD.mk
                                                (D.getInt (D.slc h2 8 r2)
                                                  (Int.toNat
                                                    (Int.tmod (IntKind.wrap IntKind.i64 x)
                                                      (↑(D.len (D.slc h2 8 r2)) : Int)))
                                                  0)
                                                (D.getInt (D.slc h2 8 r2)
                                                  (Int.toNat
                                                    (Int.tmod (IntKind.wrap IntKind.i64 x)
                                                      (↑(D.len (D.slc h2 8 r2)) : Int)))
                                                  1)
                                                (D.getInt (D.slc h2 8 r2)
                                                  (Int.toNat
                                                    (Int.tmod (IntKind.wrap IntKind.i64 x)
                                                      (↑(D.len (D.slc h2 8 r2)) : Int)))
                                                  2)
                                                (D.getInt (D.slc h2 8 r2)
                                                  (Int.toNat
                                                    (Int.tmod (IntKind.wrap IntKind.i64 x)
                                                      (↑(D.len (D.slc h2 8 r2)) : Int)))
                                                  3)
                                                (D.getInt (D.slc h2 8 r2)
                                                  (Int.toNat
                                                    (Int.tmod (IntKind.wrap IntKind.i64 x)
                                                      (↑(D.len (D.slc h2 8 r2)) : Int)))
                                                  4)
                                                (D.getInt (D.slc h2 8 r2)
                                                  (Int.toNat
                                                    (Int.tmod (IntKind.wrap IntKind.i64 x)
                                                      (↑(D.len (D.slc h2 8 r2)) : Int)))
                                                  5)
                                                (D.cell (D.slc h2 8 r2)
                                                  (Int.toNat
                                                    (Int.tmod (IntKind.wrap IntKind.i64 x)
                                                      (↑(D.len (D.slc h2 8 r2)) : Int)))
                                                  6)
                                                (D.cell (D.slc h2 8 r2)
                                                  (Int.toNat
                                                    (Int.tmod (IntKind.wrap IntKind.i64 x)
                                                      (↑(D.len (D.slc h2 8 r2)) : Int)))
                                                  7)))))),
                                    SV.int IntKind.i64
                                      (Tgt.stored
                                        (Prod.fst
                                          (answer (Tgt.mk te ts tst tap)
                                            (MsgD.msg
                                              (MsgD.mk
                                                (D.getInt (D.slc h2 8 r2)
                                                  (Int.toNat
                                                    (Int.tmod (IntKind.wrap IntKind.i64 x)
                                                      (↑(D.len (D.slc h2 8 r2)) : Int)))
                                                  0)
                                                (D.getInt (D.slc h2 8 r2)
                                                  (Int.toNat
                                                    (Int.tmod (IntKind.wrap IntKind.i64 x)
                                                      (↑(D.len (D.slc h2 8 r2)) : Int)))
                                                  1)
                                                (D.getInt (D.slc h2 8 r2)
                                                  (Int.toNat
                                                    (Int.tmod (IntKind.wrap IntKind.i64 x)
                                                      (↑(D.len (D.slc h2 8 r2)) : Int)))
                                                  2)
                                                (D.getInt (D.slc h2 8 r2)
                                                  (Int.toNat
                                                    (Int.tmod (IntKind.wrap IntKind.i64 x)
                                                      (↑(D.len (D.slc h2 8 r2)) : Int)))
                                                  3)
                                                (D.getInt (D.slc h2 8 r2)
                                                  (Int.toNat
                                                    (Int.tmod (IntKind.wrap IntKind.i64 x)
                                                      (↑(D.len (D.slc h2 8 r2)) : Int)))
                                                  4)
                                                (D.getInt (D.slc h2 8 r2)
                                                  (Int.toNat
                                                    (Int.tmod (IntKind.wrap IntKind.i64 x)
                                                      (↑(D.len (D.slc h2 8 r2)) : Int)))
                                                  5)
                                                (D.cell (D.slc h2 8 r2)
                                                  (Int.toNat
                                                    (Int.tmod (IntKind.wrap IntKind.i64 x)
                                                      (↑(D.len (D.slc h2 8 r2)) : Int)))
                                                  6)
                                                (D.cell (D.slc h2 8 r2)
                                                  (Int.toNat
                                                    (Int.tmod (IntKind.wrap IntKind.i64 x)
                                                      (↑(D.len (D.slc h2 8 r2)) : Int)))
                                                  7)))))),
                                    SV.int IntKind.i64
                                      (Tgt.applied
                                        (Prod.fst
                                          (answer (Tgt.mk te ts tst tap)
                                            (MsgD.msg
                                              (MsgD.mk
                                                (D.getInt (D.slc h2 8 r2)
                                                  (Int.toNat
                                                    (Int.tmod (IntKind.wrap IntKind.i64 x)
                                                      (↑(D.len (D.slc h2 8 r2)) : Int)))
                                                  0)
                                                (D.getInt (D.slc h2 8 r2)
                                                  (Int.toNat
                                                    (Int.tmod (IntKind.wrap IntKind.i64 x)
                                                      (↑(D.len (D.slc h2 8 r2)) : Int)))
                                                  1)
                                                (D.getInt (D.slc h2 8 r2)
                                                  (Int.toNat
                                                    (Int.tmod (IntKind.wrap IntKind.i64 x)
                                                      (↑(D.len (D.slc h2 8 r2)) : Int)))
                                                  2)
                                                (D.getInt (D.slc h2 8 r2)
                                                  (Int.toNat
                                                    (Int.tmod (IntKind.wrap IntKind.i64 x)
                                                      (↑(D.len (D.slc h2 8 r2)) : Int)))
                                                  3)
                                                (D.getInt (D.slc h2 8 r2)
                                                  (Int.toNat
                                                    (Int.tmod (IntKind.wrap IntKind.i64 x)
                                                      (↑(D.len (D.slc h2 8 r2)) : Int)))
                                                  4)
                                                (D.getInt (D.slc h2 8 r2)
                                                  (Int.toNat
                                                    (Int.tmod (IntKind.wrap IntKind.i64 x)
                                                      (↑(D.len (D.slc h2 8 r2)) : Int)))
                                                  5)
                                                (D.cell (D.slc h2 8 r2)
                                                  (Int.toNat
                                                    (Int.tmod (IntKind.wrap IntKind.i64 x)
                                                      (↑(D.len (D.slc h2 8 r2)) : Int)))
                                                  6)
                                                (D.cell (D.slc h2 8 r2)
                                                  (Int.toNat
                                                    (Int.tmod (IntKind.wrap IntKind.i64 x)
                                                      (↑(D.len (D.slc h2 8 r2)) : Int)))
                                                  7)))))),
                                    SV.vec 3, SV.vec 4, SV.lb true]),
                              (1,
                                OBlk.cells 67
                                  [SV.int IntKind.i64 0, SV.int IntKind.i64 0, SV.nils, SV.int IntKind.i64 0,
                                    SV.int IntKind.i64 0, SV.int IntKind.i64 0, SV.int IntKind.i64 0,
                                    SV.int IntKind.i64 0, SV.int IntKind.i64 0, SV.nils, SV.nils, SV.lb false]),
                              (2,
                                OBlk.cells 67
                                  [SV.int IntKind.i64 e, SV.int IntKind.i64 s, SV.dat d, SV.int IntKind.i64 st,
                                    SV.int IntKind.i64 ap, SV.int IntKind.i64 te, SV.int IntKind.i64 ts,
                                    SV.int IntKind.i64 tst, SV.int IntKind.i64 tap, SV.vec 3, SV.vec 4, SV.lb true]),
                              (3, OBlk.arr 3 (D.slc h1 1 r1)), (4, OBlk.arr 53 (D.slc h2 8 r2))])))))
                (Tree.leaf
                  (Conf.mk
                    (SFrm.mk 38 none none
                      [Item.code (cAt Try.prog 38 [1, 1, 1, 0]), Item.code (cAt Try.prog 38 [1, 1, 1, 1])]
                      (mkJ 1 [(2, SV.ptr 0 0), (4, SV.ptr 1 0), (5, SV.nils)] 0 252))
                    [SFrm.mk 10 (some (opsAt Try.prog 10 [1, 1, 1, 0, 1, 0, 0, 1, 0, 0], [6])) (some 38)
                        [Item.inBlock 1, Item.code (cAt Try.prog 10 [1, 1, 1, 0, 1, 0, 0, 1, 1]),
                          Item.inLoop (cAt Try.prog 10 [1, 1, 1, 0, 1, 0, 0]), Item.inBlock 0,
                          Item.code (cAt Try.prog 10 [1, 1, 1, 1])]
                        (mkJ 0 [(0, SV.dat l), (3, SV.ptr 2 0), (4, SV.int IntKind.i64 i)] 0 155)]
                    [(0,
                        OBlk.cells 67
                          [SV.int IntKind.i64 e, SV.int IntKind.i64 s, SV.dat d, SV.int IntKind.i64 st,
                            SV.int IntKind.i64 ap, SV.int IntKind.i64 te, SV.int IntKind.i64 ts, SV.int IntKind.i64 tst,
                            SV.int IntKind.i64 tap, SV.vec 3, SV.vec 4, SV.lb true]),
                      (1,
                        OBlk.cells 67
                          [SV.int IntKind.i64 0, SV.int IntKind.i64 0, SV.nils, SV.int IntKind.i64 0,
                            SV.int IntKind.i64 0, SV.int IntKind.i64 0, SV.int IntKind.i64 0, SV.int IntKind.i64 0,
                            SV.int IntKind.i64 0, SV.nils, SV.nils, SV.lb false]),
                      (2,
                        OBlk.cells 67
                          [SV.int IntKind.i64 e, SV.int IntKind.i64 s, SV.dat d, SV.int IntKind.i64 st,
                            SV.int IntKind.i64 ap, SV.int IntKind.i64 te, SV.int IntKind.i64 ts, SV.int IntKind.i64 tst,
                            SV.int IntKind.i64 tap, SV.vec 3, SV.vec 4, SV.lb true]),
                      (3, OBlk.arr 3 (D.slc h1 1 r1)), (4, OBlk.arr 53 (D.slc h2 8 r2))])))
              (Tree.br (decide (Int.tmod k 7 = 5))
                (Tree.need (D.Is Int d)
                  (Tree.all fun hs =>
                    Tree.leaf
                      (Conf.mk
                        (SFrm.mk 38 none none
                          [Item.code (cAt Try.prog 38 [1, 1, 1, 0]), Item.code (cAt Try.prog 38 [1, 1, 1, 1])]
                          (mkJ 1
                            [(2, SV.ptr 0 0), (4, SV.ptr 1 0),
                              (5, SV.dat (D.like (hs 0 0) (resend (SrcD.src (SrcD.mk e s d st ap)))))]
                            0 252))
                        [SFrm.mk 10 (some (opsAt Try.prog 10 [1, 1, 1, 0, 1, 0, 0, 1, 0, 0], [6])) (some 38)
                            [Item.inBlock 1, Item.code (cAt Try.prog 10 [1, 1, 1, 0, 1, 0, 0, 1, 1]),
                              Item.inLoop (cAt Try.prog 10 [1, 1, 1, 0, 1, 0, 0]), Item.inBlock 0,
                              Item.code (cAt Try.prog 10 [1, 1, 1, 1])]
                            (mkJ 0 [(0, SV.dat l), (3, SV.ptr 2 0), (4, SV.int IntKind.i64 i)] 0 155)]
                        [(0,
                            OBlk.cells 67
                              [SV.int IntKind.i64 e, SV.int IntKind.i64 s, SV.dat d, SV.int IntKind.i64 st,
                                SV.int IntKind.i64 ap, SV.int IntKind.i64 te, SV.int IntKind.i64 ts,
                                SV.int IntKind.i64 tst, SV.int IntKind.i64 tap, SV.vec 3, SV.vec 4, SV.lb true]),
                          (1,
                            OBlk.cells 67
                              [SV.int IntKind.i64 0, SV.int IntKind.i64 0, SV.nils, SV.int IntKind.i64 0,
                                SV.int IntKind.i64 0, SV.int IntKind.i64 0, SV.int IntKind.i64 0, SV.int IntKind.i64 0,
                                SV.int IntKind.i64 0, SV.nils, SV.nils, SV.lb false]),
                          (2,
                            OBlk.cells 67
                              [SV.int IntKind.i64 e, SV.int IntKind.i64 s, SV.dat d, SV.int IntKind.i64 st,
                                SV.int IntKind.i64 ap, SV.int IntKind.i64 te, SV.int IntKind.i64 ts,
                                SV.int IntKind.i64 tst, SV.int IntKind.i64 tap, SV.vec 3, SV.vec 4, SV.lb true]),
                          (3, OBlk.arr 3 (D.slc h1 1 r1)), (4, OBlk.arr 53 (D.slc h2 8 r2))])))
                (Tree.all fun hs =>
                  Tree.br (decide (Prod.snd (newSource (IntKind.wrap IntKind.i64 (te + 1)) 2 tap) = 0))
                    (Tree.need ((4 : Int) ≠ 0)
                      (Tree.br (decide (Int.tmod x 4 = 0))
                        (Tree.leaf
                          (Conf.mk
                            (SFrm.mk 38 none none
                              [Item.code (cAt Try.prog 38 [1, 1, 1, 0]), Item.code (cAt Try.prog 38 [1, 1, 1, 1])]
                              (mkJ 1 [(2, SV.ptr 0 0), (4, SV.ptr 1 0), (5, SV.nils)] 0 252))
                            [SFrm.mk 10 (some (opsAt Try.prog 10 [1, 1, 1, 0, 1, 0, 0, 1, 0, 0], [6])) (some 38)
                                [Item.inBlock 1, Item.code (cAt Try.prog 10 [1, 1, 1, 0, 1, 0, 0, 1, 1]),
                                  Item.inLoop (cAt Try.prog 10 [1, 1, 1, 0, 1, 0, 0]), Item.inBlock 0,
                                  Item.code (cAt Try.prog 10 [1, 1, 1, 1])]
                                (mkJ 0 [(0, SV.dat l), (3, SV.ptr 2 0), (4, SV.int IntKind.i64 i)] 0 155)]
                            [(0,
                                OBlk.cells 67
                                  [SV.int IntKind.i64
                                      (Src.epoch (Prod.fst (newSource (IntKind.wrap IntKind.i64 (te + 1)) 2 tap))),
                                    SV.int IntKind.i64
                                      (Src.site (Prod.fst (newSource (IntKind.wrap IntKind.i64 (te + 1)) 2 tap))),
                                    SV.dat
                                      (D.like (hs 0 0)
                                        (Src.offered (Prod.fst (newSource (IntKind.wrap IntKind.i64 (te + 1)) 2 tap)))),
                                    SV.int IntKind.i64
                                      (Src.stored (Prod.fst (newSource (IntKind.wrap IntKind.i64 (te + 1)) 2 tap))),
                                    SV.int IntKind.i64
                                      (Src.applied (Prod.fst (newSource (IntKind.wrap IntKind.i64 (te + 1)) 2 tap))),
                                    SV.int IntKind.i64 te, SV.int IntKind.i64 ts, SV.int IntKind.i64 tst,
                                    SV.int IntKind.i64 tap, SV.vec 3, SV.vec 4, SV.lb true]),
                              (1,
                                OBlk.cells 67
                                  [SV.int IntKind.i64 0, SV.int IntKind.i64 0, SV.nils, SV.int IntKind.i64 0,
                                    SV.int IntKind.i64 0, SV.int IntKind.i64 0, SV.int IntKind.i64 0,
                                    SV.int IntKind.i64 0, SV.int IntKind.i64 0, SV.nils, SV.nils, SV.lb false]),
                              (2,
                                OBlk.cells 67
                                  [SV.int IntKind.i64 e, SV.int IntKind.i64 s, SV.dat d, SV.int IntKind.i64 st,
                                    SV.int IntKind.i64 ap, SV.int IntKind.i64 te, SV.int IntKind.i64 ts,
                                    SV.int IntKind.i64 tst, SV.int IntKind.i64 tap, SV.vec 3, SV.vec 4, SV.lb true]),
                              (3, OBlk.arr 3 (D.slc h1 1 r1)), (4, OBlk.arr 53 (D.slc h2 8 r2))]))
                        (Tree.leaf
                          (Conf.mk
                            (SFrm.mk 38 none none
                              [Item.code (cAt Try.prog 38 [1, 1, 1, 0]), Item.code (cAt Try.prog 38 [1, 1, 1, 1])]
                              (mkJ 1 [(2, SV.ptr 0 0), (4, SV.ptr 1 0), (5, SV.nils)] 0 252))
                            [SFrm.mk 10 (some (opsAt Try.prog 10 [1, 1, 1, 0, 1, 0, 0, 1, 0, 0], [6])) (some 38)
                                [Item.inBlock 1, Item.code (cAt Try.prog 10 [1, 1, 1, 0, 1, 0, 0, 1, 1]),
                                  Item.inLoop (cAt Try.prog 10 [1, 1, 1, 0, 1, 0, 0]), Item.inBlock 0,
                                  Item.code (cAt Try.prog 10 [1, 1, 1, 1])]
                                (mkJ 0 [(0, SV.dat l), (3, SV.ptr 2 0), (4, SV.int IntKind.i64 i)] 0 155)]
                            [(0,
                                OBlk.cells 67
                                  [SV.int IntKind.i64 e, SV.int IntKind.i64 s, SV.dat d, SV.int IntKind.i64 st,
                                    SV.int IntKind.i64 ap, SV.int IntKind.i64 te, SV.int IntKind.i64 ts,
                                    SV.int IntKind.i64 tst, SV.int IntKind.i64 tap, SV.vec 3, SV.vec 4, SV.lb true]),
                              (1,
                                OBlk.cells 67
                                  [SV.int IntKind.i64 0, SV.int IntKind.i64 0, SV.nils, SV.int IntKind.i64 0,
                                    SV.int IntKind.i64 0, SV.int IntKind.i64 0, SV.int IntKind.i64 0,
                                    SV.int IntKind.i64 0, SV.int IntKind.i64 0, SV.nils, SV.nils, SV.lb false]),
                              (2,
                                OBlk.cells 67
                                  [SV.int IntKind.i64 e, SV.int IntKind.i64 s, SV.dat d, SV.int IntKind.i64 st,
                                    SV.int IntKind.i64 ap, SV.int IntKind.i64 te, SV.int IntKind.i64 ts,
                                    SV.int IntKind.i64 tst, SV.int IntKind.i64 tap, SV.vec 3, SV.vec 4, SV.lb true]),
                              (3, OBlk.arr 3 (D.slc h1 1 r1)), (4, OBlk.arr 53 (D.slc h2 8 r2))]))))
                    (Tree.leaf
                      (Conf.mk
                        (SFrm.mk 38 none none
                          [Item.code (cAt Try.prog 38 [1, 1, 1, 0]), Item.code (cAt Try.prog 38 [1, 1, 1, 1])]
                          (mkJ 1 [(2, SV.ptr 0 0), (4, SV.ptr 1 0), (5, SV.nils)] 0 252))
                        [SFrm.mk 10 (some (opsAt Try.prog 10 [1, 1, 1, 0, 1, 0, 0, 1, 0, 0], [6])) (some 38)
                            [Item.inBlock 1, Item.code (cAt Try.prog 10 [1, 1, 1, 0, 1, 0, 0, 1, 1]),
                              Item.inLoop (cAt Try.prog 10 [1, 1, 1, 0, 1, 0, 0]), Item.inBlock 0,
                              Item.code (cAt Try.prog 10 [1, 1, 1, 1])]
                            (mkJ 0 [(0, SV.dat l), (3, SV.ptr 2 0), (4, SV.int IntKind.i64 i)] 0 155)]
                        [(0,
                            OBlk.cells 67
                              [SV.int IntKind.i64 e, SV.int IntKind.i64 s, SV.dat d, SV.int IntKind.i64 st,
                                SV.int IntKind.i64 ap, SV.int IntKind.i64 te, SV.int IntKind.i64 ts,
                                SV.int IntKind.i64 tst, SV.int IntKind.i64 tap, SV.vec 3, SV.vec 4, SV.lb true]),
                          (1,
                            OBlk.cells 67
                              [SV.int IntKind.i64 0, SV.int IntKind.i64 0, SV.nils, SV.int IntKind.i64 0,
                                SV.int IntKind.i64 0, SV.int IntKind.i64 0, SV.int IntKind.i64 0, SV.int IntKind.i64 0,
                                SV.int IntKind.i64 0, SV.nils, SV.nils, SV.lb false]),
                          (2,
                            OBlk.cells 67
                              [SV.int IntKind.i64 e, SV.int IntKind.i64 s, SV.dat d, SV.int IntKind.i64 st,
                                SV.int IntKind.i64 ap, SV.int IntKind.i64 te, SV.int IntKind.i64 ts,
                                SV.int IntKind.i64 tst, SV.int IntKind.i64 tap, SV.vec 3, SV.vec 4, SV.lb true]),
                          (3, OBlk.arr 3 (D.slc h1 1 r1)), (4, OBlk.arr 53 (D.slc h2 8 r2))]))))))))) := by kernel_rfl

theorem l1_10 : goS Try.prog ctL (fun _ => false) [(38, 2), (38, 246)] 400 (unroll (L110 l i ⟨e, s, d, st, ap⟩ ⟨te, ts, tst, tap⟩ q h1 h2 r1 r2)) =
  Tree.br (decide (q < (↑(D.len d) : Int)))
    (Tree.need (0 ≤ q ∧ q < (↑(D.len d) : Int) ∧ D.sz d = 1)
      (Tree.need (D.HasCell d (Int.toNat q) 0 (FT.int IntKind.i64))
        (Tree.br (decide (D.getInt d (Int.toNat q) 0 > tst))
          (Tree.br (decide (e = te))
            (Tree.all fun hs =>
              Tree.br (Prod.snd (Prod.snd (Sx.store (Tgt.mk te ts tst tap) (D.getInt d (Int.toNat q) 0))) != 0)
                (Tree.leaf
                  (Conf.mk
                    (SFrm.mk 38 none none
                      [Item.code (cAt Try.prog 38 [1, 1, 1, 0]), Item.code (cAt Try.prog 38 [1, 1, 1, 1])]
                      (mkJ 1 [(2, SV.ptr 0 0), (4, SV.ptr 1 0), (5, SV.nils)] 0 252))
                    [SFrm.mk 10 (some (opsAt Try.prog 10 [1, 1, 1, 0, 1, 0, 0, 1, 0, 0], [6])) (some 38)
                        [Item.inBlock 1, Item.code (cAt Try.prog 10 [1, 1, 1, 0, 1, 0, 0, 1, 1]),
                          Item.inLoop (cAt Try.prog 10 [1, 1, 1, 0, 1, 0, 0]), Item.inBlock 0,
                          Item.code (cAt Try.prog 10 [1, 1, 1, 1])]
                        (mkJ 0 [(0, SV.dat l), (3, SV.ptr 2 0), (4, SV.int IntKind.i64 i)] 0 155)]
                    [(0,
                        OBlk.cells 67
                          [SV.int IntKind.i64 e, SV.int IntKind.i64 s, SV.dat d, SV.int IntKind.i64 st,
                            SV.int IntKind.i64 ap, SV.int IntKind.i64 te, SV.int IntKind.i64 ts, SV.int IntKind.i64 tst,
                            SV.int IntKind.i64 tap, SV.vec 3, SV.vec 4, SV.lb false]),
                      (1,
                        OBlk.cells 67
                          [SV.int IntKind.i64 0, SV.int IntKind.i64 0, SV.nils, SV.int IntKind.i64 0,
                            SV.int IntKind.i64 0, SV.int IntKind.i64 0, SV.int IntKind.i64 0, SV.int IntKind.i64 0,
                            SV.int IntKind.i64 0, SV.nils, SV.nils, SV.lb false]),
                      (2,
                        OBlk.cells 67
                          [SV.int IntKind.i64 e, SV.int IntKind.i64 s, SV.dat d, SV.int IntKind.i64 st,
                            SV.int IntKind.i64 ap, SV.int IntKind.i64 te, SV.int IntKind.i64 ts, SV.int IntKind.i64 tst,
                            SV.int IntKind.i64 tap, SV.vec 3, SV.vec 4, SV.lb true]),
                      (3, OBlk.arr 3 (D.slc h1 1 r1)), (4, OBlk.arr 53 (D.slc h2 8 r2))]))
                (Tree.leaf
                  (Conf.mk
                    (SFrm.mk 38 none none
                      [Item.code (cAt Try.prog 38 [1, 1, 1, 0]), Item.code (cAt Try.prog 38 [1, 1, 1, 1])]
                      (mkJ 1
                        [(2, SV.ptr 0 0), (4, SV.ptr 1 0),
                          (5,
                            SV.dat
                              (D.like (hs 0 0)
                                (Prod.fst (Prod.snd (Sx.store (Tgt.mk te ts tst tap) (D.getInt d (Int.toNat q) 0))))))]
                        0 252))
                    [SFrm.mk 10 (some (opsAt Try.prog 10 [1, 1, 1, 0, 1, 0, 0, 1, 0, 0], [6])) (some 38)
                        [Item.inBlock 1, Item.code (cAt Try.prog 10 [1, 1, 1, 0, 1, 0, 0, 1, 1]),
                          Item.inLoop (cAt Try.prog 10 [1, 1, 1, 0, 1, 0, 0]), Item.inBlock 0,
                          Item.code (cAt Try.prog 10 [1, 1, 1, 1])]
                        (mkJ 0 [(0, SV.dat l), (3, SV.ptr 2 0), (4, SV.int IntKind.i64 i)] 0 155)]
                    [(0,
                        OBlk.cells 67
                          [SV.int IntKind.i64 e, SV.int IntKind.i64 s, SV.dat d, SV.int IntKind.i64 st,
                            SV.int IntKind.i64 ap,
                            SV.int IntKind.i64
                              (Tgt.epoch (Prod.fst (Sx.store (Tgt.mk te ts tst tap) (D.getInt d (Int.toNat q) 0)))),
                            SV.int IntKind.i64
                              (Tgt.site (Prod.fst (Sx.store (Tgt.mk te ts tst tap) (D.getInt d (Int.toNat q) 0)))),
                            SV.int IntKind.i64
                              (Tgt.stored (Prod.fst (Sx.store (Tgt.mk te ts tst tap) (D.getInt d (Int.toNat q) 0)))),
                            SV.int IntKind.i64
                              (Tgt.applied (Prod.fst (Sx.store (Tgt.mk te ts tst tap) (D.getInt d (Int.toNat q) 0)))),
                            SV.vec 3, SV.vec 4, SV.lb true]),
                      (1,
                        OBlk.cells 67
                          [SV.int IntKind.i64 0, SV.int IntKind.i64 0, SV.nils, SV.int IntKind.i64 0,
                            SV.int IntKind.i64 0, SV.int IntKind.i64 0, SV.int IntKind.i64 0, SV.int IntKind.i64 0,
                            SV.int IntKind.i64 0, SV.nils, SV.nils, SV.lb false]),
                      (2,
                        OBlk.cells 67
                          [SV.int IntKind.i64 e, SV.int IntKind.i64 s, SV.dat d, SV.int IntKind.i64 st,
                            SV.int IntKind.i64 ap, SV.int IntKind.i64 te, SV.int IntKind.i64 ts, SV.int IntKind.i64 tst,
                            SV.int IntKind.i64 tap, SV.vec 3, SV.vec 4, SV.lb true]),
                      (3, OBlk.arr 3 (D.slc h1 1 r1)), (4, OBlk.arr 53 (D.slc h2 8 r2))])))
            (Tree.leaf
              (Conf.mk
                (SFrm.mk 38 none none
                  [Item.inLoop (cAt Try.prog 38 [1, 1, 0, 1, 0, 1, 1, 1, 0, 1, 0, 0]), Item.inBlock 1, Item.inBlock 0,
                    Item.code (cAt Try.prog 38 [1, 1, 1])]
                  (mkJ 1
                    [(2, SV.ptr 0 0), (4, SV.ptr 1 0), (5, SV.nils),
                      (10, SV.int IntKind.i64 (IntKind.wrap IntKind.i64 (q + 1)))]
                    0 252))
                [SFrm.mk 10 (some (opsAt Try.prog 10 [1, 1, 1, 0, 1, 0, 0, 1, 0, 0], [6])) (some 38)
                    [Item.inBlock 1, Item.code (cAt Try.prog 10 [1, 1, 1, 0, 1, 0, 0, 1, 1]),
                      Item.inLoop (cAt Try.prog 10 [1, 1, 1, 0, 1, 0, 0]), Item.inBlock 0,
                      Item.code (cAt Try.prog 10 [1, 1, 1, 1])]
                    (mkJ 0 [(0, SV.dat l), (3, SV.ptr 2 0), (4, SV.int IntKind.i64 i)] 0 155)]
                [(0,
                    OBlk.cells 67
                      [SV.int IntKind.i64 e, SV.int IntKind.i64 s, SV.dat d, SV.int IntKind.i64 st, SV.int IntKind.i64 ap,
                        SV.int IntKind.i64 te, SV.int IntKind.i64 ts, SV.int IntKind.i64 tst, SV.int IntKind.i64 tap,
                        SV.vec 3, SV.vec 4, SV.lb true]),
                  (1,
                    OBlk.cells 67
                      [SV.int IntKind.i64 0, SV.int IntKind.i64 0, SV.nils, SV.int IntKind.i64 0, SV.int IntKind.i64 0,
                        SV.int IntKind.i64 0, SV.int IntKind.i64 0, SV.int IntKind.i64 0, SV.int IntKind.i64 0, SV.nils,
                        SV.nils, SV.lb false]),
                  (2,
                    OBlk.cells 67
                      [SV.int IntKind.i64 e, SV.int IntKind.i64 s, SV.dat d, SV.int IntKind.i64 st, SV.int IntKind.i64 ap,
                        SV.int IntKind.i64 te, SV.int IntKind.i64 ts, SV.int IntKind.i64 tst, SV.int IntKind.i64 tap,
                        SV.vec 3, SV.vec 4, SV.lb true]),
                  (3, OBlk.arr 3 (D.slc h1 1 r1)), (4, OBlk.arr 53 (D.slc h2 8 r2))])))
          (Tree.leaf
            (Conf.mk
              (SFrm.mk 38 none none
                [Item.inLoop (cAt Try.prog 38 [1, 1, 0, 1, 0, 1, 1, 1, 0, 1, 0, 0]), Item.inBlock 1, Item.inBlock 0,
                  Item.code (cAt Try.prog 38 [1, 1, 1])]
                (mkJ 1
                  [(2, SV.ptr 0 0), (4, SV.ptr 1 0), (5, SV.nils),
                    (10, SV.int IntKind.i64 (IntKind.wrap IntKind.i64 (q + 1)))]
                  0 252))
              [SFrm.mk 10 (some (opsAt Try.prog 10 [1, 1, 1, 0, 1, 0, 0, 1, 0, 0], [6])) (some 38)
                  [Item.inBlock 1, Item.code (cAt Try.prog 10 [1, 1, 1, 0, 1, 0, 0, 1, 1]),
                    Item.inLoop (cAt Try.prog 10 [1, 1, 1, 0, 1, 0, 0]), Item.inBlock 0,
                    Item.code (cAt Try.prog 10 [1, 1, 1, 1])]
                  (mkJ 0 [(0, SV.dat l), (3, SV.ptr 2 0), (4, SV.int IntKind.i64 i)] 0 155)]
              [(0,
                  OBlk.cells 67
                    [SV.int IntKind.i64 e, SV.int IntKind.i64 s, SV.dat d, SV.int IntKind.i64 st, SV.int IntKind.i64 ap,
                      SV.int IntKind.i64 te, SV.int IntKind.i64 ts, SV.int IntKind.i64 tst, SV.int IntKind.i64 tap,
                      SV.vec 3, SV.vec 4, SV.lb true]),
                (1,
                  OBlk.cells 67
                    [SV.int IntKind.i64 0, SV.int IntKind.i64 0, SV.nils, SV.int IntKind.i64 0, SV.int IntKind.i64 0,
                      SV.int IntKind.i64 0, SV.int IntKind.i64 0, SV.int IntKind.i64 0, SV.int IntKind.i64 0, SV.nils,
                      SV.nils, SV.lb false]),
                (2,
                  OBlk.cells 67
                    [SV.int IntKind.i64 e, SV.int IntKind.i64 s, SV.dat d, SV.int IntKind.i64 st, SV.int IntKind.i64 ap,
                      SV.int IntKind.i64 te, SV.int IntKind.i64 ts, SV.int IntKind.i64 tst, SV.int IntKind.i64 tap,
                      SV.vec 3, SV.vec 4, SV.lb true]),
                (3, OBlk.arr 3 (D.slc h1 1 r1)), (4, OBlk.arr 53 (D.slc h2 8 r2))])))))
    (Tree.leaf
      (Conf.mk
        (SFrm.mk 38 none none [Item.code (cAt Try.prog 38 [1, 1, 1, 0]), Item.code (cAt Try.prog 38 [1, 1, 1, 1])]
          (mkJ 1 [(2, SV.ptr 0 0), (4, SV.ptr 1 0), (5, SV.nils)] 0 252))
        [SFrm.mk 10 (some (opsAt Try.prog 10 [1, 1, 1, 0, 1, 0, 0, 1, 0, 0], [6])) (some 38)
            [Item.inBlock 1, Item.code (cAt Try.prog 10 [1, 1, 1, 0, 1, 0, 0, 1, 1]),
              Item.inLoop (cAt Try.prog 10 [1, 1, 1, 0, 1, 0, 0]), Item.inBlock 0,
              Item.code (cAt Try.prog 10 [1, 1, 1, 1])]
            (mkJ 0 [(0, SV.dat l), (3, SV.ptr 2 0), (4, SV.int IntKind.i64 i)] 0 155)]
        [(0,
            OBlk.cells 67
              [SV.int IntKind.i64 e, SV.int IntKind.i64 s, SV.dat d, SV.int IntKind.i64 st, SV.int IntKind.i64 ap,
                SV.int IntKind.i64 te, SV.int IntKind.i64 ts, SV.int IntKind.i64 tst, SV.int IntKind.i64 tap, SV.vec 3,
                SV.vec 4, SV.lb true]),
          (1,
            OBlk.cells 67
              [SV.int IntKind.i64 0, SV.int IntKind.i64 0, SV.nils, SV.int IntKind.i64 0, SV.int IntKind.i64 0,
                SV.int IntKind.i64 0, SV.int IntKind.i64 0, SV.int IntKind.i64 0, SV.int IntKind.i64 0, SV.nils, SV.nils,
                SV.lb false]),
          (2,
            OBlk.cells 67
              [SV.int IntKind.i64 e, SV.int IntKind.i64 s, SV.dat d, SV.int IntKind.i64 st, SV.int IntKind.i64 ap,
                SV.int IntKind.i64 te, SV.int IntKind.i64 ts, SV.int IntKind.i64 tst, SV.int IntKind.i64 tap, SV.vec 3,
                SV.vec 4, SV.lb true]),
          (3, OBlk.arr 3 (D.slc h1 1 r1)), (4, OBlk.arr 53 (D.slc h2 8 r2))])) := by kernel_rfl

theorem l2_10 : goS Try.prog ctL (fun _ => false) [(38, 2), (38, 246)] 400 (unroll (L210 l i ⟨e, s, d, st, ap⟩ ⟨te, ts, tst, tap⟩ k x q h1 h2 r1 r2)) =
  Tree.br (decide (q ≥ 0))
    (Tree.need (0 ≤ q ∧ q < (↑(D.len d) : Int) ∧ D.sz d = 1)
      (Tree.need (D.HasCell d (Int.toNat q) 0 (FT.int IntKind.i64))
        (Tree.br (decide (D.getInt d (Int.toNat q) 0 > tap))
          (Tree.br (decide (D.getInt d (Int.toNat q) 0 ≤ tst))
            (Tree.need ((2 : Int) ≠ 0)
              (Tree.br (decide (Int.tmod (IntKind.wrap IntKind.u8 (x + IntKind.wrap IntKind.u8 q)) 2 = 0))
                (Tree.all fun hs =>
                  Tree.br (Prod.snd (Prod.snd (applyT (Tgt.mk te ts tst tap) (D.getInt d (Int.toNat q) 0))) != 0)
                    (Tree.leaf
                      (Conf.mk
                        (SFrm.mk 38 none none
                          [Item.code (cAt Try.prog 38 [1, 1, 1, 0]), Item.code (cAt Try.prog 38 [1, 1, 1, 1])]
                          (mkJ 1 [(2, SV.ptr 0 0), (4, SV.ptr 1 0), (5, SV.nils)] 0 252))
                        [SFrm.mk 10 (some (opsAt Try.prog 10 [1, 1, 1, 0, 1, 0, 0, 1, 0, 0], [6])) (some 38)
                            [Item.inBlock 1, Item.code (cAt Try.prog 10 [1, 1, 1, 0, 1, 0, 0, 1, 1]),
                              Item.inLoop (cAt Try.prog 10 [1, 1, 1, 0, 1, 0, 0]), Item.inBlock 0,
                              Item.code (cAt Try.prog 10 [1, 1, 1, 1])]
                            (mkJ 0 [(0, SV.dat l), (3, SV.ptr 2 0), (4, SV.int IntKind.i64 i)] 0 155)]
                        [(0,
                            OBlk.cells 67
                              [SV.int IntKind.i64 e, SV.int IntKind.i64 s, SV.dat d, SV.int IntKind.i64 st,
                                SV.int IntKind.i64 ap, SV.int IntKind.i64 te, SV.int IntKind.i64 ts,
                                SV.int IntKind.i64 tst, SV.int IntKind.i64 tap, SV.vec 3, SV.vec 4, SV.lb false]),
                          (1,
                            OBlk.cells 67
                              [SV.int IntKind.i64 0, SV.int IntKind.i64 0, SV.nils, SV.int IntKind.i64 0,
                                SV.int IntKind.i64 0, SV.int IntKind.i64 0, SV.int IntKind.i64 0, SV.int IntKind.i64 0,
                                SV.int IntKind.i64 0, SV.nils, SV.nils, SV.lb false]),
                          (2,
                            OBlk.cells 67
                              [SV.int IntKind.i64 e, SV.int IntKind.i64 s, SV.dat d, SV.int IntKind.i64 st,
                                SV.int IntKind.i64 ap, SV.int IntKind.i64 te, SV.int IntKind.i64 ts,
                                SV.int IntKind.i64 tst, SV.int IntKind.i64 tap, SV.vec 3, SV.vec 4, SV.lb true]),
                          (3, OBlk.arr 3 (D.slc h1 1 r1)), (4, OBlk.arr 53 (D.slc h2 8 r2))]))
                    (Tree.leaf
                      (Conf.mk
                        (SFrm.mk 38 none none
                          [Item.code (cAt Try.prog 38 [1, 1, 1, 0]), Item.code (cAt Try.prog 38 [1, 1, 1, 1])]
                          (mkJ 1
                            [(2, SV.ptr 0 0), (4, SV.ptr 1 0),
                              (5,
                                SV.dat
                                  (D.like (hs 0 0)
                                    (Prod.fst (Prod.snd (applyT (Tgt.mk te ts tst tap) (D.getInt d (Int.toNat q) 0))))))]
                            0 252))
                        [SFrm.mk 10 (some (opsAt Try.prog 10 [1, 1, 1, 0, 1, 0, 0, 1, 0, 0], [6])) (some 38)
                            [Item.inBlock 1, Item.code (cAt Try.prog 10 [1, 1, 1, 0, 1, 0, 0, 1, 1]),
                              Item.inLoop (cAt Try.prog 10 [1, 1, 1, 0, 1, 0, 0]), Item.inBlock 0,
                              Item.code (cAt Try.prog 10 [1, 1, 1, 1])]
                            (mkJ 0 [(0, SV.dat l), (3, SV.ptr 2 0), (4, SV.int IntKind.i64 i)] 0 155)]
                        [(0,
                            OBlk.cells 67
                              [SV.int IntKind.i64 e, SV.int IntKind.i64 s, SV.dat d, SV.int IntKind.i64 st,
                                SV.int IntKind.i64 ap,
                                SV.int IntKind.i64
                                  (Tgt.epoch (Prod.fst (applyT (Tgt.mk te ts tst tap) (D.getInt d (Int.toNat q) 0)))),
                                SV.int IntKind.i64
                                  (Tgt.site (Prod.fst (applyT (Tgt.mk te ts tst tap) (D.getInt d (Int.toNat q) 0)))),
                                SV.int IntKind.i64
                                  (Tgt.stored (Prod.fst (applyT (Tgt.mk te ts tst tap) (D.getInt d (Int.toNat q) 0)))),
                                SV.int IntKind.i64
                                  (Tgt.applied (Prod.fst (applyT (Tgt.mk te ts tst tap) (D.getInt d (Int.toNat q) 0)))),
                                SV.vec 3, SV.vec 4, SV.lb true]),
                          (1,
                            OBlk.cells 67
                              [SV.int IntKind.i64 0, SV.int IntKind.i64 0, SV.nils, SV.int IntKind.i64 0,
                                SV.int IntKind.i64 0, SV.int IntKind.i64 0, SV.int IntKind.i64 0, SV.int IntKind.i64 0,
                                SV.int IntKind.i64 0, SV.nils, SV.nils, SV.lb false]),
                          (2,
                            OBlk.cells 67
                              [SV.int IntKind.i64 e, SV.int IntKind.i64 s, SV.dat d, SV.int IntKind.i64 st,
                                SV.int IntKind.i64 ap, SV.int IntKind.i64 te, SV.int IntKind.i64 ts,
                                SV.int IntKind.i64 tst, SV.int IntKind.i64 tap, SV.vec 3, SV.vec 4, SV.lb true]),
                          (3, OBlk.arr 3 (D.slc h1 1 r1)), (4, OBlk.arr 53 (D.slc h2 8 r2))])))
                (Tree.leaf
                  (Conf.mk
                    (SFrm.mk 38 none none
                      [Item.inLoop (cAt Try.prog 38 [1, 1, 0, 1, 0, 1, 1, 1, 1, 1, 0, 1, 0, 0]), Item.inBlock 3,
                        Item.inBlock 0, Item.code (cAt Try.prog 38 [1, 1, 1])]
                      (mkJ 1
                        [(2, SV.ptr 0 0), (3, SV.ptr 1 0), (4, SV.ptr 2 0), (5, SV.nils),
                          (15, SV.int IntKind.i64 (IntKind.wrap IntKind.i64 (q - 1)))]
                        0 252))
                    [SFrm.mk 10 (some (opsAt Try.prog 10 [1, 1, 1, 0, 1, 0, 0, 1, 0, 0], [6])) (some 38)
                        [Item.inBlock 1, Item.code (cAt Try.prog 10 [1, 1, 1, 0, 1, 0, 0, 1, 1]),
                          Item.inLoop (cAt Try.prog 10 [1, 1, 1, 0, 1, 0, 0]), Item.inBlock 0,
                          Item.code (cAt Try.prog 10 [1, 1, 1, 1])]
                        (mkJ 0 [(0, SV.dat l), (3, SV.ptr 3 0), (4, SV.int IntKind.i64 i)] 0 155)]
                    [(0,
                        OBlk.cells 67
                          [SV.int IntKind.i64 e, SV.int IntKind.i64 s, SV.dat d, SV.int IntKind.i64 st,
                            SV.int IntKind.i64 ap, SV.int IntKind.i64 te, SV.int IntKind.i64 ts, SV.int IntKind.i64 tst,
                            SV.int IntKind.i64 tap, SV.vec 4, SV.vec 5, SV.lb true]),
                      (1, OBlk.cells 71 [SV.int IntKind.u8 k, SV.int IntKind.u8 x]),
                      (2,
                        OBlk.cells 67
                          [SV.int IntKind.i64 0, SV.int IntKind.i64 0, SV.nils, SV.int IntKind.i64 0,
                            SV.int IntKind.i64 0, SV.int IntKind.i64 0, SV.int IntKind.i64 0, SV.int IntKind.i64 0,
                            SV.int IntKind.i64 0, SV.nils, SV.nils, SV.lb false]),
                      (3,
                        OBlk.cells 67
                          [SV.int IntKind.i64 e, SV.int IntKind.i64 s, SV.dat d, SV.int IntKind.i64 st,
                            SV.int IntKind.i64 ap, SV.int IntKind.i64 te, SV.int IntKind.i64 ts, SV.int IntKind.i64 tst,
                            SV.int IntKind.i64 tap, SV.vec 4, SV.vec 5, SV.lb true]),
                      (4, OBlk.arr 3 (D.slc h1 1 r1)), (5, OBlk.arr 53 (D.slc h2 8 r2))]))))
            (Tree.leaf
              (Conf.mk
                (SFrm.mk 38 none none
                  [Item.inLoop (cAt Try.prog 38 [1, 1, 0, 1, 0, 1, 1, 1, 1, 1, 0, 1, 0, 0]), Item.inBlock 3,
                    Item.inBlock 0, Item.code (cAt Try.prog 38 [1, 1, 1])]
                  (mkJ 1
                    [(2, SV.ptr 0 0), (3, SV.ptr 1 0), (4, SV.ptr 2 0), (5, SV.nils),
                      (15, SV.int IntKind.i64 (IntKind.wrap IntKind.i64 (q - 1)))]
                    0 252))
                [SFrm.mk 10 (some (opsAt Try.prog 10 [1, 1, 1, 0, 1, 0, 0, 1, 0, 0], [6])) (some 38)
                    [Item.inBlock 1, Item.code (cAt Try.prog 10 [1, 1, 1, 0, 1, 0, 0, 1, 1]),
                      Item.inLoop (cAt Try.prog 10 [1, 1, 1, 0, 1, 0, 0]), Item.inBlock 0,
                      Item.code (cAt Try.prog 10 [1, 1, 1, 1])]
                    (mkJ 0 [(0, SV.dat l), (3, SV.ptr 3 0), (4, SV.int IntKind.i64 i)] 0 155)]
                [(0,
                    OBlk.cells 67
                      [SV.int IntKind.i64 e, SV.int IntKind.i64 s, SV.dat d, SV.int IntKind.i64 st, SV.int IntKind.i64 ap,
                        SV.int IntKind.i64 te, SV.int IntKind.i64 ts, SV.int IntKind.i64 tst, SV.int IntKind.i64 tap,
                        SV.vec 4, SV.vec 5, SV.lb true]),
                  (1, OBlk.cells 71 [SV.int IntKind.u8 k, SV.int IntKind.u8 x]),
                  (2,
                    OBlk.cells 67
                      [SV.int IntKind.i64 0, SV.int IntKind.i64 0, SV.nils, SV.int IntKind.i64 0, SV.int IntKind.i64 0,
                        SV.int IntKind.i64 0, SV.int IntKind.i64 0, SV.int IntKind.i64 0, SV.int IntKind.i64 0, SV.nils,
                        SV.nils, SV.lb false]),
                  (3,
                    OBlk.cells 67
                      [SV.int IntKind.i64 e, SV.int IntKind.i64 s, SV.dat d, SV.int IntKind.i64 st, SV.int IntKind.i64 ap,
                        SV.int IntKind.i64 te, SV.int IntKind.i64 ts, SV.int IntKind.i64 tst, SV.int IntKind.i64 tap,
                        SV.vec 4, SV.vec 5, SV.lb true]),
                  (4, OBlk.arr 3 (D.slc h1 1 r1)), (5, OBlk.arr 53 (D.slc h2 8 r2))])))
          (Tree.leaf
            (Conf.mk
              (SFrm.mk 38 none none
                [Item.inLoop (cAt Try.prog 38 [1, 1, 0, 1, 0, 1, 1, 1, 1, 1, 0, 1, 0, 0]), Item.inBlock 3, Item.inBlock 0,
                  Item.code (cAt Try.prog 38 [1, 1, 1])]
                (mkJ 1
                  [(2, SV.ptr 0 0), (3, SV.ptr 1 0), (4, SV.ptr 2 0), (5, SV.nils),
                    (15, SV.int IntKind.i64 (IntKind.wrap IntKind.i64 (q - 1)))]
                  0 252))
              [SFrm.mk 10 (some (opsAt Try.prog 10 [1, 1, 1, 0, 1, 0, 0, 1, 0, 0], [6])) (some 38)
                  [Item.inBlock 1, Item.code (cAt Try.prog 10 [1, 1, 1, 0, 1, 0, 0, 1, 1]),
                    Item.inLoop (cAt Try.prog 10 [1, 1, 1, 0, 1, 0, 0]), Item.inBlock 0,
                    Item.code (cAt Try.prog 10 [1, 1, 1, 1])]
                  (mkJ 0 [(0, SV.dat l), (3, SV.ptr 3 0), (4, SV.int IntKind.i64 i)] 0 155)]
              [(0,
                  OBlk.cells 67
                    [SV.int IntKind.i64 e, SV.int IntKind.i64 s, SV.dat d, SV.int IntKind.i64 st, SV.int IntKind.i64 ap,
                      SV.int IntKind.i64 te, SV.int IntKind.i64 ts, SV.int IntKind.i64 tst, SV.int IntKind.i64 tap,
                      SV.vec 4, SV.vec 5, SV.lb true]),
                (1, OBlk.cells 71 [SV.int IntKind.u8 k, SV.int IntKind.u8 x]),
                (2,
                  OBlk.cells 67
                    [SV.int IntKind.i64 0, SV.int IntKind.i64 0, SV.nils, SV.int IntKind.i64 0, SV.int IntKind.i64 0,
                      SV.int IntKind.i64 0, SV.int IntKind.i64 0, SV.int IntKind.i64 0, SV.int IntKind.i64 0, SV.nils,
                      SV.nils, SV.lb false]),
                (3,
                  OBlk.cells 67
                    [SV.int IntKind.i64 e, SV.int IntKind.i64 s, SV.dat d, SV.int IntKind.i64 st, SV.int IntKind.i64 ap,
                      SV.int IntKind.i64 te, SV.int IntKind.i64 ts, SV.int IntKind.i64 tst, SV.int IntKind.i64 tap,
                      SV.vec 4, SV.vec 5, SV.lb true]),
                (4, OBlk.arr 3 (D.slc h1 1 r1)), (5, OBlk.arr 53 (D.slc h2 8 r2))])))))
    (Tree.leaf
      (Conf.mk
        (SFrm.mk 38 none none [Item.code (cAt Try.prog 38 [1, 1, 1, 0]), Item.code (cAt Try.prog 38 [1, 1, 1, 1])]
          (mkJ 1 [(2, SV.ptr 0 0), (4, SV.ptr 1 0), (5, SV.nils)] 0 252))
        [SFrm.mk 10 (some (opsAt Try.prog 10 [1, 1, 1, 0, 1, 0, 0, 1, 0, 0], [6])) (some 38)
            [Item.inBlock 1, Item.code (cAt Try.prog 10 [1, 1, 1, 0, 1, 0, 0, 1, 1]),
              Item.inLoop (cAt Try.prog 10 [1, 1, 1, 0, 1, 0, 0]), Item.inBlock 0,
              Item.code (cAt Try.prog 10 [1, 1, 1, 1])]
            (mkJ 0 [(0, SV.dat l), (3, SV.ptr 2 0), (4, SV.int IntKind.i64 i)] 0 155)]
        [(0,
            OBlk.cells 67
              [SV.int IntKind.i64 e, SV.int IntKind.i64 s, SV.dat d, SV.int IntKind.i64 st, SV.int IntKind.i64 ap,
                SV.int IntKind.i64 te, SV.int IntKind.i64 ts, SV.int IntKind.i64 tst, SV.int IntKind.i64 tap, SV.vec 3,
                SV.vec 4, SV.lb true]),
          (1,
            OBlk.cells 67
              [SV.int IntKind.i64 0, SV.int IntKind.i64 0, SV.nils, SV.int IntKind.i64 0, SV.int IntKind.i64 0,
                SV.int IntKind.i64 0, SV.int IntKind.i64 0, SV.int IntKind.i64 0, SV.int IntKind.i64 0, SV.nils, SV.nils,
                SV.lb false]),
          (2,
            OBlk.cells 67
              [SV.int IntKind.i64 e, SV.int IntKind.i64 s, SV.dat d, SV.int IntKind.i64 st, SV.int IntKind.i64 ap,
                SV.int IntKind.i64 te, SV.int IntKind.i64 ts, SV.int IntKind.i64 tst, SV.int IntKind.i64 tap, SV.vec 3,
                SV.vec 4, SV.lb true]),
          (3, OBlk.arr 3 (D.slc h1 1 r1)), (4, OBlk.arr 53 (D.slc h2 8 r2))])) := by kernel_rfl

theorem c3n_10 : goS Try.prog ctL (fun _ => false) [(38, 2), (38, 246)] 400 (C10 3 .nils l i ⟨e0, s0, d0, st0, ap0⟩ ⟨te0, ts0, tst0, tap0⟩ ⟨e, s, d, st, ap⟩ ⟨te, ts, tst, tap⟩ h1 h2 r1 r2) =
  Tree.need
    (D.sz (D.slc h2 8 r2) = 8 ∧
      D.Fits (D.slc none 0 []) 8 ∧
        (D.len (D.slc h2 8 r2) + 0) * 96 ≤ 140737488355328 ∧ D.len (D.slc h2 8 r2) + 0 ≤ 9223372036854775807)
    (Tree.all fun hs =>
      Tree.leaf
        (Conf.mk
          (SFrm.mk 10 none none
            [Item.inLoop (cAt Try.prog 10 [1, 1, 1, 0, 1, 0, 0]), Item.inBlock 0,
              Item.code (cAt Try.prog 10 [1, 1, 1, 1])]
            (mkJ 0 [(0, SV.dat l), (3, SV.ptr 0 0), (4, SV.int IntKind.i64 (IntKind.wrap IntKind.i64 (i + 1)))] 0 155))
          []
          [(0,
              OBlk.cells 67
                [SV.int IntKind.i64 e, SV.int IntKind.i64 s, SV.dat d, SV.int IntKind.i64 st, SV.int IntKind.i64 ap,
                  SV.int IntKind.i64 te, SV.int IntKind.i64 ts, SV.int IntKind.i64 tst, SV.int IntKind.i64 tap, SV.vec 1,
                  SV.vec 2, SV.lb true]),
            (1, OBlk.arr 3 (D.slc h1 1 r1)),
            (2,
              OBlk.arr 53 (D.slc (D.hd (hs 0 0)) 8 (List.append (D.rows (D.slc h2 8 r2)) (D.rows (D.slc none 0 [])))))])) := by kernel_rfl

theorem c3d_10 : goS Try.prog ctL (fun _ => false) [(38, 2), (38, 246)] 400 (C10 3 (.dat dm) l i ⟨e0, s0, d0, st0, ap0⟩ ⟨te0, ts0, tst0, tap0⟩ ⟨e, s, d, st, ap⟩ ⟨te, ts, tst, tap⟩ h1 h2 r1 r2) =
  Tree.need
    (D.sz (D.slc h2 8 r2) = 8 ∧
      D.Fits dm 8 ∧
        (D.len (D.slc h2 8 r2) + D.len dm) * 96 ≤ 140737488355328 ∧
          D.len (D.slc h2 8 r2) + D.len dm ≤ 9223372036854775807)
    (Tree.all fun hs =>
      Tree.leaf
        (Conf.mk
          (SFrm.mk 10 none none
            [Item.inLoop (cAt Try.prog 10 [1, 1, 1, 0, 1, 0, 0]), Item.inBlock 0,
              Item.code (cAt Try.prog 10 [1, 1, 1, 1])]
            (mkJ 0 [(0, SV.dat l), (3, SV.ptr 0 0), (4, SV.int IntKind.i64 (IntKind.wrap IntKind.i64 (i + 1)))] 0 155))
          []
          [(0,
              OBlk.cells 67
                [SV.int IntKind.i64 e, SV.int IntKind.i64 s, SV.dat d, SV.int IntKind.i64 st, SV.int IntKind.i64 ap,
                  SV.int IntKind.i64 te, SV.int IntKind.i64 ts, SV.int IntKind.i64 tst, SV.int IntKind.i64 tap, SV.vec 1,
                  SV.vec 2, SV.lb true]),
            (1, OBlk.arr 3 (D.slc h1 1 r1)),
            (2, OBlk.arr 53 (D.slc (D.hd (hs 0 0)) 8 (List.append (D.rows (D.slc h2 8 r2)) (D.rows dm))))])) := by kernel_rfl

theorem c5d_10 : goS Try.prog ctL (fun _ => false) [(38, 2), (38, 246)] 400 (C10 5 (.dat dm) l i ⟨e0, s0, d0, st0, ap0⟩ ⟨te0, ts0, tst0, tap0⟩ ⟨e, s, d, st, ap⟩ ⟨te, ts, tst, tap⟩ h1 h2 r1 r2) =
  Tree.need
    (D.sz (D.slc h2 8 r2) = 8 ∧
      D.Fits dm 8 ∧
        (D.len (D.slc h2 8 r2) + D.len dm) * 96 ≤ 140737488355328 ∧
          D.len (D.slc h2 8 r2) + D.len dm ≤ 9223372036854775807)
    (Tree.all fun hs =>
      Tree.leaf
        (Conf.mk
          (SFrm.mk 10 none none
            [Item.inLoop (cAt Try.prog 10 [1, 1, 1, 0, 1, 0, 0]), Item.inBlock 0,
              Item.code (cAt Try.prog 10 [1, 1, 1, 1])]
            (mkJ 0 [(0, SV.dat l), (3, SV.ptr 0 0), (4, SV.int IntKind.i64 (IntKind.wrap IntKind.i64 (i + 1)))] 0 155))
          []
          [(0,
              OBlk.cells 67
                [SV.int IntKind.i64 e, SV.int IntKind.i64 s, SV.dat d, SV.int IntKind.i64 st, SV.int IntKind.i64 ap,
                  SV.int IntKind.i64 te, SV.int IntKind.i64 ts, SV.int IntKind.i64 tst, SV.int IntKind.i64 tap, SV.vec 1,
                  SV.vec 2, SV.lb true]),
            (1, OBlk.arr 3 (D.slc h1 1 r1)),
            (2, OBlk.arr 53 (D.slc (D.hd (hs 0 0)) 8 (List.append (D.rows (D.slc h2 8 r2)) (D.rows dm))))])) := by kernel_rfl

end
end Go.Proofs.Ytnfkkmdbaknnlaa
end
section
/- Layer 32: a step within the statement of number 10. -/
open Go Go.Proofs Sx
namespace Go.Proofs.Ytnfkkmdbaknnlaa
section
variable {C : Ctx} {R : Value → World → Prop} {l : D} {i : Int} {j : Nat} {sent : List Msg} {S0 S : SrcD} {T0 T : Tgt} {h1 h2 : Hd} {r1 r2 : List (List D)}
theorem c3n10 (hj : j ≤ 59) (hq : PlayLeft j S0 T0 r2 S T r1 [] sent []) (hD : ∀ h', Runs Try.prog C (A10 l (IntKind.i64.wrap (i + 1)) S T h1 h' r1 (r2 ++ [])) R) : Runs Try.prog C (C10 3 .nils l i S0 T0 S T h1 h2 r1 r2) R := by
  have hl2 := hq.pi.len2
  rw [List.length_append] at hl2
  obtain ⟨e, s, d, st, ap⟩ := S
  obtain ⟨e0, s0, d0, st0, ap0⟩ := S0
  apply goS_sound ctLOk (fun _ => false) [(38, 2), (38, 246)] 400
  rw [c3n_10]
  refine ⟨⟨rfl, .inl rfl, ?_, ?_⟩, fun hs => hD _⟩
  · simp only [D.len, rows_slc, List.length_nil] at hl2 ⊢; omega
  · simp only [D.len, rows_slc, List.length_nil] at hl2 ⊢; omega
theorem c3d10 {dm : D} {ms : List Msg} (hj : j ≤ 59) (hm : dm.Is Msg) (hml : ms.length ≤ 70) (hq : PlayLeft j S0 T0 r2 S T r1 dm.rows sent ms) (hD : ∀ h', Runs Try.prog C (A10 l (IntKind.i64.wrap (i + 1)) S T h1 h' r1 (r2 ++ dm.rows)) R) : Runs Try.prog C (C10 3 (.dat dm) l i S0 T0 S T h1 h2 r1 r2) R := by
  have hl2 := hq.pi.len2
  rw [List.length_append] at hl2
  obtain ⟨e, s, d, st, ap⟩ := S
  obtain ⟨e0, s0, d0, st0, ap0⟩ := S0
  apply goS_sound ctLOk (fun _ => false) [(38, 2), (38, 246)] 400
  rw [c3d_10]
  refine ⟨⟨rfl, fits_msg hm, ?_, ?_⟩, fun hs => hD _⟩
  · simp only [D.len, rows_slc, List.length_nil] at hl2 ⊢; omega
  · simp only [D.len, rows_slc, List.length_nil] at hl2 ⊢; omega
theorem c5d10 {dm : D} {ms : List Msg} (hj : j ≤ 59) (hm : dm.Is Msg) (hml : ms.length ≤ 70) (hq : PlayLeft j S0 T0 r2 S T r1 dm.rows sent ms) (hD : ∀ h', Runs Try.prog C (A10 l (IntKind.i64.wrap (i + 1)) S T h1 h' r1 (r2 ++ dm.rows)) R) : Runs Try.prog C (C10 5 (.dat dm) l i S0 T0 S T h1 h2 r1 r2) R := by
  have hl2 := hq.pi.len2
  rw [List.length_append] at hl2
  obtain ⟨e, s, d, st, ap⟩ := S
  obtain ⟨e0, s0, d0, st0, ap0⟩ := S0
  apply goS_sound ctLOk (fun _ => false) [(38, 2), (38, 246)] 400
  rw [c5d_10]
  refine ⟨⟨rfl, fits_msg hm, ?_, ?_⟩, fun hs => hD _⟩
  · simp only [D.len, rows_slc, List.length_nil] at hl2 ⊢; omega
  · simp only [D.len, rows_slc, List.length_nil] at hl2 ⊢; omega

/-- The first loop. -/
theorem l110 {j : Nat} {sent : List Msg} (hj : j ≤ 60) (hp : PI j S T r1 r2 sent) (hn : Runs Try.prog C (C10 3 .nils l i S T S T h1 h2 r1 r2) R)
    (hs : ∀ c dm, c ∈ S.d.to Int → T.stored < c → S.e = T.epoch → dm.Is Msg → dm.to Msg = (Sx.store T c).2.1 → Runs Try.prog C (C10 3 (.dat dm) l i S T S (Sx.store T c).1 h1 h2 r1 r2) R) :
    ∀ q : Nat, q ≤ (S.d.to Int).length → Runs Try.prog C (L110 l i S T q h1 h2 r1 r2) R := by
  obtain ⟨e, s, d, st, ap⟩ := S
  have hd : d.Is Int := hp.d
  have hlen : (d.to Int).length ≤ 60 := by have := hp.inv.of2; simp only [SrcD.src] at this; omega
  refine runs_loop (fun q : Nat => L110 l i ⟨e, s, d, st, ap⟩ T q h1 h2 r1 r2) (fun q => q ≤ (d.to Int).length) (fun q => (d.to Int).length - q) (fun _ => rfl) fun q hq ih => ?_
  apply goS_sound ctLOk (fun _ => false) [(38, 2), (38, 246)] 400
  rw [l1_10]
  refine ⟨fun hlt => ?_, fun _ => hn⟩
  have hlt' : q < (d.to Int).length := by have := of_decide_eq_true hlt; rw [D.Is.length (α := Int)] at this; omega
  obtain ⟨a1, a2, a3⟩ := int_at hd hlt'
  have next : Runs Try.prog C (L110 l i ⟨e, s, d, st, ap⟩ T (IntKind.i64.wrap ((q : Int) + 1)) h1 h2 r1 r2) R := by
    rw [wrap_succ hlt' (by omega)]
    exact ih (q + 1) hlt' (by omega)
  refine ⟨a1, a2, fun hgt => ⟨fun hee => ?_, fun _ => next⟩, fun _ => next⟩
  rw [a3] at hgt
  have hgt := of_decide_eq_true hgt
  have hee := of_decide_eq_true hee
  have hmem : (d.to Int)[q] ∈ d.to Int := List.getElem_mem hlt'
  intro hs'
  rw [a3]
  have hok : (Sx.store ⟨T.epoch, T.site, T.stored, T.applied⟩ (d.to Int)[q]).2.2 = 0 := by
    unfold Sx.store
    have ct : checkTarget ⟨T.epoch, T.site, T.stored, T.applied⟩ = 0 := checkTarget_ok hp.inv.tok
    have := (hp.inv.sok.low _ hmem).2
    have h0 : ¬ ((d.to Int)[q] ≤ T.stored) := by omega
    have h1' : ¬ ((d.to Int)[q] > 1073741824) := by omega
    rw [if_neg (by simp [ct]), if_neg h0, if_neg h1']
  refine ⟨fun h => by rw [hok] at h; simp at h, fun _ => ?_⟩
  exact hs _ _ hmem hgt hee (D.like_is _ _) (D.like_to _ _)


/-- The second loop. -/
theorem l210 {j : Nat} {sent : List Msg} {k x : Int} (hj : j ≤ 60) (hp : PI j S T r1 r2 sent) (hn : Runs Try.prog C (C10 3 .nils l i S T S T h1 h2 r1 r2) R)
    (hs : ∀ c dm, c ∈ S.d.to Int → T.applied < c → c ≤ T.stored → dm.Is Msg → dm.to Msg = (applyT T c).2.1 → Runs Try.prog C (C10 3 (.dat dm) l i S T S (applyT T c).1 h1 h2 r1 r2) R) :
    ∀ q : Nat, q ≤ (S.d.to Int).length → Runs Try.prog C (L210 l i S T k x ((q : Int) - 1) h1 h2 r1 r2) R := by
  obtain ⟨e, s, d, st, ap⟩ := S
  have hd : d.Is Int := hp.d
  have hlen : (d.to Int).length ≤ 60 := by have := hp.inv.of2; simp only [SrcD.src] at this; omega
  refine runs_loop (fun q : Nat => L210 l i ⟨e, s, d, st, ap⟩ T k x ((q : Int) - 1) h1 h2 r1 r2) (fun q => q ≤ (d.to Int).length) (fun q => q) (fun _ => rfl) fun q hq ih => ?_
  apply goS_sound ctLOk (fun _ => false) [(38, 2), (38, 246)] 400
  rw [l2_10]
  refine ⟨fun hge => ?_, fun _ => hn⟩
  have hge := of_decide_eq_true hge
  obtain ⟨p, rfl⟩ : ∃ p, q = p + 1 := ⟨q - 1, by omega⟩
  have hpp : ((p + 1 : Nat) : Int) - 1 = (p : Int) := by omega
  have hlt' : p < (d.to Int).length := by omega
  obtain ⟨a1, a2, a3⟩ := int_at hd hlt'
  rw [hpp]
  have next : Runs Try.prog C (L210 l i ⟨e, s, d, st, ap⟩ T k x (IntKind.i64.wrap ((p : Int) - 1)) h1 h2 r1 r2) R := by
    rw [wrap_pred (by omega)]
    exact ih p (by omega) (by omega)
  refine ⟨a1, a2, fun hgt => ⟨fun hle => ⟨by decide, fun _ => ?_, fun _ => next⟩, fun _ => next⟩, fun _ => next⟩
  rw [a3] at hgt hle
  have hgt := of_decide_eq_true hgt
  have hle := of_decide_eq_true hle
  have hmem : (d.to Int)[p] ∈ d.to Int := List.getElem_mem hlt'
  intro hs'
  rw [a3]
  have hok : (applyT ⟨T.epoch, T.site, T.stored, T.applied⟩ (d.to Int)[p]).2.2 = 0 := by
    unfold applyT
    have ct : checkTarget ⟨T.epoch, T.site, T.stored, T.applied⟩ = 0 := checkTarget_ok hp.inv.tok
    have h0 : ¬ ((d.to Int)[p] ≤ T.applied) := by omega
    have h1' : ¬ ((d.to Int)[p] > T.stored) := by omega
    rw [if_neg (by simp [ct]), if_neg h0, if_neg h1']
  refine ⟨fun h => by rw [hok] at h; simp at h, fun _ => ?_⟩
  exact hs _ _ hmem hgt hle (D.like_is _ _) (D.like_to _ _)

/-- A step. -/
theorem st10 {j : Nat} {sent : List Msg} {k x : Int} (hj : j ≤ 59) (hx : 0 ≤ x) (hxb : x ≤ 255) (hp : PI j S T r1 r2 sent)
    (hD : ∀ S' T' h1' h2' r1' rows' ms, PlayLeft j S T r2 S' T' r1' rows' sent ms → Runs Try.prog C (A10 l (IntKind.i64.wrap (i + 1)) S' T' h1' h2' r1' (r2 ++ rows')) R) :
    Runs Try.prog C (E10 l i S T k x h1 h2 r1 r2) R := by
  have hp0 := hp
  obtain ⟨e, s, d, st, ap⟩ := S
  have hd : d.Is Int := hp.d
  have hlen : (d.to Int).length ≤ 60 := by have := hp.inv.of2; simp only [SrcD.src] at this; omega
  have hr2 := hp.len2
  have hrl := rows_len hp.rows
  -- the end of a step
  have hend : ∀ S' T' r1' rows' ms, StepTo (SrcD.mk e s d st ap).src T sent S'.src T' ms → S'.d.Is Int → SRows Msg rows' ms → r1'.length ≤ j + 1 →
      PlayLeft j ⟨e, s, d, st, ap⟩ T r2 S' T' r1' rows' sent ms := by
    intro S' T' r1' rows' ms hst hd' hr' hl'
    obtain ⟨i1, i2⟩ := inv_step (by omega) hp.inv hst
    exact ⟨⟨i1, rows_app hp.rows hr', hd', hl'⟩, hr', i2, hst⟩
  have hr1 := hp.r1
  have idle : ∀ S', StepTo (SrcD.mk e s d st ap).src T sent S'.src T [] → S'.d.Is Int → Runs Try.prog C (C10 3 .nils l i ⟨e, s, d, st, ap⟩ T S' T h1 h2 r1 r2) R :=
    fun S' hs hd' => c3n10 hj (hend S' T _ [] [] hs hd' rows_nil (by omega)) fun h' => hD _ _ _ _ _ _ _ (hend S' T _ [] [] hs hd' rows_nil (by omega))
  have sends : ∀ S' T' dm ms, StepTo (SrcD.mk e s d st ap).src T sent S'.src T' ms → S'.d.Is Int → dm.Is Msg → dm.to Msg = ms → ms.length ≤ 70 → Runs Try.prog C (C10 3 (.dat dm) l i ⟨e, s, d, st, ap⟩ T S' T' h1 h2 r1 r2) R :=
    fun S' T' dm ms hs hd' hm hm' hl' => c3d10 hj hm hl' (hend S' T' _ _ ms hs hd' (by rw [← hm']; exact rows_of hm) (by omega)) fun h' => hD _ _ _ _ _ _ _ (hend S' T' _ _ ms hs hd' (by rw [← hm']; exact rows_of hm) (by omega))
  have hso : ∀ (S' : Src) (h : D), (SrcD.mk S'.epoch S'.site (h.like S'.offered) S'.stored S'.applied).src = S' := fun S' h => src_like _ _ _ _ _ _
  have sends' : ∀ (S' : Src) (h : D) T' dm ms, StepTo (SrcD.mk e s d st ap).src T sent S' T' ms → dm.Is Msg → dm.to Msg = ms → ms.length ≤ 70 →
      Runs Try.prog C (C10 3 (.dat dm) l i ⟨e, s, d, st, ap⟩ T ⟨S'.epoch, S'.site, h.like S'.offered, S'.stored, S'.applied⟩ T' h1 h2 r1 r2) R :=
    fun S' h T' dm ms hs hm hm' hl' => sends _ T' dm ms (by rw [hso]; exact hs) (D.like_is _ _) hm hm' hl'
  have idle' : ∀ (S' : Src) (h : D), StepTo (SrcD.mk e s d st ap).src T sent S' T [] →
      Runs Try.prog C (C10 3 .nils l i ⟨e, s, d, st, ap⟩ T ⟨S'.epoch, S'.site, h.like S'.offered, S'.stored, S'.applied⟩ T h1 h2 r1 r2) R :=
    fun S' h hs => idle _ (by rw [hso]; exact hs) (D.like_is _ _)
  apply goS_sound ctLOk (fun _ => false) [(38, 2), (38, 246)] 400
  rw [step_10]
  -- the source offers
  have offers : ∀ c : Int, (c = lastOf ap (d.to Int) + 1 ∨ c = lastOf ap (d.to Int) + 2) → (offer (SrcD.mk e s d st ap).src c).2.2 = 0 → ∀ (h3 h4 : D) (q : List (List D)), q.length = 1 → ∀ hh,
      Runs Try.prog C (C10 5 (.dat (h4.like (offer (SrcD.mk e s d st ap).src c).2.1)) l i ⟨e, s, d, st, ap⟩ T
        ⟨(offer (SrcD.mk e s d st ap).src c).1.epoch, (offer (SrcD.mk e s d st ap).src c).1.site, h3.like (offer (SrcD.mk e s d st ap).src c).1.offered, (offer (SrcD.mk e s d st ap).src c).1.stored, (offer (SrcD.mk e s d st ap).src c).1.applied⟩ T hh h2 (r1 ++ q) r2) R := by
    intro c hc he h3 h4 q hq hh
    have hol := offer_len (SrcD.mk e s d st ap).src c
    have hl := hend ⟨(offer (SrcD.mk e s d st ap).src c).1.epoch, (offer (SrcD.mk e s d st ap).src c).1.site, h3.like (offer (SrcD.mk e s d st ap).src c).1.offered, (offer (SrcD.mk e s d st ap).src c).1.stored, (offer (SrcD.mk e s d st ap).src c).1.applied⟩ T (r1 ++ q) (h4.like (offer (SrcD.mk e s d st ap).src c).2.1).rows (offer (SrcD.mk e s d st ap).src c).2.1 (by rw [hso]; exact .offer c hc he) (D.like_is _ _) ⟨(rows_of (D.like_is _ _)).1, by rw [(rows_of (D.like_is (α := Msg) _ _)).2, D.like_to]⟩ (by rw [List.length_append, hq]; omega)
    exact c5d10 hj (D.like_is _ _) (by omega) hl fun h' => hD _ _ _ _ _ _ _ hl
  have hlg := lastOf_ge (a := ap) (l := d.to Int) (fun y hy => (hp.inv.sok.low y hy).1) hp.inv.sok.up
  have hap0 := hp.inv.sok.a0
  have hlub : lastOf ap (d.to Int) ≤ 1073741824 := by
    rcases lastOf_mem (a := ap) (l := d.to Int) with h | h
    · rw [h]; exact hp.inv.sok.a1
    · exact (hp.inv.sok.low _ h).2
  have hap0' : 0 ≤ ap := hap0
  refine ⟨by decide, fun _ => ⟨fun hpos => ?_, fun hzero => ?_⟩, fun _ => ⟨fun _ => ?_, fun _ => ⟨fun _ => ?_, fun _ => ⟨fun _ => ⟨fun hpos => ?_, fun _ => ?_⟩, fun _ => ⟨fun _ => ⟨fun hpos => ?_, fun _ => ?_⟩, fun _ => ⟨fun _ => ?_, fun _ => ?_⟩⟩⟩⟩⟩⟩
  · -- 0: behind the last
    have hpos' : 0 < (d.to Int).length := by have := of_decide_eq_true hpos; rw [D.Is.length (α := Int)] at this; omega
    obtain ⟨w1, w2⟩ := last_at hd ap hpos' (by omega)
    have hlt : (d.to Int).length - 1 < (d.to Int).length := by omega
    obtain ⟨a1, a2, a3⟩ := int_at hd hlt
    rw [w1]
    refine ⟨a1, a2, by decide, hd, fun hs => ?_⟩
    rw [a3, w2]
    have hc := cyc_eq (a := lastOf ap (d.to Int)) (x := x) (by omega) (by omega) hx
    generalize IntKind.i64.wrap (IntKind.i64.wrap (lastOf ap (d.to Int) + 1) + IntKind.i64.wrap (Int.tmod x 2)) = c at hc
    refine ⟨fun he => ⟨by decide, fun hs1 => ⟨⟨rfl, .inr rfl, ?_, ?_⟩, fun hs2 => ?_⟩⟩, fun _ => idle _ .none hd⟩
    · simp only [len_slc, List.length_singleton]; omega
    · simp only [len_slc, List.length_singleton]; omega
    · exact offers c hc (of_decide_eq_true he) _ _ _ rfl _
  · -- 0: behind what is applied
    have hz : d.to Int = [] := by
      have := of_decide_eq_false hzero
      rw [D.Is.length (α := Int)] at this
      exact List.eq_nil_of_length_eq_zero (by omega)
    have hlast : lastOf ap (d.to Int) = ap := by rw [hz]; rfl
    refine ⟨by decide, hd, fun hs => ?_⟩
    have hc := cyc_eq (a := ap) (x := x) (by omega) (by omega) hx
    generalize IntKind.i64.wrap (IntKind.i64.wrap (ap + 1) + IntKind.i64.wrap (Int.tmod x 2)) = c at hc
    refine ⟨fun he => ⟨by decide, fun hs1 => ⟨⟨rfl, .inr rfl, ?_, ?_⟩, fun hs2 => ?_⟩⟩, fun _ => idle _ .none hd⟩
    · simp only [len_slc, List.length_singleton]; omega
    · simp only [len_slc, List.length_singleton]; omega
    · exact offers c (by rw [hlast]; exact hc) (of_decide_eq_true he) _ _ _ rfl _
  · -- 1: the target stores
    exact l110 (by omega) hp0 (idle _ .none hd) (fun c dm hc hgt hee hm hm' => sends _ _ dm _ (.store c hc hgt hee) hd hm hm' (by have := (store_len T c).1; omega)) 0 (Nat.zero_le _)
  · -- 2: it applies
    have h3 : IntKind.i64.wrap ((d.len : Int) - 1) = (((d.to Int).length : Nat) : Int) - 1 := by rw [D.Is.length (α := Int), wrap64 (by omega) (by omega)]
    rw [h3]
    exact l210 (by omega) hp0 (idle _ .none hd) (fun c dm hc hgt hle hm hm' => sends _ _ dm _ (.apply c hc hgt hle) hd hm hm' (by have := (applyT_len T c).1; omega)) _ (Nat.le_refl _)
  · -- 3: the source learns
    have hpos' : 0 < sent.length := by have := of_decide_eq_true hpos; simp only [len_slc] at this; omega
    have hw : IntKind.i64.wrap x = x := wrap64 (by omega) (by omega)
    obtain ⟨t1, t2⟩ := tmod_small hx (by omega : (0 : Int) < (r2.length : Int))
    intro hs
    rw [hw]
    simp only [len_slc]
    have hi : (Int.toNat (Int.tmod x (r2.length : Int))) < sent.length := by omega
    obtain ⟨m1, m2⟩ := row_msg (h := h2) hp.rows hi
    refine ⟨by omega, ⟨t1, t2, rfl⟩, ⟨m1, rfl⟩, hd, ?_⟩
    rw [m2]
    have hst := StepTo.learn (s := (SrcD.mk e s d st ap).src) (t := T) (sent := sent) sent[Int.toNat (Int.tmod x (r2.length : Int))] (List.getElem_mem hi)
    exact sends' _ _ T _ _ hst (D.like_is _ _) (D.like_to _ _) (by have := (learn_len (SrcD.mk e s d st ap).src sent[Int.toNat (Int.tmod x (r2.length : Int))]).2.1; omega)
  · exact idle _ .none hd
  · -- 4: the target answers
    have hpos' : 0 < sent.length := by have := of_decide_eq_true hpos; simp only [len_slc] at this; omega
    have hw : IntKind.i64.wrap x = x := wrap64 (by omega) (by omega)
    obtain ⟨t1, t2⟩ := tmod_small hx (by omega : (0 : Int) < (r2.length : Int))
    intro hs
    rw [hw]
    simp only [len_slc]
    have hi : (Int.toNat (Int.tmod x (r2.length : Int))) < sent.length := by omega
    obtain ⟨m1, m2⟩ := row_msg (h := h2) hp.rows hi
    refine ⟨by omega, ⟨t1, t2, rfl⟩, ⟨m1, rfl⟩, ?_⟩
    rw [m2]
    have hst := StepTo.answer (s := (SrcD.mk e s d st ap).src) (t := T) (sent := sent) sent[Int.toNat (Int.tmod x (r2.length : Int))] (List.getElem_mem hi)
    exact sends _ _ _ _ hst hd (D.like_is _ _) (D.like_to _ _) (by have := (answer_len T sent[Int.toNat (Int.tmod x (r2.length : Int))]).1; omega)
  · exact idle _ .none hd
  · -- 5: the source sends again
    refine ⟨hd, fun hs => ?_⟩
    have hrl' := (resend_len (SrcD.mk e s d st ap).src).1
    have h3 : (SrcD.mk e s d st ap).src.offered = d.to Int := rfl
    rw [h3] at hrl'
    exact sends _ _ _ _ .resend hd (D.like_is _ _) (D.like_to _ _) (by omega)
  · -- 6: a new source
    intro hs
    have hte := hp.inv.tok.e0
    have hte1 := hp.inv.tok.e1
    have hw : IntKind.i64.wrap (T.epoch + 1) = T.epoch + 1 := wrap64 (by omega) (by omega)
    rw [hw]
    refine ⟨fun _ => ⟨by decide, fun _ => ?_, fun _ => idle _ .none hd⟩, fun _ => idle _ .none hd⟩
    exact idle' _ _ .fresh
end
end Go.Proofs.Ytnfkkmdbaknnlaa
end
section
/- Layer 32: CommitCompletes. -/
open Go Go.Proofs Sx
namespace Go.Proofs.Ytnfkkmdbaknnlaa
section
variable {w : World} {H : HV} {l : D}

/-- Behind the steps. -/
theorem b10 {j : Nat} {S : SrcD} {T : Tgt} {h1 h2 : Hd} {r1 r2 : List (List D)} {sent : List Msg} (hj : j ≤ 60) (hp : PI j S T r1 r2 sent) (h2' : Inv2 S.src T) :
    Runs Try.prog ⟨w, H⟩ (B10 S T h1 h2 r1 r2) (RetS w H (.lb true)) := by
  obtain ⟨e, s, d, st, ap⟩ := S
  obtain ⟨te, ts, tst, tap⟩ := T
  have hd : d.Is Int := hp.d
  have tok := hp.inv.tok
  have sok := hp.inv.sok
  have hts : ts = 2 := tok.site
  subst hts
  apply goS_sound ctLOk (fun _ => false) [(38, 2), (38, 246)] 400
  rw [b_10]
  refine ⟨fun _ => ret_lbt, fun hne => fun hs => ?_⟩
  have he : e = te := by simpa using hne
  subst he
  have hl : (d.to Int).length ≤ 60 := by have : (d.to Int).length ≤ j := hp.inv.of2; omega
  have hst : st ≤ tst := hp.inv.st1 rfl
  have hap : ap ≤ tap := hp.inv.ap
  have ht1 : tap ≤ tst := tok.a1
  have ht0 : 0 ≤ tap := tok.a0
  have ht2 : tst ≤ 1073741824 := tok.s1
  -- the rounds begin with what is stored
  have go : Runs Try.prog ⟨w, H⟩ (N10 (0 : Nat) ⟨e, s, d, st, ap⟩ ⟨e, 2, tst, tap⟩ ⟨e, s, d, st, ap⟩ ⟨e, 2, tst, tst⟩ h1 h2 r1 r2) (RetS w H (.lb true)) := by
    refine n10 (E := e) (V := tst) (S0 := ⟨e, s, d, st, ap⟩) ⟨tok.e0, tok.e1, rfl, by simp only; omega, Int.le_refl _, ht2⟩ (0, ⟨e, s, d, st, ap⟩) ⟨by simp, ⟨⟨sok, rfl, Int.le_refl _, hst, ?_, hl⟩, hd⟩, fun h => absurd h (Nat.not_succ_le_zero 0)⟩
    rcases h2'.1 rfl with h | h
    · exact .inr (.inr h)
    · exact .inl h
  refine ⟨fun hgt => fun hs1 => ?_, fun hge => ?_⟩
  · have hgt := of_decide_eq_true hgt
    have ha : applyT ⟨e, 2, tst, tap⟩ tst = (⟨e, 2, tst, tst⟩, [toSource ⟨e, 2, tst, tst⟩ 11 tst], 0) := by
      unfold applyT
      rw [if_neg (by simp [checkTarget_ok tok]), if_neg (by simp only; omega), if_neg (by simp only; omega)]
      rfl
    rw [ha]
    exact ⟨fun h => by simp at h, fun _ => go⟩
  · have hge := of_decide_eq_false hge
    have : tap = tst := by omega
    subst this
    exact go

theorem a10 (hl : PlaySteps l) (hlen : l.len ≤ 60) : ∀ σ : Nat × SrcD × Tgt × Hd × Hd × List (List D) × List (List D),
    (σ.1 ≤ l.len ∧ ∃ sent, PI σ.1 σ.2.1 σ.2.2.1 σ.2.2.2.2.2.1 σ.2.2.2.2.2.2 sent ∧ Inv2 σ.2.1.src σ.2.2.1) →
    Runs Try.prog ⟨w, H⟩ (A10 l σ.1 σ.2.1 σ.2.2.1 σ.2.2.2.1 σ.2.2.2.2.1 σ.2.2.2.2.2.1 σ.2.2.2.2.2.2) (RetS w H (.lb true)) := by
  refine runs_loop (fun σ : Nat × SrcD × Tgt × Hd × Hd × List (List D) × List (List D) => A10 l σ.1 σ.2.1 σ.2.2.1 σ.2.2.2.1 σ.2.2.2.2.1 σ.2.2.2.2.2.1 σ.2.2.2.2.2.2)
    (fun σ => σ.1 ≤ l.len ∧ ∃ sent, PI σ.1 σ.2.1 σ.2.2.1 σ.2.2.2.2.2.1 σ.2.2.2.2.2.2 sent ∧ Inv2 σ.2.1.src σ.2.2.1) (fun σ => l.len - σ.1) (fun _ => rfl) ?_
  rintro ⟨i, S, T, h1, h2, r1, r2⟩ ⟨hi, sent, hp, hp2⟩ ih
  simp only at hi hp hp2
  have hb := fun (h : i ≤ 60) => b10 (w := w) (H := H) (h1 := h1) (h2 := h2) h hp hp2
  obtain ⟨e, s, d, st, ap⟩ := S
  apply goS_sound ctLOk (fun _ => false) [(38, 2), (38, 246), (10, 39)] 400
  rw [a_10]
  refine ⟨fun hlt hs => ?_, fun _ => hb (by omega)⟩
  have hlt' : i < l.len := by have := of_decide_eq_true hlt; omega
  obtain ⟨b1, b2, b3, b4⟩ := hl.at hlt'
  refine ⟨b1, b2, ?_⟩
  refine st10 (j := i) (by omega) b3 b4 hp fun S' T' h1' h2' r1' rows' ms hq => ?_
  rw [wrap_succ hlt' (by omega)]
  exact ih (i + 1, S', T', h1', h2', r1', r2 ++ rows') ⟨by simp only; omega, _, hq.pi, inv2_step (by omega) hp.inv hp2 hq.step⟩ (by simp only; omega)

theorem lawCompletes : Law Try.prog 10 (rdD.one.sp spB6) := by
  refine law_in _ (by kernel_rfl) fun H w l hok hp => ?_
  have hl : PlaySteps l := hp _ (List.mem_singleton.2 rfl)
  apply exec_sound ctLOk 300
  rw [show rdD.one.canon l = [.dat l] from rfl, completes_in]
  refine ⟨fun _ => ret_lbt, fun hlen => fun hs => fun hs1 => ⟨fun _ => ?_, fun h => by cases h⟩⟩
  have hlen' : l.len ≤ 60 := by have := of_decide_eq_false hlen; omega
  refine lbIn_to 0 11 ⟨⟨10, none, none, [Item.inLoop (cAt Try.prog 10 [1, 1, 1, 0, 1, 0, 0]), Item.inBlock 0, Item.code (cAt Try.prog 10 [1, 1, 1, 1])], mkJ 0 [(0, .dat l), (3, .ptr 0 0), (4, .int .i64 0)] 0 155⟩, [],
    [(0, .cells 67 (pcs ⟨1, 2, (hs 0 0).like ([] : List Int), 3, 3⟩ ⟨1, 2, 3, 3⟩ .nils .nils (.lb true)))]⟩ (by kernel_rfl) ?_
  refine vecIn2_to 5 3 1 (some 0) 9 6 53 8 (some 0) 10 (A10 l 0 ⟨1, 2, (hs 0 0).like ([] : List Int), 3, 3⟩ ⟨1, 2, 3, 3⟩ none none [] []) (by kernel_rfl) ?_
  exact a10 hl hlen' (0, ⟨1, 2, (hs 0 0).like ([] : List Int), 3, 3⟩, ⟨1, 2, 3, 3⟩, none, none, [], []) ⟨Nat.zero_le _, [], ⟨by rw [src_like]; exact inv_begin, rows_nil, D.like_is _ _, Nat.le_refl _⟩, by rw [src_like]; exact inv2_begin⟩
end
end Go.Proofs.Ytnfkkmdbaknnlaa
end
