/- Layer 32: CommitSafe, walked. -/
import Derived.KernelRfl
import Derived.Test.YtnfkkmdbaknnlaaW3gtoW17g
import Derived.Test.YtnfkkmdbaknnlaaOvtoW1
set_option linter.all false
section
open Go Go.Proofs Sx
namespace Go.Proofs.Ytnfkkmdbaknnlaa
set_option maxRecDepth 100000
set_option maxHeartbeats 0
section
variable (l : D) (e s st ap te ts tst tap i n k x : Int) (d : D) (h1 h2 : Hd) (r1 r2 : List (List D))
theorem step8 : goS Try.prog ctL (fun _ => false) [(38, 2), (38, 246), (8, 27)] 400 (E8 l i n ⟨e, s, d, st, ap⟩ ⟨te, ts, tst, tap⟩ k x h1 h2 r1 r2) =
  Tree.need ((7 : Int) ≠ 0)
    (Tree.br (decide (Int.tmod k 7 = 0))
      (Tree.br (decide ((↑(D.len d) : Int) > 0))
        (Tree.need
          (0 ≤ IntKind.wrap IntKind.i64 ((↑(D.len d) : Int) - 1) ∧
            IntKind.wrap IntKind.i64 ((↑(D.len d) : Int) - 1) < (↑(D.len d) : Int) ∧ D.sz d = 1)
          (Tree.need (D.HasCell d (Int.toNat (IntKind.wrap IntKind.i64 ((↑(D.len d) : Int) - 1))) 0 (FT.int IntKind.i64))
            (Tree.need ((2 : Int) ≠ 0)
              (Tree.need (D.Is Int d)
                (Tree.all fun hs =>
                  Tree.br
                    (decide
                      (Prod.snd
                          (Prod.snd
                            (offer (SrcD.src (SrcD.mk e s d st ap))
                              (IntKind.wrap IntKind.i64
                                (IntKind.wrap IntKind.i64
                                    (D.getInt d (Int.toNat (IntKind.wrap IntKind.i64 ((↑(D.len d) : Int) - 1))) 0 + 1) +
                                  IntKind.wrap IntKind.i64 (Int.tmod x 2))))) =
                        0))
                    (Tree.need ((2 : Int) ≠ 0)
                      (Tree.all fun hs_1 =>
                        Tree.need
                          (D.sz (D.slc h1 1 r1) = 1 ∧
                            D.Fits
                                (D.slc (D.hd (hs_1 0 0)) 1
                                  [[D.int IntKind.i64
                                        (IntKind.wrap IntKind.i64
                                          (IntKind.wrap IntKind.i64
                                              (D.getInt d (Int.toNat (IntKind.wrap IntKind.i64 ((↑(D.len d) : Int) - 1)))
                                                  0 +
                                                1) +
                                            IntKind.wrap IntKind.i64 (Int.tmod x 2)))]])
                                1 ∧
                              (D.len (D.slc h1 1 r1) +
                                      D.len
                                        (D.slc (D.hd (hs_1 0 0)) 1
                                          [[D.int IntKind.i64
                                                (IntKind.wrap IntKind.i64
                                                  (IntKind.wrap IntKind.i64
                                                      (D.getInt d
                                                          (Int.toNat (IntKind.wrap IntKind.i64 ((↑(D.len d) : Int) - 1)))
                                                          0 +
                                                        1) +
                                                    IntKind.wrap IntKind.i64 (Int.tmod x 2)))]])) *
                                    8 ≤
                                  140737488355328 ∧
                                D.len (D.slc h1 1 r1) +
                                    D.len
                                      (D.slc (D.hd (hs_1 0 0)) 1
                                        [[D.int IntKind.i64
                                              (IntKind.wrap IntKind.i64
                                                (IntKind.wrap IntKind.i64
                                                    (D.getInt d
                                                        (Int.toNat (IntKind.wrap IntKind.i64 ((↑(D.len d) : Int) - 1)))
                                                        0 +
                                                      1) +
                                                  IntKind.wrap IntKind.i64 (Int.tmod x 2)))]]) ≤
                                  9223372036854775807)
                          (Tree.all fun hs_2 =>
                            Tree.leaf
                              (Conf.mk
                                (SFrm.mk 38 none none
                                  [Item.code (cAt Try.prog 38 [1, 1, 1, 0]), Item.code (cAt Try.prog 38 [1, 1, 1, 1])]
                                  (mkJ 1
                                    [(2, SV.ptr 0 0), (4, SV.ptr 1 0),
                                      (5,
                                        SV.dat
                                          (D.like (hs 0 1)
                                            (Prod.fst
                                              (Prod.snd
                                                (offer (SrcD.src (SrcD.mk e s d st ap))
                                                  (IntKind.wrap IntKind.i64
                                                    (IntKind.wrap IntKind.i64
                                                        (D.getInt d
                                                            (Int.toNat
                                                              (IntKind.wrap IntKind.i64 ((↑(D.len d) : Int) - 1)))
                                                            0 +
                                                          1) +
                                                      IntKind.wrap IntKind.i64 (Int.tmod x 2))))))))]
                                    0 252))
                                [SFrm.mk 8 (some (opsAt Try.prog 8 [1, 1, 1, 0, 1, 0, 0, 1, 0, 0, 1, 0], [6])) (some 26)
                                    [Item.code (cAt Try.prog 8 [1, 1, 1, 0, 1, 0, 0, 1, 0, 0, 1, 1]), Item.inBlock 1,
                                      Item.code (cAt Try.prog 8 [1, 1, 1, 0, 1, 0, 0, 1, 1]),
                                      Item.inLoop (cAt Try.prog 8 [1, 1, 1, 0, 1, 0, 0]), Item.inBlock 0,
                                      Item.code (cAt Try.prog 8 [1, 1, 1, 1])]
                                    (mkJ 0
                                      [(0, SV.dat l), (3, SV.ptr 2 0), (4, SV.int IntKind.i64 i),
                                        (5, SV.int IntKind.i64 n)]
                                      0 97)]
                                [(0,
                                    OBlk.cells 67
                                      [SV.int IntKind.i64
                                          (Src.epoch
                                            (Prod.fst
                                              (offer (SrcD.src (SrcD.mk e s d st ap))
                                                (IntKind.wrap IntKind.i64
                                                  (IntKind.wrap IntKind.i64
                                                      (D.getInt d
                                                          (Int.toNat (IntKind.wrap IntKind.i64 ((↑(D.len d) : Int) - 1)))
                                                          0 +
                                                        1) +
                                                    IntKind.wrap IntKind.i64 (Int.tmod x 2)))))),
                                        SV.int IntKind.i64
                                          (Src.site
                                            (Prod.fst
                                              (offer (SrcD.src (SrcD.mk e s d st ap))
                                                (IntKind.wrap IntKind.i64
                                                  (IntKind.wrap IntKind.i64
                                                      (D.getInt d
                                                          (Int.toNat (IntKind.wrap IntKind.i64 ((↑(D.len d) : Int) - 1)))
                                                          0 +
                                                        1) +
                                                    IntKind.wrap IntKind.i64 (Int.tmod x 2)))))),
                                        SV.dat
                                          (D.like (hs 0 0)
                                            (Src.offered
                                              (Prod.fst
                                                (offer (SrcD.src (SrcD.mk e s d st ap))
                                                  (IntKind.wrap IntKind.i64
                                                    (IntKind.wrap IntKind.i64
                                                        (D.getInt d
                                                            (Int.toNat
                                                              (IntKind.wrap IntKind.i64 ((↑(D.len d) : Int) - 1)))
                                                            0 +
                                                          1) +
                                                      IntKind.wrap IntKind.i64 (Int.tmod x 2))))))),
                                        SV.int IntKind.i64
                                          (Src.stored
                                            (Prod.fst
                                              (offer (SrcD.src (SrcD.mk e s d st ap))
                                                (IntKind.wrap IntKind.i64
                                                  (IntKind.wrap IntKind.i64
                                                      (D.getInt d
                                                          (Int.toNat (IntKind.wrap IntKind.i64 ((↑(D.len d) : Int) - 1)))
                                                          0 +
                                                        1) +
                                                    IntKind.wrap IntKind.i64 (Int.tmod x 2)))))),
                                        SV.int IntKind.i64
                                          (Src.applied
                                            (Prod.fst
                                              (offer (SrcD.src (SrcD.mk e s d st ap))
                                                (IntKind.wrap IntKind.i64
                                                  (IntKind.wrap IntKind.i64
                                                      (D.getInt d
                                                          (Int.toNat (IntKind.wrap IntKind.i64 ((↑(D.len d) : Int) - 1)))
                                                          0 +
                                                        1) +
                                                    IntKind.wrap IntKind.i64 (Int.tmod x 2)))))),
                                        SV.int IntKind.i64 te, SV.int IntKind.i64 ts, SV.int IntKind.i64 tst,
                                        SV.int IntKind.i64 tap, SV.vec 3, SV.vec 4, SV.lb true]),
                                  (1,
                                    OBlk.cells 67
                                      [SV.int IntKind.i64 0, SV.int IntKind.i64 0, SV.nils, SV.int IntKind.i64 0,
                                        SV.int IntKind.i64 0, SV.int IntKind.i64 0, SV.int IntKind.i64 0,
                                        SV.int IntKind.i64 0, SV.int IntKind.i64 0, SV.nils, SV.nils, SV.lb false]),
                                  (2,
                                    OBlk.cells 67
                                      [SV.int IntKind.i64 e, SV.int IntKind.i64 s, SV.dat d, SV.int IntKind.i64 st,
                                        SV.int IntKind.i64 ap, SV.int IntKind.i64 te, SV.int IntKind.i64 ts,
                                        SV.int IntKind.i64 tst, SV.int IntKind.i64 tap, SV.vec 5, SV.vec 4, SV.lb true]),
                                  (3,
                                    OBlk.arr 3
                                      (D.slc (D.hd (hs_2 0 0)) 1
                                        (List.append (D.rows (D.slc h1 1 r1))
                                          (D.rows
                                            (D.slc (D.hd (hs_1 0 0)) 1
                                              [[D.int IntKind.i64
                                                    (IntKind.wrap IntKind.i64
                                                      (IntKind.wrap IntKind.i64
                                                          (D.getInt d
                                                              (Int.toNat
                                                                (IntKind.wrap IntKind.i64 ((↑(D.len d) : Int) - 1)))
                                                              0 +
                                                            1) +
                                                        IntKind.wrap IntKind.i64 (Int.tmod x 2)))]]))))),
                                  (4, OBlk.arr 53 (D.slc h2 8 r2))]))))
                    (Tree.leaf
                      (Conf.mk
                        (SFrm.mk 38 none none
                          [Item.code (cAt Try.prog 38 [1, 1, 1, 0]), Item.code (cAt Try.prog 38 [1, 1, 1, 1])]
                          (mkJ 1 [(2, SV.ptr 0 0), (4, SV.ptr 1 0), (5, SV.nils)] 0 252))
                        [SFrm.mk 8 (some (opsAt Try.prog 8 [1, 1, 1, 0, 1, 0, 0, 1, 0, 0, 1, 0], [6])) (some 26)
                            [Item.code (cAt Try.prog 8 [1, 1, 1, 0, 1, 0, 0, 1, 0, 0, 1, 1]), Item.inBlock 1,
                              Item.code (cAt Try.prog 8 [1, 1, 1, 0, 1, 0, 0, 1, 1]),
                              Item.inLoop (cAt Try.prog 8 [1, 1, 1, 0, 1, 0, 0]), Item.inBlock 0,
                              Item.code (cAt Try.prog 8 [1, 1, 1, 1])]
                            (mkJ 0 [(0, SV.dat l), (3, SV.ptr 2 0), (4, SV.int IntKind.i64 i), (5, SV.int IntKind.i64 n)]
                              0 97)]
                        [(0,
                            OBlk.cells 67
                              [SV.int IntKind.i64 e, SV.int IntKind.i64 s, SV.dat d, SV.int IntKind.i64 st,
                                SV.int IntKind.i64 ap, SV.int IntKind.i64 te, SV.int IntKind.i64 ts,
                                SV.int IntKind.i64 tst, SV.int IntKind.i64 tap, SV.vec 3, SV.vec 4, SV.lb true]),
                          (1,
                            OBlk.cells 67
                              [SV.int IntKind.i64 0, SV.int IntKind.i64 0, SV.nils, SV.int IntKind.i64 0,
                                SV.int IntKind.i64 0, SV.int IntKind.i64 0, SV.int IntKind.i64 0, SV.int IntKind.i64 0,
                                SV.int IntKind.i64 0, SV.nils, SV.nils, SV.lb false]),
                          (2,
                            OBlk.cells 67
                              [SV.int IntKind.i64 e, SV.int IntKind.i64 s, SV.dat d, SV.int IntKind.i64 st,
                                SV.int IntKind.i64 ap, SV.int IntKind.i64 te, SV.int IntKind.i64 ts,
                                SV.int IntKind.i64 tst, SV.int IntKind.i64 tap, SV.vec 3, SV.vec 4, SV.lb true]),
                          (3, OBlk.arr 3 (D.slc h1 1 r1)), (4, OBlk.arr 53 (D.slc h2 8 r2))])))))))
        (Tree.need ((2 : Int) ≠ 0)
          (Tree.need (D.Is Int d)
            (Tree.all fun hs =>
              Tree.br
                (decide
                  (Prod.snd
                      (Prod.snd
                        (offer (SrcD.src (SrcD.mk e s d st ap))
                          (IntKind.wrap IntKind.i64
                            (IntKind.wrap IntKind.i64 (ap + 1) + IntKind.wrap IntKind.i64 (Int.tmod x 2))))) =
                    0))
                (Tree.need ((2 : Int) ≠ 0)
                  (Tree.all fun hs_1 =>
                    Tree.need
                      (D.sz (D.slc h1 1 r1) = 1 ∧
                        D.Fits
                            (D.slc (D.hd (hs_1 0 0)) 1
                              [[D.int IntKind.i64
                                    (IntKind.wrap IntKind.i64
                                      (IntKind.wrap IntKind.i64 (ap + 1) + IntKind.wrap IntKind.i64 (Int.tmod x 2)))]])
                            1 ∧
                          (D.len (D.slc h1 1 r1) +
                                  D.len
                                    (D.slc (D.hd (hs_1 0 0)) 1
                                      [[D.int IntKind.i64
                                            (IntKind.wrap IntKind.i64
                                              (IntKind.wrap IntKind.i64 (ap + 1) +
                                                IntKind.wrap IntKind.i64 (Int.tmod x 2)))]])) *
                                8 ≤
                              140737488355328 ∧
                            D.len (D.slc h1 1 r1) +
                                D.len
                                  (D.slc (D.hd (hs_1 0 0)) 1
                                    [[D.int IntKind.i64
                                          (IntKind.wrap IntKind.i64
                                            (IntKind.wrap IntKind.i64 (ap + 1) +
                                              IntKind.wrap IntKind.i64 (Int.tmod x 2)))]]) ≤
                              9223372036854775807)
                      (Tree.all fun hs_2 =>
                        Tree.leaf
                          (Conf.mk
                            (SFrm.mk 38 none none
                              [Item.code (cAt Try.prog 38 [1, 1, 1, 0]), Item.code (cAt Try.prog 38 [1, 1, 1, 1])]
                              (mkJ 1
                                [(2, SV.ptr 0 0), (4, SV.ptr 1 0),
                                  (5,
                                    SV.dat
                                      (D.like (hs 0 1)
                                        (Prod.fst
                                          (Prod.snd
                                            (offer (SrcD.src (SrcD.mk e s d st ap))
                                              (IntKind.wrap IntKind.i64
                                                (IntKind.wrap IntKind.i64 (ap + 1) +
                                                  IntKind.wrap IntKind.i64 (Int.tmod x 2))))))))]
                                0 252))
                            [SFrm.mk 8 (some (opsAt Try.prog 8 [1, 1, 1, 0, 1, 0, 0, 1, 0, 0, 1, 0], [6])) (some 26)
                                [Item.code (cAt Try.prog 8 [1, 1, 1, 0, 1, 0, 0, 1, 0, 0, 1, 1]), Item.inBlock 1,
                                  Item.code (cAt Try.prog 8 [1, 1, 1, 0, 1, 0, 0, 1, 1]),
                                  Item.inLoop (cAt Try.prog 8 [1, 1, 1, 0, 1, 0, 0]), Item.inBlock 0,
                                  Item.code (cAt Try.prog 8 [1, 1, 1, 1])]
                                (mkJ 0
                                  [(0, SV.dat l), (3, SV.ptr 2 0), (4, SV.int IntKind.i64 i), (5, SV.int IntKind.i64 n)] 0
                                  97)]
                            [(0,
                                OBlk.cells 67
                                  [SV.int IntKind.i64
                                      (Src.epoch
                                        (Prod.fst
                                          (offer (SrcD.src (SrcD.mk e s d st ap))
                                            (IntKind.wrap IntKind.i64
                                              (IntKind.wrap IntKind.i64 (ap + 1) +
                                                IntKind.wrap IntKind.i64 (Int.tmod x 2)))))),
                                    SV.int IntKind.i64
                                      (Src.site
                                        (Prod.fst
                                          (offer (SrcD.src (SrcD.mk e s d st ap))
                                            (IntKind.wrap IntKind.i64
                                              (IntKind.wrap IntKind.i64 (ap + 1) +
                                                IntKind.wrap IntKind.i64 (Int.tmod x 2)))))),
                                    SV.dat
                                      (D.like (hs 0 0)
                                        (Src.offered
                                          (Prod.fst
                                            (offer (SrcD.src (SrcD.mk e s d st ap))
                                              (IntKind.wrap IntKind.i64
                                                (IntKind.wrap IntKind.i64 (ap + 1) +
                                                  IntKind.wrap IntKind.i64 (Int.tmod x 2))))))),
                                    SV.int IntKind.i64
                                      (Src.stored
                                        (Prod.fst
                                          (offer (SrcD.src (SrcD.mk e s d st ap))
                                            (IntKind.wrap IntKind.i64
                                              (IntKind.wrap IntKind.i64 (ap + 1) +
                                                IntKind.wrap IntKind.i64 (Int.tmod x 2)))))),
                                    SV.int IntKind.i64
                                      (Src.applied
                                        (Prod.fst
                                          (offer (SrcD.src (SrcD.mk e s d st ap))
                                            (IntKind.wrap IntKind.i64
                                              (IntKind.wrap IntKind.i64 (ap + 1) +
                                                IntKind.wrap IntKind.i64 (Int.tmod x 2)))))),
                                    SV.int IntKind.i64 te, SV.int IntKind.i64 ts, SV.int IntKind.i64 tst,
                                    SV.int IntKind.i64 tap, SV.vec 3, SV.vec 4, SV.lb true]),
                              (1,
                                OBlk.cells 67
                                  [SV.int IntKind.i64 0, SV.int IntKind.i64 0, SV.nils, SV.int IntKind.i64 0,
                                    SV.int IntKind.i64 0, SV.int IntKind.i64 0, SV.int IntKind.i64 0,
                                    SV.int IntKind.i64 0, SV.int IntKind.i64 0, SV.nils, SV.nils, SV.lb false]),
                              (2,
                                OBlk.cells 67
                                  [SV.int IntKind.i64 e, SV.int IntKind.i64 s, SV.dat d, SV.int IntKind.i64 st,
                                    SV.int IntKind.i64 ap, SV.int IntKind.i64 te, SV.int IntKind.i64 ts,
                                    SV.int IntKind.i64 tst, SV.int IntKind.i64 tap, SV.vec 5, SV.vec 4, SV.lb true]),
                              (3,
                                OBlk.arr 3
                                  (D.slc (D.hd (hs_2 0 0)) 1
                                    (List.append (D.rows (D.slc h1 1 r1))
                                      (D.rows
                                        (D.slc (D.hd (hs_1 0 0)) 1
                                          [[D.int IntKind.i64
                                                (IntKind.wrap IntKind.i64
                                                  (IntKind.wrap IntKind.i64 (ap + 1) +
                                                    IntKind.wrap IntKind.i64 (Int.tmod x 2)))]]))))),
                              (4, OBlk.arr 53 (D.slc h2 8 r2))]))))
                (Tree.leaf
                  (Conf.mk
                    (SFrm.mk 38 none none
                      [Item.code (cAt Try.prog 38 [1, 1, 1, 0]), Item.code (cAt Try.prog 38 [1, 1, 1, 1])]
                      (mkJ 1 [(2, SV.ptr 0 0), (4, SV.ptr 1 0), (5, SV.nils)] 0 252))
                    [SFrm.mk 8 (some (opsAt Try.prog 8 [1, 1, 1, 0, 1, 0, 0, 1, 0, 0, 1, 0], [6])) (some 26)
                        [Item.code (cAt Try.prog 8 [1, 1, 1, 0, 1, 0, 0, 1, 0, 0, 1, 1]), Item.inBlock 1,
                          Item.code (cAt Try.prog 8 [1, 1, 1, 0, 1, 0, 0, 1, 1]),
                          Item.inLoop (cAt Try.prog 8 [1, 1, 1, 0, 1, 0, 0]), Item.inBlock 0,
                          Item.code (cAt Try.prog 8 [1, 1, 1, 1])]
                        (mkJ 0 [(0, SV.dat l), (3, SV.ptr 2 0), (4, SV.int IntKind.i64 i), (5, SV.int IntKind.i64 n)] 0
                          97)]
                    [(0,
                        OBlk.cells 67
                          [SV.int IntKind.i64 e, SV.int IntKind.i64 s, SV.dat d, SV.int IntKind.i64 st,
                            SV.int IntKind.i64 ap, SV.int IntKind.i64 te, SV.int IntKind.i64 ts, SV.int IntKind.i64 tst,
                            SV.int IntKind.i64 tap, SV.vec 3, SV.vec 4, SV.lb true]),
                      (1,
                        OBlk.cells 67
                          [SV.int IntKind.i64 0, SV.int IntKind.i64 0, SV.nils, SV.int IntKind.i64 0,
                            SV.int IntKind.i64 0, SV.int IntKind.i64 0, SV.int IntKind.i64 0, SV.int IntKind.i64 0,
                            SV.int IntKind.i64 0, SV.nils, SV.nils, SV.lb false]),
                      (2,
                        OBlk.cells 67
                          [SV.int IntKind.i64 e, SV.int IntKind.i64 s, SV.dat d, SV.int IntKind.i64 st,
                            SV.int IntKind.i64 ap, SV.int IntKind.i64 te, SV.int IntKind.i64 ts, SV.int IntKind.i64 tst,
                            SV.int IntKind.i64 tap, SV.vec 3, SV.vec 4, SV.lb true]),
                      (3, OBlk.arr 3 (D.slc h1 1 r1)), (4, OBlk.arr 53 (D.slc h2 8 r2))]))))))
      (Tree.br (decide (Int.tmod k 7 = 1))
        (Tree.leaf
          (Conf.mk
            (SFrm.mk 38 none none
              [Item.inLoop (cAt Try.prog 38 [1, 1, 0, 1, 0, 1, 1, 1, 0, 1, 0, 0]), Item.inBlock 1, Item.inBlock 0,
                Item.code (cAt Try.prog 38 [1, 1, 1])]
              (mkJ 1 [(2, SV.ptr 0 0), (4, SV.ptr 1 0), (5, SV.nils), (10, SV.int IntKind.i64 0)] 0 252))
            [SFrm.mk 8 (some (opsAt Try.prog 8 [1, 1, 1, 0, 1, 0, 0, 1, 0, 0, 1, 0], [6])) (some 26)
                [Item.code (cAt Try.prog 8 [1, 1, 1, 0, 1, 0, 0, 1, 0, 0, 1, 1]), Item.inBlock 1,
                  Item.code (cAt Try.prog 8 [1, 1, 1, 0, 1, 0, 0, 1, 1]),
                  Item.inLoop (cAt Try.prog 8 [1, 1, 1, 0, 1, 0, 0]), Item.inBlock 0,
                  Item.code (cAt Try.prog 8 [1, 1, 1, 1])]
                (mkJ 0 [(0, SV.dat l), (3, SV.ptr 2 0), (4, SV.int IntKind.i64 i), (5, SV.int IntKind.i64 n)] 0 97)]
            [(0,
                OBlk.cells 67
                  [SV.int IntKind.i64 e, SV.int IntKind.i64 s, SV.dat d, SV.int IntKind.i64 st, SV.int IntKind.i64 ap,
                    SV.int IntKind.i64 te, SV.int IntKind.i64 ts, SV.int IntKind.i64 tst, SV.int IntKind.i64 tap,
                    SV.vec 3, SV.vec 4, SV.lb true]),
              (1,
                OBlk.cells 67
                  [SV.int IntKind.i64 0, SV.int IntKind.i64 0, SV.nils, SV.int IntKind.i64 0, SV.int IntKind.i64 0,
                    SV.int IntKind.i64 0, SV.int IntKind.i64 0, SV.int IntKind.i64 0, SV.int IntKind.i64 0, SV.nils,
                    SV.nils, SV.lb false]),
              (2,
                OBlk.cells 67
                  [SV.int IntKind.i64 e, SV.int IntKind.i64 s, SV.dat d, SV.int IntKind.i64 st, SV.int IntKind.i64 ap,
                    SV.int IntKind.i64 te, SV.int IntKind.i64 ts, SV.int IntKind.i64 tst, SV.int IntKind.i64 tap,
                    SV.vec 3, SV.vec 4, SV.lb true]),
              (3, OBlk.arr 3 (D.slc h1 1 r1)), (4, OBlk.arr 53 (D.slc h2 8 r2))]))
        (Tree.br (decide (Int.tmod k 7 = 2))
          (Tree.leaf
            (Conf.mk
              (SFrm.mk 38 none none
                [Item.inLoop (cAt Try.prog 38 [1, 1, 0, 1, 0, 1, 1, 1, 1, 1, 0, 1, 0, 0]), Item.inBlock 3, Item.inBlock 0,
                  Item.code (cAt Try.prog 38 [1, 1, 1])]
                (mkJ 1
                  [(2, SV.ptr 0 0), (3, SV.ptr 1 0), (4, SV.ptr 2 0), (5, SV.nils),
                    (15, SV.int IntKind.i64 (IntKind.wrap IntKind.i64 ((↑(D.len d) : Int) - 1)))]
                  0 252))
              [SFrm.mk 8 (some (opsAt Try.prog 8 [1, 1, 1, 0, 1, 0, 0, 1, 0, 0, 1, 0], [6])) (some 26)
                  [Item.code (cAt Try.prog 8 [1, 1, 1, 0, 1, 0, 0, 1, 0, 0, 1, 1]), Item.inBlock 1,
                    Item.code (cAt Try.prog 8 [1, 1, 1, 0, 1, 0, 0, 1, 1]),
                    Item.inLoop (cAt Try.prog 8 [1, 1, 1, 0, 1, 0, 0]), Item.inBlock 0,
                    Item.code (cAt Try.prog 8 [1, 1, 1, 1])]
                  (mkJ 0 [(0, SV.dat l), (3, SV.ptr 3 0), (4, SV.int IntKind.i64 i), (5, SV.int IntKind.i64 n)] 0 97)]
              [(0,
                  OBlk.cells 67
                    [SV.int IntKind.i64 e, SV.int IntKind.i64 s, SV.dat d, SV.int IntKind.i64 st, SV.int IntKind.i64 ap,
                      SV.int IntKind.i64 te, SV.int IntKind.i64 ts, SV.int IntKind.i64 tst, SV.int IntKind.i64 tap,
                      SV.vec 4, SV.vec 5, SV.lb true]),
                (1, OBlk.cells 71 [SV.int IntKind.u8 k, SV.int IntKind.u8 x]),
                (2,
                  OBlk.cells 67
                    [SV.int IntKind.i64 0, SV.int IntKind.i64 0, SV.nils, SV.int IntKind.i64 0, SV.int IntKind.i64 0,
                      SV.int IntKind.i64 0, SV.int IntKind.i64 0, SV.int IntKind.i64 0, SV.int IntKind.i64 0, SV.nils,
                      SV.nils, SV.lb false]),
                (3,
                  OBlk.cells 67
                    [SV.int IntKind.i64 e, SV.int IntKind.i64 s, SV.dat d, SV.int IntKind.i64 st, SV.int IntKind.i64 ap,
                      SV.int IntKind.i64 te, SV.int IntKind.i64 ts, SV.int IntKind.i64 tst, SV.int IntKind.i64 tap,
                      SV.vec 4, SV.vec 5, SV.lb true]),
                (4, OBlk.arr 3 (D.slc h1 1 r1)), (5, OBlk.arr 53 (D.slc h2 8 r2))]))
          (Tree.br (decide (Int.tmod k 7 = 3))
            (Tree.br (decide ((↑(D.len (D.slc h2 8 r2)) : Int) > 0))
              (Tree.all fun hs =>
                Tree.need ((↑(D.len (D.slc h2 8 r2)) : Int) ≠ 0)
                  (Tree.need
                    (0 ≤ Int.tmod (IntKind.wrap IntKind.i64 x) (↑(D.len (D.slc h2 8 r2)) : Int) ∧
                      Int.tmod (IntKind.wrap IntKind.i64 x) (↑(D.len (D.slc h2 8 r2)) : Int) <
                          (↑(D.len (D.slc h2 8 r2)) : Int) ∧
                        D.sz (D.slc h2 8 r2) = 8)
                    (Tree.need
                      (D.HasCells (D.slc h2 8 r2)
                          (Int.toNat (Int.tmod (IntKind.wrap IntKind.i64 x) (↑(D.len (D.slc h2 8 r2)) : Int))) 0
                          [FT.int IntKind.i64, FT.int IntKind.i64, FT.int IntKind.i64, FT.int IntKind.i64,
                            FT.int IntKind.i64, FT.int IntKind.i64, FT.slc, FT.slc] ∧
                        D.sz (D.slc h2 8 r2) = 8)
                      (Tree.need (D.Is Int d)
                        (Tree.leaf
                          (Conf.mk
                            (SFrm.mk 38 none none
                              [Item.code (cAt Try.prog 38 [1, 1, 1, 0]), Item.code (cAt Try.prog 38 [1, 1, 1, 1])]
                              (mkJ 1
                                [(2, SV.ptr 0 0), (4, SV.ptr 1 0),
                                  (5,
                                    SV.dat
                                      (D.like (hs 13 1)
                                        (Prod.snd
                                          (learn (SrcD.src (SrcD.mk e s d st ap))
                                            (MsgD.msg
                                              (MsgD.mk
                                                (D.getInt (D.slc h2 8 r2)
                                                  (Int.toNat
                                                    (Int.tmod (IntKind.wrap IntKind.i64 x)
                                                      (↑(D.len (D.slc h2 8 r2)) : Int)))
                                                  0)
                                                (D.getInt (D.slc h2 8 r2)
                                                  (Int.toNat
                                                    (Int.tmod (IntKind.wrap IntKind.i64 x)
                                                      (↑(D.len (D.slc h2 8 r2)) : Int)))
                                                  1)
                                                (D.getInt (D.slc h2 8 r2)
                                                  (Int.toNat
                                                    (Int.tmod (IntKind.wrap IntKind.i64 x)
                                                      (↑(D.len (D.slc h2 8 r2)) : Int)))
                                                  2)
                                                (D.getInt (D.slc h2 8 r2)
                                                  (Int.toNat
                                                    (Int.tmod (IntKind.wrap IntKind.i64 x)
                                                      (↑(D.len (D.slc h2 8 r2)) : Int)))
                                                  3)
                                                (D.getInt (D.slc h2 8 r2)
                                                  (Int.toNat
                                                    (Int.tmod (IntKind.wrap IntKind.i64 x)
                                                      (↑(D.len (D.slc h2 8 r2)) : Int)))
                                                  4)
                                                (D.getInt (D.slc h2 8 r2)
                                                  (Int.toNat
                                                    (Int.tmod (IntKind.wrap IntKind.i64 x)
                                                      (↑(D.len (D.slc h2 8 r2)) : Int)))
                                                  5)
                                                (D.cell (D.slc h2 8 r2)
                                                  (Int.toNat
                                                    (Int.tmod (IntKind.wrap IntKind.i64 x)
                                                      (↑(D.len (D.slc h2 8 r2)) : Int)))
                                                  6)
                                                (D.cell (D.slc h2 8 r2)
                                                  (Int.toNat
                                                    (Int.tmod (IntKind.wrap IntKind.i64 x)
                                                      (↑(D.len (D.slc h2 8 r2)) : Int)))
                                                  7)))))))]
                                0 252))
                            [SFrm.mk 8 (some (opsAt Try.prog 8 [1, 1, 1, 0, 1, 0, 0, 1, 0, 0, 1, 0], [6])) (some 26)
                                [Item.code (cAt Try.prog 8 [1, 1, 1, 0, 1, 0, 0, 1, 0, 0, 1, 1]), Item.inBlock 1,
                                  Item.code (cAt Try.prog 8 [1, 1, 1, 0, 1, 0, 0, 1, 1]),
                                  Item.inLoop (cAt Try.prog 8 [1, 1, 1, 0, 1, 0, 0]), Item.inBlock 0,
                                  Item.code (cAt Try.prog 8 [1, 1, 1, 1])]
                                (mkJ 0
                                  [(0, SV.dat l), (3, SV.ptr 2 0), (4, SV.int IntKind.i64 i), (5, SV.int IntKind.i64 n)] 0
                                  97)]
                            [(0,
                                OBlk.cells 67
                                  [SV.int IntKind.i64
                                      (Src.epoch
                                        (Prod.fst
                                          (learn (SrcD.src (SrcD.mk e s d st ap))
                                            (MsgD.msg
                                              (MsgD.mk
                                                (D.getInt (D.slc h2 8 r2)
                                                  (Int.toNat
                                                    (Int.tmod (IntKind.wrap IntKind.i64 x)
                                                      (↑(D.len (D.slc h2 8 r2)) : Int)))
                                                  0)
                                                (D.getInt (D.slc h2 8 r2)
                                                  (Int.toNat
                                                    (Int.tmod (IntKind.wrap IntKind.i64 x)
                                                      (↑(D.len (D.slc h2 8 r2)) : Int)))
                                                  1)
                                                (D.getInt (D.slc h2 8 r2)
                                                  (Int.toNat
                                                    (Int.tmod (IntKind.wrap IntKind.i64 x)
                                                      (↑(D.len (D.slc h2 8 r2)) : Int)))
                                                  2)
                                                (D.getInt (D.slc h2 8 r2)
                                                  (Int.toNat
                                                    (Int.tmod (IntKind.wrap IntKind.i64 x)
                                                      (↑(D.len (D.slc h2 8 r2)) : Int)))
                                                  3)
                                                (D.getInt (D.slc h2 8 r2)
                                                  (Int.toNat
                                                    (Int.tmod (IntKind.wrap IntKind.i64 x)
                                                      (↑(D.len (D.slc h2 8 r2)) : Int)))
                                                  4)
                                                (D.getInt (D.slc h2 8 r2)
                                                  (Int.toNat
                                                    (Int.tmod (IntKind.wrap IntKind.i64 x)
                                                      (↑(D.len (D.slc h2 8 r2)) : Int)))
                                                  5)
                                                (D.cell (D.slc h2 8 r2)
                                                  (Int.toNat
                                                    (Int.tmod (IntKind.wrap IntKind.i64 x)
                                                      (↑(D.len (D.slc h2 8 r2)) : Int)))
                                                  6)
                                                (D.cell (D.slc h2 8 r2)
                                                  (Int.toNat
                                                    (Int.tmod (IntKind.wrap IntKind.i64 x)
                                                      (↑(D.len (D.slc h2 8 r2)) : Int)))
                                                  7)))))),
                                    SV.int IntKind.i64
                                      (Src.site
                                        (Prod.fst
                                          (learn (SrcD.src (SrcD.mk e s d st ap))
                                            (MsgD.msg
                                              (MsgD.mk
                                                (D.getInt (D.slc h2 8 r2)
                                                  (Int.toNat
                                                    (Int.tmod (IntKind.wrap IntKind.i64 x)
                                                      (↑(D.len (D.slc h2 8 r2)) : Int)))
                                                  0)
                                                (D.getInt (D.slc h2 8 r2)
                                                  (Int.toNat
                                                    (Int.tmod (IntKind.wrap IntKind.i64 x)
                                                      (↑(D.len (D.slc h2 8 r2)) : Int)))
                                                  1)
                                                (D.getInt (D.slc h2 8 r2)
                                                  (Int.toNat
                                                    (Int.tmod (IntKind.wrap IntKind.i64 x)
                                                      (↑(D.len (D.slc h2 8 r2)) : Int)))
                                                  2)
                                                (D.getInt (D.slc h2 8 r2)
                                                  (Int.toNat
                                                    (Int.tmod (IntKind.wrap IntKind.i64 x)
                                                      (↑(D.len (D.slc h2 8 r2)) : Int)))
                                                  3)
                                                (D.getInt (D.slc h2 8 r2)
                                                  (Int.toNat
                                                    (Int.tmod (IntKind.wrap IntKind.i64 x)
                                                      (↑(D.len (D.slc h2 8 r2)) : Int)))
                                                  4)
                                                (D.getInt (D.slc h2 8 r2)
                                                  (Int.toNat
                                                    (Int.tmod (IntKind.wrap IntKind.i64 x)
                                                      (↑(D.len (D.slc h2 8 r2)) : Int)))
                                                  5)
                                                (D.cell (D.slc h2 8 r2)
                                                  (Int.toNat
                                                    (Int.tmod (IntKind.wrap IntKind.i64 x)
                                                      (↑(D.len (D.slc h2 8 r2)) : Int)))
                                                  6)
                                                (D.cell (D.slc h2 8 r2)
                                                  (Int.toNat
                                                    (Int.tmod (IntKind.wrap IntKind.i64 x)
                                                      (↑(D.len (D.slc h2 8 r2)) : Int)))
                                                  7)))))),
                                    SV.dat
                                      (D.like (hs 13 0)
                                        (Src.offered
                                          (Prod.fst
                                            (learn (SrcD.src (SrcD.mk e s d st ap))
                                              (MsgD.msg
                                                (MsgD.mk
                                                  (D.getInt (D.slc h2 8 r2)
                                                    (Int.toNat
                                                      (Int.tmod (IntKind.wrap IntKind.i64 x)
                                                        (↑(D.len (D.slc h2 8 r2)) : Int)))
                                                    0)
                                                  (D.getInt (D.slc h2 8 r2)
                                                    (Int.toNat
                                                      (Int.tmod (IntKind.wrap IntKind.i64 x)
                                                        (↑(D.len (D.slc h2 8 r2)) : Int)))
                                                    1)
                                                  (D.getInt (D.slc h2 8 r2)
                                                    (Int.toNat
                                                      (Int.tmod (IntKind.wrap IntKind.i64 x)
                                                        (↑(D.len (D.slc h2 8 r2)) : Int)))
                                                    2)
                                                  (D.getInt (D.slc h2 8 r2)
                                                    (Int.toNat
                                                      (Int.tmod (IntKind.wrap IntKind.i64 x)
                                                        (↑(D.len (D.slc h2 8 r2)) : Int)))
                                                    3)
                                                  (D.getInt (D.slc h2 8 r2)
                                                    (Int.toNat
                                                      (Int.tmod (IntKind.wrap IntKind.i64 x)
                                                        (↑(D.len (D.slc h2 8 r2)) : Int)))
                                                    4)
                                                  (D.getInt (D.slc h2 8 r2)
                                                    (Int.toNat
                                                      (Int.tmod (IntKind.wrap IntKind.i64 x)
                                                        (↑(D.len (D.slc h2 8 r2)) : Int)))
                                                    5)
                                                  (D.cell (D.slc h2 8 r2)
                                                    (Int.toNat
                                                      (Int.tmod (IntKind.wrap IntKind.i64 x)
                                                        (↑(D.len (D.slc h2 8 r2)) : Int)))
                                                    6)
                                                  (D.cell (D.slc h2 8 r2)
                                                    (Int.toNat
                                                      (Int.tmod (IntKind.wrap IntKind.i64 x)
                                                        (↑(D.len (D.slc h2 8 r2)) : Int)))
                                                    7))))))),
                                    SV.int IntKind.i64
                                      (Src.stored
                                        (Prod.fst
                                          (learn (SrcD.src (SrcD.mk e s d st ap))
                                            (MsgD.msg
                                              (MsgD.mk
                                                (D.getInt (D.slc h2 8 r2)
                                                  (Int.toNat
                                                    (Int.tmod (IntKind.wrap IntKind.i64 x)
                                                      (↑(D.len (D.slc h2 8 r2)) : Int)))
                                                  0)
                                                (D.getInt (D.slc h2 8 r2)
                                                  (Int.toNat
                                                    (Int.tmod (IntKind.wrap IntKind.i64 x)
                                                      (↑(D.len (D.slc h2 8 r2)) : Int)))
                                                  1)
                                                (D.getInt (D.slc h2 8 r2)
                                                  (Int.toNat
                                                    (Int.tmod (IntKind.wrap IntKind.i64 x)
                                                      (↑(D.len (D.slc h2 8 r2)) : Int)))
                                                  2)
                                                (D.getInt (D.slc h2 8 r2)
                                                  (Int.toNat
                                                    (Int.tmod (IntKind.wrap IntKind.i64 x)
                                                      (↑(D.len (D.slc h2 8 r2)) : Int)))
                                                  3)
                                                (D.getInt (D.slc h2 8 r2)
                                                  (Int.toNat
                                                    (Int.tmod (IntKind.wrap IntKind.i64 x)
                                                      (↑(D.len (D.slc h2 8 r2)) : Int)))
                                                  4)
                                                (D.getInt (D.slc h2 8 r2)
                                                  (Int.toNat
                                                    (Int.tmod (IntKind.wrap IntKind.i64 x)
                                                      (↑(D.len (D.slc h2 8 r2)) : Int)))
                                                  5)
                                                (D.cell (D.slc h2 8 r2)
                                                  (Int.toNat
                                                    (Int.tmod (IntKind.wrap IntKind.i64 x)
                                                      (↑(D.len (D.slc h2 8 r2)) : Int)))
                                                  6)
                                                (D.cell (D.slc h2 8 r2)
                                                  (Int.toNat
                                                    (Int.tmod (IntKind.wrap IntKind.i64 x)
                                                      (↑(D.len (D.slc h2 8 r2)) : Int)))
                                                  7)))))),
                                    SV.int IntKind.i64
                                      (Src.applied
                                        (Prod.fst
                                          (learn (SrcD.src (SrcD.mk e s d st ap))
                                            (MsgD.msg
                                              (MsgD.mk
                                                (D.getInt (D.slc h2 8 r2)
                                                  (Int.toNat
                                                    (Int.tmod (IntKind.wrap IntKind.i64 x)
                                                      (↑(D.len (D.slc h2 8 r2)) : Int)))
                                                  0)
                                                (D.getInt (D.slc h2 8 r2)
                                                  (Int.toNat
                                                    (Int.tmod (IntKind.wrap IntKind.i64 x)
                                                      (↑(D.len (D.slc h2 8 r2)) : Int)))
                                                  1)
                                                (D.getInt (D.slc h2 8 r2)
                                                  (Int.toNat
                                                    (Int.tmod (IntKind.wrap IntKind.i64 x)
                                                      (↑(D.len (D.slc h2 8 r2)) : Int)))
                                                  2)
                                                (D.getInt (D.slc h2 8 r2)
                                                  (Int.toNat
                                                    (Int.tmod (IntKind.wrap IntKind.i64 x)
                                                      (↑(D.len (D.slc h2 8 r2)) : Int)))
                                                  3)
                                                (D.getInt (D.slc h2 8 r2)
                                                  (Int.toNat
                                                    (Int.tmod (IntKind.wrap IntKind.i64 x)
                                                      (↑(D.len (D.slc h2 8 r2)) : Int)))
                                                  4)
                                                (D.getInt (D.slc h2 8 r2)
                                                  (Int.toNat
                                                    (Int.tmod (IntKind.wrap IntKind.i64 x)
                                                      (↑(D.len (D.slc h2 8 r2)) : Int)))
                                                  5)
                                                (D.cell (D.slc h2 8 r2)
                                                  (Int.toNat
                                                    (Int.tmod (IntKind.wrap IntKind.i64 x)
                                                      (↑(D.len (D.slc h2 8 r2)) : Int)))
                                                  6)
                                                (D.cell (D.slc h2 8 r2)
                                                  (Int.toNat
                                                    (Int.tmod (IntKind.wrap IntKind.i64 x)
                                                      (↑(D.len (D.slc h2 8 r2)) : Int)))
                                                  7)))))),
                                    SV.int IntKind.i64 te, SV.int IntKind.i64 ts, SV.int IntKind.i64 tst,
                                    SV.int IntKind.i64 tap, SV.vec 3, SV.vec 4, SV.lb true]),
                              (1,
                                OBlk.cells 67
                                  [SV.int IntKind.i64 0, SV.int IntKind.i64 0, SV.nils, SV.int IntKind.i64 0,
                                    SV.int IntKind.i64 0, SV.int IntKind.i64 0, SV.int IntKind.i64 0,
                                    SV.int IntKind.i64 0, SV.int IntKind.i64 0, SV.nils, SV.nils, SV.lb false]),
                              (2,
                                OBlk.cells 67
                                  [SV.int IntKind.i64 e, SV.int IntKind.i64 s, SV.dat d, SV.int IntKind.i64 st,
                                    SV.int IntKind.i64 ap, SV.int IntKind.i64 te, SV.int IntKind.i64 ts,
                                    SV.int IntKind.i64 tst, SV.int IntKind.i64 tap, SV.vec 3, SV.vec 4, SV.lb true]),
                              (3, OBlk.arr 3 (D.slc h1 1 r1)), (4, OBlk.arr 53 (D.slc h2 8 r2))]))))))
              (Tree.leaf
                (Conf.mk
                  (SFrm.mk 38 none none
                    [Item.code (cAt Try.prog 38 [1, 1, 1, 0]), Item.code (cAt Try.prog 38 [1, 1, 1, 1])]
                    (mkJ 1 [(2, SV.ptr 0 0), (4, SV.ptr 1 0), (5, SV.nils)] 0 252))
                  [SFrm.mk 8 (some (opsAt Try.prog 8 [1, 1, 1, 0, 1, 0, 0, 1, 0, 0, 1, 0], [6])) (some 26)
                      [Item.code (cAt Try.prog 8 [1, 1, 1, 0, 1, 0, 0, 1, 0, 0, 1, 1]), Item.inBlock 1,
                        Item.code (cAt Try.prog 8 [1, 1, 1, 0, 1, 0, 0, 1, 1]),
                        Item.inLoop (cAt Try.prog 8 [1, 1, 1, 0, 1, 0, 0]), Item.inBlock 0,
                        Item.code (cAt Try.prog 8 [1, 1, 1, 1])]
                      (mkJ 0 [(0, SV.dat l), (3, SV.ptr 2 0), (4, SV.int IntKind.i64 i), (5, SV.int IntKind.i64 n)] 0 97)]
                  [(0,
                      OBlk.cells 67
                        [SV.int IntKind.i64 e, SV.int IntKind.i64 s, SV.dat d, SV.int IntKind.i64 st,
                          SV.int IntKind.i64 ap, SV.int IntKind.i64 te, SV.int IntKind.i64 ts, SV.int IntKind.i64 tst,
                          SV.int IntKind.i64 tap, SV.vec 3, SV.vec 4, SV.lb true]),
                    (1,
                      OBlk.cells 67
                        [SV.int IntKind.i64 0, SV.int IntKind.i64 0, SV.nils, SV.int IntKind.i64 0, SV.int IntKind.i64 0,
                          SV.int IntKind.i64 0, SV.int IntKind.i64 0, SV.int IntKind.i64 0, SV.int IntKind.i64 0, SV.nils,
                          SV.nils, SV.lb false]),
                    (2,
                      OBlk.cells 67
                        [SV.int IntKind.i64 e, SV.int IntKind.i64 s, SV.dat d, SV.int IntKind.i64 st,
                          SV.int IntKind.i64 ap, SV.int IntKind.i64 te, SV.int IntKind.i64 ts, SV.int IntKind.i64 tst,
                          SV.int IntKind.i64 tap, SV.vec 3, SV.vec 4, SV.lb true]),
                    (3, OBlk.arr 3 (D.slc h1 1 r1)), (4, OBlk.arr 53 (D.slc h2 8 r2))])))
            (Tree.br (decide (Int.tmod k 7 = 4))
              (Tree.br (decide ((↑(D.len (D.slc h2 8 r2)) : Int) > 0))
                (Tree.all fun hs =>
                  Tree.need ((↑(D.len (D.slc h2 8 r2)) : Int) ≠ 0)
                    (Tree.need
                      (0 ≤ Int.tmod (IntKind.wrap IntKind.i64 x) (↑(D.len (D.slc h2 8 r2)) : Int) ∧
                        Int.tmod (IntKind.wrap IntKind.i64 x) (↑(D.len (D.slc h2 8 r2)) : Int) <
                            (↑(D.len (D.slc h2 8 r2)) : Int) ∧
                          D.sz (D.slc h2 8 r2) = 8)
                      (Tree.need
                        (D.HasCells (D.slc h2 8 r2)
                            (Int.toNat (Int.tmod (IntKind.wrap IntKind.i64 x) (↑(D.len (D.slc h2 8 r2)) : Int))) 0
                            [FT.int IntKind.i64, FT.int IntKind.i64, FT.int IntKind.i64, FT.int IntKind.i64,
                              FT.int IntKind.i64, FT.int IntKind.i64, FT.slc, FT.slc] ∧
                          D.sz (D.slc h2 8 r2) = 8)
                        (Tree.leaf
                          (Conf.mk
                            (SFrm.mk 38 none none
                              [Item.code (cAt Try.prog 38 [1, 1, 1, 0]), Item.code (cAt Try.prog 38 [1, 1, 1, 1])]
                              (mkJ 1
                                [(2, SV.ptr 0 0), (4, SV.ptr 1 0),
                                  (5,
                                    SV.dat
                                      (D.like (hs 13 0)
                                        (Prod.snd
                                          (answer (Tgt.mk te ts tst tap)
                                            (MsgD.msg
                                              (MsgD.mk
                                                (D.getInt (D.slc h2 8 r2)
                                                  (Int.toNat
                                                    (Int.tmod (IntKind.wrap IntKind.i64 x)
                                                      (↑(D.len (D.slc h2 8 r2)) : Int)))
                                                  0)
                                                (D.getInt (D.slc h2 8 r2)
                                                  (Int.toNat
                                                    (Int.tmod (IntKind.wrap IntKind.i64 x)
                                                      (↑(D.len (D.slc h2 8 r2)) : Int)))
                                                  1)
                                                (D.getInt (D.slc h2 8 r2)
                                                  (Int.toNat
                                                    (Int.tmod (IntKind.wrap IntKind.i64 x)
                                                      (↑(D.len (D.slc h2 8 r2)) : Int)))
                                                  2)
                                                (D.getInt (D.slc h2 8 r2)
                                                  (Int.toNat
                                                    (Int.tmod (IntKind.wrap IntKind.i64 x)
                                                      (↑(D.len (D.slc h2 8 r2)) : Int)))
                                                  3)
                                                (D.getInt (D.slc h2 8 r2)
                                                  (Int.toNat
                                                    (Int.tmod (IntKind.wrap IntKind.i64 x)
                                                      (↑(D.len (D.slc h2 8 r2)) : Int)))
                                                  4)
                                                (D.getInt (D.slc h2 8 r2)
                                                  (Int.toNat
                                                    (Int.tmod (IntKind.wrap IntKind.i64 x)
                                                      (↑(D.len (D.slc h2 8 r2)) : Int)))
                                                  5)
                                                (D.cell (D.slc h2 8 r2)
                                                  (Int.toNat
                                                    (Int.tmod (IntKind.wrap IntKind.i64 x)
                                                      (↑(D.len (D.slc h2 8 r2)) : Int)))
                                                  6)
                                                (D.cell (D.slc h2 8 r2)
                                                  (Int.toNat
                                                    (Int.tmod (IntKind.wrap IntKind.i64 x)
                                                      (↑(D.len (D.slc h2 8 r2)) : Int)))
                                                  7)))))))]
                                0 252))
                            [SFrm.mk 8 (some (opsAt Try.prog 8 [1, 1, 1, 0, 1, 0, 0, 1, 0, 0, 1, 0], [6])) (some 26)
                                [Item.code (cAt Try.prog 8 [1, 1, 1, 0, 1, 0, 0, 1, 0, 0, 1, 1]), Item.inBlock 1,
                                  Item.code (cAt Try.prog 8 [1, 1, 1, 0, 1, 0, 0, 1, 1]),
                                  Item.inLoop (cAt Try.prog 8 [1, 1, 1, 0, 1, 0, 0]), Item.inBlock 0,
                                  Item.code (cAt Try.prog 8 [1, 1, 1, 1])]
                                (mkJ 0
                                  [(0, SV.dat l), (3, SV.ptr 2 0), (4, SV.int IntKind.i64 i), (5, SV.int IntKind.i64 n)] 0
                                  97)]
                            [(0,
                                OBlk.cells 67
                                  [SV.int IntKind.i64 e, SV.int IntKind.i64 s, SV.dat d, SV.int IntKind.i64 st,
                                    SV.int IntKind.i64 ap,
                                    SV.int IntKind.i64
                                      (Tgt.epoch
                                        (Prod.fst
                                          (answer (Tgt.mk te ts tst tap)
                                            (MsgD.msg
                                              (MsgD.mk
                                                (D.getInt (D.slc h2 8 r2)
                                                  (Int.toNat
                                                    (Int.tmod (IntKind.wrap IntKind.i64 x)
                                                      (↑(D.len (D.slc h2 8 r2)) : Int)))
                                                  0)
                                                (D.getInt (D.slc h2 8 r2)
                                                  (Int.toNat
                                                    (Int.tmod (IntKind.wrap IntKind.i64 x)
                                                      (↑(D.len (D.slc h2 8 r2)) : Int)))
                                                  1)
                                                (D.getInt (D.slc h2 8 r2)
                                                  (Int.toNat
                                                    (Int.tmod (IntKind.wrap IntKind.i64 x)
                                                      (↑(D.len (D.slc h2 8 r2)) : Int)))
                                                  2)
                                                (D.getInt (D.slc h2 8 r2)
                                                  (Int.toNat
                                                    (Int.tmod (IntKind.wrap IntKind.i64 x)
                                                      (↑(D.len (D.slc h2 8 r2)) : Int)))
                                                  3)
                                                (D.getInt (D.slc h2 8 r2)
                                                  (Int.toNat
                                                    (Int.tmod (IntKind.wrap IntKind.i64 x)
                                                      (↑(D.len (D.slc h2 8 r2)) : Int)))
                                                  4)
                                                (D.getInt (D.slc h2 8 r2)
                                                  (Int.toNat
                                                    (Int.tmod (IntKind.wrap IntKind.i64 x)
                                                      (↑(D.len (D.slc h2 8 r2)) : Int)))
                                                  5)
                                                (D.cell (D.slc h2 8 r2)
                                                  (Int.toNat
                                                    (Int.tmod (IntKind.wrap IntKind.i64 x)
                                                      (↑(D.len (D.slc h2 8 r2)) : Int)))
                                                  6)
                                                (D.cell (D.slc h2 8 r2)
                                                  (Int.toNat
                                                    (Int.tmod (IntKind.wrap IntKind.i64 x)
                                                      (↑(D.len (D.slc h2 8 r2)) : Int)))
                                                  7)))))),
                                    SV.int IntKind.i64
                                      (Tgt.site
                                        (Prod.fst
                                          (answer (Tgt.mk te ts tst tap)
                                            (MsgD.msg
                                              (MsgD.mk
                                                (D.getInt (D.slc h2 8 r2)
                                                  (Int.toNat
                                                    (Int.tmod (IntKind.wrap IntKind.i64 x)
                                                      (↑(D.len (D.slc h2 8 r2)) : Int)))
                                                  0)
                                                (D.getInt (D.slc h2 8 r2)
                                                  (Int.toNat
                                                    (Int.tmod (IntKind.wrap IntKind.i64 x)
                                                      (↑(D.len (D.slc h2 8 r2)) : Int)))
                                                  1)
                                                (D.getInt (D.slc h2 8 r2)
                                                  (Int.toNat
                                                    (Int.tmod (IntKind.wrap IntKind.i64 x)
                                                      (↑(D.len (D.slc h2 8 r2)) : Int)))
                                                  2)
                                                (D.getInt (D.slc h2 8 r2)
                                                  (Int.toNat
                                                    (Int.tmod (IntKind.wrap IntKind.i64 x)
                                                      (↑(D.len (D.slc h2 8 r2)) : Int)))
                                                  3)
                                                (D.getInt (D.slc h2 8 r2)
                                                  (Int.toNat
                                                    (Int.tmod (IntKind.wrap IntKind.i64 x)
                                                      (↑(D.len (D.slc h2 8 r2)) : Int)))
                                                  4)
                                                (D.getInt (D.slc h2 8 r2)
                                                  (Int.toNat
                                                    (Int.tmod (IntKind.wrap IntKind.i64 x)
                                                      (↑(D.len (D.slc h2 8 r2)) : Int)))
                                                  5)
                                                (D.cell (D.slc h2 8 r2)
                                                  (Int.toNat
                                                    (Int.tmod (IntKind.wrap IntKind.i64 x)
                                                      (↑(D.len (D.slc h2 8 r2)) : Int)))
                                                  6)
                                                (D.cell (D.slc h2 8 r2)
                                                  (Int.toNat
                                                    (Int.tmod (IntKind.wrap IntKind.i64 x)
                                                      (↑(D.len (D.slc h2 8 r2)) : Int)))
                                                  7)))))),
                                    SV.int IntKind.i64
                                      (Tgt.stored
                                        (Prod.fst
                                          (answer (Tgt.mk te ts tst tap)
                                            (MsgD.msg
                                              (MsgD.mk
                                                (D.getInt (D.slc h2 8 r2)
                                                  (Int.toNat
                                                    (Int.tmod (IntKind.wrap IntKind.i64 x)
                                                      (↑(D.len (D.slc h2 8 r2)) : Int)))
                                                  0)
                                                (D.getInt (D.slc h2 8 r2)
                                                  (Int.toNat
                                                    (Int.tmod (IntKind.wrap IntKind.i64 x)
                                                      (↑(D.len (D.slc h2 8 r2)) : Int)))
                                                  1)
                                                (D.getInt (D.slc h2 8 r2)
                                                  (Int.toNat
                                                    (Int.tmod (IntKind.wrap IntKind.i64 x)
                                                      (↑(D.len (D.slc h2 8 r2)) : Int)))
                                                  2)
                                                (D.getInt (D.slc h2 8 r2)
                                                  (Int.toNat
                                                    (Int.tmod (IntKind.wrap IntKind.i64 x)
                                                      (↑(D.len (D.slc h2 8 r2)) : Int)))
                                                  3)
                                                (D.getInt (D.slc h2 8 r2)
                                                  (Int.toNat
                                                    (Int.tmod (IntKind.wrap IntKind.i64 x)
                                                      (↑(D.len (D.slc h2 8 r2)) : Int)))
                                                  4)
                                                (D.getInt (D.slc h2 8 r2)
                                                  (Int.toNat
                                                    (Int.tmod (IntKind.wrap IntKind.i64 x)
                                                      (↑(D.len (D.slc h2 8 r2)) : Int)))
                                                  5)
                                                (D.cell (D.slc h2 8 r2)
                                                  (Int.toNat
                                                    (Int.tmod (IntKind.wrap IntKind.i64 x)
                                                      (↑(D.len (D.slc h2 8 r2)) : Int)))
                                                  6)
                                                (D.cell (D.slc h2 8 r2)
                                                  (Int.toNat
                                                    (Int.tmod (IntKind.wrap IntKind.i64 x)
                                                      (↑(D.len (D.slc h2 8 r2)) : Int)))
                                                  7)))))),
                                    SV.int IntKind.i64
                                      (Tgt.applied
                                        (Prod.fst
                                          (answer (Tgt.mk te ts tst tap)
                                            (MsgD.msg
                                              (MsgD.mk
                                                (D.getInt (D.slc h2 8 r2)
                                                  (Int.toNat
                                                    (Int.tmod (IntKind.wrap IntKind.i64 x)
                                                      (↑(D.len (D.slc h2 8 r2)) : Int)))
                                                  0)
                                                (D.getInt (D.slc h2 8 r2)
                                                  (Int.toNat
                                                    (Int.tmod (IntKind.wrap IntKind.i64 x)
                                                      (↑(D.len (D.slc h2 8 r2)) : Int)))
                                                  1)
                                                (D.getInt (D.slc h2 8 r2)
                                                  (Int.toNat
                                                    (Int.tmod (IntKind.wrap IntKind.i64 x)
                                                      (↑(D.len (D.slc h2 8 r2)) : Int)))
                                                  2)
                                                (D.getInt (D.slc h2 8 r2)
                                                  (Int.toNat
                                                    (Int.tmod (IntKind.wrap IntKind.i64 x)
                                                      (↑(D.len (D.slc h2 8 r2)) : Int)))
                                                  3)
                                                (D.getInt (D.slc h2 8 r2)
                                                  (Int.toNat
                                                    (Int.tmod (IntKind.wrap IntKind.i64 x)
                                                      (↑(D.len (D.slc h2 8 r2)) : Int)))
                                                  4)
                                                (D.getInt (D.slc h2 8 r2)
                                                  (Int.toNat
                                                    (Int.tmod (IntKind.wrap IntKind.i64 x)
                                                      (↑(D.len (D.slc h2 8 r2)) : Int)))
                                                  5)
                                                (D.cell (D.slc h2 8 r2)
                                                  (Int.toNat
                                                    (Int.tmod (IntKind.wrap IntKind.i64 x)
                                                      (↑(D.len (D.slc h2 8 r2)) : Int)))
                                                  6)
                                                (D.cell (D.slc h2 8 r2)
                                                  (Int.toNat
                                                    (Int.tmod (IntKind.wrap IntKind.i64 x)
                                                      (↑(D.len (D.slc h2 8 r2)) : Int)))
                                                  7)))))),
                                    SV.vec 3, SV.vec 4, SV.lb true]),
                              (1,
                                OBlk.cells 67
                                  [SV.int IntKind.i64 0, SV.int IntKind.i64 0, SV.nils, SV.int IntKind.i64 0,
                                    SV.int IntKind.i64 0, SV.int IntKind.i64 0, SV.int IntKind.i64 0,
                                    SV.int IntKind.i64 0, SV.int IntKind.i64 0, SV.nils, SV.nils, SV.lb false]),
                              (2,
                                OBlk.cells 67
                                  [SV.int IntKind.i64 e, SV.int IntKind.i64 s, SV.dat d, SV.int IntKind.i64 st,
                                    SV.int IntKind.i64 ap, SV.int IntKind.i64 te, SV.int IntKind.i64 ts,
                                    SV.int IntKind.i64 tst, SV.int IntKind.i64 tap, SV.vec 3, SV.vec 4, SV.lb true]),
                              (3, OBlk.arr 3 (D.slc h1 1 r1)), (4, OBlk.arr 53 (D.slc h2 8 r2))])))))
                (Tree.leaf
                  (Conf.mk
                    (SFrm.mk 38 none none
                      [Item.code (cAt Try.prog 38 [1, 1, 1, 0]), Item.code (cAt Try.prog 38 [1, 1, 1, 1])]
                      (mkJ 1 [(2, SV.ptr 0 0), (4, SV.ptr 1 0), (5, SV.nils)] 0 252))
                    [SFrm.mk 8 (some (opsAt Try.prog 8 [1, 1, 1, 0, 1, 0, 0, 1, 0, 0, 1, 0], [6])) (some 26)
                        [Item.code (cAt Try.prog 8 [1, 1, 1, 0, 1, 0, 0, 1, 0, 0, 1, 1]), Item.inBlock 1,
                          Item.code (cAt Try.prog 8 [1, 1, 1, 0, 1, 0, 0, 1, 1]),
                          Item.inLoop (cAt Try.prog 8 [1, 1, 1, 0, 1, 0, 0]), Item.inBlock 0,
                          Item.code (cAt Try.prog 8 [1, 1, 1, 1])]
                        (mkJ 0 [(0, SV.dat l), (3, SV.ptr 2 0), (4, SV.int IntKind.i64 i), (5, SV.int IntKind.i64 n)] 0
                          97)]
                    [(0,
                        OBlk.cells 67
                          [SV.int IntKind.i64 e, SV.int IntKind.i64 s, SV.dat d, SV.int IntKind.i64 st,
                            SV.int IntKind.i64 ap, SV.int IntKind.i64 te, SV.int IntKind.i64 ts, SV.int IntKind.i64 tst,
                            SV.int IntKind.i64 tap, SV.vec 3, SV.vec 4, SV.lb true]),
                      (1,
                        OBlk.cells 67
                          [SV.int IntKind.i64 0, SV.int IntKind.i64 0, SV.nils, SV.int IntKind.i64 0,
                            SV.int IntKind.i64 0, SV.int IntKind.i64 0, SV.int IntKind.i64 0, SV.int IntKind.i64 0,
                            SV.int IntKind.i64 0, SV.nils, SV.nils, SV.lb false]),
                      (2,
                        OBlk.cells 67
                          [SV.int IntKind.i64 e, SV.int IntKind.i64 s, SV.dat d, SV.int IntKind.i64 st,
                            SV.int IntKind.i64 ap, SV.int IntKind.i64 te, SV.int IntKind.i64 ts, SV.int IntKind.i64 tst,
                            SV.int IntKind.i64 tap, SV.vec 3, SV.vec 4, SV.lb true]),
                      (3, OBlk.arr 3 (D.slc h1 1 r1)), (4, OBlk.arr 53 (D.slc h2 8 r2))])))
              (Tree.br (decide (Int.tmod k 7 = 5))
                (Tree.need (D.Is Int d)
                  (Tree.all fun hs =>
                    Tree.leaf
                      (Conf.mk
                        (SFrm.mk 38 none none
                          [Item.code (cAt Try.prog 38 [1, 1, 1, 0]), Item.code (cAt Try.prog 38 [1, 1, 1, 1])]
                          (mkJ 1
                            [(2, SV.ptr 0 0), (4, SV.ptr 1 0),
                              (5, SV.dat (D.like (hs 0 0) (resend (SrcD.src (SrcD.mk e s d st ap)))))]
                            0 252))
                        [SFrm.mk 8 (some (opsAt Try.prog 8 [1, 1, 1, 0, 1, 0, 0, 1, 0, 0, 1, 0], [6])) (some 26)
                            [Item.code (cAt Try.prog 8 [1, 1, 1, 0, 1, 0, 0, 1, 0, 0, 1, 1]), Item.inBlock 1,
                              Item.code (cAt Try.prog 8 [1, 1, 1, 0, 1, 0, 0, 1, 1]),
                              Item.inLoop (cAt Try.prog 8 [1, 1, 1, 0, 1, 0, 0]), Item.inBlock 0,
                              Item.code (cAt Try.prog 8 [1, 1, 1, 1])]
                            (mkJ 0 [(0, SV.dat l), (3, SV.ptr 2 0), (4, SV.int IntKind.i64 i), (5, SV.int IntKind.i64 n)]
                              0 97)]
                        [(0,
                            OBlk.cells 67
                              [SV.int IntKind.i64 e, SV.int IntKind.i64 s, SV.dat d, SV.int IntKind.i64 st,
                                SV.int IntKind.i64 ap, SV.int IntKind.i64 te, SV.int IntKind.i64 ts,
                                SV.int IntKind.i64 tst, SV.int IntKind.i64 tap, SV.vec 3, SV.vec 4, SV.lb true]),
                          (1,
                            OBlk.cells 67
                              [SV.int IntKind.i64 0, SV.int IntKind.i64 0, SV.nils, SV.int IntKind.i64 0,
                                SV.int IntKind.i64 0, SV.int IntKind.i64 0, SV.int IntKind.i64 0, SV.int IntKind.i64 0,
                                SV.int IntKind.i64 0, SV.nils, SV.nils, SV.lb false]),
                          (2,
                            OBlk.cells 67
                              [SV.int IntKind.i64 e, SV.int IntKind.i64 s, SV.dat d, SV.int IntKind.i64 st,
                                SV.int IntKind.i64 ap, SV.int IntKind.i64 te, SV.int IntKind.i64 ts,
                                SV.int IntKind.i64 tst, SV.int IntKind.i64 tap, SV.vec 3, SV.vec 4, SV.lb true]),
                          (3, OBlk.arr 3 (D.slc h1 1 r1)), (4, OBlk.arr 53 (D.slc h2 8 r2))])))
                (Tree.all fun hs =>
                  Tree.br (decide (Prod.snd (newSource (IntKind.wrap IntKind.i64 (te + 1)) 2 tap) = 0))
                    (Tree.need ((4 : Int) ≠ 0)
                      (Tree.br (decide (Int.tmod x 4 = 0))
                        (Tree.leaf
                          (Conf.mk
                            (SFrm.mk 38 none none
                              [Item.code (cAt Try.prog 38 [1, 1, 1, 0]), Item.code (cAt Try.prog 38 [1, 1, 1, 1])]
                              (mkJ 1 [(2, SV.ptr 0 0), (4, SV.ptr 1 0), (5, SV.nils)] 0 252))
                            [SFrm.mk 8 (some (opsAt Try.prog 8 [1, 1, 1, 0, 1, 0, 0, 1, 0, 0, 1, 0], [6])) (some 26)
                                [Item.code (cAt Try.prog 8 [1, 1, 1, 0, 1, 0, 0, 1, 0, 0, 1, 1]), Item.inBlock 1,
                                  Item.code (cAt Try.prog 8 [1, 1, 1, 0, 1, 0, 0, 1, 1]),
                                  Item.inLoop (cAt Try.prog 8 [1, 1, 1, 0, 1, 0, 0]), Item.inBlock 0,
                                  Item.code (cAt Try.prog 8 [1, 1, 1, 1])]
                                (mkJ 0
                                  [(0, SV.dat l), (3, SV.ptr 2 0), (4, SV.int IntKind.i64 i), (5, SV.int IntKind.i64 n)] 0
                                  97)]
                            [(0,
                                OBlk.cells 67
                                  [SV.int IntKind.i64
                                      (Src.epoch (Prod.fst (newSource (IntKind.wrap IntKind.i64 (te + 1)) 2 tap))),
                                    SV.int IntKind.i64
                                      (Src.site (Prod.fst (newSource (IntKind.wrap IntKind.i64 (te + 1)) 2 tap))),
                                    SV.dat
                                      (D.like (hs 0 0)
                                        (Src.offered (Prod.fst (newSource (IntKind.wrap IntKind.i64 (te + 1)) 2 tap)))),
                                    SV.int IntKind.i64
                                      (Src.stored (Prod.fst (newSource (IntKind.wrap IntKind.i64 (te + 1)) 2 tap))),
                                    SV.int IntKind.i64
                                      (Src.applied (Prod.fst (newSource (IntKind.wrap IntKind.i64 (te + 1)) 2 tap))),
                                    SV.int IntKind.i64 te, SV.int IntKind.i64 ts, SV.int IntKind.i64 tst,
                                    SV.int IntKind.i64 tap, SV.vec 3, SV.vec 4, SV.lb true]),
                              (1,
                                OBlk.cells 67
                                  [SV.int IntKind.i64 0, SV.int IntKind.i64 0, SV.nils, SV.int IntKind.i64 0,
                                    SV.int IntKind.i64 0, SV.int IntKind.i64 0, SV.int IntKind.i64 0,
                                    SV.int IntKind.i64 0, SV.int IntKind.i64 0, SV.nils, SV.nils, SV.lb false]),
                              (2,
                                OBlk.cells 67
                                  [SV.int IntKind.i64 e, SV.int IntKind.i64 s, SV.dat d, SV.int IntKind.i64 st,
                                    SV.int IntKind.i64 ap, SV.int IntKind.i64 te, SV.int IntKind.i64 ts,
                                    SV.int IntKind.i64 tst, SV.int IntKind.i64 tap, SV.vec 3, SV.vec 4, SV.lb true]),
                              (3, OBlk.arr 3 (D.slc h1 1 r1)), (4, OBlk.arr 53 (D.slc h2 8 r2))]))
                        (Tree.leaf
                          (Conf.mk
                            (SFrm.mk 38 none none
                              [Item.code (cAt Try.prog 38 [1, 1, 1, 0]), Item.code (cAt Try.prog 38 [1, 1, 1, 1])]
                              (mkJ 1 [(2, SV.ptr 0 0), (4, SV.ptr 1 0), (5, SV.nils)] 0 252))
                            [SFrm.mk 8 (some (opsAt Try.prog 8 [1, 1, 1, 0, 1, 0, 0, 1, 0, 0, 1, 0], [6])) (some 26)
                                [Item.code (cAt Try.prog 8 [1, 1, 1, 0, 1, 0, 0, 1, 0, 0, 1, 1]), Item.inBlock 1,
                                  Item.code (cAt Try.prog 8 [1, 1, 1, 0, 1, 0, 0, 1, 1]),
                                  Item.inLoop (cAt Try.prog 8 [1, 1, 1, 0, 1, 0, 0]), Item.inBlock 0,
                                  Item.code (cAt Try.prog 8 [1, 1, 1, 1])]
                                (mkJ 0
                                  [(0, SV.dat l), (3, SV.ptr 2 0), (4, SV.int IntKind.i64 i), (5, SV.int IntKind.i64 n)] 0
                                  97)]
                            [(0,
                                OBlk.cells 67
                                  [SV.int IntKind.i64 e, SV.int IntKind.i64 s, SV.dat d, SV.int IntKind.i64 st,
                                    SV.int IntKind.i64 ap, SV.int IntKind.i64 te, SV.int IntKind.i64 ts,
                                    SV.int IntKind.i64 tst, SV.int IntKind.i64 tap, SV.vec 3, SV.vec 4, SV.lb true]),
                              (1,
                                OBlk.cells 67
                                  [SV.int IntKind.i64 0, SV.int IntKind.i64 0, SV.nils, SV.int IntKind.i64 0,
                                    SV.int IntKind.i64 0, SV.int IntKind.i64 0, SV.int IntKind.i64 0,
                                    SV.int IntKind.i64 0, SV.int IntKind.i64 0, SV.nils, SV.nils, SV.lb false]),
                              (2,
                                OBlk.cells 67
                                  [SV.int IntKind.i64 e, SV.int IntKind.i64 s, SV.dat d, SV.int IntKind.i64 st,
                                    SV.int IntKind.i64 ap, SV.int IntKind.i64 te, SV.int IntKind.i64 ts,
                                    SV.int IntKind.i64 tst, SV.int IntKind.i64 tap, SV.vec 3, SV.vec 4, SV.lb true]),
                              (3, OBlk.arr 3 (D.slc h1 1 r1)), (4, OBlk.arr 53 (D.slc h2 8 r2))]))))
                    (Tree.leaf
                      (Conf.mk
                        (SFrm.mk 38 none none
                          [Item.code (cAt Try.prog 38 [1, 1, 1, 0]), Item.code (cAt Try.prog 38 [1, 1, 1, 1])]
                          (mkJ 1 [(2, SV.ptr 0 0), (4, SV.ptr 1 0), (5, SV.nils)] 0 252))
                        [SFrm.mk 8 (some (opsAt Try.prog 8 [1, 1, 1, 0, 1, 0, 0, 1, 0, 0, 1, 0], [6])) (some 26)
                            [Item.code (cAt Try.prog 8 [1, 1, 1, 0, 1, 0, 0, 1, 0, 0, 1, 1]), Item.inBlock 1,
                              Item.code (cAt Try.prog 8 [1, 1, 1, 0, 1, 0, 0, 1, 1]),
                              Item.inLoop (cAt Try.prog 8 [1, 1, 1, 0, 1, 0, 0]), Item.inBlock 0,
                              Item.code (cAt Try.prog 8 [1, 1, 1, 1])]
                            (mkJ 0 [(0, SV.dat l), (3, SV.ptr 2 0), (4, SV.int IntKind.i64 i), (5, SV.int IntKind.i64 n)]
                              0 97)]
                        [(0,
                            OBlk.cells 67
                              [SV.int IntKind.i64 e, SV.int IntKind.i64 s, SV.dat d, SV.int IntKind.i64 st,
                                SV.int IntKind.i64 ap, SV.int IntKind.i64 te, SV.int IntKind.i64 ts,
                                SV.int IntKind.i64 tst, SV.int IntKind.i64 tap, SV.vec 3, SV.vec 4, SV.lb true]),
                          (1,
                            OBlk.cells 67
                              [SV.int IntKind.i64 0, SV.int IntKind.i64 0, SV.nils, SV.int IntKind.i64 0,
                                SV.int IntKind.i64 0, SV.int IntKind.i64 0, SV.int IntKind.i64 0, SV.int IntKind.i64 0,
                                SV.int IntKind.i64 0, SV.nils, SV.nils, SV.lb false]),
                          (2,
                            OBlk.cells 67
                              [SV.int IntKind.i64 e, SV.int IntKind.i64 s, SV.dat d, SV.int IntKind.i64 st,
                                SV.int IntKind.i64 ap, SV.int IntKind.i64 te, SV.int IntKind.i64 ts,
                                SV.int IntKind.i64 tst, SV.int IntKind.i64 tap, SV.vec 3, SV.vec 4, SV.lb true]),
                          (3, OBlk.arr 3 (D.slc h1 1 r1)), (4, OBlk.arr 53 (D.slc h2 8 r2))]))))))))) := by kernel_rfl

end
end Go.Proofs.Ytnfkkmdbaknnlaa
end
section
/- Layer 32: the parts of a step, walked. -/
open Go Go.Proofs Sx
namespace Go.Proofs.Ytnfkkmdbaknnlaa
set_option maxRecDepth 100000
set_option maxHeartbeats 0
section
variable (l : D) (e s st ap te ts tst tap i n k x q e0 s0 st0 ap0 te0 ts0 tst0 tap0 : Int) (d d0 dm : D) (h1 h2 : Hd) (r1 r2 : List (List D))
theorem l1_8 : goS Try.prog ctL (fun _ => false) [(38, 2), (38, 246), (8, 27)] 400 (unroll (L18 l i n ⟨e, s, d, st, ap⟩ ⟨te, ts, tst, tap⟩ q h1 h2 r1 r2)) =
  Tree.br (decide (q < (↑(D.len d) : Int)))
    (Tree.need (0 ≤ q ∧ q < (↑(D.len d) : Int) ∧ D.sz d = 1)
      (Tree.need (D.HasCell d (Int.toNat q) 0 (FT.int IntKind.i64))
        (Tree.br (decide (D.getInt d (Int.toNat q) 0 > tst))
          (Tree.br (decide (e = te))
            (Tree.all fun hs =>
              Tree.br (Prod.snd (Prod.snd (Sx.store (Tgt.mk te ts tst tap) (D.getInt d (Int.toNat q) 0))) != 0)
                (Tree.leaf
                  (Conf.mk
                    (SFrm.mk 38 none none
                      [Item.code (cAt Try.prog 38 [1, 1, 1, 0]), Item.code (cAt Try.prog 38 [1, 1, 1, 1])]
                      (mkJ 1 [(2, SV.ptr 0 0), (4, SV.ptr 1 0), (5, SV.nils)] 0 252))
                    [SFrm.mk 8 (some (opsAt Try.prog 8 [1, 1, 1, 0, 1, 0, 0, 1, 0, 0, 1, 0], [6])) (some 26)
                        [Item.code (cAt Try.prog 8 [1, 1, 1, 0, 1, 0, 0, 1, 0, 0, 1, 1]), Item.inBlock 1,
                          Item.code (cAt Try.prog 8 [1, 1, 1, 0, 1, 0, 0, 1, 1]),
                          Item.inLoop (cAt Try.prog 8 [1, 1, 1, 0, 1, 0, 0]), Item.inBlock 0,
                          Item.code (cAt Try.prog 8 [1, 1, 1, 1])]
                        (mkJ 0 [(0, SV.dat l), (3, SV.ptr 2 0), (4, SV.int IntKind.i64 i), (5, SV.int IntKind.i64 n)] 0
                          97)]
                    [(0,
                        OBlk.cells 67
                          [SV.int IntKind.i64 e, SV.int IntKind.i64 s, SV.dat d, SV.int IntKind.i64 st,
                            SV.int IntKind.i64 ap, SV.int IntKind.i64 te, SV.int IntKind.i64 ts, SV.int IntKind.i64 tst,
                            SV.int IntKind.i64 tap, SV.vec 3, SV.vec 4, SV.lb false]),
                      (1,
                        OBlk.cells 67
                          [SV.int IntKind.i64 0, SV.int IntKind.i64 0, SV.nils, SV.int IntKind.i64 0,
                            SV.int IntKind.i64 0, SV.int IntKind.i64 0, SV.int IntKind.i64 0, SV.int IntKind.i64 0,
                            SV.int IntKind.i64 0, SV.nils, SV.nils, SV.lb false]),
                      (2,
                        OBlk.cells 67
                          [SV.int IntKind.i64 e, SV.int IntKind.i64 s, SV.dat d, SV.int IntKind.i64 st,
                            SV.int IntKind.i64 ap, SV.int IntKind.i64 te, SV.int IntKind.i64 ts, SV.int IntKind.i64 tst,
                            SV.int IntKind.i64 tap, SV.vec 3, SV.vec 4, SV.lb true]),
                      (3, OBlk.arr 3 (D.slc h1 1 r1)), (4, OBlk.arr 53 (D.slc h2 8 r2))]))
                (Tree.leaf
                  (Conf.mk
                    (SFrm.mk 38 none none
                      [Item.code (cAt Try.prog 38 [1, 1, 1, 0]), Item.code (cAt Try.prog 38 [1, 1, 1, 1])]
                      (mkJ 1
                        [(2, SV.ptr 0 0), (4, SV.ptr 1 0),
                          (5,
                            SV.dat
                              (D.like (hs 0 0)
                                (Prod.fst (Prod.snd (Sx.store (Tgt.mk te ts tst tap) (D.getInt d (Int.toNat q) 0))))))]
                        0 252))
                    [SFrm.mk 8 (some (opsAt Try.prog 8 [1, 1, 1, 0, 1, 0, 0, 1, 0, 0, 1, 0], [6])) (some 26)
                        [Item.code (cAt Try.prog 8 [1, 1, 1, 0, 1, 0, 0, 1, 0, 0, 1, 1]), Item.inBlock 1,
                          Item.code (cAt Try.prog 8 [1, 1, 1, 0, 1, 0, 0, 1, 1]),
                          Item.inLoop (cAt Try.prog 8 [1, 1, 1, 0, 1, 0, 0]), Item.inBlock 0,
                          Item.code (cAt Try.prog 8 [1, 1, 1, 1])]
                        (mkJ 0 [(0, SV.dat l), (3, SV.ptr 2 0), (4, SV.int IntKind.i64 i), (5, SV.int IntKind.i64 n)] 0
                          97)]
                    [(0,
                        OBlk.cells 67
                          [SV.int IntKind.i64 e, SV.int IntKind.i64 s, SV.dat d, SV.int IntKind.i64 st,
                            SV.int IntKind.i64 ap,
                            SV.int IntKind.i64
                              (Tgt.epoch (Prod.fst (Sx.store (Tgt.mk te ts tst tap) (D.getInt d (Int.toNat q) 0)))),
                            SV.int IntKind.i64
                              (Tgt.site (Prod.fst (Sx.store (Tgt.mk te ts tst tap) (D.getInt d (Int.toNat q) 0)))),
                            SV.int IntKind.i64
                              (Tgt.stored (Prod.fst (Sx.store (Tgt.mk te ts tst tap) (D.getInt d (Int.toNat q) 0)))),
                            SV.int IntKind.i64
                              (Tgt.applied (Prod.fst (Sx.store (Tgt.mk te ts tst tap) (D.getInt d (Int.toNat q) 0)))),
                            SV.vec 3, SV.vec 4, SV.lb true]),
                      (1,
                        OBlk.cells 67
                          [SV.int IntKind.i64 0, SV.int IntKind.i64 0, SV.nils, SV.int IntKind.i64 0,
                            SV.int IntKind.i64 0, SV.int IntKind.i64 0, SV.int IntKind.i64 0, SV.int IntKind.i64 0,
                            SV.int IntKind.i64 0, SV.nils, SV.nils, SV.lb false]),
                      (2,
                        OBlk.cells 67
                          [SV.int IntKind.i64 e, SV.int IntKind.i64 s, SV.dat d, SV.int IntKind.i64 st,
                            SV.int IntKind.i64 ap, SV.int IntKind.i64 te, SV.int IntKind.i64 ts, SV.int IntKind.i64 tst,
                            SV.int IntKind.i64 tap, SV.vec 3, SV.vec 4, SV.lb true]),
                      (3, OBlk.arr 3 (D.slc h1 1 r1)), (4, OBlk.arr 53 (D.slc h2 8 r2))])))
            (Tree.leaf
              (Conf.mk
                (SFrm.mk 38 none none
                  [Item.inLoop (cAt Try.prog 38 [1, 1, 0, 1, 0, 1, 1, 1, 0, 1, 0, 0]), Item.inBlock 1, Item.inBlock 0,
                    Item.code (cAt Try.prog 38 [1, 1, 1])]
                  (mkJ 1
                    [(2, SV.ptr 0 0), (4, SV.ptr 1 0), (5, SV.nils),
                      (10, SV.int IntKind.i64 (IntKind.wrap IntKind.i64 (q + 1)))]
                    0 252))
                [SFrm.mk 8 (some (opsAt Try.prog 8 [1, 1, 1, 0, 1, 0, 0, 1, 0, 0, 1, 0], [6])) (some 26)
                    [Item.code (cAt Try.prog 8 [1, 1, 1, 0, 1, 0, 0, 1, 0, 0, 1, 1]), Item.inBlock 1,
                      Item.code (cAt Try.prog 8 [1, 1, 1, 0, 1, 0, 0, 1, 1]),
                      Item.inLoop (cAt Try.prog 8 [1, 1, 1, 0, 1, 0, 0]), Item.inBlock 0,
                      Item.code (cAt Try.prog 8 [1, 1, 1, 1])]
                    (mkJ 0 [(0, SV.dat l), (3, SV.ptr 2 0), (4, SV.int IntKind.i64 i), (5, SV.int IntKind.i64 n)] 0 97)]
                [(0,
                    OBlk.cells 67
                      [SV.int IntKind.i64 e, SV.int IntKind.i64 s, SV.dat d, SV.int IntKind.i64 st, SV.int IntKind.i64 ap,
                        SV.int IntKind.i64 te, SV.int IntKind.i64 ts, SV.int IntKind.i64 tst, SV.int IntKind.i64 tap,
                        SV.vec 3, SV.vec 4, SV.lb true]),
                  (1,
                    OBlk.cells 67
                      [SV.int IntKind.i64 0, SV.int IntKind.i64 0, SV.nils, SV.int IntKind.i64 0, SV.int IntKind.i64 0,
                        SV.int IntKind.i64 0, SV.int IntKind.i64 0, SV.int IntKind.i64 0, SV.int IntKind.i64 0, SV.nils,
                        SV.nils, SV.lb false]),
                  (2,
                    OBlk.cells 67
                      [SV.int IntKind.i64 e, SV.int IntKind.i64 s, SV.dat d, SV.int IntKind.i64 st, SV.int IntKind.i64 ap,
                        SV.int IntKind.i64 te, SV.int IntKind.i64 ts, SV.int IntKind.i64 tst, SV.int IntKind.i64 tap,
                        SV.vec 3, SV.vec 4, SV.lb true]),
                  (3, OBlk.arr 3 (D.slc h1 1 r1)), (4, OBlk.arr 53 (D.slc h2 8 r2))])))
          (Tree.leaf
            (Conf.mk
              (SFrm.mk 38 none none
                [Item.inLoop (cAt Try.prog 38 [1, 1, 0, 1, 0, 1, 1, 1, 0, 1, 0, 0]), Item.inBlock 1, Item.inBlock 0,
                  Item.code (cAt Try.prog 38 [1, 1, 1])]
                (mkJ 1
                  [(2, SV.ptr 0 0), (4, SV.ptr 1 0), (5, SV.nils),
                    (10, SV.int IntKind.i64 (IntKind.wrap IntKind.i64 (q + 1)))]
                  0 252))
              [SFrm.mk 8 (some (opsAt Try.prog 8 [1, 1, 1, 0, 1, 0, 0, 1, 0, 0, 1, 0], [6])) (some 26)
                  [Item.code (cAt Try.prog 8 [1, 1, 1, 0, 1, 0, 0, 1, 0, 0, 1, 1]), Item.inBlock 1,
                    Item.code (cAt Try.prog 8 [1, 1, 1, 0, 1, 0, 0, 1, 1]),
                    Item.inLoop (cAt Try.prog 8 [1, 1, 1, 0, 1, 0, 0]), Item.inBlock 0,
                    Item.code (cAt Try.prog 8 [1, 1, 1, 1])]
                  (mkJ 0 [(0, SV.dat l), (3, SV.ptr 2 0), (4, SV.int IntKind.i64 i), (5, SV.int IntKind.i64 n)] 0 97)]
              [(0,
                  OBlk.cells 67
                    [SV.int IntKind.i64 e, SV.int IntKind.i64 s, SV.dat d, SV.int IntKind.i64 st, SV.int IntKind.i64 ap,
                      SV.int IntKind.i64 te, SV.int IntKind.i64 ts, SV.int IntKind.i64 tst, SV.int IntKind.i64 tap,
                      SV.vec 3, SV.vec 4, SV.lb true]),
                (1,
                  OBlk.cells 67
                    [SV.int IntKind.i64 0, SV.int IntKind.i64 0, SV.nils, SV.int IntKind.i64 0, SV.int IntKind.i64 0,
                      SV.int IntKind.i64 0, SV.int IntKind.i64 0, SV.int IntKind.i64 0, SV.int IntKind.i64 0, SV.nils,
                      SV.nils, SV.lb false]),
                (2,
                  OBlk.cells 67
                    [SV.int IntKind.i64 e, SV.int IntKind.i64 s, SV.dat d, SV.int IntKind.i64 st, SV.int IntKind.i64 ap,
                      SV.int IntKind.i64 te, SV.int IntKind.i64 ts, SV.int IntKind.i64 tst, SV.int IntKind.i64 tap,
                      SV.vec 3, SV.vec 4, SV.lb true]),
                (3, OBlk.arr 3 (D.slc h1 1 r1)), (4, OBlk.arr 53 (D.slc h2 8 r2))])))))
    (Tree.leaf
      (Conf.mk
        (SFrm.mk 38 none none [Item.code (cAt Try.prog 38 [1, 1, 1, 0]), Item.code (cAt Try.prog 38 [1, 1, 1, 1])]
          (mkJ 1 [(2, SV.ptr 0 0), (4, SV.ptr 1 0), (5, SV.nils)] 0 252))
        [SFrm.mk 8 (some (opsAt Try.prog 8 [1, 1, 1, 0, 1, 0, 0, 1, 0, 0, 1, 0], [6])) (some 26)
            [Item.code (cAt Try.prog 8 [1, 1, 1, 0, 1, 0, 0, 1, 0, 0, 1, 1]), Item.inBlock 1,
              Item.code (cAt Try.prog 8 [1, 1, 1, 0, 1, 0, 0, 1, 1]), Item.inLoop (cAt Try.prog 8 [1, 1, 1, 0, 1, 0, 0]),
              Item.inBlock 0, Item.code (cAt Try.prog 8 [1, 1, 1, 1])]
            (mkJ 0 [(0, SV.dat l), (3, SV.ptr 2 0), (4, SV.int IntKind.i64 i), (5, SV.int IntKind.i64 n)] 0 97)]
        [(0,
            OBlk.cells 67
              [SV.int IntKind.i64 e, SV.int IntKind.i64 s, SV.dat d, SV.int IntKind.i64 st, SV.int IntKind.i64 ap,
                SV.int IntKind.i64 te, SV.int IntKind.i64 ts, SV.int IntKind.i64 tst, SV.int IntKind.i64 tap, SV.vec 3,
                SV.vec 4, SV.lb true]),
          (1,
            OBlk.cells 67
              [SV.int IntKind.i64 0, SV.int IntKind.i64 0, SV.nils, SV.int IntKind.i64 0, SV.int IntKind.i64 0,
                SV.int IntKind.i64 0, SV.int IntKind.i64 0, SV.int IntKind.i64 0, SV.int IntKind.i64 0, SV.nils, SV.nils,
                SV.lb false]),
          (2,
            OBlk.cells 67
              [SV.int IntKind.i64 e, SV.int IntKind.i64 s, SV.dat d, SV.int IntKind.i64 st, SV.int IntKind.i64 ap,
                SV.int IntKind.i64 te, SV.int IntKind.i64 ts, SV.int IntKind.i64 tst, SV.int IntKind.i64 tap, SV.vec 3,
                SV.vec 4, SV.lb true]),
          (3, OBlk.arr 3 (D.slc h1 1 r1)), (4, OBlk.arr 53 (D.slc h2 8 r2))])) := by kernel_rfl

theorem l2_8 : goS Try.prog ctL (fun _ => false) [(38, 2), (38, 246), (8, 27)] 400 (unroll (L28 l i n ⟨e, s, d, st, ap⟩ ⟨te, ts, tst, tap⟩ k x q h1 h2 r1 r2)) =
  Tree.br (decide (q ≥ 0))
    (Tree.need (0 ≤ q ∧ q < (↑(D.len d) : Int) ∧ D.sz d = 1)
      (Tree.need (D.HasCell d (Int.toNat q) 0 (FT.int IntKind.i64))
        (Tree.br (decide (D.getInt d (Int.toNat q) 0 > tap))
          (Tree.br (decide (D.getInt d (Int.toNat q) 0 ≤ tst))
            (Tree.need ((2 : Int) ≠ 0)
              (Tree.br (decide (Int.tmod (IntKind.wrap IntKind.u8 (x + IntKind.wrap IntKind.u8 q)) 2 = 0))
                (Tree.all fun hs =>
                  Tree.br (Prod.snd (Prod.snd (applyT (Tgt.mk te ts tst tap) (D.getInt d (Int.toNat q) 0))) != 0)
                    (Tree.leaf
                      (Conf.mk
                        (SFrm.mk 38 none none
                          [Item.code (cAt Try.prog 38 [1, 1, 1, 0]), Item.code (cAt Try.prog 38 [1, 1, 1, 1])]
                          (mkJ 1 [(2, SV.ptr 0 0), (4, SV.ptr 1 0), (5, SV.nils)] 0 252))
                        [SFrm.mk 8 (some (opsAt Try.prog 8 [1, 1, 1, 0, 1, 0, 0, 1, 0, 0, 1, 0], [6])) (some 26)
                            [Item.code (cAt Try.prog 8 [1, 1, 1, 0, 1, 0, 0, 1, 0, 0, 1, 1]), Item.inBlock 1,
                              Item.code (cAt Try.prog 8 [1, 1, 1, 0, 1, 0, 0, 1, 1]),
                              Item.inLoop (cAt Try.prog 8 [1, 1, 1, 0, 1, 0, 0]), Item.inBlock 0,
                              Item.code (cAt Try.prog 8 [1, 1, 1, 1])]
                            (mkJ 0 [(0, SV.dat l), (3, SV.ptr 2 0), (4, SV.int IntKind.i64 i), (5, SV.int IntKind.i64 n)]
                              0 97)]
                        [(0,
                            OBlk.cells 67
                              [SV.int IntKind.i64 e, SV.int IntKind.i64 s, SV.dat d, SV.int IntKind.i64 st,
                                SV.int IntKind.i64 ap, SV.int IntKind.i64 te, SV.int IntKind.i64 ts,
                                SV.int IntKind.i64 tst, SV.int IntKind.i64 tap, SV.vec 3, SV.vec 4, SV.lb false]),
                          (1,
                            OBlk.cells 67
                              [SV.int IntKind.i64 0, SV.int IntKind.i64 0, SV.nils, SV.int IntKind.i64 0,
                                SV.int IntKind.i64 0, SV.int IntKind.i64 0, SV.int IntKind.i64 0, SV.int IntKind.i64 0,
                                SV.int IntKind.i64 0, SV.nils, SV.nils, SV.lb false]),
                          (2,
                            OBlk.cells 67
                              [SV.int IntKind.i64 e, SV.int IntKind.i64 s, SV.dat d, SV.int IntKind.i64 st,
                                SV.int IntKind.i64 ap, SV.int IntKind.i64 te, SV.int IntKind.i64 ts,
                                SV.int IntKind.i64 tst, SV.int IntKind.i64 tap, SV.vec 3, SV.vec 4, SV.lb true]),
                          (3, OBlk.arr 3 (D.slc h1 1 r1)), (4, OBlk.arr 53 (D.slc h2 8 r2))]))
                    (Tree.leaf
                      (Conf.mk
                        (SFrm.mk 38 none none
                          [Item.code (cAt Try.prog 38 [1, 1, 1, 0]), Item.code (cAt Try.prog 38 [1, 1, 1, 1])]
                          (mkJ 1
                            [(2, SV.ptr 0 0), (4, SV.ptr 1 0),
                              (5,
                                SV.dat
                                  (D.like (hs 0 0)
                                    (Prod.fst (Prod.snd (applyT (Tgt.mk te ts tst tap) (D.getInt d (Int.toNat q) 0))))))]
                            0 252))
                        [SFrm.mk 8 (some (opsAt Try.prog 8 [1, 1, 1, 0, 1, 0, 0, 1, 0, 0, 1, 0], [6])) (some 26)
                            [Item.code (cAt Try.prog 8 [1, 1, 1, 0, 1, 0, 0, 1, 0, 0, 1, 1]), Item.inBlock 1,
                              Item.code (cAt Try.prog 8 [1, 1, 1, 0, 1, 0, 0, 1, 1]),
                              Item.inLoop (cAt Try.prog 8 [1, 1, 1, 0, 1, 0, 0]), Item.inBlock 0,
                              Item.code (cAt Try.prog 8 [1, 1, 1, 1])]
                            (mkJ 0 [(0, SV.dat l), (3, SV.ptr 2 0), (4, SV.int IntKind.i64 i), (5, SV.int IntKind.i64 n)]
                              0 97)]
                        [(0,
                            OBlk.cells 67
                              [SV.int IntKind.i64 e, SV.int IntKind.i64 s, SV.dat d, SV.int IntKind.i64 st,
                                SV.int IntKind.i64 ap,
                                SV.int IntKind.i64
                                  (Tgt.epoch (Prod.fst (applyT (Tgt.mk te ts tst tap) (D.getInt d (Int.toNat q) 0)))),
                                SV.int IntKind.i64
                                  (Tgt.site (Prod.fst (applyT (Tgt.mk te ts tst tap) (D.getInt d (Int.toNat q) 0)))),
                                SV.int IntKind.i64
                                  (Tgt.stored (Prod.fst (applyT (Tgt.mk te ts tst tap) (D.getInt d (Int.toNat q) 0)))),
                                SV.int IntKind.i64
                                  (Tgt.applied (Prod.fst (applyT (Tgt.mk te ts tst tap) (D.getInt d (Int.toNat q) 0)))),
                                SV.vec 3, SV.vec 4, SV.lb true]),
                          (1,
                            OBlk.cells 67
                              [SV.int IntKind.i64 0, SV.int IntKind.i64 0, SV.nils, SV.int IntKind.i64 0,
                                SV.int IntKind.i64 0, SV.int IntKind.i64 0, SV.int IntKind.i64 0, SV.int IntKind.i64 0,
                                SV.int IntKind.i64 0, SV.nils, SV.nils, SV.lb false]),
                          (2,
                            OBlk.cells 67
                              [SV.int IntKind.i64 e, SV.int IntKind.i64 s, SV.dat d, SV.int IntKind.i64 st,
                                SV.int IntKind.i64 ap, SV.int IntKind.i64 te, SV.int IntKind.i64 ts,
                                SV.int IntKind.i64 tst, SV.int IntKind.i64 tap, SV.vec 3, SV.vec 4, SV.lb true]),
                          (3, OBlk.arr 3 (D.slc h1 1 r1)), (4, OBlk.arr 53 (D.slc h2 8 r2))])))
                (Tree.leaf
                  (Conf.mk
                    (SFrm.mk 38 none none
                      [Item.inLoop (cAt Try.prog 38 [1, 1, 0, 1, 0, 1, 1, 1, 1, 1, 0, 1, 0, 0]), Item.inBlock 3,
                        Item.inBlock 0, Item.code (cAt Try.prog 38 [1, 1, 1])]
                      (mkJ 1
                        [(2, SV.ptr 0 0), (3, SV.ptr 1 0), (4, SV.ptr 2 0), (5, SV.nils),
                          (15, SV.int IntKind.i64 (IntKind.wrap IntKind.i64 (q - 1)))]
                        0 252))
                    [SFrm.mk 8 (some (opsAt Try.prog 8 [1, 1, 1, 0, 1, 0, 0, 1, 0, 0, 1, 0], [6])) (some 26)
                        [Item.code (cAt Try.prog 8 [1, 1, 1, 0, 1, 0, 0, 1, 0, 0, 1, 1]), Item.inBlock 1,
                          Item.code (cAt Try.prog 8 [1, 1, 1, 0, 1, 0, 0, 1, 1]),
                          Item.inLoop (cAt Try.prog 8 [1, 1, 1, 0, 1, 0, 0]), Item.inBlock 0,
                          Item.code (cAt Try.prog 8 [1, 1, 1, 1])]
                        (mkJ 0 [(0, SV.dat l), (3, SV.ptr 3 0), (4, SV.int IntKind.i64 i), (5, SV.int IntKind.i64 n)] 0
                          97)]
                    [(0,
                        OBlk.cells 67
                          [SV.int IntKind.i64 e, SV.int IntKind.i64 s, SV.dat d, SV.int IntKind.i64 st,
                            SV.int IntKind.i64 ap, SV.int IntKind.i64 te, SV.int IntKind.i64 ts, SV.int IntKind.i64 tst,
                            SV.int IntKind.i64 tap, SV.vec 4, SV.vec 5, SV.lb true]),
                      (1, OBlk.cells 71 [SV.int IntKind.u8 k, SV.int IntKind.u8 x]),
                      (2,
                        OBlk.cells 67
                          [SV.int IntKind.i64 0, SV.int IntKind.i64 0, SV.nils, SV.int IntKind.i64 0,
                            SV.int IntKind.i64 0, SV.int IntKind.i64 0, SV.int IntKind.i64 0, SV.int IntKind.i64 0,
                            SV.int IntKind.i64 0, SV.nils, SV.nils, SV.lb false]),
                      (3,
                        OBlk.cells 67
                          [SV.int IntKind.i64 e, SV.int IntKind.i64 s, SV.dat d, SV.int IntKind.i64 st,
                            SV.int IntKind.i64 ap, SV.int IntKind.i64 te, SV.int IntKind.i64 ts, SV.int IntKind.i64 tst,
                            SV.int IntKind.i64 tap, SV.vec 4, SV.vec 5, SV.lb true]),
                      (4, OBlk.arr 3 (D.slc h1 1 r1)), (5, OBlk.arr 53 (D.slc h2 8 r2))]))))
            (Tree.leaf
              (Conf.mk
                (SFrm.mk 38 none none
                  [Item.inLoop (cAt Try.prog 38 [1, 1, 0, 1, 0, 1, 1, 1, 1, 1, 0, 1, 0, 0]), Item.inBlock 3,
                    Item.inBlock 0, Item.code (cAt Try.prog 38 [1, 1, 1])]
                  (mkJ 1
                    [(2, SV.ptr 0 0), (3, SV.ptr 1 0), (4, SV.ptr 2 0), (5, SV.nils),
                      (15, SV.int IntKind.i64 (IntKind.wrap IntKind.i64 (q - 1)))]
                    0 252))
                [SFrm.mk 8 (some (opsAt Try.prog 8 [1, 1, 1, 0, 1, 0, 0, 1, 0, 0, 1, 0], [6])) (some 26)
                    [Item.code (cAt Try.prog 8 [1, 1, 1, 0, 1, 0, 0, 1, 0, 0, 1, 1]), Item.inBlock 1,
                      Item.code (cAt Try.prog 8 [1, 1, 1, 0, 1, 0, 0, 1, 1]),
                      Item.inLoop (cAt Try.prog 8 [1, 1, 1, 0, 1, 0, 0]), Item.inBlock 0,
                      Item.code (cAt Try.prog 8 [1, 1, 1, 1])]
                    (mkJ 0 [(0, SV.dat l), (3, SV.ptr 3 0), (4, SV.int IntKind.i64 i), (5, SV.int IntKind.i64 n)] 0 97)]
                [(0,
                    OBlk.cells 67
                      [SV.int IntKind.i64 e, SV.int IntKind.i64 s, SV.dat d, SV.int IntKind.i64 st, SV.int IntKind.i64 ap,
                        SV.int IntKind.i64 te, SV.int IntKind.i64 ts, SV.int IntKind.i64 tst, SV.int IntKind.i64 tap,
                        SV.vec 4, SV.vec 5, SV.lb true]),
                  (1, OBlk.cells 71 [SV.int IntKind.u8 k, SV.int IntKind.u8 x]),
                  (2,
                    OBlk.cells 67
                      [SV.int IntKind.i64 0, SV.int IntKind.i64 0, SV.nils, SV.int IntKind.i64 0, SV.int IntKind.i64 0,
                        SV.int IntKind.i64 0, SV.int IntKind.i64 0, SV.int IntKind.i64 0, SV.int IntKind.i64 0, SV.nils,
                        SV.nils, SV.lb false]),
                  (3,
                    OBlk.cells 67
                      [SV.int IntKind.i64 e, SV.int IntKind.i64 s, SV.dat d, SV.int IntKind.i64 st, SV.int IntKind.i64 ap,
                        SV.int IntKind.i64 te, SV.int IntKind.i64 ts, SV.int IntKind.i64 tst, SV.int IntKind.i64 tap,
                        SV.vec 4, SV.vec 5, SV.lb true]),
                  (4, OBlk.arr 3 (D.slc h1 1 r1)), (5, OBlk.arr 53 (D.slc h2 8 r2))])))
          (Tree.leaf
            (Conf.mk
              (SFrm.mk 38 none none
                [Item.inLoop (cAt Try.prog 38 [1, 1, 0, 1, 0, 1, 1, 1, 1, 1, 0, 1, 0, 0]), Item.inBlock 3, Item.inBlock 0,
                  Item.code (cAt Try.prog 38 [1, 1, 1])]
                (mkJ 1
                  [(2, SV.ptr 0 0), (3, SV.ptr 1 0), (4, SV.ptr 2 0), (5, SV.nils),
                    (15, SV.int IntKind.i64 (IntKind.wrap IntKind.i64 (q - 1)))]
                  0 252))
              [SFrm.mk 8 (some (opsAt Try.prog 8 [1, 1, 1, 0, 1, 0, 0, 1, 0, 0, 1, 0], [6])) (some 26)
                  [Item.code (cAt Try.prog 8 [1, 1, 1, 0, 1, 0, 0, 1, 0, 0, 1, 1]), Item.inBlock 1,
                    Item.code (cAt Try.prog 8 [1, 1, 1, 0, 1, 0, 0, 1, 1]),
                    Item.inLoop (cAt Try.prog 8 [1, 1, 1, 0, 1, 0, 0]), Item.inBlock 0,
                    Item.code (cAt Try.prog 8 [1, 1, 1, 1])]
                  (mkJ 0 [(0, SV.dat l), (3, SV.ptr 3 0), (4, SV.int IntKind.i64 i), (5, SV.int IntKind.i64 n)] 0 97)]
              [(0,
                  OBlk.cells 67
                    [SV.int IntKind.i64 e, SV.int IntKind.i64 s, SV.dat d, SV.int IntKind.i64 st, SV.int IntKind.i64 ap,
                      SV.int IntKind.i64 te, SV.int IntKind.i64 ts, SV.int IntKind.i64 tst, SV.int IntKind.i64 tap,
                      SV.vec 4, SV.vec 5, SV.lb true]),
                (1, OBlk.cells 71 [SV.int IntKind.u8 k, SV.int IntKind.u8 x]),
                (2,
                  OBlk.cells 67
                    [SV.int IntKind.i64 0, SV.int IntKind.i64 0, SV.nils, SV.int IntKind.i64 0, SV.int IntKind.i64 0,
                      SV.int IntKind.i64 0, SV.int IntKind.i64 0, SV.int IntKind.i64 0, SV.int IntKind.i64 0, SV.nils,
                      SV.nils, SV.lb false]),
                (3,
                  OBlk.cells 67
                    [SV.int IntKind.i64 e, SV.int IntKind.i64 s, SV.dat d, SV.int IntKind.i64 st, SV.int IntKind.i64 ap,
                      SV.int IntKind.i64 te, SV.int IntKind.i64 ts, SV.int IntKind.i64 tst, SV.int IntKind.i64 tap,
                      SV.vec 4, SV.vec 5, SV.lb true]),
                (4, OBlk.arr 3 (D.slc h1 1 r1)), (5, OBlk.arr 53 (D.slc h2 8 r2))])))))
    (Tree.leaf
      (Conf.mk
        (SFrm.mk 38 none none [Item.code (cAt Try.prog 38 [1, 1, 1, 0]), Item.code (cAt Try.prog 38 [1, 1, 1, 1])]
          (mkJ 1 [(2, SV.ptr 0 0), (4, SV.ptr 1 0), (5, SV.nils)] 0 252))
        [SFrm.mk 8 (some (opsAt Try.prog 8 [1, 1, 1, 0, 1, 0, 0, 1, 0, 0, 1, 0], [6])) (some 26)
            [Item.code (cAt Try.prog 8 [1, 1, 1, 0, 1, 0, 0, 1, 0, 0, 1, 1]), Item.inBlock 1,
              Item.code (cAt Try.prog 8 [1, 1, 1, 0, 1, 0, 0, 1, 1]), Item.inLoop (cAt Try.prog 8 [1, 1, 1, 0, 1, 0, 0]),
              Item.inBlock 0, Item.code (cAt Try.prog 8 [1, 1, 1, 1])]
            (mkJ 0 [(0, SV.dat l), (3, SV.ptr 2 0), (4, SV.int IntKind.i64 i), (5, SV.int IntKind.i64 n)] 0 97)]
        [(0,
            OBlk.cells 67
              [SV.int IntKind.i64 e, SV.int IntKind.i64 s, SV.dat d, SV.int IntKind.i64 st, SV.int IntKind.i64 ap,
                SV.int IntKind.i64 te, SV.int IntKind.i64 ts, SV.int IntKind.i64 tst, SV.int IntKind.i64 tap, SV.vec 3,
                SV.vec 4, SV.lb true]),
          (1,
            OBlk.cells 67
              [SV.int IntKind.i64 0, SV.int IntKind.i64 0, SV.nils, SV.int IntKind.i64 0, SV.int IntKind.i64 0,
                SV.int IntKind.i64 0, SV.int IntKind.i64 0, SV.int IntKind.i64 0, SV.int IntKind.i64 0, SV.nils, SV.nils,
                SV.lb false]),
          (2,
            OBlk.cells 67
              [SV.int IntKind.i64 e, SV.int IntKind.i64 s, SV.dat d, SV.int IntKind.i64 st, SV.int IntKind.i64 ap,
                SV.int IntKind.i64 te, SV.int IntKind.i64 ts, SV.int IntKind.i64 tst, SV.int IntKind.i64 tap, SV.vec 3,
                SV.vec 4, SV.lb true]),
          (3, OBlk.arr 3 (D.slc h1 1 r1)), (4, OBlk.arr 53 (D.slc h2 8 r2))])) := by kernel_rfl

theorem c3n_8 : goS Try.prog ctL (fun _ => false) [(38, 2), (38, 246), (8, 27)] 400 (C8 3 .nils l i n ⟨e0, s0, d0, st0, ap0⟩ ⟨te0, ts0, tst0, tap0⟩ ⟨e, s, d, st, ap⟩ ⟨te, ts, tst, tap⟩ h1 h2 r1 r2) =
  Tree.need
    (D.sz (D.slc h2 8 r2) = 8 ∧
      D.Fits (D.slc none 0 []) 8 ∧
        (D.len (D.slc h2 8 r2) + 0) * 96 ≤ 140737488355328 ∧ D.len (D.slc h2 8 r2) + 0 ≤ 9223372036854775807)
    (Tree.all fun hs =>
      Tree.leaf
        (Conf.mk
          (SFrm.mk 8 none none
            [Item.code (cAt Try.prog 8 [1, 1, 1, 0, 1, 0, 0, 1, 0, 0, 1, 1, 0, 0]),
              Item.code (cAt Try.prog 8 [1, 1, 1, 0, 1, 0, 0, 1, 0, 0, 1, 1, 0, 1]),
              Item.code (cAt Try.prog 8 [1, 1, 1, 0, 1, 0, 0, 1, 0, 0, 1, 1, 1]), Item.inBlock 1,
              Item.code (cAt Try.prog 8 [1, 1, 1, 0, 1, 0, 0, 1, 1]), Item.inLoop (cAt Try.prog 8 [1, 1, 1, 0, 1, 0, 0]),
              Item.inBlock 0, Item.code (cAt Try.prog 8 [1, 1, 1, 1])]
            (mkJ 0 [(0, SV.dat l), (3, SV.ptr 0 0), (4, SV.int IntKind.i64 i), (5, SV.int IntKind.i64 n)] 0 97))
          []
          [(0,
              OBlk.cells 67
                [SV.int IntKind.i64 e, SV.int IntKind.i64 s, SV.dat d, SV.int IntKind.i64 st, SV.int IntKind.i64 ap,
                  SV.int IntKind.i64 te, SV.int IntKind.i64 ts, SV.int IntKind.i64 tst, SV.int IntKind.i64 tap, SV.vec 1,
                  SV.vec 2, SV.lb true]),
            (1, OBlk.arr 3 (D.slc h1 1 r1)),
            (2,
              OBlk.arr 53 (D.slc (D.hd (hs 0 0)) 8 (List.append (D.rows (D.slc h2 8 r2)) (D.rows (D.slc none 0 [])))))])) := by kernel_rfl

theorem c3d_8 : goS Try.prog ctL (fun _ => false) [(38, 2), (38, 246), (8, 27)] 400 (C8 3 (.dat dm) l i n ⟨e0, s0, d0, st0, ap0⟩ ⟨te0, ts0, tst0, tap0⟩ ⟨e, s, d, st, ap⟩ ⟨te, ts, tst, tap⟩ h1 h2 r1 r2) =
  Tree.need
    (D.sz (D.slc h2 8 r2) = 8 ∧
      D.Fits dm 8 ∧
        (D.len (D.slc h2 8 r2) + D.len dm) * 96 ≤ 140737488355328 ∧
          D.len (D.slc h2 8 r2) + D.len dm ≤ 9223372036854775807)
    (Tree.all fun hs =>
      Tree.leaf
        (Conf.mk
          (SFrm.mk 8 none none
            [Item.code (cAt Try.prog 8 [1, 1, 1, 0, 1, 0, 0, 1, 0, 0, 1, 1, 0, 0]),
              Item.code (cAt Try.prog 8 [1, 1, 1, 0, 1, 0, 0, 1, 0, 0, 1, 1, 0, 1]),
              Item.code (cAt Try.prog 8 [1, 1, 1, 0, 1, 0, 0, 1, 0, 0, 1, 1, 1]), Item.inBlock 1,
              Item.code (cAt Try.prog 8 [1, 1, 1, 0, 1, 0, 0, 1, 1]), Item.inLoop (cAt Try.prog 8 [1, 1, 1, 0, 1, 0, 0]),
              Item.inBlock 0, Item.code (cAt Try.prog 8 [1, 1, 1, 1])]
            (mkJ 0 [(0, SV.dat l), (3, SV.ptr 0 0), (4, SV.int IntKind.i64 i), (5, SV.int IntKind.i64 n)] 0 97))
          []
          [(0,
              OBlk.cells 67
                [SV.int IntKind.i64 e, SV.int IntKind.i64 s, SV.dat d, SV.int IntKind.i64 st, SV.int IntKind.i64 ap,
                  SV.int IntKind.i64 te, SV.int IntKind.i64 ts, SV.int IntKind.i64 tst, SV.int IntKind.i64 tap, SV.vec 1,
                  SV.vec 2, SV.lb true]),
            (1, OBlk.arr 3 (D.slc h1 1 r1)),
            (2, OBlk.arr 53 (D.slc (D.hd (hs 0 0)) 8 (List.append (D.rows (D.slc h2 8 r2)) (D.rows dm))))])) := by kernel_rfl

theorem c5d_8 : goS Try.prog ctL (fun _ => false) [(38, 2), (38, 246), (8, 27)] 400 (C8 5 (.dat dm) l i n ⟨e0, s0, d0, st0, ap0⟩ ⟨te0, ts0, tst0, tap0⟩ ⟨e, s, d, st, ap⟩ ⟨te, ts, tst, tap⟩ h1 h2 r1 r2) =
  Tree.need
    (D.sz (D.slc h2 8 r2) = 8 ∧
      D.Fits dm 8 ∧
        (D.len (D.slc h2 8 r2) + D.len dm) * 96 ≤ 140737488355328 ∧
          D.len (D.slc h2 8 r2) + D.len dm ≤ 9223372036854775807)
    (Tree.all fun hs =>
      Tree.leaf
        (Conf.mk
          (SFrm.mk 8 none none
            [Item.code (cAt Try.prog 8 [1, 1, 1, 0, 1, 0, 0, 1, 0, 0, 1, 1, 0, 0]),
              Item.code (cAt Try.prog 8 [1, 1, 1, 0, 1, 0, 0, 1, 0, 0, 1, 1, 0, 1]),
              Item.code (cAt Try.prog 8 [1, 1, 1, 0, 1, 0, 0, 1, 0, 0, 1, 1, 1]), Item.inBlock 1,
              Item.code (cAt Try.prog 8 [1, 1, 1, 0, 1, 0, 0, 1, 1]), Item.inLoop (cAt Try.prog 8 [1, 1, 1, 0, 1, 0, 0]),
              Item.inBlock 0, Item.code (cAt Try.prog 8 [1, 1, 1, 1])]
            (mkJ 0 [(0, SV.dat l), (3, SV.ptr 0 0), (4, SV.int IntKind.i64 i), (5, SV.int IntKind.i64 n)] 0 97))
          []
          [(0,
              OBlk.cells 67
                [SV.int IntKind.i64 e, SV.int IntKind.i64 s, SV.dat d, SV.int IntKind.i64 st, SV.int IntKind.i64 ap,
                  SV.int IntKind.i64 te, SV.int IntKind.i64 ts, SV.int IntKind.i64 tst, SV.int IntKind.i64 tap, SV.vec 1,
                  SV.vec 2, SV.lb true]),
            (1, OBlk.arr 3 (D.slc h1 1 r1)),
            (2, OBlk.arr 53 (D.slc (D.hd (hs 0 0)) 8 (List.append (D.rows (D.slc h2 8 r2)) (D.rows dm))))])) := by kernel_rfl

end
end Go.Proofs.Ytnfkkmdbaknnlaa
end
section
/- Layer 32: what holds in every play. -/
open Go
namespace Sx

theorem asc_iff : ∀ (a : Int) (l : List Int), asc a l = true ↔ (∀ x, x ∈ l → a < x ∧ x ≤ 1073741824) ∧ l.Pairwise (· < ·)
  | a, [] => by simp [asc]
  | a, x :: r => by
    simp only [asc, Bool.and_eq_true, decide_eq_true_eq, asc_iff x r, List.mem_cons, forall_eq_or_imp, List.pairwise_cons]
    constructor
    · rintro ⟨⟨h1, h2⟩, h3, h4⟩
      exact ⟨⟨⟨h1, h2⟩, fun y hy => ⟨by have := (h3 y hy).1; omega, (h3 y hy).2⟩⟩, fun y hy => (h3 y hy).1, h4⟩
    · rintro ⟨⟨⟨h1, h2⟩, h3⟩, h4, h5⟩
      exact ⟨⟨h1, h2⟩, fun y hy => ⟨h4 y hy, (h3 y hy).2⟩, h5⟩

/-- A source in order. -/
structure SrcOk (s : Src) : Prop where
  e0 : 0 ≤ s.epoch
  e1 : s.epoch ≤ 1073741824
  site : s.site = 2
  a0 : 0 ≤ s.applied
  a1 : s.applied ≤ 1073741824
  len : s.offered.length ≤ 1024
  low : ∀ x, x ∈ s.offered → s.applied < x ∧ x ≤ 1073741824
  up : s.offered.Pairwise (· < ·)
  st : s.stored = s.applied ∨ s.stored ∈ s.offered

theorem checkSource_ok {s : Src} (h : SrcOk s) : checkSource s = 0 := by
  unfold checkSource okRight okTime okSite
  rw [if_neg (by simp [h.e0, h.e1, h.site, h.a0, h.a1]), if_neg (by have := h.len; omega), if_neg (by simp [(asc_iff s.applied s.offered).2 ⟨h.low, h.up⟩])]
  rw [if_neg]
  rintro ⟨h1, h2⟩
  rcases h.st with h3 | h3
  · exact h1 h3
  · exact h2 h3

structure TgtOk (t : Tgt) : Prop where
  e0 : 0 ≤ t.epoch
  e1 : t.epoch ≤ 1073741824
  site : t.site = 2
  a0 : 0 ≤ t.applied
  a1 : t.applied ≤ t.stored
  s1 : t.stored ≤ 1073741824

theorem checkTarget_ok {t : Tgt} (h : TgtOk t) : checkTarget t = 0 := by
  unfold checkTarget okTime okSite
  rw [if_neg (by simp [h.e0, h.e1, h.site]), if_neg]
  have := h.a0; have := h.a1; have := h.s1
  omega

/-- One step of a play. -/
inductive StepTo (s : Src) (t : Tgt) (sent : List Msg) : Src → Tgt → List Msg → Prop
  | none : StepTo s t sent s t []
  | offer (c : Int) (h : c = lastOf s.applied s.offered + 1 ∨ c = lastOf s.applied s.offered + 2) (he : (offer s c).2.2 = 0) : StepTo s t sent (offer s c).1 t (offer s c).2.1
  | store (c : Int) (h : c ∈ s.offered) (h1 : t.stored < c) (h2 : s.epoch = t.epoch) : StepTo s t sent s (store t c).1 (store t c).2.1
  | apply (c : Int) (h : c ∈ s.offered) (h1 : t.applied < c) (h2 : c ≤ t.stored) : StepTo s t sent s (applyT t c).1 (applyT t c).2.1
  | learn (m : Msg) (h : m ∈ sent) : StepTo s t sent (learn s m).1 t (learn s m).2
  | answer (m : Msg) (h : m ∈ sent) : StepTo s t sent s (answer t m).1 (answer t m).2
  | resend : StepTo s t sent s t (resend s)
  | fresh : StepTo s t sent (newSource (t.epoch + 1) 2 t.applied).1 t []

/-- What is known of a message. -/
def MsgOk (s : Src) (t : Tgt) (m : Msg) : Prop :=
  m.values = [] ∧ m.body = [] ∧ 0 ≤ m.epoch ∧
  (((m.kind = 8 ∨ m.kind = 10) ∧ m.frm = 0 ∧ m.to = 2 ∧ m.epoch ≤ s.epoch) ∨
   ((m.kind = 9 ∨ m.kind = 11 ∨ m.kind = 12) ∧ m.frm = 2 ∧ m.to = 0 ∧ m.epoch ≤ t.epoch ∧ (m.kind = 9 → m.epoch = t.epoch → m.value ≤ t.stored) ∧ (m.kind = 11 → m.value ≤ t.applied)))

structure Inv (j : Nat) (s : Src) (t : Tgt) (sent : List Msg) : Prop where
  sok : SrcOk s
  tok : TgtOk t
  ep1 : t.epoch ≤ s.epoch
  ep2 : s.epoch ≤ t.epoch + 1
  ep3 : s.epoch ≤ j + 1
  ap : s.applied ≤ t.applied
  st1 : s.epoch = t.epoch → s.stored ≤ t.stored
  st2 : s.epoch ≠ t.epoch → s.stored = s.applied
  of1 : ∀ c, c ∈ s.offered → c ≤ 3 + 2 * j
  of2 : s.offered.length ≤ j
  ts : t.stored ≤ 3 + 2 * j
  ms : ∀ m, m ∈ sent → MsgOk s t m
  ml : sent.length ≤ 64 * j

theorem inv_begin : Inv 0 ⟨1, 2, [], 3, 3⟩ ⟨1, 2, 3, 3⟩ [] := by
  refine ⟨⟨by decide, by decide, rfl, by decide, by decide, by simp, by simp, by simp, .inl rfl⟩, ⟨by decide, by decide, rfl, by decide, by decide, by decide⟩, by decide, by decide, by decide, by decide, by decide, by simp, by simp, by simp, by decide, by simp, by simp⟩

theorem lastOf_mem {a : Int} {l : List Int} : lastOf a l = a ∨ lastOf a l ∈ l := by
  unfold lastOf
  cases l with
  | nil => exact .inl rfl
  | cons x r => right; rw [List.getLastD_cons]; cases r with
                | nil => simp
                | cons y q => rw [List.getLastD_eq_getLast?, List.getLast?_eq_some_getLast (by simp)]; simp

theorem lastOf_ge {a : Int} {l : List Int} (h1 : ∀ x, x ∈ l → a < x) (h2 : l.Pairwise (· < ·)) : a ≤ lastOf a l ∧ ∀ x, x ∈ l → x ≤ lastOf a l := by
  unfold lastOf
  induction l generalizing a with
  | nil => simp
  | cons x r ih =>
    rw [List.getLastD_cons]
    rw [List.pairwise_cons] at h2
    obtain ⟨i1, i2⟩ := ih (a := x) (fun y hy => h2.1 y hy) h2.2
    have := h1 x (by simp)
    refine ⟨by omega, fun y hy => ?_⟩
    rcases List.mem_cons.1 hy with rfl | hy
    · exact i1
    · exact i2 y hy

theorem MsgOk.mono {s s' : Src} {t t' : Tgt} {m : Msg} (h : MsgOk s t m) (h1 : s.epoch ≤ s'.epoch) (h2 : t.epoch = t'.epoch ∧ t.stored ≤ t'.stored ∨ t.epoch < t'.epoch) (h3 : t.applied ≤ t'.applied) : MsgOk s' t' m := by
  obtain ⟨a, b, c, h⟩ := h
  refine ⟨a, b, c, ?_⟩
  rcases h with ⟨k, f, o, e⟩ | ⟨k, f, o, e, v1, v2⟩
  · exact .inl ⟨k, f, o, by omega⟩
  · refine .inr ⟨k, f, o, by omega, fun hk he => ?_, fun hk => by have := v2 hk; omega⟩
    have := v1 hk
    omega

/-- What a step brings. -/
structure Brings (s : Src) (t : Tgt) (s' : Src) (t' : Tgt) (m : List Msg) : Prop where
  ta : t.applied ≤ t'.applied
  sa : s.applied ≤ s'.applied
  te : t.epoch ≤ t'.epoch
  cm : ∀ x, x ∈ m → x.kind = 10 → x.epoch = t'.epoch → x.number ≤ t'.stored

theorem inv_step {j : Nat} (hj : j ≤ 60) {s s' : Src} {t t' : Tgt} {sent m : List Msg} (h : Inv j s t sent) (hs : StepTo s t sent s' t' m) : Inv (j + 1) s' t' (sent ++ m) ∧ Brings s t s' t' m := by
  obtain ⟨sok, tok, ep1, ep2, ep3, ap, st1, st2, of1, of2, ts, ms, ml⟩ := h
  have cs := checkSource_ok sok
  have ct := checkTarget_ok tok
  have hM : ∀ x, x ∈ s.offered → x ≤ 1073741824 := fun x hx => (sok.low x hx).2
  have keep : ∀ {s1 t1}, s.epoch ≤ s1.epoch → (t.epoch = t1.epoch ∧ t.stored ≤ t1.stored ∨ t.epoch < t1.epoch) → t.applied ≤ t1.applied → ∀ x, x ∈ sent → MsgOk s1 t1 x := fun h1 h2 h3 x hx => (ms x hx).mono h1 h2 h3
  -- nothing happens
  have idle : Inv (j + 1) s t (sent ++ []) ∧ Brings s t s t [] := by
    refine ⟨⟨sok, tok, ep1, ep2, by omega, ap, st1, st2, fun c hc => by have := of1 c hc; omega, by omega, by omega, by simpa using ms, by simp; omega⟩, ⟨by omega, by omega, by omega, by simp⟩⟩
  cases hs with
  | none => exact idle
  | offer c hc he =>
    have hge := lastOf_ge (a := s.applied) (l := s.offered) (fun x hx => (sok.low x hx).1) sok.up
    unfold offer at he ⊢
    rw [if_neg (by simp [cs])] at he ⊢
    split at he
    · simp at he
    · rename_i h1
      split at he
      · simp at he
      · rename_i h2
        split at he
        · simp at he
        · rename_i h3
          rw [if_neg h1, if_neg h2, if_neg h3]
          have hcl : c ≤ 3 + 2 * ((j + 1 : Nat) : Int) := by
            have : lastOf s.applied s.offered ≤ 3 + 2 * (j : Int) := by
              rcases lastOf_mem (a := s.applied) (l := s.offered) with h4 | h4
              · rw [h4]; have := tok.a1; omega
              · exact of1 _ h4
            omega
          refine ⟨⟨⟨sok.e0, sok.e1, sok.site, sok.a0, sok.a1, ?_, ?_, ?_, ?_⟩, tok, ep1, ep2, by simp only; omega, ap, st1, st2, ?_, ?_, by omega, ?_, ?_⟩, ⟨by omega, by simp, by omega, ?_⟩⟩
          · simp only [List.length_append, List.length_singleton]; omega
          · intro x hx
            rcases List.mem_append.1 hx with hx | hx
            · exact sok.low x hx
            · rw [List.mem_singleton.1 hx]; exact ⟨by have := hge.1; simp only; omega, by omega⟩
          · rw [List.pairwise_append]
            refine ⟨sok.up, by simp, fun x hx y hy => ?_⟩
            rw [List.mem_singleton.1 hy]
            have := hge.2 x hx
            omega
          · exact sok.st.imp id (fun h => List.mem_append_left _ h)
          · intro x hx
            rcases List.mem_append.1 hx with hx | hx
            · have := of1 x hx; omega
            · rw [List.mem_singleton.1 hx]; exact hcl
          · simp only [List.length_append, List.length_singleton]; omega
          · intro x hx
            rcases List.mem_append.1 hx with hx | hx
            · exact ms x hx
            · rw [List.mem_singleton.1 hx]
              exact ⟨rfl, rfl, sok.e0, .inl ⟨.inl rfl, rfl, sok.site, Int.le_refl _⟩⟩
          · simp only [List.length_append, List.length_singleton]; omega
          · intro x hx hk
            rw [List.mem_singleton.1 hx] at hk
            simp [toTarget] at hk
  | store c hc h1 h2 =>
    have hcM := hM c hc
    unfold store
    rw [if_neg (by simp [ct]), if_neg (by omega), if_neg (by omega)]
    have := of1 c hc
    have := tok.a1
    refine ⟨⟨sok, ⟨tok.e0, tok.e1, tok.site, tok.a0, by simp only; omega, hcM⟩, ep1, ep2, by omega, ap, fun h => by simp only; have := st1 h; omega, st2, fun x hx => by have := of1 x hx; omega, by omega, by simp only; omega, ?_, ?_⟩, ⟨by simp, by omega, by simp, ?_⟩⟩
    · intro x hx
      rcases List.mem_append.1 hx with hx | hx
      · refine keep (s1 := s) (t1 := ⟨t.epoch, t.site, c, t.applied⟩) (Int.le_refl _) (.inl ⟨rfl, ?_⟩) (Int.le_refl _) x hx
        simp only; omega
      · rw [List.mem_singleton.1 hx]
        exact ⟨rfl, rfl, tok.e0, .inr ⟨.inl rfl, tok.site, rfl, Int.le_refl _, fun _ _ => Int.le_refl _, fun h => by simp [toSource] at h⟩⟩
    · simp only [List.length_append, List.length_singleton]; omega
    · intro x hx hk
      rw [List.mem_singleton.1 hx] at hk
      simp [toSource] at hk
  | apply c hc h1 h2 =>
    unfold applyT
    rw [if_neg (by simp [ct]), if_neg (by omega), if_neg (by omega)]
    have := tok.a0
    refine ⟨⟨sok, ⟨tok.e0, tok.e1, tok.site, by simp only; omega, h2, tok.s1⟩, ep1, ep2, by omega, by simp only; omega, st1, st2, fun x hx => by have := of1 x hx; omega, by omega, by simp only; omega, ?_, ?_⟩, ⟨by simp only; omega, by omega, by simp, ?_⟩⟩
    · intro x hx
      rcases List.mem_append.1 hx with hx | hx
      · refine keep (s1 := s) (t1 := ⟨t.epoch, t.site, t.stored, c⟩) (Int.le_refl _) (.inl ⟨rfl, Int.le_refl _⟩) ?_ x hx
        simp only; omega
      · rw [List.mem_singleton.1 hx]
        exact ⟨rfl, rfl, tok.e0, .inr ⟨.inr (.inl rfl), tok.site, rfl, Int.le_refl _, fun h => by simp [toSource] at h, fun _ => Int.le_refl _⟩⟩
    · simp only [List.length_append, List.length_singleton]; omega
    · intro x hx hk
      rw [List.mem_singleton.1 hx] at hk
      simp [toSource] at hk
  | learn m hm =>
    have hmo := ms m hm
    unfold learn
    split
    · exact idle
    · rename_i hn
      split
      · exact idle
      · rename_i hk
        simp only [not_or, Int.not_lt, Decidable.not_not] at hn
        obtain ⟨hn1, hn2, hn3, hn4⟩ := hn
        obtain ⟨_, _, _, hmo⟩ := hmo
        rcases hmo with ⟨_, hf, _⟩ | ⟨hkk, hf, ho, he, hv1, hv2⟩
        · rw [hf, sok.site] at hn2; simp at hn2
        · have hee : m.epoch = s.epoch := by omega
          have het : s.epoch = t.epoch := by omega
          rw [if_neg (by omega)]
          split
          · rename_i h9
            split
            · rename_i hv
              have hvt := hv1 h9 (by omega)
              have hvM := hM _ hv.1
              refine ⟨⟨⟨sok.e0, sok.e1, sok.site, sok.a0, sok.a1, sok.len, sok.low, sok.up, .inr hv.1⟩, tok, ep1, ep2, by simp only; omega, ap, fun _ => hvt, fun h => absurd het h, fun x hx => by have := of1 x hx; omega, by simp only; omega, by omega, ?_, ?_⟩, ⟨by omega, by simp, by omega, ?_⟩⟩
              · intro x hx
                rcases List.mem_append.1 hx with hx | hx
                · exact ms x hx
                · rw [List.mem_singleton.1 hx]
                  exact ⟨rfl, rfl, sok.e0, .inl ⟨.inr rfl, rfl, sok.site, Int.le_refl _⟩⟩
              · simp only [List.length_append, List.length_singleton]; omega
              · intro x hx _ _
                rw [List.mem_singleton.1 hx]
                exact hvt
            · exact idle
          · split
            · rename_i h11
              split
              · rename_i hv
                have hva := hv2 h11
                have hvM := hM _ hv
                have hvl := (sok.low _ hv).1
                have := sok.a0
                have := tok.a1
                refine ⟨⟨⟨sok.e0, sok.e1, sok.site, by simp only; omega, hvM, ?_, ?_, ?_, ?_⟩, tok, ep1, ep2, by simp only; omega, hva, fun h => ?_, fun h => absurd het h, ?_, ?_, by omega, ?_, ?_⟩, ⟨by omega, by simp only; omega, by omega, by simp⟩⟩
                · have := List.length_filter_le (fun x => decide (x > m.value)) s.offered
                  have := sok.len
                  simp only; omega
                · intro x hx
                  obtain ⟨h1, h2⟩ := List.mem_filter.1 hx
                  exact ⟨by simpa using h2, hM x h1⟩
                · exact sok.up.filter _
                · simp only
                  by_cases hlt : s.stored ≤ m.value
                  · left; omega
                  · right
                    rw [Int.max_eq_left (by omega)]
                    rcases sok.st with h1 | h1
                    · omega
                    · exact List.mem_filter.2 ⟨h1, by simp; omega⟩
                · have := st1 h
                  simp only; omega
                · intro x hx
                  have := of1 x (List.mem_filter.1 hx).1
                  omega
                · have := List.length_filter_le (fun x => decide (x > m.value)) s.offered
                  simp only; omega
                · intro x hx
                  rw [List.append_nil] at hx
                  exact keep (Int.le_refl _) (.inl ⟨rfl, Int.le_refl _⟩) (Int.le_refl _) x hx
                · simp; omega
              · exact idle
            · exact idle
  | answer m hm =>
    have hmo := ms m hm
    unfold answer
    split
    · exact idle
    · rename_i hn
      simp only [not_or, Decidable.not_not] at hn
      obtain ⟨hn1, hn2, hn3, hn4⟩ := hn
      obtain ⟨_, _, he0, hmo⟩ := hmo
      rcases hmo with ⟨hk, hf, ho, he⟩ | ⟨_, _, ho, _⟩
      · split
        · -- an older epoch: it is refused
          show Inv (j + 1) s t (sent ++ [toSource t 12 0]) ∧ Brings s t s t [toSource t 12 0]
          refine ⟨⟨sok, tok, ep1, ep2, by omega, ap, st1, st2, fun c hc => by have := of1 c hc; omega, by omega, by omega, ?_, by simp; omega⟩, ⟨by omega, by omega, by omega, ?_⟩⟩
          · intro x hx
            rcases List.mem_append.1 hx with hx | hx
            · exact ms x hx
            · rw [List.mem_singleton.1 hx]
              exact ⟨rfl, rfl, tok.e0, .inr ⟨.inr (.inr rfl), tok.site, rfl, Int.le_refl _, fun h => by simp [toSource] at h, fun h => by simp [toSource] at h⟩⟩
          · intro x hx hk
            rw [List.mem_singleton.1 hx] at hk
            simp [toSource] at hk
        · rename_i hlt
          have hgo : ∀ t1 : Tgt, (t1 = t ∨ (t.epoch < m.epoch ∧ t1 = ⟨m.epoch, t.site, t.applied, t.applied⟩)) →
              (∀ k v : Int, (k = 9 ∧ v = t1.stored ∨ k = 11 ∧ v = t1.applied) → Inv (j + 1) s t1 (sent ++ [toSource t1 k v]) ∧ Brings s t s t1 [toSource t1 k v]) := by
            intro t1 ht1 k v hkv
            have hk10 : k ≠ 10 := by omega
            have hnew : ∀ x, x ∈ [toSource t1 k v] → x.kind = 10 → x.epoch = t1.epoch → x.number ≤ t1.stored := by
              intro x hx hk
              rw [List.mem_singleton.1 hx] at hk
              exact absurd hk hk10
            rcases ht1 with rfl | ⟨hgt, rfl⟩
            · refine ⟨⟨sok, tok, ep1, ep2, by omega, ap, st1, st2, fun c hc => by have := of1 c hc; omega, by omega, by omega, ?_, by simp; omega⟩, ⟨by omega, by omega, by omega, hnew⟩⟩
              intro x hx
              rcases List.mem_append.1 hx with hx | hx
              · exact ms x hx
              · rw [List.mem_singleton.1 hx]
                refine ⟨rfl, rfl, tok.e0, .inr ⟨?_, tok.site, rfl, Int.le_refl _, fun h _ => ?_, fun h => ?_⟩⟩
                · simp only [toSource]; omega
                · simp only [toSource] at h ⊢; omega
                · simp only [toSource] at h ⊢; omega
            · have hes : m.epoch = s.epoch := by omega
              have := tok.a0; have := tok.a1; have := tok.s1
              have hst := st2 (by omega)
              refine ⟨⟨sok, ⟨by simp only; omega, by simp only; have := sok.e1; omega, tok.site, tok.a0, Int.le_refl _, by simp only; omega⟩, by simp only; omega, by simp only; omega, by omega, ap, fun _ => by simp only; omega, fun h => absurd hes.symm h, fun c hc => by have := of1 c hc; omega, by omega, by simp only; omega, ?_, by simp; omega⟩, ⟨Int.le_refl _, Int.le_refl _, by simp only; omega, hnew⟩⟩
              intro x hx
              rcases List.mem_append.1 hx with hx | hx
              · exact keep (s1 := s) (t1 := ⟨m.epoch, t.site, t.applied, t.applied⟩) (Int.le_refl _) (.inr hgt) (Int.le_refl _) x hx
              · rw [List.mem_singleton.1 hx]
                have hv : v = t.applied := by rcases hkv with ⟨_, h⟩ | ⟨_, h⟩ <;> exact h
                refine ⟨rfl, rfl, by simp only [toSource]; omega, .inr ⟨?_, tok.site, rfl, Int.le_refl _, fun h _ => ?_, fun h => ?_⟩⟩
                · simp only [toSource]; omega
                · show v ≤ t.applied; omega
                · show v ≤ t.applied; omega
          by_cases hgt : m.epoch > t.epoch
          · simp only [if_pos hgt]
            split
            · exact hgo _ (.inr ⟨hgt, rfl⟩) 9 _ (.inl ⟨rfl, rfl⟩)
            · exact hgo _ (.inr ⟨hgt, rfl⟩) 11 _ (.inr ⟨rfl, rfl⟩)
          · simp only [if_neg hgt]
            split
            · exact hgo _ (.inl rfl) 9 _ (.inl ⟨rfl, rfl⟩)
            · exact hgo _ (.inl rfl) 11 _ (.inr ⟨rfl, rfl⟩)
      · rw [ho, tok.site] at hn2; simp at hn2
  | resend =>
    have hrl : (resend s).length ≤ s.offered.length + 1 := by
      unfold resend
      rw [if_neg (by simp [cs])]
      have := List.length_filter_le (fun x => decide (x > s.stored)) s.offered
      rw [List.length_append, List.length_map]
      split
      · simp only [List.length_singleton]; omega
      · simp only [List.length_nil]; omega
    have hrm : ∀ x, x ∈ resend s → (x = toTarget s 10 s.stored ∨ ∃ c, x = toTarget s 8 c) := by
      intro x hx
      unfold resend at hx
      rw [if_neg (by simp [cs])] at hx
      rcases List.mem_append.1 hx with hx | hx
      · split at hx
        · exact .inl (List.mem_singleton.1 hx)
        · cases hx
      · obtain ⟨c, _, rfl⟩ := List.mem_map.1 hx
        exact .inr ⟨c, rfl⟩
    refine ⟨⟨sok, tok, ep1, ep2, by omega, ap, st1, st2, fun c hc => by have := of1 c hc; omega, by omega, by omega, ?_, ?_⟩, ⟨by omega, by omega, by omega, ?_⟩⟩
    · intro x hx
      rcases List.mem_append.1 hx with hx | hx
      · exact ms x hx
      · rcases hrm x hx with rfl | ⟨c, rfl⟩
        · exact ⟨rfl, rfl, sok.e0, .inl ⟨.inr rfl, rfl, sok.site, Int.le_refl _⟩⟩
        · exact ⟨rfl, rfl, sok.e0, .inl ⟨.inl rfl, rfl, sok.site, Int.le_refl _⟩⟩
    · rw [List.length_append]; omega
    · intro x hx hk he
      rcases hrm x hx with rfl | ⟨c, rfl⟩
      · exact st1 he
      · simp [toTarget] at hk
  | fresh =>
    have := tok.e0; have := tok.a0; have := tok.a1; have := tok.s1
    have hep : t.epoch + 1 ≤ 1073741824 := by omega
    have hns : newSource (t.epoch + 1) 2 t.applied = (⟨t.epoch + 1, 2, [], t.applied, t.applied⟩, 0) := by
      unfold newSource okRight okTime okSite
      rw [if_pos]
      simp
      omega
    rw [hns]
    refine ⟨⟨⟨by simp only; omega, hep, rfl, tok.a0, by simp only; omega, by simp, by simp, by simp, .inl rfl⟩, tok, by simp only; omega, by simp, by simp only; omega, Int.le_refl _, fun h => by simp only at h; omega, fun _ => rfl, by simp, by simp, by omega, ?_, by simp; omega⟩, ⟨by omega, ap, by omega, by simp⟩⟩
    intro x hx
    rw [List.append_nil] at hx
    exact keep (by simp only; omega) (.inl ⟨rfl, Int.le_refl _⟩) (Int.le_refl _) x hx
end Sx
end
