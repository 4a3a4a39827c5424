/- Layer 21: the reference's Collect, walked. -/
import Derived.KernelRfl
import Derived.Test.YtoechplbhbalaaaBW6gtoBW7g
import Derived.Test.YtoechplbhbalaaaBW8gtoSp
import Derived.Test.YtoechplbhbalaaaBW9g
import Derived.Test.YtoechplbhbalaaaOvtoM22
set_option linter.all false
section
open Go Go.Proofs Sx
namespace Go.Proofs.Ytoechplbhbalaaa
set_option maxRecDepth 100000
set_option maxHeartbeats 0
section
variable (x y n j now patience : Int) (a b d s wt hd : D) (frozen : Bool) (mr mp mt mi mu : Int) (mk mf mto mn mv me : Int) (ml mb : D) (nodes round phase deadline : Int) (valid : Bool)
theorem coll2_in : exec Try.prog ctM 800 (entry Try.prog 28 [.agg [.int .i64 nodes, .int .i64 round, .int .i64 phase, .int .i64 deadline, .dat d, .dat s, .bool valid], .int .i64 now, .agg [.int .i64 mk, .int .i64 mf, .int .i64 mto, .int .i64 mn, .int .i64 mv, .int .i64 me, .dat ml, .dat mb]]) =
  Tree.need (D.Is Int d ∧ D.Is Bool s)
    (Tree.br (checkCo (CoD.co (CoD.mk nodes round phase deadline d s valid)) != 0)
      (Tree.ret
        (SV.tup
          [SV.agg
              [SV.int IntKind.i64 nodes, SV.int IntKind.i64 round, SV.int IntKind.i64 phase, SV.int IntKind.i64 deadline,
                SV.dat d, SV.dat s, SV.bool valid],
            SV.nils]))
      (Tree.br (decide (phase = 0))
        (Tree.ret
          (SV.tup
            [SV.agg
                [SV.int IntKind.i64 nodes, SV.int IntKind.i64 round, SV.int IntKind.i64 phase,
                  SV.int IntKind.i64 deadline, SV.dat d, SV.dat s, SV.bool valid],
              SV.nils]))
        (Tree.br (decide (now ≥ deadline))
          (Tree.ret
            (SV.tup
              [SV.agg
                  [SV.int IntKind.i64 nodes, SV.int IntKind.i64 round, SV.int IntKind.i64 phase,
                    SV.int IntKind.i64 deadline, SV.dat d, SV.dat s, SV.bool valid],
                SV.nils]))
          (Tree.br (decide (mf < 0))
            (Tree.ret
              (SV.tup
                [SV.agg
                    [SV.int IntKind.i64 nodes, SV.int IntKind.i64 round, SV.int IntKind.i64 phase,
                      SV.int IntKind.i64 deadline, SV.dat d, SV.dat s, SV.bool valid],
                  SV.nils]))
            (Tree.br (decide (mf ≥ nodes))
              (Tree.ret
                (SV.tup
                  [SV.agg
                      [SV.int IntKind.i64 nodes, SV.int IntKind.i64 round, SV.int IntKind.i64 phase,
                        SV.int IntKind.i64 deadline, SV.dat d, SV.dat s, SV.bool valid],
                    SV.nils]))
              (Tree.br (mn != round)
                (Tree.ret
                  (SV.tup
                    [SV.agg
                        [SV.int IntKind.i64 nodes, SV.int IntKind.i64 round, SV.int IntKind.i64 phase,
                          SV.int IntKind.i64 deadline, SV.dat d, SV.dat s, SV.bool valid],
                      SV.nils]))
                (Tree.all fun hs =>
                  Tree.need
                    (D.sz (D.slc (D.hd (hs 0 0)) 1 []) = 1 ∧
                      D.Fits d 1 ∧
                        (D.len (D.slc (D.hd (hs 0 0)) 1 []) + D.len d) * 8 ≤ 140737488355328 ∧
                          D.len (D.slc (D.hd (hs 0 0)) 1 []) + D.len d ≤ 9223372036854775807)
                    (Tree.all fun hs_1 =>
                      Tree.all fun hs_2 =>
                        Tree.need
                          (D.sz (D.slc (D.hd (hs_2 0 0)) 1 []) = 1 ∧
                            D.Fits s 1 ∧
                              (D.len (D.slc (D.hd (hs_2 0 0)) 1 []) + D.len s) * 1 ≤ 140737488355328 ∧
                                D.len (D.slc (D.hd (hs_2 0 0)) 1 []) + D.len s ≤ 9223372036854775807)
                          (Tree.all fun hs_3 =>
                            Tree.br (decide (phase = 1))
                              (Tree.br (decide (mk = 2))
                                (Tree.br (decide (mv ≥ 0))
                                  (Tree.br (decide (mv ≤ 4096))
                                    (Tree.need (0 ≤ mf ∧ mf < (↑(D.len s) : Int) ∧ D.sz s = 1)
                                      (Tree.need (D.HasCell s (Int.toNat mf) 0 FT.bool)
                                        (Tree.br (!D.getBool s (Int.toNat mf) 0)
                                          (Tree.need
                                            (0 ≤ mf ∧
                                              mf <
                                                  (↑(D.len
                                                        (D.slc (D.hd (hs_1 0 0)) 1
                                                          (List.append (D.rows (D.slc (D.hd (hs 0 0)) 1 []))
                                                            (D.rows d)))) :
                                                    Int) ∧
                                                D.sz
                                                    (D.slc (D.hd (hs_1 0 0)) 1
                                                      (List.append (D.rows (D.slc (D.hd (hs 0 0)) 1 [])) (D.rows d))) =
                                                  1)
                                            (Tree.need
                                              (Int.toNat mf <
                                                  D.len
                                                    (D.slc (D.hd (hs_1 0 0)) 1
                                                      (List.append (D.rows (D.slc (D.hd (hs 0 0)) 1 [])) (D.rows d))) ∧
                                                1 ≤
                                                    D.sz
                                                      (D.slc (D.hd (hs_1 0 0)) 1
                                                        (List.append (D.rows (D.slc (D.hd (hs 0 0)) 1 [])) (D.rows d))) ∧
                                                  D.sz
                                                      (D.slc (D.hd (hs_1 0 0)) 1
                                                        (List.append (D.rows (D.slc (D.hd (hs 0 0)) 1 [])) (D.rows d))) =
                                                    1)
                                              (Tree.need
                                                (0 ≤ mf ∧
                                                  mf <
                                                      (↑(D.len
                                                            (D.slc (D.hd (hs_3 0 0)) 1
                                                              (List.append (D.rows (D.slc (D.hd (hs_2 0 0)) 1 []))
                                                                (D.rows s)))) :
                                                        Int) ∧
                                                    D.sz
                                                        (D.slc (D.hd (hs_3 0 0)) 1
                                                          (List.append (D.rows (D.slc (D.hd (hs_2 0 0)) 1 []))
                                                            (D.rows s))) =
                                                      1)
                                                (Tree.need
                                                  (Int.toNat mf <
                                                      D.len
                                                        (D.slc (D.hd (hs_3 0 0)) 1
                                                          (List.append (D.rows (D.slc (D.hd (hs_2 0 0)) 1 []))
                                                            (D.rows s))) ∧
                                                    1 ≤
                                                        D.sz
                                                          (D.slc (D.hd (hs_3 0 0)) 1
                                                            (List.append (D.rows (D.slc (D.hd (hs_2 0 0)) 1 []))
                                                              (D.rows s))) ∧
                                                      D.sz
                                                          (D.slc (D.hd (hs_3 0 0)) 1
                                                            (List.append (D.rows (D.slc (D.hd (hs_2 0 0)) 1 []))
                                                              (D.rows s))) =
                                                        1)
                                                  (Tree.need
                                                    (D.Is Bool
                                                        (D.setCells
                                                          (D.slc (D.hd (hs_3 0 0)) 1
                                                            (List.append (D.rows (D.slc (D.hd (hs_2 0 0)) 1 []))
                                                              (D.rows s)))
                                                          (Int.toNat mf) 0 [D.bool true]) ∧
                                                      D.len
                                                          (D.setCells
                                                            (D.slc (D.hd (hs_3 0 0)) 1
                                                              (List.append (D.rows (D.slc (D.hd (hs_2 0 0)) 1 []))
                                                                (D.rows s)))
                                                            (Int.toNat mf) 0 [D.bool true]) ≤
                                                        1048576)
                                                    (Tree.br
                                                      (List.all
                                                        (D.to Bool
                                                          (D.setCells
                                                            (D.slc (D.hd (hs_3 0 0)) 1
                                                              (List.append (D.rows (D.slc (D.hd (hs_2 0 0)) 1 []))
                                                                (D.rows s)))
                                                            (Int.toNat mf) 0 [D.bool true]))
                                                        id)
                                                      (Tree.all fun hs_4 =>
                                                        Tree.need
                                                          (0 ≤ nodes ∧
                                                            nodes = nodes ∧
                                                              (↑1 : Int) * nodes ≤ 281474976710656 ∧
                                                                nodes ≤ 9223372036854775807)
                                                          (Tree.all fun hs_5 =>
                                                            Tree.need (nodes ≤ 8)
                                                              (Tree.ret
                                                                (SV.tup
                                                                  [SV.agg
                                                                      [SV.int IntKind.i64 nodes, SV.int IntKind.i64 round,
                                                                        SV.int IntKind.i64 2, SV.int IntKind.i64 deadline,
                                                                        SV.dat
                                                                          (D.setCells
                                                                            (D.slc (D.hd (hs_1 0 0)) 1
                                                                              (List.append
                                                                                (D.rows (D.slc (D.hd (hs 0 0)) 1 []))
                                                                                (D.rows d)))
                                                                            (Int.toNat mf) 0 [D.int IntKind.i64 mv]),
                                                                        SV.dat
                                                                          (D.slc (D.hd (hs_4 2 0)) 1
                                                                            (List.replicate (Int.toNat nodes)
                                                                              [D.bool false])),
                                                                        SV.bool valid],
                                                                    SV.dat (D.like (hs_5 2 0) (msgsTo nodes round 3))]))))
                                                      (Tree.ret
                                                        (SV.tup
                                                          [SV.agg
                                                              [SV.int IntKind.i64 nodes, SV.int IntKind.i64 round,
                                                                SV.int IntKind.i64 phase, SV.int IntKind.i64 deadline,
                                                                SV.dat
                                                                  (D.setCells
                                                                    (D.slc (D.hd (hs_1 0 0)) 1
                                                                      (List.append (D.rows (D.slc (D.hd (hs 0 0)) 1 []))
                                                                        (D.rows d)))
                                                                    (Int.toNat mf) 0 [D.int IntKind.i64 mv]),
                                                                SV.dat
                                                                  (D.setCells
                                                                    (D.slc (D.hd (hs_3 0 0)) 1
                                                                      (List.append (D.rows (D.slc (D.hd (hs_2 0 0)) 1 []))
                                                                        (D.rows s)))
                                                                    (Int.toNat mf) 0 [D.bool true]),
                                                                SV.bool valid],
                                                            SV.nils]))))))))
                                          (Tree.br (decide (phase = 2))
                                            (Tree.br (decide (mk = 4))
                                              (Tree.br (mv != 1)
                                                (Tree.need
                                                  (D.Is Int
                                                      (D.slc (D.hd (hs_1 0 0)) 1
                                                        (List.append (D.rows (D.slc (D.hd (hs 0 0)) 1 [])) (D.rows d))) ∧
                                                    D.Is Bool
                                                        (D.slc (D.hd (hs_3 0 0)) 1
                                                          (List.append (D.rows (D.slc (D.hd (hs_2 0 0)) 1 []))
                                                            (D.rows s))) ∧
                                                      nodes ≤ 8)
                                                  (Tree.all fun hs_4 =>
                                                    Tree.ret
                                                      (SV.tup
                                                        [SV.agg
                                                            [SV.int IntKind.i64 nodes, SV.int IntKind.i64 round,
                                                              SV.int IntKind.i64 0, SV.int IntKind.i64 deadline,
                                                              SV.dat
                                                                (D.like (hs_4 0 0)
                                                                  (D.to Int
                                                                    (D.slc (D.hd (hs_1 0 0)) 1
                                                                      (List.append (D.rows (D.slc (D.hd (hs 0 0)) 1 []))
                                                                        (D.rows d))))),
                                                              SV.dat
                                                                (D.like (hs_4 0 1)
                                                                  (D.to Bool
                                                                    (D.slc (D.hd (hs_3 0 0)) 1
                                                                      (List.append (D.rows (D.slc (D.hd (hs_2 0 0)) 1 []))
                                                                        (D.rows s))))),
                                                              SV.bool false],
                                                          SV.dat (D.like (hs_4 0 2) (msgsTo nodes round 24))])))
                                                (Tree.need
                                                  (0 ≤ mf ∧
                                                    mf <
                                                        (↑(D.len
                                                              (D.slc (D.hd (hs_3 0 0)) 1
                                                                (List.append (D.rows (D.slc (D.hd (hs_2 0 0)) 1 []))
                                                                  (D.rows s)))) :
                                                          Int) ∧
                                                      D.sz
                                                          (D.slc (D.hd (hs_3 0 0)) 1
                                                            (List.append (D.rows (D.slc (D.hd (hs_2 0 0)) 1 []))
                                                              (D.rows s))) =
                                                        1)
                                                  (Tree.need
                                                    (Int.toNat mf <
                                                        D.len
                                                          (D.slc (D.hd (hs_3 0 0)) 1
                                                            (List.append (D.rows (D.slc (D.hd (hs_2 0 0)) 1 []))
                                                              (D.rows s))) ∧
                                                      1 ≤
                                                          D.sz
                                                            (D.slc (D.hd (hs_3 0 0)) 1
                                                              (List.append (D.rows (D.slc (D.hd (hs_2 0 0)) 1 []))
                                                                (D.rows s))) ∧
                                                        D.sz
                                                            (D.slc (D.hd (hs_3 0 0)) 1
                                                              (List.append (D.rows (D.slc (D.hd (hs_2 0 0)) 1 []))
                                                                (D.rows s))) =
                                                          1)
                                                    (Tree.need
                                                      (D.Is Bool
                                                          (D.setCells
                                                            (D.slc (D.hd (hs_3 0 0)) 1
                                                              (List.append (D.rows (D.slc (D.hd (hs_2 0 0)) 1 []))
                                                                (D.rows s)))
                                                            (Int.toNat mf) 0 [D.bool true]) ∧
                                                        D.len
                                                            (D.setCells
                                                              (D.slc (D.hd (hs_3 0 0)) 1
                                                                (List.append (D.rows (D.slc (D.hd (hs_2 0 0)) 1 []))
                                                                  (D.rows s)))
                                                              (Int.toNat mf) 0 [D.bool true]) ≤
                                                          1048576)
                                                      (Tree.br
                                                        (List.all
                                                          (D.to Bool
                                                            (D.setCells
                                                              (D.slc (D.hd (hs_3 0 0)) 1
                                                                (List.append (D.rows (D.slc (D.hd (hs_2 0 0)) 1 []))
                                                                  (D.rows s)))
                                                              (Int.toNat mf) 0 [D.bool true]))
                                                          id)
                                                        (Tree.ret
                                                          (SV.tup
                                                            [SV.agg
                                                                [SV.int IntKind.i64 nodes, SV.int IntKind.i64 round,
                                                                  SV.int IntKind.i64 0, SV.int IntKind.i64 deadline,
                                                                  SV.dat
                                                                    (D.slc (D.hd (hs_1 0 0)) 1
                                                                      (List.append (D.rows (D.slc (D.hd (hs 0 0)) 1 []))
                                                                        (D.rows d))),
                                                                  SV.dat
                                                                    (D.setCells
                                                                      (D.slc (D.hd (hs_3 0 0)) 1
                                                                        (List.append
                                                                          (D.rows (D.slc (D.hd (hs_2 0 0)) 1 []))
                                                                          (D.rows s)))
                                                                      (Int.toNat mf) 0 [D.bool true]),
                                                                  SV.lb true],
                                                              SV.nils]))
                                                        (Tree.ret
                                                          (SV.tup
                                                            [SV.agg
                                                                [SV.int IntKind.i64 nodes, SV.int IntKind.i64 round,
                                                                  SV.int IntKind.i64 phase, SV.int IntKind.i64 deadline,
                                                                  SV.dat
                                                                    (D.slc (D.hd (hs_1 0 0)) 1
                                                                      (List.append (D.rows (D.slc (D.hd (hs 0 0)) 1 []))
                                                                        (D.rows d))),
                                                                  SV.dat
                                                                    (D.setCells
                                                                      (D.slc (D.hd (hs_3 0 0)) 1
                                                                        (List.append
                                                                          (D.rows (D.slc (D.hd (hs_2 0 0)) 1 []))
                                                                          (D.rows s)))
                                                                      (Int.toNat mf) 0 [D.bool true]),
                                                                  SV.bool valid],
                                                              SV.nils])))))))
                                              (Tree.ret
                                                (SV.tup
                                                  [SV.agg
                                                      [SV.int IntKind.i64 nodes, SV.int IntKind.i64 round,
                                                        SV.int IntKind.i64 phase, SV.int IntKind.i64 deadline, SV.dat d,
                                                        SV.dat s, SV.bool valid],
                                                    SV.nils])))
                                            (Tree.ret
                                              (SV.tup
                                                [SV.agg
                                                    [SV.int IntKind.i64 nodes, SV.int IntKind.i64 round,
                                                      SV.int IntKind.i64 phase, SV.int IntKind.i64 deadline, SV.dat d,
                                                      SV.dat s, SV.bool valid],
                                                  SV.nils]))))))
                                    (Tree.br (decide (phase = 2))
                                      (Tree.br (decide (mk = 4))
                                        (Tree.br (mv != 1)
                                          (Tree.need
                                            (D.Is Int
                                                (D.slc (D.hd (hs_1 0 0)) 1
                                                  (List.append (D.rows (D.slc (D.hd (hs 0 0)) 1 [])) (D.rows d))) ∧
                                              D.Is Bool
                                                  (D.slc (D.hd (hs_3 0 0)) 1
                                                    (List.append (D.rows (D.slc (D.hd (hs_2 0 0)) 1 [])) (D.rows s))) ∧
                                                nodes ≤ 8)
                                            (Tree.all fun hs_4 =>
                                              Tree.ret
                                                (SV.tup
                                                  [SV.agg
                                                      [SV.int IntKind.i64 nodes, SV.int IntKind.i64 round,
                                                        SV.int IntKind.i64 0, SV.int IntKind.i64 deadline,
                                                        SV.dat
                                                          (D.like (hs_4 0 0)
                                                            (D.to Int
                                                              (D.slc (D.hd (hs_1 0 0)) 1
                                                                (List.append (D.rows (D.slc (D.hd (hs 0 0)) 1 []))
                                                                  (D.rows d))))),
                                                        SV.dat
                                                          (D.like (hs_4 0 1)
                                                            (D.to Bool
                                                              (D.slc (D.hd (hs_3 0 0)) 1
                                                                (List.append (D.rows (D.slc (D.hd (hs_2 0 0)) 1 []))
                                                                  (D.rows s))))),
                                                        SV.bool false],
                                                    SV.dat (D.like (hs_4 0 2) (msgsTo nodes round 24))])))
                                          (Tree.need
                                            (0 ≤ mf ∧
                                              mf <
                                                  (↑(D.len
                                                        (D.slc (D.hd (hs_3 0 0)) 1
                                                          (List.append (D.rows (D.slc (D.hd (hs_2 0 0)) 1 []))
                                                            (D.rows s)))) :
                                                    Int) ∧
                                                D.sz
                                                    (D.slc (D.hd (hs_3 0 0)) 1
                                                      (List.append (D.rows (D.slc (D.hd (hs_2 0 0)) 1 [])) (D.rows s))) =
                                                  1)
                                            (Tree.need
                                              (Int.toNat mf <
                                                  D.len
                                                    (D.slc (D.hd (hs_3 0 0)) 1
                                                      (List.append (D.rows (D.slc (D.hd (hs_2 0 0)) 1 [])) (D.rows s))) ∧
                                                1 ≤
                                                    D.sz
                                                      (D.slc (D.hd (hs_3 0 0)) 1
                                                        (List.append (D.rows (D.slc (D.hd (hs_2 0 0)) 1 []))
                                                          (D.rows s))) ∧
                                                  D.sz
                                                      (D.slc (D.hd (hs_3 0 0)) 1
                                                        (List.append (D.rows (D.slc (D.hd (hs_2 0 0)) 1 []))
                                                          (D.rows s))) =
                                                    1)
                                              (Tree.need
                                                (D.Is Bool
                                                    (D.setCells
                                                      (D.slc (D.hd (hs_3 0 0)) 1
                                                        (List.append (D.rows (D.slc (D.hd (hs_2 0 0)) 1 [])) (D.rows s)))
                                                      (Int.toNat mf) 0 [D.bool true]) ∧
                                                  D.len
                                                      (D.setCells
                                                        (D.slc (D.hd (hs_3 0 0)) 1
                                                          (List.append (D.rows (D.slc (D.hd (hs_2 0 0)) 1 []))
                                                            (D.rows s)))
                                                        (Int.toNat mf) 0 [D.bool true]) ≤
                                                    1048576)
                                                (Tree.br
                                                  (List.all
                                                    (D.to Bool
                                                      (D.setCells
                                                        (D.slc (D.hd (hs_3 0 0)) 1
                                                          (List.append (D.rows (D.slc (D.hd (hs_2 0 0)) 1 []))
                                                            (D.rows s)))
                                                        (Int.toNat mf) 0 [D.bool true]))
                                                    id)
                                                  (Tree.ret
                                                    (SV.tup
                                                      [SV.agg
                                                          [SV.int IntKind.i64 nodes, SV.int IntKind.i64 round,
                                                            SV.int IntKind.i64 0, SV.int IntKind.i64 deadline,
                                                            SV.dat
                                                              (D.slc (D.hd (hs_1 0 0)) 1
                                                                (List.append (D.rows (D.slc (D.hd (hs 0 0)) 1 []))
                                                                  (D.rows d))),
                                                            SV.dat
                                                              (D.setCells
                                                                (D.slc (D.hd (hs_3 0 0)) 1
                                                                  (List.append (D.rows (D.slc (D.hd (hs_2 0 0)) 1 []))
                                                                    (D.rows s)))
                                                                (Int.toNat mf) 0 [D.bool true]),
                                                            SV.lb true],
                                                        SV.nils]))
                                                  (Tree.ret
                                                    (SV.tup
                                                      [SV.agg
                                                          [SV.int IntKind.i64 nodes, SV.int IntKind.i64 round,
                                                            SV.int IntKind.i64 phase, SV.int IntKind.i64 deadline,
                                                            SV.dat
                                                              (D.slc (D.hd (hs_1 0 0)) 1
                                                                (List.append (D.rows (D.slc (D.hd (hs 0 0)) 1 []))
                                                                  (D.rows d))),
                                                            SV.dat
                                                              (D.setCells
                                                                (D.slc (D.hd (hs_3 0 0)) 1
                                                                  (List.append (D.rows (D.slc (D.hd (hs_2 0 0)) 1 []))
                                                                    (D.rows s)))
                                                                (Int.toNat mf) 0 [D.bool true]),
                                                            SV.bool valid],
                                                        SV.nils])))))))
                                        (Tree.ret
                                          (SV.tup
                                            [SV.agg
                                                [SV.int IntKind.i64 nodes, SV.int IntKind.i64 round,
                                                  SV.int IntKind.i64 phase, SV.int IntKind.i64 deadline, SV.dat d,
                                                  SV.dat s, SV.bool valid],
                                              SV.nils])))
                                      (Tree.ret
                                        (SV.tup
                                          [SV.agg
                                              [SV.int IntKind.i64 nodes, SV.int IntKind.i64 round,
                                                SV.int IntKind.i64 phase, SV.int IntKind.i64 deadline, SV.dat d, SV.dat s,
                                                SV.bool valid],
                                            SV.nils]))))
                                  (Tree.br (decide (phase = 2))
                                    (Tree.br (decide (mk = 4))
                                      (Tree.br (mv != 1)
                                        (Tree.need
                                          (D.Is Int
                                              (D.slc (D.hd (hs_1 0 0)) 1
                                                (List.append (D.rows (D.slc (D.hd (hs 0 0)) 1 [])) (D.rows d))) ∧
                                            D.Is Bool
                                                (D.slc (D.hd (hs_3 0 0)) 1
                                                  (List.append (D.rows (D.slc (D.hd (hs_2 0 0)) 1 [])) (D.rows s))) ∧
                                              nodes ≤ 8)
                                          (Tree.all fun hs_4 =>
                                            Tree.ret
                                              (SV.tup
                                                [SV.agg
                                                    [SV.int IntKind.i64 nodes, SV.int IntKind.i64 round,
                                                      SV.int IntKind.i64 0, SV.int IntKind.i64 deadline,
                                                      SV.dat
                                                        (D.like (hs_4 0 0)
                                                          (D.to Int
                                                            (D.slc (D.hd (hs_1 0 0)) 1
                                                              (List.append (D.rows (D.slc (D.hd (hs 0 0)) 1 []))
                                                                (D.rows d))))),
                                                      SV.dat
                                                        (D.like (hs_4 0 1)
                                                          (D.to Bool
                                                            (D.slc (D.hd (hs_3 0 0)) 1
                                                              (List.append (D.rows (D.slc (D.hd (hs_2 0 0)) 1 []))
                                                                (D.rows s))))),
                                                      SV.bool false],
                                                  SV.dat (D.like (hs_4 0 2) (msgsTo nodes round 24))])))
                                        (Tree.need
                                          (0 ≤ mf ∧
                                            mf <
                                                (↑(D.len
                                                      (D.slc (D.hd (hs_3 0 0)) 1
                                                        (List.append (D.rows (D.slc (D.hd (hs_2 0 0)) 1 []))
                                                          (D.rows s)))) :
                                                  Int) ∧
                                              D.sz
                                                  (D.slc (D.hd (hs_3 0 0)) 1
                                                    (List.append (D.rows (D.slc (D.hd (hs_2 0 0)) 1 [])) (D.rows s))) =
                                                1)
                                          (Tree.need
                                            (Int.toNat mf <
                                                D.len
                                                  (D.slc (D.hd (hs_3 0 0)) 1
                                                    (List.append (D.rows (D.slc (D.hd (hs_2 0 0)) 1 [])) (D.rows s))) ∧
                                              1 ≤
                                                  D.sz
                                                    (D.slc (D.hd (hs_3 0 0)) 1
                                                      (List.append (D.rows (D.slc (D.hd (hs_2 0 0)) 1 [])) (D.rows s))) ∧
                                                D.sz
                                                    (D.slc (D.hd (hs_3 0 0)) 1
                                                      (List.append (D.rows (D.slc (D.hd (hs_2 0 0)) 1 [])) (D.rows s))) =
                                                  1)
                                            (Tree.need
                                              (D.Is Bool
                                                  (D.setCells
                                                    (D.slc (D.hd (hs_3 0 0)) 1
                                                      (List.append (D.rows (D.slc (D.hd (hs_2 0 0)) 1 [])) (D.rows s)))
                                                    (Int.toNat mf) 0 [D.bool true]) ∧
                                                D.len
                                                    (D.setCells
                                                      (D.slc (D.hd (hs_3 0 0)) 1
                                                        (List.append (D.rows (D.slc (D.hd (hs_2 0 0)) 1 [])) (D.rows s)))
                                                      (Int.toNat mf) 0 [D.bool true]) ≤
                                                  1048576)
                                              (Tree.br
                                                (List.all
                                                  (D.to Bool
                                                    (D.setCells
                                                      (D.slc (D.hd (hs_3 0 0)) 1
                                                        (List.append (D.rows (D.slc (D.hd (hs_2 0 0)) 1 [])) (D.rows s)))
                                                      (Int.toNat mf) 0 [D.bool true]))
                                                  id)
                                                (Tree.ret
                                                  (SV.tup
                                                    [SV.agg
                                                        [SV.int IntKind.i64 nodes, SV.int IntKind.i64 round,
                                                          SV.int IntKind.i64 0, SV.int IntKind.i64 deadline,
                                                          SV.dat
                                                            (D.slc (D.hd (hs_1 0 0)) 1
                                                              (List.append (D.rows (D.slc (D.hd (hs 0 0)) 1 []))
                                                                (D.rows d))),
                                                          SV.dat
                                                            (D.setCells
                                                              (D.slc (D.hd (hs_3 0 0)) 1
                                                                (List.append (D.rows (D.slc (D.hd (hs_2 0 0)) 1 []))
                                                                  (D.rows s)))
                                                              (Int.toNat mf) 0 [D.bool true]),
                                                          SV.lb true],
                                                      SV.nils]))
                                                (Tree.ret
                                                  (SV.tup
                                                    [SV.agg
                                                        [SV.int IntKind.i64 nodes, SV.int IntKind.i64 round,
                                                          SV.int IntKind.i64 phase, SV.int IntKind.i64 deadline,
                                                          SV.dat
                                                            (D.slc (D.hd (hs_1 0 0)) 1
                                                              (List.append (D.rows (D.slc (D.hd (hs 0 0)) 1 []))
                                                                (D.rows d))),
                                                          SV.dat
                                                            (D.setCells
                                                              (D.slc (D.hd (hs_3 0 0)) 1
                                                                (List.append (D.rows (D.slc (D.hd (hs_2 0 0)) 1 []))
                                                                  (D.rows s)))
                                                              (Int.toNat mf) 0 [D.bool true]),
                                                          SV.bool valid],
                                                      SV.nils])))))))
                                      (Tree.ret
                                        (SV.tup
                                          [SV.agg
                                              [SV.int IntKind.i64 nodes, SV.int IntKind.i64 round,
                                                SV.int IntKind.i64 phase, SV.int IntKind.i64 deadline, SV.dat d, SV.dat s,
                                                SV.bool valid],
                                            SV.nils])))
                                    (Tree.ret
                                      (SV.tup
                                        [SV.agg
                                            [SV.int IntKind.i64 nodes, SV.int IntKind.i64 round, SV.int IntKind.i64 phase,
                                              SV.int IntKind.i64 deadline, SV.dat d, SV.dat s, SV.bool valid],
                                          SV.nils]))))
                                (Tree.br (decide (phase = 2))
                                  (Tree.br (decide (mk = 4))
                                    (Tree.br (mv != 1)
                                      (Tree.need
                                        (D.Is Int
                                            (D.slc (D.hd (hs_1 0 0)) 1
                                              (List.append (D.rows (D.slc (D.hd (hs 0 0)) 1 [])) (D.rows d))) ∧
                                          D.Is Bool
                                              (D.slc (D.hd (hs_3 0 0)) 1
                                                (List.append (D.rows (D.slc (D.hd (hs_2 0 0)) 1 [])) (D.rows s))) ∧
                                            nodes ≤ 8)
                                        (Tree.all fun hs_4 =>
                                          Tree.ret
                                            (SV.tup
                                              [SV.agg
                                                  [SV.int IntKind.i64 nodes, SV.int IntKind.i64 round,
                                                    SV.int IntKind.i64 0, SV.int IntKind.i64 deadline,
                                                    SV.dat
                                                      (D.like (hs_4 0 0)
                                                        (D.to Int
                                                          (D.slc (D.hd (hs_1 0 0)) 1
                                                            (List.append (D.rows (D.slc (D.hd (hs 0 0)) 1 []))
                                                              (D.rows d))))),
                                                    SV.dat
                                                      (D.like (hs_4 0 1)
                                                        (D.to Bool
                                                          (D.slc (D.hd (hs_3 0 0)) 1
                                                            (List.append (D.rows (D.slc (D.hd (hs_2 0 0)) 1 []))
                                                              (D.rows s))))),
                                                    SV.bool false],
                                                SV.dat (D.like (hs_4 0 2) (msgsTo nodes round 24))])))
                                      (Tree.need
                                        (0 ≤ mf ∧
                                          mf <
                                              (↑(D.len
                                                    (D.slc (D.hd (hs_3 0 0)) 1
                                                      (List.append (D.rows (D.slc (D.hd (hs_2 0 0)) 1 [])) (D.rows s)))) :
                                                Int) ∧
                                            D.sz
                                                (D.slc (D.hd (hs_3 0 0)) 1
                                                  (List.append (D.rows (D.slc (D.hd (hs_2 0 0)) 1 [])) (D.rows s))) =
                                              1)
                                        (Tree.need
                                          (Int.toNat mf <
                                              D.len
                                                (D.slc (D.hd (hs_3 0 0)) 1
                                                  (List.append (D.rows (D.slc (D.hd (hs_2 0 0)) 1 [])) (D.rows s))) ∧
                                            1 ≤
                                                D.sz
                                                  (D.slc (D.hd (hs_3 0 0)) 1
                                                    (List.append (D.rows (D.slc (D.hd (hs_2 0 0)) 1 [])) (D.rows s))) ∧
                                              D.sz
                                                  (D.slc (D.hd (hs_3 0 0)) 1
                                                    (List.append (D.rows (D.slc (D.hd (hs_2 0 0)) 1 [])) (D.rows s))) =
                                                1)
                                          (Tree.need
                                            (D.Is Bool
                                                (D.setCells
                                                  (D.slc (D.hd (hs_3 0 0)) 1
                                                    (List.append (D.rows (D.slc (D.hd (hs_2 0 0)) 1 [])) (D.rows s)))
                                                  (Int.toNat mf) 0 [D.bool true]) ∧
                                              D.len
                                                  (D.setCells
                                                    (D.slc (D.hd (hs_3 0 0)) 1
                                                      (List.append (D.rows (D.slc (D.hd (hs_2 0 0)) 1 [])) (D.rows s)))
                                                    (Int.toNat mf) 0 [D.bool true]) ≤
                                                1048576)
                                            (Tree.br
                                              (List.all
                                                (D.to Bool
                                                  (D.setCells
                                                    (D.slc (D.hd (hs_3 0 0)) 1
                                                      (List.append (D.rows (D.slc (D.hd (hs_2 0 0)) 1 [])) (D.rows s)))
                                                    (Int.toNat mf) 0 [D.bool true]))
                                                id)
                                              (Tree.ret
                                                (SV.tup
                                                  [SV.agg
                                                      [SV.int IntKind.i64 nodes, SV.int IntKind.i64 round,
                                                        SV.int IntKind.i64 0, SV.int IntKind.i64 deadline,
                                                        SV.dat
                                                          (D.slc (D.hd (hs_1 0 0)) 1
                                                            (List.append (D.rows (D.slc (D.hd (hs 0 0)) 1 []))
                                                              (D.rows d))),
                                                        SV.dat
                                                          (D.setCells
                                                            (D.slc (D.hd (hs_3 0 0)) 1
                                                              (List.append (D.rows (D.slc (D.hd (hs_2 0 0)) 1 []))
                                                                (D.rows s)))
                                                            (Int.toNat mf) 0 [D.bool true]),
                                                        SV.lb true],
                                                    SV.nils]))
                                              (Tree.ret
                                                (SV.tup
                                                  [SV.agg
                                                      [SV.int IntKind.i64 nodes, SV.int IntKind.i64 round,
                                                        SV.int IntKind.i64 phase, SV.int IntKind.i64 deadline,
                                                        SV.dat
                                                          (D.slc (D.hd (hs_1 0 0)) 1
                                                            (List.append (D.rows (D.slc (D.hd (hs 0 0)) 1 []))
                                                              (D.rows d))),
                                                        SV.dat
                                                          (D.setCells
                                                            (D.slc (D.hd (hs_3 0 0)) 1
                                                              (List.append (D.rows (D.slc (D.hd (hs_2 0 0)) 1 []))
                                                                (D.rows s)))
                                                            (Int.toNat mf) 0 [D.bool true]),
                                                        SV.bool valid],
                                                    SV.nils])))))))
                                    (Tree.ret
                                      (SV.tup
                                        [SV.agg
                                            [SV.int IntKind.i64 nodes, SV.int IntKind.i64 round, SV.int IntKind.i64 phase,
                                              SV.int IntKind.i64 deadline, SV.dat d, SV.dat s, SV.bool valid],
                                          SV.nils])))
                                  (Tree.ret
                                    (SV.tup
                                      [SV.agg
                                          [SV.int IntKind.i64 nodes, SV.int IntKind.i64 round, SV.int IntKind.i64 phase,
                                            SV.int IntKind.i64 deadline, SV.dat d, SV.dat s, SV.bool valid],
                                        SV.nils]))))
                              (Tree.br (decide (phase = 2))
                                (Tree.br (decide (mk = 4))
                                  (Tree.br (mv != 1)
                                    (Tree.need
                                      (D.Is Int
                                          (D.slc (D.hd (hs_1 0 0)) 1
                                            (List.append (D.rows (D.slc (D.hd (hs 0 0)) 1 [])) (D.rows d))) ∧
                                        D.Is Bool
                                            (D.slc (D.hd (hs_3 0 0)) 1
                                              (List.append (D.rows (D.slc (D.hd (hs_2 0 0)) 1 [])) (D.rows s))) ∧
                                          nodes ≤ 8)
                                      (Tree.all fun hs_4 =>
                                        Tree.ret
                                          (SV.tup
                                            [SV.agg
                                                [SV.int IntKind.i64 nodes, SV.int IntKind.i64 round, SV.int IntKind.i64 0,
                                                  SV.int IntKind.i64 deadline,
                                                  SV.dat
                                                    (D.like (hs_4 0 0)
                                                      (D.to Int
                                                        (D.slc (D.hd (hs_1 0 0)) 1
                                                          (List.append (D.rows (D.slc (D.hd (hs 0 0)) 1 []))
                                                            (D.rows d))))),
                                                  SV.dat
                                                    (D.like (hs_4 0 1)
                                                      (D.to Bool
                                                        (D.slc (D.hd (hs_3 0 0)) 1
                                                          (List.append (D.rows (D.slc (D.hd (hs_2 0 0)) 1 []))
                                                            (D.rows s))))),
                                                  SV.bool false],
                                              SV.dat (D.like (hs_4 0 2) (msgsTo nodes round 24))])))
                                    (Tree.need
                                      (0 ≤ mf ∧
                                        mf <
                                            (↑(D.len
                                                  (D.slc (D.hd (hs_3 0 0)) 1
                                                    (List.append (D.rows (D.slc (D.hd (hs_2 0 0)) 1 [])) (D.rows s)))) :
                                              Int) ∧
                                          D.sz
                                              (D.slc (D.hd (hs_3 0 0)) 1
                                                (List.append (D.rows (D.slc (D.hd (hs_2 0 0)) 1 [])) (D.rows s))) =
                                            1)
                                      (Tree.need
                                        (Int.toNat mf <
                                            D.len
                                              (D.slc (D.hd (hs_3 0 0)) 1
                                                (List.append (D.rows (D.slc (D.hd (hs_2 0 0)) 1 [])) (D.rows s))) ∧
                                          1 ≤
                                              D.sz
                                                (D.slc (D.hd (hs_3 0 0)) 1
                                                  (List.append (D.rows (D.slc (D.hd (hs_2 0 0)) 1 [])) (D.rows s))) ∧
                                            D.sz
                                                (D.slc (D.hd (hs_3 0 0)) 1
                                                  (List.append (D.rows (D.slc (D.hd (hs_2 0 0)) 1 [])) (D.rows s))) =
                                              1)
                                        (Tree.need
                                          (D.Is Bool
                                              (D.setCells
                                                (D.slc (D.hd (hs_3 0 0)) 1
                                                  (List.append (D.rows (D.slc (D.hd (hs_2 0 0)) 1 [])) (D.rows s)))
                                                (Int.toNat mf) 0 [D.bool true]) ∧
                                            D.len
                                                (D.setCells
                                                  (D.slc (D.hd (hs_3 0 0)) 1
                                                    (List.append (D.rows (D.slc (D.hd (hs_2 0 0)) 1 [])) (D.rows s)))
                                                  (Int.toNat mf) 0 [D.bool true]) ≤
                                              1048576)
                                          (Tree.br
                                            (List.all
                                              (D.to Bool
                                                (D.setCells
                                                  (D.slc (D.hd (hs_3 0 0)) 1
                                                    (List.append (D.rows (D.slc (D.hd (hs_2 0 0)) 1 [])) (D.rows s)))
                                                  (Int.toNat mf) 0 [D.bool true]))
                                              id)
                                            (Tree.ret
                                              (SV.tup
                                                [SV.agg
                                                    [SV.int IntKind.i64 nodes, SV.int IntKind.i64 round,
                                                      SV.int IntKind.i64 0, SV.int IntKind.i64 deadline,
                                                      SV.dat
                                                        (D.slc (D.hd (hs_1 0 0)) 1
                                                          (List.append (D.rows (D.slc (D.hd (hs 0 0)) 1 [])) (D.rows d))),
                                                      SV.dat
                                                        (D.setCells
                                                          (D.slc (D.hd (hs_3 0 0)) 1
                                                            (List.append (D.rows (D.slc (D.hd (hs_2 0 0)) 1 []))
                                                              (D.rows s)))
                                                          (Int.toNat mf) 0 [D.bool true]),
                                                      SV.lb true],
                                                  SV.nils]))
                                            (Tree.ret
                                              (SV.tup
                                                [SV.agg
                                                    [SV.int IntKind.i64 nodes, SV.int IntKind.i64 round,
                                                      SV.int IntKind.i64 phase, SV.int IntKind.i64 deadline,
                                                      SV.dat
                                                        (D.slc (D.hd (hs_1 0 0)) 1
                                                          (List.append (D.rows (D.slc (D.hd (hs 0 0)) 1 [])) (D.rows d))),
                                                      SV.dat
                                                        (D.setCells
                                                          (D.slc (D.hd (hs_3 0 0)) 1
                                                            (List.append (D.rows (D.slc (D.hd (hs_2 0 0)) 1 []))
                                                              (D.rows s)))
                                                          (Int.toNat mf) 0 [D.bool true]),
                                                      SV.bool valid],
                                                  SV.nils])))))))
                                  (Tree.ret
                                    (SV.tup
                                      [SV.agg
                                          [SV.int IntKind.i64 nodes, SV.int IntKind.i64 round, SV.int IntKind.i64 phase,
                                            SV.int IntKind.i64 deadline, SV.dat d, SV.dat s, SV.bool valid],
                                        SV.nils])))
                                (Tree.ret
                                  (SV.tup
                                    [SV.agg
                                        [SV.int IntKind.i64 nodes, SV.int IntKind.i64 round, SV.int IntKind.i64 phase,
                                          SV.int IntKind.i64 deadline, SV.dat d, SV.dat s, SV.bool valid],
                                      SV.nils])))))))))))) := by kernel_rfl

end
end Go.Proofs.Ytoechplbhbalaaa
end
section
/- Layer 21: the laws of Collect. -/
open Go Go.Proofs Sx
namespace Sx

/-- One cell of a row of one cell is set. -/
theorem set_one {α : Type} [Codec α] {d : D} (hd : d.Is α) {i : Nat} (hi : i < (d.to α).length) (hs : Codec.sz α = 1) {c : D} {x : α} (hc : Codec.ok α [c]) (hx : Codec.dec [c] = x) :
    (d.setCells i 0 [c]).Is α ∧ (d.setCells i 0 [c]).to α = (d.to α).set i x := by
  have hz := hd.size hi
  have hr := rows_of hd
  have hl := rows_len hr
  have e : cutIn (d.rows.getD i []) 0 [c] = [c] := by
    have h1 : d.rows.getD i [] = d.rows[i] := by simp [hl, hi]
    have h2 := Codec.len (α := α) d.rows[i] (hr.1 _ (List.getElem_mem _))
    rw [hs] at h2
    rw [h1]
    obtain ⟨y, hy⟩ := List.length_eq_one_iff.1 h2
    rw [hy]; rfl
  have := is_of (α := α) (h := d.hd) (s := d.sz) (rows := d.rows.set i [c]) (xs := (d.to α).set i x) hz ⟨fun r hr' => by
    rcases List.mem_or_eq_of_mem_set hr' with h | h
    · exact hr.1 r h
    · rw [h]; exact hc, by rw [List.map_set, hr.2, hx]⟩
  unfold D.setCells
  rw [e]
  exact this

theorem copy_is {α : Type} [Codec α] (h1 : Codec.sz α = 1) {d : D} (hd : d.Is α) (a b : Hd) : (D.slc a 1 (List.append (D.rows (D.slc b 1 [])) (D.rows d))).Is α ∧ (D.slc a 1 (List.append (D.rows (D.slc b 1 [])) (D.rows d))).to α = d.to α :=
  is_of h1.symm (rows_of hd)

/-- What Collect does after the first look. -/
def collGo (c : Co) (m : Msg) (g al : Bool) : Co × List Msg :=
  if m.kind = 2 then
    if c.phase ≠ 1 ∨ m.value < 0 ∨ m.value > 4096 ∨ g = true then (c, [])
    else if al = true then (⟨c.nodes, c.round, 2, c.deadline, c.positions.set m.frm.toNat m.value, List.replicate c.nodes.toNat false, c.valid⟩, msgsTo c.nodes c.round 3)
    else (⟨c.nodes, c.round, c.phase, c.deadline, c.positions.set m.frm.toNat m.value, c.seen.set m.frm.toNat true, c.valid⟩, [])
  else if m.kind = 4 then
    if c.phase ≠ 2 then (c, [])
    else if m.value ≠ 1 then (⟨c.nodes, c.round, 0, c.deadline, c.positions, c.seen, false⟩, msgsTo c.nodes c.round 24)
    else if al = true then (⟨c.nodes, c.round, 0, c.deadline, c.positions, c.seen.set m.frm.toNat true, true⟩, [])
    else (⟨c.nodes, c.round, c.phase, c.deadline, c.positions, c.seen.set m.frm.toNat true, c.valid⟩, [])
  else (c, [])

theorem coll_bad {c : Co} {now : Int} {m : Msg} (h : ¬checkCo c = 0 ∨ c.phase = 0 ∨ now ≥ c.deadline ∨ m.frm < 0 ∨ m.frm ≥ c.nodes ∨ ¬m.number = c.round) : collectCo c now m = (c, []) := by rw [collectCo, if_pos h]
theorem coll_go {c : Co} {now : Int} {m : Msg} {g al : Bool} (h : ¬(¬checkCo c = 0 ∨ c.phase = 0 ∨ now ≥ c.deadline ∨ m.frm < 0 ∨ m.frm ≥ c.nodes ∨ ¬m.number = c.round))
    (hg : c.seen.getD m.frm.toNat true = g) (ha : (c.seen.set m.frm.toNat true).all id = al) : collectCo c now m = collGo c m g al := by
  rw [collectCo, if_neg h, hg, ha]
  rfl

section
variable {P : Program} {w : World} {H : HV}
end
end Sx

namespace Go.Proofs.Ytoechplbhbalaaa
set_option maxRecDepth 100000
set_option maxHeartbeats 0

theorem lawColl2 : Law Try.prog 28 ((rdCo.three rdInt rdMsg).sp spColl) := by
  refine law_in _ (by kernel_rfl) fun H w ⟨⟨n, r, p, dl, d, s, v⟩, now, ⟨mk, mf, mto, mn, mv, me, ml, mb⟩⟩ hok hp => ?_
  obtain ⟨hd, hs⟩ := hp _ (List.mem_singleton.2 rfl)
  simp only at hd hs
  clear hp hok
  apply exec_sound ctMOk 800
  rw [show (rdCo.three rdInt rdMsg).canon (⟨n, r, p, dl, d, s, v⟩, now, ⟨mk, mf, mto, mn, mv, me, ml, mb⟩) = [.agg [.int .i64 n, .int .i64 r, .int .i64 p, .int .i64 dl, .dat d, .dat s, .bool v], .int .i64 now, .agg [.int .i64 mk, .int .i64 mf, .int .i64 mto, .int .i64 mn, .int .i64 mv, .int .i64 me, .dat ml, .dat mb]] from rfl, coll2_in]
  have bad : ∀ {V}, (∀ E, V.den E = (SV.bool v).den E) → (¬checkCo ⟨n, r, p, dl, d.to Int, s.to Bool, v⟩ = 0 ∨ p = 0 ∨ now ≥ dl ∨ mf < 0 ∨ mf ≥ n ∨ ¬mn = r) → (Tree.ret (.tup [.agg [.int .i64 n, .int .i64 r, .int .i64 p, .int .i64 dl, .dat d, .dat s, V], .nils])).holds Try.prog ⟨w, H⟩ (RetD w H fun ds =>
      .tup [coSV (ds 0) (ds 1) (collectCo ⟨n, r, p, dl, d.to Int, s.to Bool, v⟩ now ⟨mk, mf, mto, mn, mv, me, ml.to Int, mb.to Byte⟩).1, .dat ((ds 2).like (collectCo ⟨n, r, p, dl, d.to Int, s.to Bool, v⟩ now ⟨mk, mf, mto, mn, mv, me, ml.to Int, mb.to Byte⟩).2)]) :=
    fun hv h => ret_co2 (stands_self hd) (stands_self hs) hv stands_nils (coll_bad h)
  refine ⟨⟨hd, hs⟩, fun h1 => ?_, fun h1 => ⟨fun h2 => ?_, fun h2 => ⟨fun h3 => ?_, fun h3 => ⟨fun h4 => ?_, fun h4 => ⟨fun h5 => ?_, fun h5 => ⟨fun h6 => ?_, fun h6 => ?_⟩⟩⟩⟩⟩⟩
  · simp only [bne_iff_ne, ne_eq] at h1
    exact bad (fun _ => rfl) (.inl h1)
  · simp only [decide_eq_true_eq] at h2
    exact bad (fun _ => rfl) (.inr (.inl h2))
  · simp only [decide_eq_true_eq] at h3
    exact bad (fun _ => rfl) (.inr (.inr (.inl h3)))
  · simp only [decide_eq_true_eq] at h4
    exact bad (fun _ => rfl) (.inr (.inr (.inr (.inl h4))))
  · simp only [decide_eq_true_eq] at h5
    exact bad (fun _ => rfl) (.inr (.inr (.inr (.inr (.inl h5)))))
  · simp only [bne_iff_ne, ne_eq] at h6
    exact bad (fun _ => rfl) (.inr (.inr (.inr (.inr (.inr h6)))))
  · simp only [bne_eq_false_iff_eq] at h1 h6
    simp only [decide_eq_false_iff_not] at h2 h3 h4 h5
    have hck : checkCo ⟨n, r, p, dl, d.to Int, s.to Bool, v⟩ = 0 := h1
    clear h1
    have hz := checkCo_zero.1 hck
    have hi : mf.toNat < (s.to Bool).length := by omega
    have hi' : mf.toNat < (d.to Int).length := by omega
    have l1 := D.Is.length (α := Int) d
    have l2 := D.Is.length (α := Bool) s
    have l1' := rows_len (rows_of hd)
    have l2' := rows_len (rows_of hs)
    obtain ⟨g, hg⟩ : ∃ g, (s.to Bool).getD mf.toNat true = g := ⟨_, rfl⟩
    obtain ⟨al, ha⟩ : ∃ al, ((s.to Bool).set mf.toNat true).all id = al := ⟨_, rfl⟩
    have E0 : collectCo ⟨n, r, p, dl, d.to Int, s.to Bool, v⟩ now ⟨mk, mf, mto, mn, mv, me, ml.to Int, mb.to Byte⟩ = collGo ⟨n, r, p, dl, d.to Int, s.to Bool, v⟩ ⟨mk, mf, mto, mn, mv, me, ml.to Int, mb.to Byte⟩ g al :=
      coll_go (by simp only [hck, not_true_eq_false, false_or]; omega) hg ha
    obtain ⟨b1, b2⟩ := bool_cell hs hi
    have hg' : s.getBool (Int.toNat mf) 0 = g := by rw [b1, ← hg]; simp [hi]
    have dI := fun a b => copy_is (α := Int) rfl hd a b
    have sI := fun a b => copy_is (α := Bool) rfl hs a b
    have dS := fun a b => set_one (c := .int .i64 mv) (x := mv) (dI a b).1 (i := mf.toNat) (by rw [(dI a b).2]; exact hi') rfl ⟨_, rfl⟩ rfl
    have sS := fun a b => set_one (c := .bool true) (x := true) (sI a b).1 (i := mf.toNat) (by rw [(sI a b).2]; exact hi) rfl ⟨_, rfl⟩ rfl
    have ha' : ∀ a b, List.all (D.to Bool (D.setCells (D.slc a 1 (List.append (D.rows (D.slc b 1 [])) (D.rows s))) (Int.toNat mf) 0 [D.bool true])) id = al := fun a b => by rw [(sS a b).2, (sI a b).2, ha]
    have n1 : ∀ a, (D.slc a 1 []).sz = 1 ∧ d.Fits 1 ∧ ((D.slc a 1 []).len + d.len) * 8 ≤ 140737488355328 ∧ (D.slc a 1 []).len + d.len ≤ 9223372036854775807 := fun a => ⟨rfl, hd.fits, by simp only [len_slc, List.length_nil]; omega, by simp only [len_slc, List.length_nil]; omega⟩
    have n2 : ∀ a, (D.slc a 1 []).sz = 1 ∧ s.Fits 1 ∧ ((D.slc a 1 []).len + s.len) * 1 ≤ 140737488355328 ∧ (D.slc a 1 []).len + s.len ≤ 9223372036854775807 := fun a => ⟨rfl, hs.fits, by simp only [len_slc, List.length_nil]; omega, by simp only [len_slc, List.length_nil]; omega⟩
    have n3 : 0 ≤ mf ∧ mf < (s.len : Int) ∧ s.sz = 1 := ⟨by omega, by omega, hs.size hi⟩
    have cd : ∀ a b, (D.slc a 1 (List.append (D.rows (D.slc b 1 [])) (D.rows d))).len = d.len := fun a b => by rw [D.Is.length (α := Int), (dI a b).2, l1]
    have cs : ∀ a b, (D.slc a 1 (List.append (D.rows (D.slc b 1 [])) (D.rows s))).len = s.len := fun a b => by rw [D.Is.length (α := Bool), (sI a b).2, l2]
    have n5 : ∀ a b, 0 ≤ mf ∧ mf < ((D.slc a 1 (List.append (D.rows (D.slc b 1 [])) (D.rows d))).len : Int) ∧ (D.slc a 1 (List.append (D.rows (D.slc b 1 [])) (D.rows d))).sz = 1 := fun a b => ⟨by omega, by rw [cd]; omega, rfl⟩
    have n6 : ∀ a b, Int.toNat mf < (D.slc a 1 (List.append (D.rows (D.slc b 1 [])) (D.rows d))).len ∧ 1 ≤ (D.slc a 1 (List.append (D.rows (D.slc b 1 [])) (D.rows d))).sz ∧ (D.slc a 1 (List.append (D.rows (D.slc b 1 [])) (D.rows d))).sz = 1 := fun a b => ⟨by rw [cd]; omega, Nat.le_refl 1, rfl⟩
    have n7 : ∀ a b, 0 ≤ mf ∧ mf < ((D.slc a 1 (List.append (D.rows (D.slc b 1 [])) (D.rows s))).len : Int) ∧ (D.slc a 1 (List.append (D.rows (D.slc b 1 [])) (D.rows s))).sz = 1 := fun a b => ⟨by omega, by rw [cs]; omega, rfl⟩
    have n8 : ∀ a b, Int.toNat mf < (D.slc a 1 (List.append (D.rows (D.slc b 1 [])) (D.rows s))).len ∧ 1 ≤ (D.slc a 1 (List.append (D.rows (D.slc b 1 [])) (D.rows s))).sz ∧ (D.slc a 1 (List.append (D.rows (D.slc b 1 [])) (D.rows s))).sz = 1 := fun a b => ⟨by rw [cs]; omega, Nat.le_refl 1, rfl⟩
    have n9 : ∀ a b, (D.setCells (D.slc a 1 (List.append (D.rows (D.slc b 1 [])) (D.rows s))) (Int.toNat mf) 0 [D.bool true]).Is Bool ∧ (D.setCells (D.slc a 1 (List.append (D.rows (D.slc b 1 [])) (D.rows s))) (Int.toNat mf) 0 [D.bool true]).len ≤ 1048576 := fun a b =>
      ⟨(sS a b).1, by rw [D.Is.length (α := Bool), (sS a b).2, (sI a b).2, List.length_set]; omega⟩
    have n10 : 0 ≤ n ∧ n = n ∧ ((1 : Nat) : Int) * n ≤ 281474976710656 ∧ n ≤ 9223372036854775807 := ⟨by omega, rfl, by omega, by omega⟩
    have n11 : n ≤ 8 := by omega
    have n12 : ∀ a b c e, (D.slc a 1 (List.append (D.rows (D.slc b 1 [])) (D.rows d))).Is Int ∧ (D.slc c 1 (List.append (D.rows (D.slc e 1 [])) (D.rows s))).Is Bool ∧ n ≤ 8 := fun a b c e => ⟨(dI a b).1, (sI c e).1, by omega⟩
    have sd : ∀ a b, Stands Int (.dat (D.setCells (D.slc a 1 (List.append (D.rows (D.slc b 1 [])) (D.rows d))) (Int.toNat mf) 0 [D.int .i64 mv])) ((d.to Int).set mf.toNat mv) := fun a b => stands_dat (dS a b).1 (by rw [(dS a b).2, (dI a b).2])
    have ss : ∀ a b, Stands Bool (.dat (D.setCells (D.slc a 1 (List.append (D.rows (D.slc b 1 [])) (D.rows s))) (Int.toNat mf) 0 [D.bool true])) ((s.to Bool).set mf.toNat true) := fun a b => stands_dat (sS a b).1 (by rw [(sS a b).2, (sI a b).2])
    have cd' : ∀ a b, Stands Int (.dat (D.slc a 1 (List.append (D.rows (D.slc b 1 [])) (D.rows d)))) (d.to Int) := fun a b => stands_dat (dI a b).1 (dI a b).2
    have cs' : ∀ a b, Stands Bool (.dat (D.slc a 1 (List.append (D.rows (D.slc b 1 [])) (D.rows s)))) (s.to Bool) := fun a b => stands_dat (sI a b).1 (sI a b).2
    simp only [hg', ha', fun a b => (dI a b).2, fun a b => (sI a b).2]
    simp only [CoD.co, MsgD.msg]
    rw [E0]
    clear E0 ha' hg' dI sI dS sS cd cs l1 l2 l1' l2' hg ha bad b1 hi hi' hck
    repeat' first
      | exact n11
      | refine ⟨n1 _, ?_⟩
      | refine ⟨n2 _, ?_⟩
      | refine ⟨n3, ?_⟩
      | refine ⟨b2, ?_⟩
      | refine ⟨n5 _ _, ?_⟩
      | refine ⟨n6 _ _, ?_⟩
      | refine ⟨n7 _ _, ?_⟩
      | refine ⟨n8 _ _, ?_⟩
      | refine ⟨n9 _ _, ?_⟩
      | refine ⟨⟨n10.1, trivial, n10.2.2⟩, ?_⟩
      | refine ⟨n11, ?_⟩
      | refine ⟨n12 _ _ _ _, ?_⟩
      | refine ⟨fun hc => ?_, fun hc => ?_⟩
      | with_reducible refine holds_all.2 fun _ => ?_
      | fail
    all_goals (
      apply ret_co2
      case hx => first | exact stands_like | exact stands_self hd | exact sd _ _ | exact cd' _ _
      case hy => first | exact stands_like | exact stands_self hs | exact ss _ _ | exact cs' _ _ | exact falses_rows _
      case hv => first | exact fun _ => rfl | exact lb_den
      case hz => first | exact stands_nils | exact stands_like)
    all_goals (clear n1 n2 n3 n5 n6 n7 n8 n9 n10 n12 sd ss cd' cs' b2 hd hs)
    all_goals (simp only [collGo, gt_iff_lt, ge_iff_le, decide_eq_true_eq, decide_eq_false_iff_not, bne_iff_ne, ne_eq, bne_eq_false_iff_eq, Bool.not_eq_true', Bool.not_eq_false', Decidable.not_not] at *)
    all_goals (cases g <;> cases al <;> (try simp only [reduceCtorEq] at *) <;> (repeat' split) <;> first | rfl | (exfalso; omega) | (exfalso; simp only [and_true, and_false, or_true, or_false, not_true, not_false_iff] at *; done) | (exfalso; simp only [and_true, and_false, or_true, or_false] at *; omega) | skip)
end Go.Proofs.Ytoechplbhbalaaa
end
section
/- Layer 21: the law of Collect. -/
open Go Go.Proofs Sx
namespace Go.Proofs.Ytoechplbhbalaaa
set_option maxRecDepth 100000
set_option maxHeartbeats 0
section
variable {w : World} {H : HV} {n r p dl : Int} {v : Bool} {d s : D} {res : Co × List Msg}

theorem all_snoc {l : List Bool} {j : Nat} (h : j < l.length) : (l.take (j + 1)).all id = ((l.take j).all id && l[j]) := by
  rw [List.take_succ_eq_append_getElem h, List.all_append]; simp

theorem seen62 (hd : d.Is Int) (hs : s.Is Bool) (hn : 1 ≤ n ∧ n ≤ 8) (hl : (s.to Bool).length ≤ 1048575)
    (hres : res = if (s.to Bool).all id = true then (⟨n, r, 2, dl, d.to Int, List.replicate n.toNat false, v⟩, msgsTo n r 3) else (⟨n, r, p, dl, d.to Int, s.to Bool, v⟩, [])) :
    Runs Try.prog ⟨w, H⟩ (seenC fr62 n r p dl (.bool v) d s) (RetD w H fun ds => .tup [coSV (ds 0) (ds 1) res.1, .dat ((ds 2).like res.2)]) := by
  apply goS_sound ctMOk (fun _ => false) [(83, 15)] 800
  rw [sn62_in]
  have hl2 := D.Is.length (α := Bool) s
  refine runs_loop (fun q : Nat × Nat × Nat => seenL fr62l n r p dl (.bool v) d s q.2.1 q.2.2 q.1)
    (fun q => q.1 ≤ (s.to Bool).length ∧ q.2.1 ≤ q.1 ∧ q.2.2 ≤ q.1 ∧ (q.2.1 = 0 ↔ ((s.to Bool).take q.1).all id = true)) (fun q => (s.to Bool).length - q.1) (fun _ => rfl) ?_ (0, 0, 0) ⟨Nat.zero_le _, Nat.le_refl _, Nat.le_refl _, by simp⟩
  intro ⟨j, x, y⟩ ⟨h1, h2, h3, h4⟩ ih
  simp only at h1 h2 h3 h4
  apply goS_sound ctMOk (fun _ => false) [(83, 15)] 800
  rw [sl62_go]
  refine ⟨fun hc => ?_, fun hc => ?_⟩
  · simp [hl2] at hc
    obtain ⟨c1, c2, c3⟩ := bool_at hs hc
    rw [c3]
    refine ⟨c1, ⟨c2, c1.2.2⟩, fun hb => ⟨by omega, by omega, ?_⟩, fun hb => ⟨by omega, by omega, ?_⟩⟩
    · have := ih (j + 1, x, y + 1) ⟨hc, by simp only; omega, by simp only; omega, by rw [all_snoc hc, hb, Bool.and_true]; exact h4⟩ (by simp only; omega)
      simp only at this
      rw [← wrap_succ hc (by omega), ← wrap_succ (n := (s.to Bool).length) (by omega) (by omega)] at this
      exact this
    · have := ih (j + 1, x + 1, y) ⟨hc, by simp only; omega, by simp only; omega, by rw [all_snoc hc, hb, Bool.and_false]; simp⟩ (by simp only; omega)
      simp only at this
      rw [← wrap_succ hc (by omega), ← wrap_succ (n := (s.to Bool).length) (by omega) (by omega)] at this
      exact this
  · simp [hl2] at hc
    have : j = (s.to Bool).length := by omega
    subst this
    rw [List.take_length] at h4
    refine ⟨by omega, fun hx => ?_, fun hx hs1 => ⟨⟨by omega, rfl, by omega, by omega⟩, by omega, fun hs2 => ?_⟩⟩
    · have hx : ¬ x = 0 := by simpa using hx
      exact ret_co2 (stands_self hd) (stands_self hs) (fun _ => rfl) stands_nils (by rw [hres, if_neg (fun h => hx (h4.2 h))])
    · have hx : x = 0 := by simpa using hx
      exact ret_co2 (stands_self hd) (falses_rows _) (fun _ => rfl) stands_like (by rw [hres, if_pos (h4.1 hx)])

theorem seen63 (hd : d.Is Int) (hs : s.Is Bool) (hl : (s.to Bool).length ≤ 1048575)
    (hres : res = if (s.to Bool).all id = true then (⟨n, r, 0, dl, d.to Int, s.to Bool, true⟩, []) else (⟨n, r, p, dl, d.to Int, s.to Bool, v⟩, [])) :
    Runs Try.prog ⟨w, H⟩ (seenC fr63 n r p dl (.bool v) d s) (RetD w H fun ds => .tup [coSV (ds 0) (ds 1) res.1, .dat ((ds 2).like res.2)]) := by
  apply goS_sound ctMOk (fun _ => false) [(83, 15)] 800
  rw [sn63_in]
  have hl2 := D.Is.length (α := Bool) s
  refine runs_loop (fun q : Nat × Nat × Nat => seenL fr63l n r p dl (.bool v) d s q.2.1 q.2.2 q.1)
    (fun q => q.1 ≤ (s.to Bool).length ∧ q.2.1 ≤ q.1 ∧ q.2.2 ≤ q.1 ∧ (q.2.1 = 0 ↔ ((s.to Bool).take q.1).all id = true)) (fun q => (s.to Bool).length - q.1) (fun _ => rfl) ?_ (0, 0, 0) ⟨Nat.zero_le _, Nat.le_refl _, Nat.le_refl _, by simp⟩
  intro ⟨j, x, y⟩ ⟨h1, h2, h3, h4⟩ ih
  simp only at h1 h2 h3 h4
  apply goS_sound ctMOk (fun _ => false) [(83, 15)] 800
  rw [sl63_go]
  refine ⟨fun hc => ?_, fun hc => ?_⟩
  · simp [hl2] at hc
    obtain ⟨c1, c2, c3⟩ := bool_at hs hc
    rw [c3]
    refine ⟨c1, ⟨c2, c1.2.2⟩, fun hb => ⟨by omega, by omega, ?_⟩, fun hb => ⟨by omega, by omega, ?_⟩⟩
    · have := ih (j + 1, x, y + 1) ⟨hc, by simp only; omega, by simp only; omega, by rw [all_snoc hc, hb, Bool.and_true]; exact h4⟩ (by simp only; omega)
      simp only at this
      rw [← wrap_succ hc (by omega), ← wrap_succ (n := (s.to Bool).length) (by omega) (by omega)] at this
      exact this
    · have := ih (j + 1, x + 1, y) ⟨hc, by simp only; omega, by simp only; omega, by rw [all_snoc hc, hb, Bool.and_false]; simp⟩ (by simp only; omega)
      simp only at this
      rw [← wrap_succ hc (by omega), ← wrap_succ (n := (s.to Bool).length) (by omega) (by omega)] at this
      exact this
  · simp [hl2] at hc
    have : j = (s.to Bool).length := by omega
    subst this
    rw [List.take_length] at h4
    refine ⟨by omega, fun hx => ?_, fun hx => ?_⟩
    · have hx : x = 0 := by simpa using hx
      exact ret_co2 (stands_self hd) (stands_self hs) lb_den stands_nils (by rw [hres, if_pos (h4.1 hx)])
    · have hx : ¬ x = 0 := by simpa using hx
      exact ret_co2 (stands_self hd) (stands_self hs) (fun _ => rfl) stands_nils (by rw [hres, if_neg (fun h => hx (h4.2 h))])

theorem frz_run (hd : d.Is Int) (hs : s.Is Bool) {mk mf mto mn mv me : Int} {ml mb : D} (hn : 1 ≤ n ∧ n ≤ 8) (l1 : ((d.to Int).length : Int) = n) (l2 : ((s.to Bool).length : Int) = n) (hf : 0 ≤ mf ∧ mf < n) (hk : mk = 2)
    (hres : res = collGo ⟨n, r, p, dl, d.to Int, s.to Bool, v⟩ ⟨mk, mf, mto, mn, mv, me, ml.to Int, mb.to Byte⟩ ((s.to Bool).getD mf.toNat true) (((s.to Bool).set mf.toNat true).all id)) :
    Runs Try.prog ⟨w, H⟩ (frzC n r p dl (.bool v) d s mk mf mto mn mv me ml mb) (RetD w H fun ds => .tup [coSV (ds 0) (ds 1) res.1, .dat ((ds 2).like res.2)]) := by
  have hi : mf.toNat < (s.to Bool).length := by omega
  have hi' : mf.toNat < (d.to Int).length := by omega
  have k1 := D.Is.length (α := Int) d
  have k2 := D.Is.length (α := Bool) s
  obtain ⟨b1, b2⟩ := bool_cell hs hi
  have hg : (s.to Bool).getD mf.toNat true = (s.to Bool)[mf.toNat] := by simp [hi]
  apply goS_sound ctMOk (fun _ => false) [(83, 15)] 800
  rw [frz_go, b1]
  have bad : (p ≠ 1 ∨ mv < 0 ∨ mv > 4096 ∨ (s.to Bool)[mf.toNat] = true) → res = (⟨n, r, p, dl, d.to Int, s.to Bool, v⟩, []) := fun h => by
    rw [hres, collGo, if_pos hk, hg, if_pos h]
  have n3 : 0 ≤ mf ∧ mf < (s.len : Int) ∧ s.sz = 1 := ⟨by omega, by omega, hs.size hi⟩
  have n3' : 0 ≤ mf ∧ mf < (d.len : Int) ∧ d.sz = 1 := ⟨by omega, by omega, hd.size hi'⟩
  have n4 : s.HasCell (Int.toNat mf) 0 .bool ∧ s.sz = 1 := ⟨b2, n3.2.2⟩
  have n5 : Int.toNat mf < s.len ∧ 1 ≤ s.sz ∧ s.sz = 1 := ⟨by omega, by omega, n3.2.2⟩
  have n5' : Int.toNat mf < d.len ∧ 1 ≤ d.sz ∧ d.sz = 1 := ⟨by omega, by omega, n3'.2.2⟩
  obtain ⟨dS, dT⟩ := set_one (c := .int .i64 mv) (x := mv) hd hi' rfl ⟨_, rfl⟩ rfl
  obtain ⟨sS, sT⟩ := set_one (c := .bool true) (x := true) hs hi rfl ⟨_, rfl⟩ rfl
  intro hs0
  refine ⟨fun h1 => ?_, fun h1 => ⟨fun h2 => ?_, fun h2 => ⟨fun h3 => ?_, fun h3 => ?_⟩⟩⟩
  · repeat' first | refine ⟨by assumption, ?_⟩ | fail
    simp only [bne_iff_ne] at h1
    exact ret_co2 (stands_self hd) (stands_self hs) (fun _ => rfl) stands_nils (bad (.inl h1))
  · repeat' first | refine ⟨by assumption, ?_⟩ | fail
    simp only [decide_eq_true_eq] at h2
    exact ret_co2 (stands_self hd) (stands_self hs) (fun _ => rfl) stands_nils (bad (.inr (.inl h2)))
  · repeat' first | refine ⟨by assumption, ?_⟩ | fail
    simp only [decide_eq_true_eq] at h3
    exact ret_co2 (stands_self hd) (stands_self hs) (fun _ => rfl) stands_nils (bad (.inr (.inr (.inl h3))))
  · repeat' first | refine ⟨by assumption, ?_⟩ | fail
    refine ⟨fun h4 => ?_, fun h4 hs1 => ⟨n3', n5', n3, n5, ?_⟩⟩
    · exact ret_co2 (stands_self hd) (stands_self hs) (fun _ => rfl) stands_nils (bad (.inr (.inr (.inr h4))))
    · refine seen62 dS sS hn (by rw [sT, List.length_set]; omega) ?_
      rw [hres, collGo, if_pos hk, hg]
      simp only [bne_eq_false_iff_eq] at h1
      simp only [decide_eq_false_iff_not] at h2 h3
      rw [if_neg (by rw [h4]; simp only [ne_eq, h1]; simp; omega), dT, sT]

theorem thw_run (hd : d.Is Int) (hs : s.Is Bool) {mk mf mto mn mv me : Int} {ml mb : D} (hn : 1 ≤ n ∧ n ≤ 8) (l2 : ((s.to Bool).length : Int) = n) (hf : 0 ≤ mf ∧ mf < n) (hk2 : ¬mk = 2) (hk : mk = 4) {g : Bool}
    (hres : res = collGo ⟨n, r, p, dl, d.to Int, s.to Bool, v⟩ ⟨mk, mf, mto, mn, mv, me, ml.to Int, mb.to Byte⟩ g (((s.to Bool).set mf.toNat true).all id)) :
    Runs Try.prog ⟨w, H⟩ (thwC n r p dl (.bool v) d s mk mf mto mn mv me ml mb) (RetD w H fun ds => .tup [coSV (ds 0) (ds 1) res.1, .dat ((ds 2).like res.2)]) := by
  have hi : mf.toNat < (s.to Bool).length := by omega
  have k2 := D.Is.length (α := Bool) s
  apply goS_sound ctMOk (fun _ => false) [(83, 15)] 800
  rw [thw_go]
  have n3 : 0 ≤ mf ∧ mf < (s.len : Int) ∧ s.sz = 1 := ⟨by omega, by omega, hs.size hi⟩
  have n5 : Int.toNat mf < s.len ∧ 1 ≤ s.sz ∧ s.sz = 1 := ⟨by omega, by omega, n3.2.2⟩
  obtain ⟨sS, sT⟩ := set_one (c := .bool true) (x := true) hs hi rfl ⟨_, rfl⟩ rfl
  refine ⟨fun h1 => ?_, fun h1 => ⟨fun h2 => ⟨by omega, fun hs1 => ?_⟩, fun h2 => ⟨n3, n5, ?_⟩⟩⟩
  · simp only [bne_iff_ne] at h1
    exact ret_co2 (stands_self hd) (stands_self hs) (fun _ => rfl) stands_nils (by rw [hres, collGo, if_neg hk2, if_pos hk, if_pos h1])
  · simp only [bne_iff_ne] at h2
    simp only [bne_eq_false_iff_eq] at h1
    exact ret_co2 (stands_self hd) (stands_self hs) lb_den stands_like (by rw [hres, collGo, if_neg hk2, if_pos hk, if_neg (not_not_intro h1), if_pos h2])
  · simp only [bne_eq_false_iff_eq] at h1 h2
    refine seen63 hd sS (by rw [sT, List.length_set]; omega) ?_
    rw [hres, collGo, if_neg hk2, if_pos hk, if_neg (not_not_intro h1), if_neg (not_not_intro h2), sT]
end

theorem lawColl1 : Law Try.prog 27 ((rdCo.three rdInt rdMsg).sp spColl) := by
  refine law_in _ (by kernel_rfl) fun H w ⟨⟨n, r, p, dl, d, s, v⟩, now, ⟨mk, mf, mto, mn, mv, me, ml, mb⟩⟩ hok hp => ?_
  obtain ⟨hd, hs⟩ := hp _ (List.mem_singleton.2 rfl)
  simp only at hd hs
  clear hp hok
  apply goS_sound ctMOk (fun _ => false) [(62, 3), (63, 3), (83, 15)] 800
  rw [show (rdCo.three rdInt rdMsg).canon (⟨n, r, p, dl, d, s, v⟩, now, ⟨mk, mf, mto, mn, mv, me, ml, mb⟩) = [.agg [.int .i64 n, .int .i64 r, .int .i64 p, .int .i64 dl, .dat d, .dat s, .bool v], .int .i64 now, .agg [.int .i64 mk, .int .i64 mf, .int .i64 mto, .int .i64 mn, .int .i64 mv, .int .i64 me, .dat ml, .dat mb]] from rfl, coll1_in]
  have bad : (¬checkCo ⟨n, r, p, dl, d.to Int, s.to Bool, v⟩ = 0 ∨ p = 0 ∨ now ≥ dl ∨ mf < 0 ∨ mf ≥ n ∨ ¬mn = r) → (Tree.ret (.tup [.agg [.int .i64 n, .int .i64 r, .int .i64 p, .int .i64 dl, .dat d, .dat s, .bool v], .nils])).holds Try.prog ⟨w, H⟩ (RetD w H fun ds =>
      .tup [coSV (ds 0) (ds 1) (collectCo ⟨n, r, p, dl, d.to Int, s.to Bool, v⟩ now ⟨mk, mf, mto, mn, mv, me, ml.to Int, mb.to Byte⟩).1, .dat ((ds 2).like (collectCo ⟨n, r, p, dl, d.to Int, s.to Bool, v⟩ now ⟨mk, mf, mto, mn, mv, me, ml.to Int, mb.to Byte⟩).2)]) :=
    fun h => ret_co2 (stands_self hd) (stands_self hs) (fun _ => rfl) stands_nils (coll_bad h)
  refine ⟨⟨hd, hs⟩, fun h1 => ?_, fun h1 => ⟨fun h2 => ?_, fun h2 => ⟨fun h3 => ?_, fun h3 => ⟨fun h4 => ?_, fun h4 => ⟨fun h5 => ?_, fun h5 => ⟨fun h6 => ?_, fun h6 hs0 => ?_⟩⟩⟩⟩⟩⟩
  · simp only [bne_iff_ne, ne_eq] at h1
    exact bad (.inl h1)
  · simp only [decide_eq_true_eq] at h2
    exact bad (.inr (.inl h2))
  · simp only [decide_eq_true_eq] at h3
    exact bad (.inr (.inr (.inl h3)))
  · simp only [decide_eq_true_eq] at h4
    exact bad (.inr (.inr (.inr (.inl h4))))
  · simp only [decide_eq_true_eq] at h5
    exact bad (.inr (.inr (.inr (.inr (.inl h5)))))
  · simp only [bne_iff_ne, ne_eq] at h6
    exact bad (.inr (.inr (.inr (.inr (.inr h6)))))
  · simp only [bne_eq_false_iff_eq] at h1 h6
    simp only [decide_eq_false_iff_not] at h2 h3 h4 h5
    have hck : checkCo ⟨n, r, p, dl, d.to Int, s.to Bool, v⟩ = 0 := h1
    clear h1
    have hz := checkCo_zero.1 hck
    have l1 := D.Is.length (α := Int) d
    have l2 := D.Is.length (α := Bool) s
    have E0 : collectCo ⟨n, r, p, dl, d.to Int, s.to Bool, v⟩ now ⟨mk, mf, mto, mn, mv, me, ml.to Int, mb.to Byte⟩ = collGo ⟨n, r, p, dl, d.to Int, s.to Bool, v⟩ ⟨mk, mf, mto, mn, mv, me, ml.to Int, mb.to Byte⟩ ((s.to Bool).getD mf.toNat true) (((s.to Bool).set mf.toNat true).all id) :=
      coll_go (by simp only [hck, not_true_eq_false, false_or]; omega) rfl rfl
    obtain ⟨dI, dT⟩ := is_of (h := D.hd (hs0 2 0)) (s := 1) rfl (rows_of hd)
    obtain ⟨sI, sT⟩ := is_of (h := D.hd (hs0 5 0)) (s := 1) rfl (rows_of hs)
    refine ⟨⟨hd, by omega⟩, ⟨hs, by omega⟩, fun k1 => ?_, fun k1 => ⟨fun k2 => ?_, fun k2 => ?_⟩⟩
    · simp only [decide_eq_true_eq] at k1
      exact frz_run dI sI hz.1 (by rw [dT]; exact hz.2.2.2.2.1) (by rw [sT]; exact hz.2.2.2.2.2.1) (by omega) k1 (by rw [dT, sT]; exact E0)
    · simp only [decide_eq_true_eq] at k2
      simp only [decide_eq_false_iff_not] at k1
      exact thw_run dI sI hz.1 (by rw [sT]; exact hz.2.2.2.2.2.1) (by omega) k1 k2 (by rw [dT, sT]; exact E0)
    · simp only [decide_eq_false_iff_not] at k1 k2
      exact ret_co2 (stands_self hd) (stands_self hs) (fun _ => rfl) stands_nils (by rw [show (CoD.mk n r p dl d s v).co = ⟨n, r, p, dl, d.to Int, s.to Bool, v⟩ from rfl]; exact E0.trans (by rw [collGo, if_neg k1, if_neg k2]))
end Go.Proofs.Ytoechplbhbalaaa
end
section
/- Contracts whose results are literal rows. -/
namespace Sx
open Go RowKit

/-- Rows that are literal, over the skeleton of a slice. -/
class Plain (α : Type) [Codec α] where
  cells : D → Nat → α → List D
  right : ∀ d i r, d.rows[i]? = some r → Codec.ok α r → cells d i (Codec.dec r) = r

section
variable {α : Type} [Codec α] [Plain α]

def plainRows (d : D) : Nat → List α → List (List D)
  | _, [] => []
  | i, x :: r => Plain.cells d i x :: plainRows d (i + 1) r

def D.plain (d : D) (l : List α) : D :=
  .slc d.hd (match l with | [] => d.sz | _ :: _ => Codec.sz α) (plainRows d 0 l)

theorem plainRows_eq (d : D) : ∀ (rows : List (List D)) (i : Nat), (∀ j, (h : j < rows.length) → d.rows[i + j]? = some rows[j]) → (∀ r, r ∈ rows → Codec.ok α r) →
    plainRows d i (rows.map (Codec.dec (α := α))) = rows
  | [], _, _, _ => rfl
  | r :: rs, i, h, ho => by
    simp only [List.map_cons, plainRows]
    rw [Plain.right d i r (h 0 (by simp)) (ho r (by simp)), plainRows_eq d rs (i + 1) (fun j hj => by have := h (j + 1) (by simpa using hj); simpa [Nat.add_assoc, Nat.add_comm 1 j] using this) fun r' hr' => ho r' (by simp [hr'])]

theorem plain_self {d : D} (h : d.Is α) : d.plain (d.to α) = d := by
  obtain ⟨a, b, c, rfl, h1, h2⟩ := h
  unfold D.plain D.to
  simp only [D.rows, D.hd]
  rw [plainRows_eq (α := α) (.slc a b c) c 0 (fun j hj => by simp [D.rows, hj]) h2]
  cases c with
  | nil => rfl
  | cons x r => rcases h1 with h1 | h1
                · cases h1
                · subst h1; rfl

theorem plain_like (d : D) (l : List α) : (d.like l).plain l = d.like l := by
  have := plain_self (D.like_is d l)
  rwa [D.like_to] at this
end

instance : Plain Int where
  cells _ _ n := [.int .i64 n]
  right d i r _ h := by obtain ⟨n, rfl⟩ := h; rfl

instance : Plain Byte where
  cells _ _ n := [.int .u8 n.n]
  right d i r _ h := by obtain ⟨n, rfl⟩ := h; rfl

/-- Rows of numbers, seen. -/
def intRows : List (List D) → Bool
  | [] => true
  | r :: rs => match r with
    | [.int .i64 _] => intRows rs
    | _ => false
def D.allInt (d : D) : Bool :=
  match d with
  | .slc _ s rows => (match rows with | [] => true | _ :: _ => s == 1) && intRows rows
  | _ => false
theorem intRows_ok : ∀ (rows : List (List D)), intRows rows = true → ∀ r, r ∈ rows → Codec.ok Int r
  | [], _, r, h => by cases h
  | x :: rs, h, r, hr => by
    unfold intRows at h
    split at h
    · rcases List.mem_cons.1 hr with rfl | hr
      · exact ⟨_, rfl⟩
      · exact intRows_ok rs h r hr
    · cases h
theorem allInt_is {d : D} (h : d.allInt = true) : d.Is Int := by
  unfold D.allInt at h
  split at h
  · rename_i a s rows
    simp only [Bool.and_eq_true] at h
    refine ⟨_, _, _, rfl, ?_, intRows_ok _ h.2⟩
    cases rows with
    | nil => exact .inl rfl
    | cons x r => right; simpa using h.1
  · cases h

/-- A law, said otherwise. -/
theorem law_alt {P : Program} {f : FuncId} {β : Type} {r : Rd β} {sp sp' : β → SpecR} (h : Law P f (r.sp sp))
    (hh : ∀ b, match sp' b with
      | .no => True
      | .data ps' g' => ∃ ps g, sp b = .data ps g ∧ ((∀ p, p ∈ ps' → p) → ∀ p, p ∈ ps → p) ∧ ∀ ds, ∃ ds', g' ds' = g ds
      | .scalar ps' v' => ∃ ps v, sp b = .scalar ps v ∧ ((∀ p, p ∈ ps' → p) → ∀ p, p ∈ ps → p) ∧ v' = v) : Law P f (r.sp sp') := by
  refine ⟨h.1, fun H E args hargs => ?_⟩
  have h2 := h.2 H E args hargs
  unfold Rd.sp at h2 ⊢
  cases hr : r.read args with
  | none => trivial
  | some b =>
    have hb := hh b
    rw [hr] at h2
    simp only at h2 ⊢
    cases hs : sp' b with
    | no => trivial
    | scalar ps' v' =>
      rw [hs] at hb
      obtain ⟨ps, v, e, h3, rfl⟩ := hb
      rw [e] at h2
      exact fun hp => h2 (h3 hp)
    | data ps' g' =>
      rw [hs] at hb
      obtain ⟨ps, g, e, h3, h4⟩ := hb
      rw [e] at h2
      intro hp w hw
      refine Calls.mono (h2 (h3 hp) w hw) fun e w' ⟨u, H', h5, h6, hs', h7, h8⟩ => ?_
      obtain ⟨ds', h9⟩ := h4 hs'
      exact ⟨u, H', h5, h6, ds', by rw [h9]; exact h7, by rw [h9]; exact h8⟩
end Sx
end
section
/- Trees whose questions are decided. -/
namespace Sx
open Go

/-- The tree with each question replaced by its answer. -/
noncomputable def Tree.dec : Tree → Tree
  | .leaf c => .leaf c
  | .ret v => .ret v
  | .br b t f => match b with
    | true => t.dec
    | false => f.dec
  | .need p t => .need p t.dec
  | .all f => .all fun hs => (f hs).dec
  | .stuck => .stuck

theorem Tree.dec_holds {P : Program} {C : Ctx} {R : Value → World → Prop} (t : Tree) : t.dec.holds P C R → t.holds P C R := by
  induction t with
  | leaf _ => exact id
  | ret _ => exact id
  | br b t f iht ihf =>
    intro h
    cases b with
    | true => exact ⟨fun _ => iht h, fun h' => absurd h' (by decide)⟩
    | false => exact ⟨fun h' => absurd h' (by decide), fun _ => ihf h⟩
  | need _ t ih => exact fun h => ⟨h.1, ih h.2⟩
  | all f ih => exact fun h hs => ih hs (h hs)
  | stuck => exact id

theorem dec_sound {P : Program} {C : Ctx} {R : Value → World → Prop} {cs : Ctrs} (hcs : cs.Ok P) (U : FuncId → Bool) (n : Nat) (c : Conf) {t : Tree}
    (e : (execU P cs U n c).dec = t) (h : t.holds P C R) : Runs P C c R :=
  execU_sound hcs U n c (Tree.dec_holds _ (by rw [e]; exact h))
end Sx
end
section
/- Layer 21: contracts on literal values. -/
open Go Go.Proofs Sx
namespace Sx
instance : Plain Bool where
  cells _ _ b := [.bool b]
  right d i r _ h := by obtain ⟨n, rfl⟩ := h; rfl
instance : Plain Msg where
  cells d i m := [.int .i64 m.kind, .int .i64 m.frm, .int .i64 m.to, .int .i64 m.number, .int .i64 m.value, .int .i64 m.epoch, (d.cell i 6).plain m.values, (d.cell i 7).plain m.body]
  right d i r h ho := by
    obtain ⟨a, b, c, e, f, g, v, w, rfl, hv, hw⟩ := ho
    obtain ⟨p1, p2, p3, rfl⟩ := hv.slc
    obtain ⟨q1, q2, q3, rfl⟩ := hw.slc
    have e1 : d.cell i 6 = .slc p1 p2 p3 := by simp [D.cell, D.cellAt, h]
    have e2 : d.cell i 7 = .slc q1 q2 q3 := by simp [D.cell, D.cellAt, h]
    simp only [Codec.dec, e1, e2, plain_self hv, plain_self hw]

def pI (d : D) (l : List Int) : D := d.plain l
def pB (d : D) (l : List Bool) : D := d.plain l
noncomputable def pM (d : D) (l : List Msg) : D := d.plain l
theorem pI_like (d : D) (l : List Int) : pI (d.like l) l = d.like l := plain_like d l
theorem pB_like (d : D) (l : List Bool) : pB (d.like l) l = d.like l := plain_like d l
theorem pM_like (d : D) (l : List Msg) : pM (d.like l) l = d.like l := plain_like d l

def boolRows : List (List D) → Bool
  | [] => true
  | r :: rs => match r with
    | [.bool _] => boolRows rs
    | _ => false
def D.allBool (d : D) : Bool :=
  match d with
  | .slc _ s rows => (match rows with | [] => true | _ :: _ => s == 1) && boolRows rows
  | _ => false
theorem boolRows_ok : ∀ (rows : List (List D)), boolRows rows = true → ∀ r, r ∈ rows → Codec.ok Bool r
  | [], _, r, h => by cases h
  | x :: rs, h, r, hr => by
    unfold boolRows at h
    split at h
    · rcases List.mem_cons.1 hr with rfl | hr
      · exact ⟨_, rfl⟩
      · exact boolRows_ok rs h r hr
    · cases h
theorem allBool_is {d : D} (h : d.allBool = true) : d.Is Bool := by
  unfold D.allBool at h
  split at h
  · rename_i a s rows
    simp only [Bool.and_eq_true] at h
    refine ⟨_, _, _, rfl, ?_, boolRows_ok _ h.2⟩
    cases rows with
    | nil => exact .inl rfl
    | cons x r => right; simpa using h.1
  · cases h

def iff (b : Bool) (s : SpecR) : SpecR := match b with | true => s | false => .no

/-- A result that is one of these. -/
def tabD {γ : Type} [DecidableEq γ] (v : γ) : List γ → (γ → SpecR) → SpecR
  | [], _ => .no
  | t :: r, k => match decide (v = t) with
    | true => k t
    | false => tabD v r k
theorem tabD_or {γ : Type} [DecidableEq γ] (v : γ) (k : γ → SpecR) : ∀ l, tabD v l k = .no ∨ tabD v l k = k v
  | [] => .inl rfl
  | t :: r => by
    unfold tabD
    cases h : decide (v = t) with
    | true => right; simp only [decide_eq_true_eq] at h; subst h; rfl
    | false => exact tabD_or v k r

/-- A law with a table. -/
theorem law_tab {P : Program} {f : FuncId} {β : Type} {r : Rd β} {sp : β → SpecR} {γ : Type} [DecidableEq γ] (h : Law P f (r.sp sp)) (c : β → Bool) (v : β → γ) (tab : List γ) (k : γ → SpecR)
    (hh : ∀ b, c b = true → match k (v b) with
      | .no => True
      | .data ps' g' => ∃ ps g, sp b = .data ps g ∧ ((∀ p, p ∈ ps' → p) → ∀ p, p ∈ ps → p) ∧ ∀ ds, ∃ ds', g' ds' = g ds
      | .scalar ps' v' => ∃ ps v, sp b = .scalar ps v ∧ ((∀ p, p ∈ ps' → p) → ∀ p, p ∈ ps → p) ∧ v' = v) :
    Law P f (r.sp fun b => iff (c b) (tabD (v b) tab k)) :=
  law_alt h fun b => by
    unfold iff
    cases hc : c b with
    | false => trivial
    | true =>
      simp only
      rcases tabD_or (v b) k tab with h1 | h1
      · rw [h1]; trivial
      · rw [h1]; exact hh b hc

def coP (d s : D) (c : Co) : SV := .agg [.int .i64 c.nodes, .int .i64 c.round, .int .i64 c.phase, .int .i64 c.deadline, .dat (pI d c.positions), .dat (pB s c.seen), .bool c.valid]
theorem coP_like (d s : D) (c : Co) : coP (d.like c.positions) (s.like c.seen) c = coSV d s c := by simp only [coP, coSV, pI_like, pB_like]
def mbP (w h : D) (m : Mb) : SV := .agg [.int .i64 m.round, .int .i64 m.position, .int .i64 m.thawed, .int .i64 m.issued, .bool m.frozen, .int .i64 m.upto, .dat (pI w m.waiting), .dat (pI h m.held)]
theorem mbP_like (d s : D) (c : Mb) : mbP (d.like c.waiting) (s.like c.held) c = mbSV d s c := by simp only [mbP, mbSV, pI_like]

def coL (x : CoD) : Bool := x.d.allInt && x.s.allBool
theorem coL_is {x : CoD} (h : coL x = true) : x.d.Is Int ∧ x.s.Is Bool := by
  simp only [coL, Bool.and_eq_true] at h
  exact ⟨allInt_is h.1, allBool_is h.2⟩
def mbL (x : MbD) : Bool := (x.w.allInt && x.h.allInt) && (decide (x.w.len ≤ 1048575) && decide (x.h.len ≤ 1048575))
theorem mbL_is {x : MbD} (h : mbL x = true) : x.Right := by
  simp only [mbL, Bool.and_eq_true, decide_eq_true_eq] at h
  exact ⟨allInt_is h.1.1, allInt_is h.1.2, h.2.1, h.2.2⟩

def zMb : Mb := ⟨0, 0, 0, 0, false, 0, [], []⟩
def spNewCT (n : Int) : SpecR := iff true (tabD (newCo n) [(⟨2, 0, 0, 0, [0, 0], [false, false], false⟩, 0)] fun r => .data [] fun ds => .tup [coP (ds 0) (ds 1) r.1, .int .i64 r.2])
noncomputable def spStartT (x : CoD × Int × Int) : SpecR := iff (coL x.1) (tabD (startCo x.1.co x.2.1 x.2.2) [(⟨2, 1, 1, 10, [0, 0], [false, false], false⟩, [⟨1, 2, 0, 1, 0, 0, [], []⟩, ⟨1, 2, 1, 1, 0, 0, [], []⟩], 0)]
  fun r => .data [] fun ds => .tup [coP (ds 0) (ds 1) r.1, .dat (pM (ds 2) r.2.1), .int .i64 r.2.2])
def spIssueT (x : MbD) : SpecR := iff (mbL x) (tabD (issueMb x.mb) [(⟨0, 0, 0, 1, false, 0, [0], []⟩, 0), (⟨0, 0, 0, 2, false, 0, [0, 1], []⟩, 1), (⟨0, 0, 0, 3, false, 0, [0, 1, 2], []⟩, 2)]
  fun r => .data [] fun ds => .tup [mbP (ds 0) (ds 1) r.1, .int .i64 r.2])
noncomputable def spObeyT (x : MbD × Int × Int × MsgD) : SpecR := iff (mbL x.1) (tabD (obeyMb x.1.mb x.2.1 x.2.2.1 x.2.2.2.msg) [(⟨1, 3, 0, 3, true, 11, [0, 1, 2], []⟩, [], [⟨2, 0, 2, 1, 3, 0, [], []⟩]), (⟨1, 0, 0, 0, true, 11, [], []⟩, [], [⟨2, 1, 2, 1, 0, 0, [], []⟩]),
    (⟨1, 3, 1, 3, false, 11, [0, 1, 2], []⟩, [], [⟨4, 0, 2, 1, 1, 0, [], []⟩]), (⟨1, 0, 1, 0, false, 11, [], []⟩, [], [⟨4, 1, 2, 1, 1, 0, [], []⟩])]
  fun r => .data [] fun ds => .tup [mbP (ds 0) (ds 1) r.1, .dat (pI (ds 2) r.2.1), .dat (pM (ds 3) r.2.2)])
noncomputable def spCollT (x : CoD × Int × MsgD) : SpecR := iff (coL x.1) (tabD (collectCo x.1.co x.2.1 x.2.2.msg) [(⟨2, 1, 1, 10, [3, 0], [true, false], false⟩, []), (⟨2, 1, 2, 10, [3, 0], [false, false], false⟩, [⟨3, 2, 0, 1, 0, 0, [], []⟩, ⟨3, 2, 1, 1, 0, 0, [], []⟩]),
    (⟨2, 1, 2, 10, [3, 0], [true, false], false⟩, []), (⟨2, 1, 0, 10, [3, 0], [true, true], true⟩, [])]
  fun r => .data [] fun ds => .tup [coP (ds 0) (ds 1) r.1, .dat (pM (ds 2) r.2)])
def spResT (x : CoD) : SpecR := iff (coL x) (tabD (resultCo x.co) [([3, 0], true)] fun r => .data [] fun ds => .tup [.dat (pI (ds 0) r.1), .bool r.2])
def intsL (x : D × D) : Bool := (x.1.allInt && x.2.allInt) && decide (x.1.len ≤ 1048576)
theorem intsL_is {x : D × D} (h : intsL x = true) : x.1.Is Int ∧ x.2.Is Int ∧ x.1.len ≤ 1048576 := by
  simp only [intsL, Bool.and_eq_true, decide_eq_true_eq] at h
  exact ⟨allInt_is h.1.1, allInt_is h.1.2, h.2⟩
def spSameIT (x : D × D) : SpecR := iff (intsL x) (tabD (decide (x.1.to Int = x.2.to Int)) [true] fun r => .scalar [] (.bool r))
end Sx

namespace Go.Proofs.Ytoechplbhbalaaa
theorem lawNewT : Law Try.prog 19 (rdInt.one.sp spNewCT) :=
  law_tab (lawNew 19 (.inl rfl)) _ _ _ _ fun b _ => ⟨_, _, rfl, id, fun ds => ⟨fun i => match i with | 0 => (ds 0).like (newCo b).1.positions | _ => (ds 1).like (newCo b).1.seen, by simp only [coP_like]⟩⟩
theorem lawStartT : Law Try.prog 13 ((rdCo.three rdInt rdInt).sp spStartT) :=
  law_tab (lawStart 13 (.inl rfl)) _ _ _ _ fun b h => ⟨_, _, rfl, fun _ p hp => by rw [List.mem_singleton.1 hp]; exact coL_is h,
    fun ds => ⟨fun i => match i with | 0 => (ds 0).like (startCo b.1.co b.2.1 b.2.2).1.positions | 1 => (ds 1).like (startCo b.1.co b.2.1 b.2.2).1.seen | _ => (ds 2).like (startCo b.1.co b.2.1 b.2.2).2.1, by simp only [coP_like, pM_like]⟩⟩
theorem lawIssueT : Law Try.prog 36 (rdMb.one.sp spIssueT) :=
  law_tab lawIssue1 _ _ _ _ fun b h => ⟨_, _, rfl, fun _ p hp => by rw [List.mem_singleton.1 hp]; exact mbL_is h,
    fun ds => ⟨fun i => match i with | 0 => (ds 0).like (issueMb b.mb).1.waiting | _ => (ds 1).like (issueMb b.mb).1.held, by simp only [mbP_like]⟩⟩
theorem lawObeyT : Law Try.prog 24 ((rdMb.four rdInt rdInt rdMsg).sp spObeyT) :=
  law_tab lawObey1 _ _ _ _ fun b h => ⟨_, _, rfl, fun _ p hp => by rw [List.mem_singleton.1 hp]; exact mbL_is h,
    fun ds => ⟨fun i => match i with
      | 0 => (ds 0).like (obeyMb b.1.mb b.2.1 b.2.2.1 b.2.2.2.msg).1.waiting
      | 1 => (ds 1).like (obeyMb b.1.mb b.2.1 b.2.2.1 b.2.2.2.msg).1.held
      | 2 => (ds 2).like (obeyMb b.1.mb b.2.1 b.2.2.1 b.2.2.2.msg).2.1 | _ => (ds 3).like (obeyMb b.1.mb b.2.1 b.2.2.1 b.2.2.2.msg).2.2, by simp only [mbP_like, pI_like, pM_like]⟩⟩
theorem lawCollT : Law Try.prog 27 ((rdCo.three rdInt rdMsg).sp spCollT) :=
  law_tab lawColl1 _ _ _ _ fun b h => ⟨_, _, rfl, fun _ p hp => by rw [List.mem_singleton.1 hp]; exact coL_is h,
    fun ds => ⟨fun i => match i with | 0 => (ds 0).like (collectCo b.1.co b.2.1 b.2.2.msg).1.positions | 1 => (ds 1).like (collectCo b.1.co b.2.1 b.2.2.msg).1.seen | _ => (ds 2).like (collectCo b.1.co b.2.1 b.2.2.msg).2, by simp only [coP_like, pM_like]⟩⟩
theorem lawResT : Law Try.prog 21 (rdCo.one.sp spResT) :=
  law_tab (lawRes 21 (.inl rfl)) _ _ _ _ fun b h => ⟨_, _, rfl, fun _ p hp => by rw [List.mem_singleton.1 hp]; exact coL_is h,
    fun ds => ⟨fun _ => (ds 0).like (resultCo b.co).1, by simp only [pI_like]⟩⟩
theorem lawSameIT : Law Try.prog 23 ((rdD.two rdD).sp spSameIT) :=
  law_tab lawSameInts _ _ _ _ fun b h => ⟨_, _, rfl, fun _ p hp => by
    rw [List.mem_singleton.1 hp]; exact intsL_is h, rfl⟩

noncomputable def ctT : Ctrs := [(13, ctrOf ((rdCo.three rdInt rdInt).sp spStartT)), (19, ctrOf (rdInt.one.sp spNewCT)), (21, ctrOf (rdCo.one.sp spResT)), (23, ctrOf ((rdD.two rdD).sp spSameIT)),
  (24, ctrOf ((rdMb.four rdInt rdInt rdMsg).sp spObeyT)), (27, ctrOf ((rdCo.three rdInt rdMsg).sp spCollT)), (36, ctrOf (rdMb.one.sp spIssueT))]

theorem ctTOk : Ctrs.Ok Try.prog ctT := by
  intro x hx
  simp only [ctT, List.mem_cons, List.not_mem_nil, or_false] at hx
  rcases hx with rfl | rfl | rfl | rfl | rfl | rfl | rfl
  · exact ctrOf_ok lawStartT
  · exact ctrOf_ok lawNewT
  · exact ctrOf_ok lawResT
  · exact ctrOf_ok lawSameIT
  · exact ctrOf_ok lawObeyT
  · exact ctrOf_ok lawCollT
  · exact ctrOf_ok lawIssueT
end Go.Proofs.Ytoechplbhbalaaa
end
