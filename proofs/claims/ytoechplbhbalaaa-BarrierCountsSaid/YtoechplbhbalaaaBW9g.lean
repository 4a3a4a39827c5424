/- Layer 21: Collect, walked. -/
import Derived.KernelRfl
import Derived.Test.YtoechplbhbalaaaBW6gtoBW7g
import Derived.Test.YtoechplbhbalaaaBW8gtoSp
set_option linter.all false
open Go Go.Proofs Sx
namespace Go.Proofs.Ytoechplbhbalaaa
set_option maxRecDepth 100000
set_option maxHeartbeats 0
noncomputable def msgV (mk mf mto mn mv me : Int) (ml mb : D) : SV := .agg [.int .i64 mk, .int .i64 mf, .int .i64 mto, .int .i64 mn, .int .i64 mv, .int .i64 me, .dat ml, .dat mb]
noncomputable def colM (n r p dl : Int) (v : SV) (ps ss : D) : Mem := [(0, .cells 111 [.int .i64 n, .int .i64 r, .int .i64 p, .int .i64 dl, .vec 2, .vec 3, v]),
  (1, .cells 25 [.int .i64 0, .int .i64 0, .int .i64 0, .int .i64 0, .nils, .nils, .lb false]), (2, .arr 3 ps), (3, .arr 4 ss)]
noncomputable def fr27 : SFrm := SFrm.mk 27 (some (opsAt Try.prog 27 [1, 1, 1, 1, 1, 0], [3])) (some 65) [Item.code (cAt Try.prog 27 [1, 1, 1, 1, 1, 1])] (mkJ 0 [(6, .ptr 1 0), (8, .ptr 0 0)] 0 71)
noncomputable def frzC (n r p dl : Int) (v : SV) (ps ss : D) (mk mf mto mn mv me : Int) (ml mb : D) : Conf := Conf.mk (SFrm.mk 62 none none [Item.code (cAt Try.prog 62 [0]), Item.code (cAt Try.prog 62 [1])]
  (mkJ 1 [(0, .ptr 0 0), (1, msgV mk mf mto mn mv me ml mb)] 0 63)) [fr27] (colM n r p dl v ps ss)
noncomputable def thwC (n r p dl : Int) (v : SV) (ps ss : D) (mk mf mto mn mv me : Int) (ml mb : D) : Conf := Conf.mk (SFrm.mk 63 none none [Item.code (cAt Try.prog 63 [0]), Item.code (cAt Try.prog 63 [1])]
  (mkJ 1 [(0, .ptr 0 0), (1, msgV mk mf mto mn mv me ml mb)] 0 28)) [fr27] (colM n r p dl v ps ss)
noncomputable def fr62 : SFrm := SFrm.mk 62 (some (opsAt Try.prog 62 [1, 1, 1, 0, 0], [4])) (some 45) [Item.code (cAt Try.prog 62 [1, 1, 1, 0, 1]), Item.code (cAt Try.prog 62 [1, 1, 1, 1])] (mkJ 1 [(0, .ptr 0 0)] 0 63)
noncomputable def fr63 : SFrm := SFrm.mk 63 (some (opsAt Try.prog 63 [1, 1, 1, 0, 0], [])) (some 19) [Item.code (cAt Try.prog 63 [1, 1, 1, 0, 1]), Item.code (cAt Try.prog 63 [1, 1, 1, 1])] (mkJ 1 [(0, .ptr 0 0)] 0 28)
noncomputable def fr27b : SFrm := SFrm.mk 27 (some (opsAt Try.prog 27 [1, 1, 1, 1, 1, 0], [3])) (some 65) [Item.code (cAt Try.prog 27 [1, 1, 1, 1, 1, 1])] (mkJ 0 [(6, .ptr 2 0), (8, .ptr 0 0)] 0 71)
noncomputable def seenC (K : SFrm) (n r p dl : Int) (v : SV) (ps ss : D) : Conf := Conf.mk (SFrm.mk 83 none none [Item.code (cAt Try.prog 83 [1, 1, 1, 0, 0]), Item.code (cAt Try.prog 83 [1, 1, 1, 0, 1]), Item.code (cAt Try.prog 83 [1, 1, 1, 1])]
  (mkJ 2 [(0, .ptr 0 0), (5, .ptr 1 0)] 0 38)) [K, fr27b] [(0, .cells 111 [.int .i64 n, .int .i64 r, .int .i64 p, .int .i64 dl, .vec 3, .vec 4, v]), (1, .cells 156 [.int .i64 0, .int .i64 0]),
  (2, .cells 25 [.int .i64 0, .int .i64 0, .int .i64 0, .int .i64 0, .nils, .nils, .lb false]), (3, .arr 3 ps), (4, .arr 4 ss)]
noncomputable def fr62l : SFrm := SFrm.mk 62 (some (opsAt Try.prog 62 [1, 1, 1, 0, 0], [4])) (some 45) [Item.code (cAt Try.prog 62 [1, 1, 1, 0, 1]), Item.code (cAt Try.prog 62 [1, 1, 1, 1])] (mkJ 1 [(0, .ptr 2 0)] 0 63)
noncomputable def fr63l : SFrm := SFrm.mk 63 (some (opsAt Try.prog 63 [1, 1, 1, 0, 0], [])) (some 19) [Item.code (cAt Try.prog 63 [1, 1, 1, 0, 1]), Item.code (cAt Try.prog 63 [1, 1, 1, 1])] (mkJ 1 [(0, .ptr 2 0)] 0 28)
noncomputable def fr27l : SFrm := SFrm.mk 27 (some (opsAt Try.prog 27 [1, 1, 1, 1, 1, 0], [3])) (some 65) [Item.code (cAt Try.prog 27 [1, 1, 1, 1, 1, 1])] (mkJ 0 [(6, .ptr 3 0), (8, .ptr 2 0)] 0 71)
noncomputable def seenL (K : SFrm) (n r p dl : Int) (v : SV) (ps ss : D) (x y j : Int) : Conf := Conf.mk (SFrm.mk 83 none none [Item.inLoop (cAt Try.prog 83 [1, 1, 1, 0, 1, 0, 0]), Item.inBlock 0, Item.code (cAt Try.prog 83 [1, 1, 1, 1])]
  (mkJ 2 [(5, .ptr 0 0), (19, .vec 1), (20, .int .i64 ss.len), (21, .int .i64 j)] 0 38)) [K, fr27l] [(0, .cells 156 [.int .i64 x, .int .i64 y]), (1, .arr 4 ss), (2, .cells 111 [.int .i64 n, .int .i64 r, .int .i64 p, .int .i64 dl, .vec 4, .vec 1, v]),
  (3, .cells 25 [.int .i64 0, .int .i64 0, .int .i64 0, .int .i64 0, .nils, .nils, .lb false]), (4, .arr 3 ps)]
section
variable (x y n j now patience : Int) (a b d s wt hd : D) (frozen : Bool) (mr mp mt mi mu : Int) (mk mf mto mn mv me : Int) (ml mb : D) (nodes round phase deadline : Int) (valid : Bool)
theorem coll1_in : goS Try.prog ctM (fun _ => false) [(62, 3), (63, 3), (83, 15)] 800 (entry Try.prog 27 [.agg [.int .i64 nodes, .int .i64 round, .int .i64 phase, .int .i64 deadline, .dat d, .dat s, .bool valid], .int .i64 now, .agg [.int .i64 mk, .int .i64 mf, .int .i64 mto, .int .i64 mn, .int .i64 mv, .int .i64 me, .dat ml, .dat mb]]) =
  Tree.need (D.Is Int d ∧ D.Is Bool s)
    (Tree.br (checkCo (CoD.co (CoD.mk nodes round phase deadline d s valid)) != 0)
      (Tree.ret
        (SV.tup
          [SV.agg
              [SV.int IntKind.i64 nodes, SV.int IntKind.i64 round, SV.int IntKind.i64 phase, SV.int IntKind.i64 deadline,
                SV.dat d, SV.dat s, SV.bool valid],
            SV.nils]))
      (Tree.br (decide (phase = 0))
        (Tree.ret
          (SV.tup
            [SV.agg
                [SV.int IntKind.i64 nodes, SV.int IntKind.i64 round, SV.int IntKind.i64 phase,
                  SV.int IntKind.i64 deadline, SV.dat d, SV.dat s, SV.bool valid],
              SV.nils]))
        (Tree.br (decide (now ≥ deadline))
          (Tree.ret
            (SV.tup
              [SV.agg
                  [SV.int IntKind.i64 nodes, SV.int IntKind.i64 round, SV.int IntKind.i64 phase,
                    SV.int IntKind.i64 deadline, SV.dat d, SV.dat s, SV.bool valid],
                SV.nils]))
          (Tree.br (decide (mf < 0))
            (Tree.ret
              (SV.tup
                [SV.agg
                    [SV.int IntKind.i64 nodes, SV.int IntKind.i64 round, SV.int IntKind.i64 phase,
                      SV.int IntKind.i64 deadline, SV.dat d, SV.dat s, SV.bool valid],
                  SV.nils]))
            (Tree.br (decide (mf ≥ nodes))
              (Tree.ret
                (SV.tup
                  [SV.agg
                      [SV.int IntKind.i64 nodes, SV.int IntKind.i64 round, SV.int IntKind.i64 phase,
                        SV.int IntKind.i64 deadline, SV.dat d, SV.dat s, SV.bool valid],
                    SV.nils]))
              (Tree.br (mn != round)
                (Tree.ret
                  (SV.tup
                    [SV.agg
                        [SV.int IntKind.i64 nodes, SV.int IntKind.i64 round, SV.int IntKind.i64 phase,
                          SV.int IntKind.i64 deadline, SV.dat d, SV.dat s, SV.bool valid],
                      SV.nils]))
                (Tree.all fun hs =>
                  Tree.need (D.Is Int d ∧ D.len d ≤ 1048576)
                    (Tree.need (D.Is Bool s ∧ D.len s ≤ 1048576)
                      (Tree.br (decide (mk = 2))
                        (Tree.leaf
                          (Conf.mk
                            (SFrm.mk 62 none none [Item.code (cAt Try.prog 62 [0]), Item.code (cAt Try.prog 62 [1])]
                              (mkJ 1
                                [(0, SV.ptr 0 0),
                                  (1,
                                    SV.agg
                                      [SV.int IntKind.i64 mk, SV.int IntKind.i64 mf, SV.int IntKind.i64 mto,
                                        SV.int IntKind.i64 mn, SV.int IntKind.i64 mv, SV.int IntKind.i64 me, SV.dat ml,
                                        SV.dat mb])]
                                0 63))
                            [SFrm.mk 27 (some (opsAt Try.prog 27 [1, 1, 1, 1, 1, 0], [3])) (some 65)
                                [Item.code (cAt Try.prog 27 [1, 1, 1, 1, 1, 1])]
                                (mkJ 0 [(6, SV.ptr 1 0), (8, SV.ptr 0 0)] 0 71)]
                            [(0,
                                OBlk.cells 111
                                  [SV.int IntKind.i64 nodes, SV.int IntKind.i64 round, SV.int IntKind.i64 phase,
                                    SV.int IntKind.i64 deadline, SV.vec 2, SV.vec 3, SV.bool valid]),
                              (1,
                                OBlk.cells 25
                                  [SV.int IntKind.i64 0, SV.int IntKind.i64 0, SV.int IntKind.i64 0, SV.int IntKind.i64 0,
                                    SV.nils, SV.nils, SV.lb false]),
                              (2, OBlk.arr 3 (D.slc (D.hd (hs 2 0)) 1 (D.rows d))),
                              (3, OBlk.arr 4 (D.slc (D.hd (hs 5 0)) 1 (D.rows s)))]))
                        (Tree.br (decide (mk = 4))
                          (Tree.leaf
                            (Conf.mk
                              (SFrm.mk 63 none none [Item.code (cAt Try.prog 63 [0]), Item.code (cAt Try.prog 63 [1])]
                                (mkJ 1
                                  [(0, SV.ptr 0 0),
                                    (1,
                                      SV.agg
                                        [SV.int IntKind.i64 mk, SV.int IntKind.i64 mf, SV.int IntKind.i64 mto,
                                          SV.int IntKind.i64 mn, SV.int IntKind.i64 mv, SV.int IntKind.i64 me, SV.dat ml,
                                          SV.dat mb])]
                                  0 28))
                              [SFrm.mk 27 (some (opsAt Try.prog 27 [1, 1, 1, 1, 1, 0], [3])) (some 65)
                                  [Item.code (cAt Try.prog 27 [1, 1, 1, 1, 1, 1])]
                                  (mkJ 0 [(6, SV.ptr 1 0), (8, SV.ptr 0 0)] 0 71)]
                              [(0,
                                  OBlk.cells 111
                                    [SV.int IntKind.i64 nodes, SV.int IntKind.i64 round, SV.int IntKind.i64 phase,
                                      SV.int IntKind.i64 deadline, SV.vec 2, SV.vec 3, SV.bool valid]),
                                (1,
                                  OBlk.cells 25
                                    [SV.int IntKind.i64 0, SV.int IntKind.i64 0, SV.int IntKind.i64 0,
                                      SV.int IntKind.i64 0, SV.nils, SV.nils, SV.lb false]),
                                (2, OBlk.arr 3 (D.slc (D.hd (hs 2 0)) 1 (D.rows d))),
                                (3, OBlk.arr 4 (D.slc (D.hd (hs 5 0)) 1 (D.rows s)))]))
                          (Tree.ret
                            (SV.tup
                              [SV.agg
                                  [SV.int IntKind.i64 nodes, SV.int IntKind.i64 round, SV.int IntKind.i64 phase,
                                    SV.int IntKind.i64 deadline, SV.dat d, SV.dat s, SV.bool valid],
                                SV.nils])))))))))))) := by kernel_rfl

theorem frz_go : goS Try.prog ctM (fun _ => false) [(83, 15)] 800 (frzC nodes round phase deadline (.bool valid) d s mk mf mto mn mv me ml mb) =
  Tree.all fun hs =>
    Tree.br (phase != 1)
      (Tree.need ((phase != 1) = true)
        (Tree.need ((phase != 1) = true)
          (Tree.need ((phase != 1) = true)
            (Tree.need ((phase != 1) = true)
              (Tree.ret
                (SV.tup
                  [SV.agg
                      [SV.int IntKind.i64 nodes, SV.int IntKind.i64 round, SV.int IntKind.i64 phase,
                        SV.int IntKind.i64 deadline, SV.dat d, SV.dat s, SV.bool valid],
                    SV.nils]))))))
      (Tree.br (decide (mv < 0))
        (Tree.need ((phase != 1) = false)
          (Tree.need ((phase != 1) = false)
            (Tree.need ((phase != 1) = false)
              (Tree.need ((phase != 1) = false)
                (Tree.need (decide (mv < 0) = true)
                  (Tree.need (decide (mv < 0) = true)
                    (Tree.need (decide (mv < 0) = true)
                      (Tree.need (decide (mv < 0) = true)
                        (Tree.ret
                          (SV.tup
                            [SV.agg
                                [SV.int IntKind.i64 nodes, SV.int IntKind.i64 round, SV.int IntKind.i64 phase,
                                  SV.int IntKind.i64 deadline, SV.dat d, SV.dat s, SV.bool valid],
                              SV.nils]))))))))))
        (Tree.br (decide (mv > 4096))
          (Tree.need ((phase != 1) = false)
            (Tree.need ((phase != 1) = false)
              (Tree.need ((phase != 1) = false)
                (Tree.need ((phase != 1) = false)
                  (Tree.need (decide (mv < 0) = false)
                    (Tree.need (decide (mv < 0) = false)
                      (Tree.need (decide (mv < 0) = false)
                        (Tree.need (decide (mv < 0) = false)
                          (Tree.need (decide (mv > 4096) = true)
                            (Tree.need (decide (mv > 4096) = true)
                              (Tree.need (decide (mv > 4096) = true)
                                (Tree.need (decide (mv > 4096) = true)
                                  (Tree.need (decide (mv > 4096) = true)
                                    (Tree.need (decide (mv > 4096) = true)
                                      (Tree.need (decide (mv > 4096) = true)
                                        (Tree.need (decide (mv > 4096) = true)
                                          (Tree.need (decide (mv > 4096) = true)
                                            (Tree.need (decide (mv > 4096) = true)
                                              (Tree.ret
                                                (SV.tup
                                                  [SV.agg
                                                      [SV.int IntKind.i64 nodes, SV.int IntKind.i64 round,
                                                        SV.int IntKind.i64 phase, SV.int IntKind.i64 deadline, SV.dat d,
                                                        SV.dat s, SV.bool valid],
                                                    SV.nils]))))))))))))))))))))
          (Tree.need ((phase != 1) = false)
            (Tree.need ((phase != 1) = false)
              (Tree.need ((phase != 1) = false)
                (Tree.need ((phase != 1) = false)
                  (Tree.need (decide (mv < 0) = false)
                    (Tree.need (decide (mv < 0) = false)
                      (Tree.need (decide (mv < 0) = false)
                        (Tree.need (decide (mv < 0) = false)
                          (Tree.need (decide (mv > 4096) = false)
                            (Tree.need (decide (mv > 4096) = false)
                              (Tree.need (decide (mv > 4096) = false)
                                (Tree.need (decide (mv > 4096) = false)
                                  (Tree.need (decide (mv > 4096) = false)
                                    (Tree.need (decide (mv > 4096) = false)
                                      (Tree.need (decide (mv > 4096) = false)
                                        (Tree.need (decide (mv > 4096) = false)
                                          (Tree.need (0 ≤ mf ∧ mf < (↑(D.len s) : Int) ∧ D.sz s = 1)
                                            (Tree.need (decide (mv > 4096) = false)
                                              (Tree.need (D.HasCell s (Int.toNat mf) 0 FT.bool ∧ D.sz s = 1)
                                                (Tree.need (decide (mv > 4096) = false)
                                                  (Tree.br (D.getBool s (Int.toNat mf) 0)
                                                    (Tree.ret
                                                      (SV.tup
                                                        [SV.agg
                                                            [SV.int IntKind.i64 nodes, SV.int IntKind.i64 round,
                                                              SV.int IntKind.i64 phase, SV.int IntKind.i64 deadline,
                                                              SV.dat d, SV.dat s, SV.bool valid],
                                                          SV.nils]))
                                                    (Tree.all fun hs =>
                                                      Tree.need (0 ≤ mf ∧ mf < (↑(D.len d) : Int) ∧ D.sz d = 1)
                                                        (Tree.need (Int.toNat mf < D.len d ∧ 1 ≤ D.sz d ∧ D.sz d = 1)
                                                          (Tree.need (0 ≤ mf ∧ mf < (↑(D.len s) : Int) ∧ D.sz s = 1)
                                                            (Tree.need (Int.toNat mf < D.len s ∧ 1 ≤ D.sz s ∧ D.sz s = 1)
                                                              (Tree.leaf
                                                                (Conf.mk
                                                                  (SFrm.mk 83 none none
                                                                    [Item.code (cAt Try.prog 83 [1, 1, 1, 0, 0]),
                                                                      Item.code (cAt Try.prog 83 [1, 1, 1, 0, 1]),
                                                                      Item.code (cAt Try.prog 83 [1, 1, 1, 1])]
                                                                    (mkJ 2 [(0, SV.ptr 0 0), (5, SV.ptr 1 0)] 0 38))
                                                                  [SFrm.mk 62
                                                                      (some (opsAt Try.prog 62 [1, 1, 1, 0, 0], [4]))
                                                                      (some 45)
                                                                      [Item.code (cAt Try.prog 62 [1, 1, 1, 0, 1]),
                                                                        Item.code (cAt Try.prog 62 [1, 1, 1, 1])]
                                                                      (mkJ 1 [(0, SV.ptr 0 0)] 0 63),
                                                                    SFrm.mk 27
                                                                      (some (opsAt Try.prog 27 [1, 1, 1, 1, 1, 0], [3]))
                                                                      (some 65)
                                                                      [Item.code (cAt Try.prog 27 [1, 1, 1, 1, 1, 1])]
                                                                      (mkJ 0 [(6, SV.ptr 2 0), (8, SV.ptr 0 0)] 0 71)]
                                                                  [(0,
                                                                      OBlk.cells 111
                                                                        [SV.int IntKind.i64 nodes,
                                                                          SV.int IntKind.i64 round,
                                                                          SV.int IntKind.i64 phase,
                                                                          SV.int IntKind.i64 deadline, SV.vec 3, SV.vec 4,
                                                                          SV.bool valid]),
                                                                    (1,
                                                                      OBlk.cells 156
                                                                        [SV.int IntKind.i64 0, SV.int IntKind.i64 0]),
                                                                    (2,
                                                                      OBlk.cells 25
                                                                        [SV.int IntKind.i64 0, SV.int IntKind.i64 0,
                                                                          SV.int IntKind.i64 0, SV.int IntKind.i64 0,
                                                                          SV.nils, SV.nils, SV.lb false]),
                                                                    (3,
                                                                      OBlk.arr 3
                                                                        (D.setCells d (Int.toNat mf) 0
                                                                          [D.int IntKind.i64 mv])),
                                                                    (4,
                                                                      OBlk.arr 4
                                                                        (D.setCells s (Int.toNat mf) 0
                                                                          [D.bool true]))]))))))))))))))))))))))))))))) := by kernel_rfl

theorem thw_go : goS Try.prog ctM (fun _ => false) [(83, 15)] 800 (thwC nodes round phase deadline (.bool valid) d s mk mf mto mn mv me ml mb) =
  Tree.br (phase != 2)
    (Tree.ret
      (SV.tup
        [SV.agg
            [SV.int IntKind.i64 nodes, SV.int IntKind.i64 round, SV.int IntKind.i64 phase, SV.int IntKind.i64 deadline,
              SV.dat d, SV.dat s, SV.bool valid],
          SV.nils]))
    (Tree.br (mv != 1)
      (Tree.need (nodes ≤ 8)
        (Tree.all fun hs =>
          Tree.ret
            (SV.tup
              [SV.agg
                  [SV.int IntKind.i64 nodes, SV.int IntKind.i64 round, SV.int IntKind.i64 0, SV.int IntKind.i64 deadline,
                    SV.dat d, SV.dat s, SV.lb false],
                SV.dat (D.like (hs 0 0) (msgsTo nodes round 24))])))
      (Tree.need (0 ≤ mf ∧ mf < (↑(D.len s) : Int) ∧ D.sz s = 1)
        (Tree.need (Int.toNat mf < D.len s ∧ 1 ≤ D.sz s ∧ D.sz s = 1)
          (Tree.leaf
            (Conf.mk
              (SFrm.mk 83 none none
                [Item.code (cAt Try.prog 83 [1, 1, 1, 0, 0]), Item.code (cAt Try.prog 83 [1, 1, 1, 0, 1]),
                  Item.code (cAt Try.prog 83 [1, 1, 1, 1])]
                (mkJ 2 [(0, SV.ptr 0 0), (5, SV.ptr 1 0)] 0 38))
              [SFrm.mk 63 (some (opsAt Try.prog 63 [1, 1, 1, 0, 0], [])) (some 19)
                  [Item.code (cAt Try.prog 63 [1, 1, 1, 0, 1]), Item.code (cAt Try.prog 63 [1, 1, 1, 1])]
                  (mkJ 1 [(0, SV.ptr 0 0)] 0 28),
                SFrm.mk 27 (some (opsAt Try.prog 27 [1, 1, 1, 1, 1, 0], [3])) (some 65)
                  [Item.code (cAt Try.prog 27 [1, 1, 1, 1, 1, 1])] (mkJ 0 [(6, SV.ptr 2 0), (8, SV.ptr 0 0)] 0 71)]
              [(0,
                  OBlk.cells 111
                    [SV.int IntKind.i64 nodes, SV.int IntKind.i64 round, SV.int IntKind.i64 phase,
                      SV.int IntKind.i64 deadline, SV.vec 3, SV.vec 4, SV.bool valid]),
                (1, OBlk.cells 156 [SV.int IntKind.i64 0, SV.int IntKind.i64 0]),
                (2,
                  OBlk.cells 25
                    [SV.int IntKind.i64 0, SV.int IntKind.i64 0, SV.int IntKind.i64 0, SV.int IntKind.i64 0, SV.nils,
                      SV.nils, SV.lb false]),
                (3, OBlk.arr 3 d), (4, OBlk.arr 4 (D.setCells s (Int.toNat mf) 0 [D.bool true]))]))))) := by kernel_rfl

theorem sn62_in : goS Try.prog ctM (fun _ => false) [(83, 15)] 800 (seenC fr62 nodes round phase deadline (.bool valid) d s) =
  Tree.leaf
    (Conf.mk
      (SFrm.mk 83 none none
        [Item.inLoop (cAt Try.prog 83 [1, 1, 1, 0, 1, 0, 0]), Item.inBlock 0, Item.code (cAt Try.prog 83 [1, 1, 1, 1])]
        (mkJ 2 [(5, SV.ptr 0 0), (19, SV.vec 1), (20, SV.int IntKind.i64 (↑(D.len s) : Int)), (21, SV.int IntKind.i64 0)]
          0 38))
      [SFrm.mk 62 (some (opsAt Try.prog 62 [1, 1, 1, 0, 0], [4])) (some 45)
          [Item.code (cAt Try.prog 62 [1, 1, 1, 0, 1]), Item.code (cAt Try.prog 62 [1, 1, 1, 1])]
          (mkJ 1 [(0, SV.ptr 2 0)] 0 63),
        SFrm.mk 27 (some (opsAt Try.prog 27 [1, 1, 1, 1, 1, 0], [3])) (some 65)
          [Item.code (cAt Try.prog 27 [1, 1, 1, 1, 1, 1])] (mkJ 0 [(6, SV.ptr 3 0), (8, SV.ptr 2 0)] 0 71)]
      [(0, OBlk.cells 156 [SV.int IntKind.i64 0, SV.int IntKind.i64 0]), (1, OBlk.arr 4 s),
        (2,
          OBlk.cells 111
            [SV.int IntKind.i64 nodes, SV.int IntKind.i64 round, SV.int IntKind.i64 phase, SV.int IntKind.i64 deadline,
              SV.vec 4, SV.vec 1, SV.bool valid]),
        (3,
          OBlk.cells 25
            [SV.int IntKind.i64 0, SV.int IntKind.i64 0, SV.int IntKind.i64 0, SV.int IntKind.i64 0, SV.nils, SV.nils,
              SV.lb false]),
        (4, OBlk.arr 3 d)]) := by kernel_rfl

theorem sn63_in : goS Try.prog ctM (fun _ => false) [(83, 15)] 800 (seenC fr63 nodes round phase deadline (.bool valid) d s) =
  Tree.leaf
    (Conf.mk
      (SFrm.mk 83 none none
        [Item.inLoop (cAt Try.prog 83 [1, 1, 1, 0, 1, 0, 0]), Item.inBlock 0, Item.code (cAt Try.prog 83 [1, 1, 1, 1])]
        (mkJ 2 [(5, SV.ptr 0 0), (19, SV.vec 1), (20, SV.int IntKind.i64 (↑(D.len s) : Int)), (21, SV.int IntKind.i64 0)]
          0 38))
      [SFrm.mk 63 (some (opsAt Try.prog 63 [1, 1, 1, 0, 0], [])) (some 19)
          [Item.code (cAt Try.prog 63 [1, 1, 1, 0, 1]), Item.code (cAt Try.prog 63 [1, 1, 1, 1])]
          (mkJ 1 [(0, SV.ptr 2 0)] 0 28),
        SFrm.mk 27 (some (opsAt Try.prog 27 [1, 1, 1, 1, 1, 0], [3])) (some 65)
          [Item.code (cAt Try.prog 27 [1, 1, 1, 1, 1, 1])] (mkJ 0 [(6, SV.ptr 3 0), (8, SV.ptr 2 0)] 0 71)]
      [(0, OBlk.cells 156 [SV.int IntKind.i64 0, SV.int IntKind.i64 0]), (1, OBlk.arr 4 s),
        (2,
          OBlk.cells 111
            [SV.int IntKind.i64 nodes, SV.int IntKind.i64 round, SV.int IntKind.i64 phase, SV.int IntKind.i64 deadline,
              SV.vec 4, SV.vec 1, SV.bool valid]),
        (3,
          OBlk.cells 25
            [SV.int IntKind.i64 0, SV.int IntKind.i64 0, SV.int IntKind.i64 0, SV.int IntKind.i64 0, SV.nils, SV.nils,
              SV.lb false]),
        (4, OBlk.arr 3 d)]) := by kernel_rfl

theorem sl62_go : goS Try.prog ctM (fun _ => false) [(83, 15)] 800 (unroll (seenL fr62l nodes round phase deadline (.bool valid) d s x y j)) =
  Tree.br (decide (j < (↑(D.len s) : Int)))
    (Tree.need (0 ≤ j ∧ j < (↑(D.len s) : Int) ∧ D.sz s = 1)
      (Tree.need (D.HasCell s (Int.toNat j) 0 FT.bool ∧ D.sz s = 1)
        (Tree.br (D.getBool s (Int.toNat j) 0)
          (Tree.need ((0 : Int) ≤ 1 ∧ 1 < (↑2 : Int))
            (Tree.need ((0 : Int) ≤ 1 ∧ 1 < (↑2 : Int))
              (Tree.leaf
                (Conf.mk
                  (SFrm.mk 83 none none
                    [Item.inLoop (cAt Try.prog 83 [1, 1, 1, 0, 1, 0, 0]), Item.inBlock 0,
                      Item.code (cAt Try.prog 83 [1, 1, 1, 1])]
                    (mkJ 2
                      [(5, SV.ptr 0 0), (19, SV.vec 1), (20, SV.int IntKind.i64 (↑(D.len s) : Int)),
                        (21, SV.int IntKind.i64 (IntKind.wrap IntKind.i64 (j + 1)))]
                      0 38))
                  [SFrm.mk 62 (some (opsAt Try.prog 62 [1, 1, 1, 0, 0], [4])) (some 45)
                      [Item.code (cAt Try.prog 62 [1, 1, 1, 0, 1]), Item.code (cAt Try.prog 62 [1, 1, 1, 1])]
                      (mkJ 1 [(0, SV.ptr 2 0)] 0 63),
                    SFrm.mk 27 (some (opsAt Try.prog 27 [1, 1, 1, 1, 1, 0], [3])) (some 65)
                      [Item.code (cAt Try.prog 27 [1, 1, 1, 1, 1, 1])] (mkJ 0 [(6, SV.ptr 3 0), (8, SV.ptr 2 0)] 0 71)]
                  [(0, OBlk.cells 156 [SV.int IntKind.i64 x, SV.int IntKind.i64 (IntKind.wrap IntKind.i64 (y + 1))]),
                    (1, OBlk.arr 4 s),
                    (2,
                      OBlk.cells 111
                        [SV.int IntKind.i64 nodes, SV.int IntKind.i64 round, SV.int IntKind.i64 phase,
                          SV.int IntKind.i64 deadline, SV.vec 4, SV.vec 1, SV.bool valid]),
                    (3,
                      OBlk.cells 25
                        [SV.int IntKind.i64 0, SV.int IntKind.i64 0, SV.int IntKind.i64 0, SV.int IntKind.i64 0, SV.nils,
                          SV.nils, SV.lb false]),
                    (4, OBlk.arr 3 d)]))))
          (Tree.need ((0 : Int) ≤ 0 ∧ 0 < (↑2 : Int))
            (Tree.need ((0 : Int) ≤ 0 ∧ 0 < (↑2 : Int))
              (Tree.leaf
                (Conf.mk
                  (SFrm.mk 83 none none
                    [Item.inLoop (cAt Try.prog 83 [1, 1, 1, 0, 1, 0, 0]), Item.inBlock 0,
                      Item.code (cAt Try.prog 83 [1, 1, 1, 1])]
                    (mkJ 2
                      [(5, SV.ptr 0 0), (19, SV.vec 1), (20, SV.int IntKind.i64 (↑(D.len s) : Int)),
                        (21, SV.int IntKind.i64 (IntKind.wrap IntKind.i64 (j + 1)))]
                      0 38))
                  [SFrm.mk 62 (some (opsAt Try.prog 62 [1, 1, 1, 0, 0], [4])) (some 45)
                      [Item.code (cAt Try.prog 62 [1, 1, 1, 0, 1]), Item.code (cAt Try.prog 62 [1, 1, 1, 1])]
                      (mkJ 1 [(0, SV.ptr 2 0)] 0 63),
                    SFrm.mk 27 (some (opsAt Try.prog 27 [1, 1, 1, 1, 1, 0], [3])) (some 65)
                      [Item.code (cAt Try.prog 27 [1, 1, 1, 1, 1, 1])] (mkJ 0 [(6, SV.ptr 3 0), (8, SV.ptr 2 0)] 0 71)]
                  [(0, OBlk.cells 156 [SV.int IntKind.i64 (IntKind.wrap IntKind.i64 (x + 1)), SV.int IntKind.i64 y]),
                    (1, OBlk.arr 4 s),
                    (2,
                      OBlk.cells 111
                        [SV.int IntKind.i64 nodes, SV.int IntKind.i64 round, SV.int IntKind.i64 phase,
                          SV.int IntKind.i64 deadline, SV.vec 4, SV.vec 1, SV.bool valid]),
                    (3,
                      OBlk.cells 25
                        [SV.int IntKind.i64 0, SV.int IntKind.i64 0, SV.int IntKind.i64 0, SV.int IntKind.i64 0, SV.nils,
                          SV.nils, SV.lb false]),
                    (4, OBlk.arr 3 d)])))))))
    (Tree.need ((0 : Int) ≤ 0 ∧ 0 < (↑2 : Int))
      (Tree.br (!decide (x = 0))
        (Tree.ret
          (SV.tup
            [SV.agg
                [SV.int IntKind.i64 nodes, SV.int IntKind.i64 round, SV.int IntKind.i64 phase,
                  SV.int IntKind.i64 deadline, SV.dat d, SV.dat s, SV.bool valid],
              SV.nils]))
        (Tree.all fun hs =>
          Tree.need (0 ≤ nodes ∧ nodes = nodes ∧ (↑1 : Int) * nodes ≤ 281474976710656 ∧ nodes ≤ 9223372036854775807)
            (Tree.need (nodes ≤ 8)
              (Tree.all fun hs_1 =>
                Tree.ret
                  (SV.tup
                    [SV.agg
                        [SV.int IntKind.i64 nodes, SV.int IntKind.i64 round, SV.int IntKind.i64 2,
                          SV.int IntKind.i64 deadline, SV.dat d,
                          SV.dat (D.slc (D.hd (hs 7 0)) 1 (List.replicate (Int.toNat nodes) [D.bool false])),
                          SV.bool valid],
                      SV.dat (D.like (hs_1 0 0) (msgsTo nodes round 3))])))))) := by kernel_rfl

theorem sl63_go : goS Try.prog ctM (fun _ => false) [(83, 15)] 800 (unroll (seenL fr63l nodes round phase deadline (.bool valid) d s x y j)) =
  Tree.br (decide (j < (↑(D.len s) : Int)))
    (Tree.need (0 ≤ j ∧ j < (↑(D.len s) : Int) ∧ D.sz s = 1)
      (Tree.need (D.HasCell s (Int.toNat j) 0 FT.bool ∧ D.sz s = 1)
        (Tree.br (D.getBool s (Int.toNat j) 0)
          (Tree.need ((0 : Int) ≤ 1 ∧ 1 < (↑2 : Int))
            (Tree.need ((0 : Int) ≤ 1 ∧ 1 < (↑2 : Int))
              (Tree.leaf
                (Conf.mk
                  (SFrm.mk 83 none none
                    [Item.inLoop (cAt Try.prog 83 [1, 1, 1, 0, 1, 0, 0]), Item.inBlock 0,
                      Item.code (cAt Try.prog 83 [1, 1, 1, 1])]
                    (mkJ 2
                      [(5, SV.ptr 0 0), (19, SV.vec 1), (20, SV.int IntKind.i64 (↑(D.len s) : Int)),
                        (21, SV.int IntKind.i64 (IntKind.wrap IntKind.i64 (j + 1)))]
                      0 38))
                  [SFrm.mk 63 (some (opsAt Try.prog 63 [1, 1, 1, 0, 0], [])) (some 19)
                      [Item.code (cAt Try.prog 63 [1, 1, 1, 0, 1]), Item.code (cAt Try.prog 63 [1, 1, 1, 1])]
                      (mkJ 1 [(0, SV.ptr 2 0)] 0 28),
                    SFrm.mk 27 (some (opsAt Try.prog 27 [1, 1, 1, 1, 1, 0], [3])) (some 65)
                      [Item.code (cAt Try.prog 27 [1, 1, 1, 1, 1, 1])] (mkJ 0 [(6, SV.ptr 3 0), (8, SV.ptr 2 0)] 0 71)]
                  [(0, OBlk.cells 156 [SV.int IntKind.i64 x, SV.int IntKind.i64 (IntKind.wrap IntKind.i64 (y + 1))]),
                    (1, OBlk.arr 4 s),
                    (2,
                      OBlk.cells 111
                        [SV.int IntKind.i64 nodes, SV.int IntKind.i64 round, SV.int IntKind.i64 phase,
                          SV.int IntKind.i64 deadline, SV.vec 4, SV.vec 1, SV.bool valid]),
                    (3,
                      OBlk.cells 25
                        [SV.int IntKind.i64 0, SV.int IntKind.i64 0, SV.int IntKind.i64 0, SV.int IntKind.i64 0, SV.nils,
                          SV.nils, SV.lb false]),
                    (4, OBlk.arr 3 d)]))))
          (Tree.need ((0 : Int) ≤ 0 ∧ 0 < (↑2 : Int))
            (Tree.need ((0 : Int) ≤ 0 ∧ 0 < (↑2 : Int))
              (Tree.leaf
                (Conf.mk
                  (SFrm.mk 83 none none
                    [Item.inLoop (cAt Try.prog 83 [1, 1, 1, 0, 1, 0, 0]), Item.inBlock 0,
                      Item.code (cAt Try.prog 83 [1, 1, 1, 1])]
                    (mkJ 2
                      [(5, SV.ptr 0 0), (19, SV.vec 1), (20, SV.int IntKind.i64 (↑(D.len s) : Int)),
                        (21, SV.int IntKind.i64 (IntKind.wrap IntKind.i64 (j + 1)))]
                      0 38))
                  [SFrm.mk 63 (some (opsAt Try.prog 63 [1, 1, 1, 0, 0], [])) (some 19)
                      [Item.code (cAt Try.prog 63 [1, 1, 1, 0, 1]), Item.code (cAt Try.prog 63 [1, 1, 1, 1])]
                      (mkJ 1 [(0, SV.ptr 2 0)] 0 28),
                    SFrm.mk 27 (some (opsAt Try.prog 27 [1, 1, 1, 1, 1, 0], [3])) (some 65)
                      [Item.code (cAt Try.prog 27 [1, 1, 1, 1, 1, 1])] (mkJ 0 [(6, SV.ptr 3 0), (8, SV.ptr 2 0)] 0 71)]
                  [(0, OBlk.cells 156 [SV.int IntKind.i64 (IntKind.wrap IntKind.i64 (x + 1)), SV.int IntKind.i64 y]),
                    (1, OBlk.arr 4 s),
                    (2,
                      OBlk.cells 111
                        [SV.int IntKind.i64 nodes, SV.int IntKind.i64 round, SV.int IntKind.i64 phase,
                          SV.int IntKind.i64 deadline, SV.vec 4, SV.vec 1, SV.bool valid]),
                    (3,
                      OBlk.cells 25
                        [SV.int IntKind.i64 0, SV.int IntKind.i64 0, SV.int IntKind.i64 0, SV.int IntKind.i64 0, SV.nils,
                          SV.nils, SV.lb false]),
                    (4, OBlk.arr 3 d)])))))))
    (Tree.need ((0 : Int) ≤ 0 ∧ 0 < (↑2 : Int))
      (Tree.br (decide (x = 0))
        (Tree.ret
          (SV.tup
            [SV.agg
                [SV.int IntKind.i64 nodes, SV.int IntKind.i64 round, SV.int IntKind.i64 0, SV.int IntKind.i64 deadline,
                  SV.dat d, SV.dat s, SV.lb true],
              SV.nils]))
        (Tree.ret
          (SV.tup
            [SV.agg
                [SV.int IntKind.i64 nodes, SV.int IntKind.i64 round, SV.int IntKind.i64 phase,
                  SV.int IntKind.i64 deadline, SV.dat d, SV.dat s, SV.bool valid],
              SV.nils])))) := by kernel_rfl

end
end Go.Proofs.Ytoechplbhbalaaa
