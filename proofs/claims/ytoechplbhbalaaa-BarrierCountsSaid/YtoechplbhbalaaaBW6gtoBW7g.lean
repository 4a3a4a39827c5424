/- Layer 21: members: small functions, walked. -/
import Derived.KernelRfl
import Derived.Test.YtoechplbhbalaaaBr21toBW5
import Derived.Test.YtoechplbhbalaaaOvtoM22
set_option linter.all false
section
open Go Go.Proofs Sx
namespace Go.Proofs.Ytoechplbhbalaaa
set_option maxRecDepth 100000
set_option maxHeartbeats 0
noncomputable def ixL (d : D) (n j : Int) : Conf := Conf.mk (SFrm.mk 71 none none [Item.inLoop (cAt Try.prog 71 [1, 0, 1, 0, 0]), Item.inBlock 0, Item.code (cAt Try.prog 71 [1, 1])]
  (mkJ 0 [(0, .dat d), (1, .int .i64 n), (7, .int .i64 d.len), (8, .int .i64 j)] 0 19)) [] []
noncomputable def hasL (d : D) (n j : Int) : Conf := Conf.mk (SFrm.mk 73 none none [Item.inLoop (cAt Try.prog 73 [1, 0, 1, 0, 0]), Item.inBlock 0, Item.code (cAt Try.prog 73 [1, 1])]
  (mkJ 0 [(0, .dat d), (1, .int .i64 n), (5, .int .i64 j)] 0 18)) [] []
noncomputable def everyL (d : D) (j : Int) : Conf := Conf.mk (SFrm.mk 64 none none [Item.inLoop (cAt Try.prog 64 [1, 0, 1, 0, 0]), Item.inBlock 0, Item.code (cAt Try.prog 64 [1, 1])]
  (mkJ 0 [(0, .dat d), (3, .int .i64 j)] 0 15)) [] []
noncomputable def cm1aL (mr mp mt mi mu : Int) (f : Bool) (wt hd : D) (j : Int) : Conf := Conf.mk (SFrm.mk 38 none none [Item.inLoop (cAt Try.prog 38 [1, 1, 0, 1, 0, 0]), Item.inBlock 1, Item.code (cAt Try.prog 38 [1, 1, 1])]
  (mkJ 0 [(1, .ptr 0 0), (46, .dat wt), (47, .int .i64 wt.len), (48, .int .i64 j)] 0 107)) [] [(0, .cells 28 [.int .i64 mr, .int .i64 mp, .int .i64 mt, .int .i64 mi, .bool f, .int .i64 mu, .dat wt, .dat hd])]
noncomputable def cm1bL (mr mp mt mi mu : Int) (f : Bool) (wt hd : D) (j : Int) : Conf := Conf.mk (SFrm.mk 38 none none [Item.inLoop (cAt Try.prog 38 [1, 1, 1, 0, 1, 0, 0]), Item.inBlock 3, Item.code (cAt Try.prog 38 [1, 1, 1, 1])]
  (mkJ 0 [(1, .ptr 0 0), (77, .dat hd), (78, .int .i64 hd.len), (79, .int .i64 j)] 0 107)) [] [(0, .cells 28 [.int .i64 mr, .int .i64 mp, .int .i64 mt, .int .i64 mi, .bool f, .int .i64 mu, .dat wt, .dat hd])]
noncomputable def cm2aL (mr mp mt mi mu : Int) (f : Bool) (wt hd : D) (j : Int) : Conf := Conf.mk (SFrm.mk 39 none none [Item.inLoop (cAt Try.prog 39 [1, 1, 1, 0, 1, 0, 0]), Item.inBlock 0, Item.code (cAt Try.prog 39 [1, 1, 1, 1])]
  (mkJ 0 [(1, .ptr 0 0), (3, .int .i64 j)] 0 147)) [] [(0, .cells 28 [.int .i64 mr, .int .i64 mp, .int .i64 mt, .int .i64 mi, .bool f, .int .i64 mu, .dat wt, .dat hd])]
noncomputable def cm2bL (mr mp mt mi mu : Int) (f : Bool) (wt hd : D) (j : Int) : Conf := Conf.mk (SFrm.mk 39 none none [Item.inLoop (cAt Try.prog 39 [1, 1, 1, 1, 0, 1, 0, 0]), Item.inBlock 2, Item.code (cAt Try.prog 39 [1, 1, 1, 1, 1])]
  (mkJ 0 [(1, .ptr 0 0), (4, .int .i64 j)] 0 147)) [] [(0, .cells 28 [.int .i64 mr, .int .i64 mp, .int .i64 mt, .int .i64 mi, .bool f, .int .i64 mu, .dat wt, .dat hd])]
noncomputable def ctH : Ctrs := [(34, ctrOf ((rdD.two rdInt).sp spHas21)), (73, ctrOf ((rdD.two rdInt).sp spHas21))]
section
variable (n j now patience kind value : Int) (a b d s wt hd wt' hd' : D) (frozen frozen' : Bool) (mr mp mt mi mu mr' mp' mt' mi' mu' : Int) (mk mf mto mn mv me : Int) (ml mb : D) (nodes round phase deadline : Int) (valid : Bool)
theorem ix_in : exec Try.prog [] 200 (entry Try.prog 71 [.dat d, .int .i64 n]) =
  Tree.leaf
    (Conf.mk
      (SFrm.mk 71 none none
        [Item.inLoop (cAt Try.prog 71 [1, 0, 1, 0, 0]), Item.inBlock 0, Item.code (cAt Try.prog 71 [1, 1])]
        (mkJ 0
          [(0, SV.dat d), (1, SV.int IntKind.i64 n), (7, SV.int IntKind.i64 (↑(D.len d) : Int)),
            (8, SV.int IntKind.i64 0)]
          0 19))
      [] []) := by kernel_rfl

theorem ct_in : exec Try.prog [(71, ctrOf ((rdD.two rdInt).sp spIdx21))] 200 (entry Try.prog 34 [.dat d, .int .i64 n]) =
  Tree.need (D.Is Int d ∧ D.len d ≤ 1048576)
    (Tree.ret (SV.bool (decide ((idxP (D.to Int d) fun y => decide (n = y)) ≥ 0)))) := by kernel_rfl

theorem has_in : exec Try.prog [] 200 (entry Try.prog 73 [.dat d, .int .i64 n]) =
  Tree.leaf
    (Conf.mk
      (SFrm.mk 73 none none
        [Item.inLoop (cAt Try.prog 73 [1, 0, 1, 0, 0]), Item.inBlock 0, Item.code (cAt Try.prog 73 [1, 1])]
        (mkJ 0 [(0, SV.dat d), (1, SV.int IntKind.i64 n), (5, SV.int IntKind.i64 0)] 0 18))
      [] []) := by kernel_rfl

theorem every_in : exec Try.prog [] 200 (entry Try.prog 64 [.dat d]) =
  Tree.leaf
    (Conf.mk
      (SFrm.mk 64 none none
        [Item.inLoop (cAt Try.prog 64 [1, 0, 1, 0, 0]), Item.inBlock 0, Item.code (cAt Try.prog 64 [1, 1])]
        (mkJ 0 [(0, SV.dat d), (3, SV.int IntKind.i64 0)] 0 15))
      [] []) := by kernel_rfl

theorem ans_in : exec Try.prog [] 200 (entry Try.prog 58 [.agg [.int .i64 mk, .int .i64 mf, .int .i64 mto, .int .i64 mn, .int .i64 mv, .int .i64 me, .dat ml, .dat mb], .int .i64 kind, .int .i64 value]) =
  Tree.all fun hs =>
    Tree.ret
      (SV.dat
        (D.slc (D.hd (hs 0 0)) 8
          [[D.int IntKind.i64 kind, D.int IntKind.i64 mto, D.int IntKind.i64 mf, D.int IntKind.i64 mn,
              D.int IntKind.i64 value, D.int IntKind.i64 0, D.slc none 0 [], D.slc none 0 []]])) := by kernel_rfl

theorem thaw_in : exec Try.prog [] 200 (entry Try.prog 60 [.agg [.int .i64 mr, .int .i64 mp, .int .i64 mt, .int .i64 mi, .bool frozen, .int .i64 mu, .dat wt, .dat hd]]) =
  Tree.ret
    (SV.tup
      [SV.agg
          [SV.int IntKind.i64 mr, SV.int IntKind.i64 mp, SV.int IntKind.i64 mt, SV.int IntKind.i64 mi, SV.lb false,
            SV.int IntKind.i64 mu, SV.dat wt, SV.nils],
        SV.dat hd]) := by kernel_rfl

theorem end_in : exec Try.prog [(58, ctrOf ((rdMsg.three rdInt rdInt).sp spAns)), (60, ctrOf (rdMb.one.sp spThaw))] 200 (entry Try.prog 59 [.agg [.int .i64 mr, .int .i64 mp, .int .i64 mt, .int .i64 mi, .bool frozen, .int .i64 mu, .dat wt, .dat hd], .int .i64 now, .agg [.int .i64 mk, .int .i64 mf, .int .i64 mto, .int .i64 mn, .int .i64 mv, .int .i64 me, .dat ml, .dat mb]]) =
  Tree.br (!frozen)
    (Tree.br (decide (mt = mr))
      (Tree.all fun hs =>
        Tree.ret
          (SV.tup
            [SV.agg
                [SV.int IntKind.i64 mr, SV.int IntKind.i64 mp, SV.int IntKind.i64 mt, SV.int IntKind.i64 mi,
                  SV.bool frozen, SV.int IntKind.i64 mu, SV.dat wt, SV.dat hd],
              SV.nils, SV.dat (D.like (hs 2 0) (ansTo (MsgD.msg (MsgD.mk mk mf mto mn mv me ml mb)) 4 1))]))
      (Tree.all fun hs =>
        Tree.ret
          (SV.tup
            [SV.agg
                [SV.int IntKind.i64 mr, SV.int IntKind.i64 mp, SV.int IntKind.i64 mt, SV.int IntKind.i64 mi,
                  SV.bool frozen, SV.int IntKind.i64 mu, SV.dat wt, SV.dat hd],
              SV.nils, SV.dat (D.like (hs 2 0) (ansTo (MsgD.msg (MsgD.mk mk mf mto mn mv me ml mb)) 4 0))])))
    (Tree.br (decide (now < mu))
      (Tree.all fun hs =>
        Tree.need (MbD.Right (MbD.mk mr mp mr mi frozen mu wt hd))
          (Tree.all fun hs =>
            Tree.all fun hs_1 =>
              Tree.ret
                (SV.tup
                  [SV.agg
                      [SV.int IntKind.i64 mr, SV.int IntKind.i64 mp, SV.int IntKind.i64 mr, SV.int IntKind.i64 mi,
                        SV.bool false, SV.int IntKind.i64 mu, SV.dat (D.like (hs 0 0) (D.to Int wt)),
                        SV.dat (D.like (hs 0 1) ([] : List Int))],
                    SV.dat (D.like (hs 0 2) (D.to Int hd)),
                    SV.dat (D.like (hs_1 4 0) (ansTo (MsgD.msg (MsgD.mk mk mf mto mn mv me ml mb)) 4 1))])))
      (Tree.need (MbD.Right (MbD.mk mr mp mt mi frozen mu wt hd))
        (Tree.all fun hs =>
          Tree.all fun hs_1 =>
            Tree.ret
              (SV.tup
                [SV.agg
                    [SV.int IntKind.i64 mr, SV.int IntKind.i64 mp, SV.int IntKind.i64 mt, SV.int IntKind.i64 mi,
                      SV.bool false, SV.int IntKind.i64 mu, SV.dat (D.like (hs 0 0) (D.to Int wt)),
                      SV.dat (D.like (hs 0 1) ([] : List Int))],
                  SV.dat (D.like (hs 0 2) (D.to Int hd)),
                  SV.dat (D.like (hs_1 4 0) (ansTo (MsgD.msg (MsgD.mk mk mf mto mn mv me ml mb)) 4 0))])))) := by kernel_rfl

theorem give_in : exec Try.prog [(51, ctrOf ((rdCo.two rdInt).sp spAll2))] 200 (entry Try.prog 65 [.agg [.int .i64 nodes, .int .i64 round, .int .i64 phase, .int .i64 deadline, .dat d, .dat s, .bool valid]]) =
  Tree.all fun hs =>
    Tree.need (nodes ≤ 8)
      (Tree.ret
        (SV.tup
          [SV.agg
              [SV.int IntKind.i64 nodes, SV.int IntKind.i64 round, SV.int IntKind.i64 0, SV.int IntKind.i64 deadline,
                SV.dat d, SV.dat s, SV.lb false],
            SV.dat (D.like (hs 2 0) (msgsTo nodes round 24))])) := by kernel_rfl

theorem samemb_in : exec Try.prog ctB 300 (entry Try.prog 26 [.agg [.int .i64 mr, .int .i64 mp, .int .i64 mt, .int .i64 mi, .bool frozen, .int .i64 mu, .dat wt, .dat hd], .agg [.int .i64 mr', .int .i64 mp', .int .i64 mt', .int .i64 mi', .bool frozen', .int .i64 mu', .dat wt', .dat hd']]) =
  Tree.br (decide (mr = mr'))
    (Tree.br (decide (mp = mp'))
      (Tree.br (decide (mt = mt'))
        (Tree.br (decide (mi = mi'))
          (Tree.br (decide (frozen = frozen'))
            (Tree.br (decide (mu = mu'))
              (Tree.need (D.Is Int wt ∧ D.Is Int wt' ∧ D.len wt ≤ 1048576)
                (Tree.br (decide (D.to Int wt = D.to Int wt'))
                  (Tree.need (D.Is Int hd ∧ D.Is Int hd' ∧ D.len hd ≤ 1048576)
                    (Tree.ret (SV.bool (decide (D.to Int hd = D.to Int hd')))))
                  (Tree.ret (SV.lb false))))
              (Tree.ret (SV.lb false)))
            (Tree.ret (SV.lb false)))
          (Tree.ret (SV.lb false)))
        (Tree.ret (SV.lb false)))
      (Tree.ret (SV.lb false)))
    (Tree.ret (SV.lb false)) := by kernel_rfl

theorem ix_go : exec Try.prog [] 200 (unroll (ixL d n j)) =
  Tree.br (decide (j < (↑(D.len d) : Int)))
    (Tree.need (0 ≤ j ∧ j < (↑(D.len d) : Int) ∧ D.sz d = 1)
      (Tree.need (D.HasCell d (Int.toNat j) 0 (FT.int IntKind.i64))
        (Tree.br (decide (n = D.getInt d (Int.toNat j) 0)) (Tree.ret (SV.int IntKind.i64 j))
          (Tree.leaf
            (Conf.mk
              (SFrm.mk 71 none none
                [Item.inLoop (cAt Try.prog 71 [1, 0, 1, 0, 0]), Item.inBlock 0, Item.code (cAt Try.prog 71 [1, 1])]
                (mkJ 0
                  [(0, SV.dat d), (1, SV.int IntKind.i64 n), (7, SV.int IntKind.i64 (↑(D.len d) : Int)),
                    (8, SV.int IntKind.i64 (IntKind.wrap IntKind.i64 (j + 1)))]
                  0 19))
              [] [])))))
    (Tree.ret (SV.int IntKind.i64 (Int.neg 1))) := by kernel_rfl

theorem has_go : exec Try.prog [] 200 (unroll (hasL d n j)) =
  Tree.br (decide (j < (↑(D.len d) : Int)))
    (Tree.need (0 ≤ j ∧ j < (↑(D.len d) : Int) ∧ D.sz d = 1)
      (Tree.need (D.HasCell d (Int.toNat j) 0 (FT.int IntKind.i64))
        (Tree.br (decide (D.getInt d (Int.toNat j) 0 = n)) (Tree.ret (SV.lb true))
          (Tree.leaf
            (Conf.mk
              (SFrm.mk 73 none none
                [Item.inLoop (cAt Try.prog 73 [1, 0, 1, 0, 0]), Item.inBlock 0, Item.code (cAt Try.prog 73 [1, 1])]
                (mkJ 0
                  [(0, SV.dat d), (1, SV.int IntKind.i64 n), (5, SV.int IntKind.i64 (IntKind.wrap IntKind.i64 (j + 1)))] 0
                  18))
              [] [])))))
    (Tree.ret (SV.lb false)) := by kernel_rfl

theorem every_go : exec Try.prog [] 200 (unroll (everyL d j)) =
  Tree.br (decide (j < (↑(D.len d) : Int)))
    (Tree.need (0 ≤ j ∧ j < (↑(D.len d) : Int) ∧ D.sz d = 1)
      (Tree.need (D.HasCell d (Int.toNat j) 0 FT.bool)
        (Tree.br (!D.getBool d (Int.toNat j) 0) (Tree.ret (SV.lb false))
          (Tree.leaf
            (Conf.mk
              (SFrm.mk 64 none none
                [Item.inLoop (cAt Try.prog 64 [1, 0, 1, 0, 0]), Item.inBlock 0, Item.code (cAt Try.prog 64 [1, 1])]
                (mkJ 0 [(0, SV.dat d), (3, SV.int IntKind.i64 (IntKind.wrap IntKind.i64 (j + 1)))] 0 15))
              [] [])))))
    (Tree.ret (SV.lb true)) := by kernel_rfl

theorem cm1_in : exec Try.prog ctH 400 (entry Try.prog 38 [.agg [.int .i64 mr, .int .i64 mp, .int .i64 mt, .int .i64 mi, .bool frozen, .int .i64 mu, .dat wt, .dat hd]]) =
  Tree.br (decide (mr ≥ 0))
    (Tree.br (!decide (mr ≤ 1073741824))
      (Tree.br (!decide (mr ≤ 1073741824)) (Tree.ret (SV.int IntKind.i64 3))
        (Tree.br (decide (mp < 0))
          (Tree.br (decide (mp < 0)) (Tree.ret (SV.int IntKind.i64 3))
            (Tree.leaf
              (Conf.mk
                (SFrm.mk 38 none none
                  [Item.inLoop (cAt Try.prog 38 [1, 1, 0, 1, 0, 0]), Item.inBlock 1,
                    Item.code (cAt Try.prog 38 [1, 1, 1])]
                  (mkJ 0
                    [(1, SV.ptr 0 0), (46, SV.dat wt), (47, SV.int IntKind.i64 (↑(D.len wt) : Int)),
                      (48, SV.int IntKind.i64 0)]
                    0 107))
                []
                [(0,
                    OBlk.cells 28
                      [SV.int IntKind.i64 mr, SV.int IntKind.i64 mp, SV.int IntKind.i64 mt, SV.int IntKind.i64 mi,
                        SV.bool frozen, SV.int IntKind.i64 mu, SV.dat wt, SV.dat hd])])))
          (Tree.br (decide (mp > mi))
            (Tree.br (decide (mp > mi)) (Tree.ret (SV.int IntKind.i64 3))
              (Tree.leaf
                (Conf.mk
                  (SFrm.mk 38 none none
                    [Item.inLoop (cAt Try.prog 38 [1, 1, 0, 1, 0, 0]), Item.inBlock 1,
                      Item.code (cAt Try.prog 38 [1, 1, 1])]
                    (mkJ 0
                      [(1, SV.ptr 0 0), (46, SV.dat wt), (47, SV.int IntKind.i64 (↑(D.len wt) : Int)),
                        (48, SV.int IntKind.i64 0)]
                      0 107))
                  []
                  [(0,
                      OBlk.cells 28
                        [SV.int IntKind.i64 mr, SV.int IntKind.i64 mp, SV.int IntKind.i64 mt, SV.int IntKind.i64 mi,
                          SV.bool frozen, SV.int IntKind.i64 mu, SV.dat wt, SV.dat hd])])))
            (Tree.br (decide (mi > 4096))
              (Tree.br (decide (mi > 4096)) (Tree.ret (SV.int IntKind.i64 3))
                (Tree.leaf
                  (Conf.mk
                    (SFrm.mk 38 none none
                      [Item.inLoop (cAt Try.prog 38 [1, 1, 0, 1, 0, 0]), Item.inBlock 1,
                        Item.code (cAt Try.prog 38 [1, 1, 1])]
                      (mkJ 0
                        [(1, SV.ptr 0 0), (46, SV.dat wt), (47, SV.int IntKind.i64 (↑(D.len wt) : Int)),
                          (48, SV.int IntKind.i64 0)]
                        0 107))
                    []
                    [(0,
                        OBlk.cells 28
                          [SV.int IntKind.i64 mr, SV.int IntKind.i64 mp, SV.int IntKind.i64 mt, SV.int IntKind.i64 mi,
                            SV.bool frozen, SV.int IntKind.i64 mu, SV.dat wt, SV.dat hd])])))
              (Tree.br (!frozen)
                (Tree.br (decide ((↑(D.len hd) : Int) > 0)) (Tree.ret (SV.int IntKind.i64 3))
                  (Tree.leaf
                    (Conf.mk
                      (SFrm.mk 38 none none
                        [Item.inLoop (cAt Try.prog 38 [1, 1, 0, 1, 0, 0]), Item.inBlock 1,
                          Item.code (cAt Try.prog 38 [1, 1, 1])]
                        (mkJ 0
                          [(1, SV.ptr 0 0), (46, SV.dat wt), (47, SV.int IntKind.i64 (↑(D.len wt) : Int)),
                            (48, SV.int IntKind.i64 0)]
                          0 107))
                      []
                      [(0,
                          OBlk.cells 28
                            [SV.int IntKind.i64 mr, SV.int IntKind.i64 mp, SV.int IntKind.i64 mt, SV.int IntKind.i64 mi,
                              SV.bool frozen, SV.int IntKind.i64 mu, SV.dat wt, SV.dat hd])])))
                (Tree.leaf
                  (Conf.mk
                    (SFrm.mk 38 none none
                      [Item.inLoop (cAt Try.prog 38 [1, 1, 0, 1, 0, 0]), Item.inBlock 1,
                        Item.code (cAt Try.prog 38 [1, 1, 1])]
                      (mkJ 0
                        [(1, SV.ptr 0 0), (46, SV.dat wt), (47, SV.int IntKind.i64 (↑(D.len wt) : Int)),
                          (48, SV.int IntKind.i64 0)]
                        0 107))
                    []
                    [(0,
                        OBlk.cells 28
                          [SV.int IntKind.i64 mr, SV.int IntKind.i64 mp, SV.int IntKind.i64 mt, SV.int IntKind.i64 mi,
                            SV.bool frozen, SV.int IntKind.i64 mu, SV.dat wt, SV.dat hd])])))))))
      (Tree.br (decide (mu ≥ 0))
        (Tree.br (!decide (mu ≤ 1073741824))
          (Tree.br (!decide (mu ≤ 1073741824)) (Tree.ret (SV.int IntKind.i64 3))
            (Tree.br (decide (mp < 0))
              (Tree.br (decide (mp < 0)) (Tree.ret (SV.int IntKind.i64 3))
                (Tree.leaf
                  (Conf.mk
                    (SFrm.mk 38 none none
                      [Item.inLoop (cAt Try.prog 38 [1, 1, 0, 1, 0, 0]), Item.inBlock 1,
                        Item.code (cAt Try.prog 38 [1, 1, 1])]
                      (mkJ 0
                        [(1, SV.ptr 0 0), (46, SV.dat wt), (47, SV.int IntKind.i64 (↑(D.len wt) : Int)),
                          (48, SV.int IntKind.i64 0)]
                        0 107))
                    []
                    [(0,
                        OBlk.cells 28
                          [SV.int IntKind.i64 mr, SV.int IntKind.i64 mp, SV.int IntKind.i64 mt, SV.int IntKind.i64 mi,
                            SV.bool frozen, SV.int IntKind.i64 mu, SV.dat wt, SV.dat hd])])))
              (Tree.br (decide (mp > mi))
                (Tree.br (decide (mp > mi)) (Tree.ret (SV.int IntKind.i64 3))
                  (Tree.leaf
                    (Conf.mk
                      (SFrm.mk 38 none none
                        [Item.inLoop (cAt Try.prog 38 [1, 1, 0, 1, 0, 0]), Item.inBlock 1,
                          Item.code (cAt Try.prog 38 [1, 1, 1])]
                        (mkJ 0
                          [(1, SV.ptr 0 0), (46, SV.dat wt), (47, SV.int IntKind.i64 (↑(D.len wt) : Int)),
                            (48, SV.int IntKind.i64 0)]
                          0 107))
                      []
                      [(0,
                          OBlk.cells 28
                            [SV.int IntKind.i64 mr, SV.int IntKind.i64 mp, SV.int IntKind.i64 mt, SV.int IntKind.i64 mi,
                              SV.bool frozen, SV.int IntKind.i64 mu, SV.dat wt, SV.dat hd])])))
                (Tree.br (decide (mi > 4096))
                  (Tree.br (decide (mi > 4096)) (Tree.ret (SV.int IntKind.i64 3))
                    (Tree.leaf
                      (Conf.mk
                        (SFrm.mk 38 none none
                          [Item.inLoop (cAt Try.prog 38 [1, 1, 0, 1, 0, 0]), Item.inBlock 1,
                            Item.code (cAt Try.prog 38 [1, 1, 1])]
                          (mkJ 0
                            [(1, SV.ptr 0 0), (46, SV.dat wt), (47, SV.int IntKind.i64 (↑(D.len wt) : Int)),
                              (48, SV.int IntKind.i64 0)]
                            0 107))
                        []
                        [(0,
                            OBlk.cells 28
                              [SV.int IntKind.i64 mr, SV.int IntKind.i64 mp, SV.int IntKind.i64 mt, SV.int IntKind.i64 mi,
                                SV.bool frozen, SV.int IntKind.i64 mu, SV.dat wt, SV.dat hd])])))
                  (Tree.br (!frozen)
                    (Tree.br (decide ((↑(D.len hd) : Int) > 0)) (Tree.ret (SV.int IntKind.i64 3))
                      (Tree.leaf
                        (Conf.mk
                          (SFrm.mk 38 none none
                            [Item.inLoop (cAt Try.prog 38 [1, 1, 0, 1, 0, 0]), Item.inBlock 1,
                              Item.code (cAt Try.prog 38 [1, 1, 1])]
                            (mkJ 0
                              [(1, SV.ptr 0 0), (46, SV.dat wt), (47, SV.int IntKind.i64 (↑(D.len wt) : Int)),
                                (48, SV.int IntKind.i64 0)]
                              0 107))
                          []
                          [(0,
                              OBlk.cells 28
                                [SV.int IntKind.i64 mr, SV.int IntKind.i64 mp, SV.int IntKind.i64 mt,
                                  SV.int IntKind.i64 mi, SV.bool frozen, SV.int IntKind.i64 mu, SV.dat wt, SV.dat hd])])))
                    (Tree.leaf
                      (Conf.mk
                        (SFrm.mk 38 none none
                          [Item.inLoop (cAt Try.prog 38 [1, 1, 0, 1, 0, 0]), Item.inBlock 1,
                            Item.code (cAt Try.prog 38 [1, 1, 1])]
                          (mkJ 0
                            [(1, SV.ptr 0 0), (46, SV.dat wt), (47, SV.int IntKind.i64 (↑(D.len wt) : Int)),
                              (48, SV.int IntKind.i64 0)]
                            0 107))
                        []
                        [(0,
                            OBlk.cells 28
                              [SV.int IntKind.i64 mr, SV.int IntKind.i64 mp, SV.int IntKind.i64 mt, SV.int IntKind.i64 mi,
                                SV.bool frozen, SV.int IntKind.i64 mu, SV.dat wt, SV.dat hd])])))))))
          (Tree.br (decide (mt < 0))
            (Tree.br (decide (mt < 0)) (Tree.ret (SV.int IntKind.i64 3))
              (Tree.br (decide (mp < 0))
                (Tree.br (decide (mp < 0)) (Tree.ret (SV.int IntKind.i64 3))
                  (Tree.leaf
                    (Conf.mk
                      (SFrm.mk 38 none none
                        [Item.inLoop (cAt Try.prog 38 [1, 1, 0, 1, 0, 0]), Item.inBlock 1,
                          Item.code (cAt Try.prog 38 [1, 1, 1])]
                        (mkJ 0
                          [(1, SV.ptr 0 0), (46, SV.dat wt), (47, SV.int IntKind.i64 (↑(D.len wt) : Int)),
                            (48, SV.int IntKind.i64 0)]
                          0 107))
                      []
                      [(0,
                          OBlk.cells 28
                            [SV.int IntKind.i64 mr, SV.int IntKind.i64 mp, SV.int IntKind.i64 mt, SV.int IntKind.i64 mi,
                              SV.bool frozen, SV.int IntKind.i64 mu, SV.dat wt, SV.dat hd])])))
                (Tree.br (decide (mp > mi))
                  (Tree.br (decide (mp > mi)) (Tree.ret (SV.int IntKind.i64 3))
                    (Tree.leaf
                      (Conf.mk
                        (SFrm.mk 38 none none
                          [Item.inLoop (cAt Try.prog 38 [1, 1, 0, 1, 0, 0]), Item.inBlock 1,
                            Item.code (cAt Try.prog 38 [1, 1, 1])]
                          (mkJ 0
                            [(1, SV.ptr 0 0), (46, SV.dat wt), (47, SV.int IntKind.i64 (↑(D.len wt) : Int)),
                              (48, SV.int IntKind.i64 0)]
                            0 107))
                        []
                        [(0,
                            OBlk.cells 28
                              [SV.int IntKind.i64 mr, SV.int IntKind.i64 mp, SV.int IntKind.i64 mt, SV.int IntKind.i64 mi,
                                SV.bool frozen, SV.int IntKind.i64 mu, SV.dat wt, SV.dat hd])])))
                  (Tree.br (decide (mi > 4096))
                    (Tree.br (decide (mi > 4096)) (Tree.ret (SV.int IntKind.i64 3))
                      (Tree.leaf
                        (Conf.mk
                          (SFrm.mk 38 none none
                            [Item.inLoop (cAt Try.prog 38 [1, 1, 0, 1, 0, 0]), Item.inBlock 1,
                              Item.code (cAt Try.prog 38 [1, 1, 1])]
                            (mkJ 0
                              [(1, SV.ptr 0 0), (46, SV.dat wt), (47, SV.int IntKind.i64 (↑(D.len wt) : Int)),
                                (48, SV.int IntKind.i64 0)]
                              0 107))
                          []
                          [(0,
                              OBlk.cells 28
                                [SV.int IntKind.i64 mr, SV.int IntKind.i64 mp, SV.int IntKind.i64 mt,
                                  SV.int IntKind.i64 mi, SV.bool frozen, SV.int IntKind.i64 mu, SV.dat wt, SV.dat hd])])))
                    (Tree.br (!frozen)
                      (Tree.br (decide ((↑(D.len hd) : Int) > 0)) (Tree.ret (SV.int IntKind.i64 3))
                        (Tree.leaf
                          (Conf.mk
                            (SFrm.mk 38 none none
                              [Item.inLoop (cAt Try.prog 38 [1, 1, 0, 1, 0, 0]), Item.inBlock 1,
                                Item.code (cAt Try.prog 38 [1, 1, 1])]
                              (mkJ 0
                                [(1, SV.ptr 0 0), (46, SV.dat wt), (47, SV.int IntKind.i64 (↑(D.len wt) : Int)),
                                  (48, SV.int IntKind.i64 0)]
                                0 107))
                            []
                            [(0,
                                OBlk.cells 28
                                  [SV.int IntKind.i64 mr, SV.int IntKind.i64 mp, SV.int IntKind.i64 mt,
                                    SV.int IntKind.i64 mi, SV.bool frozen, SV.int IntKind.i64 mu, SV.dat wt,
                                    SV.dat hd])])))
                      (Tree.leaf
                        (Conf.mk
                          (SFrm.mk 38 none none
                            [Item.inLoop (cAt Try.prog 38 [1, 1, 0, 1, 0, 0]), Item.inBlock 1,
                              Item.code (cAt Try.prog 38 [1, 1, 1])]
                            (mkJ 0
                              [(1, SV.ptr 0 0), (46, SV.dat wt), (47, SV.int IntKind.i64 (↑(D.len wt) : Int)),
                                (48, SV.int IntKind.i64 0)]
                              0 107))
                          []
                          [(0,
                              OBlk.cells 28
                                [SV.int IntKind.i64 mr, SV.int IntKind.i64 mp, SV.int IntKind.i64 mt,
                                  SV.int IntKind.i64 mi, SV.bool frozen, SV.int IntKind.i64 mu, SV.dat wt,
                                  SV.dat hd])])))))))
            (Tree.br (decide (mt > mr)) (Tree.ret (SV.int IntKind.i64 3))
              (Tree.br (decide (mp < 0))
                (Tree.br (decide (mp < 0)) (Tree.ret (SV.int IntKind.i64 3))
                  (Tree.leaf
                    (Conf.mk
                      (SFrm.mk 38 none none
                        [Item.inLoop (cAt Try.prog 38 [1, 1, 0, 1, 0, 0]), Item.inBlock 1,
                          Item.code (cAt Try.prog 38 [1, 1, 1])]
                        (mkJ 0
                          [(1, SV.ptr 0 0), (46, SV.dat wt), (47, SV.int IntKind.i64 (↑(D.len wt) : Int)),
                            (48, SV.int IntKind.i64 0)]
                          0 107))
                      []
                      [(0,
                          OBlk.cells 28
                            [SV.int IntKind.i64 mr, SV.int IntKind.i64 mp, SV.int IntKind.i64 mt, SV.int IntKind.i64 mi,
                              SV.bool frozen, SV.int IntKind.i64 mu, SV.dat wt, SV.dat hd])])))
                (Tree.br (decide (mp > mi))
                  (Tree.br (decide (mp > mi)) (Tree.ret (SV.int IntKind.i64 3))
                    (Tree.leaf
                      (Conf.mk
                        (SFrm.mk 38 none none
                          [Item.inLoop (cAt Try.prog 38 [1, 1, 0, 1, 0, 0]), Item.inBlock 1,
                            Item.code (cAt Try.prog 38 [1, 1, 1])]
                          (mkJ 0
                            [(1, SV.ptr 0 0), (46, SV.dat wt), (47, SV.int IntKind.i64 (↑(D.len wt) : Int)),
                              (48, SV.int IntKind.i64 0)]
                            0 107))
                        []
                        [(0,
                            OBlk.cells 28
                              [SV.int IntKind.i64 mr, SV.int IntKind.i64 mp, SV.int IntKind.i64 mt, SV.int IntKind.i64 mi,
                                SV.bool frozen, SV.int IntKind.i64 mu, SV.dat wt, SV.dat hd])])))
                  (Tree.br (decide (mi > 4096))
                    (Tree.br (decide (mi > 4096)) (Tree.ret (SV.int IntKind.i64 3))
                      (Tree.leaf
                        (Conf.mk
                          (SFrm.mk 38 none none
                            [Item.inLoop (cAt Try.prog 38 [1, 1, 0, 1, 0, 0]), Item.inBlock 1,
                              Item.code (cAt Try.prog 38 [1, 1, 1])]
                            (mkJ 0
                              [(1, SV.ptr 0 0), (46, SV.dat wt), (47, SV.int IntKind.i64 (↑(D.len wt) : Int)),
                                (48, SV.int IntKind.i64 0)]
                              0 107))
                          []
                          [(0,
                              OBlk.cells 28
                                [SV.int IntKind.i64 mr, SV.int IntKind.i64 mp, SV.int IntKind.i64 mt,
                                  SV.int IntKind.i64 mi, SV.bool frozen, SV.int IntKind.i64 mu, SV.dat wt, SV.dat hd])])))
                    (Tree.br (!frozen)
                      (Tree.br (decide ((↑(D.len hd) : Int) > 0)) (Tree.ret (SV.int IntKind.i64 3))
                        (Tree.leaf
                          (Conf.mk
                            (SFrm.mk 38 none none
                              [Item.inLoop (cAt Try.prog 38 [1, 1, 0, 1, 0, 0]), Item.inBlock 1,
                                Item.code (cAt Try.prog 38 [1, 1, 1])]
                              (mkJ 0
                                [(1, SV.ptr 0 0), (46, SV.dat wt), (47, SV.int IntKind.i64 (↑(D.len wt) : Int)),
                                  (48, SV.int IntKind.i64 0)]
                                0 107))
                            []
                            [(0,
                                OBlk.cells 28
                                  [SV.int IntKind.i64 mr, SV.int IntKind.i64 mp, SV.int IntKind.i64 mt,
                                    SV.int IntKind.i64 mi, SV.bool frozen, SV.int IntKind.i64 mu, SV.dat wt,
                                    SV.dat hd])])))
                      (Tree.leaf
                        (Conf.mk
                          (SFrm.mk 38 none none
                            [Item.inLoop (cAt Try.prog 38 [1, 1, 0, 1, 0, 0]), Item.inBlock 1,
                              Item.code (cAt Try.prog 38 [1, 1, 1])]
                            (mkJ 0
                              [(1, SV.ptr 0 0), (46, SV.dat wt), (47, SV.int IntKind.i64 (↑(D.len wt) : Int)),
                                (48, SV.int IntKind.i64 0)]
                              0 107))
                          []
                          [(0,
                              OBlk.cells 28
                                [SV.int IntKind.i64 mr, SV.int IntKind.i64 mp, SV.int IntKind.i64 mt,
                                  SV.int IntKind.i64 mi, SV.bool frozen, SV.int IntKind.i64 mu, SV.dat wt,
                                  SV.dat hd])])))))))))
        (Tree.ret (SV.int IntKind.i64 3))))
    (Tree.ret (SV.int IntKind.i64 3)) := by kernel_rfl

theorem cm2_in : exec Try.prog ctH 400 (entry Try.prog 39 [.agg [.int .i64 mr, .int .i64 mp, .int .i64 mt, .int .i64 mi, .bool frozen, .int .i64 mu, .dat wt, .dat hd]]) =
  Tree.br (decide (mr < 0)) (Tree.ret (SV.int IntKind.i64 3))
    (Tree.br (decide (mr > 1073741824)) (Tree.ret (SV.int IntKind.i64 3))
      (Tree.br (decide (mu < 0)) (Tree.ret (SV.int IntKind.i64 3))
        (Tree.br (decide (mu > 1073741824)) (Tree.ret (SV.int IntKind.i64 3))
          (Tree.br (decide (mt < 0)) (Tree.ret (SV.int IntKind.i64 3))
            (Tree.br (decide (mt > mr)) (Tree.ret (SV.int IntKind.i64 3))
              (Tree.br (decide (mp < 0)) (Tree.ret (SV.int IntKind.i64 3))
                (Tree.br (decide (mp > mi)) (Tree.ret (SV.int IntKind.i64 3))
                  (Tree.br (decide (mi > 4096)) (Tree.ret (SV.int IntKind.i64 3))
                    (Tree.br (!frozen)
                      (Tree.br (decide ((↑(D.len hd) : Int) > 0)) (Tree.ret (SV.int IntKind.i64 3))
                        (Tree.leaf
                          (Conf.mk
                            (SFrm.mk 39 none none
                              [Item.inLoop (cAt Try.prog 39 [1, 1, 1, 0, 1, 0, 0]), Item.inBlock 0,
                                Item.code (cAt Try.prog 39 [1, 1, 1, 1])]
                              (mkJ 0 [(1, SV.ptr 0 0), (3, SV.int IntKind.i64 0)] 0 147))
                            []
                            [(0,
                                OBlk.cells 28
                                  [SV.int IntKind.i64 mr, SV.int IntKind.i64 mp, SV.int IntKind.i64 mt,
                                    SV.int IntKind.i64 mi, SV.bool frozen, SV.int IntKind.i64 mu, SV.dat wt,
                                    SV.dat hd])])))
                      (Tree.leaf
                        (Conf.mk
                          (SFrm.mk 39 none none
                            [Item.inLoop (cAt Try.prog 39 [1, 1, 1, 0, 1, 0, 0]), Item.inBlock 0,
                              Item.code (cAt Try.prog 39 [1, 1, 1, 1])]
                            (mkJ 0 [(1, SV.ptr 0 0), (3, SV.int IntKind.i64 0)] 0 147))
                          []
                          [(0,
                              OBlk.cells 28
                                [SV.int IntKind.i64 mr, SV.int IntKind.i64 mp, SV.int IntKind.i64 mt,
                                  SV.int IntKind.i64 mi, SV.bool frozen, SV.int IntKind.i64 mu, SV.dat wt,
                                  SV.dat hd])]))))))))))) := by kernel_rfl

theorem cm1a_go : exec Try.prog ctH 400 (unroll (cm1aL mr mp mt mi mu frozen wt hd j)) =
  Tree.br (decide (j < (↑(D.len wt) : Int)))
    (Tree.need (0 ≤ j ∧ j < (↑(D.len wt) : Int) ∧ D.sz wt = 1)
      (Tree.need (D.HasCell wt (Int.toNat j) 0 (FT.int IntKind.i64))
        (Tree.br (decide (D.getInt wt (Int.toNat j) 0 < 0)) (Tree.ret (SV.int IntKind.i64 3))
          (Tree.br (decide (D.getInt wt (Int.toNat j) 0 ≥ mi)) (Tree.ret (SV.int IntKind.i64 3))
            (Tree.br (decide (j > 0))
              (Tree.need
                (0 ≤ IntKind.wrap IntKind.i64 (j - 1) ∧
                  IntKind.wrap IntKind.i64 (j - 1) < (↑(D.len wt) : Int) ∧ D.sz wt = 1)
                (Tree.need (D.HasCell wt (Int.toNat (IntKind.wrap IntKind.i64 (j - 1))) 0 (FT.int IntKind.i64))
                  (Tree.br
                    (decide (D.getInt wt (Int.toNat j) 0 ≤ D.getInt wt (Int.toNat (IntKind.wrap IntKind.i64 (j - 1))) 0))
                    (Tree.ret (SV.int IntKind.i64 3))
                    (Tree.leaf
                      (Conf.mk
                        (SFrm.mk 38 none none
                          [Item.inLoop (cAt Try.prog 38 [1, 1, 0, 1, 0, 0]), Item.inBlock 1,
                            Item.code (cAt Try.prog 38 [1, 1, 1])]
                          (mkJ 0
                            [(1, SV.ptr 0 0), (46, SV.dat wt), (47, SV.int IntKind.i64 (↑(D.len wt) : Int)),
                              (48, SV.int IntKind.i64 (IntKind.wrap IntKind.i64 (j + 1)))]
                            0 107))
                        []
                        [(0,
                            OBlk.cells 28
                              [SV.int IntKind.i64 mr, SV.int IntKind.i64 mp, SV.int IntKind.i64 mt, SV.int IntKind.i64 mi,
                                SV.bool frozen, SV.int IntKind.i64 mu, SV.dat wt, SV.dat hd])])))))
              (Tree.leaf
                (Conf.mk
                  (SFrm.mk 38 none none
                    [Item.inLoop (cAt Try.prog 38 [1, 1, 0, 1, 0, 0]), Item.inBlock 1,
                      Item.code (cAt Try.prog 38 [1, 1, 1])]
                    (mkJ 0
                      [(1, SV.ptr 0 0), (46, SV.dat wt), (47, SV.int IntKind.i64 (↑(D.len wt) : Int)),
                        (48, SV.int IntKind.i64 (IntKind.wrap IntKind.i64 (j + 1)))]
                      0 107))
                  []
                  [(0,
                      OBlk.cells 28
                        [SV.int IntKind.i64 mr, SV.int IntKind.i64 mp, SV.int IntKind.i64 mt, SV.int IntKind.i64 mi,
                          SV.bool frozen, SV.int IntKind.i64 mu, SV.dat wt, SV.dat hd])])))))))
    (Tree.leaf
      (Conf.mk
        (SFrm.mk 38 none none
          [Item.inLoop (cAt Try.prog 38 [1, 1, 1, 0, 1, 0, 0]), Item.inBlock 3, Item.code (cAt Try.prog 38 [1, 1, 1, 1])]
          (mkJ 0
            [(1, SV.ptr 0 0), (77, SV.dat hd), (78, SV.int IntKind.i64 (↑(D.len hd) : Int)), (79, SV.int IntKind.i64 0)] 0
            107))
        []
        [(0,
            OBlk.cells 28
              [SV.int IntKind.i64 mr, SV.int IntKind.i64 mp, SV.int IntKind.i64 mt, SV.int IntKind.i64 mi, SV.bool frozen,
                SV.int IntKind.i64 mu, SV.dat wt, SV.dat hd])])) := by kernel_rfl

theorem cm1b_go : exec Try.prog ctH 400 (unroll (cm1bL mr mp mt mi mu frozen wt hd j)) =
  Tree.br (decide (j < (↑(D.len hd) : Int)))
    (Tree.need (0 ≤ j ∧ j < (↑(D.len hd) : Int) ∧ D.sz hd = 1)
      (Tree.need (D.HasCell hd (Int.toNat j) 0 (FT.int IntKind.i64))
        (Tree.br (decide (D.getInt hd (Int.toNat j) 0 < 0)) (Tree.ret (SV.int IntKind.i64 3))
          (Tree.br (decide (D.getInt hd (Int.toNat j) 0 ≥ mi)) (Tree.ret (SV.int IntKind.i64 3))
            (Tree.need (0 ≤ (↑0 : Int) ∧ (↑0 : Int) ≤ j ∧ j ≤ (↑(D.len hd) : Int) ∧ D.Fits hd 1)
              (Tree.need (D.Is Int (D.sub hd 0 (Int.toNat j)) ∧ D.len (D.sub hd 0 (Int.toNat j)) ≤ 1048576)
                (Tree.br (List.contains (D.to Int (D.sub hd 0 (Int.toNat j))) (D.getInt hd (Int.toNat j) 0))
                  (Tree.ret (SV.int IntKind.i64 3))
                  (Tree.need (D.Is Int wt ∧ D.len wt ≤ 1048576)
                    (Tree.br (List.contains (D.to Int wt) (D.getInt hd (Int.toNat j) 0)) (Tree.ret (SV.int IntKind.i64 3))
                      (Tree.leaf
                        (Conf.mk
                          (SFrm.mk 38 none none
                            [Item.inLoop (cAt Try.prog 38 [1, 1, 1, 0, 1, 0, 0]), Item.inBlock 3,
                              Item.code (cAt Try.prog 38 [1, 1, 1, 1])]
                            (mkJ 0
                              [(1, SV.ptr 0 0), (77, SV.dat hd), (78, SV.int IntKind.i64 (↑(D.len hd) : Int)),
                                (79, SV.int IntKind.i64 (IntKind.wrap IntKind.i64 (j + 1)))]
                              0 107))
                          []
                          [(0,
                              OBlk.cells 28
                                [SV.int IntKind.i64 mr, SV.int IntKind.i64 mp, SV.int IntKind.i64 mt,
                                  SV.int IntKind.i64 mi, SV.bool frozen, SV.int IntKind.i64 mu, SV.dat wt,
                                  SV.dat hd])])))))))))))
    (Tree.ret (SV.int IntKind.i64 0)) := by kernel_rfl

theorem cm2a_go : exec Try.prog ctH 400 (unroll (cm2aL mr mp mt mi mu frozen wt hd j)) =
  Tree.br (decide (j < (↑(D.len wt) : Int)))
    (Tree.all fun hs =>
      Tree.br (decide (D.getInt wt (Int.toNat j) 0 < 0))
        (Tree.need (0 ≤ j ∧ j < (↑(D.len wt) : Int) ∧ D.sz wt = 1)
          (Tree.need (D.HasCell wt (Int.toNat j) 0 (FT.int IntKind.i64))
            (Tree.need (decide (D.getInt wt (Int.toNat j) 0 < 0) = true)
              (Tree.need (decide (D.getInt wt (Int.toNat j) 0 < 0) = true)
                (Tree.need (decide (D.getInt wt (Int.toNat j) 0 < 0) = true)
                  (Tree.need (decide (D.getInt wt (Int.toNat j) 0 < 0) = true)
                    (Tree.need (decide (D.getInt wt (Int.toNat j) 0 < 0) = true)
                      (Tree.need (decide (D.getInt wt (Int.toNat j) 0 < 0) = true)
                        (Tree.need (decide (D.getInt wt (Int.toNat j) 0 < 0) = true)
                          (Tree.need (decide (D.getInt wt (Int.toNat j) 0 < 0) = true)
                            (Tree.need (decide (D.getInt wt (Int.toNat j) 0 < 0) = true)
                              (Tree.ret (SV.int IntKind.i64 3)))))))))))))
        (Tree.br (decide (D.getInt wt (Int.toNat j) 0 ≥ mi))
          (Tree.need (0 ≤ j ∧ j < (↑(D.len wt) : Int) ∧ D.sz wt = 1)
            (Tree.need (D.HasCell wt (Int.toNat j) 0 (FT.int IntKind.i64))
              (Tree.need (decide (D.getInt wt (Int.toNat j) 0 < 0) = false)
                (Tree.need (decide (D.getInt wt (Int.toNat j) 0 < 0) = false)
                  (Tree.need (decide (D.getInt wt (Int.toNat j) 0 < 0) = false)
                    (Tree.need (decide (D.getInt wt (Int.toNat j) 0 < 0) = false)
                      (Tree.need (0 ≤ j ∧ j < (↑(D.len wt) : Int) ∧ D.sz wt = 1)
                        (Tree.need (decide (D.getInt wt (Int.toNat j) 0 < 0) = false)
                          (Tree.need (D.HasCell wt (Int.toNat j) 0 (FT.int IntKind.i64))
                            (Tree.need (decide (D.getInt wt (Int.toNat j) 0 < 0) = false)
                              (Tree.need (decide (D.getInt wt (Int.toNat j) 0 < 0) = false)
                                (Tree.need (decide (D.getInt wt (Int.toNat j) 0 < 0) = false)
                                  (Tree.need (decide (D.getInt wt (Int.toNat j) 0 < 0) = false)
                                    (Tree.need (decide (D.getInt wt (Int.toNat j) 0 ≥ mi) = true)
                                      (Tree.need (decide (D.getInt wt (Int.toNat j) 0 ≥ mi) = true)
                                        (Tree.need (decide (D.getInt wt (Int.toNat j) 0 ≥ mi) = true)
                                          (Tree.need (decide (D.getInt wt (Int.toNat j) 0 ≥ mi) = true)
                                            (Tree.need (decide (D.getInt wt (Int.toNat j) 0 ≥ mi) = true)
                                              (Tree.ret (SV.int IntKind.i64 3))))))))))))))))))))
          (Tree.br (decide (j > 0))
            (Tree.need (0 ≤ j ∧ j < (↑(D.len wt) : Int) ∧ D.sz wt = 1)
              (Tree.need (D.HasCell wt (Int.toNat j) 0 (FT.int IntKind.i64))
                (Tree.need (decide (D.getInt wt (Int.toNat j) 0 < 0) = false)
                  (Tree.need (decide (D.getInt wt (Int.toNat j) 0 < 0) = false)
                    (Tree.need (decide (D.getInt wt (Int.toNat j) 0 < 0) = false)
                      (Tree.need (decide (D.getInt wt (Int.toNat j) 0 < 0) = false)
                        (Tree.need (0 ≤ j ∧ j < (↑(D.len wt) : Int) ∧ D.sz wt = 1)
                          (Tree.need (decide (D.getInt wt (Int.toNat j) 0 < 0) = false)
                            (Tree.need (D.HasCell wt (Int.toNat j) 0 (FT.int IntKind.i64))
                              (Tree.need (decide (D.getInt wt (Int.toNat j) 0 < 0) = false)
                                (Tree.need (decide (D.getInt wt (Int.toNat j) 0 < 0) = false)
                                  (Tree.need (decide (D.getInt wt (Int.toNat j) 0 < 0) = false)
                                    (Tree.need (decide (D.getInt wt (Int.toNat j) 0 < 0) = false)
                                      (Tree.need (decide (D.getInt wt (Int.toNat j) 0 ≥ mi) = false)
                                        (Tree.need (decide (D.getInt wt (Int.toNat j) 0 ≥ mi) = false)
                                          (Tree.need (decide (D.getInt wt (Int.toNat j) 0 ≥ mi) = false)
                                            (Tree.need (decide (j > 0) = true)
                                              (Tree.need (decide (j > 0) = true)
                                                (Tree.need (decide (j > 0) = true)
                                                  (Tree.need (decide (j > 0) = true)
                                                    (Tree.need (0 ≤ j ∧ j < (↑(D.len wt) : Int) ∧ D.sz wt = 1)
                                                      (Tree.need (decide (j > 0) = true)
                                                        (Tree.need (D.HasCell wt (Int.toNat j) 0 (FT.int IntKind.i64))
                                                          (Tree.need (decide (j > 0) = true)
                                                            (Tree.need (decide (j > 0) = true)
                                                              (Tree.need (decide (j > 0) = true)
                                                                (Tree.need (decide (j > 0) = true)
                                                                  (Tree.need (decide (j > 0) = true)
                                                                    (Tree.need
                                                                      (0 ≤ IntKind.wrap IntKind.i64 (j - 1) ∧
                                                                        IntKind.wrap IntKind.i64 (j - 1) <
                                                                            (↑(D.len wt) : Int) ∧
                                                                          D.sz wt = 1)
                                                                      (Tree.need (decide (j > 0) = true)
                                                                        (Tree.need
                                                                          (D.HasCell wt
                                                                            (Int.toNat (IntKind.wrap IntKind.i64 (j - 1)))
                                                                            0 (FT.int IntKind.i64))
                                                                          (Tree.need (decide (j > 0) = true)
                                                                            (Tree.need
                                                                              (decide (D.getInt wt (Int.toNat j) 0 ≥ mi) =
                                                                                false)
                                                                              (Tree.need (decide (j > 0) = true)
                                                                                (Tree.need
                                                                                  (decide
                                                                                      (D.getInt wt (Int.toNat j) 0 ≥ mi) =
                                                                                    false)
                                                                                  (Tree.br
                                                                                    (decide
                                                                                      (D.getInt wt (Int.toNat j) 0 ≤
                                                                                        D.getInt wt
                                                                                          (Int.toNat
                                                                                            (IntKind.wrap IntKind.i64
                                                                                              (j - 1)))
                                                                                          0))
                                                                                    (Tree.ret (SV.int IntKind.i64 3))
                                                                                    (Tree.leaf
                                                                                      (Conf.mk
                                                                                        (SFrm.mk 39 none none
                                                                                          [Item.inLoop
                                                                                              (cAt Try.prog 39
                                                                                                [1, 1, 1, 0, 1, 0, 0]),
                                                                                            Item.inBlock 0,
                                                                                            Item.code
                                                                                              (cAt Try.prog 39
                                                                                                [1, 1, 1, 1])]
                                                                                          (mkJ 0
                                                                                            [(1, SV.ptr 0 0),
                                                                                              (3,
                                                                                                SV.int IntKind.i64
                                                                                                  (IntKind.wrap
                                                                                                    IntKind.i64 (j + 1)))]
                                                                                            0 147))
                                                                                        []
                                                                                        [(0,
                                                                                            OBlk.cells 28
                                                                                              [SV.int IntKind.i64 mr,
                                                                                                SV.int IntKind.i64 mp,
                                                                                                SV.int IntKind.i64 mt,
                                                                                                SV.int IntKind.i64 mi,
                                                                                                SV.bool frozen,
                                                                                                SV.int IntKind.i64 mu,
                                                                                                SV.dat wt,
                                                                                                SV.dat
                                                                                                  hd])]))))))))))))))))))))))))))))))))))))))
            (Tree.need (0 ≤ j ∧ j < (↑(D.len wt) : Int) ∧ D.sz wt = 1)
              (Tree.need (D.HasCell wt (Int.toNat j) 0 (FT.int IntKind.i64))
                (Tree.need (decide (D.getInt wt (Int.toNat j) 0 < 0) = false)
                  (Tree.need (decide (D.getInt wt (Int.toNat j) 0 < 0) = false)
                    (Tree.need (decide (D.getInt wt (Int.toNat j) 0 < 0) = false)
                      (Tree.need (decide (D.getInt wt (Int.toNat j) 0 < 0) = false)
                        (Tree.need (0 ≤ j ∧ j < (↑(D.len wt) : Int) ∧ D.sz wt = 1)
                          (Tree.need (decide (D.getInt wt (Int.toNat j) 0 < 0) = false)
                            (Tree.need (D.HasCell wt (Int.toNat j) 0 (FT.int IntKind.i64))
                              (Tree.need (decide (D.getInt wt (Int.toNat j) 0 < 0) = false)
                                (Tree.need (decide (D.getInt wt (Int.toNat j) 0 < 0) = false)
                                  (Tree.need (decide (D.getInt wt (Int.toNat j) 0 < 0) = false)
                                    (Tree.need (decide (D.getInt wt (Int.toNat j) 0 < 0) = false)
                                      (Tree.need (decide (D.getInt wt (Int.toNat j) 0 ≥ mi) = false)
                                        (Tree.need (decide (D.getInt wt (Int.toNat j) 0 ≥ mi) = false)
                                          (Tree.need (decide (D.getInt wt (Int.toNat j) 0 ≥ mi) = false)
                                            (Tree.need (decide (j > 0) = false)
                                              (Tree.need (decide (j > 0) = false)
                                                (Tree.need (decide (j > 0) = false)
                                                  (Tree.need (decide (j > 0) = false)
                                                    (Tree.need (decide (j > 0) = false)
                                                      (Tree.need (decide (j > 0) = false)
                                                        (Tree.need (decide (j > 0) = false)
                                                          (Tree.need (decide (j > 0) = false)
                                                            (Tree.need (decide (j > 0) = false)
                                                              (Tree.need (decide (j > 0) = false)
                                                                (Tree.need (decide (j > 0) = false)
                                                                  (Tree.need (decide (j > 0) = false)
                                                                    (Tree.need
                                                                      (decide (D.getInt wt (Int.toNat j) 0 ≥ mi) = false)
                                                                      (Tree.need (decide (j > 0) = false)
                                                                        (Tree.need
                                                                          (decide (D.getInt wt (Int.toNat j) 0 ≥ mi) =
                                                                            false)
                                                                          (Tree.leaf
                                                                            (Conf.mk
                                                                              (SFrm.mk 39 none none
                                                                                [Item.inLoop
                                                                                    (cAt Try.prog 39
                                                                                      [1, 1, 1, 0, 1, 0, 0]),
                                                                                  Item.inBlock 0,
                                                                                  Item.code
                                                                                    (cAt Try.prog 39 [1, 1, 1, 1])]
                                                                                (mkJ 0
                                                                                  [(1, SV.ptr 0 0),
                                                                                    (3,
                                                                                      SV.int IntKind.i64
                                                                                        (IntKind.wrap IntKind.i64
                                                                                          (j + 1)))]
                                                                                  0 147))
                                                                              []
                                                                              [(0,
                                                                                  OBlk.cells 28
                                                                                    [SV.int IntKind.i64 mr,
                                                                                      SV.int IntKind.i64 mp,
                                                                                      SV.int IntKind.i64 mt,
                                                                                      SV.int IntKind.i64 mi,
                                                                                      SV.bool frozen,
                                                                                      SV.int IntKind.i64 mu, SV.dat wt,
                                                                                      SV.dat
                                                                                        hd])]))))))))))))))))))))))))))))))))))))
    (Tree.leaf
      (Conf.mk
        (SFrm.mk 39 none none
          [Item.inLoop (cAt Try.prog 39 [1, 1, 1, 1, 0, 1, 0, 0]), Item.inBlock 2,
            Item.code (cAt Try.prog 39 [1, 1, 1, 1, 1])]
          (mkJ 0 [(1, SV.ptr 0 0), (4, SV.int IntKind.i64 0)] 0 147))
        []
        [(0,
            OBlk.cells 28
              [SV.int IntKind.i64 mr, SV.int IntKind.i64 mp, SV.int IntKind.i64 mt, SV.int IntKind.i64 mi, SV.bool frozen,
                SV.int IntKind.i64 mu, SV.dat wt, SV.dat hd])])) := by kernel_rfl

theorem cm2b_go : exec Try.prog ctH 400 (unroll (cm2bL mr mp mt mi mu frozen wt hd j)) =
  Tree.br (decide (j < (↑(D.len hd) : Int)))
    (Tree.all fun hs =>
      Tree.br (decide (D.getInt hd (Int.toNat j) 0 < 0))
        (Tree.need (0 ≤ j ∧ j < (↑(D.len hd) : Int) ∧ D.sz hd = 1)
          (Tree.need (D.HasCell hd (Int.toNat j) 0 (FT.int IntKind.i64))
            (Tree.need (decide (D.getInt hd (Int.toNat j) 0 < 0) = true)
              (Tree.need (decide (D.getInt hd (Int.toNat j) 0 < 0) = true)
                (Tree.need (decide (D.getInt hd (Int.toNat j) 0 < 0) = true)
                  (Tree.need (decide (D.getInt hd (Int.toNat j) 0 < 0) = true)
                    (Tree.need (decide (D.getInt hd (Int.toNat j) 0 < 0) = true)
                      (Tree.need (decide (D.getInt hd (Int.toNat j) 0 < 0) = true)
                        (Tree.need (decide (D.getInt hd (Int.toNat j) 0 < 0) = true)
                          (Tree.need (decide (D.getInt hd (Int.toNat j) 0 < 0) = true)
                            (Tree.need (decide (D.getInt hd (Int.toNat j) 0 < 0) = true)
                              (Tree.ret (SV.int IntKind.i64 3)))))))))))))
        (Tree.br (decide (D.getInt hd (Int.toNat j) 0 ≥ mi))
          (Tree.need (0 ≤ j ∧ j < (↑(D.len hd) : Int) ∧ D.sz hd = 1)
            (Tree.need (D.HasCell hd (Int.toNat j) 0 (FT.int IntKind.i64))
              (Tree.need (decide (D.getInt hd (Int.toNat j) 0 < 0) = false)
                (Tree.need (decide (D.getInt hd (Int.toNat j) 0 < 0) = false)
                  (Tree.need (decide (D.getInt hd (Int.toNat j) 0 < 0) = false)
                    (Tree.need (decide (D.getInt hd (Int.toNat j) 0 < 0) = false)
                      (Tree.need (0 ≤ j ∧ j < (↑(D.len hd) : Int) ∧ D.sz hd = 1)
                        (Tree.need (decide (D.getInt hd (Int.toNat j) 0 < 0) = false)
                          (Tree.need (D.HasCell hd (Int.toNat j) 0 (FT.int IntKind.i64))
                            (Tree.need (decide (D.getInt hd (Int.toNat j) 0 < 0) = false)
                              (Tree.need (decide (D.getInt hd (Int.toNat j) 0 < 0) = false)
                                (Tree.need (decide (D.getInt hd (Int.toNat j) 0 < 0) = false)
                                  (Tree.need (decide (D.getInt hd (Int.toNat j) 0 < 0) = false)
                                    (Tree.need (decide (D.getInt hd (Int.toNat j) 0 ≥ mi) = true)
                                      (Tree.need (decide (D.getInt hd (Int.toNat j) 0 ≥ mi) = true)
                                        (Tree.need (decide (D.getInt hd (Int.toNat j) 0 ≥ mi) = true)
                                          (Tree.need (decide (D.getInt hd (Int.toNat j) 0 ≥ mi) = true)
                                            (Tree.need (decide (D.getInt hd (Int.toNat j) 0 ≥ mi) = true)
                                              (Tree.need (decide (D.getInt hd (Int.toNat j) 0 ≥ mi) = true)
                                                (Tree.need (decide (D.getInt hd (Int.toNat j) 0 ≥ mi) = true)
                                                  (Tree.need (decide (D.getInt hd (Int.toNat j) 0 ≥ mi) = true)
                                                    (Tree.need (decide (D.getInt hd (Int.toNat j) 0 ≥ mi) = true)
                                                      (Tree.need (decide (D.getInt hd (Int.toNat j) 0 ≥ mi) = true)
                                                        (Tree.need (decide (D.getInt hd (Int.toNat j) 0 ≥ mi) = true)
                                                          (Tree.ret (SV.int IntKind.i64 3))))))))))))))))))))))))))
          (Tree.br (List.contains (D.to Int (D.sub hd 0 (Int.toNat j))) (D.getInt hd (Int.toNat j) 0))
            (Tree.need (0 ≤ j ∧ j < (↑(D.len hd) : Int) ∧ D.sz hd = 1)
              (Tree.need (D.HasCell hd (Int.toNat j) 0 (FT.int IntKind.i64))
                (Tree.need (decide (D.getInt hd (Int.toNat j) 0 < 0) = false)
                  (Tree.need (decide (D.getInt hd (Int.toNat j) 0 < 0) = false)
                    (Tree.need (decide (D.getInt hd (Int.toNat j) 0 < 0) = false)
                      (Tree.need (decide (D.getInt hd (Int.toNat j) 0 < 0) = false)
                        (Tree.need (0 ≤ j ∧ j < (↑(D.len hd) : Int) ∧ D.sz hd = 1)
                          (Tree.need (decide (D.getInt hd (Int.toNat j) 0 < 0) = false)
                            (Tree.need (D.HasCell hd (Int.toNat j) 0 (FT.int IntKind.i64))
                              (Tree.need (decide (D.getInt hd (Int.toNat j) 0 < 0) = false)
                                (Tree.need (decide (D.getInt hd (Int.toNat j) 0 < 0) = false)
                                  (Tree.need (decide (D.getInt hd (Int.toNat j) 0 < 0) = false)
                                    (Tree.need (decide (D.getInt hd (Int.toNat j) 0 < 0) = false)
                                      (Tree.need (decide (D.getInt hd (Int.toNat j) 0 ≥ mi) = false)
                                        (Tree.need (decide (D.getInt hd (Int.toNat j) 0 ≥ mi) = false)
                                          (Tree.need (decide (D.getInt hd (Int.toNat j) 0 ≥ mi) = false)
                                            (Tree.need (decide (D.getInt hd (Int.toNat j) 0 ≥ mi) = false)
                                              (Tree.need
                                                (0 ≤ (↑0 : Int) ∧ (↑0 : Int) ≤ j ∧ j ≤ (↑(D.len hd) : Int) ∧ D.Fits hd 1)
                                                (Tree.need (decide (D.getInt hd (Int.toNat j) 0 ≥ mi) = false)
                                                  (Tree.need (decide (D.getInt hd (Int.toNat j) 0 ≥ mi) = false)
                                                    (Tree.need (decide (D.getInt hd (Int.toNat j) 0 ≥ mi) = false)
                                                      (Tree.need (decide (D.getInt hd (Int.toNat j) 0 ≥ mi) = false)
                                                        (Tree.need (0 ≤ j ∧ j < (↑(D.len hd) : Int) ∧ D.sz hd = 1)
                                                          (Tree.need (decide (D.getInt hd (Int.toNat j) 0 ≥ mi) = false)
                                                            (Tree.need (D.HasCell hd (Int.toNat j) 0 (FT.int IntKind.i64))
                                                              (Tree.need
                                                                (decide (D.getInt hd (Int.toNat j) 0 ≥ mi) = false)
                                                                (Tree.need
                                                                  (D.Is Int (D.sub hd 0 (Int.toNat j)) ∧
                                                                    D.len (D.sub hd 0 (Int.toNat j)) ≤ 1048576)
                                                                  (Tree.need
                                                                    (decide (D.getInt hd (Int.toNat j) 0 ≥ mi) = false)
                                                                    (Tree.need
                                                                      (List.contains (D.to Int (D.sub hd 0 (Int.toNat j)))
                                                                          (D.getInt hd (Int.toNat j) 0) =
                                                                        true)
                                                                      (Tree.need
                                                                        (List.contains
                                                                            (D.to Int (D.sub hd 0 (Int.toNat j)))
                                                                            (D.getInt hd (Int.toNat j) 0) =
                                                                          true)
                                                                        (Tree.need
                                                                          (List.contains
                                                                              (D.to Int (D.sub hd 0 (Int.toNat j)))
                                                                              (D.getInt hd (Int.toNat j) 0) =
                                                                            true)
                                                                          (Tree.need
                                                                            (List.contains
                                                                                (D.to Int (D.sub hd 0 (Int.toNat j)))
                                                                                (D.getInt hd (Int.toNat j) 0) =
                                                                              true)
                                                                            (Tree.need
                                                                              (List.contains
                                                                                  (D.to Int (D.sub hd 0 (Int.toNat j)))
                                                                                  (D.getInt hd (Int.toNat j) 0) =
                                                                                true)
                                                                              (Tree.need
                                                                                (List.contains
                                                                                    (D.to Int (D.sub hd 0 (Int.toNat j)))
                                                                                    (D.getInt hd (Int.toNat j) 0) =
                                                                                  true)
                                                                                (Tree.need
                                                                                  (List.contains
                                                                                      (D.to Int
                                                                                        (D.sub hd 0 (Int.toNat j)))
                                                                                      (D.getInt hd (Int.toNat j) 0) =
                                                                                    true)
                                                                                  (Tree.need
                                                                                    (List.contains
                                                                                        (D.to Int
                                                                                          (D.sub hd 0 (Int.toNat j)))
                                                                                        (D.getInt hd (Int.toNat j) 0) =
                                                                                      true)
                                                                                    (Tree.need
                                                                                      (List.contains
                                                                                          (D.to Int
                                                                                            (D.sub hd 0 (Int.toNat j)))
                                                                                          (D.getInt hd (Int.toNat j) 0) =
                                                                                        true)
                                                                                      (Tree.ret
                                                                                        (SV.int IntKind.i64
                                                                                          3)))))))))))))))))))))))))))))))))))))))
            (Tree.need (0 ≤ j ∧ j < (↑(D.len hd) : Int) ∧ D.sz hd = 1)
              (Tree.need (D.HasCell hd (Int.toNat j) 0 (FT.int IntKind.i64))
                (Tree.need (decide (D.getInt hd (Int.toNat j) 0 < 0) = false)
                  (Tree.need (decide (D.getInt hd (Int.toNat j) 0 < 0) = false)
                    (Tree.need (decide (D.getInt hd (Int.toNat j) 0 < 0) = false)
                      (Tree.need (decide (D.getInt hd (Int.toNat j) 0 < 0) = false)
                        (Tree.need (0 ≤ j ∧ j < (↑(D.len hd) : Int) ∧ D.sz hd = 1)
                          (Tree.need (decide (D.getInt hd (Int.toNat j) 0 < 0) = false)
                            (Tree.need (D.HasCell hd (Int.toNat j) 0 (FT.int IntKind.i64))
                              (Tree.need (decide (D.getInt hd (Int.toNat j) 0 < 0) = false)
                                (Tree.need (decide (D.getInt hd (Int.toNat j) 0 < 0) = false)
                                  (Tree.need (decide (D.getInt hd (Int.toNat j) 0 < 0) = false)
                                    (Tree.need (decide (D.getInt hd (Int.toNat j) 0 < 0) = false)
                                      (Tree.need (decide (D.getInt hd (Int.toNat j) 0 ≥ mi) = false)
                                        (Tree.need (decide (D.getInt hd (Int.toNat j) 0 ≥ mi) = false)
                                          (Tree.need (decide (D.getInt hd (Int.toNat j) 0 ≥ mi) = false)
                                            (Tree.need (decide (D.getInt hd (Int.toNat j) 0 ≥ mi) = false)
                                              (Tree.need
                                                (0 ≤ (↑0 : Int) ∧ (↑0 : Int) ≤ j ∧ j ≤ (↑(D.len hd) : Int) ∧ D.Fits hd 1)
                                                (Tree.need (decide (D.getInt hd (Int.toNat j) 0 ≥ mi) = false)
                                                  (Tree.need (decide (D.getInt hd (Int.toNat j) 0 ≥ mi) = false)
                                                    (Tree.need (decide (D.getInt hd (Int.toNat j) 0 ≥ mi) = false)
                                                      (Tree.need (decide (D.getInt hd (Int.toNat j) 0 ≥ mi) = false)
                                                        (Tree.need (0 ≤ j ∧ j < (↑(D.len hd) : Int) ∧ D.sz hd = 1)
                                                          (Tree.need (decide (D.getInt hd (Int.toNat j) 0 ≥ mi) = false)
                                                            (Tree.need (D.HasCell hd (Int.toNat j) 0 (FT.int IntKind.i64))
                                                              (Tree.need
                                                                (decide (D.getInt hd (Int.toNat j) 0 ≥ mi) = false)
                                                                (Tree.need
                                                                  (D.Is Int (D.sub hd 0 (Int.toNat j)) ∧
                                                                    D.len (D.sub hd 0 (Int.toNat j)) ≤ 1048576)
                                                                  (Tree.need
                                                                    (decide (D.getInt hd (Int.toNat j) 0 ≥ mi) = false)
                                                                    (Tree.need
                                                                      (List.contains (D.to Int (D.sub hd 0 (Int.toNat j)))
                                                                          (D.getInt hd (Int.toNat j) 0) =
                                                                        false)
                                                                      (Tree.need
                                                                        (List.contains
                                                                            (D.to Int (D.sub hd 0 (Int.toNat j)))
                                                                            (D.getInt hd (Int.toNat j) 0) =
                                                                          false)
                                                                        (Tree.need
                                                                          (List.contains
                                                                              (D.to Int (D.sub hd 0 (Int.toNat j)))
                                                                              (D.getInt hd (Int.toNat j) 0) =
                                                                            false)
                                                                          (Tree.need
                                                                            (List.contains
                                                                                (D.to Int (D.sub hd 0 (Int.toNat j)))
                                                                                (D.getInt hd (Int.toNat j) 0) =
                                                                              false)
                                                                            (Tree.need
                                                                              (List.contains
                                                                                  (D.to Int (D.sub hd 0 (Int.toNat j)))
                                                                                  (D.getInt hd (Int.toNat j) 0) =
                                                                                false)
                                                                              (Tree.need
                                                                                (List.contains
                                                                                    (D.to Int (D.sub hd 0 (Int.toNat j)))
                                                                                    (D.getInt hd (Int.toNat j) 0) =
                                                                                  false)
                                                                                (Tree.need
                                                                                  (0 ≤ j ∧
                                                                                    j < (↑(D.len hd) : Int) ∧ D.sz hd = 1)
                                                                                  (Tree.need
                                                                                    (List.contains
                                                                                        (D.to Int
                                                                                          (D.sub hd 0 (Int.toNat j)))
                                                                                        (D.getInt hd (Int.toNat j) 0) =
                                                                                      false)
                                                                                    (Tree.need
                                                                                      (D.HasCell hd (Int.toNat j) 0
                                                                                        (FT.int IntKind.i64))
                                                                                      (Tree.need
                                                                                        (List.contains
                                                                                            (D.to Int
                                                                                              (D.sub hd 0 (Int.toNat j)))
                                                                                            (D.getInt hd (Int.toNat j)
                                                                                              0) =
                                                                                          false)
                                                                                        (Tree.need
                                                                                          (D.Is Int wt ∧
                                                                                            D.len wt ≤ 1048576)
                                                                                          (Tree.need
                                                                                            (List.contains
                                                                                                (D.to Int
                                                                                                  (D.sub hd 0
                                                                                                    (Int.toNat j)))
                                                                                                (D.getInt hd (Int.toNat j)
                                                                                                  0) =
                                                                                              false)
                                                                                            (Tree.br
                                                                                              (List.contains (D.to Int wt)
                                                                                                (D.getInt hd (Int.toNat j)
                                                                                                  0))
                                                                                              (Tree.ret
                                                                                                (SV.int IntKind.i64 3))
                                                                                              (Tree.leaf
                                                                                                (Conf.mk
                                                                                                  (SFrm.mk 39 none none
                                                                                                    [Item.inLoop
                                                                                                        (cAt Try.prog 39
                                                                                                          [1, 1, 1, 1, 0,
                                                                                                            1, 0, 0]),
                                                                                                      Item.inBlock 2,
                                                                                                      Item.code
                                                                                                        (cAt Try.prog 39
                                                                                                          [1, 1, 1, 1,
                                                                                                            1])]
                                                                                                    (mkJ 0
                                                                                                      [(1, SV.ptr 0 0),
                                                                                                        (4,
                                                                                                          SV.int
                                                                                                            IntKind.i64
                                                                                                            (IntKind.wrap
                                                                                                              IntKind.i64
                                                                                                              (j + 1)))]
                                                                                                      0 147))
                                                                                                  []
                                                                                                  [(0,
                                                                                                      OBlk.cells 28
                                                                                                        [SV.int
                                                                                                            IntKind.i64
                                                                                                            mr,
                                                                                                          SV.int
                                                                                                            IntKind.i64
                                                                                                            mp,
                                                                                                          SV.int
                                                                                                            IntKind.i64
                                                                                                            mt,
                                                                                                          SV.int
                                                                                                            IntKind.i64
                                                                                                            mi,
                                                                                                          SV.bool frozen,
                                                                                                          SV.int
                                                                                                            IntKind.i64
                                                                                                            mu,
                                                                                                          SV.dat wt,
                                                                                                          SV.dat
                                                                                                            hd])]))))))))))))))))))))))))))))))))))))))))))))))
    (Tree.ret (SV.int IntKind.i64 0)) := by kernel_rfl

end
end Go.Proofs.Ytoechplbhbalaaa
end
section
/- Layer 21: members: the laws of the small functions and of CheckMember. -/
open Go Go.Proofs Sx
namespace Sx

theorem cm_eq {m : Mb} (h : headMb m = true) : checkMb m = if (List.range m.waiting.length).any (badW m.issued m.waiting) = true then 3 else if (List.range m.held.length).any (badH m.issued m.waiting m.held) = true then 3 else 0 := by
  unfold checkMb
  rw [if_neg (by rw [h]; simp)]

theorem any_range {p : Nat → Bool} {n j : Nat} (hj : j < n) (h : p j = true) : (List.range n).any p = true := List.any_eq_true.2 ⟨j, List.mem_range.2 hj, h⟩
theorem any_snoc {p : Nat → Bool} {j : Nat} (h1 : (List.range j).any p = false) (h2 : p j = false) : (List.range (j + 1)).any p = false := by
  rw [List.range_succ, List.any_append, h1]; simp [h2]

theorem wrap_pred {j : Nat} (h : 0 < j) (hj : j ≤ 1048576) : IntKind.i64.wrap ((j : Int) - 1) = ((j - 1 : Nat) : Int) := by rw [wrap64 (by omega) (by omega)]; omega

section
variable {P : Program} {w : World} {H : HV}
theorem ret_mb3 {r p t i u : Int} {F W Hd X Y : SV} {f : Bool} {ws hs av : List Int} {ms : List Msg} {res : Mb × List Int × List Msg} (hf : ∀ E, F.den E = (SV.bool f).den E) (hw : Stands Int W ws) (hh : Stands Int Hd hs) (hx : Stands Int X av) (hy : Stands Msg Y ms)
    (hr : res = (⟨r, p, t, i, f, u, ws, hs⟩, av, ms)) :
    (Tree.ret (.tup [.agg [.int .i64 r, .int .i64 p, .int .i64 t, .int .i64 i, F, .int .i64 u, W, Hd], X, Y])).holds P ⟨w, H⟩ (RetD w H fun ds => .tup [mbSV (ds 0) (ds 1) res.1, .dat ((ds 2).like res.2.1), .dat ((ds 3).like res.2.2)]) := by
  subst hr
  obtain ⟨d, h1, h2, h3, h4⟩ := hw
  obtain ⟨d', h1', h2', h3', h4'⟩ := hh
  obtain ⟨d'', h1'', h2'', h3'', h4''⟩ := hx
  obtain ⟨e, k1, k2, k3, k4⟩ := hy
  refine ret_D (fun i => match i with | 0 => d | 1 => d' | 2 => d'' | _ => e) (fun E E' => ?_) (fun H' ho => ?_)
  · have : F.den E = (SV.bool f).den E' := by rw [hf]; rfl
    simp only [SV.den, SV.denL, mbSV, D.like_self h2 h3, D.like_self h2' h3', D.like_self h2'' h3'', D.like_self k2 k3, h1, h1', h1'', k1, this]
  · simp only [SV.Ok, SV.OkL, mbSV, D.like_self h2 h3, D.like_self h2' h3', D.like_self h2'' h3'', D.like_self k2 k3] at ho ⊢
    exact ⟨⟨trivial, trivial, trivial, trivial, trivial, trivial, ⟨h4 _ ho.1.2.2.2.2.2.2.1, h2.slc⟩, ⟨h4' _ ho.1.2.2.2.2.2.2.2.1, h2'.slc⟩, trivial⟩, ⟨h4'' _ ho.2.1, h2''.slc⟩, ⟨k4 _ ho.2.2.1, k2.slc⟩, trivial⟩

theorem ret_mb2 {r p t i u : Int} {F W Hd X : SV} {f : Bool} {ws hs av : List Int} {res : Mb × List Int} (hf : ∀ E, F.den E = (SV.bool f).den E) (hw : Stands Int W ws) (hh : Stands Int Hd hs) (hx : Stands Int X av)
    (hr : res = (⟨r, p, t, i, f, u, ws, hs⟩, av)) :
    (Tree.ret (.tup [.agg [.int .i64 r, .int .i64 p, .int .i64 t, .int .i64 i, F, .int .i64 u, W, Hd], X])).holds P ⟨w, H⟩ (RetD w H fun ds => .tup [mbSV (ds 0) (ds 1) res.1, .dat ((ds 2).like res.2)]) := by
  subst hr
  obtain ⟨d, h1, h2, h3, h4⟩ := hw
  obtain ⟨d', h1', h2', h3', h4'⟩ := hh
  obtain ⟨d'', h1'', h2'', h3'', h4''⟩ := hx
  refine ret_D (fun i => match i with | 0 => d | 1 => d' | _ => d'') (fun E E' => ?_) (fun H' ho => ?_)
  · have : F.den E = (SV.bool f).den E' := by rw [hf]; rfl
    simp only [SV.den, SV.denL, mbSV, D.like_self h2 h3, D.like_self h2' h3', D.like_self h2'' h3'', h1, h1', h1'', this]
  · simp only [SV.Ok, SV.OkL, mbSV, D.like_self h2 h3, D.like_self h2' h3', D.like_self h2'' h3''] at ho ⊢
    exact ⟨⟨trivial, trivial, trivial, trivial, trivial, trivial, ⟨h4 _ ho.1.2.2.2.2.2.2.1, h2.slc⟩, ⟨h4' _ ho.1.2.2.2.2.2.2.2.1, h2'.slc⟩, trivial⟩, ⟨h4'' _ ho.2.1, h2''.slc⟩, trivial⟩

theorem ret_mbI {r p t i u k : Int} {F W Hd : SV} {f : Bool} {ws hs : List Int} {res : Mb × Int} (hf : ∀ E, F.den E = (SV.bool f).den E) (hw : Stands Int W ws) (hh : Stands Int Hd hs)
    (hr : res = (⟨r, p, t, i, f, u, ws, hs⟩, k)) :
    (Tree.ret (.tup [.agg [.int .i64 r, .int .i64 p, .int .i64 t, .int .i64 i, F, .int .i64 u, W, Hd], .int .i64 k])).holds P ⟨w, H⟩ (RetD w H fun ds => .tup [mbSV (ds 0) (ds 1) res.1, .int .i64 res.2]) := by
  subst hr
  obtain ⟨d, h1, h2, h3, h4⟩ := hw
  obtain ⟨d', h1', h2', h3', h4'⟩ := hh
  refine ret_D (fun i => match i with | 0 => d | _ => d') (fun E E' => ?_) (fun H' ho => ?_)
  · have : F.den E = (SV.bool f).den E' := by rw [hf]; rfl
    simp only [SV.den, SV.denL, mbSV, D.like_self h2 h3, D.like_self h2' h3', h1, h1', this]
  · simp only [SV.Ok, SV.OkL, mbSV, D.like_self h2 h3, D.like_self h2' h3'] at ho ⊢
    exact ⟨⟨trivial, trivial, trivial, trivial, trivial, trivial, ⟨h4 _ ho.1.2.2.2.2.2.2.1, h2.slc⟩, ⟨h4' _ ho.1.2.2.2.2.2.2.2.1, h2'.slc⟩, trivial⟩, trivial, trivial⟩
end
end Sx

namespace Go.Proofs.Ytoechplbhbalaaa
set_option maxRecDepth 100000

theorem lawIx : Law Try.prog 71 ((rdD.two rdInt).sp spIdx21) := by
  refine law_in _ (by kernel_rfl) fun H w ⟨d, n⟩ hok hp => ?_
  obtain ⟨hd, hlen⟩ := hp _ (List.mem_singleton.2 rfl)
  simp only at hd hlen
  rw [D.Is.length (α := Int)] at hlen
  apply exec_sound (noCtr _) 200
  rw [show (rdD.two rdInt).canon (d, n) = [.dat d, .int .i64 n] from rfl, ix_in]
  refine runs_loop (fun j : Nat => ixL d n j) (fun j => j ≤ (d.to Int).length ∧ ((d.to Int).take j).findIdx? (fun x => n == x) = none) (fun j => (d.to Int).length - j) (fun _ => rfl) ?_ 0 ⟨Nat.zero_le _, by simp⟩
  intro j ⟨hj, hpre⟩ ih
  apply exec_sound (noCtr _) 200
  rw [ix_go]
  have hl := D.Is.length (α := Int) d
  refine ⟨fun hc => ?_, fun hc => ?_⟩
  · simp [hl] at hc
    obtain ⟨c1, c2, c3⟩ := int_at hd hc
    rw [c3]
    refine ⟨c1, c2, fun hc2 => ret_int ?_, fun hc2 => ?_⟩
    · have : (d.to Int).findIdx? (fun x => n == x) = some j := by
        rw [List.findIdx?_eq_some_iff_getElem]
        refine ⟨hc, hc2, fun i hi => ?_⟩
        rw [List.findIdx?_eq_none_iff] at hpre
        have := hpre (d.to Int)[i] (List.mem_take_iff_getElem.2 ⟨i, by omega, rfl⟩)
        simpa using this
      simp [idxP, this]
    · have := ih (j + 1) ⟨hc, by rw [List.take_succ_eq_append_getElem hc, List.findIdx?_append, hpre]; simp at hc2; simp [hc2]⟩ (by omega)
      rw [← wrap_succ hc hlen] at this
      exact this
  · simp [hl] at hc
    have : j = (d.to Int).length := by omega
    subst this
    rw [List.take_length] at hpre
    exact ret_int (by simp only [idxP, hpre]; rfl)

theorem ctIx : Ctrs.Ok Try.prog [(71, ctrOf ((rdD.two rdInt).sp spIdx21))] := by
  intro x hx
  rw [List.mem_singleton.1 hx]
  exact ctrOf_ok lawIx

theorem lawCont : Law Try.prog 34 ((rdD.two rdInt).sp spHas21) := by
  refine law_in _ (by kernel_rfl) fun H w ⟨d, n⟩ hok hp => ?_
  apply exec_sound ctIx 200
  rw [show (rdD.two rdInt).canon (d, n) = [.dat d, .int .i64 n] from rfl, ct_in]
  refine ⟨hp _ (List.mem_singleton.2 rfl), ret_bool ?_⟩
  rw [idxP_any, List.contains_eq_any_beq]
  rfl

theorem lawHas : Law Try.prog 73 ((rdD.two rdInt).sp spHas21) := by
  refine law_in _ (by kernel_rfl) fun H w ⟨d, n⟩ hok hp => ?_
  obtain ⟨hd, hlen⟩ := hp _ (List.mem_singleton.2 rfl)
  simp only at hd hlen
  rw [D.Is.length (α := Int)] at hlen
  apply exec_sound (noCtr _) 200
  rw [show (rdD.two rdInt).canon (d, n) = [.dat d, .int .i64 n] from rfl, has_in]
  refine runs_loop (fun j : Nat => hasL d n j) (fun j => j ≤ (d.to Int).length ∧ ((d.to Int).take j).contains n = false) (fun j => (d.to Int).length - j) (fun _ => rfl) ?_ 0 ⟨Nat.zero_le _, by simp⟩
  intro j ⟨hj, hpre⟩ ih
  apply exec_sound (noCtr _) 200
  rw [has_go]
  have hl := D.Is.length (α := Int) d
  refine ⟨fun hc => ?_, fun hc => ?_⟩
  · simp [hl] at hc
    obtain ⟨c1, c2, c3⟩ := int_at hd hc
    rw [c3]
    refine ⟨c1, c2, fun hc2 => ret_lb ?_, fun hc2 => ?_⟩
    · simp at hc2
      symm
      rw [List.contains_iff_mem, ← hc2]
      exact List.getElem_mem hc
    · have := ih (j + 1) ⟨hc, by rw [take_has hc, hpre]; simpa using hc2⟩ (by omega)
      rw [← wrap_succ hc hlen] at this
      exact this
  · simp [hl] at hc
    have : j = (d.to Int).length := by omega
    subst this
    rw [List.take_length] at hpre
    exact ret_lb hpre.symm

theorem lawEvery : Law Try.prog 64 (rdD.one.sp spEvery) := by
  refine law_in _ (by kernel_rfl) fun H w d hok hp => ?_
  obtain ⟨hd, hlen⟩ := hp _ (List.mem_singleton.2 rfl)
  rw [D.Is.length (α := Bool)] at hlen
  apply exec_sound (noCtr _) 200
  rw [show rdD.one.canon d = [.dat d] from rfl, every_in]
  refine runs_loop (fun j : Nat => everyL d j) (fun j => j ≤ (d.to Bool).length ∧ ((d.to Bool).take j).all id = true) (fun j => (d.to Bool).length - j) (fun _ => rfl) ?_ 0 ⟨Nat.zero_le _, by simp⟩
  intro j ⟨hj, hpre⟩ ih
  apply exec_sound (noCtr _) 200
  rw [every_go]
  have hl := D.Is.length (α := Bool) d
  refine ⟨fun hc => ?_, fun hc => ?_⟩
  · simp [hl] at hc
    obtain ⟨c1, c2, c3⟩ := bool_at hd hc
    rw [c3]
    refine ⟨c1, c2, fun hc2 => ret_lb ?_, fun hc2 => ?_⟩
    · simp at hc2
      symm
      rw [List.all_eq_false]
      exact ⟨_, List.getElem_mem hc, by simp [hc2]⟩
    · have := ih (j + 1) ⟨hc, by rw [List.take_succ_eq_append_getElem hc, List.all_append, hpre]; simp at hc2; simp [hc2]⟩ (by omega)
      rw [← wrap_succ hc hlen] at this
      exact this
  · simp [hl] at hc
    have : j = (d.to Bool).length := by omega
    subst this
    rw [List.take_length] at hpre
    exact ret_lb hpre.symm

theorem lawAns : Law Try.prog 58 ((rdMsg.three rdInt rdInt).sp spAns) := by
  refine law_in _ (by kernel_rfl) fun H w ⟨⟨mk, mf, mto, mn, mv, me, ml, mb⟩, k, v⟩ hok hp => ?_
  apply exec_sound (noCtr _) 200
  rw [show (rdMsg.three rdInt rdInt).canon (⟨mk, mf, mto, mn, mv, me, ml, mb⟩, k, v) = [.agg [.int .i64 mk, .int .i64 mf, .int .i64 mto, .int .i64 mn, .int .i64 mv, .int .i64 me, .dat ml, .dat mb], .int .i64 k, .int .i64 v] from rfl, ans_in]
  exact fun hs => ret_msgs' (stands_rows rfl (msg_row' rfl)) rfl

theorem lawThaw : Law Try.prog 60 (rdMb.one.sp spThaw) := by
  refine law_in _ (by kernel_rfl) fun H w ⟨r, p, t, i, f, u, wt, hd⟩ hok hp => ?_
  obtain ⟨hw, hh, _⟩ := hp _ (List.mem_singleton.2 rfl)
  apply exec_sound (noCtr _) 200
  rw [show rdMb.one.canon ⟨r, p, t, i, f, u, wt, hd⟩ = [.agg [.int .i64 r, .int .i64 p, .int .i64 t, .int .i64 i, .bool f, .int .i64 u, .dat wt, .dat hd]] from rfl, thaw_in]
  exact ret_mb2 lb_den (stands_self hw) stands_nils (stands_self hh) rfl

theorem ctEnd : Ctrs.Ok Try.prog [(58, ctrOf ((rdMsg.three rdInt rdInt).sp spAns)), (60, ctrOf (rdMb.one.sp spThaw))] := by
  intro x hx
  simp only [List.mem_cons, List.not_mem_nil, or_false] at hx
  rcases hx with rfl | rfl
  · exact ctrOf_ok lawAns
  · exact ctrOf_ok lawThaw

theorem lawEnd : Law Try.prog 59 ((rdMb.three rdInt rdMsg).sp spEnd) := by
  refine law_in _ (by kernel_rfl) fun H w ⟨⟨r, p, t, i, f, u, wt, hd⟩, now, ⟨mk, mf, mto, mn, mv, me, ml, mb⟩⟩ hok hp => ?_
  have hp := hp _ (List.mem_singleton.2 rfl)
  obtain ⟨hw, hh, lw, lh⟩ := hp
  simp only at hw hh lw lh
  apply exec_sound ctEnd 200
  rw [show (rdMb.three rdInt rdMsg).canon (⟨r, p, t, i, f, u, wt, hd⟩, now, ⟨mk, mf, mto, mn, mv, me, ml, mb⟩) = [.agg [.int .i64 r, .int .i64 p, .int .i64 t, .int .i64 i, .bool f, .int .i64 u, .dat wt, .dat hd], .int .i64 now, .agg [.int .i64 mk, .int .i64 mf, .int .i64 mto, .int .i64 mn, .int .i64 mv, .int .i64 me, .dat ml, .dat mb]] from rfl, end_in]
  refine ⟨fun h1 => ⟨fun h2 hs => ?_, fun h2 hs => ?_⟩, fun h1 => ⟨fun h2 _ => ⟨⟨hw, hh, lw, lh⟩, fun _ _ => ?_⟩, fun h2 => ⟨⟨hw, hh, lw, lh⟩, fun _ _ => ?_⟩⟩⟩
  · simp only [Bool.not_eq_true', decide_eq_true_eq] at h1 h2
    exact ret_mb3 (fun _ => rfl) (stands_self hw) (stands_self hh) stands_nils stands_like (by simp [endMb, MbD.mb, h1, h2])
  · simp only [Bool.not_eq_true', decide_eq_false_iff_not] at h1 h2
    exact ret_mb3 (fun _ => rfl) (stands_self hw) (stands_self hh) stands_nils stands_like (by simp [endMb, MbD.mb, h1, h2])
  · simp only [Bool.not_eq_false', decide_eq_true_eq] at h1 h2
    exact ret_mb3 (fun _ => rfl) stands_like stands_like stands_like stands_like (by simp [endMb, MbD.mb, h1, h2])
  · simp only [Bool.not_eq_false', decide_eq_false_iff_not] at h1 h2
    exact ret_mb3 (fun _ => rfl) stands_like stands_like stands_like stands_like (by simp [endMb, MbD.mb, h1, h2])

theorem ctGive : Ctrs.Ok Try.prog [(51, ctrOf ((rdCo.two rdInt).sp spAll2))] := by
  intro x hx
  rw [List.mem_singleton.1 hx]
  exact ctrOf_ok lawAll2

theorem lawGive : Law Try.prog 65 (rdCo.one.sp spGive) := by
  refine law_in _ (by kernel_rfl) fun H w ⟨n, r, p, dl, d, s, v⟩ hok hp => ?_
  obtain ⟨hd, hs, hn⟩ := hp _ (List.mem_singleton.2 rfl)
  apply exec_sound ctGive 200
  rw [show rdCo.one.canon ⟨n, r, p, dl, d, s, v⟩ = [.agg [.int .i64 n, .int .i64 r, .int .i64 p, .int .i64 dl, .dat d, .dat s, .bool v]] from rfl, give_in]
  exact fun _ => ⟨hn, ret_co2 (stands_self hd) (stands_self hs) lb_den stands_like rfl⟩

theorem lawSameMb : Law Try.prog 26 ((rdMb.two rdMb).sp spSameMb) := by
  refine law_in _ (by kernel_rfl) fun H w ⟨⟨r, p, t, i, f, u, wt, hd⟩, ⟨r', p', t', i', f', u', wt', hd'⟩⟩ hok hp => ?_
  obtain ⟨⟨hw, hh, lw, lh⟩, ⟨hw', hh', lw', lh'⟩⟩ := hp _ (List.mem_singleton.2 rfl)
  simp only at hw hh lw lh hw' hh' lw' lh'
  apply exec_sound ctBOk 300
  rw [show (rdMb.two rdMb).canon (⟨r, p, t, i, f, u, wt, hd⟩, ⟨r', p', t', i', f', u', wt', hd'⟩) = [.agg [.int .i64 r, .int .i64 p, .int .i64 t, .int .i64 i, .bool f, .int .i64 u, .dat wt, .dat hd], .agg [.int .i64 r', .int .i64 p', .int .i64 t', .int .i64 i', .bool f', .int .i64 u', .dat wt', .dat hd']] from rfl, samemb_in]
  simp only [MbD.mb, Mb.mk.injEq]
  refine ⟨fun h1 => ⟨fun h2 => ⟨fun h3 => ⟨fun h4 => ⟨fun h5 => ⟨fun h6 => ⟨⟨hw, hw', by omega⟩, fun h7 => ⟨⟨hh, hh', by omega⟩, ret_bool ?_⟩, fun h7 => ret_lb ?_⟩, fun h6 => ret_lb ?_⟩, fun h5 => ret_lb ?_⟩, fun h4 => ret_lb ?_⟩, fun h3 => ret_lb ?_⟩, fun h2 => ret_lb ?_⟩, fun h1 => ret_lb ?_⟩
  all_goals (simp only [decide_eq_true_eq, decide_eq_false_iff_not] at *; simp [*])

theorem ctHOk : Ctrs.Ok Try.prog ctH := by
  intro x hx
  simp only [ctH, List.mem_cons, List.not_mem_nil, or_false] at hx
  rcases hx with rfl | rfl
  · exact ctrOf_ok lawCont
  · exact ctrOf_ok lawHas

theorem cm1b_loop {H : HV} {mr mp mt mi mu : Int} {f : Bool} {wt hd : D} (hw : wt.Is Int) (hh : hd.Is Int) (lw : wt.len ≤ 1048575) (lh : hd.len ≤ 1048575) (w : World) (k : Int)
    (hk : k = if (List.range (hd.to Int).length).any (badH mi (wt.to Int) (hd.to Int)) = true then 3 else 0) :
    Runs Try.prog ⟨w, H⟩ (cm1bL mr mp mt mi mu f wt hd 0) (RetS w H (.int .i64 k)) := by
  have hl := D.Is.length (α := Int) hd
  refine runs_loop (fun j : Nat => cm1bL mr mp mt mi mu f wt hd j) (fun j => j ≤ (hd.to Int).length ∧ (List.range j).any (badH mi (wt.to Int) (hd.to Int)) = false) (fun j => (hd.to Int).length - j) (fun _ => rfl) ?_ 0 ⟨Nat.zero_le _, by simp⟩
  intro j ⟨hj, hpre⟩ ih
  apply exec_sound ctHOk 400
  rw [cm1b_go]
  refine ⟨fun hc => ?_, fun hc => ?_⟩
  · simp [hl] at hc
    obtain ⟨c1, c2, c3⟩ := int_at hh hc
    have hg := getD_lt hc
    rw [c3]
    obtain ⟨s1, s2⟩ := hh.sub 0 (Int.toNat (j : Int))
    have s2 : (hd.sub 0 (Int.toNat (j : Int))).to Int = (hd.to Int).take j := by rw [s2]; simp
    have s3 : (hd.sub 0 (Int.toNat (j : Int))).len ≤ 1048576 := by rw [D.Is.length (α := Int), s2, List.length_take]; omega
    rw [s2]
    have bad : badH mi (wt.to Int) (hd.to Int) j = true → 3 = k := fun hb => by rw [hk, any_range hc hb]; rfl
    refine ⟨c1, c2, fun h1 => ret_int (bad ?_), fun h1 => ⟨fun h2 => ret_int (bad ?_), fun h2 => ⟨⟨by omega, by omega, by omega, hh.fits⟩, ⟨s1, s3⟩, fun h3 => ret_int (bad ?_), fun h3 => ⟨⟨hw, by omega⟩, fun h4 => ret_int (bad ?_), fun h4 => ?_⟩⟩⟩⟩
    · simp only [badH, hg, h1]; simp
    · simp only [badH, hg, h2]; simp
    · simp only [badH, hg, h3]; simp
    · simp only [badH, hg, h4]; simp
    · have := ih (j + 1) ⟨hc, any_snoc hpre (by simp only [badH, hg, h1, h2, h3, h4]; rfl)⟩ (by omega)
      rw [← wrap_succ hc (by omega)] at this
      exact this
  · simp [hl] at hc
    have : j = (hd.to Int).length := by omega
    subst this
    exact ret_int (by rw [hk, hpre]; rfl)

theorem cm1a_loop {H : HV} {mr mp mt mi mu : Int} {f : Bool} {wt hd : D} (hw : wt.Is Int) (hh : hd.Is Int) (lw : wt.len ≤ 1048575) (lh : hd.len ≤ 1048575) (w : World) (hhead : headMb ⟨mr, mp, mt, mi, f, mu, wt.to Int, hd.to Int⟩ = true) :
    Runs Try.prog ⟨w, H⟩ (cm1aL mr mp mt mi mu f wt hd 0) (RetS w H (.int .i64 (checkMb ⟨mr, mp, mt, mi, f, mu, wt.to Int, hd.to Int⟩))) := by
  have hk := cm_eq hhead
  simp only at hk
  have hl := D.Is.length (α := Int) wt
  refine runs_loop (fun j : Nat => cm1aL mr mp mt mi mu f wt hd j) (fun j => j ≤ (wt.to Int).length ∧ (List.range j).any (badW mi (wt.to Int)) = false) (fun j => (wt.to Int).length - j) (fun _ => rfl) ?_ 0 ⟨Nat.zero_le _, by simp⟩
  intro j ⟨hj, hpre⟩ ih
  apply exec_sound ctHOk 400
  rw [cm1a_go]
  refine ⟨fun hc => ?_, fun hc => ?_⟩
  · simp [hl] at hc
    obtain ⟨c1, c2, c3⟩ := int_at hw hc
    have hg := getD_lt hc
    rw [c3]
    have bad : badW mi (wt.to Int) j = true → 3 = checkMb ⟨mr, mp, mt, mi, f, mu, wt.to Int, hd.to Int⟩ := fun hb => by rw [hk, any_range hc hb]; rfl
    have go : badW mi (wt.to Int) j = false → Runs Try.prog ⟨w, H⟩ (cm1aL mr mp mt mi mu f wt hd (IntKind.i64.wrap ((j : Int) + 1))) (RetS w H (.int .i64 (checkMb ⟨mr, mp, mt, mi, f, mu, wt.to Int, hd.to Int⟩))) := fun hb => by
      rw [wrap_succ hc (by omega)]
      exact ih (j + 1) ⟨hc, any_snoc hpre hb⟩ (by omega)
    refine ⟨c1, c2, fun h1 => ret_int (bad ?_), fun h1 => ⟨fun h2 => ret_int (bad ?_), fun h2 => ⟨fun h3 => ?_, fun h3 => go ?_⟩⟩⟩
    · simp only [badW, hg, h1]; simp
    · simp only [badW, hg, h2]; simp
    · have hj0 : 0 < j := by simpa using h3
      rw [wrap_pred hj0 (by omega)]
      have hc' : j - 1 < (wt.to Int).length := by omega
      obtain ⟨d1, d2, d3⟩ := int_at hw hc'
      have hg' := getD_lt hc'
      rw [d3]
      refine ⟨d1, d2, fun h4 => ret_int (bad ?_), fun h4 => go ?_⟩
      · simp only [badW, hg, hg', h4]; simp [hj0]
      · simp only [badW, hg, hg', h1, h2, h4]; simp
    · have hj0 : ¬ 0 < j := by simpa using h3
      simp only [badW, hg, h1, h2]; simp [hj0]
  · simp [hl] at hc
    have : j = (wt.to Int).length := by omega
    subst this
    exact cm1b_loop hw hh lw lh w _ (by rw [hk, hpre]; rfl)

theorem cm2b_loop {H : HV} {mr mp mt mi mu : Int} {f : Bool} {wt hd : D} (hw : wt.Is Int) (hh : hd.Is Int) (lw : wt.len ≤ 1048575) (lh : hd.len ≤ 1048575) (w : World) (k : Int)
    (hk : k = if (List.range (hd.to Int).length).any (badH mi (wt.to Int) (hd.to Int)) = true then 3 else 0) :
    Runs Try.prog ⟨w, H⟩ (cm2bL mr mp mt mi mu f wt hd 0) (RetS w H (.int .i64 k)) := by
  have hl := D.Is.length (α := Int) hd
  refine runs_loop (fun j : Nat => cm2bL mr mp mt mi mu f wt hd j) (fun j => j ≤ (hd.to Int).length ∧ (List.range j).any (badH mi (wt.to Int) (hd.to Int)) = false) (fun j => (hd.to Int).length - j) (fun _ => rfl) ?_ 0 ⟨Nat.zero_le _, by simp⟩
  intro j ⟨hj, hpre⟩ ih
  apply exec_sound ctHOk 400
  rw [cm2b_go]
  refine ⟨fun hc => ?_, fun hc => ?_⟩
  · simp [hl] at hc
    obtain ⟨c1, c2, c3⟩ := int_at hh hc
    have hg := getD_lt hc
    rw [c3]
    obtain ⟨s1, s2⟩ := hh.sub 0 (Int.toNat (j : Int))
    have s2 : (hd.sub 0 (Int.toNat (j : Int))).to Int = (hd.to Int).take j := by rw [s2]; simp
    have s3 : (hd.sub 0 (Int.toNat (j : Int))).len ≤ 1048576 := by rw [D.Is.length (α := Int), s2, List.length_take]; omega
    rw [s2]
    have s4 : 0 ≤ (0 : Int) ∧ (0 : Int) ≤ (j : Int) ∧ (j : Int) ≤ (hd.len : Int) ∧ hd.Fits 1 := ⟨by omega, by omega, by omega, hh.fits⟩
    have s5 : (hd.sub 0 (Int.toNat (j : Int))).Is Int ∧ (hd.sub 0 (Int.toNat (j : Int))).len ≤ 1048576 := ⟨s1, s3⟩
    have s6 : wt.Is Int ∧ wt.len ≤ 1048576 := ⟨hw, by omega⟩
    have bad : badH mi (wt.to Int) (hd.to Int) j = true → 3 = k := fun hb => by rw [hk, any_range hc hb]; rfl
    intro hs
    refine ⟨fun h1 => ?_, fun h1 => ⟨fun h2 => ?_, fun h2 => ⟨fun h3 => ?_, fun h3 => ?_⟩⟩⟩
    · repeat' first | refine ⟨by assumption, ?_⟩ | fail
      exact ret_int (bad (by simp only [badH, hg, h1]; simp))
    · repeat' first | refine ⟨by assumption, ?_⟩ | fail
      exact ret_int (bad (by simp only [badH, hg, h2]; simp))
    · repeat' first | refine ⟨by assumption, ?_⟩ | fail
      exact ret_int (bad (by simp only [badH, hg, h3]; simp))
    · repeat' first | refine ⟨by assumption, ?_⟩ | fail
      refine ⟨fun h4 => ret_int (bad (by simp only [badH, hg, h4]; simp)), fun h4 => ?_⟩
      have := ih (j + 1) ⟨hc, any_snoc hpre (by simp only [badH, hg, h1, h2, h3, h4]; rfl)⟩ (by omega)
      rw [← wrap_succ hc (by omega)] at this
      exact this
  · simp [hl] at hc
    have : j = (hd.to Int).length := by omega
    subst this
    exact ret_int (by rw [hk, hpre]; rfl)

theorem cm2a_loop {H : HV} {mr mp mt mi mu : Int} {f : Bool} {wt hd : D} (hw : wt.Is Int) (hh : hd.Is Int) (lw : wt.len ≤ 1048575) (lh : hd.len ≤ 1048575) (w : World) (hhead : headMb ⟨mr, mp, mt, mi, f, mu, wt.to Int, hd.to Int⟩ = true) :
    Runs Try.prog ⟨w, H⟩ (cm2aL mr mp mt mi mu f wt hd 0) (RetS w H (.int .i64 (checkMb ⟨mr, mp, mt, mi, f, mu, wt.to Int, hd.to Int⟩))) := by
  have hk := cm_eq hhead
  simp only at hk
  have hl := D.Is.length (α := Int) wt
  refine runs_loop (fun j : Nat => cm2aL mr mp mt mi mu f wt hd j) (fun j => j ≤ (wt.to Int).length ∧ (List.range j).any (badW mi (wt.to Int)) = false) (fun j => (wt.to Int).length - j) (fun _ => rfl) ?_ 0 ⟨Nat.zero_le _, by simp⟩
  intro j ⟨hj, hpre⟩ ih
  apply exec_sound ctHOk 400
  rw [cm2a_go]
  refine ⟨fun hc => ?_, fun hc => ?_⟩
  · simp [hl] at hc
    obtain ⟨c1, c2, c3⟩ := int_at hw hc
    have hg := getD_lt hc
    rw [c3]
    have bad : badW mi (wt.to Int) j = true → 3 = checkMb ⟨mr, mp, mt, mi, f, mu, wt.to Int, hd.to Int⟩ := fun hb => by rw [hk, any_range hc hb]; rfl
    have go : badW mi (wt.to Int) j = false → Runs Try.prog ⟨w, H⟩ (cm2aL mr mp mt mi mu f wt hd (IntKind.i64.wrap ((j : Int) + 1))) (RetS w H (.int .i64 (checkMb ⟨mr, mp, mt, mi, f, mu, wt.to Int, hd.to Int⟩))) := fun hb => by
      rw [wrap_succ hc (by omega)]
      exact ih (j + 1) ⟨hc, any_snoc hpre hb⟩ (by omega)
    intro hs
    refine ⟨fun h1 => ?_, fun h1 => ⟨fun h2 => ?_, fun h2 => ⟨fun h3 => ?_, fun h3 => ?_⟩⟩⟩
    · repeat' first | refine ⟨by assumption, ?_⟩ | fail
      exact ret_int (bad (by simp only [badW, hg, h1]; simp))
    · repeat' first | refine ⟨by assumption, ?_⟩ | fail
      exact ret_int (bad (by simp only [badW, hg, h2]; simp))
    · have hj0 : 0 < j := by simpa using h3
      rw [wrap_pred hj0 (by omega)]
      have hc' : j - 1 < (wt.to Int).length := by omega
      obtain ⟨d1, d2, d3⟩ := int_at hw hc'
      have hg' := getD_lt hc'
      rw [d3]
      repeat' first | refine ⟨by assumption, ?_⟩ | fail
      refine ⟨fun h4 => ret_int (bad ?_), fun h4 => go ?_⟩
      · simp only [badW, hg, hg', h4]; simp [hj0]
      · simp only [badW, hg, hg', h1, h2, h4]; simp
    · have hj0 : ¬ 0 < j := by simpa using h3
      repeat' first | refine ⟨by assumption, ?_⟩ | fail
      exact go (by simp only [badW, hg, h1, h2]; simp [hj0])
  · simp [hl] at hc
    have : j = (wt.to Int).length := by omega
    subst this
    exact cm2b_loop hw hh lw lh w _ (by rw [hk, hpre]; rfl)

theorem lawCM1 : Law Try.prog 38 (rdMb.one.sp spCM) := by
  refine law_in _ (by kernel_rfl) fun H w ⟨r, p, t, i, f, u, wt, hd⟩ hok hp => ?_
  obtain ⟨hw, hh, lw, lh⟩ := hp _ (List.mem_singleton.2 rfl)
  simp only at hw hh lw lh
  clear hp hok
  have hl := D.Is.length (α := Int) hd
  apply exec_sound ctHOk 400
  rw [show rdMb.one.canon ⟨r, p, t, i, f, u, wt, hd⟩ = [.agg [.int .i64 r, .int .i64 p, .int .i64 t, .int .i64 i, .bool f, .int .i64 u, .dat wt, .dat hd]] from rfl, cm1_in]
  simp only [MbD.mb]
  have hb : headMb ⟨r, p, t, i, f, u, wt.to Int, hd.to Int⟩ = false → 3 = checkMb ⟨r, p, t, i, f, u, wt.to Int, hd.to Int⟩ := fun h => by rw [checkMb, if_pos h]
  have hh0 : (hd.to Int = []) ↔ hd.len = 0 := by rw [hl]; exact List.length_eq_zero_iff.symm
  repeat' first
    | refine ⟨fun hc => ?_, fun hc => ?_⟩
    | refine ret_int (hb ?_)
    | refine cm1a_loop hw hh lw lh w ?_
    | fail
  all_goals (clear hb; cases f <;> simp only [headMb, okTime, Bool.and_eq_false_imp, decide_eq_true_eq, decide_eq_false_iff_not, bne_iff_ne, ne_eq, bne_eq_false_iff_eq, Bool.not_eq_true', Bool.not_eq_false', Decidable.not_not, ge_iff_le, gt_iff_lt, hh0, reduceCtorEq, true_and, false_and, or_false, Bool.not_true, Bool.not_false] at * <;> first | omega | (simp_all; done) | (simp_all; omega))

theorem lawCM2 : Law Try.prog 39 (rdMb.one.sp spCM) := by
  refine law_in _ (by kernel_rfl) fun H w ⟨r, p, t, i, f, u, wt, hd⟩ hok hp => ?_
  obtain ⟨hw, hh, lw, lh⟩ := hp _ (List.mem_singleton.2 rfl)
  simp only at hw hh lw lh
  clear hp hok
  have hl := D.Is.length (α := Int) hd
  apply exec_sound ctHOk 400
  rw [show rdMb.one.canon ⟨r, p, t, i, f, u, wt, hd⟩ = [.agg [.int .i64 r, .int .i64 p, .int .i64 t, .int .i64 i, .bool f, .int .i64 u, .dat wt, .dat hd]] from rfl, cm2_in]
  simp only [MbD.mb]
  have hb : headMb ⟨r, p, t, i, f, u, wt.to Int, hd.to Int⟩ = false → 3 = checkMb ⟨r, p, t, i, f, u, wt.to Int, hd.to Int⟩ := fun h => by rw [checkMb, if_pos h]
  have hh0 : (hd.to Int = []) ↔ hd.len = 0 := by rw [hl]; exact List.length_eq_zero_iff.symm
  repeat' first
    | refine ⟨fun hc => ?_, fun hc => ?_⟩
    | refine ret_int (hb ?_)
    | refine cm2a_loop hw hh lw lh w ?_
    | fail
  all_goals (clear hb; cases f <;> simp only [headMb, okTime, Bool.and_eq_false_imp, decide_eq_true_eq, decide_eq_false_iff_not, bne_iff_ne, ne_eq, bne_eq_false_iff_eq, Bool.not_eq_true', Bool.not_eq_false', Decidable.not_not, ge_iff_le, gt_iff_lt, hh0, reduceCtorEq, true_and, false_and, or_false, Bool.not_true, Bool.not_false] at * <;> first | omega | (simp_all; done) | (simp_all; omega))
end Go.Proofs.Ytoechplbhbalaaa
end
section
/- Layer 21: the contracts, all. -/
open Go
namespace Sx
noncomputable def ctM : Ctrs := (38, ctrOf (rdMb.one.sp spCM)) :: (39, ctrOf (rdMb.one.sp spCM)) :: (34, ctrOf ((rdD.two rdInt).sp spHas21)) :: (73, ctrOf ((rdD.two rdInt).sp spHas21)) :: (58, ctrOf ((rdMsg.three rdInt rdInt).sp spAns)) ::
  (59, ctrOf ((rdMb.three rdInt rdMsg).sp spEnd)) :: (60, ctrOf (rdMb.one.sp spThaw)) :: (64, ctrOf (rdD.one.sp spEvery)) :: (65, ctrOf (rdCo.one.sp spGive)) :: ctB
end Sx
end
section
/- Layer 21: Obey, Issue, Expire, walked. -/
open Go Go.Proofs Sx
namespace Go.Proofs.Ytoechplbhbalaaa
set_option maxRecDepth 100000
set_option maxHeartbeats 0
section
variable (n j now patience : Int) (a b d s wt hd : D) (frozen : Bool) (mr mp mt mi mu : Int) (mk mf mto mn mv me : Int) (ml mb : D) (nodes round phase deadline : Int) (valid : Bool)
theorem obey1_in : exec Try.prog ctM 800 (entry Try.prog 24 [.agg [.int .i64 mr, .int .i64 mp, .int .i64 mt, .int .i64 mi, .bool frozen, .int .i64 mu, .dat wt, .dat hd], .int .i64 now, .int .i64 patience, .agg [.int .i64 mk, .int .i64 mf, .int .i64 mto, .int .i64 mn, .int .i64 mv, .int .i64 me, .dat ml, .dat mb]]) =
  Tree.need (MbD.Right (MbD.mk mr mp mt mi frozen mu wt hd))
    (Tree.br (checkMb (MbD.mb (MbD.mk mr mp mt mi frozen mu wt hd)) != 0)
      (Tree.ret
        (SV.tup
          [SV.agg
              [SV.int IntKind.i64 mr, SV.int IntKind.i64 mp, SV.int IntKind.i64 mt, SV.int IntKind.i64 mi, SV.bool frozen,
                SV.int IntKind.i64 mu, SV.dat wt, SV.dat hd],
            SV.nils, SV.nils]))
      (Tree.br (decide (mn < 1))
        (Tree.ret
          (SV.tup
            [SV.agg
                [SV.int IntKind.i64 mr, SV.int IntKind.i64 mp, SV.int IntKind.i64 mt, SV.int IntKind.i64 mi,
                  SV.bool frozen, SV.int IntKind.i64 mu, SV.dat wt, SV.dat hd],
              SV.nils, SV.nils]))
        (Tree.br (decide (mn ≥ 0))
          (Tree.br (!decide (mn ≤ 1073741824))
            (Tree.ret
              (SV.tup
                [SV.agg
                    [SV.int IntKind.i64 mr, SV.int IntKind.i64 mp, SV.int IntKind.i64 mt, SV.int IntKind.i64 mi,
                      SV.bool frozen, SV.int IntKind.i64 mu, SV.dat wt, SV.dat hd],
                  SV.nils, SV.nils]))
            (Tree.all fun hs =>
              Tree.need (D.Is Int wt ∧ D.len wt ≤ 1048576)
                (Tree.need (D.Is Int hd ∧ D.len hd ≤ 1048576)
                  (Tree.br (decide (mk = 1))
                    (Tree.all fun hs_1 =>
                      Tree.br (decide (mn > mr))
                        (Tree.all fun hs_2 =>
                          Tree.all fun hs_3 =>
                            Tree.all fun hs_4 =>
                              Tree.all fun hs_5 =>
                                Tree.ret
                                  (SV.tup
                                    [SV.agg
                                        [SV.int IntKind.i64 mn, SV.int IntKind.i64 mi, SV.int IntKind.i64 mt,
                                          SV.int IntKind.i64 mi, SV.lb true,
                                          SV.int IntKind.i64
                                            (if
                                                1073741824 <
                                                  IntKind.wrap IntKind.i64
                                                    ((if 1073741824 < if 0 > now then 0 else now then 1073741824
                                                      else if 0 > now then 0 else now) +
                                                      if 1073741824 < if 1 > patience then 1 else patience then 1073741824
                                                      else if 1 > patience then 1 else patience) then
                                              1073741824
                                            else
                                              IntKind.wrap IntKind.i64
                                                ((if 1073741824 < if 0 > now then 0 else now then 1073741824
                                                  else if 0 > now then 0 else now) +
                                                  if 1073741824 < if 1 > patience then 1 else patience then 1073741824
                                                  else if 1 > patience then 1 else patience)),
                                          SV.dat (D.slc (D.hd (hs 4 0)) 1 (D.rows wt)),
                                          SV.dat (D.slc (D.hd (hs 7 0)) 1 (D.rows hd))],
                                      SV.nils,
                                      SV.dat
                                        (D.slc (D.hd (hs_4 18 0)) 8
                                          [[D.int IntKind.i64 2, D.int IntKind.i64 mto, D.int IntKind.i64 mf,
                                              D.int IntKind.i64 mn, D.int IntKind.i64 mi, D.int IntKind.i64 0,
                                              D.slc none 0 [], D.slc none 0 []]])]))
                        (Tree.all fun hs_2 =>
                          Tree.br (decide (mn < mr))
                            (Tree.need (decide (mn < mr) = true)
                              (Tree.need (decide (mn < mr) = true)
                                (Tree.need (decide (mn < mr) = true)
                                  (Tree.need (decide (mn < mr) = true)
                                    (Tree.need (decide (mn < mr) = true)
                                      (Tree.need (decide (mn < mr) = true)
                                        (Tree.need (decide (mn < mr) = true)
                                          (Tree.all fun hs_3 =>
                                            Tree.ret
                                              (SV.tup
                                                [SV.agg
                                                    [SV.int IntKind.i64 mr, SV.int IntKind.i64 mp, SV.int IntKind.i64 mt,
                                                      SV.int IntKind.i64 mi, SV.bool frozen, SV.int IntKind.i64 mu,
                                                      SV.dat (D.slc (D.hd (hs 4 0)) 1 (D.rows wt)),
                                                      SV.dat (D.slc (D.hd (hs 7 0)) 1 (D.rows hd))],
                                                  SV.nils, SV.nils])))))))))
                            (Tree.need (decide (mn < mr) = false)
                              (Tree.need (decide (mn < mr) = false)
                                (Tree.need (decide (mn < mr) = false)
                                  (Tree.need (decide (mn < mr) = false)
                                    (Tree.need (decide (mn < mr) = false)
                                      (Tree.need (decide (mn < mr) = false)
                                        (Tree.need (decide (mn < mr) = false)
                                          (Tree.br (!frozen)
                                            (Tree.all fun hs_3 =>
                                              Tree.ret
                                                (SV.tup
                                                  [SV.agg
                                                      [SV.int IntKind.i64 mr, SV.int IntKind.i64 mp,
                                                        SV.int IntKind.i64 mt, SV.int IntKind.i64 mi, SV.bool frozen,
                                                        SV.int IntKind.i64 mu,
                                                        SV.dat (D.slc (D.hd (hs 4 0)) 1 (D.rows wt)),
                                                        SV.dat (D.slc (D.hd (hs 7 0)) 1 (D.rows hd))],
                                                    SV.nils, SV.nils]))
                                            (Tree.all fun hs_3 =>
                                              Tree.all fun hs_4 =>
                                                Tree.ret
                                                  (SV.tup
                                                    [SV.agg
                                                        [SV.int IntKind.i64 mr, SV.int IntKind.i64 mp,
                                                          SV.int IntKind.i64 mt, SV.int IntKind.i64 mi, SV.bool frozen,
                                                          SV.int IntKind.i64 mu,
                                                          SV.dat (D.slc (D.hd (hs 4 0)) 1 (D.rows wt)),
                                                          SV.dat (D.slc (D.hd (hs 7 0)) 1 (D.rows hd))],
                                                      SV.nils,
                                                      SV.dat
                                                        (D.slc (D.hd (hs_3 18 0)) 8
                                                          [[D.int IntKind.i64 2, D.int IntKind.i64 mto,
                                                              D.int IntKind.i64 mf, D.int IntKind.i64 mn,
                                                              D.int IntKind.i64 mp, D.int IntKind.i64 0, D.slc none 0 [],
                                                              D.slc none 0 []]])]))))))))))))
                    (Tree.br (decide (mk = 3))
                      (Tree.all fun hs_1 =>
                        Tree.br (decide (mn < mr))
                          (Tree.all fun hs_2 =>
                            Tree.ret
                              (SV.tup
                                [SV.agg
                                    [SV.int IntKind.i64 mr, SV.int IntKind.i64 mp, SV.int IntKind.i64 mt,
                                      SV.int IntKind.i64 mi, SV.bool frozen, SV.int IntKind.i64 mu,
                                      SV.dat (D.slc (D.hd (hs 4 0)) 1 (D.rows wt)),
                                      SV.dat (D.slc (D.hd (hs 7 0)) 1 (D.rows hd))],
                                  SV.nils, SV.nils]))
                          (Tree.all fun hs_2 =>
                            Tree.br (decide (mn > mr))
                              (Tree.all fun hs_3 =>
                                Tree.all fun hs_4 =>
                                  Tree.ret
                                    (SV.tup
                                      [SV.agg
                                          [SV.int IntKind.i64 mr, SV.int IntKind.i64 mp, SV.int IntKind.i64 mt,
                                            SV.int IntKind.i64 mi, SV.bool frozen, SV.int IntKind.i64 mu,
                                            SV.dat (D.slc (D.hd (hs 4 0)) 1 (D.rows wt)),
                                            SV.dat (D.slc (D.hd (hs 7 0)) 1 (D.rows hd))],
                                        SV.nils,
                                        SV.dat
                                          (D.slc (D.hd (hs_3 18 0)) 8
                                            [[D.int IntKind.i64 4, D.int IntKind.i64 mto, D.int IntKind.i64 mf,
                                                D.int IntKind.i64 mn, D.int IntKind.i64 0, D.int IntKind.i64 0,
                                                D.slc none 0 [], D.slc none 0 []]])]))
                              (Tree.all fun hs_3 =>
                                Tree.br frozen
                                  (Tree.all fun hs_4 =>
                                    Tree.br
                                      (decide
                                        ((if 1073741824 < if 0 > now then 0 else now then 1073741824
                                          else if 0 > now then 0 else now) <
                                          mu))
                                      (Tree.br
                                        (decide
                                          ((if 1073741824 < if 0 > now then 0 else now then 1073741824
                                            else if 0 > now then 0 else now) <
                                            mu))
                                        (Tree.all fun hs_5 =>
                                          Tree.all fun hs_6 =>
                                            Tree.ret
                                              (SV.tup
                                                [SV.agg
                                                    [SV.int IntKind.i64 mr, SV.int IntKind.i64 mp, SV.int IntKind.i64 mr,
                                                      SV.int IntKind.i64 mi, SV.lb false, SV.int IntKind.i64 mu,
                                                      SV.dat (D.slc (D.hd (hs 4 0)) 1 (D.rows wt)), SV.nils],
                                                  SV.dat (D.slc (D.hd (hs 7 0)) 1 (D.rows hd)),
                                                  SV.dat
                                                    (D.slc (D.hd (hs_5 18 0)) 8
                                                      [[D.int IntKind.i64 4, D.int IntKind.i64 mto, D.int IntKind.i64 mf,
                                                          D.int IntKind.i64 mn, D.int IntKind.i64 1, D.int IntKind.i64 0,
                                                          D.slc none 0 [], D.slc none 0 []]])]))
                                        (Tree.all fun hs_5 =>
                                          Tree.all fun hs_6 =>
                                            Tree.ret
                                              (SV.tup
                                                [SV.agg
                                                    [SV.int IntKind.i64 mr, SV.int IntKind.i64 mp, SV.int IntKind.i64 mr,
                                                      SV.int IntKind.i64 mi, SV.lb false, SV.int IntKind.i64 mu,
                                                      SV.dat (D.slc (D.hd (hs 4 0)) 1 (D.rows wt)), SV.nils],
                                                  SV.dat (D.slc (D.hd (hs 7 0)) 1 (D.rows hd)),
                                                  SV.dat
                                                    (D.slc (D.hd (hs_5 18 0)) 8
                                                      [[D.int IntKind.i64 4, D.int IntKind.i64 mto, D.int IntKind.i64 mf,
                                                          D.int IntKind.i64 mn, D.int IntKind.i64 0, D.int IntKind.i64 0,
                                                          D.slc none 0 [], D.slc none 0 []]])])))
                                      (Tree.br
                                        (decide
                                          ((if 1073741824 < if 0 > now then 0 else now then 1073741824
                                            else if 0 > now then 0 else now) <
                                            mu))
                                        (Tree.all fun hs_5 =>
                                          Tree.all fun hs_6 =>
                                            Tree.ret
                                              (SV.tup
                                                [SV.agg
                                                    [SV.int IntKind.i64 mr, SV.int IntKind.i64 mp, SV.int IntKind.i64 mt,
                                                      SV.int IntKind.i64 mi, SV.lb false, SV.int IntKind.i64 mu,
                                                      SV.dat (D.slc (D.hd (hs 4 0)) 1 (D.rows wt)), SV.nils],
                                                  SV.dat (D.slc (D.hd (hs 7 0)) 1 (D.rows hd)),
                                                  SV.dat
                                                    (D.slc (D.hd (hs_5 18 0)) 8
                                                      [[D.int IntKind.i64 4, D.int IntKind.i64 mto, D.int IntKind.i64 mf,
                                                          D.int IntKind.i64 mn, D.int IntKind.i64 1, D.int IntKind.i64 0,
                                                          D.slc none 0 [], D.slc none 0 []]])]))
                                        (Tree.all fun hs_5 =>
                                          Tree.all fun hs_6 =>
                                            Tree.ret
                                              (SV.tup
                                                [SV.agg
                                                    [SV.int IntKind.i64 mr, SV.int IntKind.i64 mp, SV.int IntKind.i64 mt,
                                                      SV.int IntKind.i64 mi, SV.lb false, SV.int IntKind.i64 mu,
                                                      SV.dat (D.slc (D.hd (hs 4 0)) 1 (D.rows wt)), SV.nils],
                                                  SV.dat (D.slc (D.hd (hs 7 0)) 1 (D.rows hd)),
                                                  SV.dat
                                                    (D.slc (D.hd (hs_5 18 0)) 8
                                                      [[D.int IntKind.i64 4, D.int IntKind.i64 mto, D.int IntKind.i64 mf,
                                                          D.int IntKind.i64 mn, D.int IntKind.i64 0, D.int IntKind.i64 0,
                                                          D.slc none 0 [], D.slc none 0 []]])]))))
                                  (Tree.br (decide (mt = mr))
                                    (Tree.all fun hs_4 =>
                                      Tree.all fun hs_5 =>
                                        Tree.ret
                                          (SV.tup
                                            [SV.agg
                                                [SV.int IntKind.i64 mr, SV.int IntKind.i64 mp, SV.int IntKind.i64 mt,
                                                  SV.int IntKind.i64 mi, SV.bool frozen, SV.int IntKind.i64 mu,
                                                  SV.dat (D.slc (D.hd (hs 4 0)) 1 (D.rows wt)),
                                                  SV.dat (D.slc (D.hd (hs 7 0)) 1 (D.rows hd))],
                                              SV.nils,
                                              SV.dat
                                                (D.slc (D.hd (hs_4 18 0)) 8
                                                  [[D.int IntKind.i64 4, D.int IntKind.i64 mto, D.int IntKind.i64 mf,
                                                      D.int IntKind.i64 mn, D.int IntKind.i64 1, D.int IntKind.i64 0,
                                                      D.slc none 0 [], D.slc none 0 []]])]))
                                    (Tree.all fun hs_4 =>
                                      Tree.all fun hs_5 =>
                                        Tree.ret
                                          (SV.tup
                                            [SV.agg
                                                [SV.int IntKind.i64 mr, SV.int IntKind.i64 mp, SV.int IntKind.i64 mt,
                                                  SV.int IntKind.i64 mi, SV.bool frozen, SV.int IntKind.i64 mu,
                                                  SV.dat (D.slc (D.hd (hs 4 0)) 1 (D.rows wt)),
                                                  SV.dat (D.slc (D.hd (hs 7 0)) 1 (D.rows hd))],
                                              SV.nils,
                                              SV.dat
                                                (D.slc (D.hd (hs_4 18 0)) 8
                                                  [[D.int IntKind.i64 4, D.int IntKind.i64 mto, D.int IntKind.i64 mf,
                                                      D.int IntKind.i64 mn, D.int IntKind.i64 0, D.int IntKind.i64 0,
                                                      D.slc none 0 [], D.slc none 0 []]])]))))))
                      (Tree.br (decide (mk = 24))
                        (Tree.all fun hs_1 =>
                          Tree.br (decide (mn = mr))
                            (Tree.need (decide (mn = mr) = true)
                              (Tree.need (decide (mn = mr) = true)
                                (Tree.need (decide (mn = mr) = true)
                                  (Tree.need (decide (mn = mr) = true)
                                    (Tree.need (decide (mn = mr) = true)
                                      (Tree.need (decide (mn = mr) = true)
                                        (Tree.br frozen
                                          (Tree.all fun hs_2 =>
                                            Tree.ret
                                              (SV.tup
                                                [SV.agg
                                                    [SV.int IntKind.i64 mr, SV.int IntKind.i64 mp, SV.int IntKind.i64 mt,
                                                      SV.int IntKind.i64 mi, SV.lb false, SV.int IntKind.i64 mu,
                                                      SV.dat (D.slc (D.hd (hs 4 0)) 1 (D.rows wt)), SV.nils],
                                                  SV.dat (D.slc (D.hd (hs 7 0)) 1 (D.rows hd)), SV.nils]))
                                          (Tree.all fun hs_2 =>
                                            Tree.ret
                                              (SV.tup
                                                [SV.agg
                                                    [SV.int IntKind.i64 mr, SV.int IntKind.i64 mp, SV.int IntKind.i64 mt,
                                                      SV.int IntKind.i64 mi, SV.bool frozen, SV.int IntKind.i64 mu,
                                                      SV.dat (D.slc (D.hd (hs 4 0)) 1 (D.rows wt)),
                                                      SV.dat (D.slc (D.hd (hs 7 0)) 1 (D.rows hd))],
                                                  SV.nils, SV.nils])))))))))
                            (Tree.need (decide (mn = mr) = false)
                              (Tree.need (decide (mn = mr) = false)
                                (Tree.need (decide (mn = mr) = false)
                                  (Tree.need (decide (mn = mr) = false)
                                    (Tree.need (decide (mn = mr) = false)
                                      (Tree.need (decide (mn = mr) = false)
                                        (Tree.all fun hs_2 =>
                                          Tree.ret
                                            (SV.tup
                                              [SV.agg
                                                  [SV.int IntKind.i64 mr, SV.int IntKind.i64 mp, SV.int IntKind.i64 mt,
                                                    SV.int IntKind.i64 mi, SV.bool frozen, SV.int IntKind.i64 mu,
                                                    SV.dat (D.slc (D.hd (hs 4 0)) 1 (D.rows wt)),
                                                    SV.dat (D.slc (D.hd (hs 7 0)) 1 (D.rows hd))],
                                                SV.nils, SV.nils])))))))))
                        (Tree.ret
                          (SV.tup
                            [SV.agg
                                [SV.int IntKind.i64 mr, SV.int IntKind.i64 mp, SV.int IntKind.i64 mt,
                                  SV.int IntKind.i64 mi, SV.bool frozen, SV.int IntKind.i64 mu, SV.dat wt, SV.dat hd],
                              SV.nils, SV.nils]))))))))
          (Tree.ret
            (SV.tup
              [SV.agg
                  [SV.int IntKind.i64 mr, SV.int IntKind.i64 mp, SV.int IntKind.i64 mt, SV.int IntKind.i64 mi,
                    SV.bool frozen, SV.int IntKind.i64 mu, SV.dat wt, SV.dat hd],
                SV.nils, SV.nils]))))) := by kernel_rfl

theorem iss1_in : exec Try.prog ctM 600 (entry Try.prog 36 [.agg [.int .i64 mr, .int .i64 mp, .int .i64 mt, .int .i64 mi, .bool frozen, .int .i64 mu, .dat wt, .dat hd]]) =
  Tree.need (MbD.Right (MbD.mk mr mp mt mi frozen mu wt hd))
    (Tree.br (checkMb (MbD.mb (MbD.mk mr mp mt mi frozen mu wt hd)) != 0)
      (Tree.ret
        (SV.tup
          [SV.agg
              [SV.int IntKind.i64 mr, SV.int IntKind.i64 mp, SV.int IntKind.i64 mt, SV.int IntKind.i64 mi, SV.bool frozen,
                SV.int IntKind.i64 mu, SV.dat wt, SV.dat hd],
            SV.int IntKind.i64 (Int.neg 1)]))
      (Tree.br (decide (mi = 4096))
        (Tree.ret
          (SV.tup
            [SV.agg
                [SV.int IntKind.i64 mr, SV.int IntKind.i64 mp, SV.int IntKind.i64 mt, SV.int IntKind.i64 mi,
                  SV.bool frozen, SV.int IntKind.i64 mu, SV.dat wt, SV.dat hd],
              SV.int IntKind.i64 (Int.neg 1)]))
        (Tree.need (D.Is Int wt ∧ D.len wt ≤ 1048576)
          (Tree.all fun hs =>
            Tree.all fun hs_1 =>
              Tree.need
                (D.sz (D.slc (D.hd (hs 0 0)) 1 (D.rows wt)) = 1 ∧
                  D.Fits (D.slc (D.hd (hs_1 0 0)) 1 [[D.int IntKind.i64 mi]]) 1 ∧
                    (D.len (D.slc (D.hd (hs 0 0)) 1 (D.rows wt)) +
                            D.len (D.slc (D.hd (hs_1 0 0)) 1 [[D.int IntKind.i64 mi]])) *
                          8 ≤
                        140737488355328 ∧
                      D.len (D.slc (D.hd (hs 0 0)) 1 (D.rows wt)) +
                          D.len (D.slc (D.hd (hs_1 0 0)) 1 [[D.int IntKind.i64 mi]]) ≤
                        9223372036854775807)
                (Tree.all fun hs_2 =>
                  Tree.ret
                    (SV.tup
                      [SV.agg
                          [SV.int IntKind.i64 mr, SV.int IntKind.i64 mp, SV.int IntKind.i64 mt,
                            SV.int IntKind.i64 (IntKind.wrap IntKind.i64 (mi + 1)), SV.bool frozen, SV.int IntKind.i64 mu,
                            SV.dat
                              (D.slc (D.hd (hs_2 0 0)) 1
                                (List.append (D.rows (D.slc (D.hd (hs 0 0)) 1 (D.rows wt)))
                                  (D.rows (D.slc (D.hd (hs_1 0 0)) 1 [[D.int IntKind.i64 mi]])))),
                            SV.dat hd],
                        SV.int IntKind.i64 mi])))))) := by kernel_rfl

theorem iss2_in : exec Try.prog ctM 600 (entry Try.prog 37 [.agg [.int .i64 mr, .int .i64 mp, .int .i64 mt, .int .i64 mi, .bool frozen, .int .i64 mu, .dat wt, .dat hd]]) =
  Tree.need (MbD.Right (MbD.mk mr mp mt mi frozen mu wt hd))
    (Tree.br (checkMb (MbD.mb (MbD.mk mr mp mt mi frozen mu wt hd)) != 0)
      (Tree.ret
        (SV.tup
          [SV.agg
              [SV.int IntKind.i64 mr, SV.int IntKind.i64 mp, SV.int IntKind.i64 mt, SV.int IntKind.i64 mi, SV.bool frozen,
                SV.int IntKind.i64 mu, SV.dat wt, SV.dat hd],
            SV.int IntKind.i64 (Int.neg 1)]))
      (Tree.br (decide (mi = 4096))
        (Tree.ret
          (SV.tup
            [SV.agg
                [SV.int IntKind.i64 mr, SV.int IntKind.i64 mp, SV.int IntKind.i64 mt, SV.int IntKind.i64 mi,
                  SV.bool frozen, SV.int IntKind.i64 mu, SV.dat wt, SV.dat hd],
              SV.int IntKind.i64 (Int.neg 1)]))
        (Tree.all fun hs =>
          Tree.need
            (D.sz (D.slc (D.hd (hs 0 0)) 1 []) = 1 ∧
              D.Fits wt 1 ∧
                (D.len (D.slc (D.hd (hs 0 0)) 1 []) + D.len wt) * 8 ≤ 140737488355328 ∧
                  D.len (D.slc (D.hd (hs 0 0)) 1 []) + D.len wt ≤ 9223372036854775807)
            (Tree.all fun hs_1 =>
              Tree.all fun hs_2 =>
                Tree.need
                  (D.sz (D.slc (D.hd (hs_1 0 0)) 1 (List.append (D.rows (D.slc (D.hd (hs 0 0)) 1 [])) (D.rows wt))) = 1 ∧
                    D.Fits (D.slc (D.hd (hs_2 0 0)) 1 [[D.int IntKind.i64 mi]]) 1 ∧
                      (D.len (D.slc (D.hd (hs_1 0 0)) 1 (List.append (D.rows (D.slc (D.hd (hs 0 0)) 1 [])) (D.rows wt))) +
                              D.len (D.slc (D.hd (hs_2 0 0)) 1 [[D.int IntKind.i64 mi]])) *
                            8 ≤
                          140737488355328 ∧
                        D.len
                              (D.slc (D.hd (hs_1 0 0)) 1
                                (List.append (D.rows (D.slc (D.hd (hs 0 0)) 1 [])) (D.rows wt))) +
                            D.len (D.slc (D.hd (hs_2 0 0)) 1 [[D.int IntKind.i64 mi]]) ≤
                          9223372036854775807)
                  (Tree.all fun hs_3 =>
                    Tree.ret
                      (SV.tup
                        [SV.agg
                            [SV.int IntKind.i64 mr, SV.int IntKind.i64 mp, SV.int IntKind.i64 mt,
                              SV.int IntKind.i64 (IntKind.wrap IntKind.i64 (mi + 1)), SV.bool frozen,
                              SV.int IntKind.i64 mu,
                              SV.dat
                                (D.slc (D.hd (hs_3 0 0)) 1
                                  (List.append
                                    (D.rows
                                      (D.slc (D.hd (hs_1 0 0)) 1
                                        (List.append (D.rows (D.slc (D.hd (hs 0 0)) 1 [])) (D.rows wt))))
                                    (D.rows (D.slc (D.hd (hs_2 0 0)) 1 [[D.int IntKind.i64 mi]])))),
                              SV.dat hd],
                          SV.int IntKind.i64 mi])))))) := by kernel_rfl

theorem exp1_in : exec Try.prog ctM 600 (entry Try.prog 29 [.agg [.int .i64 nodes, .int .i64 round, .int .i64 phase, .int .i64 deadline, .dat d, .dat s, .bool valid], .int .i64 now]) =
  Tree.need (D.Is Int d ∧ D.Is Bool s)
    (Tree.br (checkCo (CoD.co (CoD.mk nodes round phase deadline d s valid)) != 0)
      (Tree.ret
        (SV.tup
          [SV.agg
              [SV.int IntKind.i64 nodes, SV.int IntKind.i64 round, SV.int IntKind.i64 phase, SV.int IntKind.i64 deadline,
                SV.dat d, SV.dat s, SV.bool valid],
            SV.nils]))
      (Tree.br (decide (phase = 0))
        (Tree.ret
          (SV.tup
            [SV.agg
                [SV.int IntKind.i64 nodes, SV.int IntKind.i64 round, SV.int IntKind.i64 phase,
                  SV.int IntKind.i64 deadline, SV.dat d, SV.dat s, SV.bool valid],
              SV.nils]))
        (Tree.br (decide (now < deadline))
          (Tree.ret
            (SV.tup
              [SV.agg
                  [SV.int IntKind.i64 nodes, SV.int IntKind.i64 round, SV.int IntKind.i64 phase,
                    SV.int IntKind.i64 deadline, SV.dat d, SV.dat s, SV.bool valid],
                SV.nils]))
          (Tree.all fun hs =>
            Tree.need (D.Is Int d ∧ D.len d ≤ 1048576)
              (Tree.need (D.Is Bool s ∧ D.len s ≤ 1048576)
                (Tree.need (nodes ≤ 8)
                  (Tree.all fun hs_1 =>
                    Tree.ret
                      (SV.tup
                        [SV.agg
                            [SV.int IntKind.i64 nodes, SV.int IntKind.i64 round, SV.int IntKind.i64 0,
                              SV.int IntKind.i64 deadline, SV.dat (D.slc (D.hd (hs 2 0)) 1 (D.rows d)),
                              SV.dat (D.slc (D.hd (hs 5 0)) 1 (D.rows s)), SV.lb false],
                          SV.dat (D.like (hs_1 0 0) (msgsTo nodes round 24))])))))))) := by kernel_rfl

theorem exp2_in : exec Try.prog ctM 600 (entry Try.prog 30 [.agg [.int .i64 nodes, .int .i64 round, .int .i64 phase, .int .i64 deadline, .dat d, .dat s, .bool valid], .int .i64 now]) =
  Tree.need (D.Is Int d ∧ D.Is Bool s)
    (Tree.br (checkCo (CoD.co (CoD.mk nodes round phase deadline d s valid)) != 0)
      (Tree.ret
        (SV.tup
          [SV.agg
              [SV.int IntKind.i64 nodes, SV.int IntKind.i64 round, SV.int IntKind.i64 phase, SV.int IntKind.i64 deadline,
                SV.dat d, SV.dat s, SV.bool valid],
            SV.nils]))
      (Tree.br (decide (phase = 0))
        (Tree.ret
          (SV.tup
            [SV.agg
                [SV.int IntKind.i64 nodes, SV.int IntKind.i64 round, SV.int IntKind.i64 phase,
                  SV.int IntKind.i64 deadline, SV.dat d, SV.dat s, SV.bool valid],
              SV.nils]))
        (Tree.br (decide (now < deadline))
          (Tree.ret
            (SV.tup
              [SV.agg
                  [SV.int IntKind.i64 nodes, SV.int IntKind.i64 round, SV.int IntKind.i64 phase,
                    SV.int IntKind.i64 deadline, SV.dat d, SV.dat s, SV.bool valid],
                SV.nils]))
          (Tree.need (D.Is Int d ∧ D.Is Bool s ∧ nodes ≤ 8)
            (Tree.all fun hs =>
              Tree.ret
                (SV.tup
                  [SV.agg
                      [SV.int IntKind.i64 nodes, SV.int IntKind.i64 round, SV.int IntKind.i64 0,
                        SV.int IntKind.i64 deadline, SV.dat (D.like (hs 0 0) (D.to Int d)),
                        SV.dat (D.like (hs 0 1) (D.to Bool s)), SV.bool false],
                    SV.dat (D.like (hs 0 2) (msgsTo nodes round 24))])))))) := by kernel_rfl

end
end Go.Proofs.Ytoechplbhbalaaa
end
