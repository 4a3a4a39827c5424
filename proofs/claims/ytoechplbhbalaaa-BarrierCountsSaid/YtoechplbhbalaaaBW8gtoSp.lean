/- Layer 21: the reference's Obey, walked. -/
import Derived.KernelRfl
import Derived.Test.YtoechplbhbalaaaBW6gtoBW7g
import Derived.Test.YtoechplbhbalaaaOvtoM22
set_option linter.all false
section
open Go Go.Proofs Sx
namespace Go.Proofs.Ytoechplbhbalaaa
set_option maxRecDepth 100000
set_option maxHeartbeats 0
section
variable (n j now patience : Int) (a b d s wt hd : D) (frozen : Bool) (mr mp mt mi mu : Int) (mk mf mto mn mv me : Int) (ml mb : D) (nodes round phase deadline : Int) (valid : Bool)
theorem obey2_in : exec Try.prog ctM 800 (entry Try.prog 25 [.agg [.int .i64 mr, .int .i64 mp, .int .i64 mt, .int .i64 mi, .bool frozen, .int .i64 mu, .dat wt, .dat hd], .int .i64 now, .int .i64 patience, .agg [.int .i64 mk, .int .i64 mf, .int .i64 mto, .int .i64 mn, .int .i64 mv, .int .i64 me, .dat ml, .dat mb]]) =
  Tree.need (MbD.Right (MbD.mk mr mp mt mi frozen mu wt hd))
    (Tree.br (checkMb (MbD.mb (MbD.mk mr mp mt mi frozen mu wt hd)) != 0)
      (Tree.ret
        (SV.tup
          [SV.agg
              [SV.int IntKind.i64 mr, SV.int IntKind.i64 mp, SV.int IntKind.i64 mt, SV.int IntKind.i64 mi, SV.bool frozen,
                SV.int IntKind.i64 mu, SV.dat wt, SV.dat hd],
            SV.nils, SV.nils]))
      (Tree.br (decide (mn < 1))
        (Tree.ret
          (SV.tup
            [SV.agg
                [SV.int IntKind.i64 mr, SV.int IntKind.i64 mp, SV.int IntKind.i64 mt, SV.int IntKind.i64 mi,
                  SV.bool frozen, SV.int IntKind.i64 mu, SV.dat wt, SV.dat hd],
              SV.nils, SV.nils]))
        (Tree.br (decide (mn > 1073741824))
          (Tree.ret
            (SV.tup
              [SV.agg
                  [SV.int IntKind.i64 mr, SV.int IntKind.i64 mp, SV.int IntKind.i64 mt, SV.int IntKind.i64 mi,
                    SV.bool frozen, SV.int IntKind.i64 mu, SV.dat wt, SV.dat hd],
                SV.nils, SV.nils]))
          (Tree.br (decide (mk = 1))
            (Tree.br (decide (mn > mr))
              (Tree.all fun hs =>
                Tree.ret
                  (SV.tup
                    [SV.agg
                        [SV.int IntKind.i64 mn, SV.int IntKind.i64 mi, SV.int IntKind.i64 mt, SV.int IntKind.i64 mi,
                          SV.lb true,
                          SV.int IntKind.i64
                            (if
                                1073741824 <
                                  IntKind.wrap IntKind.i64
                                    ((if 1073741824 < if 0 > now then 0 else now then 1073741824
                                      else if 0 > now then 0 else now) +
                                      if 1073741824 < if 1 > patience then 1 else patience then 1073741824
                                      else if 1 > patience then 1 else patience) then
                              1073741824
                            else
                              IntKind.wrap IntKind.i64
                                ((if 1073741824 < if 0 > now then 0 else now then 1073741824
                                  else if 0 > now then 0 else now) +
                                  if 1073741824 < if 1 > patience then 1 else patience then 1073741824
                                  else if 1 > patience then 1 else patience)),
                          SV.dat wt, SV.dat hd],
                      SV.nils, SV.dat (D.like (hs 4 0) (ansTo (MsgD.msg (MsgD.mk mk mf mto mn mv me ml mb)) 2 mi))]))
              (Tree.br (decide (mk = 1))
                (Tree.br (decide (mn = mr))
                  (Tree.br frozen
                    (Tree.all fun hs =>
                      Tree.ret
                        (SV.tup
                          [SV.agg
                              [SV.int IntKind.i64 mr, SV.int IntKind.i64 mp, SV.int IntKind.i64 mt, SV.int IntKind.i64 mi,
                                SV.bool frozen, SV.int IntKind.i64 mu, SV.dat wt, SV.dat hd],
                            SV.nils,
                            SV.dat (D.like (hs 4 0) (ansTo (MsgD.msg (MsgD.mk mk mf mto mn mv me ml mb)) 2 mp))]))
                    (Tree.br (decide (mk = 3))
                      (Tree.br (decide (mn = mr))
                        (Tree.need (MbD.Right (MbD.mk mr mp mt mi frozen mu wt hd))
                          (Tree.all fun hs =>
                            Tree.ret
                              (SV.tup
                                [SV.agg
                                    [SV.int IntKind.i64
                                        (Mb.round
                                          (Prod.fst
                                            (endMb (MbD.mb (MbD.mk mr mp mt mi frozen mu wt hd))
                                              (if 1073741824 < if 0 > now then 0 else now then 1073741824
                                              else if 0 > now then 0 else now)
                                              (MsgD.msg (MsgD.mk mk mf mto mn mv me ml mb))))),
                                      SV.int IntKind.i64
                                        (Mb.position
                                          (Prod.fst
                                            (endMb (MbD.mb (MbD.mk mr mp mt mi frozen mu wt hd))
                                              (if 1073741824 < if 0 > now then 0 else now then 1073741824
                                              else if 0 > now then 0 else now)
                                              (MsgD.msg (MsgD.mk mk mf mto mn mv me ml mb))))),
                                      SV.int IntKind.i64
                                        (Mb.thawed
                                          (Prod.fst
                                            (endMb (MbD.mb (MbD.mk mr mp mt mi frozen mu wt hd))
                                              (if 1073741824 < if 0 > now then 0 else now then 1073741824
                                              else if 0 > now then 0 else now)
                                              (MsgD.msg (MsgD.mk mk mf mto mn mv me ml mb))))),
                                      SV.int IntKind.i64
                                        (Mb.issued
                                          (Prod.fst
                                            (endMb (MbD.mb (MbD.mk mr mp mt mi frozen mu wt hd))
                                              (if 1073741824 < if 0 > now then 0 else now then 1073741824
                                              else if 0 > now then 0 else now)
                                              (MsgD.msg (MsgD.mk mk mf mto mn mv me ml mb))))),
                                      SV.bool
                                        (Mb.frozen
                                          (Prod.fst
                                            (endMb (MbD.mb (MbD.mk mr mp mt mi frozen mu wt hd))
                                              (if 1073741824 < if 0 > now then 0 else now then 1073741824
                                              else if 0 > now then 0 else now)
                                              (MsgD.msg (MsgD.mk mk mf mto mn mv me ml mb))))),
                                      SV.int IntKind.i64
                                        (Mb.upto
                                          (Prod.fst
                                            (endMb (MbD.mb (MbD.mk mr mp mt mi frozen mu wt hd))
                                              (if 1073741824 < if 0 > now then 0 else now then 1073741824
                                              else if 0 > now then 0 else now)
                                              (MsgD.msg (MsgD.mk mk mf mto mn mv me ml mb))))),
                                      SV.dat
                                        (D.like (hs 0 0)
                                          (Mb.waiting
                                            (Prod.fst
                                              (endMb (MbD.mb (MbD.mk mr mp mt mi frozen mu wt hd))
                                                (if 1073741824 < if 0 > now then 0 else now then 1073741824
                                                else if 0 > now then 0 else now)
                                                (MsgD.msg (MsgD.mk mk mf mto mn mv me ml mb)))))),
                                      SV.dat
                                        (D.like (hs 0 1)
                                          (Mb.held
                                            (Prod.fst
                                              (endMb (MbD.mb (MbD.mk mr mp mt mi frozen mu wt hd))
                                                (if 1073741824 < if 0 > now then 0 else now then 1073741824
                                                else if 0 > now then 0 else now)
                                                (MsgD.msg (MsgD.mk mk mf mto mn mv me ml mb))))))],
                                  SV.dat
                                    (D.like (hs 0 2)
                                      (Prod.fst
                                        (Prod.snd
                                          (endMb (MbD.mb (MbD.mk mr mp mt mi frozen mu wt hd))
                                            (if 1073741824 < if 0 > now then 0 else now then 1073741824
                                            else if 0 > now then 0 else now)
                                            (MsgD.msg (MsgD.mk mk mf mto mn mv me ml mb)))))),
                                  SV.dat
                                    (D.like (hs 0 3)
                                      (Prod.snd
                                        (Prod.snd
                                          (endMb (MbD.mb (MbD.mk mr mp mt mi frozen mu wt hd))
                                            (if 1073741824 < if 0 > now then 0 else now then 1073741824
                                            else if 0 > now then 0 else now)
                                            (MsgD.msg (MsgD.mk mk mf mto mn mv me ml mb))))))])))
                        (Tree.br (decide (mk = 3))
                          (Tree.br (decide (mn > mr))
                            (Tree.all fun hs =>
                              Tree.ret
                                (SV.tup
                                  [SV.agg
                                      [SV.int IntKind.i64 mr, SV.int IntKind.i64 mp, SV.int IntKind.i64 mt,
                                        SV.int IntKind.i64 mi, SV.bool frozen, SV.int IntKind.i64 mu, SV.dat wt,
                                        SV.dat hd],
                                    SV.nils,
                                    SV.dat (D.like (hs 2 0) (ansTo (MsgD.msg (MsgD.mk mk mf mto mn mv me ml mb)) 4 0))]))
                            (Tree.br (decide (mk = 24))
                              (Tree.br (decide (mn = mr))
                                (Tree.br frozen
                                  (Tree.need (MbD.Right (MbD.mk mr mp mt mi frozen mu wt hd))
                                    (Tree.all fun hs =>
                                      Tree.ret
                                        (SV.tup
                                          [SV.agg
                                              [SV.int IntKind.i64 mr, SV.int IntKind.i64 mp, SV.int IntKind.i64 mt,
                                                SV.int IntKind.i64 mi, SV.bool false, SV.int IntKind.i64 mu,
                                                SV.dat (D.like (hs 0 0) (D.to Int wt)), SV.dat (D.like (hs 0 1) ([] : List Int))],
                                            SV.dat (D.like (hs 0 2) (D.to Int hd)), SV.nils])))
                                  (Tree.ret
                                    (SV.tup
                                      [SV.agg
                                          [SV.int IntKind.i64 mr, SV.int IntKind.i64 mp, SV.int IntKind.i64 mt,
                                            SV.int IntKind.i64 mi, SV.bool frozen, SV.int IntKind.i64 mu, SV.dat wt,
                                            SV.dat hd],
                                        SV.nils, SV.nils])))
                                (Tree.ret
                                  (SV.tup
                                    [SV.agg
                                        [SV.int IntKind.i64 mr, SV.int IntKind.i64 mp, SV.int IntKind.i64 mt,
                                          SV.int IntKind.i64 mi, SV.bool frozen, SV.int IntKind.i64 mu, SV.dat wt,
                                          SV.dat hd],
                                      SV.nils, SV.nils])))
                              (Tree.ret
                                (SV.tup
                                  [SV.agg
                                      [SV.int IntKind.i64 mr, SV.int IntKind.i64 mp, SV.int IntKind.i64 mt,
                                        SV.int IntKind.i64 mi, SV.bool frozen, SV.int IntKind.i64 mu, SV.dat wt,
                                        SV.dat hd],
                                    SV.nils, SV.nils]))))
                          (Tree.br (decide (mk = 24))
                            (Tree.br (decide (mn = mr))
                              (Tree.br frozen
                                (Tree.need (MbD.Right (MbD.mk mr mp mt mi frozen mu wt hd))
                                  (Tree.all fun hs =>
                                    Tree.ret
                                      (SV.tup
                                        [SV.agg
                                            [SV.int IntKind.i64 mr, SV.int IntKind.i64 mp, SV.int IntKind.i64 mt,
                                              SV.int IntKind.i64 mi, SV.bool false, SV.int IntKind.i64 mu,
                                              SV.dat (D.like (hs 0 0) (D.to Int wt)), SV.dat (D.like (hs 0 1) ([] : List Int))],
                                          SV.dat (D.like (hs 0 2) (D.to Int hd)), SV.nils])))
                                (Tree.ret
                                  (SV.tup
                                    [SV.agg
                                        [SV.int IntKind.i64 mr, SV.int IntKind.i64 mp, SV.int IntKind.i64 mt,
                                          SV.int IntKind.i64 mi, SV.bool frozen, SV.int IntKind.i64 mu, SV.dat wt,
                                          SV.dat hd],
                                      SV.nils, SV.nils])))
                              (Tree.ret
                                (SV.tup
                                  [SV.agg
                                      [SV.int IntKind.i64 mr, SV.int IntKind.i64 mp, SV.int IntKind.i64 mt,
                                        SV.int IntKind.i64 mi, SV.bool frozen, SV.int IntKind.i64 mu, SV.dat wt,
                                        SV.dat hd],
                                    SV.nils, SV.nils])))
                            (Tree.ret
                              (SV.tup
                                [SV.agg
                                    [SV.int IntKind.i64 mr, SV.int IntKind.i64 mp, SV.int IntKind.i64 mt,
                                      SV.int IntKind.i64 mi, SV.bool frozen, SV.int IntKind.i64 mu, SV.dat wt, SV.dat hd],
                                  SV.nils, SV.nils])))))
                      (Tree.br (decide (mk = 3))
                        (Tree.br (decide (mn > mr))
                          (Tree.all fun hs =>
                            Tree.ret
                              (SV.tup
                                [SV.agg
                                    [SV.int IntKind.i64 mr, SV.int IntKind.i64 mp, SV.int IntKind.i64 mt,
                                      SV.int IntKind.i64 mi, SV.bool frozen, SV.int IntKind.i64 mu, SV.dat wt, SV.dat hd],
                                  SV.nils,
                                  SV.dat (D.like (hs 2 0) (ansTo (MsgD.msg (MsgD.mk mk mf mto mn mv me ml mb)) 4 0))]))
                          (Tree.br (decide (mk = 24))
                            (Tree.br (decide (mn = mr))
                              (Tree.br frozen
                                (Tree.need (MbD.Right (MbD.mk mr mp mt mi frozen mu wt hd))
                                  (Tree.all fun hs =>
                                    Tree.ret
                                      (SV.tup
                                        [SV.agg
                                            [SV.int IntKind.i64 mr, SV.int IntKind.i64 mp, SV.int IntKind.i64 mt,
                                              SV.int IntKind.i64 mi, SV.bool false, SV.int IntKind.i64 mu,
                                              SV.dat (D.like (hs 0 0) (D.to Int wt)), SV.dat (D.like (hs 0 1) ([] : List Int))],
                                          SV.dat (D.like (hs 0 2) (D.to Int hd)), SV.nils])))
                                (Tree.ret
                                  (SV.tup
                                    [SV.agg
                                        [SV.int IntKind.i64 mr, SV.int IntKind.i64 mp, SV.int IntKind.i64 mt,
                                          SV.int IntKind.i64 mi, SV.bool frozen, SV.int IntKind.i64 mu, SV.dat wt,
                                          SV.dat hd],
                                      SV.nils, SV.nils])))
                              (Tree.ret
                                (SV.tup
                                  [SV.agg
                                      [SV.int IntKind.i64 mr, SV.int IntKind.i64 mp, SV.int IntKind.i64 mt,
                                        SV.int IntKind.i64 mi, SV.bool frozen, SV.int IntKind.i64 mu, SV.dat wt,
                                        SV.dat hd],
                                    SV.nils, SV.nils])))
                            (Tree.ret
                              (SV.tup
                                [SV.agg
                                    [SV.int IntKind.i64 mr, SV.int IntKind.i64 mp, SV.int IntKind.i64 mt,
                                      SV.int IntKind.i64 mi, SV.bool frozen, SV.int IntKind.i64 mu, SV.dat wt, SV.dat hd],
                                  SV.nils, SV.nils]))))
                        (Tree.br (decide (mk = 24))
                          (Tree.br (decide (mn = mr))
                            (Tree.br frozen
                              (Tree.need (MbD.Right (MbD.mk mr mp mt mi frozen mu wt hd))
                                (Tree.all fun hs =>
                                  Tree.ret
                                    (SV.tup
                                      [SV.agg
                                          [SV.int IntKind.i64 mr, SV.int IntKind.i64 mp, SV.int IntKind.i64 mt,
                                            SV.int IntKind.i64 mi, SV.bool false, SV.int IntKind.i64 mu,
                                            SV.dat (D.like (hs 0 0) (D.to Int wt)), SV.dat (D.like (hs 0 1) ([] : List Int))],
                                        SV.dat (D.like (hs 0 2) (D.to Int hd)), SV.nils])))
                              (Tree.ret
                                (SV.tup
                                  [SV.agg
                                      [SV.int IntKind.i64 mr, SV.int IntKind.i64 mp, SV.int IntKind.i64 mt,
                                        SV.int IntKind.i64 mi, SV.bool frozen, SV.int IntKind.i64 mu, SV.dat wt,
                                        SV.dat hd],
                                    SV.nils, SV.nils])))
                            (Tree.ret
                              (SV.tup
                                [SV.agg
                                    [SV.int IntKind.i64 mr, SV.int IntKind.i64 mp, SV.int IntKind.i64 mt,
                                      SV.int IntKind.i64 mi, SV.bool frozen, SV.int IntKind.i64 mu, SV.dat wt, SV.dat hd],
                                  SV.nils, SV.nils])))
                          (Tree.ret
                            (SV.tup
                              [SV.agg
                                  [SV.int IntKind.i64 mr, SV.int IntKind.i64 mp, SV.int IntKind.i64 mt,
                                    SV.int IntKind.i64 mi, SV.bool frozen, SV.int IntKind.i64 mu, SV.dat wt, SV.dat hd],
                                SV.nils, SV.nils]))))))
                  (Tree.br (decide (mk = 3))
                    (Tree.br (decide (mn = mr))
                      (Tree.need (MbD.Right (MbD.mk mr mp mt mi frozen mu wt hd))
                        (Tree.all fun hs =>
                          Tree.ret
                            (SV.tup
                              [SV.agg
                                  [SV.int IntKind.i64
                                      (Mb.round
                                        (Prod.fst
                                          (endMb (MbD.mb (MbD.mk mr mp mt mi frozen mu wt hd))
                                            (if 1073741824 < if 0 > now then 0 else now then 1073741824
                                            else if 0 > now then 0 else now)
                                            (MsgD.msg (MsgD.mk mk mf mto mn mv me ml mb))))),
                                    SV.int IntKind.i64
                                      (Mb.position
                                        (Prod.fst
                                          (endMb (MbD.mb (MbD.mk mr mp mt mi frozen mu wt hd))
                                            (if 1073741824 < if 0 > now then 0 else now then 1073741824
                                            else if 0 > now then 0 else now)
                                            (MsgD.msg (MsgD.mk mk mf mto mn mv me ml mb))))),
                                    SV.int IntKind.i64
                                      (Mb.thawed
                                        (Prod.fst
                                          (endMb (MbD.mb (MbD.mk mr mp mt mi frozen mu wt hd))
                                            (if 1073741824 < if 0 > now then 0 else now then 1073741824
                                            else if 0 > now then 0 else now)
                                            (MsgD.msg (MsgD.mk mk mf mto mn mv me ml mb))))),
                                    SV.int IntKind.i64
                                      (Mb.issued
                                        (Prod.fst
                                          (endMb (MbD.mb (MbD.mk mr mp mt mi frozen mu wt hd))
                                            (if 1073741824 < if 0 > now then 0 else now then 1073741824
                                            else if 0 > now then 0 else now)
                                            (MsgD.msg (MsgD.mk mk mf mto mn mv me ml mb))))),
                                    SV.bool
                                      (Mb.frozen
                                        (Prod.fst
                                          (endMb (MbD.mb (MbD.mk mr mp mt mi frozen mu wt hd))
                                            (if 1073741824 < if 0 > now then 0 else now then 1073741824
                                            else if 0 > now then 0 else now)
                                            (MsgD.msg (MsgD.mk mk mf mto mn mv me ml mb))))),
                                    SV.int IntKind.i64
                                      (Mb.upto
                                        (Prod.fst
                                          (endMb (MbD.mb (MbD.mk mr mp mt mi frozen mu wt hd))
                                            (if 1073741824 < if 0 > now then 0 else now then 1073741824
                                            else if 0 > now then 0 else now)
                                            (MsgD.msg (MsgD.mk mk mf mto mn mv me ml mb))))),
                                    SV.dat
                                      (D.like (hs 0 0)
                                        (Mb.waiting
                                          (Prod.fst
                                            (endMb (MbD.mb (MbD.mk mr mp mt mi frozen mu wt hd))
                                              (if 1073741824 < if 0 > now then 0 else now then 1073741824
                                              else if 0 > now then 0 else now)
                                              (MsgD.msg (MsgD.mk mk mf mto mn mv me ml mb)))))),
                                    SV.dat
                                      (D.like (hs 0 1)
                                        (Mb.held
                                          (Prod.fst
                                            (endMb (MbD.mb (MbD.mk mr mp mt mi frozen mu wt hd))
                                              (if 1073741824 < if 0 > now then 0 else now then 1073741824
                                              else if 0 > now then 0 else now)
                                              (MsgD.msg (MsgD.mk mk mf mto mn mv me ml mb))))))],
                                SV.dat
                                  (D.like (hs 0 2)
                                    (Prod.fst
                                      (Prod.snd
                                        (endMb (MbD.mb (MbD.mk mr mp mt mi frozen mu wt hd))
                                          (if 1073741824 < if 0 > now then 0 else now then 1073741824
                                          else if 0 > now then 0 else now)
                                          (MsgD.msg (MsgD.mk mk mf mto mn mv me ml mb)))))),
                                SV.dat
                                  (D.like (hs 0 3)
                                    (Prod.snd
                                      (Prod.snd
                                        (endMb (MbD.mb (MbD.mk mr mp mt mi frozen mu wt hd))
                                          (if 1073741824 < if 0 > now then 0 else now then 1073741824
                                          else if 0 > now then 0 else now)
                                          (MsgD.msg (MsgD.mk mk mf mto mn mv me ml mb))))))])))
                      (Tree.br (decide (mk = 3))
                        (Tree.br (decide (mn > mr))
                          (Tree.all fun hs =>
                            Tree.ret
                              (SV.tup
                                [SV.agg
                                    [SV.int IntKind.i64 mr, SV.int IntKind.i64 mp, SV.int IntKind.i64 mt,
                                      SV.int IntKind.i64 mi, SV.bool frozen, SV.int IntKind.i64 mu, SV.dat wt, SV.dat hd],
                                  SV.nils,
                                  SV.dat (D.like (hs 2 0) (ansTo (MsgD.msg (MsgD.mk mk mf mto mn mv me ml mb)) 4 0))]))
                          (Tree.br (decide (mk = 24))
                            (Tree.br (decide (mn = mr))
                              (Tree.br frozen
                                (Tree.need (MbD.Right (MbD.mk mr mp mt mi frozen mu wt hd))
                                  (Tree.all fun hs =>
                                    Tree.ret
                                      (SV.tup
                                        [SV.agg
                                            [SV.int IntKind.i64 mr, SV.int IntKind.i64 mp, SV.int IntKind.i64 mt,
                                              SV.int IntKind.i64 mi, SV.bool false, SV.int IntKind.i64 mu,
                                              SV.dat (D.like (hs 0 0) (D.to Int wt)), SV.dat (D.like (hs 0 1) ([] : List Int))],
                                          SV.dat (D.like (hs 0 2) (D.to Int hd)), SV.nils])))
                                (Tree.ret
                                  (SV.tup
                                    [SV.agg
                                        [SV.int IntKind.i64 mr, SV.int IntKind.i64 mp, SV.int IntKind.i64 mt,
                                          SV.int IntKind.i64 mi, SV.bool frozen, SV.int IntKind.i64 mu, SV.dat wt,
                                          SV.dat hd],
                                      SV.nils, SV.nils])))
                              (Tree.ret
                                (SV.tup
                                  [SV.agg
                                      [SV.int IntKind.i64 mr, SV.int IntKind.i64 mp, SV.int IntKind.i64 mt,
                                        SV.int IntKind.i64 mi, SV.bool frozen, SV.int IntKind.i64 mu, SV.dat wt,
                                        SV.dat hd],
                                    SV.nils, SV.nils])))
                            (Tree.ret
                              (SV.tup
                                [SV.agg
                                    [SV.int IntKind.i64 mr, SV.int IntKind.i64 mp, SV.int IntKind.i64 mt,
                                      SV.int IntKind.i64 mi, SV.bool frozen, SV.int IntKind.i64 mu, SV.dat wt, SV.dat hd],
                                  SV.nils, SV.nils]))))
                        (Tree.br (decide (mk = 24))
                          (Tree.br (decide (mn = mr))
                            (Tree.br frozen
                              (Tree.need (MbD.Right (MbD.mk mr mp mt mi frozen mu wt hd))
                                (Tree.all fun hs =>
                                  Tree.ret
                                    (SV.tup
                                      [SV.agg
                                          [SV.int IntKind.i64 mr, SV.int IntKind.i64 mp, SV.int IntKind.i64 mt,
                                            SV.int IntKind.i64 mi, SV.bool false, SV.int IntKind.i64 mu,
                                            SV.dat (D.like (hs 0 0) (D.to Int wt)), SV.dat (D.like (hs 0 1) ([] : List Int))],
                                        SV.dat (D.like (hs 0 2) (D.to Int hd)), SV.nils])))
                              (Tree.ret
                                (SV.tup
                                  [SV.agg
                                      [SV.int IntKind.i64 mr, SV.int IntKind.i64 mp, SV.int IntKind.i64 mt,
                                        SV.int IntKind.i64 mi, SV.bool frozen, SV.int IntKind.i64 mu, SV.dat wt,
                                        SV.dat hd],
                                    SV.nils, SV.nils])))
                            (Tree.ret
                              (SV.tup
                                [SV.agg
                                    [SV.int IntKind.i64 mr, SV.int IntKind.i64 mp, SV.int IntKind.i64 mt,
                                      SV.int IntKind.i64 mi, SV.bool frozen, SV.int IntKind.i64 mu, SV.dat wt, SV.dat hd],
                                  SV.nils, SV.nils])))
                          (Tree.ret
                            (SV.tup
                              [SV.agg
                                  [SV.int IntKind.i64 mr, SV.int IntKind.i64 mp, SV.int IntKind.i64 mt,
                                    SV.int IntKind.i64 mi, SV.bool frozen, SV.int IntKind.i64 mu, SV.dat wt, SV.dat hd],
                                SV.nils, SV.nils])))))
                    (Tree.br (decide (mk = 3))
                      (Tree.br (decide (mn > mr))
                        (Tree.all fun hs =>
                          Tree.ret
                            (SV.tup
                              [SV.agg
                                  [SV.int IntKind.i64 mr, SV.int IntKind.i64 mp, SV.int IntKind.i64 mt,
                                    SV.int IntKind.i64 mi, SV.bool frozen, SV.int IntKind.i64 mu, SV.dat wt, SV.dat hd],
                                SV.nils,
                                SV.dat (D.like (hs 2 0) (ansTo (MsgD.msg (MsgD.mk mk mf mto mn mv me ml mb)) 4 0))]))
                        (Tree.br (decide (mk = 24))
                          (Tree.br (decide (mn = mr))
                            (Tree.br frozen
                              (Tree.need (MbD.Right (MbD.mk mr mp mt mi frozen mu wt hd))
                                (Tree.all fun hs =>
                                  Tree.ret
                                    (SV.tup
                                      [SV.agg
                                          [SV.int IntKind.i64 mr, SV.int IntKind.i64 mp, SV.int IntKind.i64 mt,
                                            SV.int IntKind.i64 mi, SV.bool false, SV.int IntKind.i64 mu,
                                            SV.dat (D.like (hs 0 0) (D.to Int wt)), SV.dat (D.like (hs 0 1) ([] : List Int))],
                                        SV.dat (D.like (hs 0 2) (D.to Int hd)), SV.nils])))
                              (Tree.ret
                                (SV.tup
                                  [SV.agg
                                      [SV.int IntKind.i64 mr, SV.int IntKind.i64 mp, SV.int IntKind.i64 mt,
                                        SV.int IntKind.i64 mi, SV.bool frozen, SV.int IntKind.i64 mu, SV.dat wt,
                                        SV.dat hd],
                                    SV.nils, SV.nils])))
                            (Tree.ret
                              (SV.tup
                                [SV.agg
                                    [SV.int IntKind.i64 mr, SV.int IntKind.i64 mp, SV.int IntKind.i64 mt,
                                      SV.int IntKind.i64 mi, SV.bool frozen, SV.int IntKind.i64 mu, SV.dat wt, SV.dat hd],
                                  SV.nils, SV.nils])))
                          (Tree.ret
                            (SV.tup
                              [SV.agg
                                  [SV.int IntKind.i64 mr, SV.int IntKind.i64 mp, SV.int IntKind.i64 mt,
                                    SV.int IntKind.i64 mi, SV.bool frozen, SV.int IntKind.i64 mu, SV.dat wt, SV.dat hd],
                                SV.nils, SV.nils]))))
                      (Tree.br (decide (mk = 24))
                        (Tree.br (decide (mn = mr))
                          (Tree.br frozen
                            (Tree.need (MbD.Right (MbD.mk mr mp mt mi frozen mu wt hd))
                              (Tree.all fun hs =>
                                Tree.ret
                                  (SV.tup
                                    [SV.agg
                                        [SV.int IntKind.i64 mr, SV.int IntKind.i64 mp, SV.int IntKind.i64 mt,
                                          SV.int IntKind.i64 mi, SV.bool false, SV.int IntKind.i64 mu,
                                          SV.dat (D.like (hs 0 0) (D.to Int wt)), SV.dat (D.like (hs 0 1) ([] : List Int))],
                                      SV.dat (D.like (hs 0 2) (D.to Int hd)), SV.nils])))
                            (Tree.ret
                              (SV.tup
                                [SV.agg
                                    [SV.int IntKind.i64 mr, SV.int IntKind.i64 mp, SV.int IntKind.i64 mt,
                                      SV.int IntKind.i64 mi, SV.bool frozen, SV.int IntKind.i64 mu, SV.dat wt, SV.dat hd],
                                  SV.nils, SV.nils])))
                          (Tree.ret
                            (SV.tup
                              [SV.agg
                                  [SV.int IntKind.i64 mr, SV.int IntKind.i64 mp, SV.int IntKind.i64 mt,
                                    SV.int IntKind.i64 mi, SV.bool frozen, SV.int IntKind.i64 mu, SV.dat wt, SV.dat hd],
                                SV.nils, SV.nils])))
                        (Tree.ret
                          (SV.tup
                            [SV.agg
                                [SV.int IntKind.i64 mr, SV.int IntKind.i64 mp, SV.int IntKind.i64 mt,
                                  SV.int IntKind.i64 mi, SV.bool frozen, SV.int IntKind.i64 mu, SV.dat wt, SV.dat hd],
                              SV.nils, SV.nils]))))))
                (Tree.br (decide (mk = 3))
                  (Tree.br (decide (mn = mr))
                    (Tree.need (MbD.Right (MbD.mk mr mp mt mi frozen mu wt hd))
                      (Tree.all fun hs =>
                        Tree.ret
                          (SV.tup
                            [SV.agg
                                [SV.int IntKind.i64
                                    (Mb.round
                                      (Prod.fst
                                        (endMb (MbD.mb (MbD.mk mr mp mt mi frozen mu wt hd))
                                          (if 1073741824 < if 0 > now then 0 else now then 1073741824
                                          else if 0 > now then 0 else now)
                                          (MsgD.msg (MsgD.mk mk mf mto mn mv me ml mb))))),
                                  SV.int IntKind.i64
                                    (Mb.position
                                      (Prod.fst
                                        (endMb (MbD.mb (MbD.mk mr mp mt mi frozen mu wt hd))
                                          (if 1073741824 < if 0 > now then 0 else now then 1073741824
                                          else if 0 > now then 0 else now)
                                          (MsgD.msg (MsgD.mk mk mf mto mn mv me ml mb))))),
                                  SV.int IntKind.i64
                                    (Mb.thawed
                                      (Prod.fst
                                        (endMb (MbD.mb (MbD.mk mr mp mt mi frozen mu wt hd))
                                          (if 1073741824 < if 0 > now then 0 else now then 1073741824
                                          else if 0 > now then 0 else now)
                                          (MsgD.msg (MsgD.mk mk mf mto mn mv me ml mb))))),
                                  SV.int IntKind.i64
                                    (Mb.issued
                                      (Prod.fst
                                        (endMb (MbD.mb (MbD.mk mr mp mt mi frozen mu wt hd))
                                          (if 1073741824 < if 0 > now then 0 else now then 1073741824
                                          else if 0 > now then 0 else now)
                                          (MsgD.msg (MsgD.mk mk mf mto mn mv me ml mb))))),
                                  SV.bool
                                    (Mb.frozen
                                      (Prod.fst
                                        (endMb (MbD.mb (MbD.mk mr mp mt mi frozen mu wt hd))
                                          (if 1073741824 < if 0 > now then 0 else now then 1073741824
                                          else if 0 > now then 0 else now)
                                          (MsgD.msg (MsgD.mk mk mf mto mn mv me ml mb))))),
                                  SV.int IntKind.i64
                                    (Mb.upto
                                      (Prod.fst
                                        (endMb (MbD.mb (MbD.mk mr mp mt mi frozen mu wt hd))
                                          (if 1073741824 < if 0 > now then 0 else now then 1073741824
                                          else if 0 > now then 0 else now)
                                          (MsgD.msg (MsgD.mk mk mf mto mn mv me ml mb))))),
                                  SV.dat
                                    (D.like (hs 0 0)
                                      (Mb.waiting
                                        (Prod.fst
                                          (endMb (MbD.mb (MbD.mk mr mp mt mi frozen mu wt hd))
                                            (if 1073741824 < if 0 > now then 0 else now then 1073741824
                                            else if 0 > now then 0 else now)
                                            (MsgD.msg (MsgD.mk mk mf mto mn mv me ml mb)))))),
                                  SV.dat
                                    (D.like (hs 0 1)
                                      (Mb.held
                                        (Prod.fst
                                          (endMb (MbD.mb (MbD.mk mr mp mt mi frozen mu wt hd))
                                            (if 1073741824 < if 0 > now then 0 else now then 1073741824
                                            else if 0 > now then 0 else now)
                                            (MsgD.msg (MsgD.mk mk mf mto mn mv me ml mb))))))],
                              SV.dat
                                (D.like (hs 0 2)
                                  (Prod.fst
                                    (Prod.snd
                                      (endMb (MbD.mb (MbD.mk mr mp mt mi frozen mu wt hd))
                                        (if 1073741824 < if 0 > now then 0 else now then 1073741824
                                        else if 0 > now then 0 else now)
                                        (MsgD.msg (MsgD.mk mk mf mto mn mv me ml mb)))))),
                              SV.dat
                                (D.like (hs 0 3)
                                  (Prod.snd
                                    (Prod.snd
                                      (endMb (MbD.mb (MbD.mk mr mp mt mi frozen mu wt hd))
                                        (if 1073741824 < if 0 > now then 0 else now then 1073741824
                                        else if 0 > now then 0 else now)
                                        (MsgD.msg (MsgD.mk mk mf mto mn mv me ml mb))))))])))
                    (Tree.br (decide (mk = 3))
                      (Tree.br (decide (mn > mr))
                        (Tree.all fun hs =>
                          Tree.ret
                            (SV.tup
                              [SV.agg
                                  [SV.int IntKind.i64 mr, SV.int IntKind.i64 mp, SV.int IntKind.i64 mt,
                                    SV.int IntKind.i64 mi, SV.bool frozen, SV.int IntKind.i64 mu, SV.dat wt, SV.dat hd],
                                SV.nils,
                                SV.dat (D.like (hs 2 0) (ansTo (MsgD.msg (MsgD.mk mk mf mto mn mv me ml mb)) 4 0))]))
                        (Tree.br (decide (mk = 24))
                          (Tree.br (decide (mn = mr))
                            (Tree.br frozen
                              (Tree.need (MbD.Right (MbD.mk mr mp mt mi frozen mu wt hd))
                                (Tree.all fun hs =>
                                  Tree.ret
                                    (SV.tup
                                      [SV.agg
                                          [SV.int IntKind.i64 mr, SV.int IntKind.i64 mp, SV.int IntKind.i64 mt,
                                            SV.int IntKind.i64 mi, SV.bool false, SV.int IntKind.i64 mu,
                                            SV.dat (D.like (hs 0 0) (D.to Int wt)), SV.dat (D.like (hs 0 1) ([] : List Int))],
                                        SV.dat (D.like (hs 0 2) (D.to Int hd)), SV.nils])))
                              (Tree.ret
                                (SV.tup
                                  [SV.agg
                                      [SV.int IntKind.i64 mr, SV.int IntKind.i64 mp, SV.int IntKind.i64 mt,
                                        SV.int IntKind.i64 mi, SV.bool frozen, SV.int IntKind.i64 mu, SV.dat wt,
                                        SV.dat hd],
                                    SV.nils, SV.nils])))
                            (Tree.ret
                              (SV.tup
                                [SV.agg
                                    [SV.int IntKind.i64 mr, SV.int IntKind.i64 mp, SV.int IntKind.i64 mt,
                                      SV.int IntKind.i64 mi, SV.bool frozen, SV.int IntKind.i64 mu, SV.dat wt, SV.dat hd],
                                  SV.nils, SV.nils])))
                          (Tree.ret
                            (SV.tup
                              [SV.agg
                                  [SV.int IntKind.i64 mr, SV.int IntKind.i64 mp, SV.int IntKind.i64 mt,
                                    SV.int IntKind.i64 mi, SV.bool frozen, SV.int IntKind.i64 mu, SV.dat wt, SV.dat hd],
                                SV.nils, SV.nils]))))
                      (Tree.br (decide (mk = 24))
                        (Tree.br (decide (mn = mr))
                          (Tree.br frozen
                            (Tree.need (MbD.Right (MbD.mk mr mp mt mi frozen mu wt hd))
                              (Tree.all fun hs =>
                                Tree.ret
                                  (SV.tup
                                    [SV.agg
                                        [SV.int IntKind.i64 mr, SV.int IntKind.i64 mp, SV.int IntKind.i64 mt,
                                          SV.int IntKind.i64 mi, SV.bool false, SV.int IntKind.i64 mu,
                                          SV.dat (D.like (hs 0 0) (D.to Int wt)), SV.dat (D.like (hs 0 1) ([] : List Int))],
                                      SV.dat (D.like (hs 0 2) (D.to Int hd)), SV.nils])))
                            (Tree.ret
                              (SV.tup
                                [SV.agg
                                    [SV.int IntKind.i64 mr, SV.int IntKind.i64 mp, SV.int IntKind.i64 mt,
                                      SV.int IntKind.i64 mi, SV.bool frozen, SV.int IntKind.i64 mu, SV.dat wt, SV.dat hd],
                                  SV.nils, SV.nils])))
                          (Tree.ret
                            (SV.tup
                              [SV.agg
                                  [SV.int IntKind.i64 mr, SV.int IntKind.i64 mp, SV.int IntKind.i64 mt,
                                    SV.int IntKind.i64 mi, SV.bool frozen, SV.int IntKind.i64 mu, SV.dat wt, SV.dat hd],
                                SV.nils, SV.nils])))
                        (Tree.ret
                          (SV.tup
                            [SV.agg
                                [SV.int IntKind.i64 mr, SV.int IntKind.i64 mp, SV.int IntKind.i64 mt,
                                  SV.int IntKind.i64 mi, SV.bool frozen, SV.int IntKind.i64 mu, SV.dat wt, SV.dat hd],
                              SV.nils, SV.nils])))))
                  (Tree.br (decide (mk = 3))
                    (Tree.br (decide (mn > mr))
                      (Tree.all fun hs =>
                        Tree.ret
                          (SV.tup
                            [SV.agg
                                [SV.int IntKind.i64 mr, SV.int IntKind.i64 mp, SV.int IntKind.i64 mt,
                                  SV.int IntKind.i64 mi, SV.bool frozen, SV.int IntKind.i64 mu, SV.dat wt, SV.dat hd],
                              SV.nils,
                              SV.dat (D.like (hs 2 0) (ansTo (MsgD.msg (MsgD.mk mk mf mto mn mv me ml mb)) 4 0))]))
                      (Tree.br (decide (mk = 24))
                        (Tree.br (decide (mn = mr))
                          (Tree.br frozen
                            (Tree.need (MbD.Right (MbD.mk mr mp mt mi frozen mu wt hd))
                              (Tree.all fun hs =>
                                Tree.ret
                                  (SV.tup
                                    [SV.agg
                                        [SV.int IntKind.i64 mr, SV.int IntKind.i64 mp, SV.int IntKind.i64 mt,
                                          SV.int IntKind.i64 mi, SV.bool false, SV.int IntKind.i64 mu,
                                          SV.dat (D.like (hs 0 0) (D.to Int wt)), SV.dat (D.like (hs 0 1) ([] : List Int))],
                                      SV.dat (D.like (hs 0 2) (D.to Int hd)), SV.nils])))
                            (Tree.ret
                              (SV.tup
                                [SV.agg
                                    [SV.int IntKind.i64 mr, SV.int IntKind.i64 mp, SV.int IntKind.i64 mt,
                                      SV.int IntKind.i64 mi, SV.bool frozen, SV.int IntKind.i64 mu, SV.dat wt, SV.dat hd],
                                  SV.nils, SV.nils])))
                          (Tree.ret
                            (SV.tup
                              [SV.agg
                                  [SV.int IntKind.i64 mr, SV.int IntKind.i64 mp, SV.int IntKind.i64 mt,
                                    SV.int IntKind.i64 mi, SV.bool frozen, SV.int IntKind.i64 mu, SV.dat wt, SV.dat hd],
                                SV.nils, SV.nils])))
                        (Tree.ret
                          (SV.tup
                            [SV.agg
                                [SV.int IntKind.i64 mr, SV.int IntKind.i64 mp, SV.int IntKind.i64 mt,
                                  SV.int IntKind.i64 mi, SV.bool frozen, SV.int IntKind.i64 mu, SV.dat wt, SV.dat hd],
                              SV.nils, SV.nils]))))
                    (Tree.br (decide (mk = 24))
                      (Tree.br (decide (mn = mr))
                        (Tree.br frozen
                          (Tree.need (MbD.Right (MbD.mk mr mp mt mi frozen mu wt hd))
                            (Tree.all fun hs =>
                              Tree.ret
                                (SV.tup
                                  [SV.agg
                                      [SV.int IntKind.i64 mr, SV.int IntKind.i64 mp, SV.int IntKind.i64 mt,
                                        SV.int IntKind.i64 mi, SV.bool false, SV.int IntKind.i64 mu,
                                        SV.dat (D.like (hs 0 0) (D.to Int wt)), SV.dat (D.like (hs 0 1) ([] : List Int))],
                                    SV.dat (D.like (hs 0 2) (D.to Int hd)), SV.nils])))
                          (Tree.ret
                            (SV.tup
                              [SV.agg
                                  [SV.int IntKind.i64 mr, SV.int IntKind.i64 mp, SV.int IntKind.i64 mt,
                                    SV.int IntKind.i64 mi, SV.bool frozen, SV.int IntKind.i64 mu, SV.dat wt, SV.dat hd],
                                SV.nils, SV.nils])))
                        (Tree.ret
                          (SV.tup
                            [SV.agg
                                [SV.int IntKind.i64 mr, SV.int IntKind.i64 mp, SV.int IntKind.i64 mt,
                                  SV.int IntKind.i64 mi, SV.bool frozen, SV.int IntKind.i64 mu, SV.dat wt, SV.dat hd],
                              SV.nils, SV.nils])))
                      (Tree.ret
                        (SV.tup
                          [SV.agg
                              [SV.int IntKind.i64 mr, SV.int IntKind.i64 mp, SV.int IntKind.i64 mt, SV.int IntKind.i64 mi,
                                SV.bool frozen, SV.int IntKind.i64 mu, SV.dat wt, SV.dat hd],
                            SV.nils, SV.nils])))))))
            (Tree.br (decide (mk = 1))
              (Tree.br (decide (mn = mr))
                (Tree.br frozen
                  (Tree.all fun hs =>
                    Tree.ret
                      (SV.tup
                        [SV.agg
                            [SV.int IntKind.i64 mr, SV.int IntKind.i64 mp, SV.int IntKind.i64 mt, SV.int IntKind.i64 mi,
                              SV.bool frozen, SV.int IntKind.i64 mu, SV.dat wt, SV.dat hd],
                          SV.nils, SV.dat (D.like (hs 4 0) (ansTo (MsgD.msg (MsgD.mk mk mf mto mn mv me ml mb)) 2 mp))]))
                  (Tree.br (decide (mk = 3))
                    (Tree.br (decide (mn = mr))
                      (Tree.need (MbD.Right (MbD.mk mr mp mt mi frozen mu wt hd))
                        (Tree.all fun hs =>
                          Tree.ret
                            (SV.tup
                              [SV.agg
                                  [SV.int IntKind.i64
                                      (Mb.round
                                        (Prod.fst
                                          (endMb (MbD.mb (MbD.mk mr mp mt mi frozen mu wt hd))
                                            (if 1073741824 < if 0 > now then 0 else now then 1073741824
                                            else if 0 > now then 0 else now)
                                            (MsgD.msg (MsgD.mk mk mf mto mn mv me ml mb))))),
                                    SV.int IntKind.i64
                                      (Mb.position
                                        (Prod.fst
                                          (endMb (MbD.mb (MbD.mk mr mp mt mi frozen mu wt hd))
                                            (if 1073741824 < if 0 > now then 0 else now then 1073741824
                                            else if 0 > now then 0 else now)
                                            (MsgD.msg (MsgD.mk mk mf mto mn mv me ml mb))))),
                                    SV.int IntKind.i64
                                      (Mb.thawed
                                        (Prod.fst
                                          (endMb (MbD.mb (MbD.mk mr mp mt mi frozen mu wt hd))
                                            (if 1073741824 < if 0 > now then 0 else now then 1073741824
                                            else if 0 > now then 0 else now)
                                            (MsgD.msg (MsgD.mk mk mf mto mn mv me ml mb))))),
                                    SV.int IntKind.i64
                                      (Mb.issued
                                        (Prod.fst
                                          (endMb (MbD.mb (MbD.mk mr mp mt mi frozen mu wt hd))
                                            (if 1073741824 < if 0 > now then 0 else now then 1073741824
                                            else if 0 > now then 0 else now)
                                            (MsgD.msg (MsgD.mk mk mf mto mn mv me ml mb))))),
                                    SV.bool
                                      (Mb.frozen
                                        (Prod.fst
                                          (endMb (MbD.mb (MbD.mk mr mp mt mi frozen mu wt hd))
                                            (if 1073741824 < if 0 > now then 0 else now then 1073741824
                                            else if 0 > now then 0 else now)
                                            (MsgD.msg (MsgD.mk mk mf mto mn mv me ml mb))))),
                                    SV.int IntKind.i64
                                      (Mb.upto
                                        (Prod.fst
                                          (endMb (MbD.mb (MbD.mk mr mp mt mi frozen mu wt hd))
                                            (if 1073741824 < if 0 > now then 0 else now then 1073741824
                                            else if 0 > now then 0 else now)
                                            (MsgD.msg (MsgD.mk mk mf mto mn mv me ml mb))))),
                                    SV.dat
                                      (D.like (hs 0 0)
                                        (Mb.waiting
                                          (Prod.fst
                                            (endMb (MbD.mb (MbD.mk mr mp mt mi frozen mu wt hd))
                                              (if 1073741824 < if 0 > now then 0 else now then 1073741824
                                              else if 0 > now then 0 else now)
                                              (MsgD.msg (MsgD.mk mk mf mto mn mv me ml mb)))))),
                                    SV.dat
                                      (D.like (hs 0 1)
                                        (Mb.held
                                          (Prod.fst
                                            (endMb (MbD.mb (MbD.mk mr mp mt mi frozen mu wt hd))
                                              (if 1073741824 < if 0 > now then 0 else now then 1073741824
                                              else if 0 > now then 0 else now)
                                              (MsgD.msg (MsgD.mk mk mf mto mn mv me ml mb))))))],
                                SV.dat
                                  (D.like (hs 0 2)
                                    (Prod.fst
                                      (Prod.snd
                                        (endMb (MbD.mb (MbD.mk mr mp mt mi frozen mu wt hd))
                                          (if 1073741824 < if 0 > now then 0 else now then 1073741824
                                          else if 0 > now then 0 else now)
                                          (MsgD.msg (MsgD.mk mk mf mto mn mv me ml mb)))))),
                                SV.dat
                                  (D.like (hs 0 3)
                                    (Prod.snd
                                      (Prod.snd
                                        (endMb (MbD.mb (MbD.mk mr mp mt mi frozen mu wt hd))
                                          (if 1073741824 < if 0 > now then 0 else now then 1073741824
                                          else if 0 > now then 0 else now)
                                          (MsgD.msg (MsgD.mk mk mf mto mn mv me ml mb))))))])))
                      (Tree.br (decide (mk = 3))
                        (Tree.br (decide (mn > mr))
                          (Tree.all fun hs =>
                            Tree.ret
                              (SV.tup
                                [SV.agg
                                    [SV.int IntKind.i64 mr, SV.int IntKind.i64 mp, SV.int IntKind.i64 mt,
                                      SV.int IntKind.i64 mi, SV.bool frozen, SV.int IntKind.i64 mu, SV.dat wt, SV.dat hd],
                                  SV.nils,
                                  SV.dat (D.like (hs 2 0) (ansTo (MsgD.msg (MsgD.mk mk mf mto mn mv me ml mb)) 4 0))]))
                          (Tree.br (decide (mk = 24))
                            (Tree.br (decide (mn = mr))
                              (Tree.br frozen
                                (Tree.need (MbD.Right (MbD.mk mr mp mt mi frozen mu wt hd))
                                  (Tree.all fun hs =>
                                    Tree.ret
                                      (SV.tup
                                        [SV.agg
                                            [SV.int IntKind.i64 mr, SV.int IntKind.i64 mp, SV.int IntKind.i64 mt,
                                              SV.int IntKind.i64 mi, SV.bool false, SV.int IntKind.i64 mu,
                                              SV.dat (D.like (hs 0 0) (D.to Int wt)), SV.dat (D.like (hs 0 1) ([] : List Int))],
                                          SV.dat (D.like (hs 0 2) (D.to Int hd)), SV.nils])))
                                (Tree.ret
                                  (SV.tup
                                    [SV.agg
                                        [SV.int IntKind.i64 mr, SV.int IntKind.i64 mp, SV.int IntKind.i64 mt,
                                          SV.int IntKind.i64 mi, SV.bool frozen, SV.int IntKind.i64 mu, SV.dat wt,
                                          SV.dat hd],
                                      SV.nils, SV.nils])))
                              (Tree.ret
                                (SV.tup
                                  [SV.agg
                                      [SV.int IntKind.i64 mr, SV.int IntKind.i64 mp, SV.int IntKind.i64 mt,
                                        SV.int IntKind.i64 mi, SV.bool frozen, SV.int IntKind.i64 mu, SV.dat wt,
                                        SV.dat hd],
                                    SV.nils, SV.nils])))
                            (Tree.ret
                              (SV.tup
                                [SV.agg
                                    [SV.int IntKind.i64 mr, SV.int IntKind.i64 mp, SV.int IntKind.i64 mt,
                                      SV.int IntKind.i64 mi, SV.bool frozen, SV.int IntKind.i64 mu, SV.dat wt, SV.dat hd],
                                  SV.nils, SV.nils]))))
                        (Tree.br (decide (mk = 24))
                          (Tree.br (decide (mn = mr))
                            (Tree.br frozen
                              (Tree.need (MbD.Right (MbD.mk mr mp mt mi frozen mu wt hd))
                                (Tree.all fun hs =>
                                  Tree.ret
                                    (SV.tup
                                      [SV.agg
                                          [SV.int IntKind.i64 mr, SV.int IntKind.i64 mp, SV.int IntKind.i64 mt,
                                            SV.int IntKind.i64 mi, SV.bool false, SV.int IntKind.i64 mu,
                                            SV.dat (D.like (hs 0 0) (D.to Int wt)), SV.dat (D.like (hs 0 1) ([] : List Int))],
                                        SV.dat (D.like (hs 0 2) (D.to Int hd)), SV.nils])))
                              (Tree.ret
                                (SV.tup
                                  [SV.agg
                                      [SV.int IntKind.i64 mr, SV.int IntKind.i64 mp, SV.int IntKind.i64 mt,
                                        SV.int IntKind.i64 mi, SV.bool frozen, SV.int IntKind.i64 mu, SV.dat wt,
                                        SV.dat hd],
                                    SV.nils, SV.nils])))
                            (Tree.ret
                              (SV.tup
                                [SV.agg
                                    [SV.int IntKind.i64 mr, SV.int IntKind.i64 mp, SV.int IntKind.i64 mt,
                                      SV.int IntKind.i64 mi, SV.bool frozen, SV.int IntKind.i64 mu, SV.dat wt, SV.dat hd],
                                  SV.nils, SV.nils])))
                          (Tree.ret
                            (SV.tup
                              [SV.agg
                                  [SV.int IntKind.i64 mr, SV.int IntKind.i64 mp, SV.int IntKind.i64 mt,
                                    SV.int IntKind.i64 mi, SV.bool frozen, SV.int IntKind.i64 mu, SV.dat wt, SV.dat hd],
                                SV.nils, SV.nils])))))
                    (Tree.br (decide (mk = 3))
                      (Tree.br (decide (mn > mr))
                        (Tree.all fun hs =>
                          Tree.ret
                            (SV.tup
                              [SV.agg
                                  [SV.int IntKind.i64 mr, SV.int IntKind.i64 mp, SV.int IntKind.i64 mt,
                                    SV.int IntKind.i64 mi, SV.bool frozen, SV.int IntKind.i64 mu, SV.dat wt, SV.dat hd],
                                SV.nils,
                                SV.dat (D.like (hs 2 0) (ansTo (MsgD.msg (MsgD.mk mk mf mto mn mv me ml mb)) 4 0))]))
                        (Tree.br (decide (mk = 24))
                          (Tree.br (decide (mn = mr))
                            (Tree.br frozen
                              (Tree.need (MbD.Right (MbD.mk mr mp mt mi frozen mu wt hd))
                                (Tree.all fun hs =>
                                  Tree.ret
                                    (SV.tup
                                      [SV.agg
                                          [SV.int IntKind.i64 mr, SV.int IntKind.i64 mp, SV.int IntKind.i64 mt,
                                            SV.int IntKind.i64 mi, SV.bool false, SV.int IntKind.i64 mu,
                                            SV.dat (D.like (hs 0 0) (D.to Int wt)), SV.dat (D.like (hs 0 1) ([] : List Int))],
                                        SV.dat (D.like (hs 0 2) (D.to Int hd)), SV.nils])))
                              (Tree.ret
                                (SV.tup
                                  [SV.agg
                                      [SV.int IntKind.i64 mr, SV.int IntKind.i64 mp, SV.int IntKind.i64 mt,
                                        SV.int IntKind.i64 mi, SV.bool frozen, SV.int IntKind.i64 mu, SV.dat wt,
                                        SV.dat hd],
                                    SV.nils, SV.nils])))
                            (Tree.ret
                              (SV.tup
                                [SV.agg
                                    [SV.int IntKind.i64 mr, SV.int IntKind.i64 mp, SV.int IntKind.i64 mt,
                                      SV.int IntKind.i64 mi, SV.bool frozen, SV.int IntKind.i64 mu, SV.dat wt, SV.dat hd],
                                  SV.nils, SV.nils])))
                          (Tree.ret
                            (SV.tup
                              [SV.agg
                                  [SV.int IntKind.i64 mr, SV.int IntKind.i64 mp, SV.int IntKind.i64 mt,
                                    SV.int IntKind.i64 mi, SV.bool frozen, SV.int IntKind.i64 mu, SV.dat wt, SV.dat hd],
                                SV.nils, SV.nils]))))
                      (Tree.br (decide (mk = 24))
                        (Tree.br (decide (mn = mr))
                          (Tree.br frozen
                            (Tree.need (MbD.Right (MbD.mk mr mp mt mi frozen mu wt hd))
                              (Tree.all fun hs =>
                                Tree.ret
                                  (SV.tup
                                    [SV.agg
                                        [SV.int IntKind.i64 mr, SV.int IntKind.i64 mp, SV.int IntKind.i64 mt,
                                          SV.int IntKind.i64 mi, SV.bool false, SV.int IntKind.i64 mu,
                                          SV.dat (D.like (hs 0 0) (D.to Int wt)), SV.dat (D.like (hs 0 1) ([] : List Int))],
                                      SV.dat (D.like (hs 0 2) (D.to Int hd)), SV.nils])))
                            (Tree.ret
                              (SV.tup
                                [SV.agg
                                    [SV.int IntKind.i64 mr, SV.int IntKind.i64 mp, SV.int IntKind.i64 mt,
                                      SV.int IntKind.i64 mi, SV.bool frozen, SV.int IntKind.i64 mu, SV.dat wt, SV.dat hd],
                                  SV.nils, SV.nils])))
                          (Tree.ret
                            (SV.tup
                              [SV.agg
                                  [SV.int IntKind.i64 mr, SV.int IntKind.i64 mp, SV.int IntKind.i64 mt,
                                    SV.int IntKind.i64 mi, SV.bool frozen, SV.int IntKind.i64 mu, SV.dat wt, SV.dat hd],
                                SV.nils, SV.nils])))
                        (Tree.ret
                          (SV.tup
                            [SV.agg
                                [SV.int IntKind.i64 mr, SV.int IntKind.i64 mp, SV.int IntKind.i64 mt,
                                  SV.int IntKind.i64 mi, SV.bool frozen, SV.int IntKind.i64 mu, SV.dat wt, SV.dat hd],
                              SV.nils, SV.nils]))))))
                (Tree.br (decide (mk = 3))
                  (Tree.br (decide (mn = mr))
                    (Tree.need (MbD.Right (MbD.mk mr mp mt mi frozen mu wt hd))
                      (Tree.all fun hs =>
                        Tree.ret
                          (SV.tup
                            [SV.agg
                                [SV.int IntKind.i64
                                    (Mb.round
                                      (Prod.fst
                                        (endMb (MbD.mb (MbD.mk mr mp mt mi frozen mu wt hd))
                                          (if 1073741824 < if 0 > now then 0 else now then 1073741824
                                          else if 0 > now then 0 else now)
                                          (MsgD.msg (MsgD.mk mk mf mto mn mv me ml mb))))),
                                  SV.int IntKind.i64
                                    (Mb.position
                                      (Prod.fst
                                        (endMb (MbD.mb (MbD.mk mr mp mt mi frozen mu wt hd))
                                          (if 1073741824 < if 0 > now then 0 else now then 1073741824
                                          else if 0 > now then 0 else now)
                                          (MsgD.msg (MsgD.mk mk mf mto mn mv me ml mb))))),
                                  SV.int IntKind.i64
                                    (Mb.thawed
                                      (Prod.fst
                                        (endMb (MbD.mb (MbD.mk mr mp mt mi frozen mu wt hd))
                                          (if 1073741824 < if 0 > now then 0 else now then 1073741824
                                          else if 0 > now then 0 else now)
                                          (MsgD.msg (MsgD.mk mk mf mto mn mv me ml mb))))),
                                  SV.int IntKind.i64
                                    (Mb.issued
                                      (Prod.fst
                                        (endMb (MbD.mb (MbD.mk mr mp mt mi frozen mu wt hd))
                                          (if 1073741824 < if 0 > now then 0 else now then 1073741824
                                          else if 0 > now then 0 else now)
                                          (MsgD.msg (MsgD.mk mk mf mto mn mv me ml mb))))),
                                  SV.bool
                                    (Mb.frozen
                                      (Prod.fst
                                        (endMb (MbD.mb (MbD.mk mr mp mt mi frozen mu wt hd))
                                          (if 1073741824 < if 0 > now then 0 else now then 1073741824
                                          else if 0 > now then 0 else now)
                                          (MsgD.msg (MsgD.mk mk mf mto mn mv me ml mb))))),
                                  SV.int IntKind.i64
                                    (Mb.upto
                                      (Prod.fst
                                        (endMb (MbD.mb (MbD.mk mr mp mt mi frozen mu wt hd))
                                          (if 1073741824 < if 0 > now then 0 else now then 1073741824
                                          else if 0 > now then 0 else now)
                                          (MsgD.msg (MsgD.mk mk mf mto mn mv me ml mb))))),
                                  SV.dat
                                    (D.like (hs 0 0)
                                      (Mb.waiting
                                        (Prod.fst
                                          (endMb (MbD.mb (MbD.mk mr mp mt mi frozen mu wt hd))
                                            (if 1073741824 < if 0 > now then 0 else now then 1073741824
                                            else if 0 > now then 0 else now)
                                            (MsgD.msg (MsgD.mk mk mf mto mn mv me ml mb)))))),
                                  SV.dat
                                    (D.like (hs 0 1)
                                      (Mb.held
                                        (Prod.fst
                                          (endMb (MbD.mb (MbD.mk mr mp mt mi frozen mu wt hd))
                                            (if 1073741824 < if 0 > now then 0 else now then 1073741824
                                            else if 0 > now then 0 else now)
                                            (MsgD.msg (MsgD.mk mk mf mto mn mv me ml mb))))))],
                              SV.dat
                                (D.like (hs 0 2)
                                  (Prod.fst
                                    (Prod.snd
                                      (endMb (MbD.mb (MbD.mk mr mp mt mi frozen mu wt hd))
                                        (if 1073741824 < if 0 > now then 0 else now then 1073741824
                                        else if 0 > now then 0 else now)
                                        (MsgD.msg (MsgD.mk mk mf mto mn mv me ml mb)))))),
                              SV.dat
                                (D.like (hs 0 3)
                                  (Prod.snd
                                    (Prod.snd
                                      (endMb (MbD.mb (MbD.mk mr mp mt mi frozen mu wt hd))
                                        (if 1073741824 < if 0 > now then 0 else now then 1073741824
                                        else if 0 > now then 0 else now)
                                        (MsgD.msg (MsgD.mk mk mf mto mn mv me ml mb))))))])))
                    (Tree.br (decide (mk = 3))
                      (Tree.br (decide (mn > mr))
                        (Tree.all fun hs =>
                          Tree.ret
                            (SV.tup
                              [SV.agg
                                  [SV.int IntKind.i64 mr, SV.int IntKind.i64 mp, SV.int IntKind.i64 mt,
                                    SV.int IntKind.i64 mi, SV.bool frozen, SV.int IntKind.i64 mu, SV.dat wt, SV.dat hd],
                                SV.nils,
                                SV.dat (D.like (hs 2 0) (ansTo (MsgD.msg (MsgD.mk mk mf mto mn mv me ml mb)) 4 0))]))
                        (Tree.br (decide (mk = 24))
                          (Tree.br (decide (mn = mr))
                            (Tree.br frozen
                              (Tree.need (MbD.Right (MbD.mk mr mp mt mi frozen mu wt hd))
                                (Tree.all fun hs =>
                                  Tree.ret
                                    (SV.tup
                                      [SV.agg
                                          [SV.int IntKind.i64 mr, SV.int IntKind.i64 mp, SV.int IntKind.i64 mt,
                                            SV.int IntKind.i64 mi, SV.bool false, SV.int IntKind.i64 mu,
                                            SV.dat (D.like (hs 0 0) (D.to Int wt)), SV.dat (D.like (hs 0 1) ([] : List Int))],
                                        SV.dat (D.like (hs 0 2) (D.to Int hd)), SV.nils])))
                              (Tree.ret
                                (SV.tup
                                  [SV.agg
                                      [SV.int IntKind.i64 mr, SV.int IntKind.i64 mp, SV.int IntKind.i64 mt,
                                        SV.int IntKind.i64 mi, SV.bool frozen, SV.int IntKind.i64 mu, SV.dat wt,
                                        SV.dat hd],
                                    SV.nils, SV.nils])))
                            (Tree.ret
                              (SV.tup
                                [SV.agg
                                    [SV.int IntKind.i64 mr, SV.int IntKind.i64 mp, SV.int IntKind.i64 mt,
                                      SV.int IntKind.i64 mi, SV.bool frozen, SV.int IntKind.i64 mu, SV.dat wt, SV.dat hd],
                                  SV.nils, SV.nils])))
                          (Tree.ret
                            (SV.tup
                              [SV.agg
                                  [SV.int IntKind.i64 mr, SV.int IntKind.i64 mp, SV.int IntKind.i64 mt,
                                    SV.int IntKind.i64 mi, SV.bool frozen, SV.int IntKind.i64 mu, SV.dat wt, SV.dat hd],
                                SV.nils, SV.nils]))))
                      (Tree.br (decide (mk = 24))
                        (Tree.br (decide (mn = mr))
                          (Tree.br frozen
                            (Tree.need (MbD.Right (MbD.mk mr mp mt mi frozen mu wt hd))
                              (Tree.all fun hs =>
                                Tree.ret
                                  (SV.tup
                                    [SV.agg
                                        [SV.int IntKind.i64 mr, SV.int IntKind.i64 mp, SV.int IntKind.i64 mt,
                                          SV.int IntKind.i64 mi, SV.bool false, SV.int IntKind.i64 mu,
                                          SV.dat (D.like (hs 0 0) (D.to Int wt)), SV.dat (D.like (hs 0 1) ([] : List Int))],
                                      SV.dat (D.like (hs 0 2) (D.to Int hd)), SV.nils])))
                            (Tree.ret
                              (SV.tup
                                [SV.agg
                                    [SV.int IntKind.i64 mr, SV.int IntKind.i64 mp, SV.int IntKind.i64 mt,
                                      SV.int IntKind.i64 mi, SV.bool frozen, SV.int IntKind.i64 mu, SV.dat wt, SV.dat hd],
                                  SV.nils, SV.nils])))
                          (Tree.ret
                            (SV.tup
                              [SV.agg
                                  [SV.int IntKind.i64 mr, SV.int IntKind.i64 mp, SV.int IntKind.i64 mt,
                                    SV.int IntKind.i64 mi, SV.bool frozen, SV.int IntKind.i64 mu, SV.dat wt, SV.dat hd],
                                SV.nils, SV.nils])))
                        (Tree.ret
                          (SV.tup
                            [SV.agg
                                [SV.int IntKind.i64 mr, SV.int IntKind.i64 mp, SV.int IntKind.i64 mt,
                                  SV.int IntKind.i64 mi, SV.bool frozen, SV.int IntKind.i64 mu, SV.dat wt, SV.dat hd],
                              SV.nils, SV.nils])))))
                  (Tree.br (decide (mk = 3))
                    (Tree.br (decide (mn > mr))
                      (Tree.all fun hs =>
                        Tree.ret
                          (SV.tup
                            [SV.agg
                                [SV.int IntKind.i64 mr, SV.int IntKind.i64 mp, SV.int IntKind.i64 mt,
                                  SV.int IntKind.i64 mi, SV.bool frozen, SV.int IntKind.i64 mu, SV.dat wt, SV.dat hd],
                              SV.nils,
                              SV.dat (D.like (hs 2 0) (ansTo (MsgD.msg (MsgD.mk mk mf mto mn mv me ml mb)) 4 0))]))
                      (Tree.br (decide (mk = 24))
                        (Tree.br (decide (mn = mr))
                          (Tree.br frozen
                            (Tree.need (MbD.Right (MbD.mk mr mp mt mi frozen mu wt hd))
                              (Tree.all fun hs =>
                                Tree.ret
                                  (SV.tup
                                    [SV.agg
                                        [SV.int IntKind.i64 mr, SV.int IntKind.i64 mp, SV.int IntKind.i64 mt,
                                          SV.int IntKind.i64 mi, SV.bool false, SV.int IntKind.i64 mu,
                                          SV.dat (D.like (hs 0 0) (D.to Int wt)), SV.dat (D.like (hs 0 1) ([] : List Int))],
                                      SV.dat (D.like (hs 0 2) (D.to Int hd)), SV.nils])))
                            (Tree.ret
                              (SV.tup
                                [SV.agg
                                    [SV.int IntKind.i64 mr, SV.int IntKind.i64 mp, SV.int IntKind.i64 mt,
                                      SV.int IntKind.i64 mi, SV.bool frozen, SV.int IntKind.i64 mu, SV.dat wt, SV.dat hd],
                                  SV.nils, SV.nils])))
                          (Tree.ret
                            (SV.tup
                              [SV.agg
                                  [SV.int IntKind.i64 mr, SV.int IntKind.i64 mp, SV.int IntKind.i64 mt,
                                    SV.int IntKind.i64 mi, SV.bool frozen, SV.int IntKind.i64 mu, SV.dat wt, SV.dat hd],
                                SV.nils, SV.nils])))
                        (Tree.ret
                          (SV.tup
                            [SV.agg
                                [SV.int IntKind.i64 mr, SV.int IntKind.i64 mp, SV.int IntKind.i64 mt,
                                  SV.int IntKind.i64 mi, SV.bool frozen, SV.int IntKind.i64 mu, SV.dat wt, SV.dat hd],
                              SV.nils, SV.nils]))))
                    (Tree.br (decide (mk = 24))
                      (Tree.br (decide (mn = mr))
                        (Tree.br frozen
                          (Tree.need (MbD.Right (MbD.mk mr mp mt mi frozen mu wt hd))
                            (Tree.all fun hs =>
                              Tree.ret
                                (SV.tup
                                  [SV.agg
                                      [SV.int IntKind.i64 mr, SV.int IntKind.i64 mp, SV.int IntKind.i64 mt,
                                        SV.int IntKind.i64 mi, SV.bool false, SV.int IntKind.i64 mu,
                                        SV.dat (D.like (hs 0 0) (D.to Int wt)), SV.dat (D.like (hs 0 1) ([] : List Int))],
                                    SV.dat (D.like (hs 0 2) (D.to Int hd)), SV.nils])))
                          (Tree.ret
                            (SV.tup
                              [SV.agg
                                  [SV.int IntKind.i64 mr, SV.int IntKind.i64 mp, SV.int IntKind.i64 mt,
                                    SV.int IntKind.i64 mi, SV.bool frozen, SV.int IntKind.i64 mu, SV.dat wt, SV.dat hd],
                                SV.nils, SV.nils])))
                        (Tree.ret
                          (SV.tup
                            [SV.agg
                                [SV.int IntKind.i64 mr, SV.int IntKind.i64 mp, SV.int IntKind.i64 mt,
                                  SV.int IntKind.i64 mi, SV.bool frozen, SV.int IntKind.i64 mu, SV.dat wt, SV.dat hd],
                              SV.nils, SV.nils])))
                      (Tree.ret
                        (SV.tup
                          [SV.agg
                              [SV.int IntKind.i64 mr, SV.int IntKind.i64 mp, SV.int IntKind.i64 mt, SV.int IntKind.i64 mi,
                                SV.bool frozen, SV.int IntKind.i64 mu, SV.dat wt, SV.dat hd],
                            SV.nils, SV.nils]))))))
              (Tree.br (decide (mk = 3))
                (Tree.br (decide (mn = mr))
                  (Tree.need (MbD.Right (MbD.mk mr mp mt mi frozen mu wt hd))
                    (Tree.all fun hs =>
                      Tree.ret
                        (SV.tup
                          [SV.agg
                              [SV.int IntKind.i64
                                  (Mb.round
                                    (Prod.fst
                                      (endMb (MbD.mb (MbD.mk mr mp mt mi frozen mu wt hd))
                                        (if 1073741824 < if 0 > now then 0 else now then 1073741824
                                        else if 0 > now then 0 else now)
                                        (MsgD.msg (MsgD.mk mk mf mto mn mv me ml mb))))),
                                SV.int IntKind.i64
                                  (Mb.position
                                    (Prod.fst
                                      (endMb (MbD.mb (MbD.mk mr mp mt mi frozen mu wt hd))
                                        (if 1073741824 < if 0 > now then 0 else now then 1073741824
                                        else if 0 > now then 0 else now)
                                        (MsgD.msg (MsgD.mk mk mf mto mn mv me ml mb))))),
                                SV.int IntKind.i64
                                  (Mb.thawed
                                    (Prod.fst
                                      (endMb (MbD.mb (MbD.mk mr mp mt mi frozen mu wt hd))
                                        (if 1073741824 < if 0 > now then 0 else now then 1073741824
                                        else if 0 > now then 0 else now)
                                        (MsgD.msg (MsgD.mk mk mf mto mn mv me ml mb))))),
                                SV.int IntKind.i64
                                  (Mb.issued
                                    (Prod.fst
                                      (endMb (MbD.mb (MbD.mk mr mp mt mi frozen mu wt hd))
                                        (if 1073741824 < if 0 > now then 0 else now then 1073741824
                                        else if 0 > now then 0 else now)
                                        (MsgD.msg (MsgD.mk mk mf mto mn mv me ml mb))))),
                                SV.bool
                                  (Mb.frozen
                                    (Prod.fst
                                      (endMb (MbD.mb (MbD.mk mr mp mt mi frozen mu wt hd))
                                        (if 1073741824 < if 0 > now then 0 else now then 1073741824
                                        else if 0 > now then 0 else now)
                                        (MsgD.msg (MsgD.mk mk mf mto mn mv me ml mb))))),
                                SV.int IntKind.i64
                                  (Mb.upto
                                    (Prod.fst
                                      (endMb (MbD.mb (MbD.mk mr mp mt mi frozen mu wt hd))
                                        (if 1073741824 < if 0 > now then 0 else now then 1073741824
                                        else if 0 > now then 0 else now)
                                        (MsgD.msg (MsgD.mk mk mf mto mn mv me ml mb))))),
                                SV.dat
                                  (D.like (hs 0 0)
                                    (Mb.waiting
                                      (Prod.fst
                                        (endMb (MbD.mb (MbD.mk mr mp mt mi frozen mu wt hd))
                                          (if 1073741824 < if 0 > now then 0 else now then 1073741824
                                          else if 0 > now then 0 else now)
                                          (MsgD.msg (MsgD.mk mk mf mto mn mv me ml mb)))))),
                                SV.dat
                                  (D.like (hs 0 1)
                                    (Mb.held
                                      (Prod.fst
                                        (endMb (MbD.mb (MbD.mk mr mp mt mi frozen mu wt hd))
                                          (if 1073741824 < if 0 > now then 0 else now then 1073741824
                                          else if 0 > now then 0 else now)
                                          (MsgD.msg (MsgD.mk mk mf mto mn mv me ml mb))))))],
                            SV.dat
                              (D.like (hs 0 2)
                                (Prod.fst
                                  (Prod.snd
                                    (endMb (MbD.mb (MbD.mk mr mp mt mi frozen mu wt hd))
                                      (if 1073741824 < if 0 > now then 0 else now then 1073741824
                                      else if 0 > now then 0 else now)
                                      (MsgD.msg (MsgD.mk mk mf mto mn mv me ml mb)))))),
                            SV.dat
                              (D.like (hs 0 3)
                                (Prod.snd
                                  (Prod.snd
                                    (endMb (MbD.mb (MbD.mk mr mp mt mi frozen mu wt hd))
                                      (if 1073741824 < if 0 > now then 0 else now then 1073741824
                                      else if 0 > now then 0 else now)
                                      (MsgD.msg (MsgD.mk mk mf mto mn mv me ml mb))))))])))
                  (Tree.br (decide (mk = 3))
                    (Tree.br (decide (mn > mr))
                      (Tree.all fun hs =>
                        Tree.ret
                          (SV.tup
                            [SV.agg
                                [SV.int IntKind.i64 mr, SV.int IntKind.i64 mp, SV.int IntKind.i64 mt,
                                  SV.int IntKind.i64 mi, SV.bool frozen, SV.int IntKind.i64 mu, SV.dat wt, SV.dat hd],
                              SV.nils,
                              SV.dat (D.like (hs 2 0) (ansTo (MsgD.msg (MsgD.mk mk mf mto mn mv me ml mb)) 4 0))]))
                      (Tree.br (decide (mk = 24))
                        (Tree.br (decide (mn = mr))
                          (Tree.br frozen
                            (Tree.need (MbD.Right (MbD.mk mr mp mt mi frozen mu wt hd))
                              (Tree.all fun hs =>
                                Tree.ret
                                  (SV.tup
                                    [SV.agg
                                        [SV.int IntKind.i64 mr, SV.int IntKind.i64 mp, SV.int IntKind.i64 mt,
                                          SV.int IntKind.i64 mi, SV.bool false, SV.int IntKind.i64 mu,
                                          SV.dat (D.like (hs 0 0) (D.to Int wt)), SV.dat (D.like (hs 0 1) ([] : List Int))],
                                      SV.dat (D.like (hs 0 2) (D.to Int hd)), SV.nils])))
                            (Tree.ret
                              (SV.tup
                                [SV.agg
                                    [SV.int IntKind.i64 mr, SV.int IntKind.i64 mp, SV.int IntKind.i64 mt,
                                      SV.int IntKind.i64 mi, SV.bool frozen, SV.int IntKind.i64 mu, SV.dat wt, SV.dat hd],
                                  SV.nils, SV.nils])))
                          (Tree.ret
                            (SV.tup
                              [SV.agg
                                  [SV.int IntKind.i64 mr, SV.int IntKind.i64 mp, SV.int IntKind.i64 mt,
                                    SV.int IntKind.i64 mi, SV.bool frozen, SV.int IntKind.i64 mu, SV.dat wt, SV.dat hd],
                                SV.nils, SV.nils])))
                        (Tree.ret
                          (SV.tup
                            [SV.agg
                                [SV.int IntKind.i64 mr, SV.int IntKind.i64 mp, SV.int IntKind.i64 mt,
                                  SV.int IntKind.i64 mi, SV.bool frozen, SV.int IntKind.i64 mu, SV.dat wt, SV.dat hd],
                              SV.nils, SV.nils]))))
                    (Tree.br (decide (mk = 24))
                      (Tree.br (decide (mn = mr))
                        (Tree.br frozen
                          (Tree.need (MbD.Right (MbD.mk mr mp mt mi frozen mu wt hd))
                            (Tree.all fun hs =>
                              Tree.ret
                                (SV.tup
                                  [SV.agg
                                      [SV.int IntKind.i64 mr, SV.int IntKind.i64 mp, SV.int IntKind.i64 mt,
                                        SV.int IntKind.i64 mi, SV.bool false, SV.int IntKind.i64 mu,
                                        SV.dat (D.like (hs 0 0) (D.to Int wt)), SV.dat (D.like (hs 0 1) ([] : List Int))],
                                    SV.dat (D.like (hs 0 2) (D.to Int hd)), SV.nils])))
                          (Tree.ret
                            (SV.tup
                              [SV.agg
                                  [SV.int IntKind.i64 mr, SV.int IntKind.i64 mp, SV.int IntKind.i64 mt,
                                    SV.int IntKind.i64 mi, SV.bool frozen, SV.int IntKind.i64 mu, SV.dat wt, SV.dat hd],
                                SV.nils, SV.nils])))
                        (Tree.ret
                          (SV.tup
                            [SV.agg
                                [SV.int IntKind.i64 mr, SV.int IntKind.i64 mp, SV.int IntKind.i64 mt,
                                  SV.int IntKind.i64 mi, SV.bool frozen, SV.int IntKind.i64 mu, SV.dat wt, SV.dat hd],
                              SV.nils, SV.nils])))
                      (Tree.ret
                        (SV.tup
                          [SV.agg
                              [SV.int IntKind.i64 mr, SV.int IntKind.i64 mp, SV.int IntKind.i64 mt, SV.int IntKind.i64 mi,
                                SV.bool frozen, SV.int IntKind.i64 mu, SV.dat wt, SV.dat hd],
                            SV.nils, SV.nils])))))
                (Tree.br (decide (mk = 3))
                  (Tree.br (decide (mn > mr))
                    (Tree.all fun hs =>
                      Tree.ret
                        (SV.tup
                          [SV.agg
                              [SV.int IntKind.i64 mr, SV.int IntKind.i64 mp, SV.int IntKind.i64 mt, SV.int IntKind.i64 mi,
                                SV.bool frozen, SV.int IntKind.i64 mu, SV.dat wt, SV.dat hd],
                            SV.nils, SV.dat (D.like (hs 2 0) (ansTo (MsgD.msg (MsgD.mk mk mf mto mn mv me ml mb)) 4 0))]))
                    (Tree.br (decide (mk = 24))
                      (Tree.br (decide (mn = mr))
                        (Tree.br frozen
                          (Tree.need (MbD.Right (MbD.mk mr mp mt mi frozen mu wt hd))
                            (Tree.all fun hs =>
                              Tree.ret
                                (SV.tup
                                  [SV.agg
                                      [SV.int IntKind.i64 mr, SV.int IntKind.i64 mp, SV.int IntKind.i64 mt,
                                        SV.int IntKind.i64 mi, SV.bool false, SV.int IntKind.i64 mu,
                                        SV.dat (D.like (hs 0 0) (D.to Int wt)), SV.dat (D.like (hs 0 1) ([] : List Int))],
                                    SV.dat (D.like (hs 0 2) (D.to Int hd)), SV.nils])))
                          (Tree.ret
                            (SV.tup
                              [SV.agg
                                  [SV.int IntKind.i64 mr, SV.int IntKind.i64 mp, SV.int IntKind.i64 mt,
                                    SV.int IntKind.i64 mi, SV.bool frozen, SV.int IntKind.i64 mu, SV.dat wt, SV.dat hd],
                                SV.nils, SV.nils])))
                        (Tree.ret
                          (SV.tup
                            [SV.agg
                                [SV.int IntKind.i64 mr, SV.int IntKind.i64 mp, SV.int IntKind.i64 mt,
                                  SV.int IntKind.i64 mi, SV.bool frozen, SV.int IntKind.i64 mu, SV.dat wt, SV.dat hd],
                              SV.nils, SV.nils])))
                      (Tree.ret
                        (SV.tup
                          [SV.agg
                              [SV.int IntKind.i64 mr, SV.int IntKind.i64 mp, SV.int IntKind.i64 mt, SV.int IntKind.i64 mi,
                                SV.bool frozen, SV.int IntKind.i64 mu, SV.dat wt, SV.dat hd],
                            SV.nils, SV.nils]))))
                  (Tree.br (decide (mk = 24))
                    (Tree.br (decide (mn = mr))
                      (Tree.br frozen
                        (Tree.need (MbD.Right (MbD.mk mr mp mt mi frozen mu wt hd))
                          (Tree.all fun hs =>
                            Tree.ret
                              (SV.tup
                                [SV.agg
                                    [SV.int IntKind.i64 mr, SV.int IntKind.i64 mp, SV.int IntKind.i64 mt,
                                      SV.int IntKind.i64 mi, SV.bool false, SV.int IntKind.i64 mu,
                                      SV.dat (D.like (hs 0 0) (D.to Int wt)), SV.dat (D.like (hs 0 1) ([] : List Int))],
                                  SV.dat (D.like (hs 0 2) (D.to Int hd)), SV.nils])))
                        (Tree.ret
                          (SV.tup
                            [SV.agg
                                [SV.int IntKind.i64 mr, SV.int IntKind.i64 mp, SV.int IntKind.i64 mt,
                                  SV.int IntKind.i64 mi, SV.bool frozen, SV.int IntKind.i64 mu, SV.dat wt, SV.dat hd],
                              SV.nils, SV.nils])))
                      (Tree.ret
                        (SV.tup
                          [SV.agg
                              [SV.int IntKind.i64 mr, SV.int IntKind.i64 mp, SV.int IntKind.i64 mt, SV.int IntKind.i64 mi,
                                SV.bool frozen, SV.int IntKind.i64 mu, SV.dat wt, SV.dat hd],
                            SV.nils, SV.nils])))
                    (Tree.ret
                      (SV.tup
                        [SV.agg
                            [SV.int IntKind.i64 mr, SV.int IntKind.i64 mp, SV.int IntKind.i64 mt, SV.int IntKind.i64 mi,
                              SV.bool frozen, SV.int IntKind.i64 mu, SV.dat wt, SV.dat hd],
                          SV.nils, SV.nils])))))))))) := by kernel_rfl

end
end Go.Proofs.Ytoechplbhbalaaa
end
section
/- Layer 21: the laws of Obey, Issue and Expire. -/
open Go Go.Proofs Sx
namespace Sx

theorem clampT_eq {lo n : Int} : (if 1073741824 < (if lo > n then lo else n) then 1073741824 else if lo > n then lo else n) = clampT lo n := by
  unfold clampT
  split <;> split at * <;> omega

theorem clampT_le (lo n : Int) : clampT lo n ≤ 1073741824 := by unfold clampT; omega
theorem clampT_ge {lo n : Int} (h : lo ≤ 1073741824) : lo ≤ clampT lo n := by unfold clampT; omega

theorem upto_eq {now patience : Int} : (if 1073741824 < IntKind.wrap .i64 (clampT 0 now + clampT 1 patience) then 1073741824 else IntKind.wrap .i64 (clampT 0 now + clampT 1 patience)) = min (clampT 0 now + clampT 1 patience) 1073741824 := by
  have h1 := clampT_le 0 now
  have h2 := clampT_le 1 patience
  have h3 := clampT_ge (lo := 0) (n := now) (by omega)
  have h4 := clampT_ge (lo := 1) (n := patience) (by omega)
  rw [wrap64 (by omega) (by omega)]
  split <;> omega
theorem issue_bad {m : Mb} (h : ¬checkMb m = 0 ∨ m.issued = 4096) : issueMb m = (m, -1) := by rw [issueMb, if_pos h]
theorem issue_ok {m : Mb} (h : checkMb m = 0) (h2 : ¬m.issued = 4096) : issueMb m = (⟨m.round, m.position, m.thawed, m.issued + 1, m.frozen, m.upto, m.waiting ++ [m.issued], m.held⟩, m.issued) := by
  rw [issueMb, if_neg (by simp [h, h2])]
theorem checkMb_issued {m : Mb} (h : checkMb m = 0) : 0 ≤ m.issued ∧ m.issued ≤ 4096 := by
  unfold checkMb at h
  split at h
  · cases h
  · rename_i hh
    simp only [headMb, Bool.not_eq_false, decide_eq_true_eq] at hh
    omega
theorem exp_bad {c : Co} {now : Int} (h : ¬checkCo c = 0 ∨ c.phase = 0 ∨ now < c.deadline) : expireCo c now = (c, []) := by rw [expireCo, if_pos h]
theorem exp_ok {c : Co} {now : Int} (h : checkCo c = 0) (h2 : ¬c.phase = 0) (h3 : ¬now < c.deadline) : expireCo c now = (⟨c.nodes, c.round, 0, c.deadline, c.positions, c.seen, false⟩, msgsTo c.nodes c.round 24) := by
  rw [expireCo, if_neg (by simp [h, h2]; omega)]; rfl
end Sx

namespace Go.Proofs.Ytoechplbhbalaaa
set_option maxRecDepth 100000
set_option maxHeartbeats 0

theorem ctMOk : Ctrs.Ok Try.prog ctM := by
  intro x hx
  simp only [ctM, List.mem_cons] at hx
  rcases hx with rfl | rfl | rfl | rfl | rfl | rfl | rfl | rfl | rfl | hx
  · exact ctrOf_ok lawCM1
  · exact ctrOf_ok lawCM2
  · exact ctrOf_ok lawCont
  · exact ctrOf_ok lawHas
  · exact ctrOf_ok lawAns
  · exact ctrOf_ok lawEnd
  · exact ctrOf_ok lawThaw
  · exact ctrOf_ok lawEvery
  · exact ctrOf_ok lawGive
  · exact ctBOk _ hx

theorem lawObey1 : Law Try.prog 24 ((rdMb.four rdInt rdInt rdMsg).sp spObey) := by
  refine law_in _ (by kernel_rfl) fun H w ⟨⟨r, p, t, i, f, u, wt, hd⟩, now, pat, ⟨mk, mf, mto, mn, mv, me, ml, mb⟩⟩ hok hp => ?_
  have hR := hp _ (List.mem_singleton.2 rfl)
  have hR' := hR
  obtain ⟨hw, hh, lw, lh⟩ := hR
  simp only at hw hh lw lh
  clear hp hok
  have hw2 : wt.Is Int ∧ wt.len ≤ 1048576 := ⟨hw, by omega⟩
  have hh2 : hd.Is Int ∧ hd.len ≤ 1048576 := ⟨hh, by omega⟩
  apply exec_sound ctMOk 800
  rw [show (rdMb.four rdInt rdInt rdMsg).canon (⟨r, p, t, i, f, u, wt, hd⟩, now, pat, ⟨mk, mf, mto, mn, mv, me, ml, mb⟩) = [.agg [.int .i64 r, .int .i64 p, .int .i64 t, .int .i64 i, .bool f, .int .i64 u, .dat wt, .dat hd], .int .i64 now, .int .i64 pat, .agg [.int .i64 mk, .int .i64 mf, .int .i64 mto, .int .i64 mn, .int .i64 mv, .int .i64 me, .dat ml, .dat mb]] from rfl, obey1_in]
  have hq : ∃ q, checkMb (MbD.mb ⟨r, p, t, i, f, u, wt, hd⟩) = q ∧ checkMb ⟨r, p, t, i, f, u, wt.to Int, hd.to Int⟩ = q := ⟨_, rfl, rfl⟩
  obtain ⟨q, hq, hq'⟩ := hq
  simp only [clampT_eq, upto_eq, hq]
  simp only [MbD.mb, MsgD.msg]
  clear hq
  refine ⟨hR', ?_⟩
  clear hR'
  repeat' first
    | refine ⟨fun hc => ?_, fun hc => ?_⟩
    | refine ⟨by assumption, ?_⟩
    | with_reducible refine holds_all.2 fun hs => ?_
    | fail
  all_goals (
    apply ret_mb3
    case hf => first | exact fun _ => rfl | exact lb_den
    case hw => first | exact stands_self hw | exact stands_rows rfl (rows_of hw) | exact stands_nils
    case hh => first | exact stands_self hh | exact stands_rows rfl (rows_of hh) | exact stands_nils
    case hx => first | exact stands_self hh | exact stands_rows rfl (rows_of hh) | exact stands_nils
    case hy => first | exact stands_nils | exact stands_rows rfl (msg_row' rfl))
  all_goals (unfold obeyMb; simp only [hq']; clear hq' hw hh lw lh hw2 hh2)
  all_goals (simp only [endMb, ansTo, gt_iff_lt, ge_iff_le, decide_eq_true_eq, decide_eq_false_iff_not, bne_iff_ne, ne_eq, bne_eq_false_iff_eq, Bool.not_eq_true', Bool.not_eq_false', Decidable.not_not] at *)
  all_goals (cases f <;> (try simp only [reduceCtorEq] at *) <;> (repeat' split) <;> first | rfl | (exfalso; omega) | (exfalso; simp only [and_true, and_false] at *; done) | (exfalso; simp only [and_true, and_false] at *; omega) | skip)
theorem lawObey2 : Law Try.prog 25 ((rdMb.four rdInt rdInt rdMsg).sp spObey) := by
  refine law_in _ (by kernel_rfl) fun H w ⟨⟨r, p, t, i, f, u, wt, hd⟩, now, pat, ⟨mk, mf, mto, mn, mv, me, ml, mb⟩⟩ hok hp => ?_
  have hR := hp _ (List.mem_singleton.2 rfl)
  have hR' := hR
  obtain ⟨hw, hh, lw, lh⟩ := hR
  simp only at hw hh lw lh
  clear hp hok
  have hw2 : wt.Is Int ∧ wt.len ≤ 1048576 := ⟨hw, by omega⟩
  have hh2 : hd.Is Int ∧ hd.len ≤ 1048576 := ⟨hh, by omega⟩
  apply exec_sound ctMOk 800
  rw [show (rdMb.four rdInt rdInt rdMsg).canon (⟨r, p, t, i, f, u, wt, hd⟩, now, pat, ⟨mk, mf, mto, mn, mv, me, ml, mb⟩) = [.agg [.int .i64 r, .int .i64 p, .int .i64 t, .int .i64 i, .bool f, .int .i64 u, .dat wt, .dat hd], .int .i64 now, .int .i64 pat, .agg [.int .i64 mk, .int .i64 mf, .int .i64 mto, .int .i64 mn, .int .i64 mv, .int .i64 me, .dat ml, .dat mb]] from rfl, obey2_in]
  have hq : ∃ q, checkMb (MbD.mb ⟨r, p, t, i, f, u, wt, hd⟩) = q ∧ checkMb ⟨r, p, t, i, f, u, wt.to Int, hd.to Int⟩ = q := ⟨_, rfl, rfl⟩
  obtain ⟨q, hq, hq'⟩ := hq
  simp only [clampT_eq, upto_eq, hq]
  simp only [MbD.mb, MsgD.msg]
  clear hq
  refine ⟨hR', ?_⟩
  repeat' first
    | refine ⟨fun hc => ?_, fun hc => ?_⟩
    | refine ⟨by assumption, ?_⟩
    | with_reducible refine holds_all.2 fun hs => ?_
    | fail
  all_goals (
    apply ret_mb3
    case hf => first | exact fun _ => rfl | exact lb_den
    case hw => first | exact stands_like | exact stands_self hw | exact stands_rows rfl (rows_of hw) | exact stands_nils
    case hh => first | exact stands_like | exact stands_self hh | exact stands_rows rfl (rows_of hh) | exact stands_nils
    case hx => first | exact stands_like | exact stands_self hh | exact stands_rows rfl (rows_of hh) | exact stands_nils
    case hy => first | exact stands_like | exact stands_nils | exact stands_rows rfl (msg_row' rfl))
  all_goals (unfold obeyMb; simp only [hq']; clear hq' hw hh lw lh hw2 hh2 hR')
  all_goals (simp only [gt_iff_lt, ge_iff_le, decide_eq_true_eq, decide_eq_false_iff_not, bne_iff_ne, ne_eq, bne_eq_false_iff_eq, Bool.not_eq_true', Bool.not_eq_false', Decidable.not_not] at *)
  all_goals (cases f <;> (try simp only [reduceCtorEq] at *) <;> (repeat' split) <;> first | rfl | (exfalso; omega) | (exfalso; simp only [and_true, and_false] at *; done) | (exfalso; simp only [and_true, and_false] at *; omega) | skip)

theorem lawIssue1 : Law Try.prog 36 (rdMb.one.sp spIssue) := by
  refine law_in _ (by kernel_rfl) fun H w ⟨r, p, t, i, f, u, wt, hd⟩ hok hp => ?_
  have hR := hp _ (List.mem_singleton.2 rfl)
  have hR' := hR
  obtain ⟨hw, hh, lw, lh⟩ := hR
  simp only at hw hh lw lh
  have hl := D.Is.length (α := Int) wt
  have hl2 := rows_len (rows_of hw)
  clear hp hok
  apply exec_sound ctMOk 600
  rw [show rdMb.one.canon ⟨r, p, t, i, f, u, wt, hd⟩ = [.agg [.int .i64 r, .int .i64 p, .int .i64 t, .int .i64 i, .bool f, .int .i64 u, .dat wt, .dat hd]] from rfl, iss1_in]
  refine ⟨hR', fun hc => ?_, fun hc => ⟨fun hc2 => ?_, fun hc2 => ⟨⟨hw, by omega⟩, fun hs hs1 => ⟨?_, fun hs2 => ?_⟩⟩⟩⟩
  · simp only [bne_iff_ne, ne_eq] at hc
    exact ret_mbI (fun _ => rfl) (stands_self hw) (stands_self hh) (issue_bad (.inl hc))
  · simp only [decide_eq_true_eq] at hc2
    exact ret_mbI (fun _ => rfl) (stands_self hw) (stands_self hh) (issue_bad (.inr hc2))
  · exact ⟨rfl, .inr rfl, by simp only [len_slc, List.length_cons, List.length_nil]; omega, by simp only [len_slc, List.length_cons, List.length_nil]; omega⟩
  · simp only [bne_eq_false_iff_eq] at hc
    simp only [decide_eq_false_iff_not] at hc2
    have hi : 0 ≤ i ∧ i ≤ 4096 := checkMb_issued hc
    have hr : SRows Int (List.append (D.rows wt) [[.int .i64 i]]) (wt.to Int ++ [i]) := rows_app (rows_of hw) (rows_one ⟨_, rfl⟩ rfl)
    rw [wrap64 (by omega) (by omega)]
    exact ret_mbI (fun _ => rfl) (stands_rows rfl hr) (stands_self hh) (issue_ok hc hc2)

theorem lawIssue2 : Law Try.prog 37 (rdMb.one.sp spIssue) := by
  refine law_in _ (by kernel_rfl) fun H w ⟨r, p, t, i, f, u, wt, hd⟩ hok hp => ?_
  have hR := hp _ (List.mem_singleton.2 rfl)
  have hR' := hR
  obtain ⟨hw, hh, lw, lh⟩ := hR
  simp only at hw hh lw lh
  have hl := D.Is.length (α := Int) wt
  have hl2 := rows_len (rows_of hw)
  clear hp hok
  apply exec_sound ctMOk 600
  rw [show rdMb.one.canon ⟨r, p, t, i, f, u, wt, hd⟩ = [.agg [.int .i64 r, .int .i64 p, .int .i64 t, .int .i64 i, .bool f, .int .i64 u, .dat wt, .dat hd]] from rfl, iss2_in]
  refine ⟨hR', fun hc => ?_, fun hc => ⟨fun hc2 => ?_, fun hc2 hs => ⟨⟨rfl, hw.fits, by simp only [len_slc, List.length_nil]; omega, by simp only [len_slc, List.length_nil]; omega⟩, fun hs1 hs2 => ⟨?_, fun hs3 => ?_⟩⟩⟩⟩
  · simp only [bne_iff_ne, ne_eq] at hc
    exact ret_mbI (fun _ => rfl) (stands_self hw) (stands_self hh) (issue_bad (.inl hc))
  · simp only [decide_eq_true_eq] at hc2
    exact ret_mbI (fun _ => rfl) (stands_self hw) (stands_self hh) (issue_bad (.inr hc2))
  · have e : (List.append (D.rows (D.slc (D.hd (hs 0 0)) 1 [])) (D.rows wt)).length = wt.rows.length := rfl
    exact ⟨rfl, .inr rfl, by simp only [len_slc, e, List.length_cons, List.length_nil]; omega, by simp only [len_slc, e, List.length_cons, List.length_nil]; omega⟩
  · simp only [bne_eq_false_iff_eq] at hc
    simp only [decide_eq_false_iff_not] at hc2
    have hi : 0 ≤ i ∧ i ≤ 4096 := checkMb_issued hc
    have hr : SRows Int (List.append (D.rows wt) [[.int .i64 i]]) (wt.to Int ++ [i]) := rows_app (rows_of hw) (rows_one ⟨_, rfl⟩ rfl)
    rw [wrap64 (by omega) (by omega)]
    exact ret_mbI (fun _ => rfl) (stands_rows rfl hr) (stands_self hh) (issue_ok hc hc2)

theorem lawExp1 : Law Try.prog 29 ((rdCo.two rdInt).sp spExp) := by
  refine law_in _ (by kernel_rfl) fun H w ⟨⟨n, r, p, dl, d, s, v⟩, now⟩ hok hp => ?_
  obtain ⟨hd, hs⟩ := hp _ (List.mem_singleton.2 rfl)
  simp only at hd hs
  apply exec_sound ctMOk 600
  rw [show (rdCo.two rdInt).canon (⟨n, r, p, dl, d, s, v⟩, now) = [.agg [.int .i64 n, .int .i64 r, .int .i64 p, .int .i64 dl, .dat d, .dat s, .bool v], .int .i64 now] from rfl, exp1_in]
  refine ⟨⟨hd, hs⟩, fun hc => ?_, fun hc => ⟨fun hc2 => ?_, fun hc2 => ⟨fun hc3 => ?_, fun hc3 h1 => ?_⟩⟩⟩
  · simp only [bne_iff_ne, ne_eq] at hc
    exact ret_co2 (stands_self hd) (stands_self hs) (fun _ => rfl) stands_nils (exp_bad (.inl hc))
  · simp only [decide_eq_true_eq] at hc2
    exact ret_co2 (stands_self hd) (stands_self hs) (fun _ => rfl) stands_nils (exp_bad (.inr (.inl hc2)))
  · simp only [decide_eq_true_eq] at hc3
    exact ret_co2 (stands_self hd) (stands_self hs) (fun _ => rfl) stands_nils (exp_bad (.inr (.inr hc3)))
  · simp only [bne_eq_false_iff_eq] at hc
    simp only [decide_eq_false_iff_not] at hc2 hc3
    have hz := checkCo_zero.1 (show checkCo ⟨n, r, p, dl, d.to Int, s.to Bool, v⟩ = 0 from hc)
    have l1 := D.Is.length (α := Int) d
    have l2 := D.Is.length (α := Bool) s
    exact ⟨⟨hd, by omega⟩, ⟨hs, by omega⟩, by omega, fun h2 => ret_co2 (stands_rows rfl (rows_of hd)) (stands_rows rfl (rows_of hs)) lb_den stands_like (exp_ok hc hc2 hc3)⟩

theorem lawExp2 : Law Try.prog 30 ((rdCo.two rdInt).sp spExp) := by
  refine law_in _ (by kernel_rfl) fun H w ⟨⟨n, r, p, dl, d, s, v⟩, now⟩ hok hp => ?_
  obtain ⟨hd, hs⟩ := hp _ (List.mem_singleton.2 rfl)
  simp only at hd hs
  apply exec_sound ctMOk 600
  rw [show (rdCo.two rdInt).canon (⟨n, r, p, dl, d, s, v⟩, now) = [.agg [.int .i64 n, .int .i64 r, .int .i64 p, .int .i64 dl, .dat d, .dat s, .bool v], .int .i64 now] from rfl, exp2_in]
  refine ⟨⟨hd, hs⟩, fun hc => ?_, fun hc => ⟨fun hc2 => ?_, fun hc2 => ⟨fun hc3 => ?_, fun hc3 => ?_⟩⟩⟩
  · simp only [bne_iff_ne, ne_eq] at hc
    exact ret_co2 (stands_self hd) (stands_self hs) (fun _ => rfl) stands_nils (exp_bad (.inl hc))
  · simp only [decide_eq_true_eq] at hc2
    exact ret_co2 (stands_self hd) (stands_self hs) (fun _ => rfl) stands_nils (exp_bad (.inr (.inl hc2)))
  · simp only [decide_eq_true_eq] at hc3
    exact ret_co2 (stands_self hd) (stands_self hs) (fun _ => rfl) stands_nils (exp_bad (.inr (.inr hc3)))
  · simp only [bne_eq_false_iff_eq] at hc
    simp only [decide_eq_false_iff_not] at hc2 hc3
    have hz := checkCo_zero.1 (show checkCo ⟨n, r, p, dl, d.to Int, s.to Bool, v⟩ = 0 from hc)
    exact ⟨⟨hd, hs, by omega⟩, fun h2 => ret_co2 stands_like stands_like (fun _ => rfl) stands_like (exp_ok hc hc2 hc3)⟩
end Go.Proofs.Ytoechplbhbalaaa
end
section
/- A walk that rests at given places. -/
namespace Sx
open Go

/-- The slot that the first operation of the region ahead writes. -/
def atDst (c : Conf) : Option (FuncId × Nat) :=
  match c.top.ri with
  | some _ => none
  | none => match c.top.todo with
    | .code (.region _ ops _) :: _ => match ops[0]? with
      | some o => match o.dst with
        | some d => some (c.top.fn, d)
        | none => none
      | none => none
    | _ => none

def restsAt (l : List (FuncId × Nat)) (c : Conf) : Bool :=
  match atDst c with
  | some (f, d) => l.any fun x => x.1 == f && x.2 == d
  | none => false

/-- What a frame that waits will still read. -/
def liveW (P : Program) (g : SFrm) : List Nat :=
  let out := (liveI (retN P g.fn) g.todo).1
  let live := match g.ri with
    | some (ops, l) => liveOps ops (l.filterMap fun i => ops[i]?) out
    | none => out
  match g.await with
  | some t => live.filter (· != t)
  | none => live

/-- The frame that waits for the top one: what it will not read any more is forgotten. -/
def fgtR (P : Program) (c : Conf) : Conf :=
  match c.rest with
  | [] => c
  | g :: r =>
    let n := 1000 * r.length
    let live := liveW P g
    if keptOk n live 0 g.tmps && c.mem.all (fun e => !e.2.jk n) && r.all (fun f => !SV.jkL n f.tmps) && !SV.jkL n c.top.tmps then
      { c with rest := { g with tmps := maskT n live 0 g.tmps } :: r }
    else c

theorem fgtR_sound {P : Program} {C : Ctx} {R : Value → World → Prop} {c : Conf} (h : Runs P C (fgtR P c) R) : Runs P C c R := by
  obtain ⟨top, rest, mem⟩ := c
  unfold fgtR at h
  simp only at h
  cases rest with
  | nil => exact h
  | cons g r =>
    simp only at h
    split at h
    · rename_i hc
      simp only [Bool.and_eq_true, Bool.not_eq_true'] at hc
      obtain ⟨⟨⟨h1, h2⟩, h3⟩, h4⟩ := hc
      intro E H w gd ok
      let n := 1000 * r.length
      let E' : Env := ⟨E.b, E.v, fun i => if i < n then E.j i else ((SV.denL E g.tmps)[i - n]?).getD Go.undef⟩
      have hs : Same n E E' := ⟨rfl, rfl, fun i hi => by simp [E', hi]⟩
      have hg := gd.same' hs (fun x hx => by have := List.all_eq_true.1 h2 x hx; simpa using this)
      have hr := h E' H w hg ⟨ok.1, fun f hf => by
        rcases List.mem_cons.1 hf with rfl | hf
        · exact maskT_ok _ _ _ (ok.2 g (by simp))
        · exact ok.2 f (by simp [hf])⟩
      have e1 : SV.denL E' (maskT n (liveW P g) 0 g.tmps) = SV.denL E g.tmps := by
        refine maskT_den hs _ _ 0 h1 (fun i v hv => ?_)
        simp only [E', Nat.zero_add]
        rw [if_neg (by omega), show n + i - n = i from by omega, SV.denL_eq, List.getElem?_map, hv]
        rfl
      have e2 : r.map (SFrm.den E') = r.map (SFrm.den E) := by
        apply List.map_congr_left
        intro f hf
        have := List.all_eq_true.1 h3 f hf
        simp only [Bool.not_eq_true'] at this
        simp [SFrm.den, denL_same hs _ this]
      have e3 : SFrm.den E' top = top.den E := by simp [SFrm.den, denL_same hs _ h4]
      have e4 : SFrm.den E' { g with tmps := maskT n (liveW P g) 0 g.tmps } = g.den E := by
        simp only [SFrm.den]; rw [e1]
      simp only [List.map_cons] at hr ⊢
      rw [e2, e3] at hr
      rw [show SFrm.den E' { g with tmps := maskT (1000 * r.length) (liveW P g) 0 g.tmps } = g.den E from e4] at hr
      exact hr
    · exact h

/-- A rest: the state in its plain form. -/
noncomputable def restC (P : Program) (c : Conf) : Tree := headC P (fgtR P c) leafR
noncomputable def execS (P : Program) (cs : Ctrs) (U : FuncId → Bool) (S : List (FuncId × Nat)) (n : Nat) : Conf → Tree :=
  Nat.rec (motive := fun _ => Conf → Tree) (fun _ => .stuck) (fun _ ih c => match restsAt S c with
    | true => restC P c
    | false => stepC P cs U ih c) n

/-- .. that does not rest at its beginning. -/
noncomputable def goS (P : Program) (cs : Ctrs) (U : FuncId → Bool) (S : List (FuncId × Nat)) (n : Nat) (c : Conf) : Tree := stepC P cs U (execS P cs U S n) c

section
variable {P : Program} {C : Ctx} {R : Value → World → Prop} {cs : Ctrs}
theorem execS_sound (hcs : cs.Ok P) (U : FuncId → Bool) (S : List (FuncId × Nat)) : ∀ (n : Nat) (c : Conf), (execS P cs U S n c).holds P C R → Runs P C c R
  | 0, _, h => h.elim
  | n + 1, c, h => by
    have e : execS P cs U S (n + 1) c = match restsAt S c with
      | true => restC P c
      | false => stepC P cs U (execS P cs U S n) c := rfl
    rw [e] at h
    cases hr : restsAt S c with
    | true => rw [hr] at h; exact fgtR_sound (headR_sound h)
    | false => rw [hr] at h; exact step_sound (U := U) hcs (fun c h => execS_sound hcs U S n c h) c h
theorem goS_sound (hcs : cs.Ok P) (U : FuncId → Bool) (S : List (FuncId × Nat)) (n : Nat) (c : Conf) (h : (goS P cs U S n c).holds P C R) : Runs P C c R :=
  step_sound (U := U) hcs (fun c h => execS_sound hcs U S n c h) c h
end

/-! A cell that is known to be true. -/
def lbIn (b off : Nat) (c : Conf) : Option Conf :=
  match c.mem.get b with
  | some (.cells t cs) => match cs[off]? with
    | some (.bool true) => some ⟨c.top, c.rest, c.mem.set b (.cells t (cs.set off (.lb true)))⟩
    | _ => none
  | _ => none

theorem lbIn_sound {P : Program} {C : Ctx} {R : Value → World → Prop} {b off : Nat} {c c' : Conf} (hc : lbIn b off c = some c') (h : Runs P C c' R) : Runs P C c R := by
  intro E H w g ok
  unfold lbIn at hc
  split at hc
  · rename_i t cs hg
    split at hc
    · rename_i hn
      cases hc
      have hmem := Mem.get_mem hg
      have hden : SV.denL E (cs.set off (.lb true)) = SV.denL E cs := by
        rw [denL_set, SV.denL_eq]
        apply List.ext_getElem?
        intro j
        by_cases hj : j = off
        · subst hj
          rw [List.getElem?_set_self (by have := (List.getElem?_eq_some_iff.1 hn).1; simpa using this)]
          simp [hn, SV.den]
        · rw [List.getElem?_set_ne (Ne.symm hj)]
      have hspec := Mem.set_spec (o' := .cells t (cs.set off (.lb true))) g.keys hg
      have g2 : Good C (c.mem.set b (.cells t (cs.set off (.lb true)))) E H w := by
        refine ⟨g.below, g.ext, g.fresh, g.cell, fun k o hko => ?_, ?_, fun x y hx hy hne hlx hly => ?_⟩
        · rcases hspec k o hko with ⟨rfl, rfl⟩ | ⟨hne, hm⟩
          · obtain ⟨a1, a2, a3, a4⟩ := g.own k _ hmem
            exact ⟨a1, by rw [hden]; exact a2, a3, okL_putS (dst := some off) a4 (by simp [SV.Ok])⟩
          · exact g.own k o hm
        · have := g.keys
          rw [pairwise_keys] at this ⊢
          simpa [Mem.set_keys] using this
        · have old : ∀ z : Nat × OBlk, z ∈ c.mem.set b (.cells t (cs.set off (.lb true))) → z.2.Lies → ∃ o, (z.1, o) ∈ c.mem ∧ o.Lies := by
            intro z hz hl
            rcases hspec z.1 z.2 hz with ⟨h1, h2⟩ | ⟨_, hm⟩
            · exact ⟨.cells t cs, by rw [h1]; exact hmem, trivial⟩
            · exact ⟨_, hm, hl⟩
          obtain ⟨ox, hx1, hx2⟩ := old x hx hlx
          obtain ⟨oy, hy1, hy2⟩ := old y hy hly
          exact g.apart (x.1, ox) (y.1, oy) hx1 hy1 hne hx2 hy2
      exact h E H w g2 ok
    · cases hc
  · cases hc

theorem lbIn_to {P : Program} {C : Ctx} {R : Value → World → Prop} (b off : Nat) {c : Conf} (c' : Conf) (hc : lbIn b off c = some c') (h : Runs P C c' R) : Runs P C c R := lbIn_sound hc h
end Sx
end
