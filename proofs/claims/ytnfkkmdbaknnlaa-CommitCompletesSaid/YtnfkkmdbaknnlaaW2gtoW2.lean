/- A part of a proof. -/
import Derived.KernelRfl
import Derived.Test.YtnfkkmdbaknnlaaOvtoW1
set_option linter.all false
section
open Go Go.Proofs Sx
namespace Go.Proofs.Ytnfkkmdbaknnlaa
set_option maxRecDepth 100000
set_option maxHeartbeats 0
noncomputable def ct2 : Ctrs := [(18, ctrOf (rdSrc.one.sp spCS)), (19, ctrOf (rdSrc.one.sp spCS)), (20, ctrOf (rdTgt.one.sp spCT)), (21, ctrOf (rdTgt.one.sp spCT)), (42, ctrOf ((rdD.two rdInt).sp spHas)), (43, ctrOf ((rdD.two rdInt).sp spHas)), (58, ctrOf ((rdD.two rdInt).sp spIdx)), (49, ctrOf ((rdSrc.three rdInt rdInt).sp spToTarget)), (55, ctrOf ((rdTgt.three rdInt rdInt).sp spToSource)), (57, ctrOf ((rdTgt.three rdInt rdInt).sp spToSource)), (54, ctrOf (rdTgt.one.sp spOffered)), (56, ctrOf (rdTgt.one.sp spCommitted))]
section
variable (e s st ap j n last k m e' s' st' ap' mk mf mt mn mv me : Int) (d d' mb ml : D) (o  : D)
theorem newS1_in : exec Try.prog ct2 400 (entry Try.prog 13 [.int .i64 e, .int .i64 s, .int .i64 ap]) =
  Tree.br (decide (e ≥ 0))
    (Tree.br (decide (e ≤ 1073741824))
      (Tree.br (decide (s ≥ 0))
        (Tree.br (decide (s < 4))
          (Tree.br (decide (ap ≥ 0))
            (Tree.br (!decide (ap ≤ 1073741824))
              (Tree.ret
                (SV.tup
                  [SV.agg
                      [SV.int IntKind.i64 0, SV.int IntKind.i64 0, SV.nils, SV.int IntKind.i64 0, SV.int IntKind.i64 0],
                    SV.int IntKind.i64 2]))
              (Tree.ret
                (SV.tup
                  [SV.agg
                      [SV.int IntKind.i64 e, SV.int IntKind.i64 s, SV.nils, SV.int IntKind.i64 ap, SV.int IntKind.i64 ap],
                    SV.int IntKind.i64 0])))
            (Tree.ret
              (SV.tup
                [SV.agg [SV.int IntKind.i64 0, SV.int IntKind.i64 0, SV.nils, SV.int IntKind.i64 0, SV.int IntKind.i64 0],
                  SV.int IntKind.i64 2])))
          (Tree.ret
            (SV.tup
              [SV.agg [SV.int IntKind.i64 0, SV.int IntKind.i64 0, SV.nils, SV.int IntKind.i64 0, SV.int IntKind.i64 0],
                SV.int IntKind.i64 2])))
        (Tree.ret
          (SV.tup
            [SV.agg [SV.int IntKind.i64 0, SV.int IntKind.i64 0, SV.nils, SV.int IntKind.i64 0, SV.int IntKind.i64 0],
              SV.int IntKind.i64 2])))
      (Tree.ret
        (SV.tup
          [SV.agg [SV.int IntKind.i64 0, SV.int IntKind.i64 0, SV.nils, SV.int IntKind.i64 0, SV.int IntKind.i64 0],
            SV.int IntKind.i64 2])))
    (Tree.ret
      (SV.tup
        [SV.agg [SV.int IntKind.i64 0, SV.int IntKind.i64 0, SV.nils, SV.int IntKind.i64 0, SV.int IntKind.i64 0],
          SV.int IntKind.i64 2])) := by kernel_rfl

theorem newS2_in : exec Try.prog ct2 400 (entry Try.prog 14 [.int .i64 e, .int .i64 s, .int .i64 ap]) =
  Tree.br (decide (e ≥ 0))
    (Tree.br (!decide (e ≤ 1073741824))
      (Tree.ret
        (SV.tup
          [SV.agg [SV.int IntKind.i64 0, SV.int IntKind.i64 0, SV.nils, SV.int IntKind.i64 0, SV.int IntKind.i64 0],
            SV.int IntKind.i64 2]))
      (Tree.br (decide (s ≥ 0))
        (Tree.br (!decide (s < 4))
          (Tree.ret
            (SV.tup
              [SV.agg [SV.int IntKind.i64 0, SV.int IntKind.i64 0, SV.nils, SV.int IntKind.i64 0, SV.int IntKind.i64 0],
                SV.int IntKind.i64 2]))
          (Tree.br (decide (ap ≥ 0))
            (Tree.br (!decide (ap ≤ 1073741824))
              (Tree.ret
                (SV.tup
                  [SV.agg
                      [SV.int IntKind.i64 0, SV.int IntKind.i64 0, SV.nils, SV.int IntKind.i64 0, SV.int IntKind.i64 0],
                    SV.int IntKind.i64 2]))
              (Tree.ret
                (SV.tup
                  [SV.agg
                      [SV.int IntKind.i64 e, SV.int IntKind.i64 s, SV.nils, SV.int IntKind.i64 ap, SV.int IntKind.i64 ap],
                    SV.int IntKind.i64 0])))
            (Tree.ret
              (SV.tup
                [SV.agg [SV.int IntKind.i64 0, SV.int IntKind.i64 0, SV.nils, SV.int IntKind.i64 0, SV.int IntKind.i64 0],
                  SV.int IntKind.i64 2]))))
        (Tree.ret
          (SV.tup
            [SV.agg [SV.int IntKind.i64 0, SV.int IntKind.i64 0, SV.nils, SV.int IntKind.i64 0, SV.int IntKind.i64 0],
              SV.int IntKind.i64 2]))))
    (Tree.ret
      (SV.tup
        [SV.agg [SV.int IntKind.i64 0, SV.int IntKind.i64 0, SV.nils, SV.int IntKind.i64 0, SV.int IntKind.i64 0],
          SV.int IntKind.i64 2])) := by kernel_rfl

theorem newT1_in : exec Try.prog ct2 400 (entry Try.prog 15 [.int .i64 e, .int .i64 s, .int .i64 ap]) =
  Tree.br (decide (e ≥ 0))
    (Tree.br (decide (e ≤ 1073741824))
      (Tree.br (decide (s ≥ 0))
        (Tree.br (decide (s < 4))
          (Tree.br (decide (ap ≥ 0))
            (Tree.br (!decide (ap ≤ 1073741824))
              (Tree.ret
                (SV.tup
                  [SV.agg [SV.int IntKind.i64 0, SV.int IntKind.i64 0, SV.int IntKind.i64 0, SV.int IntKind.i64 0],
                    SV.int IntKind.i64 2]))
              (Tree.ret
                (SV.tup
                  [SV.agg [SV.int IntKind.i64 e, SV.int IntKind.i64 s, SV.int IntKind.i64 ap, SV.int IntKind.i64 ap],
                    SV.int IntKind.i64 0])))
            (Tree.ret
              (SV.tup
                [SV.agg [SV.int IntKind.i64 0, SV.int IntKind.i64 0, SV.int IntKind.i64 0, SV.int IntKind.i64 0],
                  SV.int IntKind.i64 2])))
          (Tree.ret
            (SV.tup
              [SV.agg [SV.int IntKind.i64 0, SV.int IntKind.i64 0, SV.int IntKind.i64 0, SV.int IntKind.i64 0],
                SV.int IntKind.i64 2])))
        (Tree.ret
          (SV.tup
            [SV.agg [SV.int IntKind.i64 0, SV.int IntKind.i64 0, SV.int IntKind.i64 0, SV.int IntKind.i64 0],
              SV.int IntKind.i64 2])))
      (Tree.ret
        (SV.tup
          [SV.agg [SV.int IntKind.i64 0, SV.int IntKind.i64 0, SV.int IntKind.i64 0, SV.int IntKind.i64 0],
            SV.int IntKind.i64 2])))
    (Tree.ret
      (SV.tup
        [SV.agg [SV.int IntKind.i64 0, SV.int IntKind.i64 0, SV.int IntKind.i64 0, SV.int IntKind.i64 0],
          SV.int IntKind.i64 2])) := by kernel_rfl

theorem newT2_in : exec Try.prog ct2 400 (entry Try.prog 16 [.int .i64 e, .int .i64 s, .int .i64 ap]) =
  Tree.br (decide (e ≥ 0))
    (Tree.br (!decide (e ≤ 1073741824))
      (Tree.ret
        (SV.tup
          [SV.agg [SV.int IntKind.i64 0, SV.int IntKind.i64 0, SV.int IntKind.i64 0, SV.int IntKind.i64 0],
            SV.int IntKind.i64 2]))
      (Tree.br (decide (s ≥ 0))
        (Tree.br (!decide (s < 4))
          (Tree.ret
            (SV.tup
              [SV.agg [SV.int IntKind.i64 0, SV.int IntKind.i64 0, SV.int IntKind.i64 0, SV.int IntKind.i64 0],
                SV.int IntKind.i64 2]))
          (Tree.br (decide (ap ≥ 0))
            (Tree.br (!decide (ap ≤ 1073741824))
              (Tree.ret
                (SV.tup
                  [SV.agg [SV.int IntKind.i64 0, SV.int IntKind.i64 0, SV.int IntKind.i64 0, SV.int IntKind.i64 0],
                    SV.int IntKind.i64 2]))
              (Tree.ret
                (SV.tup
                  [SV.agg [SV.int IntKind.i64 e, SV.int IntKind.i64 s, SV.int IntKind.i64 ap, SV.int IntKind.i64 ap],
                    SV.int IntKind.i64 0])))
            (Tree.ret
              (SV.tup
                [SV.agg [SV.int IntKind.i64 0, SV.int IntKind.i64 0, SV.int IntKind.i64 0, SV.int IntKind.i64 0],
                  SV.int IntKind.i64 2]))))
        (Tree.ret
          (SV.tup
            [SV.agg [SV.int IntKind.i64 0, SV.int IntKind.i64 0, SV.int IntKind.i64 0, SV.int IntKind.i64 0],
              SV.int IntKind.i64 2]))))
    (Tree.ret
      (SV.tup
        [SV.agg [SV.int IntKind.i64 0, SV.int IntKind.i64 0, SV.int IntKind.i64 0, SV.int IntKind.i64 0],
          SV.int IntKind.i64 2])) := by kernel_rfl

theorem offer1_in : exec Try.prog ct2 400 (entry Try.prog 22 [.agg [.int .i64 e, .int .i64 s, .dat d, .int .i64 st, .int .i64 ap], .int .i64 n]) =
  Tree.need (D.Is Int d)
    (Tree.br (checkSource (SrcD.src (SrcD.mk e s d st ap)) != 0)
      (Tree.ret
        (SV.tup
          [SV.agg [SV.int IntKind.i64 0, SV.int IntKind.i64 0, SV.nils, SV.int IntKind.i64 0, SV.int IntKind.i64 0],
            SV.nils, SV.int IntKind.i64 (checkSource (SrcD.src (SrcD.mk e s d st ap)))]))
      (Tree.br (decide ((↑(D.len d) : Int) > 0))
        (Tree.need
          (0 ≤ IntKind.wrap IntKind.i64 ((↑(D.len d) : Int) - 1) ∧
            IntKind.wrap IntKind.i64 ((↑(D.len d) : Int) - 1) < (↑(D.len d) : Int) ∧ D.sz d = 1)
          (Tree.need (D.HasCell d (Int.toNat (IntKind.wrap IntKind.i64 ((↑(D.len d) : Int) - 1))) 0 (FT.int IntKind.i64))
            (Tree.br (decide (n ≤ D.getInt d (Int.toNat (IntKind.wrap IntKind.i64 ((↑(D.len d) : Int) - 1))) 0))
              (Tree.ret
                (SV.tup
                  [SV.agg
                      [SV.int IntKind.i64 0, SV.int IntKind.i64 0, SV.nils, SV.int IntKind.i64 0, SV.int IntKind.i64 0],
                    SV.nils, SV.int IntKind.i64 8]))
              (Tree.br (decide (n > 1073741824))
                (Tree.ret
                  (SV.tup
                    [SV.agg
                        [SV.int IntKind.i64 0, SV.int IntKind.i64 0, SV.nils, SV.int IntKind.i64 0, SV.int IntKind.i64 0],
                      SV.nils, SV.int IntKind.i64 2]))
                (Tree.br (decide ((↑(D.len d) : Int) ≥ 1024))
                  (Tree.ret
                    (SV.tup
                      [SV.agg
                          [SV.int IntKind.i64 0, SV.int IntKind.i64 0, SV.nils, SV.int IntKind.i64 0,
                            SV.int IntKind.i64 0],
                        SV.nils, SV.int IntKind.i64 6]))
                  (Tree.br (D.isNil d)
                    (Tree.all fun hs =>
                      Tree.need
                        (D.Fits (D.slc (D.hd (hs 0 0)) 1 [[D.int IntKind.i64 n]]) 1 ∧
                          D.len (D.slc (D.hd (hs 0 0)) 1 [[D.int IntKind.i64 n]]) * 8 ≤ 140737488355328 ∧
                            D.len (D.slc (D.hd (hs 0 0)) 1 [[D.int IntKind.i64 n]]) ≤ 9223372036854775807)
                        (Tree.all fun hs_1 =>
                          Tree.all fun hs_2 =>
                            Tree.need
                              (D.Fits
                                  (D.slc (D.hd (hs_2 18 0)) 8
                                    [[D.int IntKind.i64 8, D.int IntKind.i64 0, D.int IntKind.i64 s, D.int IntKind.i64 n,
                                        D.int IntKind.i64 0, D.int IntKind.i64 e, D.slc none 0 [], D.slc none 0 []]])
                                  8 ∧
                                D.len
                                        (D.slc (D.hd (hs_2 18 0)) 8
                                          [[D.int IntKind.i64 8, D.int IntKind.i64 0, D.int IntKind.i64 s,
                                              D.int IntKind.i64 n, D.int IntKind.i64 0, D.int IntKind.i64 e,
                                              D.slc none 0 [], D.slc none 0 []]]) *
                                      96 ≤
                                    140737488355328 ∧
                                  D.len
                                      (D.slc (D.hd (hs_2 18 0)) 8
                                        [[D.int IntKind.i64 8, D.int IntKind.i64 0, D.int IntKind.i64 s,
                                            D.int IntKind.i64 n, D.int IntKind.i64 0, D.int IntKind.i64 e,
                                            D.slc none 0 [], D.slc none 0 []]]) ≤
                                    9223372036854775807)
                              (Tree.all fun hs_3 =>
                                Tree.ret
                                  (SV.tup
                                    [SV.agg
                                        [SV.int IntKind.i64 e, SV.int IntKind.i64 s,
                                          SV.dat
                                            (D.slc (D.hd (hs_1 0 0)) 1
                                              (D.rows (D.slc (D.hd (hs 0 0)) 1 [[D.int IntKind.i64 n]]))),
                                          SV.int IntKind.i64 st, SV.int IntKind.i64 ap],
                                      SV.dat
                                        (D.slc (D.hd (hs_2 19 0)) 8
                                          (D.rows
                                            (D.slc (D.hd (hs_2 18 0)) 8
                                              [[D.int IntKind.i64 8, D.int IntKind.i64 0, D.int IntKind.i64 s,
                                                  D.int IntKind.i64 n, D.int IntKind.i64 0, D.int IntKind.i64 e,
                                                  D.slc none 0 [], D.slc none 0 []]]))),
                                      SV.int IntKind.i64 0]))))
                    (Tree.all fun hs =>
                      Tree.need
                        (D.sz (D.slc (D.hd (hs 0 0)) 1 []) = 1 ∧
                          D.Fits d 1 ∧
                            (D.len (D.slc (D.hd (hs 0 0)) 1 []) + D.len d) * 8 ≤ 140737488355328 ∧
                              D.len (D.slc (D.hd (hs 0 0)) 1 []) + D.len d ≤ 9223372036854775807)
                        (Tree.all fun hs_1 =>
                          Tree.all fun hs_2 =>
                            Tree.need
                              (D.sz
                                    (D.slc (D.hd (hs_1 0 0)) 1
                                      (List.append (D.rows (D.slc (D.hd (hs 0 0)) 1 [])) (D.rows d))) =
                                  1 ∧
                                D.Fits (D.slc (D.hd (hs_2 0 0)) 1 [[D.int IntKind.i64 n]]) 1 ∧
                                  (D.len
                                            (D.slc (D.hd (hs_1 0 0)) 1
                                              (List.append (D.rows (D.slc (D.hd (hs 0 0)) 1 [])) (D.rows d))) +
                                          D.len (D.slc (D.hd (hs_2 0 0)) 1 [[D.int IntKind.i64 n]])) *
                                        8 ≤
                                      140737488355328 ∧
                                    D.len
                                          (D.slc (D.hd (hs_1 0 0)) 1
                                            (List.append (D.rows (D.slc (D.hd (hs 0 0)) 1 [])) (D.rows d))) +
                                        D.len (D.slc (D.hd (hs_2 0 0)) 1 [[D.int IntKind.i64 n]]) ≤
                                      9223372036854775807)
                              (Tree.all fun hs_3 =>
                                Tree.all fun hs_4 =>
                                  Tree.need
                                    (D.Fits
                                        (D.slc (D.hd (hs_4 18 0)) 8
                                          [[D.int IntKind.i64 8, D.int IntKind.i64 0, D.int IntKind.i64 s,
                                              D.int IntKind.i64 n, D.int IntKind.i64 0, D.int IntKind.i64 e,
                                              D.slc none 0 [], D.slc none 0 []]])
                                        8 ∧
                                      D.len
                                              (D.slc (D.hd (hs_4 18 0)) 8
                                                [[D.int IntKind.i64 8, D.int IntKind.i64 0, D.int IntKind.i64 s,
                                                    D.int IntKind.i64 n, D.int IntKind.i64 0, D.int IntKind.i64 e,
                                                    D.slc none 0 [], D.slc none 0 []]]) *
                                            96 ≤
                                          140737488355328 ∧
                                        D.len
                                            (D.slc (D.hd (hs_4 18 0)) 8
                                              [[D.int IntKind.i64 8, D.int IntKind.i64 0, D.int IntKind.i64 s,
                                                  D.int IntKind.i64 n, D.int IntKind.i64 0, D.int IntKind.i64 e,
                                                  D.slc none 0 [], D.slc none 0 []]]) ≤
                                          9223372036854775807)
                                    (Tree.all fun hs_5 =>
                                      Tree.ret
                                        (SV.tup
                                          [SV.agg
                                              [SV.int IntKind.i64 e, SV.int IntKind.i64 s,
                                                SV.dat
                                                  (D.slc (D.hd (hs_3 0 0)) 1
                                                    (List.append
                                                      (D.rows
                                                        (D.slc (D.hd (hs_1 0 0)) 1
                                                          (List.append (D.rows (D.slc (D.hd (hs 0 0)) 1 [])) (D.rows d))))
                                                      (D.rows (D.slc (D.hd (hs_2 0 0)) 1 [[D.int IntKind.i64 n]])))),
                                                SV.int IntKind.i64 st, SV.int IntKind.i64 ap],
                                            SV.dat
                                              (D.slc (D.hd (hs_4 19 0)) 8
                                                (D.rows
                                                  (D.slc (D.hd (hs_4 18 0)) 8
                                                    [[D.int IntKind.i64 8, D.int IntKind.i64 0, D.int IntKind.i64 s,
                                                        D.int IntKind.i64 n, D.int IntKind.i64 0, D.int IntKind.i64 e,
                                                        D.slc none 0 [], D.slc none 0 []]]))),
                                            SV.int IntKind.i64 0])))))))))))
        (Tree.br (decide (n ≤ ap))
          (Tree.ret
            (SV.tup
              [SV.agg [SV.int IntKind.i64 0, SV.int IntKind.i64 0, SV.nils, SV.int IntKind.i64 0, SV.int IntKind.i64 0],
                SV.nils, SV.int IntKind.i64 8]))
          (Tree.br (decide (n > 1073741824))
            (Tree.ret
              (SV.tup
                [SV.agg [SV.int IntKind.i64 0, SV.int IntKind.i64 0, SV.nils, SV.int IntKind.i64 0, SV.int IntKind.i64 0],
                  SV.nils, SV.int IntKind.i64 2]))
            (Tree.br (decide ((↑(D.len d) : Int) ≥ 1024))
              (Tree.ret
                (SV.tup
                  [SV.agg
                      [SV.int IntKind.i64 0, SV.int IntKind.i64 0, SV.nils, SV.int IntKind.i64 0, SV.int IntKind.i64 0],
                    SV.nils, SV.int IntKind.i64 6]))
              (Tree.br (D.isNil d)
                (Tree.all fun hs =>
                  Tree.need
                    (D.Fits (D.slc (D.hd (hs 0 0)) 1 [[D.int IntKind.i64 n]]) 1 ∧
                      D.len (D.slc (D.hd (hs 0 0)) 1 [[D.int IntKind.i64 n]]) * 8 ≤ 140737488355328 ∧
                        D.len (D.slc (D.hd (hs 0 0)) 1 [[D.int IntKind.i64 n]]) ≤ 9223372036854775807)
                    (Tree.all fun hs_1 =>
                      Tree.all fun hs_2 =>
                        Tree.need
                          (D.Fits
                              (D.slc (D.hd (hs_2 18 0)) 8
                                [[D.int IntKind.i64 8, D.int IntKind.i64 0, D.int IntKind.i64 s, D.int IntKind.i64 n,
                                    D.int IntKind.i64 0, D.int IntKind.i64 e, D.slc none 0 [], D.slc none 0 []]])
                              8 ∧
                            D.len
                                    (D.slc (D.hd (hs_2 18 0)) 8
                                      [[D.int IntKind.i64 8, D.int IntKind.i64 0, D.int IntKind.i64 s,
                                          D.int IntKind.i64 n, D.int IntKind.i64 0, D.int IntKind.i64 e, D.slc none 0 [],
                                          D.slc none 0 []]]) *
                                  96 ≤
                                140737488355328 ∧
                              D.len
                                  (D.slc (D.hd (hs_2 18 0)) 8
                                    [[D.int IntKind.i64 8, D.int IntKind.i64 0, D.int IntKind.i64 s, D.int IntKind.i64 n,
                                        D.int IntKind.i64 0, D.int IntKind.i64 e, D.slc none 0 [], D.slc none 0 []]]) ≤
                                9223372036854775807)
                          (Tree.all fun hs_3 =>
                            Tree.ret
                              (SV.tup
                                [SV.agg
                                    [SV.int IntKind.i64 e, SV.int IntKind.i64 s,
                                      SV.dat
                                        (D.slc (D.hd (hs_1 0 0)) 1
                                          (D.rows (D.slc (D.hd (hs 0 0)) 1 [[D.int IntKind.i64 n]]))),
                                      SV.int IntKind.i64 st, SV.int IntKind.i64 ap],
                                  SV.dat
                                    (D.slc (D.hd (hs_2 19 0)) 8
                                      (D.rows
                                        (D.slc (D.hd (hs_2 18 0)) 8
                                          [[D.int IntKind.i64 8, D.int IntKind.i64 0, D.int IntKind.i64 s,
                                              D.int IntKind.i64 n, D.int IntKind.i64 0, D.int IntKind.i64 e,
                                              D.slc none 0 [], D.slc none 0 []]]))),
                                  SV.int IntKind.i64 0]))))
                (Tree.all fun hs =>
                  Tree.need
                    (D.sz (D.slc (D.hd (hs 0 0)) 1 []) = 1 ∧
                      D.Fits d 1 ∧
                        (D.len (D.slc (D.hd (hs 0 0)) 1 []) + D.len d) * 8 ≤ 140737488355328 ∧
                          D.len (D.slc (D.hd (hs 0 0)) 1 []) + D.len d ≤ 9223372036854775807)
                    (Tree.all fun hs_1 =>
                      Tree.all fun hs_2 =>
                        Tree.need
                          (D.sz
                                (D.slc (D.hd (hs_1 0 0)) 1
                                  (List.append (D.rows (D.slc (D.hd (hs 0 0)) 1 [])) (D.rows d))) =
                              1 ∧
                            D.Fits (D.slc (D.hd (hs_2 0 0)) 1 [[D.int IntKind.i64 n]]) 1 ∧
                              (D.len
                                        (D.slc (D.hd (hs_1 0 0)) 1
                                          (List.append (D.rows (D.slc (D.hd (hs 0 0)) 1 [])) (D.rows d))) +
                                      D.len (D.slc (D.hd (hs_2 0 0)) 1 [[D.int IntKind.i64 n]])) *
                                    8 ≤
                                  140737488355328 ∧
                                D.len
                                      (D.slc (D.hd (hs_1 0 0)) 1
                                        (List.append (D.rows (D.slc (D.hd (hs 0 0)) 1 [])) (D.rows d))) +
                                    D.len (D.slc (D.hd (hs_2 0 0)) 1 [[D.int IntKind.i64 n]]) ≤
                                  9223372036854775807)
                          (Tree.all fun hs_3 =>
                            Tree.all fun hs_4 =>
                              Tree.need
                                (D.Fits
                                    (D.slc (D.hd (hs_4 18 0)) 8
                                      [[D.int IntKind.i64 8, D.int IntKind.i64 0, D.int IntKind.i64 s,
                                          D.int IntKind.i64 n, D.int IntKind.i64 0, D.int IntKind.i64 e, D.slc none 0 [],
                                          D.slc none 0 []]])
                                    8 ∧
                                  D.len
                                          (D.slc (D.hd (hs_4 18 0)) 8
                                            [[D.int IntKind.i64 8, D.int IntKind.i64 0, D.int IntKind.i64 s,
                                                D.int IntKind.i64 n, D.int IntKind.i64 0, D.int IntKind.i64 e,
                                                D.slc none 0 [], D.slc none 0 []]]) *
                                        96 ≤
                                      140737488355328 ∧
                                    D.len
                                        (D.slc (D.hd (hs_4 18 0)) 8
                                          [[D.int IntKind.i64 8, D.int IntKind.i64 0, D.int IntKind.i64 s,
                                              D.int IntKind.i64 n, D.int IntKind.i64 0, D.int IntKind.i64 e,
                                              D.slc none 0 [], D.slc none 0 []]]) ≤
                                      9223372036854775807)
                                (Tree.all fun hs_5 =>
                                  Tree.ret
                                    (SV.tup
                                      [SV.agg
                                          [SV.int IntKind.i64 e, SV.int IntKind.i64 s,
                                            SV.dat
                                              (D.slc (D.hd (hs_3 0 0)) 1
                                                (List.append
                                                  (D.rows
                                                    (D.slc (D.hd (hs_1 0 0)) 1
                                                      (List.append (D.rows (D.slc (D.hd (hs 0 0)) 1 [])) (D.rows d))))
                                                  (D.rows (D.slc (D.hd (hs_2 0 0)) 1 [[D.int IntKind.i64 n]])))),
                                            SV.int IntKind.i64 st, SV.int IntKind.i64 ap],
                                        SV.dat
                                          (D.slc (D.hd (hs_4 19 0)) 8
                                            (D.rows
                                              (D.slc (D.hd (hs_4 18 0)) 8
                                                [[D.int IntKind.i64 8, D.int IntKind.i64 0, D.int IntKind.i64 s,
                                                    D.int IntKind.i64 n, D.int IntKind.i64 0, D.int IntKind.i64 e,
                                                    D.slc none 0 [], D.slc none 0 []]]))),
                                        SV.int IntKind.i64 0]))))))))))) := by kernel_rfl

theorem offer2_in : exec Try.prog ct2 400 (entry Try.prog 23 [.agg [.int .i64 e, .int .i64 s, .dat d, .int .i64 st, .int .i64 ap], .int .i64 n]) =
  Tree.need (D.Is Int d)
    (Tree.br (checkSource (SrcD.src (SrcD.mk e s d st ap)) != 0)
      (Tree.ret
        (SV.tup
          [SV.agg [SV.int IntKind.i64 0, SV.int IntKind.i64 0, SV.nils, SV.int IntKind.i64 0, SV.int IntKind.i64 0],
            SV.nils, SV.int IntKind.i64 (checkSource (SrcD.src (SrcD.mk e s d st ap)))]))
      (Tree.br (decide ((↑(D.len d) : Int) > 0))
        (Tree.need
          (0 ≤ IntKind.wrap IntKind.i64 ((↑(D.len d) : Int) - 1) ∧
            IntKind.wrap IntKind.i64 ((↑(D.len d) : Int) - 1) < (↑(D.len d) : Int) ∧ D.sz d = 1)
          (Tree.need (D.HasCell d (Int.toNat (IntKind.wrap IntKind.i64 ((↑(D.len d) : Int) - 1))) 0 (FT.int IntKind.i64))
            (Tree.br (decide (n ≤ D.getInt d (Int.toNat (IntKind.wrap IntKind.i64 ((↑(D.len d) : Int) - 1))) 0))
              (Tree.ret
                (SV.tup
                  [SV.agg
                      [SV.int IntKind.i64 0, SV.int IntKind.i64 0, SV.nils, SV.int IntKind.i64 0, SV.int IntKind.i64 0],
                    SV.nils, SV.int IntKind.i64 8]))
              (Tree.br (decide (n > 1073741824))
                (Tree.ret
                  (SV.tup
                    [SV.agg
                        [SV.int IntKind.i64 0, SV.int IntKind.i64 0, SV.nils, SV.int IntKind.i64 0, SV.int IntKind.i64 0],
                      SV.nils, SV.int IntKind.i64 2]))
                (Tree.br (decide ((↑(D.len d) : Int) ≥ 1024))
                  (Tree.ret
                    (SV.tup
                      [SV.agg
                          [SV.int IntKind.i64 0, SV.int IntKind.i64 0, SV.nils, SV.int IntKind.i64 0,
                            SV.int IntKind.i64 0],
                        SV.nils, SV.int IntKind.i64 6]))
                  (Tree.need (D.Fits d 1 ∧ D.len d * 8 ≤ 140737488355328 ∧ D.len d ≤ 9223372036854775807)
                    (Tree.all fun hs =>
                      Tree.all fun hs_1 =>
                        Tree.need
                          (D.sz (D.slc (D.hd (hs 0 0)) 1 (D.rows d)) = 1 ∧
                            D.Fits (D.slc (D.hd (hs_1 0 0)) 1 [[D.int IntKind.i64 n]]) 1 ∧
                              (D.len (D.slc (D.hd (hs 0 0)) 1 (D.rows d)) +
                                      D.len (D.slc (D.hd (hs_1 0 0)) 1 [[D.int IntKind.i64 n]])) *
                                    8 ≤
                                  140737488355328 ∧
                                D.len (D.slc (D.hd (hs 0 0)) 1 (D.rows d)) +
                                    D.len (D.slc (D.hd (hs_1 0 0)) 1 [[D.int IntKind.i64 n]]) ≤
                                  9223372036854775807)
                          (Tree.all fun hs_2 =>
                            Tree.all fun hs_3 =>
                              Tree.ret
                                (SV.tup
                                  [SV.agg
                                      [SV.int IntKind.i64 e, SV.int IntKind.i64 s,
                                        SV.dat
                                          (D.slc (D.hd (hs_2 0 0)) 1
                                            (List.append (D.rows (D.slc (D.hd (hs 0 0)) 1 (D.rows d)))
                                              (D.rows (D.slc (D.hd (hs_1 0 0)) 1 [[D.int IntKind.i64 n]])))),
                                        SV.int IntKind.i64 st, SV.int IntKind.i64 ap],
                                    SV.dat
                                      (D.slc (D.hd (hs_3 4 0)) 8
                                        [[D.int IntKind.i64 8, D.int IntKind.i64 0, D.int IntKind.i64 s,
                                            D.int IntKind.i64 n, D.int IntKind.i64 0, D.int IntKind.i64 e,
                                            D.slc none 0 [], D.slc none 0 []]]),
                                    SV.int IntKind.i64 0])))))))))
        (Tree.br (decide (n ≤ ap))
          (Tree.ret
            (SV.tup
              [SV.agg [SV.int IntKind.i64 0, SV.int IntKind.i64 0, SV.nils, SV.int IntKind.i64 0, SV.int IntKind.i64 0],
                SV.nils, SV.int IntKind.i64 8]))
          (Tree.br (decide (n > 1073741824))
            (Tree.ret
              (SV.tup
                [SV.agg [SV.int IntKind.i64 0, SV.int IntKind.i64 0, SV.nils, SV.int IntKind.i64 0, SV.int IntKind.i64 0],
                  SV.nils, SV.int IntKind.i64 2]))
            (Tree.br (decide ((↑(D.len d) : Int) ≥ 1024))
              (Tree.ret
                (SV.tup
                  [SV.agg
                      [SV.int IntKind.i64 0, SV.int IntKind.i64 0, SV.nils, SV.int IntKind.i64 0, SV.int IntKind.i64 0],
                    SV.nils, SV.int IntKind.i64 6]))
              (Tree.need (D.Fits d 1 ∧ D.len d * 8 ≤ 140737488355328 ∧ D.len d ≤ 9223372036854775807)
                (Tree.all fun hs =>
                  Tree.all fun hs_1 =>
                    Tree.need
                      (D.sz (D.slc (D.hd (hs 0 0)) 1 (D.rows d)) = 1 ∧
                        D.Fits (D.slc (D.hd (hs_1 0 0)) 1 [[D.int IntKind.i64 n]]) 1 ∧
                          (D.len (D.slc (D.hd (hs 0 0)) 1 (D.rows d)) +
                                  D.len (D.slc (D.hd (hs_1 0 0)) 1 [[D.int IntKind.i64 n]])) *
                                8 ≤
                              140737488355328 ∧
                            D.len (D.slc (D.hd (hs 0 0)) 1 (D.rows d)) +
                                D.len (D.slc (D.hd (hs_1 0 0)) 1 [[D.int IntKind.i64 n]]) ≤
                              9223372036854775807)
                      (Tree.all fun hs_2 =>
                        Tree.all fun hs_3 =>
                          Tree.ret
                            (SV.tup
                              [SV.agg
                                  [SV.int IntKind.i64 e, SV.int IntKind.i64 s,
                                    SV.dat
                                      (D.slc (D.hd (hs_2 0 0)) 1
                                        (List.append (D.rows (D.slc (D.hd (hs 0 0)) 1 (D.rows d)))
                                          (D.rows (D.slc (D.hd (hs_1 0 0)) 1 [[D.int IntKind.i64 n]])))),
                                    SV.int IntKind.i64 st, SV.int IntKind.i64 ap],
                                SV.dat
                                  (D.slc (D.hd (hs_3 4 0)) 8
                                    [[D.int IntKind.i64 8, D.int IntKind.i64 0, D.int IntKind.i64 s, D.int IntKind.i64 n,
                                        D.int IntKind.i64 0, D.int IntKind.i64 e, D.slc none 0 [], D.slc none 0 []]]),
                                SV.int IntKind.i64 0]))))))))) := by kernel_rfl

theorem resend1_in : exec Try.prog ct2 400 (entry Try.prog 25 [.agg [.int .i64 e, .int .i64 s, .dat d, .int .i64 st, .int .i64 ap]]) =
  Tree.need (D.Is Int d)
    (Tree.br (checkSource (SrcD.src (SrcD.mk e s d st ap)) != 0) (Tree.ret SV.nils)
      (Tree.br (D.isNil d)
        (Tree.br (decide (st > ap))
          (Tree.all fun hs =>
            Tree.need
              (D.Fits
                  (D.slc (D.hd (hs 18 0)) 8
                    [[D.int IntKind.i64 10, D.int IntKind.i64 0, D.int IntKind.i64 s, D.int IntKind.i64 st,
                        D.int IntKind.i64 0, D.int IntKind.i64 e, D.slc none 0 [], D.slc none 0 []]])
                  8 ∧
                D.len
                        (D.slc (D.hd (hs 18 0)) 8
                          [[D.int IntKind.i64 10, D.int IntKind.i64 0, D.int IntKind.i64 s, D.int IntKind.i64 st,
                              D.int IntKind.i64 0, D.int IntKind.i64 e, D.slc none 0 [], D.slc none 0 []]]) *
                      96 ≤
                    140737488355328 ∧
                  D.len
                      (D.slc (D.hd (hs 18 0)) 8
                        [[D.int IntKind.i64 10, D.int IntKind.i64 0, D.int IntKind.i64 s, D.int IntKind.i64 st,
                            D.int IntKind.i64 0, D.int IntKind.i64 e, D.slc none 0 [], D.slc none 0 []]]) ≤
                    9223372036854775807)
              (Tree.leaf
                (Conf.mk
                  (SFrm.mk 25 none none
                    [Item.inLoop (cAt Try.prog 25 [1, 1, 1, 1, 0, 1, 0, 0]), Item.inBlock 0,
                      Item.code (cAt Try.prog 25 [1, 1, 1, 1, 1])]
                    (mkJ 0
                      [(1, SV.ptr 0 0), (3, SV.ptr 1 0), (21, SV.dat d), (22, SV.int IntKind.i64 (↑(D.len d) : Int)),
                        (23, SV.int IntKind.i64 0)]
                      0 39))
                  []
                  [(0,
                      OBlk.cells 24
                        [SV.int IntKind.i64 e, SV.int IntKind.i64 s, SV.dat d, SV.int IntKind.i64 st,
                          SV.int IntKind.i64 ap]),
                    (1,
                      OBlk.cells 79
                        [SV.int IntKind.i64 e, SV.int IntKind.i64 s, SV.nils, SV.int IntKind.i64 st,
                          SV.int IntKind.i64 ap, SV.vec 2]),
                    (2,
                      OBlk.arr 53
                        (D.slc (D.hd (hs 19 0)) 8
                          (D.rows
                            (D.slc (D.hd (hs 18 0)) 8
                              [[D.int IntKind.i64 10, D.int IntKind.i64 0, D.int IntKind.i64 s, D.int IntKind.i64 st,
                                  D.int IntKind.i64 0, D.int IntKind.i64 e, D.slc none 0 [], D.slc none 0 []]]))))])))
          (Tree.leaf
            (Conf.mk
              (SFrm.mk 25 none none
                [Item.inLoop (cAt Try.prog 25 [1, 1, 1, 1, 0, 1, 0, 0]), Item.inBlock 0,
                  Item.code (cAt Try.prog 25 [1, 1, 1, 1, 1])]
                (mkJ 0
                  [(1, SV.ptr 0 0), (3, SV.ptr 1 0), (21, SV.dat d), (22, SV.int IntKind.i64 (↑(D.len d) : Int)),
                    (23, SV.int IntKind.i64 0)]
                  0 39))
              []
              [(0,
                  OBlk.cells 24
                    [SV.int IntKind.i64 e, SV.int IntKind.i64 s, SV.dat d, SV.int IntKind.i64 st, SV.int IntKind.i64 ap]),
                (1,
                  OBlk.cells 79
                    [SV.int IntKind.i64 e, SV.int IntKind.i64 s, SV.nils, SV.int IntKind.i64 st, SV.int IntKind.i64 ap,
                      SV.nils])])))
        (Tree.all fun hs =>
          Tree.need
            (D.sz (D.slc (D.hd (hs 0 0)) 1 []) = 1 ∧
              D.Fits d 1 ∧
                (D.len (D.slc (D.hd (hs 0 0)) 1 []) + D.len d) * 8 ≤ 140737488355328 ∧
                  D.len (D.slc (D.hd (hs 0 0)) 1 []) + D.len d ≤ 9223372036854775807)
            (Tree.all fun hs_1 =>
              Tree.br (decide (st > ap))
                (Tree.all fun hs_2 =>
                  Tree.need
                    (D.Fits
                        (D.slc (D.hd (hs_2 18 0)) 8
                          [[D.int IntKind.i64 10, D.int IntKind.i64 0, D.int IntKind.i64 s, D.int IntKind.i64 st,
                              D.int IntKind.i64 0, D.int IntKind.i64 e, D.slc none 0 [], D.slc none 0 []]])
                        8 ∧
                      D.len
                              (D.slc (D.hd (hs_2 18 0)) 8
                                [[D.int IntKind.i64 10, D.int IntKind.i64 0, D.int IntKind.i64 s, D.int IntKind.i64 st,
                                    D.int IntKind.i64 0, D.int IntKind.i64 e, D.slc none 0 [], D.slc none 0 []]]) *
                            96 ≤
                          140737488355328 ∧
                        D.len
                            (D.slc (D.hd (hs_2 18 0)) 8
                              [[D.int IntKind.i64 10, D.int IntKind.i64 0, D.int IntKind.i64 s, D.int IntKind.i64 st,
                                  D.int IntKind.i64 0, D.int IntKind.i64 e, D.slc none 0 [], D.slc none 0 []]]) ≤
                          9223372036854775807)
                    (Tree.leaf
                      (Conf.mk
                        (SFrm.mk 25 none none
                          [Item.inLoop (cAt Try.prog 25 [1, 1, 1, 1, 0, 1, 0, 0]), Item.inBlock 0,
                            Item.code (cAt Try.prog 25 [1, 1, 1, 1, 1])]
                          (mkJ 0
                            [(1, SV.ptr 0 0), (3, SV.ptr 1 0), (21, SV.dat d),
                              (22, SV.int IntKind.i64 (↑(D.len d) : Int)), (23, SV.int IntKind.i64 0)]
                            0 39))
                        []
                        [(0,
                            OBlk.cells 24
                              [SV.int IntKind.i64 e, SV.int IntKind.i64 s, SV.dat d, SV.int IntKind.i64 st,
                                SV.int IntKind.i64 ap]),
                          (1,
                            OBlk.cells 79
                              [SV.int IntKind.i64 e, SV.int IntKind.i64 s, SV.vec 2, SV.int IntKind.i64 st,
                                SV.int IntKind.i64 ap, SV.vec 3]),
                          (2,
                            OBlk.arr 3
                              (D.slc (D.hd (hs_1 0 0)) 1 (List.append (D.rows (D.slc (D.hd (hs 0 0)) 1 [])) (D.rows d)))),
                          (3,
                            OBlk.arr 53
                              (D.slc (D.hd (hs_2 19 0)) 8
                                (D.rows
                                  (D.slc (D.hd (hs_2 18 0)) 8
                                    [[D.int IntKind.i64 10, D.int IntKind.i64 0, D.int IntKind.i64 s,
                                        D.int IntKind.i64 st, D.int IntKind.i64 0, D.int IntKind.i64 e, D.slc none 0 [],
                                        D.slc none 0 []]]))))])))
                (Tree.leaf
                  (Conf.mk
                    (SFrm.mk 25 none none
                      [Item.inLoop (cAt Try.prog 25 [1, 1, 1, 1, 0, 1, 0, 0]), Item.inBlock 0,
                        Item.code (cAt Try.prog 25 [1, 1, 1, 1, 1])]
                      (mkJ 0
                        [(1, SV.ptr 0 0), (3, SV.ptr 1 0), (21, SV.dat d), (22, SV.int IntKind.i64 (↑(D.len d) : Int)),
                          (23, SV.int IntKind.i64 0)]
                        0 39))
                    []
                    [(0,
                        OBlk.cells 24
                          [SV.int IntKind.i64 e, SV.int IntKind.i64 s, SV.dat d, SV.int IntKind.i64 st,
                            SV.int IntKind.i64 ap]),
                      (1,
                        OBlk.cells 79
                          [SV.int IntKind.i64 e, SV.int IntKind.i64 s, SV.vec 2, SV.int IntKind.i64 st,
                            SV.int IntKind.i64 ap, SV.nils]),
                      (2,
                        OBlk.arr 3
                          (D.slc (D.hd (hs_1 0 0)) 1
                            (List.append (D.rows (D.slc (D.hd (hs 0 0)) 1 [])) (D.rows d))))])))))) := by kernel_rfl

theorem resend2_in : exec Try.prog ct2 400 (entry Try.prog 26 [.agg [.int .i64 e, .int .i64 s, .dat d, .int .i64 st, .int .i64 ap]]) =
  Tree.need (D.Is Int d)
    (Tree.br (checkSource (SrcD.src (SrcD.mk e s d st ap)) != 0) (Tree.ret SV.nils)
      (Tree.br (decide (st > ap))
        (Tree.all fun hs =>
          Tree.all fun hs =>
            Tree.need
              (D.Fits
                  (D.slc (D.hd (hs 0 0)) 8
                    [[D.int IntKind.i64 10, D.int IntKind.i64 0, D.int IntKind.i64 s, D.int IntKind.i64 st,
                        D.int IntKind.i64 0, D.int IntKind.i64 e, D.slc none 0 [], D.slc none 0 []]])
                  8 ∧
                D.len
                        (D.slc (D.hd (hs 0 0)) 8
                          [[D.int IntKind.i64 10, D.int IntKind.i64 0, D.int IntKind.i64 s, D.int IntKind.i64 st,
                              D.int IntKind.i64 0, D.int IntKind.i64 e, D.slc none 0 [], D.slc none 0 []]]) *
                      96 ≤
                    140737488355328 ∧
                  D.len
                      (D.slc (D.hd (hs 0 0)) 8
                        [[D.int IntKind.i64 10, D.int IntKind.i64 0, D.int IntKind.i64 s, D.int IntKind.i64 st,
                            D.int IntKind.i64 0, D.int IntKind.i64 e, D.slc none 0 [], D.slc none 0 []]]) ≤
                    9223372036854775807)
              (Tree.all fun hs_1 =>
                Tree.leaf
                  (Conf.mk
                    (SFrm.mk 26 none none
                      [Item.inLoop (cAt Try.prog 26 [1, 1, 1, 1, 0, 1, 0, 0]), Item.inBlock 0,
                        Item.code (cAt Try.prog 26 [1, 1, 1, 1, 1])]
                      (mkJ 0 [(1, SV.ptr 0 0), (3, SV.vec 1), (4, SV.int IntKind.i64 0)] 0 46))
                    []
                    [(0,
                        OBlk.cells 24
                          [SV.int IntKind.i64 e, SV.int IntKind.i64 s, SV.dat d, SV.int IntKind.i64 st,
                            SV.int IntKind.i64 ap]),
                      (1,
                        OBlk.arr 53
                          (D.slc (D.hd (hs_1 0 0)) 8
                            (D.rows
                              (D.slc (D.hd (hs 0 0)) 8
                                [[D.int IntKind.i64 10, D.int IntKind.i64 0, D.int IntKind.i64 s, D.int IntKind.i64 st,
                                    D.int IntKind.i64 0, D.int IntKind.i64 e, D.slc none 0 [], D.slc none 0 []]]))))])))
        (Tree.leaf
          (Conf.mk
            (SFrm.mk 26 none none
              [Item.inLoop (cAt Try.prog 26 [1, 1, 1, 1, 0, 1, 0, 0]), Item.inBlock 0,
                Item.code (cAt Try.prog 26 [1, 1, 1, 1, 1])]
              (mkJ 0 [(1, SV.ptr 0 0), (3, SV.nils), (4, SV.int IntKind.i64 0)] 0 46))
            []
            [(0,
                OBlk.cells 24
                  [SV.int IntKind.i64 e, SV.int IntKind.i64 s, SV.dat d, SV.int IntKind.i64 st,
                    SV.int IntKind.i64 ap])])))) := by kernel_rfl

theorem rel1_in : exec Try.prog ct2 400 (entry Try.prog 27 [.agg [.int .i64 e, .int .i64 s, .dat d, .int .i64 st, .int .i64 ap]]) =
  Tree.need (D.Is Int d)
    (Tree.br (checkSource (SrcD.src (SrcD.mk e s d st ap)) != 0) (Tree.ret (SV.int IntKind.i64 0))
      (Tree.ret (SV.int IntKind.i64 ap))) := by kernel_rfl

theorem rel2_in : exec Try.prog ct2 400 (entry Try.prog 28 [.agg [.int .i64 e, .int .i64 s, .dat d, .int .i64 st, .int .i64 ap]]) =
  Tree.need (D.Is Int d)
    (Tree.br (checkSource (SrcD.src (SrcD.mk e s d st ap)) != 0) (Tree.ret (SV.int IntKind.i64 0))
      (Tree.ret (SV.int IntKind.i64 ap))) := by kernel_rfl

theorem learn1_in : exec Try.prog ct2 600 (entry Try.prog 29 [.agg [.int .i64 e, .int .i64 s, .dat d, .int .i64 st, .int .i64 ap], .agg [.int .i64 mk, .int .i64 mf, .int .i64 mt, .int .i64 mn, .int .i64 mv, .int .i64 me, .dat ml, .dat mb]]) =
  Tree.need (D.Is Int d)
    (Tree.br (checkSource (SrcD.src (SrcD.mk e s d st ap)) != 0)
      (Tree.ret
        (SV.tup
          [SV.agg [SV.int IntKind.i64 e, SV.int IntKind.i64 s, SV.dat d, SV.int IntKind.i64 st, SV.int IntKind.i64 ap],
            SV.nils]))
      (Tree.br (mf != s)
        (Tree.ret
          (SV.tup
            [SV.agg [SV.int IntKind.i64 e, SV.int IntKind.i64 s, SV.dat d, SV.int IntKind.i64 st, SV.int IntKind.i64 ap],
              SV.nils]))
        (Tree.br (decide (me < e))
          (Tree.ret
            (SV.tup
              [SV.agg
                  [SV.int IntKind.i64 e, SV.int IntKind.i64 s, SV.dat d, SV.int IntKind.i64 st, SV.int IntKind.i64 ap],
                SV.nils]))
          (Tree.br (decide (me ≥ 0))
            (Tree.br (!decide (me ≤ 1073741824))
              (Tree.ret
                (SV.tup
                  [SV.agg
                      [SV.int IntKind.i64 e, SV.int IntKind.i64 s, SV.dat d, SV.int IntKind.i64 st,
                        SV.int IntKind.i64 ap],
                    SV.nils]))
              (Tree.br (D.isNil d)
                (Tree.br (decide (mk = 9))
                  (Tree.br (decide (me > e))
                    (Tree.all fun hs =>
                      Tree.all fun hs =>
                        Tree.ret
                          (SV.tup
                            [SV.agg
                                [SV.int IntKind.i64 me, SV.int IntKind.i64 s, SV.nils, SV.int IntKind.i64 ap,
                                  SV.int IntKind.i64 ap],
                              SV.nils]))
                    (Tree.need (D.Is Int (D.slc none 0 []) ∧ 0 ≤ 1048576)
                      (Tree.br (List.contains (D.to Int (D.slc none 0 [])) mv)
                        (Tree.br (decide (mv ≥ st))
                          (Tree.all fun hs =>
                            Tree.need
                              (D.Fits
                                  (D.slc (D.hd (hs 18 0)) 8
                                    [[D.int IntKind.i64 10, D.int IntKind.i64 0, D.int IntKind.i64 s,
                                        D.int IntKind.i64 mv, D.int IntKind.i64 0, D.int IntKind.i64 e, D.slc none 0 [],
                                        D.slc none 0 []]])
                                  8 ∧
                                D.len
                                        (D.slc (D.hd (hs 18 0)) 8
                                          [[D.int IntKind.i64 10, D.int IntKind.i64 0, D.int IntKind.i64 s,
                                              D.int IntKind.i64 mv, D.int IntKind.i64 0, D.int IntKind.i64 e,
                                              D.slc none 0 [], D.slc none 0 []]]) *
                                      96 ≤
                                    140737488355328 ∧
                                  D.len
                                      (D.slc (D.hd (hs 18 0)) 8
                                        [[D.int IntKind.i64 10, D.int IntKind.i64 0, D.int IntKind.i64 s,
                                            D.int IntKind.i64 mv, D.int IntKind.i64 0, D.int IntKind.i64 e,
                                            D.slc none 0 [], D.slc none 0 []]]) ≤
                                    9223372036854775807)
                              (Tree.all fun hs_1 =>
                                Tree.ret
                                  (SV.tup
                                    [SV.agg
                                        [SV.int IntKind.i64 e, SV.int IntKind.i64 s, SV.nils, SV.int IntKind.i64 mv,
                                          SV.int IntKind.i64 ap],
                                      SV.dat
                                        (D.slc (D.hd (hs 19 0)) 8
                                          (D.rows
                                            (D.slc (D.hd (hs 18 0)) 8
                                              [[D.int IntKind.i64 10, D.int IntKind.i64 0, D.int IntKind.i64 s,
                                                  D.int IntKind.i64 mv, D.int IntKind.i64 0, D.int IntKind.i64 e,
                                                  D.slc none 0 [], D.slc none 0 []]])))])))
                          (Tree.all fun hs =>
                            Tree.ret
                              (SV.tup
                                [SV.agg
                                    [SV.int IntKind.i64 e, SV.int IntKind.i64 s, SV.nils, SV.int IntKind.i64 st,
                                      SV.int IntKind.i64 ap],
                                  SV.nils])))
                        (Tree.all fun hs =>
                          Tree.ret
                            (SV.tup
                              [SV.agg
                                  [SV.int IntKind.i64 e, SV.int IntKind.i64 s, SV.nils, SV.int IntKind.i64 st,
                                    SV.int IntKind.i64 ap],
                                SV.nils])))))
                  (Tree.br (decide (mk = 11))
                    (Tree.br (decide (me > e))
                      (Tree.all fun hs =>
                        Tree.all fun hs =>
                          Tree.ret
                            (SV.tup
                              [SV.agg
                                  [SV.int IntKind.i64 me, SV.int IntKind.i64 s, SV.nils, SV.int IntKind.i64 ap,
                                    SV.int IntKind.i64 ap],
                                SV.nils]))
                      (Tree.need (D.Is Int (D.slc none 0 []) ∧ 0 ≤ 1048576)
                        (Tree.br (decide (idxF (D.to Int (D.slc none 0 [])) mv ≥ 0))
                          (Tree.need
                            (0 ≤ IntKind.wrap IntKind.i64 (idxF (D.to Int (D.slc none 0 [])) mv + 1) ∧
                              IntKind.wrap IntKind.i64 (idxF (D.to Int (D.slc none 0 [])) mv + 1) ≤ (↑0 : Int) ∧
                                (↑0 : Int) ≤ (↑0 : Int) ∧ D.Fits (D.slc none 0 []) 1)
                            (Tree.all fun hs =>
                              Tree.ret
                                (SV.tup
                                  [SV.agg
                                      [SV.int IntKind.i64 e, SV.int IntKind.i64 s,
                                        SV.dat
                                          (D.sub (D.slc none 0 [])
                                            (Int.toNat
                                              (IntKind.wrap IntKind.i64 (idxF (D.to Int (D.slc none 0 [])) mv + 1)))
                                            0),
                                        SV.int IntKind.i64 (if mv > st then mv else st), SV.int IntKind.i64 mv],
                                    SV.nils])))
                          (Tree.all fun hs =>
                            Tree.ret
                              (SV.tup
                                [SV.agg
                                    [SV.int IntKind.i64 e, SV.int IntKind.i64 s, SV.nils, SV.int IntKind.i64 st,
                                      SV.int IntKind.i64 ap],
                                  SV.nils])))))
                    (Tree.br (decide (mk = 12))
                      (Tree.br (decide (me > e))
                        (Tree.all fun hs =>
                          Tree.all fun hs =>
                            Tree.ret
                              (SV.tup
                                [SV.agg
                                    [SV.int IntKind.i64 me, SV.int IntKind.i64 s, SV.nils, SV.int IntKind.i64 ap,
                                      SV.int IntKind.i64 ap],
                                  SV.nils]))
                        (Tree.all fun hs =>
                          Tree.ret
                            (SV.tup
                              [SV.agg
                                  [SV.int IntKind.i64 e, SV.int IntKind.i64 s, SV.nils, SV.int IntKind.i64 st,
                                    SV.int IntKind.i64 ap],
                                SV.nils])))
                      (Tree.all fun hs =>
                        Tree.ret
                          (SV.tup
                            [SV.agg
                                [SV.int IntKind.i64 e, SV.int IntKind.i64 s, SV.nils, SV.int IntKind.i64 st,
                                  SV.int IntKind.i64 ap],
                              SV.nils])))))
                (Tree.all fun hs =>
                  Tree.need
                    (D.sz (D.slc (D.hd (hs 0 0)) 1 []) = 1 ∧
                      D.Fits d 1 ∧
                        (D.len (D.slc (D.hd (hs 0 0)) 1 []) + D.len d) * 8 ≤ 140737488355328 ∧
                          D.len (D.slc (D.hd (hs 0 0)) 1 []) + D.len d ≤ 9223372036854775807)
                    (Tree.all fun hs_1 =>
                      Tree.br (decide (mk = 9))
                        (Tree.br (decide (me > e))
                          (Tree.all fun hs =>
                            Tree.all fun hs =>
                              Tree.ret
                                (SV.tup
                                  [SV.agg
                                      [SV.int IntKind.i64 me, SV.int IntKind.i64 s, SV.nils, SV.int IntKind.i64 ap,
                                        SV.int IntKind.i64 ap],
                                    SV.nils]))
                          (Tree.need
                            (D.Is Int
                                (D.slc (D.hd (hs_1 0 0)) 1
                                  (List.append (D.rows (D.slc (D.hd (hs 0 0)) 1 [])) (D.rows d))) ∧
                              D.len
                                  (D.slc (D.hd (hs_1 0 0)) 1
                                    (List.append (D.rows (D.slc (D.hd (hs 0 0)) 1 [])) (D.rows d))) ≤
                                1048576)
                            (Tree.br
                              (List.contains
                                (D.to Int
                                  (D.slc (D.hd (hs_1 0 0)) 1
                                    (List.append (D.rows (D.slc (D.hd (hs 0 0)) 1 [])) (D.rows d))))
                                mv)
                              (Tree.br (decide (mv ≥ st))
                                (Tree.all fun hs_2 =>
                                  Tree.need
                                    (D.Fits
                                        (D.slc (D.hd (hs_2 18 0)) 8
                                          [[D.int IntKind.i64 10, D.int IntKind.i64 0, D.int IntKind.i64 s,
                                              D.int IntKind.i64 mv, D.int IntKind.i64 0, D.int IntKind.i64 e,
                                              D.slc none 0 [], D.slc none 0 []]])
                                        8 ∧
                                      D.len
                                              (D.slc (D.hd (hs_2 18 0)) 8
                                                [[D.int IntKind.i64 10, D.int IntKind.i64 0, D.int IntKind.i64 s,
                                                    D.int IntKind.i64 mv, D.int IntKind.i64 0, D.int IntKind.i64 e,
                                                    D.slc none 0 [], D.slc none 0 []]]) *
                                            96 ≤
                                          140737488355328 ∧
                                        D.len
                                            (D.slc (D.hd (hs_2 18 0)) 8
                                              [[D.int IntKind.i64 10, D.int IntKind.i64 0, D.int IntKind.i64 s,
                                                  D.int IntKind.i64 mv, D.int IntKind.i64 0, D.int IntKind.i64 e,
                                                  D.slc none 0 [], D.slc none 0 []]]) ≤
                                          9223372036854775807)
                                    (Tree.all fun hs_3 =>
                                      Tree.ret
                                        (SV.tup
                                          [SV.agg
                                              [SV.int IntKind.i64 e, SV.int IntKind.i64 s,
                                                SV.dat
                                                  (D.slc (D.hd (hs_1 0 0)) 1
                                                    (List.append (D.rows (D.slc (D.hd (hs 0 0)) 1 [])) (D.rows d))),
                                                SV.int IntKind.i64 mv, SV.int IntKind.i64 ap],
                                            SV.dat
                                              (D.slc (D.hd (hs_2 19 0)) 8
                                                (D.rows
                                                  (D.slc (D.hd (hs_2 18 0)) 8
                                                    [[D.int IntKind.i64 10, D.int IntKind.i64 0, D.int IntKind.i64 s,
                                                        D.int IntKind.i64 mv, D.int IntKind.i64 0, D.int IntKind.i64 e,
                                                        D.slc none 0 [], D.slc none 0 []]])))])))
                                (Tree.all fun hs_2 =>
                                  Tree.ret
                                    (SV.tup
                                      [SV.agg
                                          [SV.int IntKind.i64 e, SV.int IntKind.i64 s,
                                            SV.dat
                                              (D.slc (D.hd (hs_1 0 0)) 1
                                                (List.append (D.rows (D.slc (D.hd (hs 0 0)) 1 [])) (D.rows d))),
                                            SV.int IntKind.i64 st, SV.int IntKind.i64 ap],
                                        SV.nils])))
                              (Tree.all fun hs_2 =>
                                Tree.ret
                                  (SV.tup
                                    [SV.agg
                                        [SV.int IntKind.i64 e, SV.int IntKind.i64 s,
                                          SV.dat
                                            (D.slc (D.hd (hs_1 0 0)) 1
                                              (List.append (D.rows (D.slc (D.hd (hs 0 0)) 1 [])) (D.rows d))),
                                          SV.int IntKind.i64 st, SV.int IntKind.i64 ap],
                                      SV.nils])))))
                        (Tree.br (decide (mk = 11))
                          (Tree.br (decide (me > e))
                            (Tree.all fun hs =>
                              Tree.all fun hs =>
                                Tree.ret
                                  (SV.tup
                                    [SV.agg
                                        [SV.int IntKind.i64 me, SV.int IntKind.i64 s, SV.nils, SV.int IntKind.i64 ap,
                                          SV.int IntKind.i64 ap],
                                      SV.nils]))
                            (Tree.need
                              (D.Is Int
                                  (D.slc (D.hd (hs_1 0 0)) 1
                                    (List.append (D.rows (D.slc (D.hd (hs 0 0)) 1 [])) (D.rows d))) ∧
                                D.len
                                    (D.slc (D.hd (hs_1 0 0)) 1
                                      (List.append (D.rows (D.slc (D.hd (hs 0 0)) 1 [])) (D.rows d))) ≤
                                  1048576)
                              (Tree.br
                                (decide
                                  (idxF
                                      (D.to Int
                                        (D.slc (D.hd (hs_1 0 0)) 1
                                          (List.append (D.rows (D.slc (D.hd (hs 0 0)) 1 [])) (D.rows d))))
                                      mv ≥
                                    0))
                                (Tree.need
                                  (0 ≤
                                      IntKind.wrap IntKind.i64
                                        (idxF
                                            (D.to Int
                                              (D.slc (D.hd (hs_1 0 0)) 1
                                                (List.append (D.rows (D.slc (D.hd (hs 0 0)) 1 [])) (D.rows d))))
                                            mv +
                                          1) ∧
                                    IntKind.wrap IntKind.i64
                                          (idxF
                                              (D.to Int
                                                (D.slc (D.hd (hs_1 0 0)) 1
                                                  (List.append (D.rows (D.slc (D.hd (hs 0 0)) 1 [])) (D.rows d))))
                                              mv +
                                            1) ≤
                                        (↑(D.len
                                              (D.slc (D.hd (hs_1 0 0)) 1
                                                (List.append (D.rows (D.slc (D.hd (hs 0 0)) 1 [])) (D.rows d)))) :
                                          Int) ∧
                                      (↑(D.len
                                                (D.slc (D.hd (hs_1 0 0)) 1
                                                  (List.append (D.rows (D.slc (D.hd (hs 0 0)) 1 [])) (D.rows d)))) :
                                            Int) ≤
                                          (↑(D.len
                                                (D.slc (D.hd (hs_1 0 0)) 1
                                                  (List.append (D.rows (D.slc (D.hd (hs 0 0)) 1 [])) (D.rows d)))) :
                                            Int) ∧
                                        D.Fits
                                          (D.slc (D.hd (hs_1 0 0)) 1
                                            (List.append (D.rows (D.slc (D.hd (hs 0 0)) 1 [])) (D.rows d)))
                                          1)
                                  (Tree.all fun hs_2 =>
                                    Tree.ret
                                      (SV.tup
                                        [SV.agg
                                            [SV.int IntKind.i64 e, SV.int IntKind.i64 s,
                                              SV.dat
                                                (D.sub
                                                  (D.slc (D.hd (hs_1 0 0)) 1
                                                    (List.append (D.rows (D.slc (D.hd (hs 0 0)) 1 [])) (D.rows d)))
                                                  (Int.toNat
                                                    (IntKind.wrap IntKind.i64
                                                      (idxF
                                                          (D.to Int
                                                            (D.slc (D.hd (hs_1 0 0)) 1
                                                              (List.append (D.rows (D.slc (D.hd (hs 0 0)) 1 []))
                                                                (D.rows d))))
                                                          mv +
                                                        1)))
                                                  (Int.toNat
                                                    (↑(D.len
                                                          (D.slc (D.hd (hs_1 0 0)) 1
                                                            (List.append (D.rows (D.slc (D.hd (hs 0 0)) 1 []))
                                                              (D.rows d)))) :
                                                      Int))),
                                              SV.int IntKind.i64 (if mv > st then mv else st), SV.int IntKind.i64 mv],
                                          SV.nils])))
                                (Tree.all fun hs_2 =>
                                  Tree.ret
                                    (SV.tup
                                      [SV.agg
                                          [SV.int IntKind.i64 e, SV.int IntKind.i64 s,
                                            SV.dat
                                              (D.slc (D.hd (hs_1 0 0)) 1
                                                (List.append (D.rows (D.slc (D.hd (hs 0 0)) 1 [])) (D.rows d))),
                                            SV.int IntKind.i64 st, SV.int IntKind.i64 ap],
                                        SV.nils])))))
                          (Tree.br (decide (mk = 12))
                            (Tree.br (decide (me > e))
                              (Tree.all fun hs =>
                                Tree.all fun hs =>
                                  Tree.ret
                                    (SV.tup
                                      [SV.agg
                                          [SV.int IntKind.i64 me, SV.int IntKind.i64 s, SV.nils, SV.int IntKind.i64 ap,
                                            SV.int IntKind.i64 ap],
                                        SV.nils]))
                              (Tree.all fun hs_2 =>
                                Tree.ret
                                  (SV.tup
                                    [SV.agg
                                        [SV.int IntKind.i64 e, SV.int IntKind.i64 s,
                                          SV.dat
                                            (D.slc (D.hd (hs_1 0 0)) 1
                                              (List.append (D.rows (D.slc (D.hd (hs 0 0)) 1 [])) (D.rows d))),
                                          SV.int IntKind.i64 st, SV.int IntKind.i64 ap],
                                      SV.nils])))
                            (Tree.all fun hs_2 =>
                              Tree.ret
                                (SV.tup
                                  [SV.agg
                                      [SV.int IntKind.i64 e, SV.int IntKind.i64 s,
                                        SV.dat
                                          (D.slc (D.hd (hs_1 0 0)) 1
                                            (List.append (D.rows (D.slc (D.hd (hs 0 0)) 1 [])) (D.rows d))),
                                        SV.int IntKind.i64 st, SV.int IntKind.i64 ap],
                                    SV.nils]))))))))
            (Tree.ret
              (SV.tup
                [SV.agg
                    [SV.int IntKind.i64 e, SV.int IntKind.i64 s, SV.dat d, SV.int IntKind.i64 st, SV.int IntKind.i64 ap],
                  SV.nils])))))) := by kernel_rfl

theorem learn2_in : exec Try.prog ct2 600 (entry Try.prog 30 [.agg [.int .i64 e, .int .i64 s, .dat d, .int .i64 st, .int .i64 ap], .agg [.int .i64 mk, .int .i64 mf, .int .i64 mt, .int .i64 mn, .int .i64 mv, .int .i64 me, .dat ml, .dat mb]]) =
  Tree.need (D.Is Int d)
    (Tree.br (checkSource (SrcD.src (SrcD.mk e s d st ap)) != 0)
      (Tree.ret
        (SV.tup
          [SV.agg [SV.int IntKind.i64 e, SV.int IntKind.i64 s, SV.dat d, SV.int IntKind.i64 st, SV.int IntKind.i64 ap],
            SV.nils]))
      (Tree.br (mf != s)
        (Tree.ret
          (SV.tup
            [SV.agg [SV.int IntKind.i64 e, SV.int IntKind.i64 s, SV.dat d, SV.int IntKind.i64 st, SV.int IntKind.i64 ap],
              SV.nils]))
        (Tree.br (decide (me < e))
          (Tree.ret
            (SV.tup
              [SV.agg
                  [SV.int IntKind.i64 e, SV.int IntKind.i64 s, SV.dat d, SV.int IntKind.i64 st, SV.int IntKind.i64 ap],
                SV.nils]))
          (Tree.br (decide (me > 1073741824))
            (Tree.ret
              (SV.tup
                [SV.agg
                    [SV.int IntKind.i64 e, SV.int IntKind.i64 s, SV.dat d, SV.int IntKind.i64 st, SV.int IntKind.i64 ap],
                  SV.nils]))
            (Tree.br (mk != 9)
              (Tree.br (mk != 11)
                (Tree.br (mk != 12)
                  (Tree.ret
                    (SV.tup
                      [SV.agg
                          [SV.int IntKind.i64 e, SV.int IntKind.i64 s, SV.dat d, SV.int IntKind.i64 st,
                            SV.int IntKind.i64 ap],
                        SV.nils]))
                  (Tree.need (D.Fits d 1 ∧ D.len d * 8 ≤ 140737488355328 ∧ D.len d ≤ 9223372036854775807)
                    (Tree.all fun hs =>
                      Tree.br (decide (me > e))
                        (Tree.all fun hs =>
                          Tree.ret
                            (SV.tup
                              [SV.agg
                                  [SV.int IntKind.i64 me, SV.int IntKind.i64 s, SV.nils, SV.int IntKind.i64 ap,
                                    SV.int IntKind.i64 ap],
                                SV.nils]))
                        (Tree.br (decide (mk = 9))
                          (Tree.need (D.Is Int d ∧ D.len d ≤ 1048576)
                            (Tree.br (List.contains (D.to Int d) mv)
                              (Tree.br (decide (mv ≥ st))
                                (Tree.all fun hs_1 =>
                                  Tree.ret
                                    (SV.tup
                                      [SV.agg
                                          [SV.int IntKind.i64 e, SV.int IntKind.i64 s,
                                            SV.dat (D.slc (D.hd (hs 0 0)) 1 (D.rows d)), SV.int IntKind.i64 mv,
                                            SV.int IntKind.i64 ap],
                                        SV.dat
                                          (D.slc (D.hd (hs_1 5 0)) 8
                                            [[D.int IntKind.i64 10, D.int IntKind.i64 0, D.int IntKind.i64 s,
                                                D.int IntKind.i64 mv, D.int IntKind.i64 0, D.int IntKind.i64 e,
                                                D.slc none 0 [], D.slc none 0 []]])]))
                                (Tree.br (decide (mk = 11))
                                  (Tree.need (D.Is Int d ∧ D.len d ≤ 1048576)
                                    (Tree.br (List.contains (D.to Int d) mv)
                                      (Tree.all fun hs =>
                                        Tree.leaf
                                          (Conf.mk
                                            (SFrm.mk 30 none none
                                              [Item.inLoop (cAt Try.prog 30 [1, 1, 1, 1, 1, 1, 0, 1, 0, 1, 1, 0, 0]),
                                                Item.inBlock 0, Item.code (cAt Try.prog 30 [1, 1, 1, 1, 1, 1, 1])]
                                              (mkJ 0
                                                [(2, SV.ptr 0 0), (3, SV.ptr 1 0), (4, SV.ptr 2 0), (6, SV.ptr 3 0),
                                                  (7, SV.int IntKind.i64 0)]
                                                0 132))
                                            []
                                            [(0,
                                                OBlk.cells 24
                                                  [SV.int IntKind.i64 e, SV.int IntKind.i64 s, SV.dat d,
                                                    SV.int IntKind.i64 st, SV.int IntKind.i64 ap]),
                                              (1,
                                                OBlk.cells 53
                                                  [SV.int IntKind.i64 mk, SV.int IntKind.i64 mf, SV.int IntKind.i64 mt,
                                                    SV.int IntKind.i64 mn, SV.int IntKind.i64 mv, SV.int IntKind.i64 me,
                                                    SV.dat ml, SV.dat mb]),
                                              (2,
                                                OBlk.cells 24
                                                  [SV.int IntKind.i64 0, SV.int IntKind.i64 0, SV.nils,
                                                    SV.int IntKind.i64 0, SV.int IntKind.i64 0]),
                                              (3,
                                                OBlk.cells 24
                                                  [SV.int IntKind.i64 e, SV.int IntKind.i64 s, SV.nils,
                                                    SV.int IntKind.i64 (if mv > st then mv else st),
                                                    SV.int IntKind.i64 mv])]))
                                      (Tree.ret
                                        (SV.tup
                                          [SV.agg
                                              [SV.int IntKind.i64 e, SV.int IntKind.i64 s,
                                                SV.dat (D.slc (D.hd (hs 0 0)) 1 (D.rows d)), SV.int IntKind.i64 st,
                                                SV.int IntKind.i64 ap],
                                            SV.nils]))))
                                  (Tree.ret
                                    (SV.tup
                                      [SV.agg
                                          [SV.int IntKind.i64 e, SV.int IntKind.i64 s,
                                            SV.dat (D.slc (D.hd (hs 0 0)) 1 (D.rows d)), SV.int IntKind.i64 st,
                                            SV.int IntKind.i64 ap],
                                        SV.nils]))))
                              (Tree.br (decide (mk = 11))
                                (Tree.need (D.Is Int d ∧ D.len d ≤ 1048576)
                                  (Tree.br (List.contains (D.to Int d) mv)
                                    (Tree.all fun hs =>
                                      Tree.leaf
                                        (Conf.mk
                                          (SFrm.mk 30 none none
                                            [Item.inLoop (cAt Try.prog 30 [1, 1, 1, 1, 1, 1, 0, 1, 0, 1, 1, 0, 0]),
                                              Item.inBlock 0, Item.code (cAt Try.prog 30 [1, 1, 1, 1, 1, 1, 1])]
                                            (mkJ 0
                                              [(2, SV.ptr 0 0), (3, SV.ptr 1 0), (4, SV.ptr 2 0), (6, SV.ptr 3 0),
                                                (7, SV.int IntKind.i64 0)]
                                              0 132))
                                          []
                                          [(0,
                                              OBlk.cells 24
                                                [SV.int IntKind.i64 e, SV.int IntKind.i64 s, SV.dat d,
                                                  SV.int IntKind.i64 st, SV.int IntKind.i64 ap]),
                                            (1,
                                              OBlk.cells 53
                                                [SV.int IntKind.i64 mk, SV.int IntKind.i64 mf, SV.int IntKind.i64 mt,
                                                  SV.int IntKind.i64 mn, SV.int IntKind.i64 mv, SV.int IntKind.i64 me,
                                                  SV.dat ml, SV.dat mb]),
                                            (2,
                                              OBlk.cells 24
                                                [SV.int IntKind.i64 0, SV.int IntKind.i64 0, SV.nils,
                                                  SV.int IntKind.i64 0, SV.int IntKind.i64 0]),
                                            (3,
                                              OBlk.cells 24
                                                [SV.int IntKind.i64 e, SV.int IntKind.i64 s, SV.nils,
                                                  SV.int IntKind.i64 (if mv > st then mv else st),
                                                  SV.int IntKind.i64 mv])]))
                                    (Tree.ret
                                      (SV.tup
                                        [SV.agg
                                            [SV.int IntKind.i64 e, SV.int IntKind.i64 s,
                                              SV.dat (D.slc (D.hd (hs 0 0)) 1 (D.rows d)), SV.int IntKind.i64 st,
                                              SV.int IntKind.i64 ap],
                                          SV.nils]))))
                                (Tree.ret
                                  (SV.tup
                                    [SV.agg
                                        [SV.int IntKind.i64 e, SV.int IntKind.i64 s,
                                          SV.dat (D.slc (D.hd (hs 0 0)) 1 (D.rows d)), SV.int IntKind.i64 st,
                                          SV.int IntKind.i64 ap],
                                      SV.nils])))))
                          (Tree.br (decide (mk = 11))
                            (Tree.need (D.Is Int d ∧ D.len d ≤ 1048576)
                              (Tree.br (List.contains (D.to Int d) mv)
                                (Tree.all fun hs =>
                                  Tree.leaf
                                    (Conf.mk
                                      (SFrm.mk 30 none none
                                        [Item.inLoop (cAt Try.prog 30 [1, 1, 1, 1, 1, 1, 0, 1, 0, 1, 1, 0, 0]),
                                          Item.inBlock 0, Item.code (cAt Try.prog 30 [1, 1, 1, 1, 1, 1, 1])]
                                        (mkJ 0
                                          [(2, SV.ptr 0 0), (3, SV.ptr 1 0), (4, SV.ptr 2 0), (6, SV.ptr 3 0),
                                            (7, SV.int IntKind.i64 0)]
                                          0 132))
                                      []
                                      [(0,
                                          OBlk.cells 24
                                            [SV.int IntKind.i64 e, SV.int IntKind.i64 s, SV.dat d, SV.int IntKind.i64 st,
                                              SV.int IntKind.i64 ap]),
                                        (1,
                                          OBlk.cells 53
                                            [SV.int IntKind.i64 mk, SV.int IntKind.i64 mf, SV.int IntKind.i64 mt,
                                              SV.int IntKind.i64 mn, SV.int IntKind.i64 mv, SV.int IntKind.i64 me,
                                              SV.dat ml, SV.dat mb]),
                                        (2,
                                          OBlk.cells 24
                                            [SV.int IntKind.i64 0, SV.int IntKind.i64 0, SV.nils, SV.int IntKind.i64 0,
                                              SV.int IntKind.i64 0]),
                                        (3,
                                          OBlk.cells 24
                                            [SV.int IntKind.i64 e, SV.int IntKind.i64 s, SV.nils,
                                              SV.int IntKind.i64 (if mv > st then mv else st), SV.int IntKind.i64 mv])]))
                                (Tree.ret
                                  (SV.tup
                                    [SV.agg
                                        [SV.int IntKind.i64 e, SV.int IntKind.i64 s,
                                          SV.dat (D.slc (D.hd (hs 0 0)) 1 (D.rows d)), SV.int IntKind.i64 st,
                                          SV.int IntKind.i64 ap],
                                      SV.nils]))))
                            (Tree.ret
                              (SV.tup
                                [SV.agg
                                    [SV.int IntKind.i64 e, SV.int IntKind.i64 s,
                                      SV.dat (D.slc (D.hd (hs 0 0)) 1 (D.rows d)), SV.int IntKind.i64 st,
                                      SV.int IntKind.i64 ap],
                                  SV.nils])))))))
                (Tree.need (D.Fits d 1 ∧ D.len d * 8 ≤ 140737488355328 ∧ D.len d ≤ 9223372036854775807)
                  (Tree.all fun hs =>
                    Tree.br (decide (me > e))
                      (Tree.all fun hs =>
                        Tree.ret
                          (SV.tup
                            [SV.agg
                                [SV.int IntKind.i64 me, SV.int IntKind.i64 s, SV.nils, SV.int IntKind.i64 ap,
                                  SV.int IntKind.i64 ap],
                              SV.nils]))
                      (Tree.br (decide (mk = 9))
                        (Tree.need (D.Is Int d ∧ D.len d ≤ 1048576)
                          (Tree.br (List.contains (D.to Int d) mv)
                            (Tree.br (decide (mv ≥ st))
                              (Tree.all fun hs_1 =>
                                Tree.ret
                                  (SV.tup
                                    [SV.agg
                                        [SV.int IntKind.i64 e, SV.int IntKind.i64 s,
                                          SV.dat (D.slc (D.hd (hs 0 0)) 1 (D.rows d)), SV.int IntKind.i64 mv,
                                          SV.int IntKind.i64 ap],
                                      SV.dat
                                        (D.slc (D.hd (hs_1 5 0)) 8
                                          [[D.int IntKind.i64 10, D.int IntKind.i64 0, D.int IntKind.i64 s,
                                              D.int IntKind.i64 mv, D.int IntKind.i64 0, D.int IntKind.i64 e,
                                              D.slc none 0 [], D.slc none 0 []]])]))
                              (Tree.br (decide (mk = 11))
                                (Tree.need (D.Is Int d ∧ D.len d ≤ 1048576)
                                  (Tree.br (List.contains (D.to Int d) mv)
                                    (Tree.all fun hs =>
                                      Tree.leaf
                                        (Conf.mk
                                          (SFrm.mk 30 none none
                                            [Item.inLoop (cAt Try.prog 30 [1, 1, 1, 1, 1, 1, 0, 1, 0, 1, 1, 0, 0]),
                                              Item.inBlock 0, Item.code (cAt Try.prog 30 [1, 1, 1, 1, 1, 1, 1])]
                                            (mkJ 0
                                              [(2, SV.ptr 0 0), (3, SV.ptr 1 0), (4, SV.ptr 2 0), (6, SV.ptr 3 0),
                                                (7, SV.int IntKind.i64 0)]
                                              0 132))
                                          []
                                          [(0,
                                              OBlk.cells 24
                                                [SV.int IntKind.i64 e, SV.int IntKind.i64 s, SV.dat d,
                                                  SV.int IntKind.i64 st, SV.int IntKind.i64 ap]),
                                            (1,
                                              OBlk.cells 53
                                                [SV.int IntKind.i64 mk, SV.int IntKind.i64 mf, SV.int IntKind.i64 mt,
                                                  SV.int IntKind.i64 mn, SV.int IntKind.i64 mv, SV.int IntKind.i64 me,
                                                  SV.dat ml, SV.dat mb]),
                                            (2,
                                              OBlk.cells 24
                                                [SV.int IntKind.i64 0, SV.int IntKind.i64 0, SV.nils,
                                                  SV.int IntKind.i64 0, SV.int IntKind.i64 0]),
                                            (3,
                                              OBlk.cells 24
                                                [SV.int IntKind.i64 e, SV.int IntKind.i64 s, SV.nils,
                                                  SV.int IntKind.i64 (if mv > st then mv else st),
                                                  SV.int IntKind.i64 mv])]))
                                    (Tree.ret
                                      (SV.tup
                                        [SV.agg
                                            [SV.int IntKind.i64 e, SV.int IntKind.i64 s,
                                              SV.dat (D.slc (D.hd (hs 0 0)) 1 (D.rows d)), SV.int IntKind.i64 st,
                                              SV.int IntKind.i64 ap],
                                          SV.nils]))))
                                (Tree.ret
                                  (SV.tup
                                    [SV.agg
                                        [SV.int IntKind.i64 e, SV.int IntKind.i64 s,
                                          SV.dat (D.slc (D.hd (hs 0 0)) 1 (D.rows d)), SV.int IntKind.i64 st,
                                          SV.int IntKind.i64 ap],
                                      SV.nils]))))
                            (Tree.br (decide (mk = 11))
                              (Tree.need (D.Is Int d ∧ D.len d ≤ 1048576)
                                (Tree.br (List.contains (D.to Int d) mv)
                                  (Tree.all fun hs =>
                                    Tree.leaf
                                      (Conf.mk
                                        (SFrm.mk 30 none none
                                          [Item.inLoop (cAt Try.prog 30 [1, 1, 1, 1, 1, 1, 0, 1, 0, 1, 1, 0, 0]),
                                            Item.inBlock 0, Item.code (cAt Try.prog 30 [1, 1, 1, 1, 1, 1, 1])]
                                          (mkJ 0
                                            [(2, SV.ptr 0 0), (3, SV.ptr 1 0), (4, SV.ptr 2 0), (6, SV.ptr 3 0),
                                              (7, SV.int IntKind.i64 0)]
                                            0 132))
                                        []
                                        [(0,
                                            OBlk.cells 24
                                              [SV.int IntKind.i64 e, SV.int IntKind.i64 s, SV.dat d,
                                                SV.int IntKind.i64 st, SV.int IntKind.i64 ap]),
                                          (1,
                                            OBlk.cells 53
                                              [SV.int IntKind.i64 mk, SV.int IntKind.i64 mf, SV.int IntKind.i64 mt,
                                                SV.int IntKind.i64 mn, SV.int IntKind.i64 mv, SV.int IntKind.i64 me,
                                                SV.dat ml, SV.dat mb]),
                                          (2,
                                            OBlk.cells 24
                                              [SV.int IntKind.i64 0, SV.int IntKind.i64 0, SV.nils, SV.int IntKind.i64 0,
                                                SV.int IntKind.i64 0]),
                                          (3,
                                            OBlk.cells 24
                                              [SV.int IntKind.i64 e, SV.int IntKind.i64 s, SV.nils,
                                                SV.int IntKind.i64 (if mv > st then mv else st),
                                                SV.int IntKind.i64 mv])]))
                                  (Tree.ret
                                    (SV.tup
                                      [SV.agg
                                          [SV.int IntKind.i64 e, SV.int IntKind.i64 s,
                                            SV.dat (D.slc (D.hd (hs 0 0)) 1 (D.rows d)), SV.int IntKind.i64 st,
                                            SV.int IntKind.i64 ap],
                                        SV.nils]))))
                              (Tree.ret
                                (SV.tup
                                  [SV.agg
                                      [SV.int IntKind.i64 e, SV.int IntKind.i64 s,
                                        SV.dat (D.slc (D.hd (hs 0 0)) 1 (D.rows d)), SV.int IntKind.i64 st,
                                        SV.int IntKind.i64 ap],
                                    SV.nils])))))
                        (Tree.br (decide (mk = 11))
                          (Tree.need (D.Is Int d ∧ D.len d ≤ 1048576)
                            (Tree.br (List.contains (D.to Int d) mv)
                              (Tree.all fun hs =>
                                Tree.leaf
                                  (Conf.mk
                                    (SFrm.mk 30 none none
                                      [Item.inLoop (cAt Try.prog 30 [1, 1, 1, 1, 1, 1, 0, 1, 0, 1, 1, 0, 0]),
                                        Item.inBlock 0, Item.code (cAt Try.prog 30 [1, 1, 1, 1, 1, 1, 1])]
                                      (mkJ 0
                                        [(2, SV.ptr 0 0), (3, SV.ptr 1 0), (4, SV.ptr 2 0), (6, SV.ptr 3 0),
                                          (7, SV.int IntKind.i64 0)]
                                        0 132))
                                    []
                                    [(0,
                                        OBlk.cells 24
                                          [SV.int IntKind.i64 e, SV.int IntKind.i64 s, SV.dat d, SV.int IntKind.i64 st,
                                            SV.int IntKind.i64 ap]),
                                      (1,
                                        OBlk.cells 53
                                          [SV.int IntKind.i64 mk, SV.int IntKind.i64 mf, SV.int IntKind.i64 mt,
                                            SV.int IntKind.i64 mn, SV.int IntKind.i64 mv, SV.int IntKind.i64 me,
                                            SV.dat ml, SV.dat mb]),
                                      (2,
                                        OBlk.cells 24
                                          [SV.int IntKind.i64 0, SV.int IntKind.i64 0, SV.nils, SV.int IntKind.i64 0,
                                            SV.int IntKind.i64 0]),
                                      (3,
                                        OBlk.cells 24
                                          [SV.int IntKind.i64 e, SV.int IntKind.i64 s, SV.nils,
                                            SV.int IntKind.i64 (if mv > st then mv else st), SV.int IntKind.i64 mv])]))
                              (Tree.ret
                                (SV.tup
                                  [SV.agg
                                      [SV.int IntKind.i64 e, SV.int IntKind.i64 s,
                                        SV.dat (D.slc (D.hd (hs 0 0)) 1 (D.rows d)), SV.int IntKind.i64 st,
                                        SV.int IntKind.i64 ap],
                                    SV.nils]))))
                          (Tree.ret
                            (SV.tup
                              [SV.agg
                                  [SV.int IntKind.i64 e, SV.int IntKind.i64 s,
                                    SV.dat (D.slc (D.hd (hs 0 0)) 1 (D.rows d)), SV.int IntKind.i64 st,
                                    SV.int IntKind.i64 ap],
                                SV.nils])))))))
              (Tree.need (D.Fits d 1 ∧ D.len d * 8 ≤ 140737488355328 ∧ D.len d ≤ 9223372036854775807)
                (Tree.all fun hs =>
                  Tree.br (decide (me > e))
                    (Tree.all fun hs =>
                      Tree.ret
                        (SV.tup
                          [SV.agg
                              [SV.int IntKind.i64 me, SV.int IntKind.i64 s, SV.nils, SV.int IntKind.i64 ap,
                                SV.int IntKind.i64 ap],
                            SV.nils]))
                    (Tree.br (decide (mk = 9))
                      (Tree.need (D.Is Int d ∧ D.len d ≤ 1048576)
                        (Tree.br (List.contains (D.to Int d) mv)
                          (Tree.br (decide (mv ≥ st))
                            (Tree.all fun hs_1 =>
                              Tree.ret
                                (SV.tup
                                  [SV.agg
                                      [SV.int IntKind.i64 e, SV.int IntKind.i64 s,
                                        SV.dat (D.slc (D.hd (hs 0 0)) 1 (D.rows d)), SV.int IntKind.i64 mv,
                                        SV.int IntKind.i64 ap],
                                    SV.dat
                                      (D.slc (D.hd (hs_1 5 0)) 8
                                        [[D.int IntKind.i64 10, D.int IntKind.i64 0, D.int IntKind.i64 s,
                                            D.int IntKind.i64 mv, D.int IntKind.i64 0, D.int IntKind.i64 e,
                                            D.slc none 0 [], D.slc none 0 []]])]))
                            (Tree.br (decide (mk = 11))
                              (Tree.need (D.Is Int d ∧ D.len d ≤ 1048576)
                                (Tree.br (List.contains (D.to Int d) mv)
                                  (Tree.all fun hs =>
                                    Tree.leaf
                                      (Conf.mk
                                        (SFrm.mk 30 none none
                                          [Item.inLoop (cAt Try.prog 30 [1, 1, 1, 1, 1, 1, 0, 1, 0, 1, 1, 0, 0]),
                                            Item.inBlock 0, Item.code (cAt Try.prog 30 [1, 1, 1, 1, 1, 1, 1])]
                                          (mkJ 0
                                            [(2, SV.ptr 0 0), (3, SV.ptr 1 0), (4, SV.ptr 2 0), (6, SV.ptr 3 0),
                                              (7, SV.int IntKind.i64 0)]
                                            0 132))
                                        []
                                        [(0,
                                            OBlk.cells 24
                                              [SV.int IntKind.i64 e, SV.int IntKind.i64 s, SV.dat d,
                                                SV.int IntKind.i64 st, SV.int IntKind.i64 ap]),
                                          (1,
                                            OBlk.cells 53
                                              [SV.int IntKind.i64 mk, SV.int IntKind.i64 mf, SV.int IntKind.i64 mt,
                                                SV.int IntKind.i64 mn, SV.int IntKind.i64 mv, SV.int IntKind.i64 me,
                                                SV.dat ml, SV.dat mb]),
                                          (2,
                                            OBlk.cells 24
                                              [SV.int IntKind.i64 0, SV.int IntKind.i64 0, SV.nils, SV.int IntKind.i64 0,
                                                SV.int IntKind.i64 0]),
                                          (3,
                                            OBlk.cells 24
                                              [SV.int IntKind.i64 e, SV.int IntKind.i64 s, SV.nils,
                                                SV.int IntKind.i64 (if mv > st then mv else st),
                                                SV.int IntKind.i64 mv])]))
                                  (Tree.ret
                                    (SV.tup
                                      [SV.agg
                                          [SV.int IntKind.i64 e, SV.int IntKind.i64 s,
                                            SV.dat (D.slc (D.hd (hs 0 0)) 1 (D.rows d)), SV.int IntKind.i64 st,
                                            SV.int IntKind.i64 ap],
                                        SV.nils]))))
                              (Tree.ret
                                (SV.tup
                                  [SV.agg
                                      [SV.int IntKind.i64 e, SV.int IntKind.i64 s,
                                        SV.dat (D.slc (D.hd (hs 0 0)) 1 (D.rows d)), SV.int IntKind.i64 st,
                                        SV.int IntKind.i64 ap],
                                    SV.nils]))))
                          (Tree.br (decide (mk = 11))
                            (Tree.need (D.Is Int d ∧ D.len d ≤ 1048576)
                              (Tree.br (List.contains (D.to Int d) mv)
                                (Tree.all fun hs =>
                                  Tree.leaf
                                    (Conf.mk
                                      (SFrm.mk 30 none none
                                        [Item.inLoop (cAt Try.prog 30 [1, 1, 1, 1, 1, 1, 0, 1, 0, 1, 1, 0, 0]),
                                          Item.inBlock 0, Item.code (cAt Try.prog 30 [1, 1, 1, 1, 1, 1, 1])]
                                        (mkJ 0
                                          [(2, SV.ptr 0 0), (3, SV.ptr 1 0), (4, SV.ptr 2 0), (6, SV.ptr 3 0),
                                            (7, SV.int IntKind.i64 0)]
                                          0 132))
                                      []
                                      [(0,
                                          OBlk.cells 24
                                            [SV.int IntKind.i64 e, SV.int IntKind.i64 s, SV.dat d, SV.int IntKind.i64 st,
                                              SV.int IntKind.i64 ap]),
                                        (1,
                                          OBlk.cells 53
                                            [SV.int IntKind.i64 mk, SV.int IntKind.i64 mf, SV.int IntKind.i64 mt,
                                              SV.int IntKind.i64 mn, SV.int IntKind.i64 mv, SV.int IntKind.i64 me,
                                              SV.dat ml, SV.dat mb]),
                                        (2,
                                          OBlk.cells 24
                                            [SV.int IntKind.i64 0, SV.int IntKind.i64 0, SV.nils, SV.int IntKind.i64 0,
                                              SV.int IntKind.i64 0]),
                                        (3,
                                          OBlk.cells 24
                                            [SV.int IntKind.i64 e, SV.int IntKind.i64 s, SV.nils,
                                              SV.int IntKind.i64 (if mv > st then mv else st), SV.int IntKind.i64 mv])]))
                                (Tree.ret
                                  (SV.tup
                                    [SV.agg
                                        [SV.int IntKind.i64 e, SV.int IntKind.i64 s,
                                          SV.dat (D.slc (D.hd (hs 0 0)) 1 (D.rows d)), SV.int IntKind.i64 st,
                                          SV.int IntKind.i64 ap],
                                      SV.nils]))))
                            (Tree.ret
                              (SV.tup
                                [SV.agg
                                    [SV.int IntKind.i64 e, SV.int IntKind.i64 s,
                                      SV.dat (D.slc (D.hd (hs 0 0)) 1 (D.rows d)), SV.int IntKind.i64 st,
                                      SV.int IntKind.i64 ap],
                                  SV.nils])))))
                      (Tree.br (decide (mk = 11))
                        (Tree.need (D.Is Int d ∧ D.len d ≤ 1048576)
                          (Tree.br (List.contains (D.to Int d) mv)
                            (Tree.all fun hs =>
                              Tree.leaf
                                (Conf.mk
                                  (SFrm.mk 30 none none
                                    [Item.inLoop (cAt Try.prog 30 [1, 1, 1, 1, 1, 1, 0, 1, 0, 1, 1, 0, 0]),
                                      Item.inBlock 0, Item.code (cAt Try.prog 30 [1, 1, 1, 1, 1, 1, 1])]
                                    (mkJ 0
                                      [(2, SV.ptr 0 0), (3, SV.ptr 1 0), (4, SV.ptr 2 0), (6, SV.ptr 3 0),
                                        (7, SV.int IntKind.i64 0)]
                                      0 132))
                                  []
                                  [(0,
                                      OBlk.cells 24
                                        [SV.int IntKind.i64 e, SV.int IntKind.i64 s, SV.dat d, SV.int IntKind.i64 st,
                                          SV.int IntKind.i64 ap]),
                                    (1,
                                      OBlk.cells 53
                                        [SV.int IntKind.i64 mk, SV.int IntKind.i64 mf, SV.int IntKind.i64 mt,
                                          SV.int IntKind.i64 mn, SV.int IntKind.i64 mv, SV.int IntKind.i64 me, SV.dat ml,
                                          SV.dat mb]),
                                    (2,
                                      OBlk.cells 24
                                        [SV.int IntKind.i64 0, SV.int IntKind.i64 0, SV.nils, SV.int IntKind.i64 0,
                                          SV.int IntKind.i64 0]),
                                    (3,
                                      OBlk.cells 24
                                        [SV.int IntKind.i64 e, SV.int IntKind.i64 s, SV.nils,
                                          SV.int IntKind.i64 (if mv > st then mv else st), SV.int IntKind.i64 mv])]))
                            (Tree.ret
                              (SV.tup
                                [SV.agg
                                    [SV.int IntKind.i64 e, SV.int IntKind.i64 s,
                                      SV.dat (D.slc (D.hd (hs 0 0)) 1 (D.rows d)), SV.int IntKind.i64 st,
                                      SV.int IntKind.i64 ap],
                                  SV.nils]))))
                        (Tree.ret
                          (SV.tup
                            [SV.agg
                                [SV.int IntKind.i64 e, SV.int IntKind.i64 s, SV.dat (D.slc (D.hd (hs 0 0)) 1 (D.rows d)),
                                  SV.int IntKind.i64 st, SV.int IntKind.i64 ap],
                              SV.nils]))))))))))) := by kernel_rfl

theorem store1_in : exec Try.prog ct2 400 (entry Try.prog 31 [.agg [.int .i64 e, .int .i64 s, .int .i64 st, .int .i64 ap], .int .i64 n]) =
  Tree.br (checkTarget (Tgt.mk e s st ap) != 0)
    (Tree.ret
      (SV.tup
        [SV.agg [SV.int IntKind.i64 0, SV.int IntKind.i64 0, SV.int IntKind.i64 0, SV.int IntKind.i64 0], SV.nils,
          SV.int IntKind.i64 (checkTarget (Tgt.mk e s st ap))]))
    (Tree.br (decide (n ≤ st))
      (Tree.ret
        (SV.tup
          [SV.agg [SV.int IntKind.i64 0, SV.int IntKind.i64 0, SV.int IntKind.i64 0, SV.int IntKind.i64 0], SV.nils,
            SV.int IntKind.i64 8]))
      (Tree.br (decide (n > 1073741824))
        (Tree.ret
          (SV.tup
            [SV.agg [SV.int IntKind.i64 0, SV.int IntKind.i64 0, SV.int IntKind.i64 0, SV.int IntKind.i64 0], SV.nils,
              SV.int IntKind.i64 2]))
        (Tree.all fun hs =>
          Tree.ret
            (SV.tup
              [SV.agg [SV.int IntKind.i64 e, SV.int IntKind.i64 s, SV.int IntKind.i64 n, SV.int IntKind.i64 ap],
                SV.dat (D.like (hs 3 0) [toSource (Tgt.mk e s n ap) 9 n]), SV.int IntKind.i64 0])))) := by kernel_rfl

theorem store2_in : exec Try.prog ct2 400 (entry Try.prog 32 [.agg [.int .i64 e, .int .i64 s, .int .i64 st, .int .i64 ap], .int .i64 n]) =
  Tree.br (checkTarget (Tgt.mk e s st ap) != 0)
    (Tree.ret
      (SV.tup
        [SV.agg [SV.int IntKind.i64 0, SV.int IntKind.i64 0, SV.int IntKind.i64 0, SV.int IntKind.i64 0], SV.nils,
          SV.int IntKind.i64 (checkTarget (Tgt.mk e s st ap))]))
    (Tree.br (decide (n ≤ st))
      (Tree.ret
        (SV.tup
          [SV.agg [SV.int IntKind.i64 0, SV.int IntKind.i64 0, SV.int IntKind.i64 0, SV.int IntKind.i64 0], SV.nils,
            SV.int IntKind.i64 8]))
      (Tree.br (decide (n > 1073741824))
        (Tree.ret
          (SV.tup
            [SV.agg [SV.int IntKind.i64 0, SV.int IntKind.i64 0, SV.int IntKind.i64 0, SV.int IntKind.i64 0], SV.nils,
              SV.int IntKind.i64 2]))
        (Tree.all fun hs =>
          Tree.ret
            (SV.tup
              [SV.agg [SV.int IntKind.i64 e, SV.int IntKind.i64 s, SV.int IntKind.i64 n, SV.int IntKind.i64 ap],
                SV.dat (D.like (hs 3 0) [toSource (Tgt.mk e s n ap) 9 n]), SV.int IntKind.i64 0])))) := by kernel_rfl

theorem apply1_in : exec Try.prog ct2 400 (entry Try.prog 33 [.agg [.int .i64 e, .int .i64 s, .int .i64 st, .int .i64 ap], .int .i64 n]) =
  Tree.br (checkTarget (Tgt.mk e s st ap) != 0)
    (Tree.ret
      (SV.tup
        [SV.agg [SV.int IntKind.i64 0, SV.int IntKind.i64 0, SV.int IntKind.i64 0, SV.int IntKind.i64 0], SV.nils,
          SV.int IntKind.i64 (checkTarget (Tgt.mk e s st ap))]))
    (Tree.br (decide (n ≤ ap))
      (Tree.ret
        (SV.tup
          [SV.agg [SV.int IntKind.i64 0, SV.int IntKind.i64 0, SV.int IntKind.i64 0, SV.int IntKind.i64 0], SV.nils,
            SV.int IntKind.i64 8]))
      (Tree.br (decide (n > st))
        (Tree.ret
          (SV.tup
            [SV.agg [SV.int IntKind.i64 0, SV.int IntKind.i64 0, SV.int IntKind.i64 0, SV.int IntKind.i64 0], SV.nils,
              SV.int IntKind.i64 15]))
        (Tree.all fun hs =>
          Tree.ret
            (SV.tup
              [SV.agg [SV.int IntKind.i64 e, SV.int IntKind.i64 s, SV.int IntKind.i64 st, SV.int IntKind.i64 n],
                SV.dat (D.like (hs 3 0) [toSource (Tgt.mk e s st n) 11 n]), SV.int IntKind.i64 0])))) := by kernel_rfl

theorem apply2_in : exec Try.prog ct2 400 (entry Try.prog 34 [.agg [.int .i64 e, .int .i64 s, .int .i64 st, .int .i64 ap], .int .i64 n]) =
  Tree.br (checkTarget (Tgt.mk e s st ap) != 0)
    (Tree.ret
      (SV.tup
        [SV.agg [SV.int IntKind.i64 0, SV.int IntKind.i64 0, SV.int IntKind.i64 0, SV.int IntKind.i64 0], SV.nils,
          SV.int IntKind.i64 (checkTarget (Tgt.mk e s st ap))]))
    (Tree.br (decide (n ≤ ap))
      (Tree.ret
        (SV.tup
          [SV.agg [SV.int IntKind.i64 0, SV.int IntKind.i64 0, SV.int IntKind.i64 0, SV.int IntKind.i64 0], SV.nils,
            SV.int IntKind.i64 8]))
      (Tree.br (decide (n > st))
        (Tree.ret
          (SV.tup
            [SV.agg [SV.int IntKind.i64 0, SV.int IntKind.i64 0, SV.int IntKind.i64 0, SV.int IntKind.i64 0], SV.nils,
              SV.int IntKind.i64 15]))
        (Tree.all fun hs =>
          Tree.ret
            (SV.tup
              [SV.agg [SV.int IntKind.i64 e, SV.int IntKind.i64 s, SV.int IntKind.i64 st, SV.int IntKind.i64 n],
                SV.dat (D.like (hs 3 0) [toSource (Tgt.mk e s st n) 11 n]), SV.int IntKind.i64 0])))) := by kernel_rfl

theorem answer1_in : exec Try.prog ct2 400 (entry Try.prog 35 [.agg [.int .i64 e, .int .i64 s, .int .i64 st, .int .i64 ap], .agg [.int .i64 mk, .int .i64 mf, .int .i64 mt, .int .i64 mn, .int .i64 mv, .int .i64 me, .dat ml, .dat mb]]) =
  Tree.br (checkTarget (Tgt.mk e s st ap) != 0)
    (Tree.ret
      (SV.tup
        [SV.agg [SV.int IntKind.i64 e, SV.int IntKind.i64 s, SV.int IntKind.i64 st, SV.int IntKind.i64 ap], SV.nils]))
    (Tree.br (mt != s)
      (Tree.ret
        (SV.tup
          [SV.agg [SV.int IntKind.i64 e, SV.int IntKind.i64 s, SV.int IntKind.i64 st, SV.int IntKind.i64 ap], SV.nils]))
      (Tree.br (decide (me ≥ 0))
        (Tree.br (!decide (me ≤ 1073741824))
          (Tree.ret
            (SV.tup
              [SV.agg [SV.int IntKind.i64 e, SV.int IntKind.i64 s, SV.int IntKind.i64 st, SV.int IntKind.i64 ap],
                SV.nils]))
          (Tree.br (mk != 8)
            (Tree.br (mk != 10)
              (Tree.ret
                (SV.tup
                  [SV.agg [SV.int IntKind.i64 e, SV.int IntKind.i64 s, SV.int IntKind.i64 st, SV.int IntKind.i64 ap],
                    SV.nils]))
              (Tree.br (decide (me < e))
                (Tree.all fun hs =>
                  Tree.ret
                    (SV.tup
                      [SV.agg [SV.int IntKind.i64 e, SV.int IntKind.i64 s, SV.int IntKind.i64 st, SV.int IntKind.i64 ap],
                        SV.dat (D.like (hs 3 0) [toSource (Tgt.mk e s st ap) 12 0])]))
                (Tree.br (decide (me > e))
                  (Tree.all fun hs =>
                    Tree.br (decide (mk = 8))
                      (Tree.need (decide (mk = 8) = true)
                        (Tree.ret
                          (SV.tup
                            [SV.agg
                                [SV.int IntKind.i64 me, SV.int IntKind.i64 s, SV.int IntKind.i64 ap,
                                  SV.int IntKind.i64 ap],
                              SV.dat (D.like (hs 12 0) [toSource (Tgt.mk me s ap ap) 9 ap])])))
                      (Tree.br (decide (mk = 10))
                        (Tree.need (decide (mk = 8) = false)
                          (Tree.need (decide (mk = 10) = true)
                            (Tree.ret
                              (SV.tup
                                [SV.agg
                                    [SV.int IntKind.i64 me, SV.int IntKind.i64 s, SV.int IntKind.i64 ap,
                                      SV.int IntKind.i64 ap],
                                  SV.dat (D.like (hs 12 0) [toSource (Tgt.mk me s ap ap) 11 ap])]))))
                        Tree.stuck))
                  (Tree.all fun hs =>
                    Tree.br (decide (mk = 8))
                      (Tree.need (decide (mk = 8) = true)
                        (Tree.ret
                          (SV.tup
                            [SV.agg
                                [SV.int IntKind.i64 e, SV.int IntKind.i64 s, SV.int IntKind.i64 st,
                                  SV.int IntKind.i64 ap],
                              SV.dat (D.like (hs 12 0) [toSource (Tgt.mk e s st ap) 9 st])])))
                      (Tree.br (decide (mk = 10))
                        (Tree.need (decide (mk = 8) = false)
                          (Tree.need (decide (mk = 10) = true)
                            (Tree.ret
                              (SV.tup
                                [SV.agg
                                    [SV.int IntKind.i64 e, SV.int IntKind.i64 s, SV.int IntKind.i64 st,
                                      SV.int IntKind.i64 ap],
                                  SV.dat (D.like (hs 12 0) [toSource (Tgt.mk e s st ap) 11 ap])]))))
                        Tree.stuck)))))
            (Tree.br (decide (me < e))
              (Tree.all fun hs =>
                Tree.ret
                  (SV.tup
                    [SV.agg [SV.int IntKind.i64 e, SV.int IntKind.i64 s, SV.int IntKind.i64 st, SV.int IntKind.i64 ap],
                      SV.dat (D.like (hs 3 0) [toSource (Tgt.mk e s st ap) 12 0])]))
              (Tree.br (decide (me > e))
                (Tree.all fun hs =>
                  Tree.br (decide (mk = 8))
                    (Tree.need (decide (mk = 8) = true)
                      (Tree.ret
                        (SV.tup
                          [SV.agg
                              [SV.int IntKind.i64 me, SV.int IntKind.i64 s, SV.int IntKind.i64 ap, SV.int IntKind.i64 ap],
                            SV.dat (D.like (hs 12 0) [toSource (Tgt.mk me s ap ap) 9 ap])])))
                    (Tree.br (decide (mk = 10))
                      (Tree.need (decide (mk = 8) = false)
                        (Tree.need (decide (mk = 10) = true)
                          (Tree.ret
                            (SV.tup
                              [SV.agg
                                  [SV.int IntKind.i64 me, SV.int IntKind.i64 s, SV.int IntKind.i64 ap,
                                    SV.int IntKind.i64 ap],
                                SV.dat (D.like (hs 12 0) [toSource (Tgt.mk me s ap ap) 11 ap])]))))
                      Tree.stuck))
                (Tree.all fun hs =>
                  Tree.br (decide (mk = 8))
                    (Tree.need (decide (mk = 8) = true)
                      (Tree.ret
                        (SV.tup
                          [SV.agg
                              [SV.int IntKind.i64 e, SV.int IntKind.i64 s, SV.int IntKind.i64 st, SV.int IntKind.i64 ap],
                            SV.dat (D.like (hs 12 0) [toSource (Tgt.mk e s st ap) 9 st])])))
                    (Tree.br (decide (mk = 10))
                      (Tree.need (decide (mk = 8) = false)
                        (Tree.need (decide (mk = 10) = true)
                          (Tree.ret
                            (SV.tup
                              [SV.agg
                                  [SV.int IntKind.i64 e, SV.int IntKind.i64 s, SV.int IntKind.i64 st,
                                    SV.int IntKind.i64 ap],
                                SV.dat (D.like (hs 12 0) [toSource (Tgt.mk e s st ap) 11 ap])]))))
                      Tree.stuck))))))
        (Tree.ret
          (SV.tup
            [SV.agg [SV.int IntKind.i64 e, SV.int IntKind.i64 s, SV.int IntKind.i64 st, SV.int IntKind.i64 ap],
              SV.nils])))) := by kernel_rfl

theorem answer2_in : exec Try.prog ct2 400 (entry Try.prog 36 [.agg [.int .i64 e, .int .i64 s, .int .i64 st, .int .i64 ap], .agg [.int .i64 mk, .int .i64 mf, .int .i64 mt, .int .i64 mn, .int .i64 mv, .int .i64 me, .dat ml, .dat mb]]) =
  Tree.br (checkTarget (Tgt.mk e s st ap) != 0)
    (Tree.ret
      (SV.tup
        [SV.agg [SV.int IntKind.i64 e, SV.int IntKind.i64 s, SV.int IntKind.i64 st, SV.int IntKind.i64 ap], SV.nils]))
    (Tree.br (mt != s)
      (Tree.ret
        (SV.tup
          [SV.agg [SV.int IntKind.i64 e, SV.int IntKind.i64 s, SV.int IntKind.i64 st, SV.int IntKind.i64 ap], SV.nils]))
      (Tree.br (mk != 8)
        (Tree.br (mk != 10)
          (Tree.ret
            (SV.tup
              [SV.agg [SV.int IntKind.i64 e, SV.int IntKind.i64 s, SV.int IntKind.i64 st, SV.int IntKind.i64 ap],
                SV.nils]))
          (Tree.br (decide (me ≥ 0))
            (Tree.br (!decide (me ≤ 1073741824))
              (Tree.ret
                (SV.tup
                  [SV.agg [SV.int IntKind.i64 e, SV.int IntKind.i64 s, SV.int IntKind.i64 st, SV.int IntKind.i64 ap],
                    SV.nils]))
              (Tree.br (decide (me < e))
                (Tree.all fun hs =>
                  Tree.ret
                    (SV.tup
                      [SV.agg [SV.int IntKind.i64 e, SV.int IntKind.i64 s, SV.int IntKind.i64 st, SV.int IntKind.i64 ap],
                        SV.dat (D.like (hs 2 0) [toSource (Tgt.mk e s st ap) 12 0])]))
                (Tree.br (decide (me > e))
                  (Tree.br (decide (mk = 8))
                    (Tree.all fun hs =>
                      Tree.ret
                        (SV.tup
                          [SV.agg
                              [SV.int IntKind.i64 me, SV.int IntKind.i64 s, SV.int IntKind.i64 ap, SV.int IntKind.i64 ap],
                            SV.dat (D.like (hs 4 0) [toSource (Tgt.mk me s ap ap) 9 ap])]))
                    (Tree.all fun hs =>
                      Tree.ret
                        (SV.tup
                          [SV.agg
                              [SV.int IntKind.i64 me, SV.int IntKind.i64 s, SV.int IntKind.i64 ap, SV.int IntKind.i64 ap],
                            SV.dat (D.like (hs 4 0) [toSource (Tgt.mk me s ap ap) 11 ap])])))
                  (Tree.br (decide (mk = 8))
                    (Tree.all fun hs =>
                      Tree.ret
                        (SV.tup
                          [SV.agg
                              [SV.int IntKind.i64 e, SV.int IntKind.i64 s, SV.int IntKind.i64 st, SV.int IntKind.i64 ap],
                            SV.dat (D.like (hs 4 0) [toSource (Tgt.mk e s st ap) 9 st])]))
                    (Tree.all fun hs =>
                      Tree.ret
                        (SV.tup
                          [SV.agg
                              [SV.int IntKind.i64 e, SV.int IntKind.i64 s, SV.int IntKind.i64 st, SV.int IntKind.i64 ap],
                            SV.dat (D.like (hs 4 0) [toSource (Tgt.mk e s st ap) 11 ap])]))))))
            (Tree.ret
              (SV.tup
                [SV.agg [SV.int IntKind.i64 e, SV.int IntKind.i64 s, SV.int IntKind.i64 st, SV.int IntKind.i64 ap],
                  SV.nils]))))
        (Tree.br (decide (me ≥ 0))
          (Tree.br (!decide (me ≤ 1073741824))
            (Tree.ret
              (SV.tup
                [SV.agg [SV.int IntKind.i64 e, SV.int IntKind.i64 s, SV.int IntKind.i64 st, SV.int IntKind.i64 ap],
                  SV.nils]))
            (Tree.br (decide (me < e))
              (Tree.all fun hs =>
                Tree.ret
                  (SV.tup
                    [SV.agg [SV.int IntKind.i64 e, SV.int IntKind.i64 s, SV.int IntKind.i64 st, SV.int IntKind.i64 ap],
                      SV.dat (D.like (hs 2 0) [toSource (Tgt.mk e s st ap) 12 0])]))
              (Tree.br (decide (me > e))
                (Tree.br (decide (mk = 8))
                  (Tree.all fun hs =>
                    Tree.ret
                      (SV.tup
                        [SV.agg
                            [SV.int IntKind.i64 me, SV.int IntKind.i64 s, SV.int IntKind.i64 ap, SV.int IntKind.i64 ap],
                          SV.dat (D.like (hs 4 0) [toSource (Tgt.mk me s ap ap) 9 ap])]))
                  (Tree.all fun hs =>
                    Tree.ret
                      (SV.tup
                        [SV.agg
                            [SV.int IntKind.i64 me, SV.int IntKind.i64 s, SV.int IntKind.i64 ap, SV.int IntKind.i64 ap],
                          SV.dat (D.like (hs 4 0) [toSource (Tgt.mk me s ap ap) 11 ap])])))
                (Tree.br (decide (mk = 8))
                  (Tree.all fun hs =>
                    Tree.ret
                      (SV.tup
                        [SV.agg
                            [SV.int IntKind.i64 e, SV.int IntKind.i64 s, SV.int IntKind.i64 st, SV.int IntKind.i64 ap],
                          SV.dat (D.like (hs 4 0) [toSource (Tgt.mk e s st ap) 9 st])]))
                  (Tree.all fun hs =>
                    Tree.ret
                      (SV.tup
                        [SV.agg
                            [SV.int IntKind.i64 e, SV.int IntKind.i64 s, SV.int IntKind.i64 st, SV.int IntKind.i64 ap],
                          SV.dat (D.like (hs 4 0) [toSource (Tgt.mk e s st ap) 11 ap])]))))))
          (Tree.ret
            (SV.tup
              [SV.agg [SV.int IntKind.i64 e, SV.int IntKind.i64 s, SV.int IntKind.i64 st, SV.int IntKind.i64 ap],
                SV.nils]))))) := by kernel_rfl

end
end Go.Proofs.Ytnfkkmdbaknnlaa
end
section
/- Layer 32: the laws of the functions without loops. -/
open Go Go.Proofs Sx
namespace Sx

section
variable {P : Program} {w : World} {H : HV}

theorem ret_tgt {e s st ap k : Int} {X : SV} {ms : List Msg} {r : Tgt × List Msg × Int} (hx : Stands Msg X ms) (hr : r = (⟨e, s, st, ap⟩, ms, k)) :
    (Tree.ret (.tup [.agg [.int .i64 e, .int .i64 s, .int .i64 st, .int .i64 ap], X, .int .i64 k])).holds P ⟨w, H⟩ (RetD w H fun ds => .tup [tgtSV r.1, .dat ((ds 0).like r.2.1), .int .i64 r.2.2]) := by
  subst hr
  obtain ⟨d, h1, h2, h3, h4⟩ := hx
  refine ret_D (fun _ => d) (fun E E' => ?_) (fun H' ho => ?_)
  · simp only [SV.den, SV.denL, tgtSV, D.like_self h2 h3, h1]
  · simp only [SV.Ok, SV.OkL, tgtSV, D.like_self h2 h3] at ho ⊢
    exact ⟨ho.1, ⟨h4 _ ho.2.1, h2.slc⟩, trivial, trivial⟩

theorem ret_tgt2 {e s st ap : Int} {X : SV} {ms : List Msg} {r : Tgt × List Msg} (hx : Stands Msg X ms) (hr : r = (⟨e, s, st, ap⟩, ms)) :
    (Tree.ret (.tup [.agg [.int .i64 e, .int .i64 s, .int .i64 st, .int .i64 ap], X])).holds P ⟨w, H⟩ (RetD w H fun ds => .tup [tgtSV r.1, .dat ((ds 0).like r.2)]) := by
  subst hr
  obtain ⟨d, h1, h2, h3, h4⟩ := hx
  refine ret_D (fun _ => d) (fun E E' => ?_) (fun H' ho => ?_)
  · simp only [SV.den, SV.denL, tgtSV, D.like_self h2 h3, h1]
  · simp only [SV.Ok, SV.OkL, tgtSV, D.like_self h2 h3] at ho ⊢
    exact ⟨ho.1, ⟨h4 _ ho.2.1, h2.slc⟩, trivial⟩

theorem ret_src {e s st ap k : Int} {O X : SV} {os : List Int} {ms : List Msg} {r : Src × List Msg × Int} (ho : Stands Int O os) (hx : Stands Msg X ms) (hr : r = (⟨e, s, os, st, ap⟩, ms, k)) :
    (Tree.ret (.tup [.agg [.int .i64 e, .int .i64 s, O, .int .i64 st, .int .i64 ap], X, .int .i64 k])).holds P ⟨w, H⟩ (RetD w H fun ds => .tup [srcSV (ds 0) r.1, .dat ((ds 1).like r.2.1), .int .i64 r.2.2]) := by
  subst hr
  obtain ⟨d, h1, h2, h3, h4⟩ := hx
  obtain ⟨d', h1', h2', h3', h4'⟩ := ho
  refine ret_D (fun i => match i with | 0 => d' | _ => d) (fun E E' => ?_) (fun H' ho => ?_)
  · simp only [SV.den, SV.denL, srcSV, D.like_self h2 h3, D.like_self h2' h3', h1, h1']
  · simp only [SV.Ok, SV.OkL, srcSV, D.like_self h2 h3, D.like_self h2' h3'] at ho ⊢
    exact ⟨⟨ho.1.1, ho.1.2.1, ⟨h4' _ ho.1.2.2.1, h2'.slc⟩, trivial, trivial, trivial⟩, ⟨h4 _ ho.2.1, h2.slc⟩, trivial, trivial⟩

theorem ret_src2 {e s st ap : Int} {O X : SV} {os : List Int} {ms : List Msg} {r : Src × List Msg} (ho : Stands Int O os) (hx : Stands Msg X ms) (hr : r = (⟨e, s, os, st, ap⟩, ms)) :
    (Tree.ret (.tup [.agg [.int .i64 e, .int .i64 s, O, .int .i64 st, .int .i64 ap], X])).holds P ⟨w, H⟩ (RetD w H fun ds => .tup [srcSV (ds 0) r.1, .dat ((ds 1).like r.2)]) := by
  subst hr
  obtain ⟨d, h1, h2, h3, h4⟩ := hx
  obtain ⟨d', h1', h2', h3', h4'⟩ := ho
  refine ret_D (fun i => match i with | 0 => d' | _ => d) (fun E E' => ?_) (fun H' ho => ?_)
  · simp only [SV.den, SV.denL, srcSV, D.like_self h2 h3, D.like_self h2' h3', h1, h1']
  · simp only [SV.Ok, SV.OkL, srcSV, D.like_self h2 h3, D.like_self h2' h3'] at ho ⊢
    exact ⟨⟨ho.1.1, ho.1.2.1, ⟨h4' _ ho.1.2.2.1, h2'.slc⟩, trivial, trivial, trivial⟩, ⟨h4 _ ho.2.1, h2.slc⟩, trivial⟩

theorem ret_srcE {e s st ap k : Int} {O : SV} {os : List Int} {r : Src × Int} (ho : Stands Int O os) (hr : r = (⟨e, s, os, st, ap⟩, k)) :
    (Tree.ret (.tup [.agg [.int .i64 e, .int .i64 s, O, .int .i64 st, .int .i64 ap], .int .i64 k])).holds P ⟨w, H⟩ (RetD w H fun ds => .tup [srcSV (ds 0) r.1, .int .i64 r.2]) := by
  subst hr
  obtain ⟨d', h1', h2', h3', h4'⟩ := ho
  refine ret_D (fun _ => d') (fun E E' => ?_) (fun H' ho => ?_)
  · simp only [SV.den, SV.denL, srcSV, D.like_self h2' h3', h1']
  · simp only [SV.Ok, SV.OkL, srcSV, D.like_self h2' h3'] at ho ⊢
    exact ⟨⟨ho.1.1, ho.1.2.1, ⟨h4' _ ho.1.2.2.1, h2'.slc⟩, trivial, trivial, trivial⟩, trivial, trivial⟩

theorem ret_tgtE {e s st ap k : Int} {r : Tgt × Int} (hr : r = (⟨e, s, st, ap⟩, k)) :
    (Tree.ret (.tup [.agg [.int .i64 e, .int .i64 s, .int .i64 st, .int .i64 ap], .int .i64 k])).holds P ⟨w, H⟩ (RetD w H fun _ => .tup [tgtSV r.1, .int .i64 r.2]) := by
  subst hr
  exact ret_D (fun _ => default) (fun E E' => by simp only [SV.den, SV.denL, tgtSV]) (fun H' _ => by simp [SV.Ok, SV.OkL, tgtSV])

theorem ret_msgs {X : SV} {ms r : List Msg} (hx : Stands Msg X ms) (hr : r = ms) : (Tree.ret X).holds P ⟨w, H⟩ (RetD w H fun ds => .dat ((ds 0).like r)) := by
  subst hr
  obtain ⟨d, h1, h2, h3, h4⟩ := hx
  refine ret_D (fun _ => d) (fun E E' => ?_) (fun H' ho => ?_)
  · simp only [SV.den, D.like_self h2 h3, h1]
  · simp only [SV.Ok, D.like_self h2 h3] at ho ⊢
    exact ⟨h4 _ ho, h2.slc⟩
end

/-- One message that was sent. -/
theorem stands_one {h : Hd} {a b c d e f : Int} {m : Msg} (hm : m = ⟨a, b, c, d, e, f, [], []⟩) :
    Stands Msg (.dat (.slc h 8 [[.int .i64 a, .int .i64 b, .int .i64 c, .int .i64 d, .int .i64 e, .int .i64 f, .slc none 0 [], .slc none 0 []]])) [m] := by
  subst hm
  exact stands_dat (is_rows rfl (by intro r hr; rw [List.mem_singleton.1 hr]; exact ok_msg ..)) rfl
end Sx

namespace Go.Proofs.Ytnfkkmdbaknnlaa

theorem lawToTarget : Law Try.prog 49 ((rdSrc.three rdInt rdInt).sp spToTarget) := by
  refine law_in _ (by kernel_rfl) fun H w ⟨⟨e, s, d, st, ap⟩, j, k⟩ hok hp => ?_
  apply exec_sound (noCtr _) 300
  rw [show (rdSrc.three rdInt rdInt).canon (⟨e, s, d, st, ap⟩, j, k) = [.agg [.int .i64 e, .int .i64 s, .dat d, .int .i64 st, .int .i64 ap], .int .i64 j, .int .i64 k] from rfl, toTarget_in]
  exact ret_D (fun _ => default) (fun E E' => by simp only [SV.den, SV.denL]) (fun H' h => h)

theorem lawToSource (f : FuncId) (hf : f = 55 ∨ f = 57) : Law Try.prog f ((rdTgt.three rdInt rdInt).sp spToSource) := by
  rcases hf with rfl | rfl
  all_goals
    refine law_in _ (by kernel_rfl) fun H w ⟨⟨e, s, st, ap⟩, j, k⟩ hok hp => ?_
    apply exec_sound (noCtr _) 300
    rw [show (rdTgt.three rdInt rdInt).canon (⟨e, s, st, ap⟩, j, k) = [.agg [.int .i64 e, .int .i64 s, .int .i64 st, .int .i64 ap], .int .i64 j, .int .i64 k] from rfl]
    first | rw [toSource_in] | rw [message_in]
    exact fun hs => ret_msgs (stands_one rfl) rfl

theorem lawOffered : Law Try.prog 54 (rdTgt.one.sp spOffered) := by
  refine law_in _ (by kernel_rfl) fun H w ⟨e, s, st, ap⟩ hok hp => ?_
  apply exec_sound (noCtr _) 300
  rw [show rdTgt.one.canon ⟨e, s, st, ap⟩ = [.agg [.int .i64 e, .int .i64 s, .int .i64 st, .int .i64 ap]] from rfl, offered_in]
  exact fun hs => ret_msgs (stands_one rfl) rfl

theorem lawCommitted : Law Try.prog 56 (rdTgt.one.sp spCommitted) := by
  refine law_in _ (by kernel_rfl) fun H w ⟨e, s, st, ap⟩ hok hp => ?_
  apply exec_sound (noCtr _) 300
  rw [show rdTgt.one.canon ⟨e, s, st, ap⟩ = [.agg [.int .i64 e, .int .i64 s, .int .i64 st, .int .i64 ap]] from rfl, applied_in]
  exact fun hs => ret_msgs (stands_one rfl) rfl

theorem ctOk2 : Ctrs.Ok Try.prog ct2 := by
  intro x hx
  simp only [ct2, List.mem_cons, List.not_mem_nil, or_false] at hx
  rcases hx with rfl | rfl | rfl | rfl | rfl | rfl | rfl | rfl | rfl | rfl | rfl | rfl
  · exact ctrOf_ok lawCS1
  · exact ctrOf_ok lawCS2
  · exact ctrOf_ok (lawCT 20 (.inl rfl))
  · exact ctrOf_ok (lawCT 21 (.inr rfl))
  · exact ctrOf_ok lawHas42
  · exact ctrOf_ok lawHas43
  · exact ctrOf_ok lawIdx
  · exact ctrOf_ok lawToTarget
  · exact ctrOf_ok (lawToSource 55 (.inl rfl))
  · exact ctrOf_ok (lawToSource 57 (.inr rfl))
  · exact ctrOf_ok lawOffered
  · exact ctrOf_ok lawCommitted

theorem lawNewS (f : FuncId) (hf : f = 13 ∨ f = 14) : Law Try.prog f ((rdInt.three rdInt rdInt).sp spNewS) := by
  rcases hf with rfl | rfl
  all_goals
    refine law_in _ (by kernel_rfl) fun H w ⟨e, s, ap⟩ hok hp => ?_
    clear hp hok
    apply exec_sound (ctOk2) 400
    rw [show (rdInt.three rdInt rdInt).canon (e, s, ap) = [.int .i64 e, .int .i64 s, .int .i64 ap] from rfl]
    first | rw [newS1_in] | rw [newS2_in]
    repeat' first
      | refine ⟨fun hc => ?_, fun hc => ?_⟩
      | refine ret_srcE stands_nils ?_
    all_goals (simp at *; simp only [newSource]; by_cases hr : okRight e s ap = true <;> simp [hr] <;> rw [okRight_iff] at hr <;> omega)

theorem lawNewT (f : FuncId) (hf : f = 15 ∨ f = 16) : Law Try.prog f ((rdInt.three rdInt rdInt).sp spNewT) := by
  rcases hf with rfl | rfl
  all_goals
    refine law_in _ (by kernel_rfl) fun H w ⟨e, s, ap⟩ hok hp => ?_
    clear hp hok
    apply exec_sound (ctOk2) 400
    rw [show (rdInt.three rdInt rdInt).canon (e, s, ap) = [.int .i64 e, .int .i64 s, .int .i64 ap] from rfl]
    first | rw [newT1_in] | rw [newT2_in]
    repeat' first
      | refine ⟨fun hc => ?_, fun hc => ?_⟩
      | refine ret_tgtE ?_
    all_goals (simp at *; simp only [newTarget]; by_cases hr : okRight e s ap = true <;> simp [hr] <;> rw [okRight_iff] at hr <;> omega)

theorem lawRel (f : FuncId) (hf : f = 27 ∨ f = 28) : Law Try.prog f (rdSrc.one.sp spRel) := by
  rcases hf with rfl | rfl
  all_goals
    refine law_in _ (by kernel_rfl) fun H w ⟨e, s, d, st, ap⟩ hok hp => ?_
    have hd : d.Is Int := hp _ (List.mem_singleton.2 rfl)
    clear hp hok
    apply exec_sound (ctOk2) 400
    rw [show rdSrc.one.canon ⟨e, s, d, st, ap⟩ = [.agg [.int .i64 e, .int .i64 s, .dat d, .int .i64 st, .int .i64 ap]] from rfl]
    first | rw [rel1_in] | rw [rel2_in]
    refine ⟨hd, fun hc => ret_int ?_, fun hc => ret_int ?_⟩
    · simp only [bne_iff_ne, ne_eq] at hc
      simp [releasable, hc]
    · simp only [bne_eq_false_iff_eq] at hc
      simp only [SrcD.src] at hc ⊢
      simp [releasable, hc]

theorem lawStore (f : FuncId) (hf : f = 31 ∨ f = 32) : Law Try.prog f ((rdTgt.two rdInt).sp (spStore Sx.store)) := by
  rcases hf with rfl | rfl
  all_goals
    refine law_in _ (by kernel_rfl) fun H w ⟨⟨e, s, st, ap⟩, n⟩ hok hp => ?_
    clear hp hok
    apply exec_sound (ctOk2) 400
    rw [show (rdTgt.two rdInt).canon (⟨e, s, st, ap⟩, n) = [.agg [.int .i64 e, .int .i64 s, .int .i64 st, .int .i64 ap], .int .i64 n] from rfl]
    first | rw [store1_in] | rw [store2_in]
    refine ⟨fun h1 => ret_tgt stands_nils ?_, fun h1 => ⟨fun h2 => ret_tgt stands_nils ?_, fun h2 => ⟨fun h3 => ret_tgt stands_nils ?_, fun h3 hs => ret_tgt stands_like ?_⟩⟩⟩
    all_goals (simp only [bne_iff_ne, ne_eq, bne_eq_false_iff_eq, decide_eq_true_eq, decide_eq_false_iff_not] at *; simp [Sx.store, zTgt, toSource, *])

theorem lawApply (f : FuncId) (hf : f = 33 ∨ f = 34) : Law Try.prog f ((rdTgt.two rdInt).sp (spStore applyT)) := by
  rcases hf with rfl | rfl
  all_goals
    refine law_in _ (by kernel_rfl) fun H w ⟨⟨e, s, st, ap⟩, n⟩ hok hp => ?_
    clear hp hok
    apply exec_sound (ctOk2) 400
    rw [show (rdTgt.two rdInt).canon (⟨e, s, st, ap⟩, n) = [.agg [.int .i64 e, .int .i64 s, .int .i64 st, .int .i64 ap], .int .i64 n] from rfl]
    first | rw [apply1_in] | rw [apply2_in]
    refine ⟨fun h1 => ret_tgt stands_nils ?_, fun h1 => ⟨fun h2 => ret_tgt stands_nils ?_, fun h2 => ⟨fun h3 => ret_tgt stands_nils ?_, fun h3 hs => ret_tgt stands_like ?_⟩⟩⟩
    all_goals (simp only [bne_iff_ne, ne_eq, bne_eq_false_iff_eq, decide_eq_true_eq, decide_eq_false_iff_not] at *; simp [applyT, zTgt, toSource, *])

theorem cs_len {x : Src} (h : checkSource x = 0) : x.offered.length ≤ 1024 := by
  unfold checkSource at h
  split at h
  · cases h
  · split at h
    · cases h
    · omega

theorem msg_row {a b c d e f : Int} {m : Msg} (hm : m = ⟨a, b, c, d, e, f, [], []⟩) :
    SRows Msg [[.int .i64 a, .int .i64 b, .int .i64 c, .int .i64 d, .int .i64 e, .int .i64 f, .slc none 0 [], .slc none 0 []]] [m] := by
  subst hm
  exact rows_one (ok_msg ..) rfl

theorem lastOf_get {a : Int} {l : List Int} (h : 0 < l.length) : lastOf a l = l[l.length - 1] := by
  unfold lastOf
  rw [List.getLastD_eq_getLast?, List.getLast?_eq_getElem?, List.getElem?_eq_getElem (by omega)]
  rfl

theorem lawOffer (f : FuncId) (hf : f = 22 ∨ f = 23) : Law Try.prog f ((rdSrc.two rdInt).sp spOffer) := by
  rcases hf with rfl | rfl
  all_goals
    refine law_in _ (by kernel_rfl) fun H w ⟨⟨e, s, d, st, ap⟩, n⟩ hok hp => ?_
    have hd : d.Is Int := hp _ (List.mem_singleton.2 rfl)
    have hdo : d.Ok H := hok.1.2.2.1.1
    clear hp hok
    have hl := D.Is.length (α := Int) d
    apply exec_sound (ctOk2) 400
    rw [show (rdSrc.two rdInt).canon (⟨e, s, d, st, ap⟩, n) = [.agg [.int .i64 e, .int .i64 s, .dat d, .int .i64 st, .int .i64 ap], .int .i64 n] from rfl]
    first | rw [offer1_in] | rw [offer2_in]
    refine ⟨hd, fun h1 => ret_src stands_nils stands_nils ?_, fun h1 => ?_⟩
    · simp only [bne_iff_ne, ne_eq] at h1
      simp [offer, h1, zSrc]
    simp only [bne_eq_false_iff_eq] at h1
    have h8 := cs_len h1
    simp only [SrcD.src] at h1 h8
    have hr : d.rows.length = (d.to Int).length := hl
    have hcast : 0 < d.len → IntKind.i64.wrap ((d.len : Int) - 1) = ((d.len - 1 : Nat) : Int) := fun h => by rw [wrap64 (by omega) (by omega)]; omega
    have step : ∀ last : Int, lastOf ap (d.to Int) = last → (n ≤ last → offer ⟨e, s, d.to Int, st, ap⟩ n = (⟨0, 0, [], 0, 0⟩, [], 8)) ∧
        (¬ n ≤ last → n > 1073741824 → offer ⟨e, s, d.to Int, st, ap⟩ n = (⟨0, 0, [], 0, 0⟩, [], 2)) ∧
        (¬ n ≤ last → ¬ n > 1073741824 → (d.to Int).length ≥ 1024 → offer ⟨e, s, d.to Int, st, ap⟩ n = (⟨0, 0, [], 0, 0⟩, [], 6)) ∧
        (¬ n ≤ last → ¬ n > 1073741824 → ¬ (d.to Int).length ≥ 1024 → offer ⟨e, s, d.to Int, st, ap⟩ n = (⟨e, s, d.to Int ++ [n], st, ap⟩, [⟨8, 0, s, n, 0, e, [], []⟩], 0)) := by
      intro last hlast
      refine ⟨fun a => ?_, fun a b => ?_, fun a b c => ?_, fun a b c => ?_⟩ <;> simp [offer, h1, hlast, a, zSrc, *, toTarget]
    refine ⟨fun h2 => ?_, fun h2 => ?_⟩
    · simp at h2
      rw [hcast h2]
      have hlt : d.len - 1 < (d.to Int).length := by omega
      obtain ⟨c1, c2, c3⟩ := int_at hd hlt
      rw [c3]
      obtain ⟨s1, s2, s3, s4⟩ := step _ (lastOf_get (a := ap) (by omega))
      have hx : (d.to Int)[d.len - 1] = (d.to Int)[(d.to Int).length - 1] := by congr 1; omega
      rw [hx]
      refine ⟨c1, c2, fun h3 => ret_src stands_nils stands_nils (s1 (by simpa using h3)), fun h3 => ⟨fun h4 => ret_src stands_nils stands_nils (s2 (by simpa using h3) (by simpa using h4)), fun h4 => ⟨fun h5 => ret_src stands_nils stands_nils (s3 (by simpa using h3) (by simpa using h4) (by simp at h5; omega)), fun h5 => ?_⟩⟩⟩
      have s5 := s4 (by simpa using h3) (by simpa using h4) (by simp at h5; omega)
      simp at h5
      repeat' first
        | refine ⟨fun hn => ?_, fun hn => ?_⟩
        | refine fun (hs : Nat → Nat → D) => ?_
        | refine ⟨by (repeat' apply And.intro) <;> first | rfl | exact hd.fits | exact .inr rfl | (simp; done) | omega | (simp; omega), ?_⟩
        | fail
      all_goals first
        | exact ret_src (stands_rows rfl (rows_app (rows_app rows_nil (rows_of hd)) (rows_one (ok_int _) rfl))) (stands_rows rfl (msg_row rfl)) s5
        | exact ret_src (stands_rows rfl (rows_app (rows_of hd) (rows_one (ok_int _) rfl))) (stands_rows rfl (msg_row rfl)) s5
        | (have h0 := nil_to (α := Int) hdo hn
           have := s5
           exact absurd hlt (by rw [h0]; simp))
    · simp at h2
      have h0 : d.to Int = [] := List.eq_nil_of_length_eq_zero (by omega)
      obtain ⟨s1, s2, s3, s4⟩ := step ap (by simp [lastOf, h0])
      refine ⟨fun h3 => ret_src stands_nils stands_nils (s1 (by simpa using h3)), fun h3 => ⟨fun h4 => ret_src stands_nils stands_nils (s2 (by simpa using h3) (by simpa using h4)), fun h4 => ⟨fun h5 => ret_src stands_nils stands_nils (s3 (by simpa using h3) (by simpa using h4) (by simp at h5; omega)), fun h5 => ?_⟩⟩⟩
      have s5 := s4 (by simpa using h3) (by simpa using h4) (by simp at h5; omega)
      simp at h5
      repeat' first
        | refine ⟨fun hn => ?_, fun hn => ?_⟩
        | refine fun (hs : Nat → Nat → D) => ?_
        | refine ⟨by (repeat' apply And.intro) <;> first | rfl | exact hd.fits | exact .inr rfl | (simp; done) | omega | (simp; omega), ?_⟩
        | fail
      all_goals first
        | exact ret_src (stands_rows rfl (rows_app (rows_app rows_nil (rows_of hd)) (rows_one (ok_int _) rfl))) (stands_rows rfl (msg_row rfl)) s5
        | exact ret_src (stands_rows rfl (rows_app (rows_of hd) (rows_one (ok_int _) rfl))) (stands_rows rfl (msg_row rfl)) s5
        | exact ret_src (stands_rows rfl (rows_one (ok_int _) rfl)) (stands_rows rfl (msg_row rfl)) (by rw [h0] at s5; simp only [SrcD.src, h0]; exact s5)

end Go.Proofs.Ytnfkkmdbaknnlaa
end
