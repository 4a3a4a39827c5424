/- A part of a proof. -/
import Derived.KernelRfl
import Derived.Test.YtnfkkmdbaknnlaaW2gtoW2
import Derived.Test.YtnfkkmdbaknnlaaOvtoW1
import Derived.Test.YtnfkkmdbaknnlaaProg
set_option linter.all false
section
open Go Go.Proofs Sx
namespace Go.Proofs.Ytnfkkmdbaknnlaa
set_option maxRecDepth 100000
set_option maxHeartbeats 0
def r1L (P : Program) (e s st ap : Int) (d o ms : D) (j : Int) : Conf := Conf.mk (SFrm.mk 25 none none
  [Item.inLoop (cAt P 25 [1, 1, 1, 1, 0, 1, 0, 0]), Item.inBlock 0, Item.code (cAt P 25 [1, 1, 1, 1, 1])]
  (mkJ 0 [(1, .ptr 0 0), (3, .ptr 1 0), (21, .dat d), (22, .int .i64 d.len), (23, .int .i64 j)] 0 39))
  [] [(0, .cells 24 [.int .i64 e, .int .i64 s, .dat d, .int .i64 st, .int .i64 ap]), (1, .cells 79 [.int .i64 e, .int .i64 s, .vec 2, .int .i64 st, .int .i64 ap, .vec 3]), (2, .arr 3 o), (3, .arr 53 ms)]
def r2L (P : Program) (e s st ap : Int) (d ms : D) (j : Int) : Conf := Conf.mk (SFrm.mk 26 none none
  [Item.inLoop (cAt P 26 [1, 1, 1, 1, 0, 1, 0, 0]), Item.inBlock 0, Item.code (cAt P 26 [1, 1, 1, 1, 1])]
  (mkJ 0 [(1, .ptr 0 0), (3, .vec 1), (4, .int .i64 j)] 0 46))
  [] [(0, .cells 24 [.int .i64 e, .int .i64 s, .dat d, .int .i64 st, .int .i64 ap]), (1, .arr 53 ms)]
def l2L (P : Program) (e s st ap mx : Int) (d o : D) (mk mf mt mn mv me : Int) (ml mb : D) (j : Int) : Conf := Conf.mk (SFrm.mk 30 none none
  [Item.inLoop (cAt P 30 [1, 1, 1, 1, 1, 1, 0, 1, 0, 1, 1, 0, 0]), Item.inBlock 0, Item.code (cAt P 30 [1, 1, 1, 1, 1, 1, 1])]
  (mkJ 0 [(2, .ptr 0 0), (3, .ptr 1 0), (4, .ptr 2 0), (6, .ptr 3 0), (7, .int .i64 j)] 0 132))
  [] [(0, .cells 24 [.int .i64 e, .int .i64 s, .dat d, .int .i64 st, .int .i64 ap]),
      (1, .cells 53 [.int .i64 mk, .int .i64 mf, .int .i64 mt, .int .i64 mn, .int .i64 mv, .int .i64 me, .dat ml, .dat mb]),
      (2, .cells 24 [.int .i64 0, .int .i64 0, .nils, .int .i64 0, .int .i64 0]),
      (3, .cells 24 [.int .i64 e, .int .i64 s, .vec 4, .int .i64 mx, .int .i64 mv]), (4, .arr 3 o)]
section
variable (e s st ap j n last k m e' s' st' ap' mk mf mt mn mv me mx xk xf xt xn xv xe : Int) (d d' mb ml xb xl : D) (o ms : D)
theorem r1_go : exec Try.prog ct2 400 (unroll (r1L Try.prog e s st ap d o ms j)) =
  Tree.br (decide (j < (↑(D.len d) : Int)))
    (Tree.need (0 ≤ j ∧ j < (↑(D.len d) : Int) ∧ D.sz d = 1)
      (Tree.need (D.HasCell d (Int.toNat j) 0 (FT.int IntKind.i64))
        (Tree.br (decide (D.getInt d (Int.toNat j) 0 > st))
          (Tree.all fun hs =>
            Tree.need
              (D.sz ms = 8 ∧
                D.Fits
                    (D.slc (D.hd (hs 18 0)) 8
                      [[D.int IntKind.i64 8, D.int IntKind.i64 0, D.int IntKind.i64 s,
                          D.int IntKind.i64 (D.getInt d (Int.toNat j) 0), D.int IntKind.i64 0, D.int IntKind.i64 e,
                          D.slc none 0 [], D.slc none 0 []]])
                    8 ∧
                  (D.len ms +
                          D.len
                            (D.slc (D.hd (hs 18 0)) 8
                              [[D.int IntKind.i64 8, D.int IntKind.i64 0, D.int IntKind.i64 s,
                                  D.int IntKind.i64 (D.getInt d (Int.toNat j) 0), D.int IntKind.i64 0,
                                  D.int IntKind.i64 e, D.slc none 0 [], D.slc none 0 []]])) *
                        96 ≤
                      140737488355328 ∧
                    D.len ms +
                        D.len
                          (D.slc (D.hd (hs 18 0)) 8
                            [[D.int IntKind.i64 8, D.int IntKind.i64 0, D.int IntKind.i64 s,
                                D.int IntKind.i64 (D.getInt d (Int.toNat j) 0), D.int IntKind.i64 0, D.int IntKind.i64 e,
                                D.slc none 0 [], D.slc none 0 []]]) ≤
                      9223372036854775807)
              (Tree.leaf
                (Conf.mk
                  (SFrm.mk 25 none none
                    [Item.inLoop (cAt Try.prog 25 [1, 1, 1, 1, 0, 1, 0, 0]), Item.inBlock 0,
                      Item.code (cAt Try.prog 25 [1, 1, 1, 1, 1])]
                    (mkJ 0
                      [(1, SV.ptr 0 0), (3, SV.ptr 1 0), (21, SV.dat d), (22, SV.int IntKind.i64 (↑(D.len d) : Int)),
                        (23, SV.int IntKind.i64 (IntKind.wrap IntKind.i64 (j + 1)))]
                      0 39))
                  []
                  [(0,
                      OBlk.cells 24
                        [SV.int IntKind.i64 e, SV.int IntKind.i64 s, SV.dat d, SV.int IntKind.i64 st,
                          SV.int IntKind.i64 ap]),
                    (1,
                      OBlk.cells 79
                        [SV.int IntKind.i64 e, SV.int IntKind.i64 s, SV.vec 2, SV.int IntKind.i64 st,
                          SV.int IntKind.i64 ap, SV.vec 3]),
                    (2, OBlk.arr 3 o),
                    (3,
                      OBlk.arr 53
                        (D.slc (D.hd (hs 19 0)) 8
                          (List.append (D.rows ms)
                            (D.rows
                              (D.slc (D.hd (hs 18 0)) 8
                                [[D.int IntKind.i64 8, D.int IntKind.i64 0, D.int IntKind.i64 s,
                                    D.int IntKind.i64 (D.getInt d (Int.toNat j) 0), D.int IntKind.i64 0,
                                    D.int IntKind.i64 e, D.slc none 0 [], D.slc none 0 []]])))))])))
          (Tree.leaf
            (Conf.mk
              (SFrm.mk 25 none none
                [Item.inLoop (cAt Try.prog 25 [1, 1, 1, 1, 0, 1, 0, 0]), Item.inBlock 0,
                  Item.code (cAt Try.prog 25 [1, 1, 1, 1, 1])]
                (mkJ 0
                  [(1, SV.ptr 0 0), (3, SV.ptr 1 0), (21, SV.dat d), (22, SV.int IntKind.i64 (↑(D.len d) : Int)),
                    (23, SV.int IntKind.i64 (IntKind.wrap IntKind.i64 (j + 1)))]
                  0 39))
              []
              [(0,
                  OBlk.cells 24
                    [SV.int IntKind.i64 e, SV.int IntKind.i64 s, SV.dat d, SV.int IntKind.i64 st, SV.int IntKind.i64 ap]),
                (1,
                  OBlk.cells 79
                    [SV.int IntKind.i64 e, SV.int IntKind.i64 s, SV.vec 2, SV.int IntKind.i64 st, SV.int IntKind.i64 ap,
                      SV.vec 3]),
                (2, OBlk.arr 3 o), (3, OBlk.arr 53 ms)])))))
    (Tree.ret (SV.dat ms)) := by kernel_rfl

theorem r2_go : exec Try.prog ct2 400 (unroll (r2L Try.prog e s st ap d ms j)) =
  Tree.br (decide (j < (↑(D.len d) : Int)))
    (Tree.all fun hs =>
      Tree.need (0 ≤ j ∧ j < (↑(D.len d) : Int) ∧ D.sz d = 1)
        (Tree.need (D.HasCell d (Int.toNat j) 0 (FT.int IntKind.i64))
          (Tree.br (decide (D.getInt d (Int.toNat j) 0 > st))
            (Tree.all fun hs =>
              Tree.need (0 ≤ j ∧ j < (↑(D.len d) : Int) ∧ D.sz d = 1)
                (Tree.need (D.HasCell d (Int.toNat j) 0 (FT.int IntKind.i64))
                  (Tree.need
                    (D.sz ms = 8 ∧
                      D.Fits
                          (D.slc (D.hd (hs 8 0)) 8
                            [[D.int IntKind.i64 8, D.int IntKind.i64 0, D.int IntKind.i64 s,
                                D.int IntKind.i64 (D.getInt d (Int.toNat j) 0), D.int IntKind.i64 0, D.int IntKind.i64 e,
                                D.slc none 0 [], D.slc none 0 []]])
                          8 ∧
                        (D.len ms +
                                D.len
                                  (D.slc (D.hd (hs 8 0)) 8
                                    [[D.int IntKind.i64 8, D.int IntKind.i64 0, D.int IntKind.i64 s,
                                        D.int IntKind.i64 (D.getInt d (Int.toNat j) 0), D.int IntKind.i64 0,
                                        D.int IntKind.i64 e, D.slc none 0 [], D.slc none 0 []]])) *
                              96 ≤
                            140737488355328 ∧
                          D.len ms +
                              D.len
                                (D.slc (D.hd (hs 8 0)) 8
                                  [[D.int IntKind.i64 8, D.int IntKind.i64 0, D.int IntKind.i64 s,
                                      D.int IntKind.i64 (D.getInt d (Int.toNat j) 0), D.int IntKind.i64 0,
                                      D.int IntKind.i64 e, D.slc none 0 [], D.slc none 0 []]]) ≤
                            9223372036854775807)
                    (Tree.leaf
                      (Conf.mk
                        (SFrm.mk 26 none none
                          [Item.inLoop (cAt Try.prog 26 [1, 1, 1, 1, 0, 1, 0, 0]), Item.inBlock 0,
                            Item.code (cAt Try.prog 26 [1, 1, 1, 1, 1])]
                          (mkJ 0
                            [(1, SV.ptr 0 0), (3, SV.vec 1), (4, SV.int IntKind.i64 (IntKind.wrap IntKind.i64 (j + 1)))] 0
                            46))
                        []
                        [(0,
                            OBlk.cells 24
                              [SV.int IntKind.i64 e, SV.int IntKind.i64 s, SV.dat d, SV.int IntKind.i64 st,
                                SV.int IntKind.i64 ap]),
                          (1,
                            OBlk.arr 53
                              (D.slc (D.hd (hs 9 0)) 8
                                (List.append (D.rows ms)
                                  (D.rows
                                    (D.slc (D.hd (hs 8 0)) 8
                                      [[D.int IntKind.i64 8, D.int IntKind.i64 0, D.int IntKind.i64 s,
                                          D.int IntKind.i64 (D.getInt d (Int.toNat j) 0), D.int IntKind.i64 0,
                                          D.int IntKind.i64 e, D.slc none 0 [], D.slc none 0 []]])))))])))))
            (Tree.leaf
              (Conf.mk
                (SFrm.mk 26 none none
                  [Item.inLoop (cAt Try.prog 26 [1, 1, 1, 1, 0, 1, 0, 0]), Item.inBlock 0,
                    Item.code (cAt Try.prog 26 [1, 1, 1, 1, 1])]
                  (mkJ 0 [(1, SV.ptr 0 0), (3, SV.vec 1), (4, SV.int IntKind.i64 (IntKind.wrap IntKind.i64 (j + 1)))] 0
                    46))
                []
                [(0,
                    OBlk.cells 24
                      [SV.int IntKind.i64 e, SV.int IntKind.i64 s, SV.dat d, SV.int IntKind.i64 st,
                        SV.int IntKind.i64 ap]),
                  (1, OBlk.arr 53 ms)])))))
    (Tree.ret (SV.dat ms)) := by kernel_rfl

theorem l2_go : exec Try.prog ct2 400 (unroll (l2L Try.prog e s st ap mx d o mk mf mt mn mv me ml mb j)) =
  Tree.br (decide (j < (↑(D.len d) : Int)))
    (Tree.all fun hs =>
      Tree.need (0 ≤ j ∧ j < (↑(D.len d) : Int) ∧ D.sz d = 1)
        (Tree.need (D.HasCell d (Int.toNat j) 0 (FT.int IntKind.i64))
          (Tree.br (decide (D.getInt d (Int.toNat j) 0 > mv))
            (Tree.all fun hs =>
              Tree.need (0 ≤ j ∧ j < (↑(D.len d) : Int) ∧ D.sz d = 1)
                (Tree.need (D.HasCell d (Int.toNat j) 0 (FT.int IntKind.i64))
                  (Tree.need
                    (D.sz o = 1 ∧
                      D.Fits (D.slc (D.hd (hs 7 0)) 1 [[D.int IntKind.i64 (D.getInt d (Int.toNat j) 0)]]) 1 ∧
                        (D.len o + D.len (D.slc (D.hd (hs 7 0)) 1 [[D.int IntKind.i64 (D.getInt d (Int.toNat j) 0)]])) *
                              8 ≤
                            140737488355328 ∧
                          D.len o + D.len (D.slc (D.hd (hs 7 0)) 1 [[D.int IntKind.i64 (D.getInt d (Int.toNat j) 0)]]) ≤
                            9223372036854775807)
                    (Tree.leaf
                      (Conf.mk
                        (SFrm.mk 30 none none
                          [Item.inLoop (cAt Try.prog 30 [1, 1, 1, 1, 1, 1, 0, 1, 0, 1, 1, 0, 0]), Item.inBlock 0,
                            Item.code (cAt Try.prog 30 [1, 1, 1, 1, 1, 1, 1])]
                          (mkJ 0
                            [(2, SV.ptr 0 0), (3, SV.ptr 1 0), (4, SV.ptr 2 0), (6, SV.ptr 3 0),
                              (7, SV.int IntKind.i64 (IntKind.wrap IntKind.i64 (j + 1)))]
                            0 132))
                        []
                        [(0,
                            OBlk.cells 24
                              [SV.int IntKind.i64 e, SV.int IntKind.i64 s, SV.dat d, SV.int IntKind.i64 st,
                                SV.int IntKind.i64 ap]),
                          (1,
                            OBlk.cells 53
                              [SV.int IntKind.i64 mk, SV.int IntKind.i64 mf, SV.int IntKind.i64 mt, SV.int IntKind.i64 mn,
                                SV.int IntKind.i64 mv, SV.int IntKind.i64 me, SV.dat ml, SV.dat mb]),
                          (2,
                            OBlk.cells 24
                              [SV.int IntKind.i64 0, SV.int IntKind.i64 0, SV.nils, SV.int IntKind.i64 0,
                                SV.int IntKind.i64 0]),
                          (3,
                            OBlk.cells 24
                              [SV.int IntKind.i64 e, SV.int IntKind.i64 s, SV.vec 4, SV.int IntKind.i64 mx,
                                SV.int IntKind.i64 mv]),
                          (4,
                            OBlk.arr 3
                              (D.slc (D.hd (hs 8 0)) 1
                                (List.append (D.rows o)
                                  (D.rows
                                    (D.slc (D.hd (hs 7 0)) 1 [[D.int IntKind.i64 (D.getInt d (Int.toNat j) 0)]])))))])))))
            (Tree.leaf
              (Conf.mk
                (SFrm.mk 30 none none
                  [Item.inLoop (cAt Try.prog 30 [1, 1, 1, 1, 1, 1, 0, 1, 0, 1, 1, 0, 0]), Item.inBlock 0,
                    Item.code (cAt Try.prog 30 [1, 1, 1, 1, 1, 1, 1])]
                  (mkJ 0
                    [(2, SV.ptr 0 0), (3, SV.ptr 1 0), (4, SV.ptr 2 0), (6, SV.ptr 3 0),
                      (7, SV.int IntKind.i64 (IntKind.wrap IntKind.i64 (j + 1)))]
                    0 132))
                []
                [(0,
                    OBlk.cells 24
                      [SV.int IntKind.i64 e, SV.int IntKind.i64 s, SV.dat d, SV.int IntKind.i64 st,
                        SV.int IntKind.i64 ap]),
                  (1,
                    OBlk.cells 53
                      [SV.int IntKind.i64 mk, SV.int IntKind.i64 mf, SV.int IntKind.i64 mt, SV.int IntKind.i64 mn,
                        SV.int IntKind.i64 mv, SV.int IntKind.i64 me, SV.dat ml, SV.dat mb]),
                  (2,
                    OBlk.cells 24
                      [SV.int IntKind.i64 0, SV.int IntKind.i64 0, SV.nils, SV.int IntKind.i64 0, SV.int IntKind.i64 0]),
                  (3,
                    OBlk.cells 24
                      [SV.int IntKind.i64 e, SV.int IntKind.i64 s, SV.vec 4, SV.int IntKind.i64 mx,
                        SV.int IntKind.i64 mv]),
                  (4, OBlk.arr 3 o)])))))
    (Tree.ret
      (SV.tup
        [SV.agg [SV.int IntKind.i64 e, SV.int IntKind.i64 s, SV.dat o, SV.int IntKind.i64 mx, SV.int IntKind.i64 mv],
          SV.nils])) := by kernel_rfl

theorem sameMsg_in : exec Try.prog ct2 400 (entry Try.prog 50 [.agg [.int .i64 mk, .int .i64 mf, .int .i64 mt, .int .i64 mn, .int .i64 mv, .int .i64 me, .dat ml, .dat mb], .agg [.int .i64 xk, .int .i64 xf, .int .i64 xt, .int .i64 xn, .int .i64 xv, .int .i64 xe, .dat xl, .dat xb]]) =
  Tree.br (mk != xk) (Tree.ret (SV.lb false))
    (Tree.br (mf != xf) (Tree.ret (SV.lb false))
      (Tree.br (mt != xt) (Tree.ret (SV.lb false))
        (Tree.br (mn != xn) (Tree.ret (SV.lb false))
          (Tree.br (mv != xv) (Tree.ret (SV.lb false))
            (Tree.br (me != xe) (Tree.ret (SV.lb false))
              (Tree.br ((↑(D.len ml) : Int) != (↑(D.len xl) : Int)) (Tree.ret (SV.lb false))
                (Tree.need (D.IsBytes mb)
                  (Tree.need (D.IsBytes xb)
                    (Tree.br (!List.beq (ByteArray.toList (D.bytesOf mb)) (ByteArray.toList (D.bytesOf xb)))
                      (Tree.ret (SV.lb false))
                      (Tree.leaf
                        (Conf.mk
                          (SFrm.mk 50 none none
                            [Item.inLoop (cAt Try.prog 50 [1, 1, 0, 1, 0, 0]), Item.inBlock 0,
                              Item.code (cAt Try.prog 50 [1, 1, 1])]
                            (mkJ 0 [(2, SV.ptr 0 0), (3, SV.ptr 1 0), (5, SV.int IntKind.i64 0)] 0 82))
                          []
                          [(0,
                              OBlk.cells 53
                                [SV.int IntKind.i64 mk, SV.int IntKind.i64 mf, SV.int IntKind.i64 mt,
                                  SV.int IntKind.i64 mn, SV.int IntKind.i64 mv, SV.int IntKind.i64 me, SV.dat ml,
                                  SV.dat mb]),
                            (1,
                              OBlk.cells 53
                                [SV.int IntKind.i64 xk, SV.int IntKind.i64 xf, SV.int IntKind.i64 xt,
                                  SV.int IntKind.i64 xn, SV.int IntKind.i64 xv, SV.int IntKind.i64 xe, SV.dat xl,
                                  SV.dat xb])]))))))))))) := by kernel_rfl

theorem sameMsgs_in : exec Try.prog ct2 400 (entry Try.prog 24 [.dat d, .dat d']) =
  Tree.br ((↑(D.len d) : Int) != (↑(D.len d') : Int)) (Tree.ret (SV.lb false))
    (Tree.leaf
      (Conf.mk
        (SFrm.mk 24 none none
          [Item.inLoop (cAt Try.prog 24 [1, 1, 0, 1, 0, 0]), Item.inBlock 0, Item.code (cAt Try.prog 24 [1, 1, 1])]
          (mkJ 0 [(0, SV.dat d), (1, SV.dat d'), (5, SV.int IntKind.i64 0)] 0 27))
        [] [])) := by kernel_rfl

end
end Go.Proofs.Ytnfkkmdbaknnlaa
end
section
/- Layer 32: the laws of the functions with loops. -/
open Go Go.Proofs Sx
namespace Go.Proofs.Ytnfkkmdbaknnlaa

theorem vecIn_to {P : Program} {C : Ctx} {R : Value → World → Prop} (K : Nat) (e : TypeId) (sz : Nat) (blk : Option Nat) (off : Nat) {c : Conf} (c' : Conf)
    (hc : (vecIn K e sz blk off c).map (fun c => sortC (renC c)) = some c') (h : Runs P C c' R) : Runs P C c R := by
  cases hv : vecIn K e sz blk off c with
  | none => rw [hv] at hc; cases hc
  | some c2 =>
    rw [hv] at hc
    cases hc
    exact vecIn_sound hv (renC_sound (sortC_sound h))

theorem vecIn2_to {P : Program} {C : Ctx} {R : Value → World → Prop} (K : Nat) (e : TypeId) (sz : Nat) (blk : Option Nat) (off : Nat) (K' : Nat) (e' : TypeId) (sz' : Nat) (blk' : Option Nat) (off' : Nat) {c : Conf} (c' : Conf)
    (hc : ((vecIn K e sz blk off c).bind (vecIn K' e' sz' blk' off')).map (fun c => sortC (renC c)) = some c') (h : Runs P C c' R) : Runs P C c R := by
  cases hv : vecIn K e sz blk off c with
  | none => rw [hv] at hc; cases hc
  | some c2 =>
    rw [hv] at hc
    exact vecIn_sound hv (vecIn_to K' e' sz' blk' off' c' hc h)

theorem resend_eq {e s st ap : Int} {xs : List Int} (h : checkSource ⟨e, s, xs, st, ap⟩ = 0) :
    resend ⟨e, s, xs, st, ap⟩ = (if st > ap then [⟨10, 0, s, st, 0, e, [], []⟩] else []) ++ (xs.filter fun x => decide (x > st)).map fun x => ⟨8, 0, s, x, 0, e, [], []⟩ := by
  simp only [resend, h]
  rfl

theorem filter_take {xs : List Int} {j : Nat} (h : j < xs.length) (p : Int → Bool) : (xs.take (j + 1)).filter p = (xs.take j).filter p ++ if p xs[j] then [xs[j]] else [] := by
  rw [List.take_succ_eq_append_getElem h, List.filter_append]
  simp only [List.filter_cons, List.filter_nil]

theorem filter_le {α : Type _} (p : α → Bool) (xs : List α) (j : Nat) : ((xs.take j).filter p).length ≤ j := by
  have := List.length_filter_le p (xs.take j)
  have := List.length_take_le j xs
  omega

theorem r1_loop {H : HV} {d o : D} (hd : d.Is Int) (e s st ap : Int) (w : World) (pre : List Msg) (hpre : pre.length ≤ 1) (h2 : (d.to Int).length ≤ 1024) (ms0 : D) (h0 : ms0.Is Msg) (h0s : ms0.sz = 8) (h0' : ms0.to Msg = pre) :
    Runs Try.prog ⟨w, H⟩ (r1L Try.prog e s st ap d o ms0 0) (RetD w H fun ds => .dat ((ds 0).like (pre ++ ((d.to Int).filter fun x => decide (x > st)).map fun x => (⟨8, 0, s, x, 0, e, [], []⟩ : Msg)))) := by
  have hl := D.Is.length (α := Int) d
  refine runs_loop (fun p : D × Nat => r1L Try.prog e s st ap d o p.1 p.2)
    (fun p => p.2 ≤ (d.to Int).length ∧ p.1.Is Msg ∧ p.1.sz = 8 ∧ p.1.to Msg = pre ++ (((d.to Int).take p.2).filter fun x => decide (x > st)).map fun x => (⟨8, 0, s, x, 0, e, [], []⟩ : Msg))
    (fun p => (d.to Int).length - p.2) (fun _ => rfl) ?_ (ms0, 0) ⟨Nat.zero_le _, h0, h0s, by simp [h0']⟩
  intro ⟨ms, j⟩ ⟨hj, hm, hs, hto⟩ ih
  simp only at hj hm hs hto
  apply exec_sound ctOk2 400
  rw [r1_go]
  have hml := D.Is.length (α := Msg) ms
  rw [hto] at hml
  simp only [List.length_append, List.length_map] at hml
  have hfl := filter_le (fun x => decide (x > st)) (d.to Int) j
  refine ⟨fun hc => ?_, fun hc => ?_⟩
  · simp [hl] at hc
    obtain ⟨c1, c2, c3⟩ := int_at hd hc
    rw [c3]
    refine ⟨c1, c2, fun hx => ?_, fun hx => ?_⟩
    · intro hs'
      refine ⟨⟨hs, .inr rfl, by simp; omega, by simp; omega⟩, ?_⟩
      have := ih (.slc (D.hd (hs' 19 0)) 8 (List.append (D.rows ms) (D.rows (D.slc (D.hd (hs' 18 0)) 8 [[D.int IntKind.i64 8, D.int IntKind.i64 0, D.int IntKind.i64 s, D.int IntKind.i64 (d.to Int)[j], D.int IntKind.i64 0, D.int IntKind.i64 e, D.slc none 0 [], D.slc none 0 []]]))), j + 1)
        (by
          have hr := rows_app (rows_of hm) (msg_row (m := ⟨8, 0, s, (d.to Int)[j], 0, e, [], []⟩) rfl)
          obtain ⟨i1, i2⟩ := is_of (h := D.hd (hs' 19 0)) (s := 8) rfl hr
          refine ⟨hc, i1, rfl, ?_⟩
          refine i2.trans ?_
          rw [hto, filter_take hc, hx]
          simp) (by simp; omega)
      simp only at this
      rw [← wrap_succ hc (by omega)] at this
      exact this
    · have := ih (ms, j + 1) ⟨hc, hm, hs, by rw [hto, filter_take hc, hx]; simp⟩ (by simp; omega)
      simp only at this
      rw [← wrap_succ hc (by omega)] at this
      exact this
  · simp [hl] at hc
    have : j = (d.to Int).length := by omega
    subst this
    rw [List.take_length] at hto
    exact ret_msgs (stands_dat hm hto) rfl

theorem r2_loop {H : HV} {d : D} (hd : d.Is Int) (e s st ap : Int) (w : World) (pre : List Msg) (hpre : pre.length ≤ 1) (h2 : (d.to Int).length ≤ 1024) (ms0 : D) (h0 : ms0.Is Msg) (h0s : ms0.sz = 8) (h0' : ms0.to Msg = pre) :
    Runs Try.prog ⟨w, H⟩ (r2L Try.prog e s st ap d ms0 0) (RetD w H fun ds => .dat ((ds 0).like (pre ++ ((d.to Int).filter fun x => decide (x > st)).map fun x => (⟨8, 0, s, x, 0, e, [], []⟩ : Msg)))) := by
  have hl := D.Is.length (α := Int) d
  refine runs_loop (fun p : D × Nat => r2L Try.prog e s st ap d p.1 p.2)
    (fun p => p.2 ≤ (d.to Int).length ∧ p.1.Is Msg ∧ p.1.sz = 8 ∧ p.1.to Msg = pre ++ (((d.to Int).take p.2).filter fun x => decide (x > st)).map fun x => (⟨8, 0, s, x, 0, e, [], []⟩ : Msg))
    (fun p => (d.to Int).length - p.2) (fun _ => rfl) ?_ (ms0, 0) ⟨Nat.zero_le _, h0, h0s, by simp [h0']⟩
  intro ⟨ms, j⟩ ⟨hj, hm, hs, hto⟩ ih
  simp only at hj hm hs hto
  apply exec_sound ctOk2 400
  rw [r2_go]
  have hml := D.Is.length (α := Msg) ms
  rw [hto] at hml
  simp only [List.length_append, List.length_map] at hml
  have hfl := filter_le (fun x => decide (x > st)) (d.to Int) j
  refine ⟨fun hc => ?_, fun hc => ?_⟩
  · simp [hl] at hc
    obtain ⟨c1, c2, c3⟩ := int_at hd hc
    rw [c3]
    refine fun _ => ⟨c1, c2, fun hx => ?_, fun hx => ?_⟩
    · intro hs'
      refine ⟨c1, c2, ⟨hs, .inr rfl, by simp; omega, by simp; omega⟩, ?_⟩
      have := ih (.slc (D.hd (hs' 9 0)) 8 (List.append (D.rows ms) (D.rows (D.slc (D.hd (hs' 8 0)) 8 [[D.int IntKind.i64 8, D.int IntKind.i64 0, D.int IntKind.i64 s, D.int IntKind.i64 (d.to Int)[j], D.int IntKind.i64 0, D.int IntKind.i64 e, D.slc none 0 [], D.slc none 0 []]]))), j + 1)
        (by
          have hr := rows_app (rows_of hm) (msg_row (m := ⟨8, 0, s, (d.to Int)[j], 0, e, [], []⟩) rfl)
          obtain ⟨i1, i2⟩ := is_of (h := D.hd (hs' 9 0)) (s := 8) rfl hr
          refine ⟨hc, i1, rfl, ?_⟩
          refine i2.trans ?_
          rw [hto, filter_take hc, hx]
          simp) (by simp; omega)
      simp only at this
      rw [← wrap_succ hc (by omega)] at this
      exact this
    · have := ih (ms, j + 1) ⟨hc, hm, hs, by rw [hto, filter_take hc, hx]; simp⟩ (by simp; omega)
      simp only at this
      rw [← wrap_succ hc (by omega)] at this
      exact this
  · simp [hl] at hc
    have : j = (d.to Int).length := by omega
    subst this
    rw [List.take_length] at hto
    exact ret_msgs (stands_dat hm hto) rfl
theorem lawResend1 : Law Try.prog 25 (rdSrc.one.sp spResend) := by
  refine law_in _ (by kernel_rfl) fun H w ⟨e, s, d, st, ap⟩ hok hp => ?_
  have hd : d.Is Int := hp _ (List.mem_singleton.2 rfl)
  clear hp hok
  have hl := D.Is.length (α := Int) d
  apply exec_sound ctOk2 400
  rw [show rdSrc.one.canon ⟨e, s, d, st, ap⟩ = [.agg [.int .i64 e, .int .i64 s, .dat d, .int .i64 st, .int .i64 ap]] from rfl, resend1_in]
  refine ⟨hd, fun h1 => ret_msgs stands_nils ?_, fun h1 => ?_⟩
  · simp only [bne_iff_ne, ne_eq] at h1
    simp [resend, h1]
  simp only [bne_eq_false_iff_eq] at h1
  have h8 := cs_len h1
  simp only [SrcD.src] at h1 h8
  have hr : d.rows.length = (d.to Int).length := hl
  simp only [SrcD.src, resend_eq h1]
  have one : ∀ h : Hd, (D.slc h 8 [[D.int IntKind.i64 10, D.int IntKind.i64 0, D.int IntKind.i64 s, D.int IntKind.i64 st, D.int IntKind.i64 0, D.int IntKind.i64 e, D.slc none 0 [], D.slc none 0 []]]).Is Msg ∧
    (D.slc h 8 [[D.int IntKind.i64 10, D.int IntKind.i64 0, D.int IntKind.i64 s, D.int IntKind.i64 st, D.int IntKind.i64 0, D.int IntKind.i64 e, D.slc none 0 [], D.slc none 0 []]]).to Msg = [⟨10, 0, s, st, 0, e, [], []⟩] := fun h => is_of rfl (msg_row rfl)
  have nn : (D.slc none 8 []).Is Msg := is_nil _ _
  refine ⟨fun _ => ⟨fun hst => ?_, fun hst => ?_⟩, fun _ hs => ⟨⟨rfl, hd.fits, by simp; omega, by simp; omega⟩, fun hs1 => ⟨fun hst => ?_, fun hst => ?_⟩⟩⟩
  · intro hs
    rw [if_pos (by simpa using hst)]
    refine ⟨⟨.inr rfl, by simp, by simp⟩, ?_⟩
    exact vecIn_to 9 3 1 (some 1) 2 (r1L Try.prog e s st ap d (.slc none 1 []) (.slc (D.hd (hs 19 0)) 8 [[D.int IntKind.i64 10, D.int IntKind.i64 0, D.int IntKind.i64 s, D.int IntKind.i64 st, D.int IntKind.i64 0, D.int IntKind.i64 e, D.slc none 0 [], D.slc none 0 []]]) 0)
      (by kernel_rfl) (r1_loop hd e s st ap w [⟨10, 0, s, st, 0, e, [], []⟩] (by simp) h8 _ (one _).1 rfl (one _).2)
  · rw [if_neg (by simpa using hst)]
    exact vecIn2_to 9 3 1 (some 1) 2 10 53 8 (some 1) 5 (r1L Try.prog e s st ap d (.slc none 1 []) (.slc none 8 []) 0) (by kernel_rfl) (r1_loop hd e s st ap w [] (by simp) h8 _ nn rfl rfl)
  · intro hs2
    rw [if_pos (by simpa using hst)]
    refine ⟨⟨.inr rfl, by simp, by simp⟩, ?_⟩
    exact r1_loop hd e s st ap w [⟨10, 0, s, st, 0, e, [], []⟩] (by simp) h8 _ (one _).1 rfl (one _).2
  · rw [if_neg (by simpa using hst)]
    exact vecIn_to 9 53 8 (some 1) 5 (r1L Try.prog e s st ap d (.slc (D.hd (hs1 0 0)) 1 (List.append (D.rows (.slc (D.hd (hs 0 0)) 1 [])) (D.rows d))) (.slc none 8 []) 0) (by kernel_rfl) (r1_loop hd e s st ap w [] (by simp) h8 _ nn rfl rfl)

theorem lawResend2 : Law Try.prog 26 (rdSrc.one.sp spResend) := by
  refine law_in _ (by kernel_rfl) fun H w ⟨e, s, d, st, ap⟩ hok hp => ?_
  have hd : d.Is Int := hp _ (List.mem_singleton.2 rfl)
  clear hp hok
  have hl := D.Is.length (α := Int) d
  apply exec_sound ctOk2 400
  rw [show rdSrc.one.canon ⟨e, s, d, st, ap⟩ = [.agg [.int .i64 e, .int .i64 s, .dat d, .int .i64 st, .int .i64 ap]] from rfl, resend2_in]
  refine ⟨hd, fun h1 => ret_msgs stands_nils ?_, fun h1 => ?_⟩
  · simp only [bne_iff_ne, ne_eq] at h1
    simp [resend, h1]
  simp only [bne_eq_false_iff_eq] at h1
  have h8 := cs_len h1
  simp only [SrcD.src] at h1 h8
  simp only [SrcD.src, resend_eq h1]
  have one : ∀ h : Hd, (D.slc h 8 [[D.int IntKind.i64 10, D.int IntKind.i64 0, D.int IntKind.i64 s, D.int IntKind.i64 st, D.int IntKind.i64 0, D.int IntKind.i64 e, D.slc none 0 [], D.slc none 0 []]]).Is Msg ∧
    (D.slc h 8 [[D.int IntKind.i64 10, D.int IntKind.i64 0, D.int IntKind.i64 s, D.int IntKind.i64 st, D.int IntKind.i64 0, D.int IntKind.i64 e, D.slc none 0 [], D.slc none 0 []]]).to Msg = [⟨10, 0, s, st, 0, e, [], []⟩] := fun h => is_of rfl (msg_row rfl)
  have nn : (D.slc none 8 []).Is Msg := is_nil _ _
  refine ⟨fun hst => ?_, fun hst => ?_⟩
  · rw [if_pos (by simpa using hst)]
    refine fun _ _ => ⟨⟨.inr rfl, by simp, by simp⟩, fun _ => ?_⟩
    exact r2_loop hd e s st ap w [⟨10, 0, s, st, 0, e, [], []⟩] (by simp) h8 _ (one _).1 rfl (one _).2
  · rw [if_neg (by simpa using hst)]
    exact vecIn_to 9 53 8 none 3 (r2L Try.prog e s st ap d (.slc none 8 []) 0) (by kernel_rfl) (r2_loop hd e s st ap w [] (by simp) h8 _ nn rfl rfl)

theorem l2_loop {H : HV} {d : D} (hd : d.Is Int) (e s st ap mx mk mf mt mn mv me : Int) (ml mb : D) (w : World) (h2 : (d.to Int).length ≤ 1024) (r : Src × List Msg)
    (hr : r = (⟨e, s, (d.to Int).filter fun x => decide (x > mv), mx, mv⟩, [])) :
    Runs Try.prog ⟨w, H⟩ (l2L Try.prog e s st ap mx d (.slc none 1 []) mk mf mt mn mv me ml mb 0) (RetD w H fun ds => .tup [srcSV (ds 0) r.1, .dat ((ds 1).like r.2)]) := by
  have hl := D.Is.length (α := Int) d
  refine runs_loop (fun p : D × Nat => l2L Try.prog e s st ap mx d p.1 mk mf mt mn mv me ml mb p.2)
    (fun p => p.2 ≤ (d.to Int).length ∧ p.1.Is Int ∧ p.1.sz = 1 ∧ p.1.to Int = ((d.to Int).take p.2).filter fun x => decide (x > mv))
    (fun p => (d.to Int).length - p.2) (fun _ => rfl) ?_ (.slc none 1 [], 0) ⟨Nat.zero_le _, is_nil _ _, rfl, rfl⟩
  intro ⟨o, j⟩ ⟨hj, hm, hs, hto⟩ ih
  simp only at hj hm hs hto
  apply exec_sound ctOk2 400
  rw [l2_go]
  have hml := D.Is.length (α := Int) o
  rw [hto] at hml
  have hfl := filter_le (fun x => decide (x > mv)) (d.to Int) j
  refine ⟨fun hc => ?_, fun hc => ?_⟩
  · simp [hl] at hc
    obtain ⟨c1, c2, c3⟩ := int_at hd hc
    rw [c3]
    refine fun _ => ⟨c1, c2, fun hx => ?_, fun hx => ?_⟩
    · intro hs'
      refine ⟨c1, c2, ⟨hs, .inr rfl, by simp; omega, by simp; omega⟩, ?_⟩
      have := ih (.slc (D.hd (hs' 8 0)) 1 (List.append (D.rows o) (D.rows (D.slc (D.hd (hs' 7 0)) 1 [[D.int IntKind.i64 (d.to Int)[j]]]))), j + 1)
        (by
          have hr := rows_app (rows_of hm) (rows_one (ok_int (d.to Int)[j]) rfl)
          obtain ⟨i1, i2⟩ := is_of (h := D.hd (hs' 8 0)) (s := 1) rfl hr
          refine ⟨hc, i1, rfl, ?_⟩
          refine i2.trans ?_
          rw [hto, filter_take hc, hx]
          simp) (by simp; omega)
      simp only at this
      rw [← wrap_succ hc (by omega)] at this
      exact this
    · have := ih (o, j + 1) ⟨hc, hm, hs, by rw [hto, filter_take hc, hx]; simp⟩ (by simp; omega)
      simp only at this
      rw [← wrap_succ hc (by omega)] at this
      exact this
  · simp [hl] at hc
    have : j = (d.to Int).length := by omega
    subst this
    rw [List.take_length] at hto
    exact ret_src2 (stands_dat hm hto) stands_nils hr

end Go.Proofs.Ytnfkkmdbaknnlaa
end
section
/- Layer 32: the laws of Learn. -/
open Go Go.Proofs Sx
namespace Go.Proofs.Ytnfkkmdbaknnlaa

theorem cs_e {e s st ap : Int} {xs : List Int} (h : checkSource ⟨e, s, xs, st, ap⟩ = 0) : 0 ≤ e ∧ asc ap xs = true := by
  unfold checkSource at h
  split at h
  · cases h
  · rename_i hr
    split at h
    · cases h
    · split at h
      · cases h
      · rename_i ha
        rw [Bool.not_eq_false, okRight_iff] at hr
        exact ⟨hr.1.1, by simpa using ha⟩

theorem asc_gt : ∀ {xs : List Int} {l : Int}, asc l xs = true → ∀ x, x ∈ xs → l < x
  | [], _, _, x, hx => by cases hx
  | y :: r, l, h, x, hx => by
    simp only [asc, Bool.and_eq_true, decide_eq_true_eq] at h
    rcases List.mem_cons.1 hx with rfl | hx
    · exact h.1.1
    · have := asc_gt h.2 x hx; omega

theorem asc_filter : ∀ {xs : List Int} {l v : Int} {i : Nat}, asc l xs = true → xs[i]? = some v → xs.filter (fun x => decide (x > v)) = xs.drop (i + 1)
  | [], _, _, _, _, h => by simp at h
  | y :: r, l, v, 0, h, hi => by
    simp only [asc, Bool.and_eq_true, decide_eq_true_eq] at h
    simp at hi
    subst hi
    simp only [List.filter_cons, Int.lt_irrefl, gt_iff_lt, decide_false, Bool.false_eq_true, if_false, List.drop_succ_cons, List.drop_zero]
    rw [List.filter_eq_self]
    intro x hx
    simpa using asc_gt h.2 x hx
  | y :: r, l, v, i + 1, h, hi => by
    simp only [asc, Bool.and_eq_true, decide_eq_true_eq] at h
    simp only [List.getElem?_cons_succ] at hi
    have hlt := asc_gt h.2 v (List.mem_of_getElem? hi)
    simp only [List.filter_cons, List.drop_succ_cons]
    rw [if_neg (by simp; omega)]
    exact asc_filter h.2 hi

theorem idxF_spec {xs : List Int} {v : Int} : (idxF xs v = -1 ∧ v ∉ xs) ∨ ∃ i : Nat, idxF xs v = i ∧ xs[i]? = some v := by
  unfold idxF
  cases h : xs.findIdx? (fun x => v == x) with
  | none =>
    left
    rw [List.findIdx?_eq_none_iff] at h
    refine ⟨rfl, fun hv => ?_⟩
    have := h v hv
    simp at this
  | some i =>
    right
    rw [List.findIdx?_eq_some_iff_getElem] at h
    obtain ⟨hi, h1, _⟩ := h
    simp at h1
    exact ⟨i, rfl, by rw [List.getElem?_eq_getElem hi, ← h1]⟩

/-- Learn, behind the checks. -/
theorem learn_eq {e s st ap mk mf mt mn mv me : Int} {xs vs : List Int} {bs : List Byte} (h1 : checkSource ⟨e, s, xs, st, ap⟩ = 0) (h2 : mf = s) (h3 : ¬ me < e) (h4 : ¬ me > 1073741824) :
    learn ⟨e, s, xs, st, ap⟩ ⟨mk, mf, mt, mn, mv, me, vs, bs⟩ = if mk ≠ 9 ∧ mk ≠ 11 ∧ mk ≠ 12 then (⟨e, s, xs, st, ap⟩, [])
      else if me > e then (⟨me, s, [], ap, ap⟩, [])
      else if mk = 9 then (if mv ∈ xs ∧ mv ≥ st then (⟨e, s, xs, mv, ap⟩, [⟨10, 0, s, mv, 0, e, [], []⟩]) else (⟨e, s, xs, st, ap⟩, []))
      else if mk = 11 then (if mv ∈ xs then (⟨e, s, xs.filter fun x => decide (x > mv), max st mv, mv⟩, []) else (⟨e, s, xs, st, ap⟩, []))
      else (⟨e, s, xs, st, ap⟩, []) := by
  subst h2
  simp only [learn, h1, ne_eq, not_true_eq_false, h3, h4, or_self, if_false, toTarget]

theorem lawLearn1 : Law Try.prog 29 ((rdSrc.two rdMsg).sp spLearn) := by
  refine law_in _ (by kernel_rfl) fun H w ⟨⟨e, s, d, st, ap⟩, ⟨mk, mf, mt, mn, mv, me, ml, mb⟩⟩ hok hp => ?_
  have hd : d.Is Int := hp _ (List.mem_singleton.2 rfl)
  have hdo : d.Ok H := hok.1.2.2.1.1
  clear hp hok
  have hl := D.Is.length (α := Int) d
  apply exec_sound ctOk2 600
  rw [show (rdSrc.two rdMsg).canon (⟨e, s, d, st, ap⟩, ⟨mk, mf, mt, mn, mv, me, ml, mb⟩) = [.agg [.int .i64 e, .int .i64 s, .dat d, .int .i64 st, .int .i64 ap], .agg [.int .i64 mk, .int .i64 mf, .int .i64 mt, .int .i64 mn, .int .i64 mv, .int .i64 me, .dat ml, .dat mb]] from rfl, learn1_in]
  simp only [SrcD.src, MsgD.msg]
  refine ⟨hd, fun h1 => ret_src2 (stands_self hd) stands_nils ?_, fun h1 => ⟨fun h2 => ret_src2 (stands_self hd) stands_nils ?_, fun h2 => ⟨fun h3 => ret_src2 (stands_self hd) stands_nils ?_, fun h3 => ⟨fun h4 => ⟨fun h5 => ret_src2 (stands_self hd) stands_nils ?_, fun h5 => ?_⟩, fun h4 => ret_src2 (stands_self hd) stands_nils ?_⟩⟩⟩⟩
  · simp only [bne_iff_ne, ne_eq] at h1
    simp [learn, h1]
  · simp only [bne_iff_ne, ne_eq] at h2
    simp [learn, h2]
  · simp at h3
    simp [learn, h3]
  · simp at h5
    simp [learn, show me > 1073741824 by omega]
  · simp only [bne_eq_false_iff_eq] at h1 h2
    simp only [decide_eq_false_iff_not, decide_eq_true_eq, Bool.not_eq_false'] at h3 h4 h5
    have h8 := cs_len h1
    simp only at h8
    obtain ⟨_, hasc⟩ := cs_e h1
    have hr : d.rows.length = (d.to Int).length := hl
    rw [learn_eq h1 h2 h3 (by omega)]
    have clone : ∀ h h' : Hd, (D.slc h 1 (List.append (D.rows (.slc h' 1 [])) (D.rows d))).Is Int ∧ (D.slc h 1 (List.append (D.rows (.slc h' 1 [])) (D.rows d))).to Int = [] ++ d.to Int := fun h h' => is_of rfl (rows_app rows_nil (rows_of hd))
    have stc : ∀ h h' : Hd, Stands Int (.dat (D.slc h 1 (List.append (D.rows (.slc h' 1 [])) (D.rows d)))) (d.to Int) := fun h h' => stands_dat (clone h h').1 (by rw [(clone h h').2]; rfl)
    refine ⟨fun hn => ?_, fun hn hs => ⟨⟨rfl, hd.fits, by simp; omega, by simp; omega⟩, fun hs1 => ?_⟩⟩
    · have h0 := nil_to (α := Int) hdo hn
      rw [h0]
      have n0 : (D.slc none 0 []).to Int = [] := rfl
      refine ⟨fun k9 => ⟨fun h6 _ _ => ret_src2 stands_nils stands_nils ?_, fun h6 => ⟨⟨is_nil _ _, by omega⟩, fun hc => by simp [n0] at hc, fun hc _ => ret_src2 stands_nils stands_nils ?_⟩⟩,
        fun k9 => ⟨fun k11 => ⟨fun h6 _ _ => ret_src2 stands_nils stands_nils ?_, fun h6 => ⟨⟨is_nil _ _, by omega⟩, fun hc => by simp [n0, idxF] at hc, fun hc _ => ret_src2 stands_nils stands_nils ?_⟩⟩,
          fun k11 => ⟨fun k12 => ⟨fun h6 _ _ => ret_src2 stands_nils stands_nils ?_, fun h6 _ => ret_src2 stands_nils stands_nils ?_⟩, fun k12 _ => ret_src2 stands_nils stands_nils ?_⟩⟩⟩
      all_goals (clear clone stc; simp at *; (try simp [*]); (try (intros; omega)))
    · have hcon : ∀ h h' : Hd, (D.slc h 1 (List.append (D.rows (.slc h' 1 [])) (D.rows d))).to Int = d.to Int := fun h h' => by rw [(clone h h').2]; rfl
      refine ⟨fun k9 => ⟨fun h6 _ _ => ret_src2 stands_nils stands_nils ?_, fun h6 => ⟨⟨(clone _ _).1, by simp; omega⟩, fun hc => ⟨fun hv hs2 => ⟨⟨.inr rfl, by simp, by simp⟩, fun _ => ret_src2 (stc _ _) (stands_rows rfl (msg_row rfl)) ?_⟩, fun hv _ => ret_src2 (stc _ _) stands_nils ?_⟩, fun hc _ => ret_src2 (stc _ _) stands_nils ?_⟩⟩,
        fun k9 => ⟨fun k11 => ⟨fun h6 _ _ => ret_src2 stands_nils stands_nils ?_, fun h6 => ⟨⟨(clone _ _).1, by simp; omega⟩, fun hc => ⟨?_, fun _ => ret_src2 (stands_dat ((clone _ _).1.sub _ _).1 ((clone _ _).1.sub _ _).2) stands_nils ?_⟩, fun hc _ => ret_src2 (stc _ _) stands_nils ?_⟩⟩,
          fun k11 => ⟨fun k12 => ⟨fun h6 _ _ => ret_src2 stands_nils stands_nils ?_, fun h6 _ => ret_src2 (stc _ _) stands_nils ?_⟩, fun k12 _ => ret_src2 (stc _ _) stands_nils ?_⟩⟩⟩
      · clear clone stc hcon; simp at *; (try simp [*]); (try (intros; omega))
      · rw [hcon] at hc; clear clone stc hcon; simp at *; (try simp [*]); (try (intros; omega))
      · rw [hcon] at hc; clear clone stc hcon; simp at *; (try simp [*]); rw [if_neg (by omega), if_neg (by omega)]
      · rw [hcon] at hc; clear clone stc hcon; simp at *; (try simp [*]); (try (intros; omega))
      · clear clone stc hcon; simp at *; (try simp [*]); (try (intros; omega))
      · rw [hcon] at hc ⊢
        rcases idxF_spec (xs := d.to Int) (v := mv) with ⟨hi, _⟩ | ⟨i, hi, hx⟩
        · rw [hi] at hc; simp at hc
        · have hlt := (List.getElem?_eq_some_iff.1 hx).1
          rw [hi, wrap_succ hlt (by omega)]
          exact ⟨by omega, by simp; omega, Int.le_refl _, .inr rfl⟩
      · rw [hcon] at hc ⊢
        rcases idxF_spec (xs := d.to Int) (v := mv) with ⟨hi, _⟩ | ⟨i, hi, hx⟩
        · rw [hi] at hc; simp at hc
        · have hlt := (List.getElem?_eq_some_iff.1 hx).1
          have hmem : mv ∈ d.to Int := List.mem_of_getElem? hx
          rw [hi, wrap_succ hlt (by omega)]
          have hd2 : ((d.to Int).drop (Int.toNat ((i + 1 : Nat) : Int))).take (Int.toNat ((D.len (.slc (D.hd (hs1 0 0)) 1 (List.append (D.rows (.slc (D.hd (hs 0 0)) 1 [])) (D.rows d))) : Nat) : Int) - Int.toNat ((i + 1 : Nat) : Int)) = (d.to Int).filter fun x => decide (x > mv) := by
            rw [asc_filter hasc hx, Int.toNat_natCast, Int.toNat_natCast, List.take_of_length_le (by simp; omega)]
          rw [hd2]
          clear clone stc hcon
          simp at k9 k11 h6
          rw [if_neg (by omega), if_neg (by omega), if_neg (by omega), if_pos (by omega), if_pos hmem]
          congr 2
          split <;> omega
      · rw [hcon] at hc
        rcases idxF_spec (xs := d.to Int) (v := mv) with ⟨hi, hmem⟩ | ⟨i, hi, hx⟩
        · clear clone stc hcon
          simp at k9 k11 h6
          rw [if_neg (by omega), if_neg (by omega), if_neg (by omega), if_pos (by omega), if_neg hmem]
        · rw [hi] at hc; simp at hc
      · clear clone stc hcon; simp at *; (try simp [*]); (try (intros; omega))
      · clear clone stc hcon; simp at *; (try simp [*]); (try (intros; omega))
      · clear clone stc hcon; simp at *; (try simp [*]); (try (intros; omega))
  · simp only [bne_eq_false_iff_eq] at h1 h2
    obtain ⟨he, _⟩ := cs_e h1
    simp at h3 h4
    omega

theorem lawLearn2 : Law Try.prog 30 ((rdSrc.two rdMsg).sp spLearn) := by
  refine law_in _ (by kernel_rfl) fun H w ⟨⟨e, s, d, st, ap⟩, ⟨mk, mf, mt, mn, mv, me, ml, mb⟩⟩ hok hp => ?_
  have hd : d.Is Int := hp _ (List.mem_singleton.2 rfl)
  clear hp hok
  have hl := D.Is.length (α := Int) d
  apply exec_sound ctOk2 600
  rw [show (rdSrc.two rdMsg).canon (⟨e, s, d, st, ap⟩, ⟨mk, mf, mt, mn, mv, me, ml, mb⟩) = [.agg [.int .i64 e, .int .i64 s, .dat d, .int .i64 st, .int .i64 ap], .agg [.int .i64 mk, .int .i64 mf, .int .i64 mt, .int .i64 mn, .int .i64 mv, .int .i64 me, .dat ml, .dat mb]] from rfl, learn2_in]
  simp only [SrcD.src, MsgD.msg]
  refine ⟨hd, fun h1 => ret_src2 (stands_self hd) stands_nils ?_, fun h1 => ⟨fun h2 => ret_src2 (stands_self hd) stands_nils ?_, fun h2 => ⟨fun h3 => ret_src2 (stands_self hd) stands_nils ?_, fun h3 => ⟨fun h4 => ret_src2 (stands_self hd) stands_nils ?_, fun h4 => ?_⟩⟩⟩⟩
  · simp only [bne_iff_ne, ne_eq] at h1
    simp [learn, h1]
  · simp only [bne_iff_ne, ne_eq] at h2
    simp [learn, h2]
  · simp at h3
    simp [learn, h3]
  · simp at h4
    simp [learn, show me > 1073741824 by omega]
  · simp only [bne_eq_false_iff_eq] at h1 h2
    simp only [decide_eq_false_iff_not] at h3 h4
    have h8 := cs_len h1
    simp only at h8
    have hr : d.rows.length = (d.to Int).length := hl
    rw [learn_eq h1 h2 h3 h4]
    clear h1 h2 h3 h4
    repeat' first
      | refine ⟨fun hc => ?_, fun hc => ?_⟩
      | refine ⟨⟨hd, by omega⟩, ?_⟩
      | refine ⟨⟨hd.fits, by omega, by omega⟩, ?_⟩
      | refine fun (hs : Nat → Nat → D) => ?_
      | fail
    all_goals simp only [bne_iff_ne, ne_eq, bne_eq_false_iff_eq, decide_eq_true_eq, decide_eq_false_iff_not, List.contains_eq_mem, gt_iff_lt, ge_iff_le] at *
    all_goals first
      | (exfalso; omega)
      | (refine ret_src2 stands_nils stands_nils ?_; simp [*]; done)
      | (refine ret_src2 (stands_self hd) stands_nils ?_; simp [*]; done)
      | (refine ret_src2 (stands_rows rfl (rows_of hd)) stands_nils ?_; simp [*]; done)
      | (refine ret_src2 (stands_rows rfl (rows_of hd)) (stands_rows rfl (msg_row rfl)) ?_; simp [*]; done)
      | exact vecIn_to 9 3 1 (some 3) 2 (l2L Try.prog e s st ap (if st < mv then mv else st) d (.slc none 1 []) mk mf mt mn mv me ml mb 0) (by kernel_rfl) (l2_loop hd e s st ap _ mk mf mt mn mv me ml mb w h8 _ (by simp [*]; split <;> omega))
      | fail
end Go.Proofs.Ytnfkkmdbaknnlaa
end
section
/- Layer 32: the laws of Answer and of the comparisons. -/
open Go Go.Proofs Sx
namespace Go.Proofs.Ytnfkkmdbaknnlaa

theorem lawAnswer (f : FuncId) (hf : f = 35 ∨ f = 36) : Law Try.prog f ((rdTgt.two rdMsg).sp spAnswer) := by
  rcases hf with rfl | rfl
  all_goals
    refine law_in _ (by kernel_rfl) fun H w ⟨⟨e, s, st, ap⟩, ⟨mk, mf, mt, mn, mv, me, ml, mb⟩⟩ hok hp => ?_
    clear hp hok
    apply exec_sound ctOk2 400
    rw [show (rdTgt.two rdMsg).canon (⟨e, s, st, ap⟩, ⟨mk, mf, mt, mn, mv, me, ml, mb⟩) = [.agg [.int .i64 e, .int .i64 s, .int .i64 st, .int .i64 ap], .agg [.int .i64 mk, .int .i64 mf, .int .i64 mt, .int .i64 mn, .int .i64 mv, .int .i64 me, .dat ml, .dat mb]] from rfl]
    first | rw [answer1_in] | rw [answer2_in]
    simp only [MsgD.msg]
    repeat' first
      | refine ⟨fun hc => ?_, fun hc => ?_⟩
      | refine ⟨by assumption, ?_⟩
      | refine fun (hs : Nat → Nat → D) => ?_
      | fail
    all_goals simp only [bne_iff_ne, ne_eq, bne_eq_false_iff_eq, decide_eq_true_eq, decide_eq_false_iff_not, gt_iff_lt, ge_iff_le, Bool.not_eq_true', Bool.not_eq_false'] at *
    all_goals first
      | (exfalso; omega)
      | (refine ret_tgt2 stands_nils ?_; simp [answer, okTime, *]; done)
      | (refine ret_tgt2 stands_like ?_; simp [answer, okTime, toSource, *]; done)
      | fail
end Go.Proofs.Ytnfkkmdbaknnlaa
end
section
open Go Go.Proofs Sx
namespace Go.Proofs.Ytnfkkmdbaknnlaa
set_option maxRecDepth 100000
set_option maxHeartbeats 0
def smL (P : Program) (mk mf mt mn mv me xk xf xt xn xv xe : Int) (ml mb xl xb : D) (j : Int) : Conf := Conf.mk (SFrm.mk 50 none none
  [Item.inLoop (cAt P 50 [1, 1, 0, 1, 0, 0]), Item.inBlock 0, Item.code (cAt P 50 [1, 1, 1])]
  (mkJ 0 [(2, .ptr 0 0), (3, .ptr 1 0), (5, .int .i64 j)] 0 82))
  [] [(0, .cells 53 [.int .i64 mk, .int .i64 mf, .int .i64 mt, .int .i64 mn, .int .i64 mv, .int .i64 me, .dat ml, .dat mb]), (1, .cells 53 [.int .i64 xk, .int .i64 xf, .int .i64 xt, .int .i64 xn, .int .i64 xv, .int .i64 xe, .dat xl, .dat xb])]
def sm0L (P : Program) (e s st ap e' s' st' ap' : Int) (d o : D) (j : Int) : Conf := Conf.mk (SFrm.mk 17 none none
  [Item.inLoop (cAt P 17 [1, 1, 0, 1, 0, 0]), Item.inBlock 0, Item.code (cAt P 17 [1, 1, 1])]
  (mkJ 0 [(2, .ptr 0 0), (3, .ptr 1 0), (5, .int .i64 j)] 0 59))
  [] [(0, .cells 24 [.int .i64 e, .int .i64 s, .dat d, .int .i64 st, .int .i64 ap]), (1, .cells 24 [.int .i64 e', .int .i64 s', .dat o, .int .i64 st', .int .i64 ap'])]
def smsL (P : Program) (d d' : D) (j : Int) : Conf := Conf.mk (SFrm.mk 24 none none
  [Item.inLoop (cAt P 24 [1, 1, 0, 1, 0, 0]), Item.inBlock 0, Item.code (cAt P 24 [1, 1, 1])]
  (mkJ 0 [(0, .dat d), (1, .dat d'), (5, .int .i64 j)] 0 27)) [] []
noncomputable def ct3 : Ctrs := (50, ctrOf ((rdMsg.two rdMsg).sp spSameMsg)) :: ct2
section
variable (e s st ap j n last k m e' s' st' ap' mk mf mt mn mv me mx xk xf xt xn xv xe : Int) (d d' mb ml xb xl : D) (o ms : D)
theorem sm0_go : exec Try.prog ct 300 (unroll (sm0L Try.prog e s st ap e' s' st' ap' d o j)) =
  Tree.br (decide (j < (↑(D.len d) : Int)))
    (Tree.all fun hs =>
      Tree.need (0 ≤ j ∧ j < (↑(D.len d) : Int) ∧ D.sz d = 1)
        (Tree.need (D.HasCell d (Int.toNat j) 0 (FT.int IntKind.i64))
          (Tree.need (0 ≤ j ∧ j < (↑(D.len o) : Int) ∧ D.sz o = 1)
            (Tree.need (D.HasCell o (Int.toNat j) 0 (FT.int IntKind.i64))
              (Tree.br (D.getInt d (Int.toNat j) 0 != D.getInt o (Int.toNat j) 0) (Tree.ret (SV.lb false))
                (Tree.leaf
                  (Conf.mk
                    (SFrm.mk 17 none none
                      [Item.inLoop (cAt Try.prog 17 [1, 1, 0, 1, 0, 0]), Item.inBlock 0,
                        Item.code (cAt Try.prog 17 [1, 1, 1])]
                      (mkJ 0
                        [(2, SV.ptr 0 0), (3, SV.ptr 1 0), (5, SV.int IntKind.i64 (IntKind.wrap IntKind.i64 (j + 1)))] 0
                        59))
                    []
                    [(0,
                        OBlk.cells 24
                          [SV.int IntKind.i64 e, SV.int IntKind.i64 s, SV.dat d, SV.int IntKind.i64 st,
                            SV.int IntKind.i64 ap]),
                      (1,
                        OBlk.cells 24
                          [SV.int IntKind.i64 e', SV.int IntKind.i64 s', SV.dat o, SV.int IntKind.i64 st',
                            SV.int IntKind.i64 ap'])])))))))
    (Tree.ret (SV.lb true)) := by kernel_rfl

theorem sm_go : exec Try.prog ct2 400 (unroll (smL Try.prog mk mf mt mn mv me xk xf xt xn xv xe ml mb xl xb j)) =
  Tree.br (decide (j < (↑(D.len ml) : Int)))
    (Tree.all fun hs =>
      Tree.need (0 ≤ j ∧ j < (↑(D.len ml) : Int) ∧ D.sz ml = 1)
        (Tree.need (D.HasCell ml (Int.toNat j) 0 (FT.int IntKind.i64))
          (Tree.need (0 ≤ j ∧ j < (↑(D.len xl) : Int) ∧ D.sz xl = 1)
            (Tree.need (D.HasCell xl (Int.toNat j) 0 (FT.int IntKind.i64))
              (Tree.br (D.getInt ml (Int.toNat j) 0 != D.getInt xl (Int.toNat j) 0) (Tree.ret (SV.lb false))
                (Tree.leaf
                  (Conf.mk
                    (SFrm.mk 50 none none
                      [Item.inLoop (cAt Try.prog 50 [1, 1, 0, 1, 0, 0]), Item.inBlock 0,
                        Item.code (cAt Try.prog 50 [1, 1, 1])]
                      (mkJ 0
                        [(2, SV.ptr 0 0), (3, SV.ptr 1 0), (5, SV.int IntKind.i64 (IntKind.wrap IntKind.i64 (j + 1)))] 0
                        82))
                    []
                    [(0,
                        OBlk.cells 53
                          [SV.int IntKind.i64 mk, SV.int IntKind.i64 mf, SV.int IntKind.i64 mt, SV.int IntKind.i64 mn,
                            SV.int IntKind.i64 mv, SV.int IntKind.i64 me, SV.dat ml, SV.dat mb]),
                      (1,
                        OBlk.cells 53
                          [SV.int IntKind.i64 xk, SV.int IntKind.i64 xf, SV.int IntKind.i64 xt, SV.int IntKind.i64 xn,
                            SV.int IntKind.i64 xv, SV.int IntKind.i64 xe, SV.dat xl, SV.dat xb])])))))))
    (Tree.ret (SV.lb true)) := by kernel_rfl

theorem sms_go : exec Try.prog ct3 400 (unroll (smsL Try.prog d d' j)) =
  Tree.br (decide (j < (↑(D.len d) : Int)))
    (Tree.all fun hs =>
      Tree.need (0 ≤ j ∧ j < (↑(D.len d) : Int) ∧ D.sz d = 8)
        (Tree.need
          (D.HasCells d (Int.toNat j) 0
            [FT.int IntKind.i64, FT.int IntKind.i64, FT.int IntKind.i64, FT.int IntKind.i64, FT.int IntKind.i64,
              FT.int IntKind.i64, FT.slc, FT.slc])
          (Tree.need (0 ≤ j ∧ j < (↑(D.len d') : Int) ∧ D.sz d' = 8)
            (Tree.need
              (D.HasCells d' (Int.toNat j) 0
                [FT.int IntKind.i64, FT.int IntKind.i64, FT.int IntKind.i64, FT.int IntKind.i64, FT.int IntKind.i64,
                  FT.int IntKind.i64, FT.slc, FT.slc])
              (Tree.need
                (D.Is Int (D.cell d (Int.toNat j) 6) ∧
                  D.Is Int (D.cell d' (Int.toNat j) 6) ∧
                    D.Is Byte (D.cell d (Int.toNat j) 7) ∧
                      D.Is Byte (D.cell d' (Int.toNat j) 7) ∧
                        D.len (D.cell d (Int.toNat j) 6) ≤ 1048576 ∧
                          D.to Byte (D.cell d (Int.toNat j) 7) = [] ∧ D.to Byte (D.cell d' (Int.toNat j) 7) = [])
                (Tree.br
                  (!decide
                      (MsgD.msg
                          (MsgD.mk (D.getInt d (Int.toNat j) 0) (D.getInt d (Int.toNat j) 1) (D.getInt d (Int.toNat j) 2)
                            (D.getInt d (Int.toNat j) 3) (D.getInt d (Int.toNat j) 4) (D.getInt d (Int.toNat j) 5)
                            (D.cell d (Int.toNat j) 6) (D.cell d (Int.toNat j) 7)) =
                        MsgD.msg
                          (MsgD.mk (D.getInt d' (Int.toNat j) 0) (D.getInt d' (Int.toNat j) 1)
                            (D.getInt d' (Int.toNat j) 2) (D.getInt d' (Int.toNat j) 3) (D.getInt d' (Int.toNat j) 4)
                            (D.getInt d' (Int.toNat j) 5) (D.cell d' (Int.toNat j) 6) (D.cell d' (Int.toNat j) 7))))
                  (Tree.ret (SV.lb false))
                  (Tree.leaf
                    (Conf.mk
                      (SFrm.mk 24 none none
                        [Item.inLoop (cAt Try.prog 24 [1, 1, 0, 1, 0, 0]), Item.inBlock 0,
                          Item.code (cAt Try.prog 24 [1, 1, 1])]
                        (mkJ 0 [(0, SV.dat d), (1, SV.dat d'), (5, SV.int IntKind.i64 (IntKind.wrap IntKind.i64 (j + 1)))]
                          0 27))
                      [] []))))))))
    (Tree.ret (SV.lb true)) := by kernel_rfl

end
end Go.Proofs.Ytnfkkmdbaknnlaa
end
section
/- Layer 32: the laws of the comparisons. -/
open Go Go.Proofs Sx
namespace Go.Proofs.Ytnfkkmdbaknnlaa

theorem take_eq {α : Type _} {xs ys : List α} {j : Nat} (hx : j < xs.length) (hy : j < ys.length) : xs.take (j + 1) = ys.take (j + 1) ↔ xs.take j = ys.take j ∧ xs[j] = ys[j] := by
  rw [List.take_succ_eq_append_getElem hx, List.take_succ_eq_append_getElem hy]
  constructor
  · intro h
    have := List.append_inj h (by simp; omega)
    exact ⟨this.1, by simpa using this.2⟩
  · rintro ⟨h1, h2⟩; rw [h1, h2]

theorem ne_of_take {α : Type _} {xs ys : List α} {j : Nat} (hx : j < xs.length) (hy : j < ys.length) (h : xs[j] ≠ ys[j]) : xs ≠ ys := by
  rintro rfl; exact h rfl

theorem lawSame : Law Try.prog 17 ((rdSrc.two rdSrc).sp spSame) := by
  refine law_in _ (by kernel_rfl) fun H w ⟨⟨e, s, d, st, ap⟩, ⟨e', s', o, st', ap'⟩⟩ hok hp => ?_
  obtain ⟨hd, ho, hlen⟩ := hp _ (List.mem_singleton.2 rfl)
  simp only at hd ho hlen
  clear hp hok
  have hl := D.Is.length (α := Int) d
  have hl' := D.Is.length (α := Int) o
  apply exec_sound (noCtr _) 300
  rw [show (rdSrc.two rdSrc).canon (⟨e, s, d, st, ap⟩, ⟨e', s', o, st', ap'⟩) = [.agg [.int .i64 e, .int .i64 s, .dat d, .int .i64 st, .int .i64 ap], .agg [.int .i64 e', .int .i64 s', .dat o, .int .i64 st', .int .i64 ap']] from rfl, same_in]
  simp only [SrcD.src, Src.mk.injEq]
  refine ⟨fun h1 => ret_lb ?_, fun h1 => ⟨fun h2 => ret_lb ?_, fun h2 => ⟨fun h3 => ret_lb ?_, fun h3 => ⟨fun h4 => ret_lb ?_, fun h4 => ⟨fun h5 => ret_lb ?_, fun h5 => ?_⟩⟩⟩⟩⟩
  · simp at h1; simp [h1]
  · simp at h2; simp [h2]
  · simp at h3; simp [h3]
  · simp at h4; simp [h4]
  · simp [hl, hl'] at h5
    symm
    simp only [decide_eq_false_iff_not]
    rintro ⟨_, _, h, _⟩
    exact h5 (by rw [h])
  · simp only [bne_eq_false_iff_eq] at h1 h2 h3 h4 h5
    subst h1; subst h2; subst h3; subst h4
    have h5 : (d.to Int).length = (o.to Int).length := by omega
    refine runs_loop (fun j : Nat => sm0L Try.prog e s st ap e s st ap d o j) (fun j => j ≤ (d.to Int).length ∧ (d.to Int).take j = (o.to Int).take j) (fun j => (d.to Int).length - j) (fun _ => rfl) ?_ 0 ⟨Nat.zero_le _, by simp⟩
    intro j ⟨hj, hpre⟩ ih
    apply exec_sound ctOk 300
    rw [sm0_go]
    refine ⟨fun hc => ?_, fun hc => ?_⟩
    · simp [hl] at hc
      have hc' : j < (o.to Int).length := by omega
      obtain ⟨c1, c2, c3⟩ := int_at hd hc
      obtain ⟨d1, d2, d3⟩ := int_at ho hc'
      rw [c3, d3]
      refine fun _ => ⟨c1, c2, d1, d2, fun hx => ret_lb ?_, fun hx => ?_⟩
      · simp only [bne_iff_ne, ne_eq] at hx
        simp [ne_of_take hc hc' hx]
      · simp only [bne_eq_false_iff_eq] at hx
        have := ih (j + 1) ⟨hc, (take_eq hc hc').2 ⟨hpre, hx⟩⟩ (by omega)
        rw [← wrap_succ hc (by omega)] at this
        exact this
    · simp [hl] at hc
      refine ret_lb ?_
      rw [List.take_of_length_le (by omega), List.take_of_length_le (by omega)] at hpre
      simp [hpre]

theorem isBytes_of {d : D} (h : d.Is Byte) : d.IsBytes := by
  obtain ⟨a, b, c, rfl, hz, h2⟩ := h
  unfold D.IsBytes
  simp only [rows_slc]
  clear hz
  induction c with
  | nil => exact ⟨[], rfl⟩
  | cons x r ih =>
    obtain ⟨ns, hns⟩ := ih (fun y hy => h2 y (List.mem_cons_of_mem _ hy))
    obtain ⟨n, hn⟩ := h2 x List.mem_cons_self
    exact ⟨n :: ns, by rw [hn, hns]; rfl⟩

theorem bytes_nil {d : D} (h : d.Is Byte) (h' : d.to Byte = []) : d.bytesOf = ByteArray.empty := by
  obtain ⟨a, b, c, rfl, _, h2⟩ := h
  have : c = [] := by simpa [D.to] using h'
  subst this
  rfl

theorem lawSameMsg : Law Try.prog 50 ((rdMsg.two rdMsg).sp spSameMsg) := by
  refine law_in _ (by kernel_rfl) fun H w ⟨⟨mk, mf, mt, mn, mv, me, ml, mb⟩, ⟨xk, xf, xt, xn, xv, xe, xl, xb⟩⟩ hok hp => ?_
  obtain ⟨hd, ho, hb, hb', hlen, b0, b0'⟩ := hp _ (List.mem_singleton.2 rfl)
  simp only at hd ho hb hb' hlen b0 b0'
  clear hp hok
  have hl := D.Is.length (α := Int) ml
  have hl' := D.Is.length (α := Int) xl
  apply exec_sound ctOk2 400
  rw [show (rdMsg.two rdMsg).canon (⟨mk, mf, mt, mn, mv, me, ml, mb⟩, ⟨xk, xf, xt, xn, xv, xe, xl, xb⟩) = [.agg [.int .i64 mk, .int .i64 mf, .int .i64 mt, .int .i64 mn, .int .i64 mv, .int .i64 me, .dat ml, .dat mb], .agg [.int .i64 xk, .int .i64 xf, .int .i64 xt, .int .i64 xn, .int .i64 xv, .int .i64 xe, .dat xl, .dat xb]] from rfl, sameMsg_in]
  simp only [MsgD.msg, Msg.mk.injEq, b0, b0', bytes_nil hb b0, bytes_nil hb' b0']
  refine ⟨fun h1 => ret_lb ?_, fun h1 => ⟨fun h2 => ret_lb ?_, fun h2 => ⟨fun h3 => ret_lb ?_, fun h3 => ⟨fun h4 => ret_lb ?_, fun h4 => ⟨fun h5 => ret_lb ?_, fun h5 => ⟨fun h6 => ret_lb ?_, fun h6 => ⟨fun h7 => ret_lb ?_, fun h7 => ⟨isBytes_of hb, isBytes_of hb', fun h8 => ret_lb ?_, fun h8 => ?_⟩⟩⟩⟩⟩⟩⟩⟩
  · simp at h1; simp [h1]
  · simp at h2; simp [h2]
  · simp at h3; simp [h3]
  · simp at h4; simp [h4]
  · simp at h5; simp [h5]
  · simp at h6; simp [h6]
  · simp [hl, hl'] at h7
    symm
    simp only [decide_eq_false_iff_not]
    rintro ⟨_, _, _, _, _, _, h, _⟩
    exact h7 (by rw [h])
  · exfalso
    have : List.beq (ByteArray.toList ByteArray.empty) (ByteArray.toList ByteArray.empty) = true := by
      show (ByteArray.toList ByteArray.empty == ByteArray.toList ByteArray.empty) = true
      simp
    rw [this] at h8
    cases h8
  · simp only [bne_eq_false_iff_eq] at h1 h2 h3 h4 h5 h6 h7
    have h7 : (ml.to Int).length = (xl.to Int).length := by omega
    refine runs_loop (fun j : Nat => smL Try.prog mk mf mt mn mv me xk xf xt xn xv xe ml mb xl xb j) (fun j => j ≤ (ml.to Int).length ∧ (ml.to Int).take j = (xl.to Int).take j) (fun j => (ml.to Int).length - j) (fun _ => rfl) ?_ 0 ⟨Nat.zero_le _, by simp⟩
    intro j ⟨hj, hpre⟩ ih
    apply exec_sound ctOk2 400
    rw [sm_go]
    refine ⟨fun hc => ?_, fun hc => ?_⟩
    · simp [hl] at hc
      have hc' : j < (xl.to Int).length := by omega
      obtain ⟨c1, c2, c3⟩ := int_at hd hc
      obtain ⟨d1, d2, d3⟩ := int_at ho hc'
      rw [c3, d3]
      refine fun _ => ⟨c1, c2, d1, d2, fun hx => ret_lb ?_, fun hx => ?_⟩
      · simp only [bne_iff_ne, ne_eq] at hx
        simp [ne_of_take hc hc' hx]
      · simp only [bne_eq_false_iff_eq] at hx
        have := ih (j + 1) ⟨hc, (take_eq hc hc').2 ⟨hpre, hx⟩⟩ (by omega)
        rw [← wrap_succ hc (by omega)] at this
        exact this
    · simp [hl] at hc
      refine ret_lb ?_
      rw [List.take_of_length_le (by omega), List.take_of_length_le (by omega)] at hpre
      simp [hpre, h1, h2, h3, h4, h5, h6]
end Go.Proofs.Ytnfkkmdbaknnlaa
end
section
/- Layer 32: lists of messages. -/
open Go Go.Proofs Sx
namespace Go.Proofs.Ytnfkkmdbaknnlaa

theorem ctOk3 : Ctrs.Ok Try.prog ct3 := by
  intro x hx
  rcases List.mem_cons.1 hx with rfl | hx
  · exact ctrOf_ok lawSameMsg
  · exact ctOk2 x hx

theorem lawSameMsgs : Law Try.prog 24 ((rdD.two rdD).sp spSameMsgs) := by
  refine law_in _ (by kernel_rfl) fun H w ⟨d, o⟩ hok hp => ?_
  obtain ⟨hd, ho, hlen, hv, hb⟩ := hp _ (List.mem_singleton.2 rfl)
  simp only at hd ho hlen hv hb
  clear hp hok
  have hl := D.Is.length (α := Msg) d
  have hl' := D.Is.length (α := Msg) o
  apply exec_sound ctOk2 400
  rw [show (rdD.two rdD).canon (d, o) = [.dat d, .dat o] from rfl, sameMsgs_in]
  refine ⟨fun h7 => ret_lb ?_, fun h7 => ?_⟩
  · simp [hl, hl'] at h7
    symm
    simp only [decide_eq_false_iff_not]
    intro h
    exact h7 (by rw [h])
  · simp only [bne_eq_false_iff_eq] at h7
    have h7 : (d.to Msg).length = (o.to Msg).length := by omega
    refine runs_loop (fun j : Nat => smsL Try.prog d o j) (fun j => j ≤ (d.to Msg).length ∧ (d.to Msg).take j = (o.to Msg).take j) (fun j => (d.to Msg).length - j) (fun _ => rfl) ?_ 0 ⟨Nat.zero_le _, by simp⟩
    intro j ⟨hj, hpre⟩ ih
    apply exec_sound ctOk3 400
    rw [sms_go]
    refine ⟨fun hc => ?_, fun hc => ?_⟩
    · simp [hl] at hc
      have hc' : j < (o.to Msg).length := by omega
      obtain ⟨c1, c2, c3, c4, c5, c6, c7, c8, c9, c10, c11⟩ := msg_cell hd hc
      obtain ⟨d1, d2, d3, d4, d5, d6, d7, d8, d9, d10, d11⟩ := msg_cell ho hc'
      have v1 := hv _ (List.getElem_mem hc)
      have v2 := hb _ (List.getElem_mem hc')
      have e1 : (MsgD.mk (d.getInt j 0) (d.getInt j 1) (d.getInt j 2) (d.getInt j 3) (d.getInt j 4) (d.getInt j 5) (d.cell j 6) (d.cell j 7)).msg = (d.to Msg)[j] := by
        simp [MsgD.msg, c2, c3, c4, c5, c6, c7, c9, c11]
      have e2 : (MsgD.mk (o.getInt j 0) (o.getInt j 1) (o.getInt j 2) (o.getInt j 3) (o.getInt j 4) (o.getInt j 5) (o.cell j 6) (o.cell j 7)).msg = (o.to Msg)[j] := by
        simp [MsgD.msg, d2, d3, d4, d5, d6, d7, d9, d11]
      refine fun _ => ⟨⟨by omega, by omega, hd.size hc⟩, c1, ⟨by omega, by omega, ho.size hc'⟩, d1, ⟨c8, d8, c10, d10, ?_, c11.trans v1.1, d11.trans v2⟩, fun hx => ret_lb ?_, fun hx => ?_⟩
      · have := D.Is.length (α := Int) (d.cell j 6)
        simp only [Int.toNat_natCast]
        have e3 : ((d.cell j 6).to Int).length = 0 := by rw [c9, v1.2]; rfl
        omega
      · simp only [Int.toNat_natCast, e1, e2] at hx
        simp at hx
        simp [ne_of_take hc hc' hx]
      · simp only [Int.toNat_natCast, e1, e2] at hx
        simp at hx
        have := ih (j + 1) ⟨hc, (take_eq hc hc').2 ⟨hpre, hx⟩⟩ (by omega)
        rw [← wrap_succ hc (by omega)] at this
        exact this
    · simp [hl] at hc
      refine ret_lb ?_
      rw [List.take_of_length_le (by omega), List.take_of_length_le (by omega)] at hpre
      simp [hpre]

end Go.Proofs.Ytnfkkmdbaknnlaa
end
section
/- Layer 32: all contracts. -/
open Go Go.Proofs Sx
namespace Go.Proofs.Ytnfkkmdbaknnlaa

noncomputable def ctA : Ctrs := [(13, ctrOf ((rdInt.three rdInt rdInt).sp spNewS)), (14, ctrOf ((rdInt.three rdInt rdInt).sp spNewS)), (15, ctrOf ((rdInt.three rdInt rdInt).sp spNewT)), (16, ctrOf ((rdInt.three rdInt rdInt).sp spNewT)),
  (17, ctrOf ((rdSrc.two rdSrc).sp spSame)), (18, ctrOf (rdSrc.one.sp spCS)), (19, ctrOf (rdSrc.one.sp spCS)), (20, ctrOf (rdTgt.one.sp spCT)), (21, ctrOf (rdTgt.one.sp spCT)),
  (22, ctrOf ((rdSrc.two rdInt).sp spOffer)), (23, ctrOf ((rdSrc.two rdInt).sp spOffer)), (24, ctrOf ((rdD.two rdD).sp spSameMsgs)), (25, ctrOf (rdSrc.one.sp spResend)), (26, ctrOf (rdSrc.one.sp spResend)),
  (27, ctrOf (rdSrc.one.sp spRel)), (28, ctrOf (rdSrc.one.sp spRel)), (29, ctrOf ((rdSrc.two rdMsg).sp spLearn)), (30, ctrOf ((rdSrc.two rdMsg).sp spLearn)),
  (31, ctrOf ((rdTgt.two rdInt).sp (spStore Sx.store))), (32, ctrOf ((rdTgt.two rdInt).sp (spStore Sx.store))), (33, ctrOf ((rdTgt.two rdInt).sp (spStore applyT))), (34, ctrOf ((rdTgt.two rdInt).sp (spStore applyT))),
  (35, ctrOf ((rdTgt.two rdMsg).sp spAnswer)), (36, ctrOf ((rdTgt.two rdMsg).sp spAnswer))]

theorem ctAOk : Ctrs.Ok Try.prog ctA := by
  intro x hx
  simp only [ctA, List.mem_cons, List.not_mem_nil, or_false] at hx
  rcases hx with rfl | rfl | rfl | rfl | rfl | rfl | rfl | rfl | rfl | rfl | rfl | rfl | rfl | rfl | rfl | rfl | rfl | rfl | rfl | rfl | rfl | rfl | rfl | rfl
  · exact ctrOf_ok (lawNewS 13 (.inl rfl))
  · exact ctrOf_ok (lawNewS 14 (.inr rfl))
  · exact ctrOf_ok (lawNewT 15 (.inl rfl))
  · exact ctrOf_ok (lawNewT 16 (.inr rfl))
  · exact ctrOf_ok lawSame
  · exact ctrOf_ok lawCS1
  · exact ctrOf_ok lawCS2
  · exact ctrOf_ok (lawCT 20 (.inl rfl))
  · exact ctrOf_ok (lawCT 21 (.inr rfl))
  · exact ctrOf_ok (lawOffer 22 (.inl rfl))
  · exact ctrOf_ok (lawOffer 23 (.inr rfl))
  · exact ctrOf_ok lawSameMsgs
  · exact ctrOf_ok lawResend1
  · exact ctrOf_ok lawResend2
  · exact ctrOf_ok (lawRel 27 (.inl rfl))
  · exact ctrOf_ok (lawRel 28 (.inr rfl))
  · exact ctrOf_ok lawLearn1
  · exact ctrOf_ok lawLearn2
  · exact ctrOf_ok (lawStore 31 (.inl rfl))
  · exact ctrOf_ok (lawStore 32 (.inr rfl))
  · exact ctrOf_ok (lawApply 33 (.inl rfl))
  · exact ctrOf_ok (lawApply 34 (.inr rfl))
  · exact ctrOf_ok (lawAnswer 35 (.inl rfl))
  · exact ctrOf_ok (lawAnswer 36 (.inr rfl))
end Go.Proofs.Ytnfkkmdbaknnlaa
end
section
/- Trees whose questions are decided. -/
namespace Sx
open Go

/-- The tree with each question replaced by its answer. -/
noncomputable def Tree.dec : Tree → Tree
  | .leaf c => .leaf c
  | .ret v => .ret v
  | .br b t f => match b with
    | true => t.dec
    | false => f.dec
  | .need p t => .need p t.dec
  | .all f => .all fun hs => (f hs).dec
  | .stuck => .stuck

theorem Tree.dec_holds {P : Program} {C : Ctx} {R : Value → World → Prop} (t : Tree) : t.dec.holds P C R → t.holds P C R := by
  induction t with
  | leaf _ => exact id
  | ret _ => exact id
  | br b t f iht ihf =>
    intro h
    cases b with
    | true => exact ⟨fun _ => iht h, fun h' => absurd h' (by decide)⟩
    | false => exact ⟨fun h' => absurd h' (by decide), fun _ => ihf h⟩
  | need _ t ih => exact fun h => ⟨h.1, ih h.2⟩
  | all f ih => exact fun h hs => ih hs (h hs)
  | stuck => exact id

theorem dec_sound {P : Program} {C : Ctx} {R : Value → World → Prop} {cs : Ctrs} (hcs : cs.Ok P) (U : FuncId → Bool) (n : Nat) (c : Conf) {t : Tree}
    (e : (execU P cs U n c).dec = t) (h : t.holds P C R) : Runs P C c R :=
  execU_sound hcs U n c (Tree.dec_holds _ (by rw [e]; exact h))
end Sx
end
section
/- Layer 32: one message, plainly. -/
open Go Go.Proofs Sx
namespace Sx
def msgRow (t : Tgt) (k n : Int) : List D := [.int .i64 k, .int .i64 t.site, .int .i64 0, .int .i64 0, .int .i64 n, .int .i64 t.epoch, .slc none 0 [], .slc none 0 []]
def spMsgC (x : Tgt × Int × Int) : SpecR := .data [] fun ds => .dat (.slc (ds 0).hd 8 [msgRow x.1 x.2.1 x.2.2])
def spOfferedC (x : Tgt) : SpecR := .data [] fun ds => .dat (.slc (ds 0).hd 8 [msgRow x 9 x.stored])
def spCommittedC (x : Tgt) : SpecR := .data [] fun ds => .dat (.slc (ds 0).hd 8 [msgRow x 11 x.applied])
end Sx
namespace Go.Proofs.Ytnfkkmdbaknnlaa
theorem lawMsgC : Law Try.prog 57 ((rdTgt.three rdInt rdInt).sp spMsgC) := by
  refine law_in _ (by kernel_rfl) fun H w ⟨⟨e, s, st, ap⟩, j, k⟩ hok hp => ?_
  apply exec_sound (noCtr _) 300
  rw [show (rdTgt.three rdInt rdInt).canon (⟨e, s, st, ap⟩, j, k) = [.agg [.int .i64 e, .int .i64 s, .int .i64 st, .int .i64 ap], .int .i64 j, .int .i64 k] from rfl, message_in]
  exact fun hs => ret_D (fun _ => .slc (hs 0 0).hd 0 []) (fun E E' => by rfl) (fun H' h => h)

theorem lawOfferedC : Law Try.prog 54 (rdTgt.one.sp spOfferedC) := by
  refine law_in _ (by kernel_rfl) fun H w ⟨e, s, st, ap⟩ hok hp => ?_
  apply exec_sound (noCtr _) 300
  rw [show rdTgt.one.canon ⟨e, s, st, ap⟩ = [.agg [.int .i64 e, .int .i64 s, .int .i64 st, .int .i64 ap]] from rfl, offered_in]
  exact fun hs => ret_D (fun _ => .slc (hs 0 0).hd 0 []) (fun E E' => by rfl) (fun H' h => h)

theorem lawCommittedC : Law Try.prog 56 (rdTgt.one.sp spCommittedC) := by
  refine law_in _ (by kernel_rfl) fun H w ⟨e, s, st, ap⟩ hok hp => ?_
  apply exec_sound (noCtr _) 300
  rw [show rdTgt.one.canon ⟨e, s, st, ap⟩ = [.agg [.int .i64 e, .int .i64 s, .int .i64 st, .int .i64 ap]] from rfl, applied_in]
  exact fun hs => ret_D (fun _ => .slc (hs 0 0).hd 0 []) (fun E E' => by rfl) (fun H' h => h)

noncomputable def ctC : Ctrs := [(57, ctrOf ((rdTgt.three rdInt rdInt).sp spMsgC)), (54, ctrOf (rdTgt.one.sp spOfferedC)), (56, ctrOf (rdTgt.one.sp spCommittedC))]
theorem ctCOk : Ctrs.Ok Try.prog ctC := by
  intro x hx
  simp only [ctC, List.mem_cons, List.not_mem_nil, or_false] at hx
  rcases hx with rfl | rfl | rfl
  · exact ctrOf_ok lawMsgC
  · exact ctrOf_ok lawOfferedC
  · exact ctrOf_ok lawCommittedC
end Go.Proofs.Ytnfkkmdbaknnlaa
end
section
/- Contracts whose results are literal rows. -/
namespace Sx
open Go RowKit

/-- Rows that are literal, over the skeleton of a slice. -/
class Plain (α : Type) [Codec α] where
  cells : D → Nat → α → List D
  right : ∀ d i r, d.rows[i]? = some r → Codec.ok α r → cells d i (Codec.dec r) = r

section
variable {α : Type} [Codec α] [Plain α]

def plainRows (d : D) : Nat → List α → List (List D)
  | _, [] => []
  | i, x :: r => Plain.cells d i x :: plainRows d (i + 1) r

def D.plain (d : D) (l : List α) : D :=
  .slc d.hd (match l with | [] => d.sz | _ :: _ => Codec.sz α) (plainRows d 0 l)

theorem plainRows_eq (d : D) : ∀ (rows : List (List D)) (i : Nat), (∀ j, (h : j < rows.length) → d.rows[i + j]? = some rows[j]) → (∀ r, r ∈ rows → Codec.ok α r) →
    plainRows d i (rows.map (Codec.dec (α := α))) = rows
  | [], _, _, _ => rfl
  | r :: rs, i, h, ho => by
    simp only [List.map_cons, plainRows]
    rw [Plain.right d i r (h 0 (by simp)) (ho r (by simp)), plainRows_eq d rs (i + 1) (fun j hj => by have := h (j + 1) (by simpa using hj); simpa [Nat.add_assoc, Nat.add_comm 1 j] using this) fun r' hr' => ho r' (by simp [hr'])]

theorem plain_self {d : D} (h : d.Is α) : d.plain (d.to α) = d := by
  obtain ⟨a, b, c, rfl, h1, h2⟩ := h
  unfold D.plain D.to
  simp only [D.rows, D.hd]
  rw [plainRows_eq (α := α) (.slc a b c) c 0 (fun j hj => by simp [D.rows, hj]) h2]
  cases c with
  | nil => rfl
  | cons x r => rcases h1 with h1 | h1
                · cases h1
                · subst h1; rfl

theorem plain_like (d : D) (l : List α) : (d.like l).plain l = d.like l := by
  have := plain_self (D.like_is d l)
  rwa [D.like_to] at this
end

instance : Plain Int where
  cells _ _ n := [.int .i64 n]
  right d i r _ h := by obtain ⟨n, rfl⟩ := h; rfl

instance : Plain Byte where
  cells _ _ n := [.int .u8 n.n]
  right d i r _ h := by obtain ⟨n, rfl⟩ := h; rfl

/-- Rows of numbers, seen. -/
def intRows : List (List D) → Bool
  | [] => true
  | r :: rs => match r with
    | [.int .i64 _] => intRows rs
    | _ => false
def D.allInt (d : D) : Bool :=
  match d with
  | .slc _ s rows => (match rows with | [] => true | _ :: _ => s == 1) && intRows rows
  | _ => false
theorem intRows_ok : ∀ (rows : List (List D)), intRows rows = true → ∀ r, r ∈ rows → Codec.ok Int r
  | [], _, r, h => by cases h
  | x :: rs, h, r, hr => by
    unfold intRows at h
    split at h
    · rcases List.mem_cons.1 hr with rfl | hr
      · exact ⟨_, rfl⟩
      · exact intRows_ok rs h r hr
    · cases h
theorem allInt_is {d : D} (h : d.allInt = true) : d.Is Int := by
  unfold D.allInt at h
  split at h
  · rename_i a s rows
    simp only [Bool.and_eq_true] at h
    refine ⟨_, _, _, rfl, ?_, intRows_ok _ h.2⟩
    cases rows with
    | nil => exact .inl rfl
    | cons x r => right; simpa using h.1
  · cases h

/-- A law, said otherwise. -/
theorem law_alt {P : Program} {f : FuncId} {β : Type} {r : Rd β} {sp sp' : β → SpecR} (h : Law P f (r.sp sp))
    (hh : ∀ b, match sp' b with
      | .no => True
      | .data ps' g' => ∃ ps g, sp b = .data ps g ∧ ((∀ p, p ∈ ps' → p) → ∀ p, p ∈ ps → p) ∧ ∀ ds, ∃ ds', g' ds' = g ds
      | .scalar ps' v' => ∃ ps v, sp b = .scalar ps v ∧ ((∀ p, p ∈ ps' → p) → ∀ p, p ∈ ps → p) ∧ v' = v) : Law P f (r.sp sp') := by
  refine ⟨h.1, fun H E args hargs => ?_⟩
  have h2 := h.2 H E args hargs
  unfold Rd.sp at h2 ⊢
  cases hr : r.read args with
  | none => trivial
  | some b =>
    have hb := hh b
    rw [hr] at h2
    simp only at h2 ⊢
    cases hs : sp' b with
    | no => trivial
    | scalar ps' v' =>
      rw [hs] at hb
      obtain ⟨ps, v, e, h3, rfl⟩ := hb
      rw [e] at h2
      exact fun hp => h2 (h3 hp)
    | data ps' g' =>
      rw [hs] at hb
      obtain ⟨ps, g, e, h3, h4⟩ := hb
      rw [e] at h2
      intro hp w hw
      refine Calls.mono (h2 (h3 hp) w hw) fun e w' ⟨u, H', h5, h6, hs', h7, h8⟩ => ?_
      obtain ⟨ds', h9⟩ := h4 hs'
      exact ⟨u, H', h5, h6, ds', by rw [h9]; exact h7, by rw [h9]; exact h8⟩
end Sx
end
section
/- Layer 32: contracts on literal values. -/
open Go Go.Proofs Sx
namespace Sx
instance : Plain Msg where
  cells d i m := [.int .i64 m.kind, .int .i64 m.frm, .int .i64 m.to, .int .i64 m.number, .int .i64 m.value, .int .i64 m.epoch, (d.cell i 6).plain m.values, (d.cell i 7).plain m.body]
  right d i r h ho := by
    obtain ⟨a, b, c, e, f, g, v, w, rfl, hv, hw⟩ := ho
    obtain ⟨p1, p2, p3, rfl⟩ := hv.slc
    obtain ⟨q1, q2, q3, rfl⟩ := hw.slc
    have e1 : d.cell i 6 = .slc p1 p2 p3 := by simp [D.cell, D.cellAt, h]
    have e2 : d.cell i 7 = .slc q1 q2 q3 := by simp [D.cell, D.cellAt, h]
    simp only [Codec.dec, e1, e2, plain_self hv, plain_self hw]

def pI (d : D) (l : List Int) : D := d.plain l
theorem pI_eq (d : D) (l : List Int) : pI d l = d.plain l := rfl
def srcP (d : D) (s : Src) : SV := .agg [.int .i64 s.epoch, .int .i64 s.site, .dat (pI d s.offered), .int .i64 s.stored, .int .i64 s.applied]
theorem srcP_like (d : D) (s : Src) : srcP (d.like s.offered) s = srcSV d s := by simp only [srcP, srcSV, pI_eq, plain_like]

def iff (b : Bool) (s : SpecR) : SpecR := match b with | true => s | false => .no

/-- A result that is one of these. -/
def tabD {γ : Type} [DecidableEq γ] (v : γ) : List γ → (γ → SpecR) → SpecR
  | [], _ => .no
  | t :: r, k => match decide (v = t) with
    | true => k t
    | false => tabD v r k
theorem tabD_or {γ : Type} [DecidableEq γ] (v : γ) (k : γ → SpecR) : ∀ l, tabD v l k = .no ∨ tabD v l k = k v
  | [] => .inl rfl
  | t :: r => by
    unfold tabD
    cases h : decide (v = t) with
    | true => right; simp only [decide_eq_true_eq] at h; subst h; rfl
    | false => exact tabD_or v k r

noncomputable def spNewST (x : Int × Int × Int) : SpecR := tabD (newSource x.1 x.2.1 x.2.2) [(⟨1, 2, [], 4, 4⟩, 0)] fun r => .data [] fun ds => .tup [srcP (ds 0) r.1, .int .i64 r.2]
noncomputable def spOfferT (x : SrcD × Int) : SpecR := iff x.1.d.allInt (tabD (offer x.1.src x.2) [(⟨1, 2, [5], 4, 4⟩, [⟨8, 0, 2, 5, 0, 1, [], []⟩], 0), (⟨1, 2, [5, 6], 4, 4⟩, [⟨8, 0, 2, 6, 0, 1, [], []⟩], 0)] fun r =>
  .data [] fun ds => .tup [srcP (ds 0) r.1, .dat ((ds 1).plain r.2.1), .int .i64 r.2.2])
noncomputable def spStoreT (f : Tgt → Int → Tgt × List Msg × Int) (t : List (Tgt × List Msg × Int)) (x : Tgt × Int) : SpecR := tabD (f x.1 x.2) t fun r => .data [] fun ds => .tup [tgtSV r.1, .dat ((ds 0).plain r.2.1), .int .i64 r.2.2]
noncomputable def spLearnT (x : SrcD × MsgD) : SpecR := iff x.1.d.allInt (tabD (learn x.1.src x.2.msg) [(⟨1, 2, [5, 6], 5, 4⟩, [⟨10, 0, 2, 5, 0, 1, [], []⟩]), (⟨1, 2, [6], 5, 5⟩, [])] fun r =>
  .data [] fun ds => .tup [srcP (ds 0) r.1, .dat ((ds 1).plain r.2)])
noncomputable def spResendT (x : SrcD) : SpecR := iff x.d.allInt (tabD (resend x.src) [[⟨8, 0, 2, 6, 0, 1, [], []⟩]] fun r => .data [] fun ds => .dat ((ds 0).plain r))
def spRelT (x : SrcD) : SpecR := iff x.d.allInt (tabD (releasable x.src) [5] fun r => .scalar [] (.int .i64 r))
def small (d : D) : Bool := d.allInt && decide (d.len ≤ 1048576)
def spSameT (x : SrcD × SrcD) : SpecR := iff (small x.1.d && x.2.d.allInt) (tabD (decide (x.1.src = x.2.src)) [true] fun b => .scalar [] (.lb b))
def tabStore : List (Tgt × List Msg × Int) := [(⟨1, 2, 5, 4⟩, [⟨9, 2, 0, 0, 5, 1, [], []⟩], 0)]
def tabApply : List (Tgt × List Msg × Int) := [(⟨1, 2, 5, 5⟩, [⟨11, 2, 0, 0, 5, 1, [], []⟩], 0)]
end Sx
namespace Go.Proofs.Ytnfkkmdbaknnlaa
theorem lawNewST : Law Try.prog 13 ((rdInt.three rdInt rdInt).sp spNewST) :=
  law_alt (lawNewS 13 (.inl rfl)) fun b => by
    unfold spNewST
    rcases tabD_or (newSource b.1 b.2.1 b.2.2) (fun r => .data [] fun ds => .tup [srcP (ds 0) r.1, .int .i64 r.2]) [(⟨1, 2, [], 4, 4⟩, 0)] with h | h
    · rw [h]; trivial
    · rw [h]; exact ⟨_, _, rfl, id, fun ds => ⟨fun _ => (ds 0).like (newSource b.1 b.2.1 b.2.2).1.offered, by simp only [srcP_like]⟩⟩
theorem lawOfferT : Law Try.prog 22 ((rdSrc.two rdInt).sp spOfferT) :=
  law_alt (lawOffer 22 (.inl rfl)) fun b => by
    unfold spOfferT iff
    cases h : b.1.d.allInt with
    | false => trivial
    | true =>
      simp only
      rcases tabD_or (offer b.1.src b.2) (fun r => .data [] fun ds => .tup [srcP (ds 0) r.1, .dat ((ds 1).plain r.2.1), .int .i64 r.2.2]) [(⟨1, 2, [5], 4, 4⟩, [⟨8, 0, 2, 5, 0, 1, [], []⟩], 0), (⟨1, 2, [5, 6], 4, 4⟩, [⟨8, 0, 2, 6, 0, 1, [], []⟩], 0)] with h1 | h1
      · rw [h1]; trivial
      · rw [h1]
        exact ⟨_, _, rfl, fun _ p hp => by rw [List.mem_singleton.1 hp]; exact allInt_is h, fun ds => ⟨fun i => match i with
          | 0 => (ds 0).like (offer b.1.src b.2).1.offered
          | _ => (ds 1).like (offer b.1.src b.2).2.1, by simp only [srcP_like, plain_like]⟩⟩
theorem lawStoreT : Law Try.prog 31 ((rdTgt.two rdInt).sp (spStoreT Sx.store tabStore)) :=
  law_alt (lawStore 31 (.inl rfl)) fun b => by
    unfold spStoreT
    rcases tabD_or (Sx.store b.1 b.2) (fun r => .data [] fun ds => .tup [tgtSV r.1, .dat ((ds 0).plain r.2.1), .int .i64 r.2.2]) tabStore with h | h
    · rw [h]; trivial
    · rw [h]; exact ⟨_, _, rfl, id, fun ds => ⟨fun _ => (ds 0).like (Sx.store b.1 b.2).2.1, by simp only [plain_like]⟩⟩
theorem lawApplyT : Law Try.prog 33 ((rdTgt.two rdInt).sp (spStoreT applyT tabApply)) :=
  law_alt (lawApply 33 (.inl rfl)) fun b => by
    unfold spStoreT
    rcases tabD_or (applyT b.1 b.2) (fun r => .data [] fun ds => .tup [tgtSV r.1, .dat ((ds 0).plain r.2.1), .int .i64 r.2.2]) tabApply with h | h
    · rw [h]; trivial
    · rw [h]; exact ⟨_, _, rfl, id, fun ds => ⟨fun _ => (ds 0).like (applyT b.1 b.2).2.1, by simp only [plain_like]⟩⟩
theorem lawLearnT : Law Try.prog 29 ((rdSrc.two rdMsg).sp spLearnT) :=
  law_alt lawLearn1 fun b => by
    unfold spLearnT iff
    cases h : b.1.d.allInt with
    | false => trivial
    | true =>
      simp only
      rcases tabD_or (learn b.1.src b.2.msg) (fun r => .data [] fun ds => .tup [srcP (ds 0) r.1, .dat ((ds 1).plain r.2)]) [(⟨1, 2, [5, 6], 5, 4⟩, [⟨10, 0, 2, 5, 0, 1, [], []⟩]), (⟨1, 2, [6], 5, 5⟩, [])] with h1 | h1
      · rw [h1]; trivial
      · rw [h1]
        exact ⟨_, _, rfl, fun _ p hp => by rw [List.mem_singleton.1 hp]; exact allInt_is h, fun ds => ⟨fun i => match i with
          | 0 => (ds 0).like (learn b.1.src b.2.msg).1.offered
          | _ => (ds 1).like (learn b.1.src b.2.msg).2, by simp only [srcP_like, plain_like]⟩⟩
theorem lawResendT : Law Try.prog 25 (rdSrc.one.sp spResendT) :=
  law_alt lawResend1 fun b => by
    unfold spResendT iff
    cases h : b.d.allInt with
    | false => trivial
    | true =>
      simp only
      rcases tabD_or (resend b.src) (fun r => .data [] fun ds => .dat ((ds 0).plain r)) [[⟨8, 0, 2, 6, 0, 1, [], []⟩]] with h1 | h1
      · rw [h1]; trivial
      · rw [h1]; exact ⟨_, _, rfl, fun _ p hp => by rw [List.mem_singleton.1 hp]; exact allInt_is h, fun ds => ⟨fun _ => (ds 0).like (resend b.src), by simp only [plain_like]⟩⟩
theorem lawRelT : Law Try.prog 27 (rdSrc.one.sp spRelT) :=
  law_alt (lawRel 27 (.inl rfl)) fun b => by
    unfold spRelT iff
    cases h : b.d.allInt with
    | false => trivial
    | true =>
      simp only
      rcases tabD_or (releasable b.src) (fun r => .scalar [] (.int .i64 r)) [5] with h1 | h1
      · rw [h1]; trivial
      · rw [h1]; exact ⟨_, _, rfl, fun _ p hp => by rw [List.mem_singleton.1 hp]; exact allInt_is h, rfl⟩

theorem lawSameT : Law Try.prog 17 ((rdSrc.two rdSrc).sp spSameT) := by
  refine ⟨lawSame.1, fun H E args hargs => ?_⟩
  have h2 := lawSame.2 H E args hargs
  unfold Rd.sp at h2 ⊢
  cases hr : (rdSrc.two rdSrc).read args with
  | none => trivial
  | some b =>
    rw [hr] at h2
    simp only at h2 ⊢
    unfold spSameT iff
    cases h : (small b.1.d && b.2.d.allInt) with
    | false => trivial
    | true =>
      simp only
      simp only [small, Bool.and_eq_true, decide_eq_true_eq] at h
      rcases tabD_or (decide (b.1.src = b.2.src)) (fun b => .scalar [] (.lb b)) [true] with h1 | h1
      · rw [h1]; trivial
      · rw [h1]
        intro _
        have h3 := h2 (fun p hp => by rw [List.mem_singleton.1 hp]; exact ⟨allInt_is h.1.1, allInt_is h.2, h.1.2⟩)
        simpa [SV.den] using h3

noncomputable def ctP : Ctrs := [(13, ctrOf ((rdInt.three rdInt rdInt).sp spNewST)), (15, ctrOf ((rdInt.three rdInt rdInt).sp spNewT)), (17, ctrOf ((rdSrc.two rdSrc).sp spSameT)),
  (22, ctrOf ((rdSrc.two rdInt).sp spOfferT)), (25, ctrOf (rdSrc.one.sp spResendT)), (27, ctrOf (rdSrc.one.sp spRelT)), (29, ctrOf ((rdSrc.two rdMsg).sp spLearnT)),
  (31, ctrOf ((rdTgt.two rdInt).sp (spStoreT Sx.store tabStore))), (33, ctrOf ((rdTgt.two rdInt).sp (spStoreT applyT tabApply)))]

theorem ctPOk : Ctrs.Ok Try.prog ctP := by
  intro x hx
  simp only [ctP, List.mem_cons, List.not_mem_nil, or_false] at hx
  rcases hx with rfl | rfl | rfl | rfl | rfl | rfl | rfl | rfl | rfl
  · exact ctrOf_ok lawNewST
  · exact ctrOf_ok (lawNewT 15 (.inl rfl))
  · exact ctrOf_ok lawSameT
  · exact ctrOf_ok lawOfferT
  · exact ctrOf_ok lawResendT
  · exact ctrOf_ok lawRelT
  · exact ctrOf_ok lawLearnT
  · exact ctrOf_ok lawStoreT
  · exact ctrOf_ok lawApplyT
end Go.Proofs.Ytnfkkmdbaknnlaa
end
section
/- Layer 32: the examples, walked. -/
open Go Go.Proofs Sx
namespace Go.Proofs.Ytnfkkmdbaknnlaa
set_option maxRecDepth 100000
set_option maxHeartbeats 0
section
theorem awake_in : (execU Try.prog ctP (fun _ => true) 600 (entry Try.prog 12 [])).dec =
  Tree.all fun hs =>
    Tree.all fun hs =>
      Tree.all fun hs =>
        Tree.all fun hs =>
          Tree.all fun hs =>
            Tree.need
              ((0 : Int) ≤ 0 ∧
                0 < (↑(D.len (D.plain (hs 0 0) [Msg.mk 9 2 0 0 5 1 [] []])) : Int) ∧
                  D.sz (D.plain (hs 0 0) [Msg.mk 9 2 0 0 5 1 [] []]) = 8)
              (Tree.need (D.HasCell (D.plain (hs 0 0) [Msg.mk 9 2 0 0 5 1 [] []]) 0 0 (FT.int IntKind.i64))
                (Tree.need
                  ((0 : Int) ≤ 0 ∧
                    0 < (↑(D.len (D.plain (hs 0 0) [Msg.mk 9 2 0 0 5 1 [] []])) : Int) ∧
                      D.sz (D.plain (hs 0 0) [Msg.mk 9 2 0 0 5 1 [] []]) = 8)
                  (Tree.need
                    (D.HasCells (D.plain (hs 0 0) [Msg.mk 9 2 0 0 5 1 [] []]) 0 0
                      [FT.int IntKind.i64, FT.int IntKind.i64, FT.int IntKind.i64, FT.int IntKind.i64, FT.int IntKind.i64,
                        FT.int IntKind.i64, FT.slc, FT.slc])
                    (Tree.all fun hs =>
                      Tree.all fun hs_1 =>
                        Tree.need
                          ((0 : Int) ≤ 0 ∧
                            0 < (↑(D.len (D.plain (hs 0 1) [Msg.mk 10 0 2 5 0 1 [] []])) : Int) ∧
                              D.sz (D.plain (hs 0 1) [Msg.mk 10 0 2 5 0 1 [] []]) = 8)
                          (Tree.need (D.HasCell (D.plain (hs 0 1) [Msg.mk 10 0 2 5 0 1 [] []]) 0 0 (FT.int IntKind.i64))
                            (Tree.need
                              ((0 : Int) ≤ 0 ∧
                                0 < (↑(D.len (D.plain (hs 0 1) [Msg.mk 10 0 2 5 0 1 [] []])) : Int) ∧
                                  D.sz (D.plain (hs 0 1) [Msg.mk 10 0 2 5 0 1 [] []]) = 8)
                              (Tree.need
                                (D.HasCell (D.plain (hs 0 1) [Msg.mk 10 0 2 5 0 1 [] []]) 0 3 (FT.int IntKind.i64))
                                (Tree.all fun hs =>
                                  Tree.need
                                    ((0 : Int) ≤ 0 ∧
                                      0 < (↑(D.len (D.plain (hs_1 0 0) [Msg.mk 11 2 0 0 5 1 [] []])) : Int) ∧
                                        D.sz (D.plain (hs_1 0 0) [Msg.mk 11 2 0 0 5 1 [] []]) = 8)
                                    (Tree.need
                                      (D.HasCells (D.plain (hs_1 0 0) [Msg.mk 11 2 0 0 5 1 [] []]) 0 0
                                        [FT.int IntKind.i64, FT.int IntKind.i64, FT.int IntKind.i64, FT.int IntKind.i64,
                                          FT.int IntKind.i64, FT.int IntKind.i64, FT.slc, FT.slc])
                                      (Tree.all fun hs_2 =>
                                        Tree.all fun hs_3 =>
                                          Tree.need
                                            ((0 : Int) ≤ 0 ∧ 0 < (↑(D.len (pI (hs 4 0) [6])) : Int) ∧ D.sz (pI (hs 4 0) [6]) = 1)
                                            (Tree.need (D.HasCell (pI (hs 4 0) [6]) 0 0 (FT.int IntKind.i64))
                                              (Tree.need
                                                ((0 : Int) ≤ 0 ∧
                                                  0 < (↑(D.len (D.plain (hs_3 0 0) [Msg.mk 8 0 2 6 0 1 [] []])) : Int) ∧
                                                    D.sz (D.plain (hs_3 0 0) [Msg.mk 8 0 2 6 0 1 [] []]) = 8)
                                                (Tree.need
                                                  (D.HasCell (D.plain (hs_3 0 0) [Msg.mk 8 0 2 6 0 1 [] []]) 0 0
                                                    (FT.int IntKind.i64))
                                                  (Tree.need
                                                    ((0 : Int) ≤ 0 ∧
                                                      0 <
                                                          (↑(D.len (D.plain (hs_3 0 0) [Msg.mk 8 0 2 6 0 1 [] []])) :
                                                            Int) ∧
                                                        D.sz (D.plain (hs_3 0 0) [Msg.mk 8 0 2 6 0 1 [] []]) = 8)
                                                    (Tree.need
                                                      (D.HasCell (D.plain (hs_3 0 0) [Msg.mk 8 0 2 6 0 1 [] []]) 0 3
                                                        (FT.int IntKind.i64))
                                                      (Tree.ret
                                                        (SV.bool
                                                          (decide
                                                            (D.getInt (D.plain (hs_3 0 0) [Msg.mk 8 0 2 6 0 1 [] []]) 0
                                                                3 =
                                                              6))))))))))))))))))) := by kernel_rfl

end
end Go.Proofs.Ytnfkkmdbaknnlaa
end
section
/- Layer 32: the examples hold. -/
open Go Go.Proofs Sx
namespace Sx
/-- No arguments. -/
def rdNone : Rd Unit where
  read l := match l with | [] => some () | _ => none
  canon _ := []
  right H E args b h hok := by
    split at h
    · exact ⟨rfl, trivial⟩
    · cases h
def spTrue (_ : Unit) : SpecR := .scalar [] (.lb true)

theorem need_len {d : D} {n s : Nat} (i : Int) (h : d.len = n) (h' : d.sz = s) (h0 : 0 ≤ i) (hi : i < n) : 0 ≤ i ∧ i < (d.len : Int) ∧ d.sz = s := ⟨h0, by rw [h]; exact hi, h'⟩
end Sx
namespace Go.Proofs.Ytnfkkmdbaknnlaa
theorem lawAwake : Law Try.prog 12 (rdNone.sp spTrue) := by
  refine law_in _ (by kernel_rfl) fun H w _ hok hp => ?_
  refine dec_sound ctPOk (fun _ => true) 600 (entry Try.prog 12 []) awake_in ?_
  intro _ _ _ _ _
  have int : ∀ (d : D) (i j : Nat) (n : Int), d.cellAt i j = some (.int .i64 n) → d.HasCell i j (.int .i64) := fun _ _ _ n h => ⟨n, h⟩
  refine ⟨need_len (n := 1) 0 rfl rfl (by decide) (by decide), int _ _ _ _ rfl, need_len (n := 1) 0 rfl rfl (by decide) (by decide), ⟨⟨_, rfl⟩, ⟨_, rfl⟩, ⟨_, rfl⟩, ⟨_, rfl⟩, ⟨_, rfl⟩, ⟨_, rfl⟩, ⟨_, _, _, rfl⟩, ⟨_, _, _, rfl⟩, trivial⟩, ?_⟩
  intro _ _
  refine ⟨need_len (n := 1) 0 rfl rfl (by decide) (by decide), int _ _ _ _ rfl, need_len (n := 1) 0 rfl rfl (by decide) (by decide), int _ _ _ _ rfl, ?_⟩
  intro _
  refine ⟨need_len (n := 1) 0 rfl rfl (by decide) (by decide), ⟨⟨_, rfl⟩, ⟨_, rfl⟩, ⟨_, rfl⟩, ⟨_, rfl⟩, ⟨_, rfl⟩, ⟨_, rfl⟩, ⟨_, _, _, rfl⟩, ⟨_, _, _, rfl⟩, trivial⟩, ?_⟩
  intro _ _
  refine ⟨need_len (n := 1) 0 rfl rfl (by decide) (by decide), int _ _ _ _ rfl, need_len (n := 1) 0 rfl rfl (by decide) (by decide), int _ _ _ _ rfl, need_len (n := 1) 0 rfl rfl (by decide) (by decide), int _ _ _ _ rfl, ?_⟩
  exact ret_S fun E E' => by simp only [SV.den]; rfl
end Go.Proofs.Ytnfkkmdbaknnlaa
end
section
/- Layer 32: the contracts that the statements lean on. -/
open Go Go.Proofs Sx
namespace Sx
/-- A law that gives a bool, where this is sure to be true. -/
theorem law_sure {P : Program} {f : FuncId} {β : Type} {r : Rd β} {sp sp' : β → SpecR} (h : Law P f (r.sp sp))
    (hh : ∀ b, ∃ ps v ps', sp b = .scalar ps (.bool v) ∧ sp' b = .scalar ps' (.lb true) ∧ ((∀ p, p ∈ ps' → p) → (∀ p, p ∈ ps → p) ∧ v = true)) : Law P f (r.sp sp') := by
  refine ⟨h.1, fun H E args hargs => ?_⟩
  have h2 := h.2 H E args hargs
  unfold Rd.sp at h2 ⊢
  cases hr : r.read args with
  | none => trivial
  | some b =>
    obtain ⟨ps, v, ps', e1, e2, h3⟩ := hh b
    rw [hr] at h2
    simp only [e1] at h2
    simp only [e2]
    intro hp
    obtain ⟨h4, rfl⟩ := h3 hp
    have h5 := h2 h4
    simpa [SV.den] using h5

def spSameS (x : SrcD × SrcD) : SpecR := .scalar [x.1.d.Is Int ∧ x.2.d.Is Int ∧ x.1.d.len ≤ 1048576 ∧ x.1.src = x.2.src] (.lb true)
noncomputable def spSameMsgsS (x : D × D) : SpecR := .scalar [x.1.Is Msg ∧ x.2.Is Msg ∧ x.1.len ≤ 1048576 ∧ (∀ m, m ∈ x.1.to Msg → m.body = [] ∧ m.values = []) ∧ x.1.to Msg = x.2.to Msg] (.lb true)
end Sx
namespace Go.Proofs.Ytnfkkmdbaknnlaa
theorem lawSameS : Law Try.prog 17 ((rdSrc.two rdSrc).sp spSameS) :=
  law_sure lawSame fun b => ⟨_, _, _, rfl, rfl, fun hp => by
    have h := hp _ (List.mem_singleton.2 rfl)
    exact ⟨fun p hp' => by rw [List.mem_singleton.1 hp']; exact ⟨h.1, h.2.1, h.2.2.1⟩, decide_eq_true h.2.2.2⟩⟩
theorem lawSameMsgsS : Law Try.prog 24 ((rdD.two rdD).sp spSameMsgsS) :=
  law_sure lawSameMsgs fun b => ⟨_, _, _, rfl, rfl, fun hp => by
    have h := hp _ (List.mem_singleton.2 rfl)
    exact ⟨fun p hp' => by rw [List.mem_singleton.1 hp']; exact ⟨h.1, h.2.1, h.2.2.1, h.2.2.2.1, fun m hm => (h.2.2.2.1 m (by rw [h.2.2.2.2]; exact hm)).1⟩, decide_eq_true h.2.2.2.2⟩⟩
noncomputable def ctL : Ctrs := (12, ctrOf (rdNone.sp spTrue)) :: (17, ctrOf ((rdSrc.two rdSrc).sp spSameS)) :: (24, ctrOf ((rdD.two rdD).sp spSameMsgsS)) :: ctA
theorem ctLOk : Ctrs.Ok Try.prog ctL := by
  intro x hx
  rcases List.mem_cons.1 hx with rfl | hx
  · exact ctrOf_ok lawAwake
  rcases List.mem_cons.1 hx with rfl | hx
  · exact ctrOf_ok lawSameS
  rcases List.mem_cons.1 hx with rfl | hx
  · exact ctrOf_ok lawSameMsgsS
  · exact ctAOk x hx
end Go.Proofs.Ytnfkkmdbaknnlaa
end
section
/- A walk that rests at given places. -/
namespace Sx
open Go

/-- The slot that the first operation of the region ahead writes. -/
def atDst (c : Conf) : Option (FuncId × Nat) :=
  match c.top.ri with
  | some _ => none
  | none => match c.top.todo with
    | .code (.region _ ops _) :: _ => match ops[0]? with
      | some o => match o.dst with
        | some d => some (c.top.fn, d)
        | none => none
      | none => none
    | _ => none

def restsAt (l : List (FuncId × Nat)) (c : Conf) : Bool :=
  match atDst c with
  | some (f, d) => l.any fun x => x.1 == f && x.2 == d
  | none => false

/-- What a frame that waits will still read. -/
def liveW (P : Program) (g : SFrm) : List Nat :=
  let out := (liveI (retN P g.fn) g.todo).1
  let live := match g.ri with
    | some (ops, l) => liveOps ops (l.filterMap fun i => ops[i]?) out
    | none => out
  match g.await with
  | some t => live.filter (· != t)
  | none => live

/-- The frame that waits for the top one: what it will not read any more is forgotten. -/
def fgtR (P : Program) (c : Conf) : Conf :=
  match c.rest with
  | [] => c
  | g :: r =>
    let n := 1000 * r.length
    let live := liveW P g
    if keptOk n live 0 g.tmps && c.mem.all (fun e => !e.2.jk n) && r.all (fun f => !SV.jkL n f.tmps) && !SV.jkL n c.top.tmps then
      { c with rest := { g with tmps := maskT n live 0 g.tmps } :: r }
    else c

theorem fgtR_sound {P : Program} {C : Ctx} {R : Value → World → Prop} {c : Conf} (h : Runs P C (fgtR P c) R) : Runs P C c R := by
  obtain ⟨top, rest, mem⟩ := c
  unfold fgtR at h
  simp only at h
  cases rest with
  | nil => exact h
  | cons g r =>
    simp only at h
    split at h
    · rename_i hc
      simp only [Bool.and_eq_true, Bool.not_eq_true'] at hc
      obtain ⟨⟨⟨h1, h2⟩, h3⟩, h4⟩ := hc
      intro E H w gd ok
      let n := 1000 * r.length
      let E' : Env := ⟨E.b, E.v, fun i => if i < n then E.j i else ((SV.denL E g.tmps)[i - n]?).getD Go.undef⟩
      have hs : Same n E E' := ⟨rfl, rfl, fun i hi => by simp [E', hi]⟩
      have hg := gd.same' hs (fun x hx => by have := List.all_eq_true.1 h2 x hx; simpa using this)
      have hr := h E' H w hg ⟨ok.1, fun f hf => by
        rcases List.mem_cons.1 hf with rfl | hf
        · exact maskT_ok _ _ _ (ok.2 g (by simp))
        · exact ok.2 f (by simp [hf])⟩
      have e1 : SV.denL E' (maskT n (liveW P g) 0 g.tmps) = SV.denL E g.tmps := by
        refine maskT_den hs _ _ 0 h1 (fun i v hv => ?_)
        simp only [E', Nat.zero_add]
        rw [if_neg (by omega), show n + i - n = i from by omega, SV.denL_eq, List.getElem?_map, hv]
        rfl
      have e2 : r.map (SFrm.den E') = r.map (SFrm.den E) := by
        apply List.map_congr_left
        intro f hf
        have := List.all_eq_true.1 h3 f hf
        simp only [Bool.not_eq_true'] at this
        simp [SFrm.den, denL_same hs _ this]
      have e3 : SFrm.den E' top = top.den E := by simp [SFrm.den, denL_same hs _ h4]
      have e4 : SFrm.den E' { g with tmps := maskT n (liveW P g) 0 g.tmps } = g.den E := by
        simp only [SFrm.den]; rw [e1]
      simp only [List.map_cons] at hr ⊢
      rw [e2, e3] at hr
      rw [show SFrm.den E' { g with tmps := maskT (1000 * r.length) (liveW P g) 0 g.tmps } = g.den E from e4] at hr
      exact hr
    · exact h

/-- A rest: the state in its plain form. -/
noncomputable def restC (P : Program) (c : Conf) : Tree := headC P (fgtR P c) leafR
noncomputable def execS (P : Program) (cs : Ctrs) (U : FuncId → Bool) (S : List (FuncId × Nat)) (n : Nat) : Conf → Tree :=
  Nat.rec (motive := fun _ => Conf → Tree) (fun _ => .stuck) (fun _ ih c => match restsAt S c with
    | true => restC P c
    | false => stepC P cs U ih c) n

/-- .. that does not rest at its beginning. -/
noncomputable def goS (P : Program) (cs : Ctrs) (U : FuncId → Bool) (S : List (FuncId × Nat)) (n : Nat) (c : Conf) : Tree := stepC P cs U (execS P cs U S n) c

section
variable {P : Program} {C : Ctx} {R : Value → World → Prop} {cs : Ctrs}
theorem execS_sound (hcs : cs.Ok P) (U : FuncId → Bool) (S : List (FuncId × Nat)) : ∀ (n : Nat) (c : Conf), (execS P cs U S n c).holds P C R → Runs P C c R
  | 0, _, h => h.elim
  | n + 1, c, h => by
    have e : execS P cs U S (n + 1) c = match restsAt S c with
      | true => restC P c
      | false => stepC P cs U (execS P cs U S n) c := rfl
    rw [e] at h
    cases hr : restsAt S c with
    | true => rw [hr] at h; exact fgtR_sound (headR_sound h)
    | false => rw [hr] at h; exact step_sound (U := U) hcs (fun c h => execS_sound hcs U S n c h) c h
theorem goS_sound (hcs : cs.Ok P) (U : FuncId → Bool) (S : List (FuncId × Nat)) (n : Nat) (c : Conf) (h : (goS P cs U S n c).holds P C R) : Runs P C c R :=
  step_sound (U := U) hcs (fun c h => execS_sound hcs U S n c h) c h
end

/-! A cell that is known to be true. -/
def lbIn (b off : Nat) (c : Conf) : Option Conf :=
  match c.mem.get b with
  | some (.cells t cs) => match cs[off]? with
    | some (.bool true) => some ⟨c.top, c.rest, c.mem.set b (.cells t (cs.set off (.lb true)))⟩
    | _ => none
  | _ => none

theorem lbIn_sound {P : Program} {C : Ctx} {R : Value → World → Prop} {b off : Nat} {c c' : Conf} (hc : lbIn b off c = some c') (h : Runs P C c' R) : Runs P C c R := by
  intro E H w g ok
  unfold lbIn at hc
  split at hc
  · rename_i t cs hg
    split at hc
    · rename_i hn
      cases hc
      have hmem := Mem.get_mem hg
      have hden : SV.denL E (cs.set off (.lb true)) = SV.denL E cs := by
        rw [denL_set, SV.denL_eq]
        apply List.ext_getElem?
        intro j
        by_cases hj : j = off
        · subst hj
          rw [List.getElem?_set_self (by have := (List.getElem?_eq_some_iff.1 hn).1; simpa using this)]
          simp [hn, SV.den]
        · rw [List.getElem?_set_ne (Ne.symm hj)]
      have hspec := Mem.set_spec (o' := .cells t (cs.set off (.lb true))) g.keys hg
      have g2 : Good C (c.mem.set b (.cells t (cs.set off (.lb true)))) E H w := by
        refine ⟨g.below, g.ext, g.fresh, g.cell, fun k o hko => ?_, ?_, fun x y hx hy hne hlx hly => ?_⟩
        · rcases hspec k o hko with ⟨rfl, rfl⟩ | ⟨hne, hm⟩
          · obtain ⟨a1, a2, a3, a4⟩ := g.own k _ hmem
            exact ⟨a1, by rw [hden]; exact a2, a3, okL_putS (dst := some off) a4 (by simp [SV.Ok])⟩
          · exact g.own k o hm
        · have := g.keys
          rw [pairwise_keys] at this ⊢
          simpa [Mem.set_keys] using this
        · have old : ∀ z : Nat × OBlk, z ∈ c.mem.set b (.cells t (cs.set off (.lb true))) → z.2.Lies → ∃ o, (z.1, o) ∈ c.mem ∧ o.Lies := by
            intro z hz hl
            rcases hspec z.1 z.2 hz with ⟨h1, h2⟩ | ⟨_, hm⟩
            · exact ⟨.cells t cs, by rw [h1]; exact hmem, trivial⟩
            · exact ⟨_, hm, hl⟩
          obtain ⟨ox, hx1, hx2⟩ := old x hx hlx
          obtain ⟨oy, hy1, hy2⟩ := old y hy hly
          exact g.apart (x.1, ox) (y.1, oy) hx1 hy1 hne hx2 hy2
      exact h E H w g2 ok
    · cases hc
  · cases hc

theorem lbIn_to {P : Program} {C : Ctx} {R : Value → World → Prop} (b off : Nat) {c : Conf} (c' : Conf) (hc : lbIn b off c = some c') (h : Runs P C c' R) : Runs P C c R := lbIn_sound hc h
end Sx
end
section
/- Layer 32: the states of a play at which the walk rests. -/
open Go Go.Proofs Sx
namespace Go.Proofs.Ytnfkkmdbaknnlaa
/-- The cells of a play. -/
noncomputable def pcs (S : SrcD) (T : Tgt) (a b ok : SV) : List SV :=
  [.int .i64 S.e, .int .i64 S.s, .dat S.d, .int .i64 S.st, .int .i64 S.ap, .int .i64 T.epoch, .int .i64 T.site, .int .i64 T.stored, .int .i64 T.applied, a, b, ok]
/-- The statement's frame, while it waits for a step. -/
noncomputable def fr8 (l : D) (i n : Int) (K : Nat) : SFrm := ⟨8, some (opsAt Try.prog 8 [1, 1, 1, 0, 1, 0, 0, 1, 0, 0, 1, 0], [6]), some 26,
  [Item.code (cAt Try.prog 8 [1, 1, 1, 0, 1, 0, 0, 1, 0, 0, 1, 1]), Item.inBlock 1, Item.code (cAt Try.prog 8 [1, 1, 1, 0, 1, 0, 0, 1, 1]),
   Item.inLoop (cAt Try.prog 8 [1, 1, 1, 0, 1, 0, 0]), Item.inBlock 0, Item.code (cAt Try.prog 8 [1, 1, 1, 1])],
  mkJ 0 [(0, .dat l), (3, .ptr K 0), (4, .int .i64 i), (5, .int .i64 n)] 0 97⟩
/-- A step begins. -/
noncomputable def E8 (l : D) (i n : Int) (S : SrcD) (T : Tgt) (k x : Int) (h1 h2 : Hd) (r1 r2 : List (List D)) : Conf :=
  ⟨⟨38, none, none, [Item.code (cAt Try.prog 38 [0]), Item.code (cAt Try.prog 38 [1])], mkJ 1 [(0, .agg (pcs S T (.vec 0) (.vec 1) (.lb true))), (1, .agg [.int .u8 k, .int .u8 x])] 0 252⟩,
   [fr8 l i n 2], [(0, .arr 3 (.slc h1 1 r1)), (1, .arr 53 (.slc h2 8 r2)), (2, .cells 67 (pcs S T (.vec 0) (.vec 1) (.lb true)))]⟩
/-- A play of zeros. -/
noncomputable def zpl : OBlk := .cells 67 [.int .i64 0, .int .i64 0, .nils, .int .i64 0, .int .i64 0, .int .i64 0, .int .i64 0, .int .i64 0, .int .i64 0, .nils, .nils, .lb false]
/-- The first loop of a step. -/
noncomputable def L18 (l : D) (i n : Int) (S : SrcD) (T : Tgt) (q : Int) (h1 h2 : Hd) (r1 r2 : List (List D)) : Conf :=
  ⟨⟨38, none, none, [Item.inLoop (cAt Try.prog 38 [1, 1, 0, 1, 0, 1, 1, 1, 0, 1, 0, 0]), Item.inBlock 1, Item.inBlock 0, Item.code (cAt Try.prog 38 [1, 1, 1])],
    mkJ 1 [(2, .ptr 0 0), (4, .ptr 1 0), (5, .nils), (10, .int .i64 q)] 0 252⟩, [fr8 l i n 2],
   [(0, .cells 67 (pcs S T (.vec 3) (.vec 4) (.lb true))), (1, zpl), (2, .cells 67 (pcs S T (.vec 3) (.vec 4) (.lb true))), (3, .arr 3 (.slc h1 1 r1)), (4, .arr 53 (.slc h2 8 r2))]⟩
/-- The second. -/
noncomputable def L28 (l : D) (i n : Int) (S : SrcD) (T : Tgt) (k x q : Int) (h1 h2 : Hd) (r1 r2 : List (List D)) : Conf :=
  ⟨⟨38, none, none, [Item.inLoop (cAt Try.prog 38 [1, 1, 0, 1, 0, 1, 1, 1, 1, 1, 0, 1, 0, 0]), Item.inBlock 3, Item.inBlock 0, Item.code (cAt Try.prog 38 [1, 1, 1])],
    mkJ 1 [(2, .ptr 0 0), (3, .ptr 1 0), (4, .ptr 2 0), (5, .nils), (15, .int .i64 q)] 0 252⟩, [fr8 l i n 3],
   [(0, .cells 67 (pcs S T (.vec 4) (.vec 5) (.lb true))), (1, .cells 71 [.int .u8 k, .int .u8 x]), (2, zpl), (3, .cells 67 (pcs S T (.vec 4) (.vec 5) (.lb true))), (4, .arr 3 (.slc h1 1 r1)), (5, .arr 53 (.slc h2 8 r2))]⟩
/-- All that a step has sent stands ready. S0, T0: the play before it; o: the key of its cycles, before. -/
noncomputable def C8 (o : Nat) (X : SV) (l : D) (i n : Int) (S0 : SrcD) (T0 : Tgt) (S : SrcD) (T : Tgt) (h1 h2 : Hd) (r1 r2 : List (List D)) : Conf :=
  ⟨⟨38, none, none, [Item.code (cAt Try.prog 38 [1, 1, 1, 0]), Item.code (cAt Try.prog 38 [1, 1, 1, 1])], mkJ 1 [(2, .ptr 0 0), (4, .ptr 1 0), (5, X)] 0 252⟩, [fr8 l i n 2],
   [(0, .cells 67 (pcs S T (.vec 3) (.vec 4) (.lb true))), (1, zpl), (2, .cells 67 (pcs S0 T0 (.vec o) (.vec 4) (.lb true))), (3, .arr 3 (.slc h1 1 r1)), (4, .arr 53 (.slc h2 8 r2))]⟩
/-- A step is done. -/
noncomputable def D8 (l : D) (i n : Int) (S : SrcD) (T : Tgt) (h1 h2 : Hd) (r1 r2 : List (List D)) : Conf :=
  ⟨⟨8, none, none, [Item.code (cAt Try.prog 8 [1, 1, 1, 0, 1, 0, 0, 1, 0, 0, 1, 1, 0, 0]), Item.code (cAt Try.prog 8 [1, 1, 1, 0, 1, 0, 0, 1, 0, 0, 1, 1, 0, 1]),
     Item.code (cAt Try.prog 8 [1, 1, 1, 0, 1, 0, 0, 1, 0, 0, 1, 1, 1]), Item.inBlock 1, Item.code (cAt Try.prog 8 [1, 1, 1, 0, 1, 0, 0, 1, 1]),
     Item.inLoop (cAt Try.prog 8 [1, 1, 1, 0, 1, 0, 0]), Item.inBlock 0, Item.code (cAt Try.prog 8 [1, 1, 1, 1])],
    mkJ 0 [(0, .dat l), (3, .ptr 0 0), (4, .int .i64 i), (5, .int .i64 n)] 0 97⟩, [],
   [(0, .cells 67 (pcs S T (.vec 1) (.vec 2) (.lb true))), (1, .arr 3 (.slc h1 1 r1)), (2, .arr 53 (.slc h2 8 r2))]⟩
/-- The statement's loop. -/
noncomputable def A8 (l : D) (i : Int) (S : SrcD) (T : Tgt) (h1 h2 : Hd) (r1 r2 : List (List D)) : Conf :=
  mkL 8 [Item.inLoop (cAt Try.prog 8 [1, 1, 1, 0, 1, 0, 0]), Item.inBlock 0, Item.code (cAt Try.prog 8 [1, 1, 1, 1])] 97 [(0, .dat l), (3, .ptr 0 0), (4, .int .i64 i)]
   [(0, .cells 67 (pcs S T (.vec 1) (.vec 2) (.lb true))), (1, .arr 3 (.slc h1 1 r1)), (2, .arr 53 (.slc h2 8 r2))]
/-- The messages of a step are looked at. -/
noncomputable def M8 (l : D) (i k : Int) (S : SrcD) (T : Tgt) (h1 h2 : Hd) (r1 r2 : List (List D)) : Conf :=
  mkL 8 [Item.inLoop (cAt Try.prog 8 [1, 1, 1, 0, 1, 0, 0, 1, 0, 0, 1, 1, 1, 1, 0, 0]), Item.inBlock 2, Item.inBlock 1, Item.code (cAt Try.prog 8 [1, 1, 1, 0, 1, 0, 0, 1, 1]),
     Item.inLoop (cAt Try.prog 8 [1, 1, 1, 0, 1, 0, 0]), Item.inBlock 0, Item.code (cAt Try.prog 8 [1, 1, 1, 1])] 97 [(0, .dat l), (3, .ptr 0 0), (4, .int .i64 i), (6, .int .i64 k)]
   [(0, .cells 67 (pcs S T (.vec 1) (.vec 2) (.lb true))), (1, .arr 3 (.slc h1 1 r1)), (2, .arr 53 (.slc h2 8 r2))]
noncomputable def A9 (l : D) (i : Int) (S : SrcD) (T : Tgt) (h1 h2 : Hd) (r1 r2 : List (List D)) : Conf :=
  mkL 9 [Item.inLoop (cAt Try.prog 9 [1, 1, 1, 0, 1, 0, 0]), Item.inBlock 0, Item.code (cAt Try.prog 9 [1, 1, 1, 1])] 67 [(0, .dat l), (3, .ptr 0 0), (4, .int .i64 i)]
   [(0, .cells 67 (pcs S T (.vec 1) (.vec 2) (.lb true))), (1, .arr 3 (.slc h1 1 r1)), (2, .arr 53 (.slc h2 8 r2))]
noncomputable def A10 (l : D) (i : Int) (S : SrcD) (T : Tgt) (h1 h2 : Hd) (r1 r2 : List (List D)) : Conf :=
  mkL 10 [Item.inLoop (cAt Try.prog 10 [1, 1, 1, 0, 1, 0, 0]), Item.inBlock 0, Item.code (cAt Try.prog 10 [1, 1, 1, 1])] 155 [(0, .dat l), (3, .ptr 0 0), (4, .int .i64 i)]
   [(0, .cells 67 (pcs S T (.vec 1) (.vec 2) (.lb true))), (1, .arr 3 (.slc h1 1 r1)), (2, .arr 53 (.slc h2 8 r2))]
noncomputable def A11 (l : D) (i : Int) (S : SrcD) (T : Tgt) (h1 h2 : Hd) (r1 r2 : List (List D)) : Conf :=
  mkL 11 [Item.inLoop (cAt Try.prog 11 [1, 1, 1, 0, 1, 0, 0]), Item.inBlock 0, Item.code (cAt Try.prog 11 [1, 1, 1, 1])] 130 [(0, .dat l), (3, .ptr 0 0), (4, .int .i64 i)]
   [(0, .cells 67 (pcs S T (.vec 1) (.vec 2) (.lb true))), (1, .arr 3 (.slc h1 1 r1)), (2, .arr 53 (.slc h2 8 r2))]
end Go.Proofs.Ytnfkkmdbaknnlaa
end
section
/- Layer 32: CommitSafe, walked. -/
open Go Go.Proofs Sx
namespace Go.Proofs.Ytnfkkmdbaknnlaa
set_option maxRecDepth 100000
set_option maxHeartbeats 0
section
variable (l : D) (e s st ap te ts tst tap i n k : Int) (d : D) (h1 h2 : Hd) (r1 r2 : List (List D))
theorem safe_in : exec Try.prog ctL 300 (entry Try.prog 8 [.dat l]) =
  Tree.br (decide ((↑(D.len l) : Int) > 60)) (Tree.ret (SV.lb true))
    (Tree.all fun hs =>
      Tree.all fun hs_1 =>
        Tree.br true
          (Tree.leaf
            (Conf.mk
              (SFrm.mk 8 none none
                [Item.inLoop (cAt Try.prog 8 [1, 1, 1, 0, 1, 0, 0]), Item.inBlock 0,
                  Item.code (cAt Try.prog 8 [1, 1, 1, 1])]
                (mkJ 0 [(0, SV.dat l), (3, SV.ptr 0 0), (4, SV.int IntKind.i64 0)] 0 97))
              []
              [(0,
                  OBlk.cells 67
                    [SV.int IntKind.i64 1, SV.int IntKind.i64 2, SV.dat (D.like (hs 0 0) ([] : List Int)), SV.int IntKind.i64 3,
                      SV.int IntKind.i64 3, SV.int IntKind.i64 1, SV.int IntKind.i64 2, SV.int IntKind.i64 3,
                      SV.int IntKind.i64 3, SV.nils, SV.nils, SV.bool true])]))
          (Tree.leaf
            (Conf.mk
              (SFrm.mk 8 none none
                [Item.inLoop (cAt Try.prog 8 [1, 1, 1, 0, 1, 0, 0]), Item.inBlock 0,
                  Item.code (cAt Try.prog 8 [1, 1, 1, 1])]
                (mkJ 0 [(0, SV.dat l), (3, SV.ptr 0 0), (4, SV.int IntKind.i64 0)] 0 97))
              []
              [(0,
                  OBlk.cells 67
                    [SV.int IntKind.i64 1, SV.int IntKind.i64 2, SV.dat (D.like (hs 0 0) ([] : List Int)), SV.int IntKind.i64 3,
                      SV.int IntKind.i64 3, SV.int IntKind.i64 1, SV.int IntKind.i64 2, SV.int IntKind.i64 3,
                      SV.int IntKind.i64 3, SV.nils, SV.nils, SV.lb false])]))) := by kernel_rfl

theorem a_8 : goS Try.prog ctL (fun _ => false) [(38, 2), (38, 246), (8, 27)] 400 (unroll (A8 l i ⟨e, s, d, st, ap⟩ ⟨te, ts, tst, tap⟩ h1 h2 r1 r2)) =
  Tree.br (decide (i < (↑(D.len l) : Int)))
    (Tree.all fun hs =>
      Tree.need (0 ≤ i ∧ i < (↑(D.len l) : Int) ∧ D.sz l = 2)
        (Tree.need (D.HasCells l (Int.toNat i) 0 [FT.int IntKind.u8, FT.int IntKind.u8])
          (Tree.leaf
            (Conf.mk
              (SFrm.mk 38 none none [Item.code (cAt Try.prog 38 [0]), Item.code (cAt Try.prog 38 [1])]
                (mkJ 1
                  [(0,
                      SV.agg
                        [SV.int IntKind.i64 e, SV.int IntKind.i64 s, SV.dat d, SV.int IntKind.i64 st,
                          SV.int IntKind.i64 ap, SV.int IntKind.i64 te, SV.int IntKind.i64 ts, SV.int IntKind.i64 tst,
                          SV.int IntKind.i64 tap, SV.vec 0, SV.vec 1, SV.lb true]),
                    (1,
                      SV.agg
                        [SV.int IntKind.u8 (D.getInt l (Int.toNat i) 0), SV.int IntKind.u8 (D.getInt l (Int.toNat i) 1)])]
                  0 252))
              [SFrm.mk 8 (some (opsAt Try.prog 8 [1, 1, 1, 0, 1, 0, 0, 1, 0, 0, 1, 0], [6])) (some 26)
                  [Item.code (cAt Try.prog 8 [1, 1, 1, 0, 1, 0, 0, 1, 0, 0, 1, 1]), Item.inBlock 1,
                    Item.code (cAt Try.prog 8 [1, 1, 1, 0, 1, 0, 0, 1, 1]),
                    Item.inLoop (cAt Try.prog 8 [1, 1, 1, 0, 1, 0, 0]), Item.inBlock 0,
                    Item.code (cAt Try.prog 8 [1, 1, 1, 1])]
                  (mkJ 0
                    [(0, SV.dat l), (3, SV.ptr 2 0), (4, SV.int IntKind.i64 i),
                      (5, SV.int IntKind.i64 (↑(D.len (D.slc h2 8 r2)) : Int))]
                    0 97)]
              [(0, OBlk.arr 3 (D.slc h1 1 r1)), (1, OBlk.arr 53 (D.slc h2 8 r2)),
                (2,
                  OBlk.cells 67
                    [SV.int IntKind.i64 e, SV.int IntKind.i64 s, SV.dat d, SV.int IntKind.i64 st, SV.int IntKind.i64 ap,
                      SV.int IntKind.i64 te, SV.int IntKind.i64 ts, SV.int IntKind.i64 tst, SV.int IntKind.i64 tap,
                      SV.vec 0, SV.vec 1, SV.lb true])]))))
    (Tree.ret (SV.lb true)) := by kernel_rfl

theorem d_8 : goS Try.prog ctL (fun _ => false) [(38, 2), (38, 246), (8, 27)] 400 (D8 l i n ⟨e, s, d, st, ap⟩ ⟨te, ts, tst, tap⟩ h1 h2 r1 r2) =
  Tree.all fun hs =>
    Tree.br (decide (releasable (SrcD.src (SrcD.mk e s d st ap)) > tap))
      (Tree.need (D.Is Int d)
        (Tree.need (decide (releasable (SrcD.src (SrcD.mk e s d st ap)) > tap) = true)
          (Tree.need (decide (releasable (SrcD.src (SrcD.mk e s d st ap)) > tap) = true)
            (Tree.need (decide (releasable (SrcD.src (SrcD.mk e s d st ap)) > tap) = true)
              (Tree.need (decide (releasable (SrcD.src (SrcD.mk e s d st ap)) > tap) = true)
                (Tree.need (decide (releasable (SrcD.src (SrcD.mk e s d st ap)) > tap) = true)
                  (Tree.need (decide (releasable (SrcD.src (SrcD.mk e s d st ap)) > tap) = true)
                    (Tree.need (decide (releasable (SrcD.src (SrcD.mk e s d st ap)) > tap) = true)
                      (Tree.need (decide (releasable (SrcD.src (SrcD.mk e s d st ap)) > tap) = true)
                        (Tree.need (decide (releasable (SrcD.src (SrcD.mk e s d st ap)) > tap) = true)
                          (Tree.need (decide (releasable (SrcD.src (SrcD.mk e s d st ap)) > tap) = true)
                            (Tree.ret (SV.lb false)))))))))))))
      (Tree.br (decide (e = te))
        (Tree.need (D.Is Int d)
          (Tree.need (decide (releasable (SrcD.src (SrcD.mk e s d st ap)) > tap) = false)
            (Tree.need (decide (releasable (SrcD.src (SrcD.mk e s d st ap)) > tap) = false)
              (Tree.need (decide (releasable (SrcD.src (SrcD.mk e s d st ap)) > tap) = false)
                (Tree.need (decide (releasable (SrcD.src (SrcD.mk e s d st ap)) > tap) = false)
                  (Tree.need (decide (releasable (SrcD.src (SrcD.mk e s d st ap)) > tap) = false)
                    (Tree.need (decide (releasable (SrcD.src (SrcD.mk e s d st ap)) > tap) = false)
                      (Tree.need (decide (releasable (SrcD.src (SrcD.mk e s d st ap)) > tap) = false)
                        (Tree.need (decide (releasable (SrcD.src (SrcD.mk e s d st ap)) > tap) = false)
                          (Tree.need (decide (e = te) = true)
                            (Tree.need (decide (e = te) = true)
                              (Tree.need (decide (e = te) = true)
                                (Tree.need (decide (e = te) = true)
                                  (Tree.need (decide (e = te) = true)
                                    (Tree.need (decide (e = te) = true)
                                      (Tree.need (decide (e = te) = true)
                                        (Tree.need (decide (releasable (SrcD.src (SrcD.mk e s d st ap)) > tap) = false)
                                          (Tree.need (decide (e = te) = true)
                                            (Tree.need
                                              (decide (releasable (SrcD.src (SrcD.mk e s d st ap)) > tap) = false)
                                              (Tree.br (decide (st > tst)) (Tree.ret (SV.lb false))
                                                (Tree.leaf
                                                  (Conf.mk
                                                    (SFrm.mk 8 none none
                                                      [Item.inLoop
                                                          (cAt Try.prog 8
                                                            [1, 1, 1, 0, 1, 0, 0, 1, 0, 0, 1, 1, 1, 1, 0, 0]),
                                                        Item.inBlock 2, Item.inBlock 1,
                                                        Item.code (cAt Try.prog 8 [1, 1, 1, 0, 1, 0, 0, 1, 1]),
                                                        Item.inLoop (cAt Try.prog 8 [1, 1, 1, 0, 1, 0, 0]),
                                                        Item.inBlock 0, Item.code (cAt Try.prog 8 [1, 1, 1, 1])]
                                                      (mkJ 0
                                                        [(0, SV.dat l), (3, SV.ptr 0 0), (4, SV.int IntKind.i64 i),
                                                          (6, SV.int IntKind.i64 n)]
                                                        0 97))
                                                    []
                                                    [(0,
                                                        OBlk.cells 67
                                                          [SV.int IntKind.i64 e, SV.int IntKind.i64 s, SV.dat d,
                                                            SV.int IntKind.i64 st, SV.int IntKind.i64 ap,
                                                            SV.int IntKind.i64 te, SV.int IntKind.i64 ts,
                                                            SV.int IntKind.i64 tst, SV.int IntKind.i64 tap, SV.vec 1,
                                                            SV.vec 2, SV.lb true]),
                                                      (1, OBlk.arr 3 (D.slc h1 1 r1)),
                                                      (2, OBlk.arr 53 (D.slc h2 8 r2))]))))))))))))))))))))))
        (Tree.need (D.Is Int d)
          (Tree.need (decide (releasable (SrcD.src (SrcD.mk e s d st ap)) > tap) = false)
            (Tree.need (decide (releasable (SrcD.src (SrcD.mk e s d st ap)) > tap) = false)
              (Tree.need (decide (releasable (SrcD.src (SrcD.mk e s d st ap)) > tap) = false)
                (Tree.need (decide (releasable (SrcD.src (SrcD.mk e s d st ap)) > tap) = false)
                  (Tree.need (decide (releasable (SrcD.src (SrcD.mk e s d st ap)) > tap) = false)
                    (Tree.need (decide (releasable (SrcD.src (SrcD.mk e s d st ap)) > tap) = false)
                      (Tree.need (decide (releasable (SrcD.src (SrcD.mk e s d st ap)) > tap) = false)
                        (Tree.need (decide (releasable (SrcD.src (SrcD.mk e s d st ap)) > tap) = false)
                          (Tree.need (decide (e = te) = false)
                            (Tree.need (decide (e = te) = false)
                              (Tree.need (decide (e = te) = false)
                                (Tree.need (decide (e = te) = false)
                                  (Tree.need (decide (e = te) = false)
                                    (Tree.need (decide (e = te) = false)
                                      (Tree.need (decide (e = te) = false)
                                        (Tree.need (decide (releasable (SrcD.src (SrcD.mk e s d st ap)) > tap) = false)
                                          (Tree.need (decide (e = te) = false)
                                            (Tree.need
                                              (decide (releasable (SrcD.src (SrcD.mk e s d st ap)) > tap) = false)
                                              (Tree.leaf
                                                (Conf.mk
                                                  (SFrm.mk 8 none none
                                                    [Item.inLoop
                                                        (cAt Try.prog 8 [1, 1, 1, 0, 1, 0, 0, 1, 0, 0, 1, 1, 1, 1, 0, 0]),
                                                      Item.inBlock 2, Item.inBlock 1,
                                                      Item.code (cAt Try.prog 8 [1, 1, 1, 0, 1, 0, 0, 1, 1]),
                                                      Item.inLoop (cAt Try.prog 8 [1, 1, 1, 0, 1, 0, 0]), Item.inBlock 0,
                                                      Item.code (cAt Try.prog 8 [1, 1, 1, 1])]
                                                    (mkJ 0
                                                      [(0, SV.dat l), (3, SV.ptr 0 0), (4, SV.int IntKind.i64 i),
                                                        (6, SV.int IntKind.i64 n)]
                                                      0 97))
                                                  []
                                                  [(0,
                                                      OBlk.cells 67
                                                        [SV.int IntKind.i64 e, SV.int IntKind.i64 s, SV.dat d,
                                                          SV.int IntKind.i64 st, SV.int IntKind.i64 ap,
                                                          SV.int IntKind.i64 te, SV.int IntKind.i64 ts,
                                                          SV.int IntKind.i64 tst, SV.int IntKind.i64 tap, SV.vec 1,
                                                          SV.vec 2, SV.lb true]),
                                                    (1, OBlk.arr 3 (D.slc h1 1 r1)),
                                                    (2, OBlk.arr 53 (D.slc h2 8 r2))])))))))))))))))))))))) := by kernel_rfl

theorem m_8 : goS Try.prog ctL (fun _ => false) [(38, 2), (38, 246), (8, 27)] 400 (unroll (M8 l i k ⟨e, s, d, st, ap⟩ ⟨te, ts, tst, tap⟩ h1 h2 r1 r2)) =
  Tree.br (decide (k < (↑(D.len (D.slc h2 8 r2)) : Int)))
    (Tree.all fun hs =>
      Tree.br (decide (D.getInt (D.slc h2 8 r2) (Int.toNat k) 0 = 10))
        (Tree.br (decide (D.getInt (D.slc h2 8 r2) (Int.toNat k) 5 = te))
          (Tree.need (0 ≤ k ∧ k < (↑(D.len (D.slc h2 8 r2)) : Int) ∧ D.sz (D.slc h2 8 r2) = 8)
            (Tree.need (D.HasCell (D.slc h2 8 r2) (Int.toNat k) 0 (FT.int IntKind.i64) ∧ D.sz (D.slc h2 8 r2) = 8)
              (Tree.need (decide (D.getInt (D.slc h2 8 r2) (Int.toNat k) 0 = 10) = true)
                (Tree.need (decide (D.getInt (D.slc h2 8 r2) (Int.toNat k) 0 = 10) = true)
                  (Tree.need (decide (D.getInt (D.slc h2 8 r2) (Int.toNat k) 0 = 10) = true)
                    (Tree.need (decide (D.getInt (D.slc h2 8 r2) (Int.toNat k) 0 = 10) = true)
                      (Tree.need (0 ≤ k ∧ k < (↑(D.len (D.slc h2 8 r2)) : Int) ∧ D.sz (D.slc h2 8 r2) = 8)
                        (Tree.need (decide (D.getInt (D.slc h2 8 r2) (Int.toNat k) 0 = 10) = true)
                          (Tree.need (decide (D.getInt (D.slc h2 8 r2) (Int.toNat k) 0 = 10) = true)
                            (Tree.need
                              (D.HasCell (D.slc h2 8 r2) (Int.toNat k) 5 (FT.int IntKind.i64) ∧ D.sz (D.slc h2 8 r2) = 8)
                              (Tree.need (decide (D.getInt (D.slc h2 8 r2) (Int.toNat k) 0 = 10) = true)
                                (Tree.need (decide (D.getInt (D.slc h2 8 r2) (Int.toNat k) 0 = 10) = true)
                                  (Tree.need (decide (D.getInt (D.slc h2 8 r2) (Int.toNat k) 0 = 10) = true)
                                    (Tree.need (decide (D.getInt (D.slc h2 8 r2) (Int.toNat k) 0 = 10) = true)
                                      (Tree.need (decide (D.getInt (D.slc h2 8 r2) (Int.toNat k) 0 = 10) = true)
                                        (Tree.need (decide (D.getInt (D.slc h2 8 r2) (Int.toNat k) 5 = te) = true)
                                          (Tree.need (decide (D.getInt (D.slc h2 8 r2) (Int.toNat k) 5 = te) = true)
                                            (Tree.need (decide (D.getInt (D.slc h2 8 r2) (Int.toNat k) 5 = te) = true)
                                              (Tree.need (decide (D.getInt (D.slc h2 8 r2) (Int.toNat k) 5 = te) = true)
                                                (Tree.need
                                                  (0 ≤ k ∧
                                                    k < (↑(D.len (D.slc h2 8 r2)) : Int) ∧ D.sz (D.slc h2 8 r2) = 8)
                                                  (Tree.need
                                                    (decide (D.getInt (D.slc h2 8 r2) (Int.toNat k) 5 = te) = true)
                                                    (Tree.need
                                                      (decide (D.getInt (D.slc h2 8 r2) (Int.toNat k) 5 = te) = true)
                                                      (Tree.need
                                                        (D.HasCell (D.slc h2 8 r2) (Int.toNat k) 3 (FT.int IntKind.i64) ∧
                                                          D.sz (D.slc h2 8 r2) = 8)
                                                        (Tree.need
                                                          (decide (D.getInt (D.slc h2 8 r2) (Int.toNat k) 5 = te) = true)
                                                          (Tree.need
                                                            (decide (D.getInt (D.slc h2 8 r2) (Int.toNat k) 5 = te) =
                                                              true)
                                                            (Tree.need
                                                              (decide (D.getInt (D.slc h2 8 r2) (Int.toNat k) 5 = te) =
                                                                true)
                                                              (Tree.need
                                                                (decide (D.getInt (D.slc h2 8 r2) (Int.toNat k) 5 = te) =
                                                                  true)
                                                                (Tree.need
                                                                  (decide
                                                                      (D.getInt (D.slc h2 8 r2) (Int.toNat k) 5 = te) =
                                                                    true)
                                                                  (Tree.br
                                                                    (decide
                                                                      (D.getInt (D.slc h2 8 r2) (Int.toNat k) 3 > tst))
                                                                    (Tree.ret (SV.lb false))
                                                                    (Tree.leaf
                                                                      (Conf.mk
                                                                        (SFrm.mk 8 none none
                                                                          [Item.inLoop
                                                                              (cAt Try.prog 8
                                                                                [1, 1, 1, 0, 1, 0, 0, 1, 0, 0, 1, 1, 1, 1,
                                                                                  0, 0]),
                                                                            Item.inBlock 2, Item.inBlock 1,
                                                                            Item.code
                                                                              (cAt Try.prog 8
                                                                                [1, 1, 1, 0, 1, 0, 0, 1, 1]),
                                                                            Item.inLoop
                                                                              (cAt Try.prog 8 [1, 1, 1, 0, 1, 0, 0]),
                                                                            Item.inBlock 0,
                                                                            Item.code (cAt Try.prog 8 [1, 1, 1, 1])]
                                                                          (mkJ 0
                                                                            [(0, SV.dat l), (3, SV.ptr 0 0),
                                                                              (4, SV.int IntKind.i64 i),
                                                                              (6,
                                                                                SV.int IntKind.i64
                                                                                  (IntKind.wrap IntKind.i64 (k + 1)))]
                                                                            0 97))
                                                                        []
                                                                        [(0,
                                                                            OBlk.cells 67
                                                                              [SV.int IntKind.i64 e, SV.int IntKind.i64 s,
                                                                                SV.dat d, SV.int IntKind.i64 st,
                                                                                SV.int IntKind.i64 ap,
                                                                                SV.int IntKind.i64 te,
                                                                                SV.int IntKind.i64 ts,
                                                                                SV.int IntKind.i64 tst,
                                                                                SV.int IntKind.i64 tap, SV.vec 1,
                                                                                SV.vec 2, SV.lb true]),
                                                                          (1, OBlk.arr 3 (D.slc h1 1 r1)),
                                                                          (2,
                                                                            OBlk.arr 53
                                                                              (D.slc h2 8
                                                                                r2))])))))))))))))))))))))))))))))))
          (Tree.need (0 ≤ k ∧ k < (↑(D.len (D.slc h2 8 r2)) : Int) ∧ D.sz (D.slc h2 8 r2) = 8)
            (Tree.need (D.HasCell (D.slc h2 8 r2) (Int.toNat k) 0 (FT.int IntKind.i64) ∧ D.sz (D.slc h2 8 r2) = 8)
              (Tree.need (decide (D.getInt (D.slc h2 8 r2) (Int.toNat k) 0 = 10) = true)
                (Tree.need (decide (D.getInt (D.slc h2 8 r2) (Int.toNat k) 0 = 10) = true)
                  (Tree.need (decide (D.getInt (D.slc h2 8 r2) (Int.toNat k) 0 = 10) = true)
                    (Tree.need (decide (D.getInt (D.slc h2 8 r2) (Int.toNat k) 0 = 10) = true)
                      (Tree.need (0 ≤ k ∧ k < (↑(D.len (D.slc h2 8 r2)) : Int) ∧ D.sz (D.slc h2 8 r2) = 8)
                        (Tree.need (decide (D.getInt (D.slc h2 8 r2) (Int.toNat k) 0 = 10) = true)
                          (Tree.need (decide (D.getInt (D.slc h2 8 r2) (Int.toNat k) 0 = 10) = true)
                            (Tree.need
                              (D.HasCell (D.slc h2 8 r2) (Int.toNat k) 5 (FT.int IntKind.i64) ∧ D.sz (D.slc h2 8 r2) = 8)
                              (Tree.need (decide (D.getInt (D.slc h2 8 r2) (Int.toNat k) 0 = 10) = true)
                                (Tree.need (decide (D.getInt (D.slc h2 8 r2) (Int.toNat k) 0 = 10) = true)
                                  (Tree.need (decide (D.getInt (D.slc h2 8 r2) (Int.toNat k) 0 = 10) = true)
                                    (Tree.need (decide (D.getInt (D.slc h2 8 r2) (Int.toNat k) 0 = 10) = true)
                                      (Tree.need (decide (D.getInt (D.slc h2 8 r2) (Int.toNat k) 0 = 10) = true)
                                        (Tree.need (decide (D.getInt (D.slc h2 8 r2) (Int.toNat k) 5 = te) = false)
                                          (Tree.need (decide (D.getInt (D.slc h2 8 r2) (Int.toNat k) 5 = te) = false)
                                            (Tree.need (decide (D.getInt (D.slc h2 8 r2) (Int.toNat k) 5 = te) = false)
                                              (Tree.need (decide (D.getInt (D.slc h2 8 r2) (Int.toNat k) 5 = te) = false)
                                                (Tree.need
                                                  (decide (D.getInt (D.slc h2 8 r2) (Int.toNat k) 5 = te) = false)
                                                  (Tree.need
                                                    (decide (D.getInt (D.slc h2 8 r2) (Int.toNat k) 5 = te) = false)
                                                    (Tree.need
                                                      (decide (D.getInt (D.slc h2 8 r2) (Int.toNat k) 5 = te) = false)
                                                      (Tree.need
                                                        (decide (D.getInt (D.slc h2 8 r2) (Int.toNat k) 5 = te) = false)
                                                        (Tree.need
                                                          (decide (D.getInt (D.slc h2 8 r2) (Int.toNat k) 5 = te) = false)
                                                          (Tree.need
                                                            (decide (D.getInt (D.slc h2 8 r2) (Int.toNat k) 5 = te) =
                                                              false)
                                                            (Tree.need
                                                              (decide (D.getInt (D.slc h2 8 r2) (Int.toNat k) 5 = te) =
                                                                false)
                                                              (Tree.leaf
                                                                (Conf.mk
                                                                  (SFrm.mk 8 none none
                                                                    [Item.inLoop
                                                                        (cAt Try.prog 8
                                                                          [1, 1, 1, 0, 1, 0, 0, 1, 0, 0, 1, 1, 1, 1, 0,
                                                                            0]),
                                                                      Item.inBlock 2, Item.inBlock 1,
                                                                      Item.code
                                                                        (cAt Try.prog 8 [1, 1, 1, 0, 1, 0, 0, 1, 1]),
                                                                      Item.inLoop (cAt Try.prog 8 [1, 1, 1, 0, 1, 0, 0]),
                                                                      Item.inBlock 0,
                                                                      Item.code (cAt Try.prog 8 [1, 1, 1, 1])]
                                                                    (mkJ 0
                                                                      [(0, SV.dat l), (3, SV.ptr 0 0),
                                                                        (4, SV.int IntKind.i64 i),
                                                                        (6,
                                                                          SV.int IntKind.i64
                                                                            (IntKind.wrap IntKind.i64 (k + 1)))]
                                                                      0 97))
                                                                  []
                                                                  [(0,
                                                                      OBlk.cells 67
                                                                        [SV.int IntKind.i64 e, SV.int IntKind.i64 s,
                                                                          SV.dat d, SV.int IntKind.i64 st,
                                                                          SV.int IntKind.i64 ap, SV.int IntKind.i64 te,
                                                                          SV.int IntKind.i64 ts, SV.int IntKind.i64 tst,
                                                                          SV.int IntKind.i64 tap, SV.vec 1, SV.vec 2,
                                                                          SV.lb true]),
                                                                    (1, OBlk.arr 3 (D.slc h1 1 r1)),
                                                                    (2,
                                                                      OBlk.arr 53
                                                                        (D.slc h2 8 r2))])))))))))))))))))))))))))))))
        (Tree.need (0 ≤ k ∧ k < (↑(D.len (D.slc h2 8 r2)) : Int) ∧ D.sz (D.slc h2 8 r2) = 8)
          (Tree.need (D.HasCell (D.slc h2 8 r2) (Int.toNat k) 0 (FT.int IntKind.i64) ∧ D.sz (D.slc h2 8 r2) = 8)
            (Tree.need (decide (D.getInt (D.slc h2 8 r2) (Int.toNat k) 0 = 10) = false)
              (Tree.need (decide (D.getInt (D.slc h2 8 r2) (Int.toNat k) 0 = 10) = false)
                (Tree.need (decide (D.getInt (D.slc h2 8 r2) (Int.toNat k) 0 = 10) = false)
                  (Tree.need (decide (D.getInt (D.slc h2 8 r2) (Int.toNat k) 0 = 10) = false)
                    (Tree.need (decide (D.getInt (D.slc h2 8 r2) (Int.toNat k) 0 = 10) = false)
                      (Tree.need (decide (D.getInt (D.slc h2 8 r2) (Int.toNat k) 0 = 10) = false)
                        (Tree.need (decide (D.getInt (D.slc h2 8 r2) (Int.toNat k) 0 = 10) = false)
                          (Tree.need (decide (D.getInt (D.slc h2 8 r2) (Int.toNat k) 0 = 10) = false)
                            (Tree.need (decide (D.getInt (D.slc h2 8 r2) (Int.toNat k) 0 = 10) = false)
                              (Tree.need (decide (D.getInt (D.slc h2 8 r2) (Int.toNat k) 0 = 10) = false)
                                (Tree.need (decide (D.getInt (D.slc h2 8 r2) (Int.toNat k) 0 = 10) = false)
                                  (Tree.leaf
                                    (Conf.mk
                                      (SFrm.mk 8 none none
                                        [Item.inLoop (cAt Try.prog 8 [1, 1, 1, 0, 1, 0, 0, 1, 0, 0, 1, 1, 1, 1, 0, 0]),
                                          Item.inBlock 2, Item.inBlock 1,
                                          Item.code (cAt Try.prog 8 [1, 1, 1, 0, 1, 0, 0, 1, 1]),
                                          Item.inLoop (cAt Try.prog 8 [1, 1, 1, 0, 1, 0, 0]), Item.inBlock 0,
                                          Item.code (cAt Try.prog 8 [1, 1, 1, 1])]
                                        (mkJ 0
                                          [(0, SV.dat l), (3, SV.ptr 0 0), (4, SV.int IntKind.i64 i),
                                            (6, SV.int IntKind.i64 (IntKind.wrap IntKind.i64 (k + 1)))]
                                          0 97))
                                      []
                                      [(0,
                                          OBlk.cells 67
                                            [SV.int IntKind.i64 e, SV.int IntKind.i64 s, SV.dat d, SV.int IntKind.i64 st,
                                              SV.int IntKind.i64 ap, SV.int IntKind.i64 te, SV.int IntKind.i64 ts,
                                              SV.int IntKind.i64 tst, SV.int IntKind.i64 tap, SV.vec 1, SV.vec 2,
                                              SV.lb true]),
                                        (1, OBlk.arr 3 (D.slc h1 1 r1)), (2, OBlk.arr 53 (D.slc h2 8 r2))]))))))))))))))))
    (Tree.leaf
      (Conf.mk
        (SFrm.mk 8 none none
          [Item.inLoop (cAt Try.prog 8 [1, 1, 1, 0, 1, 0, 0]), Item.inBlock 0, Item.code (cAt Try.prog 8 [1, 1, 1, 1])]
          (mkJ 0 [(0, SV.dat l), (3, SV.ptr 0 0), (4, SV.int IntKind.i64 (IntKind.wrap IntKind.i64 (i + 1)))] 0 97))
        []
        [(0,
            OBlk.cells 67
              [SV.int IntKind.i64 e, SV.int IntKind.i64 s, SV.dat d, SV.int IntKind.i64 st, SV.int IntKind.i64 ap,
                SV.int IntKind.i64 te, SV.int IntKind.i64 ts, SV.int IntKind.i64 tst, SV.int IntKind.i64 tap, SV.vec 1,
                SV.vec 2, SV.lb true]),
          (1, OBlk.arr 3 (D.slc h1 1 r1)), (2, OBlk.arr 53 (D.slc h2 8 r2))])) := by kernel_rfl

end
end Go.Proofs.Ytnfkkmdbaknnlaa
end
