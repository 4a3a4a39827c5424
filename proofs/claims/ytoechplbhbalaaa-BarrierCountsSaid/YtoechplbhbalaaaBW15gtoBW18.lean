/- Layer 21: three statements, walked. -/
import Derived.KernelRfl
import Derived.Test.YtoechplbhbalaaaBW12gtoBW14
import Derived.Test.YtoechplbhbalaaaOvtoM22
import Derived.Sort.Row
import Derived.Shelf.Slices.Delete
import Derived.Test.YtoechplbhbalaaaProg
import Derived.Test.YtoechplbhbalaaaBW6gtoBW7g
import Derived.Test.YtoechplbhbalaaaBW10gtoBW12
set_option linter.all false
section
open Go Go.Proofs Sx
namespace Go.Proofs.Ytoechplbhbalaaa
set_option maxRecDepth 100000
set_option maxHeartbeats 0
section
variable (now patience : Int) (d s wt hd : D) (frozen : Bool) (mr mp mt mi mu : Int) (mk mf mto mn mv me : Int) (ml mb : D) (nodes round phase deadline : Int) (valid : Bool)
theorem starts_in : exec Try.prog ctL 400 (entry Try.prog 3 [.agg [.int .i64 nodes, .int .i64 round, .int .i64 phase, .int .i64 deadline, .dat d, .dat s, .bool valid], .int .i64 now, .int .i64 patience]) =
  Tree.br (decide ((↑(D.len d) : Int) ≤ 20))
    (Tree.br (decide ((↑(D.len s) : Int) ≤ 20))
      (Tree.br true
        (Tree.br false (Tree.ret (SV.lb true))
          (Tree.need (D.Is Int d ∧ D.Is Bool s)
            (Tree.all fun hs =>
              Tree.need (D.Is Int d ∧ D.Is Bool s)
                (Tree.all fun hs_1 =>
                  Tree.all fun hs_2 =>
                    Tree.br
                      (Prod.snd
                          (Prod.snd (startCo (CoD.co (CoD.mk nodes round phase deadline d s valid)) now patience)) !=
                        Prod.snd (Prod.snd (startCo (CoD.co (CoD.mk nodes round phase deadline d s valid)) now patience)))
                      (Tree.need
                        (D.Is Int
                            (D.like (hs 0 0)
                              (Co.positions
                                (Prod.fst
                                  (startCo (CoD.co (CoD.mk nodes round phase deadline d s valid)) now patience)))) ∧
                          D.Is Bool
                              (D.like (hs 0 1)
                                (Co.seen
                                  (Prod.fst
                                    (startCo (CoD.co (CoD.mk nodes round phase deadline d s valid)) now patience)))) ∧
                            D.Is Int
                                (D.like (hs_1 0 0)
                                  (Co.positions
                                    (Prod.fst
                                      (startCo (CoD.co (CoD.mk nodes round phase deadline d s valid)) now patience)))) ∧
                              D.Is Bool
                                  (D.like (hs_1 0 1)
                                    (Co.seen
                                      (Prod.fst
                                        (startCo (CoD.co (CoD.mk nodes round phase deadline d s valid)) now patience)))) ∧
                                D.len
                                      (D.like (hs 0 0)
                                        (Co.positions
                                          (Prod.fst
                                            (startCo (CoD.co (CoD.mk nodes round phase deadline d s valid)) now
                                              patience)))) ≤
                                    1048576 ∧
                                  D.len
                                        (D.like (hs 0 1)
                                          (Co.seen
                                            (Prod.fst
                                              (startCo (CoD.co (CoD.mk nodes round phase deadline d s valid)) now
                                                patience)))) ≤
                                      1048576 ∧
                                    CoD.co
                                        (CoD.mk
                                          (Co.nodes
                                            (Prod.fst
                                              (startCo (CoD.co (CoD.mk nodes round phase deadline d s valid)) now
                                                patience)))
                                          (Co.round
                                            (Prod.fst
                                              (startCo (CoD.co (CoD.mk nodes round phase deadline d s valid)) now
                                                patience)))
                                          (Co.phase
                                            (Prod.fst
                                              (startCo (CoD.co (CoD.mk nodes round phase deadline d s valid)) now
                                                patience)))
                                          (Co.deadline
                                            (Prod.fst
                                              (startCo (CoD.co (CoD.mk nodes round phase deadline d s valid)) now
                                                patience)))
                                          (D.like (hs 0 0)
                                            (Co.positions
                                              (Prod.fst
                                                (startCo (CoD.co (CoD.mk nodes round phase deadline d s valid)) now
                                                  patience))))
                                          (D.like (hs 0 1)
                                            (Co.seen
                                              (Prod.fst
                                                (startCo (CoD.co (CoD.mk nodes round phase deadline d s valid)) now
                                                  patience))))
                                          (Co.valid
                                            (Prod.fst
                                              (startCo (CoD.co (CoD.mk nodes round phase deadline d s valid)) now
                                                patience)))) =
                                      CoD.co
                                        (CoD.mk
                                          (Co.nodes
                                            (Prod.fst
                                              (startCo (CoD.co (CoD.mk nodes round phase deadline d s valid)) now
                                                patience)))
                                          (Co.round
                                            (Prod.fst
                                              (startCo (CoD.co (CoD.mk nodes round phase deadline d s valid)) now
                                                patience)))
                                          (Co.phase
                                            (Prod.fst
                                              (startCo (CoD.co (CoD.mk nodes round phase deadline d s valid)) now
                                                patience)))
                                          (Co.deadline
                                            (Prod.fst
                                              (startCo (CoD.co (CoD.mk nodes round phase deadline d s valid)) now
                                                patience)))
                                          (D.like (hs_1 0 0)
                                            (Co.positions
                                              (Prod.fst
                                                (startCo (CoD.co (CoD.mk nodes round phase deadline d s valid)) now
                                                  patience))))
                                          (D.like (hs_1 0 1)
                                            (Co.seen
                                              (Prod.fst
                                                (startCo (CoD.co (CoD.mk nodes round phase deadline d s valid)) now
                                                  patience))))
                                          (Co.valid
                                            (Prod.fst
                                              (startCo (CoD.co (CoD.mk nodes round phase deadline d s valid)) now
                                                patience)))))
                        (Tree.need
                          (D.Is Msg
                              (D.like (hs 0 2)
                                (Prod.fst
                                  (Prod.snd
                                    (startCo (CoD.co (CoD.mk nodes round phase deadline d s valid)) now patience)))) ∧
                            D.Is Msg
                                (D.like (hs_1 0 2)
                                  (Prod.fst
                                    (Prod.snd
                                      (startCo (CoD.co (CoD.mk nodes round phase deadline d s valid)) now patience)))) ∧
                              D.len
                                    (D.like (hs 0 2)
                                      (Prod.fst
                                        (Prod.snd
                                          (startCo (CoD.co (CoD.mk nodes round phase deadline d s valid)) now
                                            patience)))) ≤
                                  1048576 ∧
                                (∀ (m : Msg),
                                    List.Mem m
                                        (D.to Msg
                                          (D.like (hs 0 2)
                                            (Prod.fst
                                              (Prod.snd
                                                (startCo (CoD.co (CoD.mk nodes round phase deadline d s valid)) now
                                                  patience))))) →
                                      Msg.values m = [] ∧ Msg.body m = []) ∧
                                  D.to Msg
                                      (D.like (hs 0 2)
                                        (Prod.fst
                                          (Prod.snd
                                            (startCo (CoD.co (CoD.mk nodes round phase deadline d s valid)) now
                                              patience)))) =
                                    D.to Msg
                                      (D.like (hs_1 0 2)
                                        (Prod.fst
                                          (Prod.snd
                                            (startCo (CoD.co (CoD.mk nodes round phase deadline d s valid)) now
                                              patience)))))
                          (Tree.need
                            ((Prod.snd
                                  (Prod.snd
                                    (startCo (CoD.co (CoD.mk nodes round phase deadline d s valid)) now patience)) !=
                                Prod.snd
                                  (Prod.snd
                                    (startCo (CoD.co (CoD.mk nodes round phase deadline d s valid)) now patience))) =
                              true)
                            (Tree.need
                              ((Prod.snd
                                    (Prod.snd
                                      (startCo (CoD.co (CoD.mk nodes round phase deadline d s valid)) now patience)) !=
                                  Prod.snd
                                    (Prod.snd
                                      (startCo (CoD.co (CoD.mk nodes round phase deadline d s valid)) now patience))) =
                                true)
                              (Tree.need
                                ((Prod.snd
                                      (Prod.snd
                                        (startCo (CoD.co (CoD.mk nodes round phase deadline d s valid)) now patience)) !=
                                    Prod.snd
                                      (Prod.snd
                                        (startCo (CoD.co (CoD.mk nodes round phase deadline d s valid)) now patience))) =
                                  true)
                                (Tree.need
                                  ((Prod.snd
                                        (Prod.snd
                                          (startCo (CoD.co (CoD.mk nodes round phase deadline d s valid)) now
                                            patience)) !=
                                      Prod.snd
                                        (Prod.snd
                                          (startCo (CoD.co (CoD.mk nodes round phase deadline d s valid)) now
                                            patience))) =
                                    true)
                                  (Tree.need
                                    ((Prod.snd
                                          (Prod.snd
                                            (startCo (CoD.co (CoD.mk nodes round phase deadline d s valid)) now
                                              patience)) !=
                                        Prod.snd
                                          (Prod.snd
                                            (startCo (CoD.co (CoD.mk nodes round phase deadline d s valid)) now
                                              patience))) =
                                      true)
                                    (Tree.need
                                      ((Prod.snd
                                            (Prod.snd
                                              (startCo (CoD.co (CoD.mk nodes round phase deadline d s valid)) now
                                                patience)) !=
                                          Prod.snd
                                            (Prod.snd
                                              (startCo (CoD.co (CoD.mk nodes round phase deadline d s valid)) now
                                                patience))) =
                                        true)
                                      (Tree.ret (SV.lb false))))))))))
                      (Tree.need
                        (D.Is Int
                            (D.like (hs 0 0)
                              (Co.positions
                                (Prod.fst
                                  (startCo (CoD.co (CoD.mk nodes round phase deadline d s valid)) now patience)))) ∧
                          D.Is Bool
                              (D.like (hs 0 1)
                                (Co.seen
                                  (Prod.fst
                                    (startCo (CoD.co (CoD.mk nodes round phase deadline d s valid)) now patience)))) ∧
                            D.Is Int
                                (D.like (hs_1 0 0)
                                  (Co.positions
                                    (Prod.fst
                                      (startCo (CoD.co (CoD.mk nodes round phase deadline d s valid)) now patience)))) ∧
                              D.Is Bool
                                  (D.like (hs_1 0 1)
                                    (Co.seen
                                      (Prod.fst
                                        (startCo (CoD.co (CoD.mk nodes round phase deadline d s valid)) now patience)))) ∧
                                D.len
                                      (D.like (hs 0 0)
                                        (Co.positions
                                          (Prod.fst
                                            (startCo (CoD.co (CoD.mk nodes round phase deadline d s valid)) now
                                              patience)))) ≤
                                    1048576 ∧
                                  D.len
                                        (D.like (hs 0 1)
                                          (Co.seen
                                            (Prod.fst
                                              (startCo (CoD.co (CoD.mk nodes round phase deadline d s valid)) now
                                                patience)))) ≤
                                      1048576 ∧
                                    CoD.co
                                        (CoD.mk
                                          (Co.nodes
                                            (Prod.fst
                                              (startCo (CoD.co (CoD.mk nodes round phase deadline d s valid)) now
                                                patience)))
                                          (Co.round
                                            (Prod.fst
                                              (startCo (CoD.co (CoD.mk nodes round phase deadline d s valid)) now
                                                patience)))
                                          (Co.phase
                                            (Prod.fst
                                              (startCo (CoD.co (CoD.mk nodes round phase deadline d s valid)) now
                                                patience)))
                                          (Co.deadline
                                            (Prod.fst
                                              (startCo (CoD.co (CoD.mk nodes round phase deadline d s valid)) now
                                                patience)))
                                          (D.like (hs 0 0)
                                            (Co.positions
                                              (Prod.fst
                                                (startCo (CoD.co (CoD.mk nodes round phase deadline d s valid)) now
                                                  patience))))
                                          (D.like (hs 0 1)
                                            (Co.seen
                                              (Prod.fst
                                                (startCo (CoD.co (CoD.mk nodes round phase deadline d s valid)) now
                                                  patience))))
                                          (Co.valid
                                            (Prod.fst
                                              (startCo (CoD.co (CoD.mk nodes round phase deadline d s valid)) now
                                                patience)))) =
                                      CoD.co
                                        (CoD.mk
                                          (Co.nodes
                                            (Prod.fst
                                              (startCo (CoD.co (CoD.mk nodes round phase deadline d s valid)) now
                                                patience)))
                                          (Co.round
                                            (Prod.fst
                                              (startCo (CoD.co (CoD.mk nodes round phase deadline d s valid)) now
                                                patience)))
                                          (Co.phase
                                            (Prod.fst
                                              (startCo (CoD.co (CoD.mk nodes round phase deadline d s valid)) now
                                                patience)))
                                          (Co.deadline
                                            (Prod.fst
                                              (startCo (CoD.co (CoD.mk nodes round phase deadline d s valid)) now
                                                patience)))
                                          (D.like (hs_1 0 0)
                                            (Co.positions
                                              (Prod.fst
                                                (startCo (CoD.co (CoD.mk nodes round phase deadline d s valid)) now
                                                  patience))))
                                          (D.like (hs_1 0 1)
                                            (Co.seen
                                              (Prod.fst
                                                (startCo (CoD.co (CoD.mk nodes round phase deadline d s valid)) now
                                                  patience))))
                                          (Co.valid
                                            (Prod.fst
                                              (startCo (CoD.co (CoD.mk nodes round phase deadline d s valid)) now
                                                patience)))))
                        (Tree.need
                          (D.Is Msg
                              (D.like (hs 0 2)
                                (Prod.fst
                                  (Prod.snd
                                    (startCo (CoD.co (CoD.mk nodes round phase deadline d s valid)) now patience)))) ∧
                            D.Is Msg
                                (D.like (hs_1 0 2)
                                  (Prod.fst
                                    (Prod.snd
                                      (startCo (CoD.co (CoD.mk nodes round phase deadline d s valid)) now patience)))) ∧
                              D.len
                                    (D.like (hs 0 2)
                                      (Prod.fst
                                        (Prod.snd
                                          (startCo (CoD.co (CoD.mk nodes round phase deadline d s valid)) now
                                            patience)))) ≤
                                  1048576 ∧
                                (∀ (m : Msg),
                                    List.Mem m
                                        (D.to Msg
                                          (D.like (hs 0 2)
                                            (Prod.fst
                                              (Prod.snd
                                                (startCo (CoD.co (CoD.mk nodes round phase deadline d s valid)) now
                                                  patience))))) →
                                      Msg.values m = [] ∧ Msg.body m = []) ∧
                                  D.to Msg
                                      (D.like (hs 0 2)
                                        (Prod.fst
                                          (Prod.snd
                                            (startCo (CoD.co (CoD.mk nodes round phase deadline d s valid)) now
                                              patience)))) =
                                    D.to Msg
                                      (D.like (hs_1 0 2)
                                        (Prod.fst
                                          (Prod.snd
                                            (startCo (CoD.co (CoD.mk nodes round phase deadline d s valid)) now
                                              patience)))))
                          (Tree.need
                            ((Prod.snd
                                  (Prod.snd
                                    (startCo (CoD.co (CoD.mk nodes round phase deadline d s valid)) now patience)) !=
                                Prod.snd
                                  (Prod.snd
                                    (startCo (CoD.co (CoD.mk nodes round phase deadline d s valid)) now patience))) =
                              false)
                            (Tree.need
                              ((Prod.snd
                                    (Prod.snd
                                      (startCo (CoD.co (CoD.mk nodes round phase deadline d s valid)) now patience)) !=
                                  Prod.snd
                                    (Prod.snd
                                      (startCo (CoD.co (CoD.mk nodes round phase deadline d s valid)) now patience))) =
                                false)
                              (Tree.need (D.Is Int d ∧ D.Is Bool s)
                                (Tree.need
                                  ((Prod.snd
                                        (Prod.snd
                                          (startCo (CoD.co (CoD.mk nodes round phase deadline d s valid)) now
                                            patience)) !=
                                      Prod.snd
                                        (Prod.snd
                                          (startCo (CoD.co (CoD.mk nodes round phase deadline d s valid)) now
                                            patience))) =
                                    false)
                                  (Tree.need
                                    ((Prod.snd
                                          (Prod.snd
                                            (startCo (CoD.co (CoD.mk nodes round phase deadline d s valid)) now
                                              patience)) !=
                                        Prod.snd
                                          (Prod.snd
                                            (startCo (CoD.co (CoD.mk nodes round phase deadline d s valid)) now
                                              patience))) =
                                      false)
                                    (Tree.need (D.Is Int d ∧ D.Is Bool s)
                                      (Tree.need
                                        ((Prod.snd
                                              (Prod.snd
                                                (startCo (CoD.co (CoD.mk nodes round phase deadline d s valid)) now
                                                  patience)) !=
                                            Prod.snd
                                              (Prod.snd
                                                (startCo (CoD.co (CoD.mk nodes round phase deadline d s valid)) now
                                                  patience))) =
                                          false)
                                        (Tree.need
                                          ((Prod.snd
                                                (Prod.snd
                                                  (startCo (CoD.co (CoD.mk nodes round phase deadline d s valid)) now
                                                    patience)) !=
                                              Prod.snd
                                                (Prod.snd
                                                  (startCo (CoD.co (CoD.mk nodes round phase deadline d s valid)) now
                                                    patience))) =
                                            false)
                                          (Tree.br
                                            (checkCo (CoD.co (CoD.mk nodes round phase deadline d s valid)) !=
                                              checkCo (CoD.co (CoD.mk nodes round phase deadline d s valid)))
                                            (Tree.ret (SV.lb false))
                                            (Tree.all fun hs =>
                                              Tree.all fun hs_3 =>
                                                Tree.need (D.Is Int d ∧ D.Is Bool s)
                                                  (Tree.all fun hs_4 =>
                                                    Tree.need (D.Is Int d ∧ D.Is Bool s)
                                                      (Tree.all fun hs_5 =>
                                                        Tree.need
                                                          (D.Is Int
                                                              (D.like (hs 0 0)
                                                                (Co.positions (Prod.fst (newCo patience)))) ∧
                                                            D.Is Bool
                                                                (D.like (hs 0 1) (Co.seen (Prod.fst (newCo patience)))) ∧
                                                              D.Is Int
                                                                  (D.like (hs_3 0 0)
                                                                    (Co.positions (Prod.fst (newCo patience)))) ∧
                                                                D.Is Bool
                                                                    (D.like (hs_3 0 1)
                                                                      (Co.seen (Prod.fst (newCo patience)))) ∧
                                                                  D.len
                                                                        (D.like (hs 0 0)
                                                                          (Co.positions (Prod.fst (newCo patience)))) ≤
                                                                      1048576 ∧
                                                                    D.len
                                                                          (D.like (hs 0 1)
                                                                            (Co.seen (Prod.fst (newCo patience)))) ≤
                                                                        1048576 ∧
                                                                      CoD.co
                                                                          (CoD.mk (Co.nodes (Prod.fst (newCo patience)))
                                                                            (Co.round (Prod.fst (newCo patience)))
                                                                            (Co.phase (Prod.fst (newCo patience)))
                                                                            (Co.deadline (Prod.fst (newCo patience)))
                                                                            (D.like (hs 0 0)
                                                                              (Co.positions (Prod.fst (newCo patience))))
                                                                            (D.like (hs 0 1)
                                                                              (Co.seen (Prod.fst (newCo patience))))
                                                                            (Co.valid (Prod.fst (newCo patience)))) =
                                                                        CoD.co
                                                                          (CoD.mk (Co.nodes (Prod.fst (newCo patience)))
                                                                            (Co.round (Prod.fst (newCo patience)))
                                                                            (Co.phase (Prod.fst (newCo patience)))
                                                                            (Co.deadline (Prod.fst (newCo patience)))
                                                                            (D.like (hs_3 0 0)
                                                                              (Co.positions (Prod.fst (newCo patience))))
                                                                            (D.like (hs_3 0 1)
                                                                              (Co.seen (Prod.fst (newCo patience))))
                                                                            (Co.valid (Prod.fst (newCo patience)))))
                                                          (Tree.br
                                                            (decide
                                                              (Prod.snd (newCo patience) = Prod.snd (newCo patience)))
                                                            (Tree.need
                                                              (D.Is Int
                                                                  (D.like (hs_4 0 0)
                                                                    (Prod.fst
                                                                      (resultCo
                                                                        (CoD.co
                                                                          (CoD.mk nodes round phase deadline d s
                                                                            valid))))) ∧
                                                                D.Is Int
                                                                    (D.like (hs_5 0 0)
                                                                      (Prod.fst
                                                                        (resultCo
                                                                          (CoD.co
                                                                            (CoD.mk nodes round phase deadline d s
                                                                              valid))))) ∧
                                                                  D.len
                                                                        (D.like (hs_4 0 0)
                                                                          (Prod.fst
                                                                            (resultCo
                                                                              (CoD.co
                                                                                (CoD.mk nodes round phase deadline d s
                                                                                  valid))))) ≤
                                                                      1048576 ∧
                                                                    D.to Int
                                                                        (D.like (hs_4 0 0)
                                                                          (Prod.fst
                                                                            (resultCo
                                                                              (CoD.co
                                                                                (CoD.mk nodes round phase deadline d s
                                                                                  valid))))) =
                                                                      D.to Int
                                                                        (D.like (hs_5 0 0)
                                                                          (Prod.fst
                                                                            (resultCo
                                                                              (CoD.co
                                                                                (CoD.mk nodes round phase deadline d s
                                                                                  valid))))))
                                                              (Tree.ret
                                                                (SV.bool
                                                                  (decide
                                                                    (Prod.snd
                                                                        (resultCo
                                                                          (CoD.co
                                                                            (CoD.mk nodes round phase deadline d s
                                                                              valid))) =
                                                                      Prod.snd
                                                                        (resultCo
                                                                          (CoD.co
                                                                            (CoD.mk nodes round phase deadline d s
                                                                              valid))))))))
                                                            (Tree.ret (SV.lb false)))))))))))))))))))))
        (Tree.ret (SV.lb true)))
      (Tree.ret (SV.lb true)))
    (Tree.ret (SV.lb true)) := by kernel_rfl

theorem obeys_in : exec Try.prog ctL 400 (entry Try.prog 4 [.agg [.int .i64 mr, .int .i64 mp, .int .i64 mt, .int .i64 mi, .bool frozen, .int .i64 mu, .dat wt, .dat hd], .agg [.int .i64 mk, .int .i64 mf, .int .i64 mto, .int .i64 mn, .int .i64 mv, .int .i64 me, .dat ml, .dat mb, .int .i64 now, .int .i64 patience]]) =
  Tree.br true
    (Tree.br true
      (Tree.br (decide ((↑(D.len wt) : Int) ≤ 30))
        (Tree.br (!decide ((↑(D.len hd) : Int) ≤ 30)) (Tree.ret (SV.lb true))
          (Tree.br (decide ((↑(D.len ml) : Int) > 20)) (Tree.ret (SV.lb true))
            (Tree.br (decide ((↑(D.len mb) : Int) > 20)) (Tree.ret (SV.lb true))
              (Tree.need (MbD.Right (MbD.mk mr mp mt mi frozen mu wt hd))
                (Tree.all fun hs =>
                  Tree.need (MbD.Right (MbD.mk mr mp mt mi frozen mu wt hd))
                    (Tree.all fun hs_1 =>
                      Tree.need
                        (MbD.Right
                            (MbD.mk
                              (Mb.round
                                (Prod.fst
                                  (obeyMb (MbD.mb (MbD.mk mr mp mt mi frozen mu wt hd)) now patience
                                    (MsgD.msg (MsgD.mk mk mf mto mn mv me ml mb)))))
                              (Mb.position
                                (Prod.fst
                                  (obeyMb (MbD.mb (MbD.mk mr mp mt mi frozen mu wt hd)) now patience
                                    (MsgD.msg (MsgD.mk mk mf mto mn mv me ml mb)))))
                              (Mb.thawed
                                (Prod.fst
                                  (obeyMb (MbD.mb (MbD.mk mr mp mt mi frozen mu wt hd)) now patience
                                    (MsgD.msg (MsgD.mk mk mf mto mn mv me ml mb)))))
                              (Mb.issued
                                (Prod.fst
                                  (obeyMb (MbD.mb (MbD.mk mr mp mt mi frozen mu wt hd)) now patience
                                    (MsgD.msg (MsgD.mk mk mf mto mn mv me ml mb)))))
                              (Mb.frozen
                                (Prod.fst
                                  (obeyMb (MbD.mb (MbD.mk mr mp mt mi frozen mu wt hd)) now patience
                                    (MsgD.msg (MsgD.mk mk mf mto mn mv me ml mb)))))
                              (Mb.upto
                                (Prod.fst
                                  (obeyMb (MbD.mb (MbD.mk mr mp mt mi frozen mu wt hd)) now patience
                                    (MsgD.msg (MsgD.mk mk mf mto mn mv me ml mb)))))
                              (D.like (hs 0 0)
                                (Mb.waiting
                                  (Prod.fst
                                    (obeyMb (MbD.mb (MbD.mk mr mp mt mi frozen mu wt hd)) now patience
                                      (MsgD.msg (MsgD.mk mk mf mto mn mv me ml mb))))))
                              (D.like (hs 0 1)
                                (Mb.held
                                  (Prod.fst
                                    (obeyMb (MbD.mb (MbD.mk mr mp mt mi frozen mu wt hd)) now patience
                                      (MsgD.msg (MsgD.mk mk mf mto mn mv me ml mb))))))) ∧
                          MbD.Right
                              (MbD.mk
                                (Mb.round
                                  (Prod.fst
                                    (obeyMb (MbD.mb (MbD.mk mr mp mt mi frozen mu wt hd)) now patience
                                      (MsgD.msg (MsgD.mk mk mf mto mn mv me ml mb)))))
                                (Mb.position
                                  (Prod.fst
                                    (obeyMb (MbD.mb (MbD.mk mr mp mt mi frozen mu wt hd)) now patience
                                      (MsgD.msg (MsgD.mk mk mf mto mn mv me ml mb)))))
                                (Mb.thawed
                                  (Prod.fst
                                    (obeyMb (MbD.mb (MbD.mk mr mp mt mi frozen mu wt hd)) now patience
                                      (MsgD.msg (MsgD.mk mk mf mto mn mv me ml mb)))))
                                (Mb.issued
                                  (Prod.fst
                                    (obeyMb (MbD.mb (MbD.mk mr mp mt mi frozen mu wt hd)) now patience
                                      (MsgD.msg (MsgD.mk mk mf mto mn mv me ml mb)))))
                                (Mb.frozen
                                  (Prod.fst
                                    (obeyMb (MbD.mb (MbD.mk mr mp mt mi frozen mu wt hd)) now patience
                                      (MsgD.msg (MsgD.mk mk mf mto mn mv me ml mb)))))
                                (Mb.upto
                                  (Prod.fst
                                    (obeyMb (MbD.mb (MbD.mk mr mp mt mi frozen mu wt hd)) now patience
                                      (MsgD.msg (MsgD.mk mk mf mto mn mv me ml mb)))))
                                (D.like (hs_1 0 0)
                                  (Mb.waiting
                                    (Prod.fst
                                      (obeyMb (MbD.mb (MbD.mk mr mp mt mi frozen mu wt hd)) now patience
                                        (MsgD.msg (MsgD.mk mk mf mto mn mv me ml mb))))))
                                (D.like (hs_1 0 1)
                                  (Mb.held
                                    (Prod.fst
                                      (obeyMb (MbD.mb (MbD.mk mr mp mt mi frozen mu wt hd)) now patience
                                        (MsgD.msg (MsgD.mk mk mf mto mn mv me ml mb))))))) ∧
                            MbD.mb
                                (MbD.mk
                                  (Mb.round
                                    (Prod.fst
                                      (obeyMb (MbD.mb (MbD.mk mr mp mt mi frozen mu wt hd)) now patience
                                        (MsgD.msg (MsgD.mk mk mf mto mn mv me ml mb)))))
                                  (Mb.position
                                    (Prod.fst
                                      (obeyMb (MbD.mb (MbD.mk mr mp mt mi frozen mu wt hd)) now patience
                                        (MsgD.msg (MsgD.mk mk mf mto mn mv me ml mb)))))
                                  (Mb.thawed
                                    (Prod.fst
                                      (obeyMb (MbD.mb (MbD.mk mr mp mt mi frozen mu wt hd)) now patience
                                        (MsgD.msg (MsgD.mk mk mf mto mn mv me ml mb)))))
                                  (Mb.issued
                                    (Prod.fst
                                      (obeyMb (MbD.mb (MbD.mk mr mp mt mi frozen mu wt hd)) now patience
                                        (MsgD.msg (MsgD.mk mk mf mto mn mv me ml mb)))))
                                  (Mb.frozen
                                    (Prod.fst
                                      (obeyMb (MbD.mb (MbD.mk mr mp mt mi frozen mu wt hd)) now patience
                                        (MsgD.msg (MsgD.mk mk mf mto mn mv me ml mb)))))
                                  (Mb.upto
                                    (Prod.fst
                                      (obeyMb (MbD.mb (MbD.mk mr mp mt mi frozen mu wt hd)) now patience
                                        (MsgD.msg (MsgD.mk mk mf mto mn mv me ml mb)))))
                                  (D.like (hs 0 0)
                                    (Mb.waiting
                                      (Prod.fst
                                        (obeyMb (MbD.mb (MbD.mk mr mp mt mi frozen mu wt hd)) now patience
                                          (MsgD.msg (MsgD.mk mk mf mto mn mv me ml mb))))))
                                  (D.like (hs 0 1)
                                    (Mb.held
                                      (Prod.fst
                                        (obeyMb (MbD.mb (MbD.mk mr mp mt mi frozen mu wt hd)) now patience
                                          (MsgD.msg (MsgD.mk mk mf mto mn mv me ml mb))))))) =
                              MbD.mb
                                (MbD.mk
                                  (Mb.round
                                    (Prod.fst
                                      (obeyMb (MbD.mb (MbD.mk mr mp mt mi frozen mu wt hd)) now patience
                                        (MsgD.msg (MsgD.mk mk mf mto mn mv me ml mb)))))
                                  (Mb.position
                                    (Prod.fst
                                      (obeyMb (MbD.mb (MbD.mk mr mp mt mi frozen mu wt hd)) now patience
                                        (MsgD.msg (MsgD.mk mk mf mto mn mv me ml mb)))))
                                  (Mb.thawed
                                    (Prod.fst
                                      (obeyMb (MbD.mb (MbD.mk mr mp mt mi frozen mu wt hd)) now patience
                                        (MsgD.msg (MsgD.mk mk mf mto mn mv me ml mb)))))
                                  (Mb.issued
                                    (Prod.fst
                                      (obeyMb (MbD.mb (MbD.mk mr mp mt mi frozen mu wt hd)) now patience
                                        (MsgD.msg (MsgD.mk mk mf mto mn mv me ml mb)))))
                                  (Mb.frozen
                                    (Prod.fst
                                      (obeyMb (MbD.mb (MbD.mk mr mp mt mi frozen mu wt hd)) now patience
                                        (MsgD.msg (MsgD.mk mk mf mto mn mv me ml mb)))))
                                  (Mb.upto
                                    (Prod.fst
                                      (obeyMb (MbD.mb (MbD.mk mr mp mt mi frozen mu wt hd)) now patience
                                        (MsgD.msg (MsgD.mk mk mf mto mn mv me ml mb)))))
                                  (D.like (hs_1 0 0)
                                    (Mb.waiting
                                      (Prod.fst
                                        (obeyMb (MbD.mb (MbD.mk mr mp mt mi frozen mu wt hd)) now patience
                                          (MsgD.msg (MsgD.mk mk mf mto mn mv me ml mb))))))
                                  (D.like (hs_1 0 1)
                                    (Mb.held
                                      (Prod.fst
                                        (obeyMb (MbD.mb (MbD.mk mr mp mt mi frozen mu wt hd)) now patience
                                          (MsgD.msg (MsgD.mk mk mf mto mn mv me ml mb))))))))
                        (Tree.need
                          (D.Is Int
                              (D.like (hs 0 2)
                                (Prod.fst
                                  (Prod.snd
                                    (obeyMb (MbD.mb (MbD.mk mr mp mt mi frozen mu wt hd)) now patience
                                      (MsgD.msg (MsgD.mk mk mf mto mn mv me ml mb)))))) ∧
                            D.Is Int
                                (D.like (hs_1 0 2)
                                  (Prod.fst
                                    (Prod.snd
                                      (obeyMb (MbD.mb (MbD.mk mr mp mt mi frozen mu wt hd)) now patience
                                        (MsgD.msg (MsgD.mk mk mf mto mn mv me ml mb)))))) ∧
                              D.len
                                    (D.like (hs 0 2)
                                      (Prod.fst
                                        (Prod.snd
                                          (obeyMb (MbD.mb (MbD.mk mr mp mt mi frozen mu wt hd)) now patience
                                            (MsgD.msg (MsgD.mk mk mf mto mn mv me ml mb)))))) ≤
                                  1048576 ∧
                                D.to Int
                                    (D.like (hs 0 2)
                                      (Prod.fst
                                        (Prod.snd
                                          (obeyMb (MbD.mb (MbD.mk mr mp mt mi frozen mu wt hd)) now patience
                                            (MsgD.msg (MsgD.mk mk mf mto mn mv me ml mb)))))) =
                                  D.to Int
                                    (D.like (hs_1 0 2)
                                      (Prod.fst
                                        (Prod.snd
                                          (obeyMb (MbD.mb (MbD.mk mr mp mt mi frozen mu wt hd)) now patience
                                            (MsgD.msg (MsgD.mk mk mf mto mn mv me ml mb)))))))
                          (Tree.need
                            (D.Is Msg
                                (D.like (hs 0 3)
                                  (Prod.snd
                                    (Prod.snd
                                      (obeyMb (MbD.mb (MbD.mk mr mp mt mi frozen mu wt hd)) now patience
                                        (MsgD.msg (MsgD.mk mk mf mto mn mv me ml mb)))))) ∧
                              D.Is Msg
                                  (D.like (hs_1 0 3)
                                    (Prod.snd
                                      (Prod.snd
                                        (obeyMb (MbD.mb (MbD.mk mr mp mt mi frozen mu wt hd)) now patience
                                          (MsgD.msg (MsgD.mk mk mf mto mn mv me ml mb)))))) ∧
                                D.len
                                      (D.like (hs 0 3)
                                        (Prod.snd
                                          (Prod.snd
                                            (obeyMb (MbD.mb (MbD.mk mr mp mt mi frozen mu wt hd)) now patience
                                              (MsgD.msg (MsgD.mk mk mf mto mn mv me ml mb)))))) ≤
                                    1048576 ∧
                                  (∀ (m : Msg),
                                      List.Mem m
                                          (D.to Msg
                                            (D.like (hs 0 3)
                                              (Prod.snd
                                                (Prod.snd
                                                  (obeyMb (MbD.mb (MbD.mk mr mp mt mi frozen mu wt hd)) now patience
                                                    (MsgD.msg (MsgD.mk mk mf mto mn mv me ml mb))))))) →
                                        Msg.values m = [] ∧ Msg.body m = []) ∧
                                    D.to Msg
                                        (D.like (hs 0 3)
                                          (Prod.snd
                                            (Prod.snd
                                              (obeyMb (MbD.mb (MbD.mk mr mp mt mi frozen mu wt hd)) now patience
                                                (MsgD.msg (MsgD.mk mk mf mto mn mv me ml mb)))))) =
                                      D.to Msg
                                        (D.like (hs_1 0 3)
                                          (Prod.snd
                                            (Prod.snd
                                              (obeyMb (MbD.mb (MbD.mk mr mp mt mi frozen mu wt hd)) now patience
                                                (MsgD.msg (MsgD.mk mk mf mto mn mv me ml mb)))))))
                            (Tree.ret (SV.lb true))))))))))
        (Tree.ret (SV.lb true)))
      (Tree.ret (SV.lb true)))
    (Tree.ret (SV.lb true)) := by kernel_rfl

theorem collects_in : exec Try.prog ctL 400 (entry Try.prog 5 [.agg [.int .i64 nodes, .int .i64 round, .int .i64 phase, .int .i64 deadline, .dat d, .dat s, .bool valid], .int .i64 now, .agg [.int .i64 mk, .int .i64 mf, .int .i64 mto, .int .i64 mn, .int .i64 mv, .int .i64 me, .dat ml, .dat mb]]) =
  Tree.br (decide ((↑(D.len d) : Int) ≤ 20))
    (Tree.br (decide ((↑(D.len s) : Int) ≤ 20))
      (Tree.br true
        (Tree.br false (Tree.ret (SV.lb true))
          (Tree.br (decide ((↑(D.len ml) : Int) > 20)) (Tree.ret (SV.lb true))
            (Tree.br (decide ((↑(D.len mb) : Int) > 20)) (Tree.ret (SV.lb true))
              (Tree.need (D.Is Int d ∧ D.Is Bool s)
                (Tree.all fun hs =>
                  Tree.need (D.Is Int d ∧ D.Is Bool s)
                    (Tree.all fun hs_1 =>
                      Tree.need
                        (D.Is Int
                            (D.like (hs 0 0)
                              (Co.positions
                                (Prod.fst
                                  (collectCo (CoD.co (CoD.mk nodes round phase deadline d s valid)) now
                                    (MsgD.msg (MsgD.mk mk mf mto mn mv me ml mb)))))) ∧
                          D.Is Bool
                              (D.like (hs 0 1)
                                (Co.seen
                                  (Prod.fst
                                    (collectCo (CoD.co (CoD.mk nodes round phase deadline d s valid)) now
                                      (MsgD.msg (MsgD.mk mk mf mto mn mv me ml mb)))))) ∧
                            D.Is Int
                                (D.like (hs_1 0 0)
                                  (Co.positions
                                    (Prod.fst
                                      (collectCo (CoD.co (CoD.mk nodes round phase deadline d s valid)) now
                                        (MsgD.msg (MsgD.mk mk mf mto mn mv me ml mb)))))) ∧
                              D.Is Bool
                                  (D.like (hs_1 0 1)
                                    (Co.seen
                                      (Prod.fst
                                        (collectCo (CoD.co (CoD.mk nodes round phase deadline d s valid)) now
                                          (MsgD.msg (MsgD.mk mk mf mto mn mv me ml mb)))))) ∧
                                D.len
                                      (D.like (hs 0 0)
                                        (Co.positions
                                          (Prod.fst
                                            (collectCo (CoD.co (CoD.mk nodes round phase deadline d s valid)) now
                                              (MsgD.msg (MsgD.mk mk mf mto mn mv me ml mb)))))) ≤
                                    1048576 ∧
                                  D.len
                                        (D.like (hs 0 1)
                                          (Co.seen
                                            (Prod.fst
                                              (collectCo (CoD.co (CoD.mk nodes round phase deadline d s valid)) now
                                                (MsgD.msg (MsgD.mk mk mf mto mn mv me ml mb)))))) ≤
                                      1048576 ∧
                                    CoD.co
                                        (CoD.mk
                                          (Co.nodes
                                            (Prod.fst
                                              (collectCo (CoD.co (CoD.mk nodes round phase deadline d s valid)) now
                                                (MsgD.msg (MsgD.mk mk mf mto mn mv me ml mb)))))
                                          (Co.round
                                            (Prod.fst
                                              (collectCo (CoD.co (CoD.mk nodes round phase deadline d s valid)) now
                                                (MsgD.msg (MsgD.mk mk mf mto mn mv me ml mb)))))
                                          (Co.phase
                                            (Prod.fst
                                              (collectCo (CoD.co (CoD.mk nodes round phase deadline d s valid)) now
                                                (MsgD.msg (MsgD.mk mk mf mto mn mv me ml mb)))))
                                          (Co.deadline
                                            (Prod.fst
                                              (collectCo (CoD.co (CoD.mk nodes round phase deadline d s valid)) now
                                                (MsgD.msg (MsgD.mk mk mf mto mn mv me ml mb)))))
                                          (D.like (hs 0 0)
                                            (Co.positions
                                              (Prod.fst
                                                (collectCo (CoD.co (CoD.mk nodes round phase deadline d s valid)) now
                                                  (MsgD.msg (MsgD.mk mk mf mto mn mv me ml mb))))))
                                          (D.like (hs 0 1)
                                            (Co.seen
                                              (Prod.fst
                                                (collectCo (CoD.co (CoD.mk nodes round phase deadline d s valid)) now
                                                  (MsgD.msg (MsgD.mk mk mf mto mn mv me ml mb))))))
                                          (Co.valid
                                            (Prod.fst
                                              (collectCo (CoD.co (CoD.mk nodes round phase deadline d s valid)) now
                                                (MsgD.msg (MsgD.mk mk mf mto mn mv me ml mb)))))) =
                                      CoD.co
                                        (CoD.mk
                                          (Co.nodes
                                            (Prod.fst
                                              (collectCo (CoD.co (CoD.mk nodes round phase deadline d s valid)) now
                                                (MsgD.msg (MsgD.mk mk mf mto mn mv me ml mb)))))
                                          (Co.round
                                            (Prod.fst
                                              (collectCo (CoD.co (CoD.mk nodes round phase deadline d s valid)) now
                                                (MsgD.msg (MsgD.mk mk mf mto mn mv me ml mb)))))
                                          (Co.phase
                                            (Prod.fst
                                              (collectCo (CoD.co (CoD.mk nodes round phase deadline d s valid)) now
                                                (MsgD.msg (MsgD.mk mk mf mto mn mv me ml mb)))))
                                          (Co.deadline
                                            (Prod.fst
                                              (collectCo (CoD.co (CoD.mk nodes round phase deadline d s valid)) now
                                                (MsgD.msg (MsgD.mk mk mf mto mn mv me ml mb)))))
                                          (D.like (hs_1 0 0)
                                            (Co.positions
                                              (Prod.fst
                                                (collectCo (CoD.co (CoD.mk nodes round phase deadline d s valid)) now
                                                  (MsgD.msg (MsgD.mk mk mf mto mn mv me ml mb))))))
                                          (D.like (hs_1 0 1)
                                            (Co.seen
                                              (Prod.fst
                                                (collectCo (CoD.co (CoD.mk nodes round phase deadline d s valid)) now
                                                  (MsgD.msg (MsgD.mk mk mf mto mn mv me ml mb))))))
                                          (Co.valid
                                            (Prod.fst
                                              (collectCo (CoD.co (CoD.mk nodes round phase deadline d s valid)) now
                                                (MsgD.msg (MsgD.mk mk mf mto mn mv me ml mb)))))))
                        (Tree.need
                          (D.Is Msg
                              (D.like (hs 0 2)
                                (Prod.snd
                                  (collectCo (CoD.co (CoD.mk nodes round phase deadline d s valid)) now
                                    (MsgD.msg (MsgD.mk mk mf mto mn mv me ml mb))))) ∧
                            D.Is Msg
                                (D.like (hs_1 0 2)
                                  (Prod.snd
                                    (collectCo (CoD.co (CoD.mk nodes round phase deadline d s valid)) now
                                      (MsgD.msg (MsgD.mk mk mf mto mn mv me ml mb))))) ∧
                              D.len
                                    (D.like (hs 0 2)
                                      (Prod.snd
                                        (collectCo (CoD.co (CoD.mk nodes round phase deadline d s valid)) now
                                          (MsgD.msg (MsgD.mk mk mf mto mn mv me ml mb))))) ≤
                                  1048576 ∧
                                (∀ (m : Msg),
                                    List.Mem m
                                        (D.to Msg
                                          (D.like (hs 0 2)
                                            (Prod.snd
                                              (collectCo (CoD.co (CoD.mk nodes round phase deadline d s valid)) now
                                                (MsgD.msg (MsgD.mk mk mf mto mn mv me ml mb)))))) →
                                      Msg.values m = [] ∧ Msg.body m = []) ∧
                                  D.to Msg
                                      (D.like (hs 0 2)
                                        (Prod.snd
                                          (collectCo (CoD.co (CoD.mk nodes round phase deadline d s valid)) now
                                            (MsgD.msg (MsgD.mk mk mf mto mn mv me ml mb))))) =
                                    D.to Msg
                                      (D.like (hs_1 0 2)
                                        (Prod.snd
                                          (collectCo (CoD.co (CoD.mk nodes round phase deadline d s valid)) now
                                            (MsgD.msg (MsgD.mk mk mf mto mn mv me ml mb))))))
                          (Tree.need (D.Is Int d ∧ D.Is Bool s)
                            (Tree.all fun hs =>
                              Tree.need (D.Is Int d ∧ D.Is Bool s)
                                (Tree.all fun hs_2 =>
                                  Tree.need
                                    (D.Is Int
                                        (D.like (hs 0 0)
                                          (Co.positions
                                            (Prod.fst
                                              (expireCo (CoD.co (CoD.mk nodes round phase deadline d s valid)) now)))) ∧
                                      D.Is Bool
                                          (D.like (hs 0 1)
                                            (Co.seen
                                              (Prod.fst
                                                (expireCo (CoD.co (CoD.mk nodes round phase deadline d s valid)) now)))) ∧
                                        D.Is Int
                                            (D.like (hs_2 0 0)
                                              (Co.positions
                                                (Prod.fst
                                                  (expireCo (CoD.co (CoD.mk nodes round phase deadline d s valid))
                                                    now)))) ∧
                                          D.Is Bool
                                              (D.like (hs_2 0 1)
                                                (Co.seen
                                                  (Prod.fst
                                                    (expireCo (CoD.co (CoD.mk nodes round phase deadline d s valid))
                                                      now)))) ∧
                                            D.len
                                                  (D.like (hs 0 0)
                                                    (Co.positions
                                                      (Prod.fst
                                                        (expireCo (CoD.co (CoD.mk nodes round phase deadline d s valid))
                                                          now)))) ≤
                                                1048576 ∧
                                              D.len
                                                    (D.like (hs 0 1)
                                                      (Co.seen
                                                        (Prod.fst
                                                          (expireCo (CoD.co (CoD.mk nodes round phase deadline d s valid))
                                                            now)))) ≤
                                                  1048576 ∧
                                                CoD.co
                                                    (CoD.mk
                                                      (Co.nodes
                                                        (Prod.fst
                                                          (expireCo (CoD.co (CoD.mk nodes round phase deadline d s valid))
                                                            now)))
                                                      (Co.round
                                                        (Prod.fst
                                                          (expireCo (CoD.co (CoD.mk nodes round phase deadline d s valid))
                                                            now)))
                                                      (Co.phase
                                                        (Prod.fst
                                                          (expireCo (CoD.co (CoD.mk nodes round phase deadline d s valid))
                                                            now)))
                                                      (Co.deadline
                                                        (Prod.fst
                                                          (expireCo (CoD.co (CoD.mk nodes round phase deadline d s valid))
                                                            now)))
                                                      (D.like (hs 0 0)
                                                        (Co.positions
                                                          (Prod.fst
                                                            (expireCo
                                                              (CoD.co (CoD.mk nodes round phase deadline d s valid))
                                                              now))))
                                                      (D.like (hs 0 1)
                                                        (Co.seen
                                                          (Prod.fst
                                                            (expireCo
                                                              (CoD.co (CoD.mk nodes round phase deadline d s valid))
                                                              now))))
                                                      (Co.valid
                                                        (Prod.fst
                                                          (expireCo (CoD.co (CoD.mk nodes round phase deadline d s valid))
                                                            now)))) =
                                                  CoD.co
                                                    (CoD.mk
                                                      (Co.nodes
                                                        (Prod.fst
                                                          (expireCo (CoD.co (CoD.mk nodes round phase deadline d s valid))
                                                            now)))
                                                      (Co.round
                                                        (Prod.fst
                                                          (expireCo (CoD.co (CoD.mk nodes round phase deadline d s valid))
                                                            now)))
                                                      (Co.phase
                                                        (Prod.fst
                                                          (expireCo (CoD.co (CoD.mk nodes round phase deadline d s valid))
                                                            now)))
                                                      (Co.deadline
                                                        (Prod.fst
                                                          (expireCo (CoD.co (CoD.mk nodes round phase deadline d s valid))
                                                            now)))
                                                      (D.like (hs_2 0 0)
                                                        (Co.positions
                                                          (Prod.fst
                                                            (expireCo
                                                              (CoD.co (CoD.mk nodes round phase deadline d s valid))
                                                              now))))
                                                      (D.like (hs_2 0 1)
                                                        (Co.seen
                                                          (Prod.fst
                                                            (expireCo
                                                              (CoD.co (CoD.mk nodes round phase deadline d s valid))
                                                              now))))
                                                      (Co.valid
                                                        (Prod.fst
                                                          (expireCo (CoD.co (CoD.mk nodes round phase deadline d s valid))
                                                            now)))))
                                    (Tree.need
                                      (D.Is Msg
                                          (D.like (hs 0 2)
                                            (Prod.snd
                                              (expireCo (CoD.co (CoD.mk nodes round phase deadline d s valid)) now))) ∧
                                        D.Is Msg
                                            (D.like (hs_2 0 2)
                                              (Prod.snd
                                                (expireCo (CoD.co (CoD.mk nodes round phase deadline d s valid)) now))) ∧
                                          D.len
                                                (D.like (hs 0 2)
                                                  (Prod.snd
                                                    (expireCo (CoD.co (CoD.mk nodes round phase deadline d s valid))
                                                      now))) ≤
                                              1048576 ∧
                                            (∀ (m : Msg),
                                                List.Mem m
                                                    (D.to Msg
                                                      (D.like (hs 0 2)
                                                        (Prod.snd
                                                          (expireCo (CoD.co (CoD.mk nodes round phase deadline d s valid))
                                                            now)))) →
                                                  Msg.values m = [] ∧ Msg.body m = []) ∧
                                              D.to Msg
                                                  (D.like (hs 0 2)
                                                    (Prod.snd
                                                      (expireCo (CoD.co (CoD.mk nodes round phase deadline d s valid))
                                                        now))) =
                                                D.to Msg
                                                  (D.like (hs_2 0 2)
                                                    (Prod.snd
                                                      (expireCo (CoD.co (CoD.mk nodes round phase deadline d s valid))
                                                        now))))
                                      (Tree.ret (SV.lb true)))))))))))))
        (Tree.ret (SV.lb true)))
      (Tree.ret (SV.lb true)))
    (Tree.ret (SV.lb true)) := by kernel_rfl

end
end Go.Proofs.Ytoechplbhbalaaa
end
section
/- Layer 21: BarrierStarts, BarrierObeys, BarrierCollects. -/
open Go Go.Proofs Sx
namespace Sx
theorem co_like (a b c e : Int) (x y : D) (p : List Int) (q : List Bool) (v : Bool) : (CoD.mk a b c e (x.like p) (y.like q) v).co = ⟨a, b, c, e, p, q, v⟩ := by simp [CoD.co, D.like_to]
theorem mb_like (a b c e g : Int) (x y : D) (p q : List Int) (v : Bool) : (MbD.mk a b c e v g (x.like p) (y.like q)).mb = ⟨a, b, c, e, v, g, p, q⟩ := by simp [MbD.mb, D.like_to]
theorem like_len {α : Type} [Codec α] (d : D) (l : List α) : (d.like l).len = l.length := by rw [D.Is.length (α := α), D.like_to]
theorem right_like (a b c e g : Int) (x y : D) (p q : List Int) (v : Bool) : (MbD.mk a b c e v g (x.like p) (y.like q)).Right ↔ p.length ≤ 1048575 ∧ q.length ≤ 1048575 := by
  simp [MbD.Right, D.like_is, like_len]

/-- A message with the time and the patience of its receiver. -/
def rdCall : Rd1 (MsgD × Int × Int) where
  read x := match x with
    | .agg [.int .i64 a, .int .i64 b, .int .i64 c, .int .i64 d, .int .i64 e, .int .i64 f, v, w, .int .i64 n, .int .i64 p] => match rdD.read v, rdD.read w with
      | some v, some w => some (⟨a, b, c, d, e, f, v, w⟩, n, p)
      | _, _ => none
    | _ => none
  canon x := .agg [.int .i64 x.1.a, .int .i64 x.1.b, .int .i64 x.1.c, .int .i64 x.1.d, .int .i64 x.1.e, .int .i64 x.1.f, .dat x.1.v, .dat x.1.w, .int .i64 x.2.1, .int .i64 x.2.2]
  right H E x b h hok := by
    split at h
    · split at h
      · rename_i hv hw
        cases h
        obtain ⟨h1, h2⟩ := rdD.right H E _ _ hv hok.2.2.2.2.2.2.1
        obtain ⟨h3, h4⟩ := rdD.right H E _ _ hw hok.2.2.2.2.2.2.2.1
        exact ⟨by simp only [SV.den, SV.denL, h1, h3, rdD], trivial, trivial, trivial, trivial, trivial, trivial, h2, h4, trivial, trivial, trivial⟩
      · cases h
    · cases h

def Plain2 (l : List Msg) : Prop := ∀ m : Msg, List.Mem m l → m.values = [] ∧ m.body = []
theorem msgsTo_pl (n r k : Int) : Plain2 (msgsTo n r k) := fun m hm => by
  have hm : m ∈ msgsTo n r k := hm
  simp only [msgsTo, List.mem_map] at hm
  obtain ⟨i, _, rfl⟩ := hm
  exact ⟨rfl, rfl⟩
theorem nil_pl : Plain2 [] := fun m hm => by cases hm
theorem msgsTo_length (n r k : Int) : (msgsTo n r k).length = n.toNat := by simp [msgsTo]
theorem ansTo_pl (m : Msg) (k v : Int) : Plain2 (ansTo m k v) := fun x hm => by
  have hm : x ∈ ansTo m k v := hm
  simp only [ansTo, List.mem_singleton] at hm
  subst hm
  exact ⟨rfl, rfl⟩

theorem checkCo_nodes {c : Co} (h : checkCo c = 0) : 1 ≤ c.nodes ∧ c.nodes ≤ 8 := (checkCo_zero.1 (show checkCo ⟨c.nodes, c.round, c.phase, c.deadline, c.positions, c.seen, c.valid⟩ = 0 from h)).1

theorem newCo_len (n : Int) : (newCo n).1.positions.length ≤ 8 ∧ (newCo n).1.seen.length ≤ 8 := by
  unfold newCo
  split
  · simp
  · simp; omega
theorem startCo_len (c : Co) (a b : Int) : (startCo c a b).1.positions.length ≤ 8 ∧ (startCo c a b).1.seen.length ≤ 8 ∧ (startCo c a b).2.1.length ≤ 8 ∧ Plain2 (startCo c a b).2.1 := by
  rcases checkCo_or c with h | h
  · rw [show c = ⟨c.nodes, c.round, c.phase, c.deadline, c.positions, c.seen, c.valid⟩ from rfl] at h ⊢
    have hn : 1 ≤ c.nodes ∧ c.nodes ≤ 8 := checkCo_nodes h
    rw [startCo_eq h]
    split
    · simp [zCo, nil_pl]
    · split
      · simp [zCo, nil_pl]
      · split
        · simp [zCo, nil_pl]
        · simp only [List.length_replicate, msgsTo_length]
          exact ⟨by omega, by omega, by omega, msgsTo_pl _ _ _⟩
  · unfold startCo
    rw [if_pos (by rw [h]; decide)]
    simp [zCo, nil_pl]
theorem resultCo_len (c : Co) : (resultCo c).1.length ≤ c.positions.length := by
  unfold resultCo
  split <;> simp
theorem endMb_len (m : Mb) (now : Int) (g : Msg) : (endMb m now g).1.waiting.length ≤ m.waiting.length ∧ (endMb m now g).1.held.length ≤ m.held.length ∧ (endMb m now g).2.1.length ≤ m.held.length ∧ (endMb m now g).2.2.length ≤ 1 ∧ Plain2 (endMb m now g).2.2 := by
  unfold endMb
  split
  · simp [ansTo]; exact ansTo_pl _ _ _
  · split
    · simp [ansTo]; exact ansTo_pl _ _ _
    · simp [ansTo]; exact ansTo_pl _ _ _
theorem obeyMb_len (m : Mb) (now p : Int) (g : Msg) : (obeyMb m now p g).1.waiting.length ≤ m.waiting.length ∧ (obeyMb m now p g).1.held.length ≤ m.held.length ∧ (obeyMb m now p g).2.1.length ≤ m.held.length ∧ (obeyMb m now p g).2.2.length ≤ 1 ∧ Plain2 (obeyMb m now p g).2.2 := by
  unfold obeyMb
  repeat' split
  all_goals first
    | exact endMb_len _ _ _
    | exact ⟨Nat.le_refl _, Nat.le_refl _, Nat.zero_le _, Nat.le_refl _, ansTo_pl _ _ _⟩
    | exact ⟨Nat.le_refl _, Nat.le_refl _, Nat.zero_le _, Nat.zero_le _, nil_pl⟩
    | exact ⟨Nat.le_refl _, Nat.zero_le _, Nat.le_refl _, Nat.zero_le _, nil_pl⟩
theorem collectCo_len (c : Co) (now : Int) (g : Msg) : (collectCo c now g).1.positions.length ≤ c.positions.length ∧ (collectCo c now g).1.seen.length ≤ c.seen.length + 8 ∧ (collectCo c now g).2.length ≤ 8 ∧ Plain2 (collectCo c now g).2 := by
  unfold collectCo
  split
  · simp [nil_pl]
  · rename_i h
    simp only [not_or, ne_eq, Decidable.not_not] at h
    have hn := checkCo_nodes h.1
    repeat' split
    all_goals (simp [nil_pl, giveUpCo, msgsTo_length, msgsTo_pl]; try omega)
theorem expireCo_len (c : Co) (now : Int) : (expireCo c now).1.positions.length ≤ c.positions.length ∧ (expireCo c now).1.seen.length ≤ c.seen.length ∧ (expireCo c now).2.length ≤ 8 ∧ Plain2 (expireCo c now).2 := by
  unfold expireCo
  split
  · simp [nil_pl]
  · rename_i h
    simp only [not_or, ne_eq, Decidable.not_not] at h
    have hn := checkCo_nodes h.1
    simp [giveUpCo, msgsTo_length, msgsTo_pl]; omega
end Sx
namespace Go.Proofs.Ytoechplbhbalaaa
set_option maxRecDepth 100000
set_option maxHeartbeats 0
def spB1 (x : CoD × Int × Int) : SpecR := .scalar [x.1.d.Is Int ∧ x.1.s.Is Bool] (.lb true)
def spB3 (x : CoD × Int × MsgD) : SpecR := .scalar [x.1.d.Is Int ∧ x.1.s.Is Bool] (.lb true)

def spB2 (x : MbD × MsgD × Int × Int) : SpecR := .scalar [x.1.w.Is Int ∧ x.1.h.Is Int] (.lb true)

theorem lawStarts : Law Try.prog 3 ((rdCo.three rdInt rdInt).sp spB1) := by
  refine law_in _ (by kernel_rfl) fun H w ⟨⟨n, r, p, dl, d, s, v⟩, now, pat⟩ hok hp => ?_
  obtain ⟨hd, hs⟩ := hp _ (List.mem_singleton.2 rfl)
  simp only at hd hs
  apply exec_sound ctLOk 400
  rw [show (rdCo.three rdInt rdInt).canon (⟨n, r, p, dl, d, s, v⟩, now, pat) = [.agg [.int .i64 n, .int .i64 r, .int .i64 p, .int .i64 dl, .dat d, .dat s, .bool v], .int .i64 now, .int .i64 pat] from rfl, starts_in]
  refine ⟨fun hl1 => ⟨fun hl2 => ⟨fun _ => ⟨fun h => (by cases h), fun _ => ?_⟩, fun h => (by cases h)⟩, fun _ => ret_lbt⟩, fun _ => ret_lbt⟩
  have l1 : (d.to Int).length ≤ 20 := by have := of_decide_eq_true hl1; rw [D.Is.length (α := Int)] at this; omega
  have h1 := startCo_len (CoD.mk n r p dl d s v).co now pat
  have h2 := newCo_len pat
  have h3 := resultCo_len (CoD.mk n r p dl d s v).co
  have h4 : (CoD.mk n r p dl d s v).co.positions.length ≤ 20 := l1
  have a1 : (startCo (CoD.mk n r p dl d s v).co now pat).1.positions.length ≤ 1048576 := by omega
  have a2 : (startCo (CoD.mk n r p dl d s v).co now pat).1.seen.length ≤ 1048576 := by omega
  have a3 : (startCo (CoD.mk n r p dl d s v).co now pat).2.1.length ≤ 1048576 := by omega
  have a4 : ∀ m : Msg, List.Mem m (startCo (CoD.mk n r p dl d s v).co now pat).2.1 → m.values = [] ∧ m.body = [] := h1.2.2.2
  have a5 : (newCo pat).1.positions.length ≤ 1048576 := by omega
  have a6 : (newCo pat).1.seen.length ≤ 1048576 := by omega
  have a7 : (resultCo (CoD.mk n r p dl d s v).co).1.length ≤ 1048576 := by omega
  clear h1 h2 h3 h4 hok hp hl1 hl2
  simp [hd, hs, D.like_is, co_like, D.like_to, like_len, ret_sure, a1, a2, a3, a5, a6, a7]
  exact a4

theorem lawObeys : Law Try.prog 4 ((rdMb.two rdCall).sp spB2) := by
  refine law_in _ (by kernel_rfl) fun H w ⟨⟨r, p, t, i, f, u, wt, hd⟩, ⟨⟨mk, mf, mto, mn, mv, me, ml, mb⟩, now, pat⟩⟩ hok hp => ?_
  obtain ⟨hw, hh⟩ := hp _ (List.mem_singleton.2 rfl)
  simp only at hw hh
  apply exec_sound ctLOk 400
  rw [show (rdMb.two rdCall).canon (⟨r, p, t, i, f, u, wt, hd⟩, ⟨mk, mf, mto, mn, mv, me, ml, mb⟩, now, pat) = [.agg [.int .i64 r, .int .i64 p, .int .i64 t, .int .i64 i, .bool f, .int .i64 u, .dat wt, .dat hd], .agg [.int .i64 mk, .int .i64 mf, .int .i64 mto, .int .i64 mn, .int .i64 mv, .int .i64 me, .dat ml, .dat mb, .int .i64 now, .int .i64 pat]] from rfl, obeys_in]
  refine ⟨fun _ => ⟨fun _ => ⟨fun hl1 => ⟨fun _ => ret_lbt, fun hl2 => ⟨fun _ => ret_lbt, fun _ => ⟨fun _ => ret_lbt, fun _ => ?_⟩⟩⟩, fun _ => ret_lbt⟩, fun _ => ret_lbt⟩, fun _ => ret_lbt⟩
  have l1 : (wt.to Int).length ≤ 30 := by have := of_decide_eq_true hl1; rw [D.Is.length (α := Int)] at this; omega
  have l2 : (hd.to Int).length ≤ 30 := by simp only [Bool.not_eq_false'] at hl2; have := of_decide_eq_true hl2; rw [D.Is.length (α := Int)] at this; omega
  have k1 := D.Is.length (α := Int) wt
  have k2 := D.Is.length (α := Int) hd
  have hR : (MbD.mk r p t i f u wt hd).Right := ⟨hw, hh, by simp only; omega, by simp only; omega⟩
  obtain ⟨h1, h2, h3, h4, h5⟩ := obeyMb_len (MbD.mk r p t i f u wt hd).mb now pat (MsgD.mk mk mf mto mn mv me ml mb).msg
  have h6 : (MbD.mk r p t i f u wt hd).mb.waiting.length ≤ 30 := l1
  have h7 : (MbD.mk r p t i f u wt hd).mb.held.length ≤ 30 := l2
  have a1 : (obeyMb (MbD.mk r p t i f u wt hd).mb now pat (MsgD.mk mk mf mto mn mv me ml mb).msg).1.waiting.length ≤ 1048575 := by omega
  have a2 : (obeyMb (MbD.mk r p t i f u wt hd).mb now pat (MsgD.mk mk mf mto mn mv me ml mb).msg).1.held.length ≤ 1048575 := by omega
  have a3 : (obeyMb (MbD.mk r p t i f u wt hd).mb now pat (MsgD.mk mk mf mto mn mv me ml mb).msg).2.1.length ≤ 1048576 := by omega
  have a4 : (obeyMb (MbD.mk r p t i f u wt hd).mb now pat (MsgD.mk mk mf mto mn mv me ml mb).msg).2.2.length ≤ 1048576 := by omega
  have a5 : ∀ m : Msg, List.Mem m (obeyMb (MbD.mk r p t i f u wt hd).mb now pat (MsgD.mk mk mf mto mn mv me ml mb).msg).2.2 → m.values = [] ∧ m.body = [] := h5
  clear h1 h2 h3 h4 h5 h6 h7 hok hp hl1 hl2 l1 l2 k1 k2
  simp [hR, D.like_is, mb_like, right_like, D.like_to, like_len, ret_lbt, a1, a2, a3, a4]
  exact a5

theorem lawCollects : Law Try.prog 5 ((rdCo.three rdInt rdMsg).sp spB3) := by
  refine law_in _ (by kernel_rfl) fun H w ⟨⟨n, r, p, dl, d, s, v⟩, now, ⟨mk, mf, mto, mn, mv, me, ml, mb⟩⟩ hok hp => ?_
  obtain ⟨hd, hs⟩ := hp _ (List.mem_singleton.2 rfl)
  simp only at hd hs
  apply exec_sound ctLOk 400
  rw [show (rdCo.three rdInt rdMsg).canon (⟨n, r, p, dl, d, s, v⟩, now, ⟨mk, mf, mto, mn, mv, me, ml, mb⟩) = [.agg [.int .i64 n, .int .i64 r, .int .i64 p, .int .i64 dl, .dat d, .dat s, .bool v], .int .i64 now, .agg [.int .i64 mk, .int .i64 mf, .int .i64 mto, .int .i64 mn, .int .i64 mv, .int .i64 me, .dat ml, .dat mb]] from rfl, collects_in]
  refine ⟨fun hl1 => ⟨fun hl2 => ⟨fun _ => ⟨fun _ => ret_lbt, fun _ => ⟨fun _ => ret_lbt, fun _ => ⟨fun _ => ret_lbt, fun _ => ?_⟩⟩⟩, fun _ => ret_lbt⟩, fun _ => ret_lbt⟩, fun _ => ret_lbt⟩
  have l1 : (d.to Int).length ≤ 20 := by have := of_decide_eq_true hl1; rw [D.Is.length (α := Int)] at this; omega
  have l2 : (s.to Bool).length ≤ 20 := by have := of_decide_eq_true hl2; rw [D.Is.length (α := Bool)] at this; omega
  obtain ⟨h1, h2, h3, h4⟩ := collectCo_len (CoD.mk n r p dl d s v).co now (MsgD.mk mk mf mto mn mv me ml mb).msg
  obtain ⟨g1, g2, g3, g4⟩ := expireCo_len (CoD.mk n r p dl d s v).co now
  have h6 : (CoD.mk n r p dl d s v).co.positions.length ≤ 20 := l1
  have h7 : (CoD.mk n r p dl d s v).co.seen.length ≤ 20 := l2
  have a1 : (collectCo (CoD.mk n r p dl d s v).co now (MsgD.mk mk mf mto mn mv me ml mb).msg).1.positions.length ≤ 1048576 := by omega
  have a2 : (collectCo (CoD.mk n r p dl d s v).co now (MsgD.mk mk mf mto mn mv me ml mb).msg).1.seen.length ≤ 1048576 := by omega
  have a3 : (collectCo (CoD.mk n r p dl d s v).co now (MsgD.mk mk mf mto mn mv me ml mb).msg).2.length ≤ 1048576 := by omega
  have a4 : ∀ m : Msg, List.Mem m (collectCo (CoD.mk n r p dl d s v).co now (MsgD.mk mk mf mto mn mv me ml mb).msg).2 → m.values = [] ∧ m.body = [] := h4
  have b1 : (expireCo (CoD.mk n r p dl d s v).co now).1.positions.length ≤ 1048576 := by omega
  have b2 : (expireCo (CoD.mk n r p dl d s v).co now).1.seen.length ≤ 1048576 := by omega
  have b3 : (expireCo (CoD.mk n r p dl d s v).co now).2.length ≤ 1048576 := by omega
  have b4 : ∀ m : Msg, List.Mem m (expireCo (CoD.mk n r p dl d s v).co now).2 → m.values = [] ∧ m.body = [] := g4
  clear h1 h2 h3 h4 g1 g2 g3 g4 h6 h7 hok hp hl1 hl2 l1 l2
  simp [hd, hs, D.like_is, co_like, D.like_to, like_len, ret_lbt, a1, a2, a3, b1, b2, b3]
  exact ⟨a4, b4⟩
end Go.Proofs.Ytoechplbhbalaaa
end
section
/- slices.Delete on numbers of one's own, as a contract. -/
namespace Sx
open Go RowKit Go.Sort

/-- What the library's function does with a row of numbers. -/
def Deletes (P : Program) (f : FuncId) : Prop := ∀ (blk cap i j : Nat) (zs : List Int) (w : World), Holds (Value.int .i64) w blk 0 zs.toArray → zs.length ≤ cap → cap ≤ 9223372036854775807 → i ≤ j → j ≤ zs.length →
  Calls P f #[.slice (some ⟨blk, 0, none⟩) zs.length cap, .int .i64 i, .int .i64 j] w fun e w' => e = .returned (.slice (some ⟨blk, 0, none⟩) (zs.length - (j - i)) cap) ∧ ∃ q, w' = putRow (Value.int .i64) (Sort.ahead w q) blk 0 (zs.take i ++ zs.drop j ++ List.replicate (j - i) 0).toArray

def dCtr (e : TypeId) : Ctr := fun args key m => match args with
  | [.vec k, .int .i64 i, .int .i64 j] => match m.get k with
    | some (.arr e' d) => if e' = e then .all [d.Is Int ∧ 0 ≤ i ∧ i < j ∧ j ≤ (d.len : Int)] fun _ => (.vec key, (key, .arr e (.slc d.hd d.sz (d.rows.take i.toNat ++ d.rows.drop j.toNat))) :: m.del k) else .bad
    | _ => .bad
  | _ => .bad

theorem roM_arr : ∀ {m : Mem} {k : Nat} {e : TypeId} {d : D}, roM m = true → m.get k = some (.arr e d) → False
  | [], _, _, _, _, h => by simp [Mem.get] at h
  | (j, o) :: r, k, e, d, h, hg => by
    simp only [Mem.get] at hg
    split at hg
    · cases hg; simp [roM] at h
    · cases o <;> simp [roM] at h
      · exact roM_arr h hg
      · exact roM_arr h hg

theorem dCtr_ro (e : TypeId) : CtrRO (dCtr e) := by
  intro args key m h
  have hb : dCtr e args key m = .bad := by
    unfold dCtr
    split
    · split
      · rename_i hg
        exact (roM_arr h hg).elim
      · rfl
    · rfl
  rw [hb]
  trivial

theorem int_rows {d : D} (h : d.Is Int) : ∀ r, r ∈ d.rows → ∃ n : Int, r = [.int .i64 n] := (rows_of h).1

theorem flat_ints : ∀ {rows : List (List D)} {zs : List Int}, SRows Int rows zs → flat rows = zs.map (Value.int .i64)
  | [], zs, h => by rw [← h.2]; rfl
  | r :: rs, zs, h => by
    obtain ⟨n, rfl⟩ := h.1 r List.mem_cons_self
    have ih := flat_ints (rows := rs) (zs := rs.map (Codec.dec (α := Int))) ⟨fun r hr => h.1 r (List.mem_cons_of_mem _ hr), rfl⟩
    rw [← h.2, List.map_cons, List.map_cons, ← ih]
    rfl

theorem rows_take {α : Type} [Codec α] {rows : List (List D)} {xs : List α} (h : SRows α rows xs) (i : Nat) : SRows α (rows.take i) (xs.take i) :=
  ⟨fun r hr => h.1 r (List.mem_of_mem_take hr), by rw [List.map_take, h.2]⟩
theorem rows_drop {α : Type} [Codec α] {rows : List (List D)} {xs : List α} (h : SRows α rows xs) (i : Nat) : SRows α (rows.drop i) (xs.drop i) :=
  ⟨fun r hr => h.1 r (List.mem_of_mem_drop hr), by rw [List.map_drop, h.2]⟩
theorem rows_zero (n : Nat) : SRows Int (List.replicate n [D.int .i64 0]) (List.replicate n 0) :=
  ⟨fun r hr => by rw [List.eq_of_mem_replicate hr]; exact ⟨0, rfl⟩, by simp [List.map_replicate, Codec.dec, D.getInt]⟩

theorem int_okH {H : HV} {rows : List (List D)} {zs : List Int} (h : SRows Int rows zs) : ∀ r, r ∈ rows → ∀ x, x ∈ r → D.Ok H x := by
  intro r hr x hx
  obtain ⟨n, rfl⟩ := h.1 r hr
  rw [List.mem_singleton.1 hx]
  exact .int _ _
theorem int_len1 {rows : List (List D)} {zs : List Int} (h : SRows Int rows zs) : ∀ r, r ∈ rows → r.length = 1 := by
  intro r hr
  obtain ⟨n, rfl⟩ := h.1 r hr
  rfl

theorem putCells_take {cur : Array Value} {zs : List Int} (h : zs.length ≤ cur.size) : (putCells (Value.int .i64) 0 zs.toArray cur).toList.take zs.length = zs.map (Value.int .i64) := by
  apply List.ext_getElem?
  intro k
  rw [List.getElem?_take]
  by_cases hk : k < zs.length
  · rw [if_pos hk]
    have hk2 : k < (putCells (Value.int .i64) 0 zs.toArray cur).toList.length := by simp [putCells]; omega
    rw [List.getElem?_eq_getElem hk2]
    simp [putCells, hk]
  · rw [if_neg hk, List.getElem?_eq_none (by simp; omega)]

theorem dCtr_ok {P : Program} {f : FuncId} {e : TypeId} (hb : ∃ fn, P.funcs[f]? = some fn ∧ fn.body.isSome = true ∧ (fn.name == "runtime.NumGoroutine") = false) (hd : Deletes P f) : CtrOk P f (dCtr e) := by
  refine ⟨hb, fun C E H w args key m g hargs hk hk2 => ?_, dCtr_ro e⟩
  unfold CallRight dCtr
  split
  · rename_i r v m2 heq
    split at heq
    · split at heq
      · split at heq <;> cases heq
      · cases heq
    · cases heq
  · rename_i r ps gg heq
    split at heq
    · rename_i k i j
      split at heq
      · rename_i e' d hkk
        split at heq
        · rename_i he
          subst he
          cases heq
          intro hp
          obtain ⟨h0, h1, h2, h3⟩ := hp _ (List.mem_singleton.2 rfl)
          have hmem := Mem.get_mem hkk
          have hown := g.own k _ hmem
          obtain ⟨hd', sz, rows, rfl, hv, how, hl, hk3, ha⟩ := hown
          have hR := rows_of h0
          simp only [D.rows] at hR
          generalize hzs : D.to Int (D.slc hd' sz rows) = zs at hR
          have hrl := rows_len hR
          simp only [D.len, D.rows] at h3
          have hsz : sz = 1 := by
            have h4 : 0 < rows.length := by omega
            have := hl rows[0] (List.getElem_mem h4)
            rw [int_len1 hR _ (List.getElem_mem h4)] at this
            exact this.symm
          subst hsz
          rcases how with ⟨hfl, hcase⟩
          rcases hcase with ⟨hq, h4⟩ | ⟨g', cap, cur, hq, hbase, hg, hnc, hcm, hcs, htake⟩
          · omega
          · cases hd' with
            | none => simp [D.val, hval] at hq
            | some ac =>
              obtain ⟨a, c⟩ := ac
              obtain ⟨rfl, hno⟩ := ha a c rfl
              simp only [D.val, hval, Value.slice.injEq, Option.some.injEq, Addr.mk.injEq] at hq
              obtain ⟨⟨hgb, _, _⟩, _, rfl⟩ := hq
              subst hgb
              rw [flat_ints hR, Nat.mul_one] at htake
              rw [Nat.mul_one] at hcs
              have hH : Holds (Value.int .i64) w (E.b k) 0 zs.toArray := by
                intro t ht
                simp only [List.size_toArray] at ht
                constructor
                · simp only [World.cell?, hg, Nat.zero_add]
                  have h5 : cur[t]? = (zs.map (Value.int .i64))[t]? := by
                    rw [← htake, List.getElem?_take, if_pos (by omega), Array.getElem?_toList]
                  simp [h5, ht]
                · simp [World.frozen?, hg]
              obtain ⟨i', rfl⟩ := Int.eq_ofNat_of_zero_le h1
              obtain ⟨j', rfl⟩ := Int.eq_ofNat_of_zero_le (show 0 ≤ j by omega)
              have hcall := hd (E.b k) c i' j' zs w hH (by omega) (by simp only [maxLen] at hcm; omega) (by omega) (by omega)
              have hargs' : (SV.denL E [.vec k, .int .i64 (i' : Int), .int .i64 (j' : Int)]).toArray = #[.slice (some ⟨E.b k, 0, none⟩) zs.length c, .int .i64 i', .int .i64 j'] := by
                simp [SV.denL, SV.den, hv, hval, hrl]
              simp only [Int.toNat_natCast]
              rw [hargs']
              refine hcall.mono ?_
              rintro ev w' ⟨rfl, q, hw'⟩
              -- the rows behind the call
              generalize hzs' : (zs.take i' ++ zs.drop j' ++ List.replicate (j' - i') 0) = zs' at hw'
              have hzl : zs'.length = zs.length := by rw [← hzs']; simp; omega
              have hR' : SRows Int (rows.take i' ++ rows.drop j' ++ List.replicate (j' - i') [D.int .i64 0]) zs' := by
                rw [← hzs']
                exact rows_app (rows_app (rows_take hR i') (rows_drop hR j')) (rows_zero _)
              have hheap : w'.heap[E.b k]? = some (.cells (putCells (Value.int .i64) 0 zs'.toArray cur) e' (0, 0)) := by
                rw [hw']; simp [putRow, mapBlock, Sort.ahead, Array.getElem?_modify, hg, onCells]
              have hother : ∀ b, b ≠ E.b k → w'.heap[b]? = w.heap[b]? := by
                intro b hb
                rw [hw']; simp [putRow, mapBlock, Sort.ahead, Array.getElem?_modify, Ne.symm hb]
              have hsize : w'.heap.size = w.heap.size := by rw [hw']; simp [putRow, mapBlock, Sort.ahead]
              have hos : w'.os = w.os := by rw [hw']; rfl
              have htp : w'.tape = w.tape := by rw [hw']; rfl
              have hou : w'.output = w.output := by rw [hw']; rfl
              have hrow' := hR'
              have hcs' : (putCells (Value.int .i64) 0 zs'.toArray cur).size = c := by simp [putCells, hcs]
              have g1 : Good C (m.set k (.arr e' (.slc (some (⟨E.b k, 0, none⟩, c)) 1 (rows.take i' ++ rows.drop j' ++ List.replicate (j' - i') [D.int .i64 0])))) E H w' := by
                refine g.put hkk hother hos htp hou hsize (by simp [OBlk.Lies, D.hd]) ?_
                refine ⟨some (⟨E.b k, 0, none⟩, c), 1, _, rfl, by rw [hv]; simp; omega, ?_, int_len1 hR', int_okH hR', fun a c' h => by cases h; exact ⟨rfl, hno⟩⟩
                refine ⟨by rw [flat_ints hR', List.length_map, rows_len hR', Nat.mul_one], .inr ⟨E.b k, c, _, by simp [D.val, hval], hbase, hheap, by rw [rows_len hR', hzl]; omega, hcm, by rw [hcs', Nat.mul_one], ?_⟩⟩
                rw [flat_ints hR', rows_len hR', Nat.mul_one]
                exact putCells_take (by rw [hzl, hcs]; omega)
              have hspec := Mem.set_spec (o' := .arr e' (.slc (some (⟨E.b k, 0, none⟩, c)) 1 (rows.take i' ++ rows.drop j' ++ List.replicate (j' - i') [D.int .i64 0]))) g.keys hkk
              have hdel := fun j p => Mem.del_ne (j := j) (p := p) g.keys hmem
              have g2 : Good C (m.del k) E H w' := by
                refine ⟨g1.below, g1.ext, g1.fresh, g1.cell, fun j o hj => ?_, (g.sub (m.del_sub k)).keys, (g.sub (m.del_sub k)).apart⟩
                have h5 := g.own j o (Mem.del_mem hj)
                refine h5.keep (fun hl2 => hother _ ?_)
                exact g.apart (j, o) (k, _) (Mem.del_mem hj) hmem (hdel j o hj) hl2 (by simp [OBlk.Lies, D.hd])
              have hRn : SRows Int (rows.take i' ++ rows.drop j') (zs.take i' ++ zs.drop j') := rows_app (rows_take hR i') (rows_drop hR j')
              have hln : (rows.take i' ++ rows.drop j').length = zs.length - (j' - i') := by rw [rows_len hRn]; simp; omega
              have hka := E.agree_setV key (E.b k) (some (⟨E.b k, 0, none⟩, c), (rows.take i' ++ rows.drop j').length)
              have hbE : (E.setV key (E.b k) (some (⟨E.b k, 0, none⟩, c), (rows.take i' ++ rows.drop j').length)).b key = E.b k := by simp [Env.setV]
              have hvE : (E.setV key (E.b k) (some (⟨E.b k, 0, none⟩, c), (rows.take i' ++ rows.drop j').length)).v key = (some (⟨E.b k, 0, none⟩, c), (rows.take i' ++ rows.drop j').length) := by simp [Env.setV]
              have g3 : Good C ((key, .arr e' (.slc (some (⟨E.b k, 0, none⟩, c)) 1 (rows.take i' ++ rows.drop j'))) :: m.del k) (E.setV key (E.b k) (some (⟨E.b k, 0, none⟩, c), (rows.take i' ++ rows.drop j').length)) H w' := by
                refine g2.cons (Mem.has_del hk) hka (Below.refl _ _) ?_ (fun _ j p hj hlp => ?_)
                · refine ⟨some (⟨E.b k, 0, none⟩, c), 1, _, rfl, by rw [hvE], ?_, int_len1 hRn, int_okH hRn, fun a c' h => by cases h; rw [hbE]; exact ⟨rfl, hno⟩⟩
                  refine ⟨by rw [flat_ints hRn, List.length_map, rows_len hRn, Nat.mul_one], .inr ⟨E.b k, c, _, by simp [D.val, hval], hbase, hheap, by rw [hln]; omega, hcm, by rw [hcs', Nat.mul_one], ?_⟩⟩
                  have h6 := putCells_take (cur := cur) (zs := zs') (by rw [hzl, hcs]; omega)
                  rw [Nat.mul_one, hln, flat_ints hRn]
                  have h7 := congrArg (List.take (zs.length - (j' - i'))) h6
                  rw [List.take_take, Nat.min_eq_left (by omega)] at h7
                  rw [h7, ← List.map_take, ← hzs', List.take_append_of_le_length (by simp; omega), List.take_of_length_le (by simp; omega)]
                · rw [hbE]
                  exact (g.apart (j, p) (k, _) (Mem.del_mem hj) hmem (hdel j p hj) hlp (by simp [OBlk.Lies, D.hd])).symm
              refine ⟨fun _ => .bool false, _, H, ?_, hka, HLe.refl _, g3, by simp [SV.Ok], ?_⟩
              · have hden : (SV.vec key).den (E.setV key (E.b k) (some (⟨E.b k, 0, none⟩, c), (rows.take i' ++ rows.drop j').length)) = .slice (some ⟨E.b k, 0, none⟩) (zs.length - (j' - i')) c := by
                  simp only [SV.den, hvE, hval]
                  rw [hln]
                exact congrArg _ hden.symm
              · refine ⟨by rw [hsize]; exact Nat.le_refl _, fun b hb hno' => hother b (fun e1 => hno' k _ hmem (by simp [OBlk.Lies, D.hd]) e1.symm), fun _ _ _ h => .inl h, fun q o hq => ?_, fun q o hq hl2 => ?_, hos, htp, hou⟩
                · rcases List.mem_cons.1 hq with hq | hq
                  · exact .inl (congrArg Prod.fst hq)
                  · exact .inr ⟨o, Mem.del_mem hq⟩
                · rcases List.mem_cons.1 hq with hq | hq
                  · have e1 : q = key := congrArg Prod.fst hq
                    subst e1
                    rw [hbE]; exact .inr ⟨k, _, hmem, by simp [OBlk.Lies, D.hd], rfl⟩
                  · refine .inr ⟨q, o, Mem.del_mem hq, hl2, ?_⟩
                    exact (hka.1 q (Mem.has_key hk _ (Mem.del_mem hq)).1).1
        · cases heq
      · cases heq
    · cases heq
  · trivial
end Sx
end
section
/- Layer 21: the library's Delete at its numbers. -/
open Go Go.Proofs Go.Shelf Sx
namespace Go.Proofs.Ytoechplbhbalaaa
def ren74 : Ren := ⟨fun | 23 => 74 | n => n, fun n => n, fun n => n⟩
theorem lays74 : Lays2.n23 Try.prog ren74 where
  mixed := by kernel_rfl
  f23 := Try.func74.trans (congrArg some (by kernel_rfl))
  t0 := Try.underlying0
  a0 := Try.isAgg0
  z0 := Try.sizeOf0
  v0 := Try.zeroValue0
  t3 := Try.underlying3
  a3 := Try.isAgg3
  z3 := Try.sizeOf3
  v3 := Try.zeroValue3
  t4 := Try.underlying4
  a4 := Try.isAgg4
  z4 := Try.sizeOf4
  v4 := Try.zeroValue4
  t22 := Try.underlying22
  a22 := Try.isAgg22
  z22 := Try.sizeOf22
  v22 := Try.zeroValue22
  i3 := by kernel_rfl

theorem del74 : Deletes Try.prog 74 := fun blk cap i j zs w hH hc hm hij hj => Any.slices_Delete_int lays74 blk 0 cap i j zs w hH hc hm hij hj
theorem ctr74 : CtrOk Try.prog 74 (dCtr 3) := dCtr_ok (bodied_spec (by kernel_rfl)) del74
end Go.Proofs.Ytoechplbhbalaaa
end
section
/- Layer 21: what Durable and Release compute; their contracts. -/
open Go
namespace Sx
def noMb : Mb := ⟨0, 0, 0, 0, false, 0, [], []⟩
def durMb (m : Mb) (x : Int) : Mb × List Int × Int :=
  if checkMb m ≠ 0 then (noMb, [], 3)
  else if m.waiting.contains x = false then (noMb, [], 7)
  else if m.frozen = true then ({ m with waiting := m.waiting.filter fun y => y != x, held := m.held ++ [x] }, [], 0)
  else ({ m with waiting := m.waiting.filter fun y => y != x }, [x], 0)
def relMb (m : Mb) (now : Int) : Mb × List Int := if checkMb m ≠ 0 ∨ m.frozen = false ∨ m.upto > now then (m, []) else thawMb m
noncomputable def spDur (x : MbD × Int) : SpecR := .data [x.1.Right] fun ds =>
  .tup [mbSV (ds 0) (ds 1) (durMb x.1.mb x.2).1, .dat ((ds 2).like (durMb x.1.mb x.2).2.1), .int .i64 (durMb x.1.mb x.2).2.2]
noncomputable def spRls (x : MbD × Int) : SpecR := .data [x.1.Right] fun ds => .tup [mbSV (ds 0) (ds 1) (relMb x.1.mb x.2).1, .dat ((ds 2).like (relMb x.1.mb x.2).2)]
noncomputable def ctD : Ctrs := (74, dCtr 3) :: (71, ctrOf ((rdD.two rdInt).sp spIdx21)) :: ctM
end Sx
end
section
/- Layer 21: Durable, Release, walked. -/
open Go Go.Proofs Sx
namespace Go.Proofs.Ytoechplbhbalaaa
set_option maxRecDepth 100000
set_option maxHeartbeats 0
section
variable (n j now write : Int) (a b d s wt hd : D) (frozen : Bool) (mr mp mt mi mu : Int)
theorem rel1_in : exec Try.prog ctD 600 (entry Try.prog 42 [.agg [.int .i64 mr, .int .i64 mp, .int .i64 mt, .int .i64 mi, .bool frozen, .int .i64 mu, .dat wt, .dat hd], .int .i64 now]) =
  Tree.need (MbD.Right (MbD.mk mr mp mt mi frozen mu wt hd))
    (Tree.br (checkMb (MbD.mb (MbD.mk mr mp mt mi frozen mu wt hd)) != 0)
      (Tree.ret
        (SV.tup
          [SV.agg
              [SV.int IntKind.i64 mr, SV.int IntKind.i64 mp, SV.int IntKind.i64 mt, SV.int IntKind.i64 mi, SV.bool frozen,
                SV.int IntKind.i64 mu, SV.dat wt, SV.dat hd],
            SV.nils]))
      (Tree.br (!frozen)
        (Tree.ret
          (SV.tup
            [SV.agg
                [SV.int IntKind.i64 mr, SV.int IntKind.i64 mp, SV.int IntKind.i64 mt, SV.int IntKind.i64 mi,
                  SV.bool frozen, SV.int IntKind.i64 mu, SV.dat wt, SV.dat hd],
              SV.nils]))
        (Tree.br (decide (mu > now))
          (Tree.ret
            (SV.tup
              [SV.agg
                  [SV.int IntKind.i64 mr, SV.int IntKind.i64 mp, SV.int IntKind.i64 mt, SV.int IntKind.i64 mi,
                    SV.bool frozen, SV.int IntKind.i64 mu, SV.dat wt, SV.dat hd],
                SV.nils]))
          (Tree.need (D.Is Int hd ∧ D.len hd ≤ 1048576)
            (Tree.all fun hs =>
              Tree.all fun hs_1 =>
                Tree.ret
                  (SV.tup
                    [SV.agg
                        [SV.int IntKind.i64 mr, SV.int IntKind.i64 mp, SV.int IntKind.i64 mt, SV.int IntKind.i64 mi,
                          SV.lb false, SV.int IntKind.i64 mu, SV.dat wt, SV.nils],
                      SV.dat (D.slc (D.hd (hs 0 0)) 1 (D.rows hd))])))))) := by kernel_rfl

theorem rel2_in : exec Try.prog ctD 600 (entry Try.prog 43 [.agg [.int .i64 mr, .int .i64 mp, .int .i64 mt, .int .i64 mi, .bool frozen, .int .i64 mu, .dat wt, .dat hd], .int .i64 now]) =
  Tree.need (MbD.Right (MbD.mk mr mp mt mi frozen mu wt hd))
    (Tree.br (checkMb (MbD.mb (MbD.mk mr mp mt mi frozen mu wt hd)) != 0)
      (Tree.ret
        (SV.tup
          [SV.agg
              [SV.int IntKind.i64 mr, SV.int IntKind.i64 mp, SV.int IntKind.i64 mt, SV.int IntKind.i64 mi, SV.bool frozen,
                SV.int IntKind.i64 mu, SV.dat wt, SV.dat hd],
            SV.nils]))
      (Tree.br (!frozen)
        (Tree.ret
          (SV.tup
            [SV.agg
                [SV.int IntKind.i64 mr, SV.int IntKind.i64 mp, SV.int IntKind.i64 mt, SV.int IntKind.i64 mi,
                  SV.bool frozen, SV.int IntKind.i64 mu, SV.dat wt, SV.dat hd],
              SV.nils]))
        (Tree.br (decide (mu > now))
          (Tree.ret
            (SV.tup
              [SV.agg
                  [SV.int IntKind.i64 mr, SV.int IntKind.i64 mp, SV.int IntKind.i64 mt, SV.int IntKind.i64 mi,
                    SV.bool frozen, SV.int IntKind.i64 mu, SV.dat wt, SV.dat hd],
                SV.nils]))
          (Tree.need (MbD.Right (MbD.mk mr mp mt mi frozen mu wt hd))
            (Tree.all fun hs =>
              Tree.ret
                (SV.tup
                  [SV.agg
                      [SV.int IntKind.i64 mr, SV.int IntKind.i64 mp, SV.int IntKind.i64 mt, SV.int IntKind.i64 mi,
                        SV.bool false, SV.int IntKind.i64 mu, SV.dat (D.like (hs 0 0) (D.to Int wt)),
                        SV.dat (D.like (hs 0 1) ([] : List Int))],
                    SV.dat (D.like (hs 0 2) (D.to Int hd))])))))) := by kernel_rfl

theorem dur1_in : exec Try.prog ctD 600 (entry Try.prog 40 [.agg [.int .i64 mr, .int .i64 mp, .int .i64 mt, .int .i64 mi, .bool frozen, .int .i64 mu, .dat wt, .dat hd], .int .i64 write]) =
  Tree.need (MbD.Right (MbD.mk mr mp mt mi frozen mu wt hd))
    (Tree.br (checkMb (MbD.mb (MbD.mk mr mp mt mi frozen mu wt hd)) != 0)
      (Tree.ret
        (SV.tup
          [SV.agg
              [SV.int IntKind.i64 0, SV.int IntKind.i64 0, SV.int IntKind.i64 0, SV.int IntKind.i64 0, SV.lb false,
                SV.int IntKind.i64 0, SV.nils, SV.nils],
            SV.nils, SV.int IntKind.i64 (checkMb (MbD.mb (MbD.mk mr mp mt mi frozen mu wt hd)))]))
      (Tree.need (D.Is Int wt ∧ D.len wt ≤ 1048576)
        (Tree.br (decide ((idxP (D.to Int wt) fun y => decide (write = y)) < 0))
          (Tree.ret
            (SV.tup
              [SV.agg
                  [SV.int IntKind.i64 0, SV.int IntKind.i64 0, SV.int IntKind.i64 0, SV.int IntKind.i64 0, SV.lb false,
                    SV.int IntKind.i64 0, SV.nils, SV.nils],
                SV.nils, SV.int IntKind.i64 7]))
          (Tree.need (D.Is Int wt ∧ D.len wt ≤ 1048576)
            (Tree.all fun hs =>
              Tree.need
                (D.Is Int (D.slc (D.hd (hs 0 0)) 1 (D.rows wt)) ∧
                  (0 ≤ idxP (D.to Int wt) fun y => decide (write = y)) ∧
                    (idxP (D.to Int wt) fun y => decide (write = y)) <
                        IntKind.wrap IntKind.i64 ((idxP (D.to Int wt) fun y => decide (write = y)) + 1) ∧
                      IntKind.wrap IntKind.i64 ((idxP (D.to Int wt) fun y => decide (write = y)) + 1) ≤
                        (↑(D.len (D.slc (D.hd (hs 0 0)) 1 (D.rows wt))) : Int))
                (Tree.all fun hs_1 =>
                  Tree.br (!frozen)
                    (Tree.all fun hs_2 =>
                      Tree.ret
                        (SV.tup
                          [SV.agg
                              [SV.int IntKind.i64 mr, SV.int IntKind.i64 mp, SV.int IntKind.i64 mt, SV.int IntKind.i64 mi,
                                SV.bool frozen, SV.int IntKind.i64 mu,
                                SV.dat
                                  (D.slc (D.hd (D.slc (D.hd (hs 0 0)) 1 (D.rows wt)))
                                    (D.sz (D.slc (D.hd (hs 0 0)) 1 (D.rows wt)))
                                    (List.append
                                      (List.take (Int.toNat (idxP (D.to Int wt) fun y => decide (write = y)))
                                        (D.rows (D.slc (D.hd (hs 0 0)) 1 (D.rows wt))))
                                      (List.drop
                                        (Int.toNat
                                          (IntKind.wrap IntKind.i64
                                            ((idxP (D.to Int wt) fun y => decide (write = y)) + 1)))
                                        (D.rows (D.slc (D.hd (hs 0 0)) 1 (D.rows wt)))))),
                                SV.dat hd],
                            SV.dat (D.slc (D.hd (hs_2 0 0)) 1 [[D.int IntKind.i64 write]]), SV.int IntKind.i64 0]))
                    (Tree.need (D.Is Int hd ∧ D.len hd ≤ 1048576)
                      (Tree.all fun hs_2 =>
                        Tree.all fun hs_3 =>
                          Tree.need
                            (D.sz (D.slc (D.hd (hs_2 0 0)) 1 (D.rows hd)) = 1 ∧
                              D.Fits (D.slc (D.hd (hs_3 0 0)) 1 [[D.int IntKind.i64 write]]) 1 ∧
                                (D.len (D.slc (D.hd (hs_2 0 0)) 1 (D.rows hd)) +
                                        D.len (D.slc (D.hd (hs_3 0 0)) 1 [[D.int IntKind.i64 write]])) *
                                      8 ≤
                                    140737488355328 ∧
                                  D.len (D.slc (D.hd (hs_2 0 0)) 1 (D.rows hd)) +
                                      D.len (D.slc (D.hd (hs_3 0 0)) 1 [[D.int IntKind.i64 write]]) ≤
                                    9223372036854775807)
                            (Tree.all fun hs_4 =>
                              Tree.ret
                                (SV.tup
                                  [SV.agg
                                      [SV.int IntKind.i64 mr, SV.int IntKind.i64 mp, SV.int IntKind.i64 mt,
                                        SV.int IntKind.i64 mi, SV.bool frozen, SV.int IntKind.i64 mu,
                                        SV.dat
                                          (D.slc (D.hd (D.slc (D.hd (hs 0 0)) 1 (D.rows wt)))
                                            (D.sz (D.slc (D.hd (hs 0 0)) 1 (D.rows wt)))
                                            (List.append
                                              (List.take (Int.toNat (idxP (D.to Int wt) fun y => decide (write = y)))
                                                (D.rows (D.slc (D.hd (hs 0 0)) 1 (D.rows wt))))
                                              (List.drop
                                                (Int.toNat
                                                  (IntKind.wrap IntKind.i64
                                                    ((idxP (D.to Int wt) fun y => decide (write = y)) + 1)))
                                                (D.rows (D.slc (D.hd (hs 0 0)) 1 (D.rows wt)))))),
                                        SV.dat
                                          (D.slc (D.hd (hs_4 0 0)) 1
                                            (List.append (D.rows (D.slc (D.hd (hs_2 0 0)) 1 (D.rows hd)))
                                              (D.rows (D.slc (D.hd (hs_3 0 0)) 1 [[D.int IntKind.i64 write]]))))],
                                    SV.nils, SV.int IntKind.i64 0])))))))))) := by kernel_rfl

theorem dur2_in : exec Try.prog ctD 600 (entry Try.prog 41 [.agg [.int .i64 mr, .int .i64 mp, .int .i64 mt, .int .i64 mi, .bool frozen, .int .i64 mu, .dat wt, .dat hd], .int .i64 write]) =
  Tree.need (MbD.Right (MbD.mk mr mp mt mi frozen mu wt hd))
    (Tree.br (checkMb (MbD.mb (MbD.mk mr mp mt mi frozen mu wt hd)) != 0)
      (Tree.ret
        (SV.tup
          [SV.agg
              [SV.int IntKind.i64 0, SV.int IntKind.i64 0, SV.int IntKind.i64 0, SV.int IntKind.i64 0, SV.lb false,
                SV.int IntKind.i64 0, SV.nils, SV.nils],
            SV.nils, SV.int IntKind.i64 3]))
      (Tree.need (D.Is Int wt ∧ D.len wt ≤ 1048576)
        (Tree.br (!List.contains (D.to Int wt) write)
          (Tree.ret
            (SV.tup
              [SV.agg
                  [SV.int IntKind.i64 0, SV.int IntKind.i64 0, SV.int IntKind.i64 0, SV.int IntKind.i64 0, SV.lb false,
                    SV.int IntKind.i64 0, SV.nils, SV.nils],
                SV.nils, SV.int IntKind.i64 7]))
          (Tree.leaf
            (Conf.mk
              (SFrm.mk 41 none none
                [Item.inLoop (cAt Try.prog 41 [1, 1, 1, 1, 0, 1, 0, 0]), Item.inBlock 0,
                  Item.code (cAt Try.prog 41 [1, 1, 1, 1, 1])]
                (mkJ 0
                  [(1, SV.int IntKind.i64 write), (2, SV.ptr 0 0), (4, SV.ptr 1 0), (7, SV.nils),
                    (8, SV.int IntKind.i64 0)]
                  0 57))
              []
              [(0,
                  OBlk.cells 28
                    [SV.int IntKind.i64 mr, SV.int IntKind.i64 mp, SV.int IntKind.i64 mt, SV.int IntKind.i64 mi,
                      SV.bool frozen, SV.int IntKind.i64 mu, SV.dat wt, SV.dat hd]),
                (1,
                  OBlk.cells 28
                    [SV.int IntKind.i64 0, SV.int IntKind.i64 0, SV.int IntKind.i64 0, SV.int IntKind.i64 0, SV.lb false,
                      SV.int IntKind.i64 0, SV.nils, SV.nils])]))))) := by kernel_rfl

end
end Go.Proofs.Ytoechplbhbalaaa
end
section
/- Layer 21: the loop of the reference's Durable, walked. -/
open Go Go.Proofs Sx
namespace Go.Proofs.Ytoechplbhbalaaa
set_option maxRecDepth 100000
set_option maxHeartbeats 0
noncomputable def durL (mr mp mt mi mu : Int) (frozen : Bool) (wt hd : D) (write : Int) (out : D) (j : Int) : Conf :=
  Conf.mk (SFrm.mk 41 none none [Item.inLoop (cAt Try.prog 41 [1, 1, 1, 1, 0, 1, 0, 0]), Item.inBlock 0, Item.code (cAt Try.prog 41 [1, 1, 1, 1, 1])]
    (mkJ 0 [(1, SV.int IntKind.i64 write), (2, SV.ptr 0 0), (4, SV.ptr 1 0), (7, SV.vec 2), (8, SV.int IntKind.i64 j)] 0 57)) []
  [(0, OBlk.cells 28 [SV.int IntKind.i64 mr, SV.int IntKind.i64 mp, SV.int IntKind.i64 mt, SV.int IntKind.i64 mi, SV.bool frozen, SV.int IntKind.i64 mu, SV.dat wt, SV.dat hd]),
    (1, OBlk.cells 28 [SV.int IntKind.i64 0, SV.int IntKind.i64 0, SV.int IntKind.i64 0, SV.int IntKind.i64 0, SV.lb false, SV.int IntKind.i64 0, SV.nils, SV.nils]), (2, OBlk.arr 3 out)]
section
variable (n j now write : Int) (a b d s wt hd out : D) (frozen : Bool) (mr mp mt mi mu : Int)
theorem durl_go : exec Try.prog ctD 600 (unroll (durL mr mp mt mi mu frozen wt hd write out j)) =
  Tree.br (decide (j < (↑(D.len wt) : Int)))
    (Tree.need (0 ≤ j ∧ j < (↑(D.len wt) : Int) ∧ D.sz wt = 1)
      (Tree.need (D.HasCell wt (Int.toNat j) 0 (FT.int IntKind.i64))
        (Tree.br (D.getInt wt (Int.toNat j) 0 != write)
          (Tree.need (0 ≤ j ∧ j < (↑(D.len wt) : Int) ∧ D.sz wt = 1)
            (Tree.need (D.HasCell wt (Int.toNat j) 0 (FT.int IntKind.i64))
              (Tree.all fun hs =>
                Tree.need
                  (D.sz out = 1 ∧
                    D.Fits (D.slc (D.hd (hs 0 0)) 1 [[D.int IntKind.i64 (D.getInt wt (Int.toNat j) 0)]]) 1 ∧
                      (D.len out + D.len (D.slc (D.hd (hs 0 0)) 1 [[D.int IntKind.i64 (D.getInt wt (Int.toNat j) 0)]])) *
                            8 ≤
                          140737488355328 ∧
                        D.len out + D.len (D.slc (D.hd (hs 0 0)) 1 [[D.int IntKind.i64 (D.getInt wt (Int.toNat j) 0)]]) ≤
                          9223372036854775807)
                  (Tree.all fun hs_1 =>
                    Tree.leaf
                      (Conf.mk
                        (SFrm.mk 41 none none
                          [Item.inLoop (cAt Try.prog 41 [1, 1, 1, 1, 0, 1, 0, 0]), Item.inBlock 0,
                            Item.code (cAt Try.prog 41 [1, 1, 1, 1, 1])]
                          (mkJ 0
                            [(1, SV.int IntKind.i64 write), (2, SV.ptr 0 0), (4, SV.ptr 1 0), (7, SV.vec 2),
                              (8, SV.int IntKind.i64 (IntKind.wrap IntKind.i64 (j + 1)))]
                            0 57))
                        []
                        [(0,
                            OBlk.cells 28
                              [SV.int IntKind.i64 mr, SV.int IntKind.i64 mp, SV.int IntKind.i64 mt, SV.int IntKind.i64 mi,
                                SV.bool frozen, SV.int IntKind.i64 mu, SV.dat wt, SV.dat hd]),
                          (1,
                            OBlk.cells 28
                              [SV.int IntKind.i64 0, SV.int IntKind.i64 0, SV.int IntKind.i64 0, SV.int IntKind.i64 0,
                                SV.lb false, SV.int IntKind.i64 0, SV.nils, SV.nils]),
                          (2,
                            OBlk.arr 3
                              (D.slc (D.hd (hs_1 0 0)) 1
                                (List.append (D.rows out)
                                  (D.rows
                                    (D.slc (D.hd (hs 0 0)) 1
                                      [[D.int IntKind.i64 (D.getInt wt (Int.toNat j) 0)]])))))])))))
          (Tree.leaf
            (Conf.mk
              (SFrm.mk 41 none none
                [Item.inLoop (cAt Try.prog 41 [1, 1, 1, 1, 0, 1, 0, 0]), Item.inBlock 0,
                  Item.code (cAt Try.prog 41 [1, 1, 1, 1, 1])]
                (mkJ 0
                  [(1, SV.int IntKind.i64 write), (2, SV.ptr 0 0), (4, SV.ptr 1 0), (7, SV.vec 2),
                    (8, SV.int IntKind.i64 (IntKind.wrap IntKind.i64 (j + 1)))]
                  0 57))
              []
              [(0,
                  OBlk.cells 28
                    [SV.int IntKind.i64 mr, SV.int IntKind.i64 mp, SV.int IntKind.i64 mt, SV.int IntKind.i64 mi,
                      SV.bool frozen, SV.int IntKind.i64 mu, SV.dat wt, SV.dat hd]),
                (1,
                  OBlk.cells 28
                    [SV.int IntKind.i64 0, SV.int IntKind.i64 0, SV.int IntKind.i64 0, SV.int IntKind.i64 0, SV.lb false,
                      SV.int IntKind.i64 0, SV.nils, SV.nils]),
                (2, OBlk.arr 3 out)])))))
    (Tree.br frozen
      (Tree.all fun hs =>
        Tree.need
          (D.sz (D.slc (D.hd (hs 0 0)) 1 []) = 1 ∧
            D.Fits hd 1 ∧
              (D.len (D.slc (D.hd (hs 0 0)) 1 []) + D.len hd) * 8 ≤ 140737488355328 ∧
                D.len (D.slc (D.hd (hs 0 0)) 1 []) + D.len hd ≤ 9223372036854775807)
          (Tree.all fun hs_1 =>
            Tree.all fun hs_2 =>
              Tree.need
                (D.sz (D.slc (D.hd (hs_1 0 0)) 1 (List.append (D.rows (D.slc (D.hd (hs 0 0)) 1 [])) (D.rows hd))) = 1 ∧
                  D.Fits (D.slc (D.hd (hs_2 0 0)) 1 [[D.int IntKind.i64 write]]) 1 ∧
                    (D.len (D.slc (D.hd (hs_1 0 0)) 1 (List.append (D.rows (D.slc (D.hd (hs 0 0)) 1 [])) (D.rows hd))) +
                            D.len (D.slc (D.hd (hs_2 0 0)) 1 [[D.int IntKind.i64 write]])) *
                          8 ≤
                        140737488355328 ∧
                      D.len (D.slc (D.hd (hs_1 0 0)) 1 (List.append (D.rows (D.slc (D.hd (hs 0 0)) 1 [])) (D.rows hd))) +
                          D.len (D.slc (D.hd (hs_2 0 0)) 1 [[D.int IntKind.i64 write]]) ≤
                        9223372036854775807)
                (Tree.all fun hs_3 =>
                  Tree.ret
                    (SV.tup
                      [SV.agg
                          [SV.int IntKind.i64 mr, SV.int IntKind.i64 mp, SV.int IntKind.i64 mt, SV.int IntKind.i64 mi,
                            SV.bool frozen, SV.int IntKind.i64 mu, SV.dat out,
                            SV.dat
                              (D.slc (D.hd (hs_3 0 0)) 1
                                (List.append
                                  (D.rows
                                    (D.slc (D.hd (hs_1 0 0)) 1
                                      (List.append (D.rows (D.slc (D.hd (hs 0 0)) 1 [])) (D.rows hd))))
                                  (D.rows (D.slc (D.hd (hs_2 0 0)) 1 [[D.int IntKind.i64 write]]))))],
                        SV.nils, SV.int IntKind.i64 0]))))
      (Tree.all fun hs =>
        Tree.ret
          (SV.tup
            [SV.agg
                [SV.int IntKind.i64 mr, SV.int IntKind.i64 mp, SV.int IntKind.i64 mt, SV.int IntKind.i64 mi,
                  SV.bool frozen, SV.int IntKind.i64 mu, SV.dat out, SV.dat hd],
              SV.dat (D.slc (D.hd (hs 0 0)) 1 [[D.int IntKind.i64 write]]), SV.int IntKind.i64 0]))) := by kernel_rfl

end
end Go.Proofs.Ytoechplbhbalaaa
end
section
/- Layer 21: the laws of Durable and Release. -/
open Go Go.Proofs Sx
namespace Sx

theorem checkMb_or (m : Mb) : checkMb m = 0 ∨ checkMb m = 3 := by
  unfold checkMb
  repeat' split
  all_goals simp

theorem checkMb_up {m : Mb} (h : checkMb m = 0) : ∀ i, (hi : i + 1 < m.waiting.length) → m.waiting[i] < m.waiting[i + 1] := by
  unfold checkMb at h
  split at h
  · cases h
  · split at h
    · cases h
    · rename_i hh
      simp only [Bool.not_eq_true, List.any_eq_false, List.mem_range, badW, Bool.or_eq_true, not_or, Bool.and_eq_true, decide_eq_true_eq, not_and] at hh
      intro i hi
      have := (hh (i + 1) hi).2 (by omega)
      simp [hi, show i < m.waiting.length by omega] at this
      omega

theorem up_lt {l : List Int} (h : ∀ i, (hi : i + 1 < l.length) → l[i] < l[i + 1]) : ∀ k i, (hk : i + k + 1 < l.length) → l[i] < l[i + k + 1]
  | 0, i, hk => h i hk
  | k + 1, i, hk => by
    have h1 := up_lt h k i (by omega)
    have h2 := h (i + k + 1) (by omega)
    have e : i + (k + 1) + 1 = i + k + 1 + 1 := by omega
    simp only [e]
    omega

theorem filter_up {l : List Int} (h : ∀ i, (hi : i + 1 < l.length) → l[i] < l[i + 1]) {i : Nat} (hi : i < l.length) : l.filter (fun y => y != l[i]) = l.take i ++ l.drop (i + 1) := by
  have e : l = l.take i ++ (l[i] :: l.drop (i + 1)) := by rw [List.getElem_cons_drop, List.take_append_drop]
  have e2 : ∀ p : Int → Bool, l.filter p = (l.take i ++ (l[i] :: l.drop (i + 1))).filter p := fun p => congrArg (List.filter p) e
  rw [e2, List.filter_append, List.filter_cons]
  simp only [bne_self_eq_false, Bool.false_eq_true, if_false]
  rw [List.filter_eq_self.2, List.filter_eq_self.2]
  · intro y hy
    obtain ⟨k, hk, rfl⟩ := List.mem_iff_getElem.1 hy
    simp only [List.length_drop] at hk
    rw [List.getElem_drop]
    have h1 := up_lt h k i (by omega)
    have e : i + 1 + k = i + k + 1 := by omega
    simp only [e, bne_iff_ne]
    omega
  · intro y hy
    obtain ⟨k, hk, rfl⟩ := List.mem_iff_getElem.1 hy
    simp only [List.length_take] at hk
    rw [List.getElem_take]
    have h1 := up_lt h (i - k - 1) k (by omega)
    have e : k + (i - k - 1) + 1 = i := by omega
    simp only [e] at h1
    simp only [bne_iff_ne]
    omega

theorem idxP_cases (l : List Int) (x : Int) : (idxP l (fun y => decide (x = y)) = -1 ∧ l.contains x = false) ∨ ∃ i : Nat, idxP l (fun y => decide (x = y)) = i ∧ ∃ h : i < l.length, l[i] = x := by
  unfold idxP
  cases hf : l.findIdx? (fun y => decide (x = y)) with
  | none =>
    refine .inl ⟨rfl, ?_⟩
    rw [List.findIdx?_eq_none_iff] at hf
    rw [Bool.eq_false_iff]
    intro hc
    have := hf x (List.contains_iff_mem.1 hc)
    simp at this
  | some i =>
    rw [List.findIdx?_eq_some_iff_getElem] at hf
    obtain ⟨h1, h2, _⟩ := hf
    exact .inr ⟨i, rfl, h1, by simpa using (of_decide_eq_true h2).symm⟩

theorem dur_bad {m : Mb} {x : Int} (h : ¬checkMb m = 0) : durMb m x = (noMb, [], 3) := by rw [durMb, if_pos h]
theorem dur_none {m : Mb} {x : Int} (h : checkMb m = 0) (h2 : m.waiting.contains x = false) : durMb m x = (noMb, [], 7) := by rw [durMb, if_neg (not_not_intro h), if_pos h2]
theorem dur_held {m : Mb} {x : Int} (h : checkMb m = 0) (h2 : m.waiting.contains x = true) (h3 : m.frozen = true) : durMb m x = ({ m with waiting := m.waiting.filter fun y => y != x, held := m.held ++ [x] }, [], 0) := by
  rw [durMb, if_neg (not_not_intro h), if_neg (by rw [h2]; decide), if_pos h3]
theorem dur_free {m : Mb} {x : Int} (h : checkMb m = 0) (h2 : m.waiting.contains x = true) (h3 : m.frozen = false) : durMb m x = ({ m with waiting := m.waiting.filter fun y => y != x }, [x], 0) := by
  rw [durMb, if_neg (not_not_intro h), if_neg (by rw [h2]; decide), if_neg (by simp [h3])]

section
variable {P : Program} {w : World} {H : HV}
theorem ret_mb2I {r p t i u k : Int} {F W Hd X : SV} {f : Bool} {ws hs av : List Int} {res : Mb × List Int × Int} (hf : ∀ E, F.den E = (SV.bool f).den E) (hw : Stands Int W ws) (hh : Stands Int Hd hs) (hx : Stands Int X av)
    (hr : res = (⟨r, p, t, i, f, u, ws, hs⟩, av, k)) :
    (Tree.ret (.tup [.agg [.int .i64 r, .int .i64 p, .int .i64 t, .int .i64 i, F, .int .i64 u, W, Hd], X, .int .i64 k])).holds P ⟨w, H⟩ (RetD w H fun ds => .tup [mbSV (ds 0) (ds 1) res.1, .dat ((ds 2).like res.2.1), .int .i64 res.2.2]) := by
  subst hr
  obtain ⟨d, h1, h2, h3, h4⟩ := hw
  obtain ⟨d', h1', h2', h3', h4'⟩ := hh
  obtain ⟨d'', h1'', h2'', h3'', h4''⟩ := hx
  refine ret_D (fun i => match i with | 0 => d | 1 => d' | _ => d'') (fun E E' => ?_) (fun H' ho => ?_)
  · have : F.den E = (SV.bool f).den E' := by rw [hf]; rfl
    simp only [SV.den, SV.denL, mbSV, D.like_self h2 h3, D.like_self h2' h3', D.like_self h2'' h3'', h1, h1', h1'', this]
  · simp only [SV.Ok, SV.OkL, mbSV, D.like_self h2 h3, D.like_self h2' h3', D.like_self h2'' h3''] at ho ⊢
    exact ⟨⟨trivial, trivial, trivial, trivial, trivial, trivial, ⟨h4 _ ho.1.2.2.2.2.2.2.1, h2.slc⟩, ⟨h4' _ ho.1.2.2.2.2.2.2.2.1, h2'.slc⟩, trivial⟩, ⟨h4'' _ ho.2.1, h2''.slc⟩, trivial, trivial⟩
end

theorem int_one (x : Int) : SRows Int [[.int .i64 x]] [x] := rows_one ⟨_, rfl⟩ rfl
end Sx

namespace Go.Proofs.Ytoechplbhbalaaa
set_option maxRecDepth 100000
set_option maxHeartbeats 0

theorem ctDOk : Ctrs.Ok Try.prog ctD := by
  intro x hx
  simp only [ctD, List.mem_cons] at hx
  rcases hx with rfl | rfl | hx
  · exact ctr74
  · exact ctrOf_ok lawIx
  · exact ctMOk _ hx

theorem lawRel1 : Law Try.prog 42 ((rdMb.two rdInt).sp spRls) := by
  refine law_in _ (by kernel_rfl) fun H w ⟨⟨r, p, t, i, f, u, wt, hd⟩, now⟩ hok hp => ?_
  have hR := hp _ (List.mem_singleton.2 rfl)
  have hR' := hR
  obtain ⟨hw, hh, lw, lh⟩ := hR
  simp only at hw hh lw lh
  clear hp hok
  apply exec_sound ctDOk 600
  rw [show (rdMb.two rdInt).canon (⟨r, p, t, i, f, u, wt, hd⟩, now) = [.agg [.int .i64 r, .int .i64 p, .int .i64 t, .int .i64 i, .bool f, .int .i64 u, .dat wt, .dat hd], .int .i64 now] from rfl, rel1_in]
  have bad : (¬checkMb ⟨r, p, t, i, f, u, wt.to Int, hd.to Int⟩ = 0 ∨ f = false ∨ u > now) → relMb ⟨r, p, t, i, f, u, wt.to Int, hd.to Int⟩ now = (⟨r, p, t, i, f, u, wt.to Int, hd.to Int⟩, []) := fun h => by rw [relMb, if_pos h]
  refine ⟨hR', fun hc => ?_, fun hc => ⟨fun h1 => ?_, fun h1 => ⟨fun h2 => ?_, fun h2 => ⟨⟨hh, by omega⟩, fun hs hs1 => ?_⟩⟩⟩⟩
  · simp only [bne_iff_ne, ne_eq] at hc
    exact ret_mb2 (fun _ => rfl) (stands_self hw) (stands_self hh) stands_nils (bad (.inl hc))
  · simp only [Bool.not_eq_true'] at h1
    exact ret_mb2 (fun _ => rfl) (stands_self hw) (stands_self hh) stands_nils (bad (.inr (.inl h1)))
  · simp only [decide_eq_true_eq] at h2
    exact ret_mb2 (fun _ => rfl) (stands_self hw) (stands_self hh) stands_nils (bad (.inr (.inr h2)))
  · simp only [bne_eq_false_iff_eq] at hc
    simp only [Bool.not_eq_false'] at h1
    simp only [decide_eq_false_iff_not] at h2
    have hc : checkMb ⟨r, p, t, i, f, u, wt.to Int, hd.to Int⟩ = 0 := hc
    refine ret_mb2 lb_den (stands_self hw) stands_nils (stands_rows rfl (rows_of hh)) ?_
    show relMb ⟨r, p, t, i, f, u, wt.to Int, hd.to Int⟩ now = _
    rw [relMb, if_neg (by rintro (h | h | h); exact h hc; exact absurd (h1.symm.trans h) (by decide); exact h2 h)]
    rfl

theorem lawRel2 : Law Try.prog 43 ((rdMb.two rdInt).sp spRls) := by
  refine law_in _ (by kernel_rfl) fun H w ⟨⟨r, p, t, i, f, u, wt, hd⟩, now⟩ hok hp => ?_
  have hR := hp _ (List.mem_singleton.2 rfl)
  have hR' := hR
  obtain ⟨hw, hh, lw, lh⟩ := hR
  simp only at hw hh lw lh
  clear hp hok
  apply exec_sound ctDOk 600
  rw [show (rdMb.two rdInt).canon (⟨r, p, t, i, f, u, wt, hd⟩, now) = [.agg [.int .i64 r, .int .i64 p, .int .i64 t, .int .i64 i, .bool f, .int .i64 u, .dat wt, .dat hd], .int .i64 now] from rfl, rel2_in]
  have bad : (¬checkMb ⟨r, p, t, i, f, u, wt.to Int, hd.to Int⟩ = 0 ∨ f = false ∨ u > now) → relMb ⟨r, p, t, i, f, u, wt.to Int, hd.to Int⟩ now = (⟨r, p, t, i, f, u, wt.to Int, hd.to Int⟩, []) := fun h => by rw [relMb, if_pos h]
  refine ⟨hR', fun hc => ?_, fun hc => ⟨fun h1 => ?_, fun h1 => ⟨fun h2 => ?_, fun h2 => ⟨hR', fun hs => ?_⟩⟩⟩⟩
  · simp only [bne_iff_ne, ne_eq] at hc
    exact ret_mb2 (fun _ => rfl) (stands_self hw) (stands_self hh) stands_nils (bad (.inl hc))
  · simp only [Bool.not_eq_true'] at h1
    exact ret_mb2 (fun _ => rfl) (stands_self hw) (stands_self hh) stands_nils (bad (.inr (.inl h1)))
  · simp only [decide_eq_true_eq] at h2
    exact ret_mb2 (fun _ => rfl) (stands_self hw) (stands_self hh) stands_nils (bad (.inr (.inr h2)))
  · simp only [bne_eq_false_iff_eq] at hc
    simp only [Bool.not_eq_false'] at h1
    simp only [decide_eq_false_iff_not] at h2
    have hc : checkMb ⟨r, p, t, i, f, u, wt.to Int, hd.to Int⟩ = 0 := hc
    refine ret_mb2 (fun _ => rfl) stands_like stands_like stands_like ?_
    show relMb ⟨r, p, t, i, f, u, wt.to Int, hd.to Int⟩ now = _
    rw [relMb, if_neg (by rintro (h | h | h); exact h hc; exact absurd (h1.symm.trans h) (by decide); exact h2 h)]
    rfl

theorem lawDur1 : Law Try.prog 40 ((rdMb.two rdInt).sp spDur) := by
  refine law_in _ (by kernel_rfl) fun H w ⟨⟨r, p, t, i, f, u, wt, hd⟩, x⟩ hok hp => ?_
  have hR := hp _ (List.mem_singleton.2 rfl)
  have hR' := hR
  obtain ⟨hw, hh, lw, lh⟩ := hR
  simp only at hw hh lw lh
  have l1 := D.Is.length (α := Int) wt
  have l2 := rows_len (rows_of hw)
  have l3 := D.Is.length (α := Int) hd
  have l4 := rows_len (rows_of hh)
  clear hp hok
  apply exec_sound ctDOk 600
  rw [show (rdMb.two rdInt).canon (⟨r, p, t, i, f, u, wt, hd⟩, x) = [.agg [.int .i64 r, .int .i64 p, .int .i64 t, .int .i64 i, .bool f, .int .i64 u, .dat wt, .dat hd], .int .i64 x] from rfl, dur1_in]
  have hq : MbD.mb ⟨r, p, t, i, f, u, wt, hd⟩ = ⟨r, p, t, i, f, u, wt.to Int, hd.to Int⟩ := rfl
  simp only [hq]
  refine ⟨hR', fun hc => ?_, fun hc => ⟨⟨hw, by omega⟩, ?_⟩⟩
  · simp only [bne_iff_ne, ne_eq] at hc
    have h3 : checkMb ⟨r, p, t, i, f, u, wt.to Int, hd.to Int⟩ = 3 := (checkMb_or _).resolve_left hc
    rw [h3]
    exact ret_mb2I lb_den stands_nils stands_nils stands_nils (dur_bad hc)
  · simp only [bne_eq_false_iff_eq] at hc
    rcases idxP_cases (wt.to Int) x with ⟨e1, e2⟩ | ⟨k, e1, hk, e2⟩
    · simp only [e1]
      refine ⟨fun _ => ?_, fun h => (by cases h)⟩
      exact ret_mb2I lb_den stands_nils stands_nils stands_nils (dur_none hc e2)
    · simp only [e1]
      have hwr : IntKind.i64.wrap ((k : Int) + 1) = ((k + 1 : Nat) : Int) := by rw [wrap64 (by omega) (by omega)]; omega
      have hmem : (wt.to Int).contains x = true := List.contains_iff_mem.2 (by rw [← e2]; exact List.getElem_mem hk)
      have hfil : (wt.to Int).filter (fun y => y != x) = (wt.to Int).take k ++ (wt.to Int).drop (k + 1) := by
        have := filter_up (checkMb_up hc) hk
        simp only [e2] at this
        exact this
      simp only [hwr, Int.toNat_natCast]
      have hrw : ∀ h, Stands Int (.dat (.slc h 1 (List.append (List.take k (D.rows wt)) (List.drop (k + 1) (D.rows wt))))) ((wt.to Int).filter fun y => y != x) := fun h => by
        rw [hfil]; exact stands_rows rfl (rows_app (rows_take (rows_of hw) k) (rows_drop (rows_of hw) (k + 1)))
      refine ⟨fun h => ?_, fun _ => ⟨⟨hw, by omega⟩, fun hs => ⟨⟨(is_of rfl (rows_of hw)).1, by omega, by omega, by simp only [len_slc]; omega⟩, fun hs1 => ⟨fun h1 hs2 => ?_, fun h1 => ⟨⟨hh, by omega⟩, fun hs2 hs3 => ⟨⟨rfl, .inr rfl, ?_, ?_⟩, fun hs4 => ?_⟩⟩⟩⟩⟩⟩
      · have := of_decide_eq_true h; omega
      · simp only [Bool.not_eq_true'] at h1
        exact ret_mb2I (fun _ => rfl) (hrw _) (stands_self hh) (stands_rows rfl (int_one x)) (dur_free hc hmem h1)
      · simp only [len_slc, List.length_cons, List.length_nil]; omega
      · simp only [len_slc, List.length_cons, List.length_nil]; omega
      · simp only [Bool.not_eq_false'] at h1
        have hra : SRows Int (List.append (D.rows hd) [[.int .i64 x]]) (hd.to Int ++ [x]) := rows_app (rows_of hh) (int_one x)
        exact ret_mb2I (fun _ => rfl) (hrw _) (stands_rows rfl hra) stands_nils (dur_held hc hmem h1)

theorem lawDur2 : Law Try.prog 41 ((rdMb.two rdInt).sp spDur) := by
  refine law_in _ (by kernel_rfl) fun H w ⟨⟨r, p, t, i, f, u, wt, hd⟩, x⟩ hok hp => ?_
  have hR := hp _ (List.mem_singleton.2 rfl)
  have hR' := hR
  obtain ⟨hw, hh, lw, lh⟩ := hR
  simp only at hw hh lw lh
  have l1 := D.Is.length (α := Int) wt
  have l2 := rows_len (rows_of hw)
  have l3 := D.Is.length (α := Int) hd
  have l4 := rows_len (rows_of hh)
  clear hp hok
  apply exec_sound ctDOk 600
  rw [show (rdMb.two rdInt).canon (⟨r, p, t, i, f, u, wt, hd⟩, x) = [.agg [.int .i64 r, .int .i64 p, .int .i64 t, .int .i64 i, .bool f, .int .i64 u, .dat wt, .dat hd], .int .i64 x] from rfl, dur2_in]
  have hq : MbD.mb ⟨r, p, t, i, f, u, wt, hd⟩ = ⟨r, p, t, i, f, u, wt.to Int, hd.to Int⟩ := rfl
  simp only [hq]
  refine ⟨hR', fun hc => ?_, fun hc => ⟨⟨hw, by omega⟩, fun h1 => ?_, fun h1 => ?_⟩⟩
  · simp only [bne_iff_ne, ne_eq] at hc
    exact ret_mb2I lb_den stands_nils stands_nils stands_nils (dur_bad hc)
  · simp only [bne_eq_false_iff_eq] at hc
    simp only [Bool.not_eq_true'] at h1
    exact ret_mb2I lb_den stands_nils stands_nils stands_nils (dur_none hc h1)
  · simp only [bne_eq_false_iff_eq] at hc
    simp only [Bool.not_eq_false'] at h1
    refine vecTo 2 3 1 none 7 (durL r p t i u f wt hd x (.slc none 1 []) 0) (by kernel_rfl) ?_
    refine runs_loop (fun q : D × Nat => durL r p t i u f wt hd x q.1 q.2) (fun q => q.2 ≤ (wt.to Int).length ∧ q.1.Is Int ∧ q.1.sz = 1 ∧ q.1.to Int = ((wt.to Int).take q.2).filter fun y => y != x)
      (fun q => (wt.to Int).length - q.2) (fun _ => rfl) ?_ (.slc none 1 [], 0) ⟨Nat.zero_le _, is_nil _ _, rfl, rfl⟩
    intro ⟨out, j⟩ ⟨hj, ho, hs, hto⟩ ih
    simp only at hj ho hs hto
    have lo := D.Is.length (α := Int) out
    have lo2 := rows_len (rows_of ho)
    have lo3 : (out.to Int).length ≤ j := by
      rw [hto]
      exact Nat.le_trans (List.length_filter_le _ _) (by rw [List.length_take]; exact Nat.min_le_left _ _)
    apply exec_sound ctDOk 600
    rw [durl_go]
    refine ⟨fun hcj => ?_, fun hcj => ?_⟩
    · simp [l1] at hcj
      obtain ⟨c1, c2, c3⟩ := int_at hw hcj
      rw [c3]
      refine ⟨c1, c2, fun hb => ⟨c1, c2, fun hs1 => ⟨⟨hs, .inr rfl, by simp only [len_slc, List.length_cons, List.length_nil]; omega, by simp only [len_slc, List.length_cons, List.length_nil]; omega⟩, fun hs2 => ?_⟩⟩, fun hb => ?_⟩
      · have hra : SRows Int (List.append (D.rows out) [[.int .i64 (wt.to Int)[j]]]) (out.to Int ++ [(wt.to Int)[j]]) := rows_app (rows_of ho) (int_one _)
        obtain ⟨i1, i2⟩ := is_of (h := D.hd (hs2 0 0)) (s := 1) rfl hra
        have := ih (.slc (D.hd (hs2 0 0)) 1 (List.append (D.rows out) [[.int .i64 (wt.to Int)[j]]]), j + 1) ⟨hcj, i1, rfl, i2.trans (by rw [hto, List.take_succ_eq_append_getElem hcj, List.filter_append, List.filter_cons]; simp [hb])⟩ (by simp only; omega)
        simp only at this
        rw [← wrap_succ hcj (by omega)] at this
        exact this
      · have := ih (out, j + 1) ⟨hcj, ho, hs, by simp only; rw [hto, List.take_succ_eq_append_getElem hcj, List.filter_append, List.filter_cons]; simp [hb]⟩ (by simp only; omega)
        simp only at this
        rw [← wrap_succ hcj (by omega)] at this
        exact this
    · simp [l1] at hcj
      have : j = (wt.to Int).length := by omega
      subst this
      rw [List.take_length] at hto
      refine ⟨fun hf hs1 => ⟨⟨rfl, hh.fits, by simp only [len_slc, List.length_nil]; omega, by simp only [len_slc, List.length_nil]; omega⟩, fun hs2 hs3 => ⟨⟨rfl, .inr rfl, ?_, ?_⟩, fun hs4 => ?_⟩⟩, fun hf hs1 => ?_⟩
      · have e : (List.append (D.rows (D.slc (D.hd (hs1 0 0)) 1 [])) (D.rows hd)).length = hd.rows.length := rfl
        simp only [len_slc, e, List.length_cons, List.length_nil]; omega
      · have e : (List.append (D.rows (D.slc (D.hd (hs1 0 0)) 1 [])) (D.rows hd)).length = hd.rows.length := rfl
        simp only [len_slc, e, List.length_cons, List.length_nil]; omega
      · have hra : SRows Int (List.append (D.rows hd) [[.int .i64 x]]) (hd.to Int ++ [x]) := rows_app (rows_of hh) (int_one x)
        exact ret_mb2I (fun _ => rfl) (stands_dat ho hto) (stands_rows rfl hra) stands_nils (dur_held hc h1 hf)
      · exact ret_mb2I (fun _ => rfl) (stands_dat ho hto) (stands_self hh) (stands_rows rfl (int_one x)) (dur_free hc h1 hf)
end Go.Proofs.Ytoechplbhbalaaa
end
section
/- Layer 21: all contracts. -/
open Go Go.Proofs Sx
namespace Go.Proofs.Ytoechplbhbalaaa
noncomputable def ctN : Ctrs := (40, ctrOf ((rdMb.two rdInt).sp spDur)) :: (41, ctrOf ((rdMb.two rdInt).sp spDur)) :: (42, ctrOf ((rdMb.two rdInt).sp spRls)) :: (43, ctrOf ((rdMb.two rdInt).sp spRls)) :: ctL
theorem ctNOk : Ctrs.Ok Try.prog ctN := by
  intro x hx
  simp only [ctN, List.mem_cons] at hx
  rcases hx with rfl | rfl | rfl | rfl | hx
  · exact ctrOf_ok lawDur1
  · exact ctrOf_ok lawDur2
  · exact ctrOf_ok lawRel1
  · exact ctrOf_ok lawRel2
  · exact ctLOk _ hx
end Go.Proofs.Ytoechplbhbalaaa
end
