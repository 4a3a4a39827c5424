/- Layer 21: three statements, walked. -/
import Derived.KernelRfl
import Derived.Test.YtoechplbhbalaaaBW12gtoBW14
set_option linter.all false
section
open Go Go.Proofs Sx
namespace Go.Proofs.Ytoechplbhbalaaa
set_option maxRecDepth 100000
set_option maxHeartbeats 0
section
variable (now patience : Int) (d s wt hd : D) (frozen : Bool) (mr mp mt mi mu : Int) (mk mf mto mn mv me : Int) (ml mb : D) (nodes round phase deadline : Int) (valid : Bool)
theorem starts_in : exec Try.prog ctL 400 (entry Try.prog 3 [.agg [.int .i64 nodes, .int .i64 round, .int .i64 phase, .int .i64 deadline, .dat d, .dat s, .bool valid], .int .i64 now, .int .i64 patience]) =
  Tree.br (decide ((↑(D.len d) : Int) ≤ 20))
    (Tree.br (decide ((↑(D.len s) : Int) ≤ 20))
      (Tree.br true
        (Tree.br false (Tree.ret (SV.lb true))
          (Tree.need (D.Is Int d ∧ D.Is Bool s)
            (Tree.all fun hs =>
              Tree.need (D.Is Int d ∧ D.Is Bool s)
                (Tree.all fun hs_1 =>
                  Tree.all fun hs_2 =>
                    Tree.br
                      (Prod.snd
                          (Prod.snd (startCo (CoD.co (CoD.mk nodes round phase deadline d s valid)) now patience)) !=
                        Prod.snd (Prod.snd (startCo (CoD.co (CoD.mk nodes round phase deadline d s valid)) now patience)))
                      (Tree.need
                        (D.Is Int
                            (D.like (hs 0 0)
                              (Co.positions
                                (Prod.fst
                                  (startCo (CoD.co (CoD.mk nodes round phase deadline d s valid)) now patience)))) ∧
                          D.Is Bool
                              (D.like (hs 0 1)
                                (Co.seen
                                  (Prod.fst
                                    (startCo (CoD.co (CoD.mk nodes round phase deadline d s valid)) now patience)))) ∧
                            D.Is Int
                                (D.like (hs_1 0 0)
                                  (Co.positions
                                    (Prod.fst
                                      (startCo (CoD.co (CoD.mk nodes round phase deadline d s valid)) now patience)))) ∧
                              D.Is Bool
                                  (D.like (hs_1 0 1)
                                    (Co.seen
                                      (Prod.fst
                                        (startCo (CoD.co (CoD.mk nodes round phase deadline d s valid)) now patience)))) ∧
                                D.len
                                      (D.like (hs 0 0)
                                        (Co.positions
                                          (Prod.fst
                                            (startCo (CoD.co (CoD.mk nodes round phase deadline d s valid)) now
                                              patience)))) ≤
                                    1048576 ∧
                                  D.len
                                        (D.like (hs 0 1)
                                          (Co.seen
                                            (Prod.fst
                                              (startCo (CoD.co (CoD.mk nodes round phase deadline d s valid)) now
                                                patience)))) ≤
                                      1048576 ∧
                                    CoD.co
                                        (CoD.mk
                                          (Co.nodes
                                            (Prod.fst
                                              (startCo (CoD.co (CoD.mk nodes round phase deadline d s valid)) now
                                                patience)))
                                          (Co.round
                                            (Prod.fst
                                              (startCo (CoD.co (CoD.mk nodes round phase deadline d s valid)) now
                                                patience)))
                                          (Co.phase
                                            (Prod.fst
                                              (startCo (CoD.co (CoD.mk nodes round phase deadline d s valid)) now
                                                patience)))
                                          (Co.deadline
                                            (Prod.fst
                                              (startCo (CoD.co (CoD.mk nodes round phase deadline d s valid)) now
                                                patience)))
                                          (D.like (hs 0 0)
                                            (Co.positions
                                              (Prod.fst
                                                (startCo (CoD.co (CoD.mk nodes round phase deadline d s valid)) now
                                                  patience))))
                                          (D.like (hs 0 1)
                                            (Co.seen
                                              (Prod.fst
                                                (startCo (CoD.co (CoD.mk nodes round phase deadline d s valid)) now
                                                  patience))))
                                          (Co.valid
                                            (Prod.fst
                                              (startCo (CoD.co (CoD.mk nodes round phase deadline d s valid)) now
                                                patience)))) =
                                      CoD.co
                                        (CoD.mk
                                          (Co.nodes
                                            (Prod.fst
                                              (startCo (CoD.co (CoD.mk nodes round phase deadline d s valid)) now
                                                patience)))
                                          (Co.round
                                            (Prod.fst
                                              (startCo (CoD.co (CoD.mk nodes round phase deadline d s valid)) now
                                                patience)))
                                          (Co.phase
                                            (Prod.fst
                                              (startCo (CoD.co (CoD.mk nodes round phase deadline d s valid)) now
                                                patience)))
                                          (Co.deadline
                                            (Prod.fst
                                              (startCo (CoD.co (CoD.mk nodes round phase deadline d s valid)) now
                                                patience)))
                                          (D.like (hs_1 0 0)
                                            (Co.positions
                                              (Prod.fst
                                                (startCo (CoD.co (CoD.mk nodes round phase deadline d s valid)) now
                                                  patience))))
                                          (D.like (hs_1 0 1)
                                            (Co.seen
                                              (Prod.fst
                                                (startCo (CoD.co (CoD.mk nodes round phase deadline d s valid)) now
                                                  patience))))
                                          (Co.valid
                                            (Prod.fst
                                              (startCo (CoD.co (CoD.mk nodes round phase deadline d s valid)) now
                                                patience)))))
                        (Tree.need
                          (D.Is Msg
                              (D.like (hs 0 2)
                                (Prod.fst
                                  (Prod.snd
                                    (startCo (CoD.co (CoD.mk nodes round phase deadline d s valid)) now patience)))) ∧
                            D.Is Msg
                                (D.like (hs_1 0 2)
                                  (Prod.fst
                                    (Prod.snd
                                      (startCo (CoD.co (CoD.mk nodes round phase deadline d s valid)) now patience)))) ∧
                              D.len
                                    (D.like (hs 0 2)
                                      (Prod.fst
                                        (Prod.snd
                                          (startCo (CoD.co (CoD.mk nodes round phase deadline d s valid)) now
                                            patience)))) ≤
                                  1048576 ∧
                                (∀ (m : Msg),
                                    List.Mem m
                                        (D.to Msg
                                          (D.like (hs 0 2)
                                            (Prod.fst
                                              (Prod.snd
                                                (startCo (CoD.co (CoD.mk nodes round phase deadline d s valid)) now
                                                  patience))))) →
                                      Msg.values m = [] ∧ Msg.body m = []) ∧
                                  D.to Msg
                                      (D.like (hs 0 2)
                                        (Prod.fst
                                          (Prod.snd
                                            (startCo (CoD.co (CoD.mk nodes round phase deadline d s valid)) now
                                              patience)))) =
                                    D.to Msg
                                      (D.like (hs_1 0 2)
                                        (Prod.fst
                                          (Prod.snd
                                            (startCo (CoD.co (CoD.mk nodes round phase deadline d s valid)) now
                                              patience)))))
                          (Tree.need
                            ((Prod.snd
                                  (Prod.snd
                                    (startCo (CoD.co (CoD.mk nodes round phase deadline d s valid)) now patience)) !=
                                Prod.snd
                                  (Prod.snd
                                    (startCo (CoD.co (CoD.mk nodes round phase deadline d s valid)) now patience))) =
                              true)
                            (Tree.need
                              ((Prod.snd
                                    (Prod.snd
                                      (startCo (CoD.co (CoD.mk nodes round phase deadline d s valid)) now patience)) !=
                                  Prod.snd
                                    (Prod.snd
                                      (startCo (CoD.co (CoD.mk nodes round phase deadline d s valid)) now patience))) =
                                true)
                              (Tree.need
                                ((Prod.snd
                                      (Prod.snd
                                        (startCo (CoD.co (CoD.mk nodes round phase deadline d s valid)) now patience)) !=
                                    Prod.snd
                                      (Prod.snd
                                        (startCo (CoD.co (CoD.mk nodes round phase deadline d s valid)) now patience))) =
                                  true)
                                (Tree.need
                                  ((Prod.snd
                                        (Prod.snd
                                          (startCo (CoD.co (CoD.mk nodes round phase deadline d s valid)) now
                                            patience)) !=
                                      Prod.snd
                                        (Prod.snd
                                          (startCo (CoD.co (CoD.mk nodes round phase deadline d s valid)) now
                                            patience))) =
                                    true)
                                  (Tree.need
                                    ((Prod.snd
                                          (Prod.snd
                                            (startCo (CoD.co (CoD.mk nodes round phase deadline d s valid)) now
                                              patience)) !=
                                        Prod.snd
                                          (Prod.snd
                                            (startCo (CoD.co (CoD.mk nodes round phase deadline d s valid)) now
                                              patience))) =
                                      true)
                                    (Tree.need
                                      ((Prod.snd
                                            (Prod.snd
                                              (startCo (CoD.co (CoD.mk nodes round phase deadline d s valid)) now
                                                patience)) !=
                                          Prod.snd
                                            (Prod.snd
                                              (startCo (CoD.co (CoD.mk nodes round phase deadline d s valid)) now
                                                patience))) =
                                        true)
                                      (Tree.ret (SV.lb false))))))))))
                      (Tree.need
                        (D.Is Int
                            (D.like (hs 0 0)
                              (Co.positions
                                (Prod.fst
                                  (startCo (CoD.co (CoD.mk nodes round phase deadline d s valid)) now patience)))) ∧
                          D.Is Bool
                              (D.like (hs 0 1)
                                (Co.seen
                                  (Prod.fst
                                    (startCo (CoD.co (CoD.mk nodes round phase deadline d s valid)) now patience)))) ∧
                            D.Is Int
                                (D.like (hs_1 0 0)
                                  (Co.positions
                                    (Prod.fst
                                      (startCo (CoD.co (CoD.mk nodes round phase deadline d s valid)) now patience)))) ∧
                              D.Is Bool
                                  (D.like (hs_1 0 1)
                                    (Co.seen
                                      (Prod.fst
                                        (startCo (CoD.co (CoD.mk nodes round phase deadline d s valid)) now patience)))) ∧
                                D.len
                                      (D.like (hs 0 0)
                                        (Co.positions
                                          (Prod.fst
                                            (startCo (CoD.co (CoD.mk nodes round phase deadline d s valid)) now
                                              patience)))) ≤
                                    1048576 ∧
                                  D.len
                                        (D.like (hs 0 1)
                                          (Co.seen
                                            (Prod.fst
                                              (startCo (CoD.co (CoD.mk nodes round phase deadline d s valid)) now
                                                patience)))) ≤
                                      1048576 ∧
                                    CoD.co
                                        (CoD.mk
                                          (Co.nodes
                                            (Prod.fst
                                              (startCo (CoD.co (CoD.mk nodes round phase deadline d s valid)) now
                                                patience)))
                                          (Co.round
                                            (Prod.fst
                                              (startCo (CoD.co (CoD.mk nodes round phase deadline d s valid)) now
                                                patience)))
                                          (Co.phase
                                            (Prod.fst
                                              (startCo (CoD.co (CoD.mk nodes round phase deadline d s valid)) now
                                                patience)))
                                          (Co.deadline
                                            (Prod.fst
                                              (startCo (CoD.co (CoD.mk nodes round phase deadline d s valid)) now
                                                patience)))
                                          (D.like (hs 0 0)
                                            (Co.positions
                                              (Prod.fst
                                                (startCo (CoD.co (CoD.mk nodes round phase deadline d s valid)) now
                                                  patience))))
                                          (D.like (hs 0 1)
                                            (Co.seen
                                              (Prod.fst
                                                (startCo (CoD.co (CoD.mk nodes round phase deadline d s valid)) now
                                                  patience))))
                                          (Co.valid
                                            (Prod.fst
                                              (startCo (CoD.co (CoD.mk nodes round phase deadline d s valid)) now
                                                patience)))) =
                                      CoD.co
                                        (CoD.mk
                                          (Co.nodes
                                            (Prod.fst
                                              (startCo (CoD.co (CoD.mk nodes round phase deadline d s valid)) now
                                                patience)))
                                          (Co.round
                                            (Prod.fst
                                              (startCo (CoD.co (CoD.mk nodes round phase deadline d s valid)) now
                                                patience)))
                                          (Co.phase
                                            (Prod.fst
                                              (startCo (CoD.co (CoD.mk nodes round phase deadline d s valid)) now
                                                patience)))
                                          (Co.deadline
                                            (Prod.fst
                                              (startCo (CoD.co (CoD.mk nodes round phase deadline d s valid)) now
                                                patience)))
                                          (D.like (hs_1 0 0)
                                            (Co.positions
                                              (Prod.fst
                                                (startCo (CoD.co (CoD.mk nodes round phase deadline d s valid)) now
                                                  patience))))
                                          (D.like (hs_1 0 1)
                                            (Co.seen
                                              (Prod.fst
                                                (startCo (CoD.co (CoD.mk nodes round phase deadline d s valid)) now
                                                  patience))))
                                          (Co.valid
                                            (Prod.fst
                                              (startCo (CoD.co (CoD.mk nodes round phase deadline d s valid)) now
                                                patience)))))
                        (Tree.need
                          (D.Is Msg
                              (D.like (hs 0 2)
                                (Prod.fst
                                  (Prod.snd
                                    (startCo (CoD.co (CoD.mk nodes round phase deadline d s valid)) now patience)))) ∧
                            D.Is Msg
                                (D.like (hs_1 0 2)
                                  (Prod.fst
                                    (Prod.snd
                                      (startCo (CoD.co (CoD.mk nodes round phase deadline d s valid)) now patience)))) ∧
                              D.len
                                    (D.like (hs 0 2)
                                      (Prod.fst
                                        (Prod.snd
                                          (startCo (CoD.co (CoD.mk nodes round phase deadline d s valid)) now
                                            patience)))) ≤
                                  1048576 ∧
                                (∀ (m : Msg),
                                    List.Mem m
                                        (D.to Msg
                                          (D.like (hs 0 2)
                                            (Prod.fst
                                              (Prod.snd
                                                (startCo (CoD.co (CoD.mk nodes round phase deadline d s valid)) now
                                                  patience))))) →
                                      Msg.values m = [] ∧ Msg.body m = []) ∧
                                  D.to Msg
                                      (D.like (hs 0 2)
                                        (Prod.fst
                                          (Prod.snd
                                            (startCo (CoD.co (CoD.mk nodes round phase deadline d s valid)) now
                                              patience)))) =
                                    D.to Msg
                                      (D.like (hs_1 0 2)
                                        (Prod.fst
                                          (Prod.snd
                                            (startCo (CoD.co (CoD.mk nodes round phase deadline d s valid)) now
                                              patience)))))
                          (Tree.need
                            ((Prod.snd
                                  (Prod.snd
                                    (startCo (CoD.co (CoD.mk nodes round phase deadline d s valid)) now patience)) !=
                                Prod.snd
                                  (Prod.snd
                                    (startCo (CoD.co (CoD.mk nodes round phase deadline d s valid)) now patience))) =
                              false)
                            (Tree.need
                              ((Prod.snd
                                    (Prod.snd
                                      (startCo (CoD.co (CoD.mk nodes round phase deadline d s valid)) now patience)) !=
                                  Prod.snd
                                    (Prod.snd
                                      (startCo (CoD.co (CoD.mk nodes round phase deadline d s valid)) now patience))) =
                                false)
                              (Tree.need (D.Is Int d ∧ D.Is Bool s)
                                (Tree.need
                                  ((Prod.snd
                                        (Prod.snd
                                          (startCo (CoD.co (CoD.mk nodes round phase deadline d s valid)) now
                                            patience)) !=
                                      Prod.snd
                                        (Prod.snd
                                          (startCo (CoD.co (CoD.mk nodes round phase deadline d s valid)) now
                                            patience))) =
                                    false)
                                  (Tree.need
                                    ((Prod.snd
                                          (Prod.snd
                                            (startCo (CoD.co (CoD.mk nodes round phase deadline d s valid)) now
                                              patience)) !=
                                        Prod.snd
                                          (Prod.snd
                                            (startCo (CoD.co (CoD.mk nodes round phase deadline d s valid)) now
                                              patience))) =
                                      false)
                                    (Tree.need (D.Is Int d ∧ D.Is Bool s)
                                      (Tree.need
                                        ((Prod.snd
                                              (Prod.snd
                                                (startCo (CoD.co (CoD.mk nodes round phase deadline d s valid)) now
                                                  patience)) !=
                                            Prod.snd
                                              (Prod.snd
                                                (startCo (CoD.co (CoD.mk nodes round phase deadline d s valid)) now
                                                  patience))) =
                                          false)
                                        (Tree.need
                                          ((Prod.snd
                                                (Prod.snd
                                                  (startCo (CoD.co (CoD.mk nodes round phase deadline d s valid)) now
                                                    patience)) !=
                                              Prod.snd
                                                (Prod.snd
                                                  (startCo (CoD.co (CoD.mk nodes round phase deadline d s valid)) now
                                                    patience))) =
                                            false)
                                          (Tree.br
                                            (checkCo (CoD.co (CoD.mk nodes round phase deadline d s valid)) !=
                                              checkCo (CoD.co (CoD.mk nodes round phase deadline d s valid)))
                                            (Tree.ret (SV.lb false))
                                            (Tree.all fun hs =>
                                              Tree.all fun hs_3 =>
                                                Tree.need (D.Is Int d ∧ D.Is Bool s)
                                                  (Tree.all fun hs_4 =>
                                                    Tree.need (D.Is Int d ∧ D.Is Bool s)
                                                      (Tree.all fun hs_5 =>
                                                        Tree.need
                                                          (D.Is Int
                                                              (D.like (hs 0 0)
                                                                (Co.positions (Prod.fst (newCo patience)))) ∧
                                                            D.Is Bool
                                                                (D.like (hs 0 1) (Co.seen (Prod.fst (newCo patience)))) ∧
                                                              D.Is Int
                                                                  (D.like (hs_3 0 0)
                                                                    (Co.positions (Prod.fst (newCo patience)))) ∧
                                                                D.Is Bool
                                                                    (D.like (hs_3 0 1)
                                                                      (Co.seen (Prod.fst (newCo patience)))) ∧
                                                                  D.len
                                                                        (D.like (hs 0 0)
                                                                          (Co.positions (Prod.fst (newCo patience)))) ≤
                                                                      1048576 ∧
                                                                    D.len
                                                                          (D.like (hs 0 1)
                                                                            (Co.seen (Prod.fst (newCo patience)))) ≤
                                                                        1048576 ∧
                                                                      CoD.co
                                                                          (CoD.mk (Co.nodes (Prod.fst (newCo patience)))
                                                                            (Co.round (Prod.fst (newCo patience)))
                                                                            (Co.phase (Prod.fst (newCo patience)))
                                                                            (Co.deadline (Prod.fst (newCo patience)))
                                                                            (D.like (hs 0 0)
                                                                              (Co.positions (Prod.fst (newCo patience))))
                                                                            (D.like (hs 0 1)
                                                                              (Co.seen (Prod.fst (newCo patience))))
                                                                            (Co.valid (Prod.fst (newCo patience)))) =
                                                                        CoD.co
                                                                          (CoD.mk (Co.nodes (Prod.fst (newCo patience)))
                                                                            (Co.round (Prod.fst (newCo patience)))
                                                                            (Co.phase (Prod.fst (newCo patience)))
                                                                            (Co.deadline (Prod.fst (newCo patience)))
                                                                            (D.like (hs_3 0 0)
                                                                              (Co.positions (Prod.fst (newCo patience))))
                                                                            (D.like (hs_3 0 1)
                                                                              (Co.seen (Prod.fst (newCo patience))))
                                                                            (Co.valid (Prod.fst (newCo patience)))))
                                                          (Tree.br
                                                            (decide
                                                              (Prod.snd (newCo patience) = Prod.snd (newCo patience)))
                                                            (Tree.need
                                                              (D.Is Int
                                                                  (D.like (hs_4 0 0)
                                                                    (Prod.fst
                                                                      (resultCo
                                                                        (CoD.co
                                                                          (CoD.mk nodes round phase deadline d s
                                                                            valid))))) ∧
                                                                D.Is Int
                                                                    (D.like (hs_5 0 0)
                                                                      (Prod.fst
                                                                        (resultCo
                                                                          (CoD.co
                                                                            (CoD.mk nodes round phase deadline d s
                                                                              valid))))) ∧
                                                                  D.len
                                                                        (D.like (hs_4 0 0)
                                                                          (Prod.fst
                                                                            (resultCo
                                                                              (CoD.co
                                                                                (CoD.mk nodes round phase deadline d s
                                                                                  valid))))) ≤
                                                                      1048576 ∧
                                                                    D.to Int
                                                                        (D.like (hs_4 0 0)
                                                                          (Prod.fst
                                                                            (resultCo
                                                                              (CoD.co
                                                                                (CoD.mk nodes round phase deadline d s
                                                                                  valid))))) =
                                                                      D.to Int
                                                                        (D.like (hs_5 0 0)
                                                                          (Prod.fst
                                                                            (resultCo
                                                                              (CoD.co
                                                                                (CoD.mk nodes round phase deadline d s
                                                                                  valid))))))
                                                              (Tree.ret
                                                                (SV.bool
                                                                  (decide
                                                                    (Prod.snd
                                                                        (resultCo
                                                                          (CoD.co
                                                                            (CoD.mk nodes round phase deadline d s
                                                                              valid))) =
                                                                      Prod.snd
                                                                        (resultCo
                                                                          (CoD.co
                                                                            (CoD.mk nodes round phase deadline d s
                                                                              valid))))))))
                                                            (Tree.ret (SV.lb false)))))))))))))))))))))
        (Tree.ret (SV.lb true)))
      (Tree.ret (SV.lb true)))
    (Tree.ret (SV.lb true)) := by kernel_rfl

theorem obeys_in : exec Try.prog ctL 400 (entry Try.prog 4 [.agg [.int .i64 mr, .int .i64 mp, .int .i64 mt, .int .i64 mi, .bool frozen, .int .i64 mu, .dat wt, .dat hd], .agg [.int .i64 mk, .int .i64 mf, .int .i64 mto, .int .i64 mn, .int .i64 mv, .int .i64 me, .dat ml, .dat mb, .int .i64 now, .int .i64 patience]]) =
  Tree.br true
    (Tree.br true
      (Tree.br (decide ((↑(D.len wt) : Int) ≤ 30))
        (Tree.br (!decide ((↑(D.len hd) : Int) ≤ 30)) (Tree.ret (SV.lb true))
          (Tree.br (decide ((↑(D.len ml) : Int) > 20)) (Tree.ret (SV.lb true))
            (Tree.br (decide ((↑(D.len mb) : Int) > 20)) (Tree.ret (SV.lb true))
              (Tree.need (MbD.Right (MbD.mk mr mp mt mi frozen mu wt hd))
                (Tree.all fun hs =>
                  Tree.need (MbD.Right (MbD.mk mr mp mt mi frozen mu wt hd))
                    (Tree.all fun hs_1 =>
                      Tree.need
                        (MbD.Right
                            (MbD.mk
                              (Mb.round
                                (Prod.fst
                                  (obeyMb (MbD.mb (MbD.mk mr mp mt mi frozen mu wt hd)) now patience
                                    (MsgD.msg (MsgD.mk mk mf mto mn mv me ml mb)))))
                              (Mb.position
                                (Prod.fst
                                  (obeyMb (MbD.mb (MbD.mk mr mp mt mi frozen mu wt hd)) now patience
                                    (MsgD.msg (MsgD.mk mk mf mto mn mv me ml mb)))))
                              (Mb.thawed
                                (Prod.fst
                                  (obeyMb (MbD.mb (MbD.mk mr mp mt mi frozen mu wt hd)) now patience
                                    (MsgD.msg (MsgD.mk mk mf mto mn mv me ml mb)))))
                              (Mb.issued
                                (Prod.fst
                                  (obeyMb (MbD.mb (MbD.mk mr mp mt mi frozen mu wt hd)) now patience
                                    (MsgD.msg (MsgD.mk mk mf mto mn mv me ml mb)))))
                              (Mb.frozen
                                (Prod.fst
                                  (obeyMb (MbD.mb (MbD.mk mr mp mt mi frozen mu wt hd)) now patience
                                    (MsgD.msg (MsgD.mk mk mf mto mn mv me ml mb)))))
                              (Mb.upto
                                (Prod.fst
                                  (obeyMb (MbD.mb (MbD.mk mr mp mt mi frozen mu wt hd)) now patience
                                    (MsgD.msg (MsgD.mk mk mf mto mn mv me ml mb)))))
                              (D.like (hs 0 0)
                                (Mb.waiting
                                  (Prod.fst
                                    (obeyMb (MbD.mb (MbD.mk mr mp mt mi frozen mu wt hd)) now patience
                                      (MsgD.msg (MsgD.mk mk mf mto mn mv me ml mb))))))
                              (D.like (hs 0 1)
                                (Mb.held
                                  (Prod.fst
                                    (obeyMb (MbD.mb (MbD.mk mr mp mt mi frozen mu wt hd)) now patience
                                      (MsgD.msg (MsgD.mk mk mf mto mn mv me ml mb))))))) ∧
                          MbD.Right
                              (MbD.mk
                                (Mb.round
                                  (Prod.fst
                                    (obeyMb (MbD.mb (MbD.mk mr mp mt mi frozen mu wt hd)) now patience
                                      (MsgD.msg (MsgD.mk mk mf mto mn mv me ml mb)))))
                                (Mb.position
                                  (Prod.fst
                                    (obeyMb (MbD.mb (MbD.mk mr mp mt mi frozen mu wt hd)) now patience
                                      (MsgD.msg (MsgD.mk mk mf mto mn mv me ml mb)))))
                                (Mb.thawed
                                  (Prod.fst
                                    (obeyMb (MbD.mb (MbD.mk mr mp mt mi frozen mu wt hd)) now patience
                                      (MsgD.msg (MsgD.mk mk mf mto mn mv me ml mb)))))
                                (Mb.issued
                                  (Prod.fst
                                    (obeyMb (MbD.mb (MbD.mk mr mp mt mi frozen mu wt hd)) now patience
                                      (MsgD.msg (MsgD.mk mk mf mto mn mv me ml mb)))))
                                (Mb.frozen
                                  (Prod.fst
                                    (obeyMb (MbD.mb (MbD.mk mr mp mt mi frozen mu wt hd)) now patience
                                      (MsgD.msg (MsgD.mk mk mf mto mn mv me ml mb)))))
                                (Mb.upto
                                  (Prod.fst
                                    (obeyMb (MbD.mb (MbD.mk mr mp mt mi frozen mu wt hd)) now patience
                                      (MsgD.msg (MsgD.mk mk mf mto mn mv me ml mb)))))
                                (D.like (hs_1 0 0)
                                  (Mb.waiting
                                    (Prod.fst
                                      (obeyMb (MbD.mb (MbD.mk mr mp mt mi frozen mu wt hd)) now patience
                                        (MsgD.msg (MsgD.mk mk mf mto mn mv me ml mb))))))
                                (D.like (hs_1 0 1)
                                  (Mb.held
                                    (Prod.fst
                                      (obeyMb (MbD.mb (MbD.mk mr mp mt mi frozen mu wt hd)) now patience
                                        (MsgD.msg (MsgD.mk mk mf mto mn mv me ml mb))))))) ∧
                            MbD.mb
                                (MbD.mk
                                  (Mb.round
                                    (Prod.fst
                                      (obeyMb (MbD.mb (MbD.mk mr mp mt mi frozen mu wt hd)) now patience
                                        (MsgD.msg (MsgD.mk mk mf mto mn mv me ml mb)))))
                                  (Mb.position
                                    (Prod.fst
                                      (obeyMb (MbD.mb (MbD.mk mr mp mt mi frozen mu wt hd)) now patience
                                        (MsgD.msg (MsgD.mk mk mf mto mn mv me ml mb)))))
                                  (Mb.thawed
                                    (Prod.fst
                                      (obeyMb (MbD.mb (MbD.mk mr mp mt mi frozen mu wt hd)) now patience
                                        (MsgD.msg (MsgD.mk mk mf mto mn mv me ml mb)))))
                                  (Mb.issued
                                    (Prod.fst
                                      (obeyMb (MbD.mb (MbD.mk mr mp mt mi frozen mu wt hd)) now patience
                                        (MsgD.msg (MsgD.mk mk mf mto mn mv me ml mb)))))
                                  (Mb.frozen
                                    (Prod.fst
                                      (obeyMb (MbD.mb (MbD.mk mr mp mt mi frozen mu wt hd)) now patience
                                        (MsgD.msg (MsgD.mk mk mf mto mn mv me ml mb)))))
                                  (Mb.upto
                                    (Prod.fst
                                      (obeyMb (MbD.mb (MbD.mk mr mp mt mi frozen mu wt hd)) now patience
                                        (MsgD.msg (MsgD.mk mk mf mto mn mv me ml mb)))))
                                  (D.like (hs 0 0)
                                    (Mb.waiting
                                      (Prod.fst
                                        (obeyMb (MbD.mb (MbD.mk mr mp mt mi frozen mu wt hd)) now patience
                                          (MsgD.msg (MsgD.mk mk mf mto mn mv me ml mb))))))
                                  (D.like (hs 0 1)
                                    (Mb.held
                                      (Prod.fst
                                        (obeyMb (MbD.mb (MbD.mk mr mp mt mi frozen mu wt hd)) now patience
                                          (MsgD.msg (MsgD.mk mk mf mto mn mv me ml mb))))))) =
                              MbD.mb
                                (MbD.mk
                                  (Mb.round
                                    (Prod.fst
                                      (obeyMb (MbD.mb (MbD.mk mr mp mt mi frozen mu wt hd)) now patience
                                        (MsgD.msg (MsgD.mk mk mf mto mn mv me ml mb)))))
                                  (Mb.position
                                    (Prod.fst
                                      (obeyMb (MbD.mb (MbD.mk mr mp mt mi frozen mu wt hd)) now patience
                                        (MsgD.msg (MsgD.mk mk mf mto mn mv me ml mb)))))
                                  (Mb.thawed
                                    (Prod.fst
                                      (obeyMb (MbD.mb (MbD.mk mr mp mt mi frozen mu wt hd)) now patience
                                        (MsgD.msg (MsgD.mk mk mf mto mn mv me ml mb)))))
                                  (Mb.issued
                                    (Prod.fst
                                      (obeyMb (MbD.mb (MbD.mk mr mp mt mi frozen mu wt hd)) now patience
                                        (MsgD.msg (MsgD.mk mk mf mto mn mv me ml mb)))))
                                  (Mb.frozen
                                    (Prod.fst
                                      (obeyMb (MbD.mb (MbD.mk mr mp mt mi frozen mu wt hd)) now patience
                                        (MsgD.msg (MsgD.mk mk mf mto mn mv me ml mb)))))
                                  (Mb.upto
                                    (Prod.fst
                                      (obeyMb (MbD.mb (MbD.mk mr mp mt mi frozen mu wt hd)) now patience
                                        (MsgD.msg (MsgD.mk mk mf mto mn mv me ml mb)))))
                                  (D.like (hs_1 0 0)
                                    (Mb.waiting
                                      (Prod.fst
                                        (obeyMb (MbD.mb (MbD.mk mr mp mt mi frozen mu wt hd)) now patience
                                          (MsgD.msg (MsgD.mk mk mf mto mn mv me ml mb))))))
                                  (D.like (hs_1 0 1)
                                    (Mb.held
                                      (Prod.fst
                                        (obeyMb (MbD.mb (MbD.mk mr mp mt mi frozen mu wt hd)) now patience
                                          (MsgD.msg (MsgD.mk mk mf mto mn mv me ml mb))))))))
                        (Tree.need
                          (D.Is Int
                              (D.like (hs 0 2)
                                (Prod.fst
                                  (Prod.snd
                                    (obeyMb (MbD.mb (MbD.mk mr mp mt mi frozen mu wt hd)) now patience
                                      (MsgD.msg (MsgD.mk mk mf mto mn mv me ml mb)))))) ∧
                            D.Is Int
                                (D.like (hs_1 0 2)
                                  (Prod.fst
                                    (Prod.snd
                                      (obeyMb (MbD.mb (MbD.mk mr mp mt mi frozen mu wt hd)) now patience
                                        (MsgD.msg (MsgD.mk mk mf mto mn mv me ml mb)))))) ∧
                              D.len
                                    (D.like (hs 0 2)
                                      (Prod.fst
                                        (Prod.snd
                                          (obeyMb (MbD.mb (MbD.mk mr mp mt mi frozen mu wt hd)) now patience
                                            (MsgD.msg (MsgD.mk mk mf mto mn mv me ml mb)))))) ≤
                                  1048576 ∧
                                D.to Int
                                    (D.like (hs 0 2)
                                      (Prod.fst
                                        (Prod.snd
                                          (obeyMb (MbD.mb (MbD.mk mr mp mt mi frozen mu wt hd)) now patience
                                            (MsgD.msg (MsgD.mk mk mf mto mn mv me ml mb)))))) =
                                  D.to Int
                                    (D.like (hs_1 0 2)
                                      (Prod.fst
                                        (Prod.snd
                                          (obeyMb (MbD.mb (MbD.mk mr mp mt mi frozen mu wt hd)) now patience
                                            (MsgD.msg (MsgD.mk mk mf mto mn mv me ml mb)))))))
                          (Tree.need
                            (D.Is Msg
                                (D.like (hs 0 3)
                                  (Prod.snd
                                    (Prod.snd
                                      (obeyMb (MbD.mb (MbD.mk mr mp mt mi frozen mu wt hd)) now patience
                                        (MsgD.msg (MsgD.mk mk mf mto mn mv me ml mb)))))) ∧
                              D.Is Msg
                                  (D.like (hs_1 0 3)
                                    (Prod.snd
                                      (Prod.snd
                                        (obeyMb (MbD.mb (MbD.mk mr mp mt mi frozen mu wt hd)) now patience
                                          (MsgD.msg (MsgD.mk mk mf mto mn mv me ml mb)))))) ∧
                                D.len
                                      (D.like (hs 0 3)
                                        (Prod.snd
                                          (Prod.snd
                                            (obeyMb (MbD.mb (MbD.mk mr mp mt mi frozen mu wt hd)) now patience
                                              (MsgD.msg (MsgD.mk mk mf mto mn mv me ml mb)))))) ≤
                                    1048576 ∧
                                  (∀ (m : Msg),
                                      List.Mem m
                                          (D.to Msg
                                            (D.like (hs 0 3)
                                              (Prod.snd
                                                (Prod.snd
                                                  (obeyMb (MbD.mb (MbD.mk mr mp mt mi frozen mu wt hd)) now patience
                                                    (MsgD.msg (MsgD.mk mk mf mto mn mv me ml mb))))))) →
                                        Msg.values m = [] ∧ Msg.body m = []) ∧
                                    D.to Msg
                                        (D.like (hs 0 3)
                                          (Prod.snd
                                            (Prod.snd
                                              (obeyMb (MbD.mb (MbD.mk mr mp mt mi frozen mu wt hd)) now patience
                                                (MsgD.msg (MsgD.mk mk mf mto mn mv me ml mb)))))) =
                                      D.to Msg
                                        (D.like (hs_1 0 3)
                                          (Prod.snd
                                            (Prod.snd
                                              (obeyMb (MbD.mb (MbD.mk mr mp mt mi frozen mu wt hd)) now patience
                                                (MsgD.msg (MsgD.mk mk mf mto mn mv me ml mb)))))))
                            (Tree.ret (SV.lb true))))))))))
        (Tree.ret (SV.lb true)))
      (Tree.ret (SV.lb true)))
    (Tree.ret (SV.lb true)) := by kernel_rfl

theorem collects_in : exec Try.prog ctL 400 (entry Try.prog 5 [.agg [.int .i64 nodes, .int .i64 round, .int .i64 phase, .int .i64 deadline, .dat d, .dat s, .bool valid], .int .i64 now, .agg [.int .i64 mk, .int .i64 mf, .int .i64 mto, .int .i64 mn, .int .i64 mv, .int .i64 me, .dat ml, .dat mb]]) =
  Tree.br (decide ((↑(D.len d) : Int) ≤ 20))
    (Tree.br (decide ((↑(D.len s) : Int) ≤ 20))
      (Tree.br true
        (Tree.br false (Tree.ret (SV.lb true))
          (Tree.br (decide ((↑(D.len ml) : Int) > 20)) (Tree.ret (SV.lb true))
            (Tree.br (decide ((↑(D.len mb) : Int) > 20)) (Tree.ret (SV.lb true))
              (Tree.need (D.Is Int d ∧ D.Is Bool s)
                (Tree.all fun hs =>
                  Tree.need (D.Is Int d ∧ D.Is Bool s)
                    (Tree.all fun hs_1 =>
                      Tree.need
                        (D.Is Int
                            (D.like (hs 0 0)
                              (Co.positions
                                (Prod.fst
                                  (collectCo (CoD.co (CoD.mk nodes round phase deadline d s valid)) now
                                    (MsgD.msg (MsgD.mk mk mf mto mn mv me ml mb)))))) ∧
                          D.Is Bool
                              (D.like (hs 0 1)
                                (Co.seen
                                  (Prod.fst
                                    (collectCo (CoD.co (CoD.mk nodes round phase deadline d s valid)) now
                                      (MsgD.msg (MsgD.mk mk mf mto mn mv me ml mb)))))) ∧
                            D.Is Int
                                (D.like (hs_1 0 0)
                                  (Co.positions
                                    (Prod.fst
                                      (collectCo (CoD.co (CoD.mk nodes round phase deadline d s valid)) now
                                        (MsgD.msg (MsgD.mk mk mf mto mn mv me ml mb)))))) ∧
                              D.Is Bool
                                  (D.like (hs_1 0 1)
                                    (Co.seen
                                      (Prod.fst
                                        (collectCo (CoD.co (CoD.mk nodes round phase deadline d s valid)) now
                                          (MsgD.msg (MsgD.mk mk mf mto mn mv me ml mb)))))) ∧
                                D.len
                                      (D.like (hs 0 0)
                                        (Co.positions
                                          (Prod.fst
                                            (collectCo (CoD.co (CoD.mk nodes round phase deadline d s valid)) now
                                              (MsgD.msg (MsgD.mk mk mf mto mn mv me ml mb)))))) ≤
                                    1048576 ∧
                                  D.len
                                        (D.like (hs 0 1)
                                          (Co.seen
                                            (Prod.fst
                                              (collectCo (CoD.co (CoD.mk nodes round phase deadline d s valid)) now
                                                (MsgD.msg (MsgD.mk mk mf mto mn mv me ml mb)))))) ≤
                                      1048576 ∧
                                    CoD.co
                                        (CoD.mk
                                          (Co.nodes
                                            (Prod.fst
                                              (collectCo (CoD.co (CoD.mk nodes round phase deadline d s valid)) now
                                                (MsgD.msg (MsgD.mk mk mf mto mn mv me ml mb)))))
                                          (Co.round
                                            (Prod.fst
                                              (collectCo (CoD.co (CoD.mk nodes round phase deadline d s valid)) now
                                                (MsgD.msg (MsgD.mk mk mf mto mn mv me ml mb)))))
                                          (Co.phase
                                            (Prod.fst
                                              (collectCo (CoD.co (CoD.mk nodes round phase deadline d s valid)) now
                                                (MsgD.msg (MsgD.mk mk mf mto mn mv me ml mb)))))
                                          (Co.deadline
                                            (Prod.fst
                                              (collectCo (CoD.co (CoD.mk nodes round phase deadline d s valid)) now
                                                (MsgD.msg (MsgD.mk mk mf mto mn mv me ml mb)))))
                                          (D.like (hs 0 0)
                                            (Co.positions
                                              (Prod.fst
                                                (collectCo (CoD.co (CoD.mk nodes round phase deadline d s valid)) now
                                                  (MsgD.msg (MsgD.mk mk mf mto mn mv me ml mb))))))
                                          (D.like (hs 0 1)
                                            (Co.seen
                                              (Prod.fst
                                                (collectCo (CoD.co (CoD.mk nodes round phase deadline d s valid)) now
                                                  (MsgD.msg (MsgD.mk mk mf mto mn mv me ml mb))))))
                                          (Co.valid
                                            (Prod.fst
                                              (collectCo (CoD.co (CoD.mk nodes round phase deadline d s valid)) now
                                                (MsgD.msg (MsgD.mk mk mf mto mn mv me ml mb)))))) =
                                      CoD.co
                                        (CoD.mk
                                          (Co.nodes
                                            (Prod.fst
                                              (collectCo (CoD.co (CoD.mk nodes round phase deadline d s valid)) now
                                                (MsgD.msg (MsgD.mk mk mf mto mn mv me ml mb)))))
                                          (Co.round
                                            (Prod.fst
                                              (collectCo (CoD.co (CoD.mk nodes round phase deadline d s valid)) now
                                                (MsgD.msg (MsgD.mk mk mf mto mn mv me ml mb)))))
                                          (Co.phase
                                            (Prod.fst
                                              (collectCo (CoD.co (CoD.mk nodes round phase deadline d s valid)) now
                                                (MsgD.msg (MsgD.mk mk mf mto mn mv me ml mb)))))
                                          (Co.deadline
                                            (Prod.fst
                                              (collectCo (CoD.co (CoD.mk nodes round phase deadline d s valid)) now
                                                (MsgD.msg (MsgD.mk mk mf mto mn mv me ml mb)))))
                                          (D.like (hs_1 0 0)
                                            (Co.positions
                                              (Prod.fst
                                                (collectCo (CoD.co (CoD.mk nodes round phase deadline d s valid)) now
                                                  (MsgD.msg (MsgD.mk mk mf mto mn mv me ml mb))))))
                                          (D.like (hs_1 0 1)
                                            (Co.seen
                                              (Prod.fst
                                                (collectCo (CoD.co (CoD.mk nodes round phase deadline d s valid)) now
                                                  (MsgD.msg (MsgD.mk mk mf mto mn mv me ml mb))))))
                                          (Co.valid
                                            (Prod.fst
                                              (collectCo (CoD.co (CoD.mk nodes round phase deadline d s valid)) now
                                                (MsgD.msg (MsgD.mk mk mf mto mn mv me ml mb)))))))
                        (Tree.need
                          (D.Is Msg
                              (D.like (hs 0 2)
                                (Prod.snd
                                  (collectCo (CoD.co (CoD.mk nodes round phase deadline d s valid)) now
                                    (MsgD.msg (MsgD.mk mk mf mto mn mv me ml mb))))) ∧
                            D.Is Msg
                                (D.like (hs_1 0 2)
                                  (Prod.snd
                                    (collectCo (CoD.co (CoD.mk nodes round phase deadline d s valid)) now
                                      (MsgD.msg (MsgD.mk mk mf mto mn mv me ml mb))))) ∧
                              D.len
                                    (D.like (hs 0 2)
                                      (Prod.snd
                                        (collectCo (CoD.co (CoD.mk nodes round phase deadline d s valid)) now
                                          (MsgD.msg (MsgD.mk mk mf mto mn mv me ml mb))))) ≤
                                  1048576 ∧
                                (∀ (m : Msg),
                                    List.Mem m
                                        (D.to Msg
                                          (D.like (hs 0 2)
                                            (Prod.snd
                                              (collectCo (CoD.co (CoD.mk nodes round phase deadline d s valid)) now
                                                (MsgD.msg (MsgD.mk mk mf mto mn mv me ml mb)))))) →
                                      Msg.values m = [] ∧ Msg.body m = []) ∧
                                  D.to Msg
                                      (D.like (hs 0 2)
                                        (Prod.snd
                                          (collectCo (CoD.co (CoD.mk nodes round phase deadline d s valid)) now
                                            (MsgD.msg (MsgD.mk mk mf mto mn mv me ml mb))))) =
                                    D.to Msg
                                      (D.like (hs_1 0 2)
                                        (Prod.snd
                                          (collectCo (CoD.co (CoD.mk nodes round phase deadline d s valid)) now
                                            (MsgD.msg (MsgD.mk mk mf mto mn mv me ml mb))))))
                          (Tree.need (D.Is Int d ∧ D.Is Bool s)
                            (Tree.all fun hs =>
                              Tree.need (D.Is Int d ∧ D.Is Bool s)
                                (Tree.all fun hs_2 =>
                                  Tree.need
                                    (D.Is Int
                                        (D.like (hs 0 0)
                                          (Co.positions
                                            (Prod.fst
                                              (expireCo (CoD.co (CoD.mk nodes round phase deadline d s valid)) now)))) ∧
                                      D.Is Bool
                                          (D.like (hs 0 1)
                                            (Co.seen
                                              (Prod.fst
                                                (expireCo (CoD.co (CoD.mk nodes round phase deadline d s valid)) now)))) ∧
                                        D.Is Int
                                            (D.like (hs_2 0 0)
                                              (Co.positions
                                                (Prod.fst
                                                  (expireCo (CoD.co (CoD.mk nodes round phase deadline d s valid))
                                                    now)))) ∧
                                          D.Is Bool
                                              (D.like (hs_2 0 1)
                                                (Co.seen
                                                  (Prod.fst
                                                    (expireCo (CoD.co (CoD.mk nodes round phase deadline d s valid))
                                                      now)))) ∧
                                            D.len
                                                  (D.like (hs 0 0)
                                                    (Co.positions
                                                      (Prod.fst
                                                        (expireCo (CoD.co (CoD.mk nodes round phase deadline d s valid))
                                                          now)))) ≤
                                                1048576 ∧
                                              D.len
                                                    (D.like (hs 0 1)
                                                      (Co.seen
                                                        (Prod.fst
                                                          (expireCo (CoD.co (CoD.mk nodes round phase deadline d s valid))
                                                            now)))) ≤
                                                  1048576 ∧
                                                CoD.co
                                                    (CoD.mk
                                                      (Co.nodes
                                                        (Prod.fst
                                                          (expireCo (CoD.co (CoD.mk nodes round phase deadline d s valid))
                                                            now)))
                                                      (Co.round
                                                        (Prod.fst
                                                          (expireCo (CoD.co (CoD.mk nodes round phase deadline d s valid))
                                                            now)))
                                                      (Co.phase
                                                        (Prod.fst
                                                          (expireCo (CoD.co (CoD.mk nodes round phase deadline d s valid))
                                                            now)))
                                                      (Co.deadline
                                                        (Prod.fst
                                                          (expireCo (CoD.co (CoD.mk nodes round phase deadline d s valid))
                                                            now)))
                                                      (D.like (hs 0 0)
                                                        (Co.positions
                                                          (Prod.fst
                                                            (expireCo
                                                              (CoD.co (CoD.mk nodes round phase deadline d s valid))
                                                              now))))
                                                      (D.like (hs 0 1)
                                                        (Co.seen
                                                          (Prod.fst
                                                            (expireCo
                                                              (CoD.co (CoD.mk nodes round phase deadline d s valid))
                                                              now))))
                                                      (Co.valid
                                                        (Prod.fst
                                                          (expireCo (CoD.co (CoD.mk nodes round phase deadline d s valid))
                                                            now)))) =
                                                  CoD.co
                                                    (CoD.mk
                                                      (Co.nodes
                                                        (Prod.fst
                                                          (expireCo (CoD.co (CoD.mk nodes round phase deadline d s valid))
                                                            now)))
                                                      (Co.round
                                                        (Prod.fst
                                                          (expireCo (CoD.co (CoD.mk nodes round phase deadline d s valid))
                                                            now)))
                                                      (Co.phase
                                                        (Prod.fst
                                                          (expireCo (CoD.co (CoD.mk nodes round phase deadline d s valid))
                                                            now)))
                                                      (Co.deadline
                                                        (Prod.fst
                                                          (expireCo (CoD.co (CoD.mk nodes round phase deadline d s valid))
                                                            now)))
                                                      (D.like (hs_2 0 0)
                                                        (Co.positions
                                                          (Prod.fst
                                                            (expireCo
                                                              (CoD.co (CoD.mk nodes round phase deadline d s valid))
                                                              now))))
                                                      (D.like (hs_2 0 1)
                                                        (Co.seen
                                                          (Prod.fst
                                                            (expireCo
                                                              (CoD.co (CoD.mk nodes round phase deadline d s valid))
                                                              now))))
                                                      (Co.valid
                                                        (Prod.fst
                                                          (expireCo (CoD.co (CoD.mk nodes round phase deadline d s valid))
                                                            now)))))
                                    (Tree.need
                                      (D.Is Msg
                                          (D.like (hs 0 2)
                                            (Prod.snd
                                              (expireCo (CoD.co (CoD.mk nodes round phase deadline d s valid)) now))) ∧
                                        D.Is Msg
                                            (D.like (hs_2 0 2)
                                              (Prod.snd
                                                (expireCo (CoD.co (CoD.mk nodes round phase deadline d s valid)) now))) ∧
                                          D.len
                                                (D.like (hs 0 2)
                                                  (Prod.snd
                                                    (expireCo (CoD.co (CoD.mk nodes round phase deadline d s valid))
                                                      now))) ≤
                                              1048576 ∧
                                            (∀ (m : Msg),
                                                List.Mem m
                                                    (D.to Msg
                                                      (D.like (hs 0 2)
                                                        (Prod.snd
                                                          (expireCo (CoD.co (CoD.mk nodes round phase deadline d s valid))
                                                            now)))) →
                                                  Msg.values m = [] ∧ Msg.body m = []) ∧
                                              D.to Msg
                                                  (D.like (hs 0 2)
                                                    (Prod.snd
                                                      (expireCo (CoD.co (CoD.mk nodes round phase deadline d s valid))
                                                        now))) =
                                                D.to Msg
                                                  (D.like (hs_2 0 2)
                                                    (Prod.snd
                                                      (expireCo (CoD.co (CoD.mk nodes round phase deadline d s valid))
                                                        now))))
                                      (Tree.ret (SV.lb true)))))))))))))
        (Tree.ret (SV.lb true)))
      (Tree.ret (SV.lb true)))
    (Tree.ret (SV.lb true)) := by kernel_rfl

end
end Go.Proofs.Ytoechplbhbalaaa
end
section
/- Layer 21: BarrierStarts, BarrierObeys, BarrierCollects. -/
open Go Go.Proofs Sx
namespace Sx
theorem co_like (a b c e : Int) (x y : D) (p : List Int) (q : List Bool) (v : Bool) : (CoD.mk a b c e (x.like p) (y.like q) v).co = ⟨a, b, c, e, p, q, v⟩ := by simp [CoD.co, D.like_to]
theorem mb_like (a b c e g : Int) (x y : D) (p q : List Int) (v : Bool) : (MbD.mk a b c e v g (x.like p) (y.like q)).mb = ⟨a, b, c, e, v, g, p, q⟩ := by simp [MbD.mb, D.like_to]
theorem like_len {α : Type} [Codec α] (d : D) (l : List α) : (d.like l).len = l.length := by rw [D.Is.length (α := α), D.like_to]
theorem right_like (a b c e g : Int) (x y : D) (p q : List Int) (v : Bool) : (MbD.mk a b c e v g (x.like p) (y.like q)).Right ↔ p.length ≤ 1048575 ∧ q.length ≤ 1048575 := by
  simp [MbD.Right, D.like_is, like_len]

/-- A message with the time and the patience of its receiver. -/
def rdCall : Rd1 (MsgD × Int × Int) where
  read x := match x with
    | .agg [.int .i64 a, .int .i64 b, .int .i64 c, .int .i64 d, .int .i64 e, .int .i64 f, v, w, .int .i64 n, .int .i64 p] => match rdD.read v, rdD.read w with
      | some v, some w => some (⟨a, b, c, d, e, f, v, w⟩, n, p)
      | _, _ => none
    | _ => none
  canon x := .agg [.int .i64 x.1.a, .int .i64 x.1.b, .int .i64 x.1.c, .int .i64 x.1.d, .int .i64 x.1.e, .int .i64 x.1.f, .dat x.1.v, .dat x.1.w, .int .i64 x.2.1, .int .i64 x.2.2]
  right H E x b h hok := by
    split at h
    · split at h
      · rename_i hv hw
        cases h
        obtain ⟨h1, h2⟩ := rdD.right H E _ _ hv hok.2.2.2.2.2.2.1
        obtain ⟨h3, h4⟩ := rdD.right H E _ _ hw hok.2.2.2.2.2.2.2.1
        exact ⟨by simp only [SV.den, SV.denL, h1, h3, rdD], trivial, trivial, trivial, trivial, trivial, trivial, h2, h4, trivial, trivial, trivial⟩
      · cases h
    · cases h

def Plain2 (l : List Msg) : Prop := ∀ m : Msg, List.Mem m l → m.values = [] ∧ m.body = []
theorem msgsTo_pl (n r k : Int) : Plain2 (msgsTo n r k) := fun m hm => by
  have hm : m ∈ msgsTo n r k := hm
  simp only [msgsTo, List.mem_map] at hm
  obtain ⟨i, _, rfl⟩ := hm
  exact ⟨rfl, rfl⟩
theorem nil_pl : Plain2 [] := fun m hm => by cases hm
theorem msgsTo_length (n r k : Int) : (msgsTo n r k).length = n.toNat := by simp [msgsTo]
theorem ansTo_pl (m : Msg) (k v : Int) : Plain2 (ansTo m k v) := fun x hm => by
  have hm : x ∈ ansTo m k v := hm
  simp only [ansTo, List.mem_singleton] at hm
  subst hm
  exact ⟨rfl, rfl⟩

theorem checkCo_nodes {c : Co} (h : checkCo c = 0) : 1 ≤ c.nodes ∧ c.nodes ≤ 8 := (checkCo_zero.1 (show checkCo ⟨c.nodes, c.round, c.phase, c.deadline, c.positions, c.seen, c.valid⟩ = 0 from h)).1

theorem newCo_len (n : Int) : (newCo n).1.positions.length ≤ 8 ∧ (newCo n).1.seen.length ≤ 8 := by
  unfold newCo
  split
  · simp
  · simp; omega
theorem startCo_len (c : Co) (a b : Int) : (startCo c a b).1.positions.length ≤ 8 ∧ (startCo c a b).1.seen.length ≤ 8 ∧ (startCo c a b).2.1.length ≤ 8 ∧ Plain2 (startCo c a b).2.1 := by
  rcases checkCo_or c with h | h
  · rw [show c = ⟨c.nodes, c.round, c.phase, c.deadline, c.positions, c.seen, c.valid⟩ from rfl] at h ⊢
    have hn : 1 ≤ c.nodes ∧ c.nodes ≤ 8 := checkCo_nodes h
    rw [startCo_eq h]
    split
    · simp [zCo, nil_pl]
    · split
      · simp [zCo, nil_pl]
      · split
        · simp [zCo, nil_pl]
        · simp only [List.length_replicate, msgsTo_length]
          exact ⟨by omega, by omega, by omega, msgsTo_pl _ _ _⟩
  · unfold startCo
    rw [if_pos (by rw [h]; decide)]
    simp [zCo, nil_pl]
theorem resultCo_len (c : Co) : (resultCo c).1.length ≤ c.positions.length := by
  unfold resultCo
  split <;> simp
theorem endMb_len (m : Mb) (now : Int) (g : Msg) : (endMb m now g).1.waiting.length ≤ m.waiting.length ∧ (endMb m now g).1.held.length ≤ m.held.length ∧ (endMb m now g).2.1.length ≤ m.held.length ∧ (endMb m now g).2.2.length ≤ 1 ∧ Plain2 (endMb m now g).2.2 := by
  unfold endMb
  split
  · simp [ansTo]; exact ansTo_pl _ _ _
  · split
    · simp [ansTo]; exact ansTo_pl _ _ _
    · simp [ansTo]; exact ansTo_pl _ _ _
theorem obeyMb_len (m : Mb) (now p : Int) (g : Msg) : (obeyMb m now p g).1.waiting.length ≤ m.waiting.length ∧ (obeyMb m now p g).1.held.length ≤ m.held.length ∧ (obeyMb m now p g).2.1.length ≤ m.held.length ∧ (obeyMb m now p g).2.2.length ≤ 1 ∧ Plain2 (obeyMb m now p g).2.2 := by
  unfold obeyMb
  repeat' split
  all_goals first
    | exact endMb_len _ _ _
    | exact ⟨Nat.le_refl _, Nat.le_refl _, Nat.zero_le _, Nat.le_refl _, ansTo_pl _ _ _⟩
    | exact ⟨Nat.le_refl _, Nat.le_refl _, Nat.zero_le _, Nat.zero_le _, nil_pl⟩
    | exact ⟨Nat.le_refl _, Nat.zero_le _, Nat.le_refl _, Nat.zero_le _, nil_pl⟩
theorem collectCo_len (c : Co) (now : Int) (g : Msg) : (collectCo c now g).1.positions.length ≤ c.positions.length ∧ (collectCo c now g).1.seen.length ≤ c.seen.length + 8 ∧ (collectCo c now g).2.length ≤ 8 ∧ Plain2 (collectCo c now g).2 := by
  unfold collectCo
  split
  · simp [nil_pl]
  · rename_i h
    simp only [not_or, ne_eq, Decidable.not_not] at h
    have hn := checkCo_nodes h.1
    repeat' split
    all_goals (simp [nil_pl, giveUpCo, msgsTo_length, msgsTo_pl]; try omega)
theorem expireCo_len (c : Co) (now : Int) : (expireCo c now).1.positions.length ≤ c.positions.length ∧ (expireCo c now).1.seen.length ≤ c.seen.length ∧ (expireCo c now).2.length ≤ 8 ∧ Plain2 (expireCo c now).2 := by
  unfold expireCo
  split
  · simp [nil_pl]
  · rename_i h
    simp only [not_or, ne_eq, Decidable.not_not] at h
    have hn := checkCo_nodes h.1
    simp [giveUpCo, msgsTo_length, msgsTo_pl]; omega
end Sx
namespace Go.Proofs.Ytoechplbhbalaaa
set_option maxRecDepth 100000
set_option maxHeartbeats 0
def spB1 (x : CoD × Int × Int) : SpecR := .scalar [x.1.d.Is Int ∧ x.1.s.Is Bool] (.lb true)
def spB3 (x : CoD × Int × MsgD) : SpecR := .scalar [x.1.d.Is Int ∧ x.1.s.Is Bool] (.lb true)

def spB2 (x : MbD × MsgD × Int × Int) : SpecR := .scalar [x.1.w.Is Int ∧ x.1.h.Is Int] (.lb true)

theorem lawStarts : Law Try.prog 3 ((rdCo.three rdInt rdInt).sp spB1) := by
  refine law_in _ (by kernel_rfl) fun H w ⟨⟨n, r, p, dl, d, s, v⟩, now, pat⟩ hok hp => ?_
  obtain ⟨hd, hs⟩ := hp _ (List.mem_singleton.2 rfl)
  simp only at hd hs
  apply exec_sound ctLOk 400
  rw [show (rdCo.three rdInt rdInt).canon (⟨n, r, p, dl, d, s, v⟩, now, pat) = [.agg [.int .i64 n, .int .i64 r, .int .i64 p, .int .i64 dl, .dat d, .dat s, .bool v], .int .i64 now, .int .i64 pat] from rfl, starts_in]
  refine ⟨fun hl1 => ⟨fun hl2 => ⟨fun _ => ⟨fun h => (by cases h), fun _ => ?_⟩, fun h => (by cases h)⟩, fun _ => ret_lbt⟩, fun _ => ret_lbt⟩
  have l1 : (d.to Int).length ≤ 20 := by have := of_decide_eq_true hl1; rw [D.Is.length (α := Int)] at this; omega
  have h1 := startCo_len (CoD.mk n r p dl d s v).co now pat
  have h2 := newCo_len pat
  have h3 := resultCo_len (CoD.mk n r p dl d s v).co
  have h4 : (CoD.mk n r p dl d s v).co.positions.length ≤ 20 := l1
  have a1 : (startCo (CoD.mk n r p dl d s v).co now pat).1.positions.length ≤ 1048576 := by omega
  have a2 : (startCo (CoD.mk n r p dl d s v).co now pat).1.seen.length ≤ 1048576 := by omega
  have a3 : (startCo (CoD.mk n r p dl d s v).co now pat).2.1.length ≤ 1048576 := by omega
  have a4 : ∀ m : Msg, List.Mem m (startCo (CoD.mk n r p dl d s v).co now pat).2.1 → m.values = [] ∧ m.body = [] := h1.2.2.2
  have a5 : (newCo pat).1.positions.length ≤ 1048576 := by omega
  have a6 : (newCo pat).1.seen.length ≤ 1048576 := by omega
  have a7 : (resultCo (CoD.mk n r p dl d s v).co).1.length ≤ 1048576 := by omega
  clear h1 h2 h3 h4 hok hp hl1 hl2
  simp [hd, hs, D.like_is, co_like, D.like_to, like_len, ret_sure, a1, a2, a3, a5, a6, a7]
  exact a4

theorem lawObeys : Law Try.prog 4 ((rdMb.two rdCall).sp spB2) := by
  refine law_in _ (by kernel_rfl) fun H w ⟨⟨r, p, t, i, f, u, wt, hd⟩, ⟨⟨mk, mf, mto, mn, mv, me, ml, mb⟩, now, pat⟩⟩ hok hp => ?_
  obtain ⟨hw, hh⟩ := hp _ (List.mem_singleton.2 rfl)
  simp only at hw hh
  apply exec_sound ctLOk 400
  rw [show (rdMb.two rdCall).canon (⟨r, p, t, i, f, u, wt, hd⟩, ⟨mk, mf, mto, mn, mv, me, ml, mb⟩, now, pat) = [.agg [.int .i64 r, .int .i64 p, .int .i64 t, .int .i64 i, .bool f, .int .i64 u, .dat wt, .dat hd], .agg [.int .i64 mk, .int .i64 mf, .int .i64 mto, .int .i64 mn, .int .i64 mv, .int .i64 me, .dat ml, .dat mb, .int .i64 now, .int .i64 pat]] from rfl, obeys_in]
  refine ⟨fun _ => ⟨fun _ => ⟨fun hl1 => ⟨fun _ => ret_lbt, fun hl2 => ⟨fun _ => ret_lbt, fun _ => ⟨fun _ => ret_lbt, fun _ => ?_⟩⟩⟩, fun _ => ret_lbt⟩, fun _ => ret_lbt⟩, fun _ => ret_lbt⟩
  have l1 : (wt.to Int).length ≤ 30 := by have := of_decide_eq_true hl1; rw [D.Is.length (α := Int)] at this; omega
  have l2 : (hd.to Int).length ≤ 30 := by simp only [Bool.not_eq_false'] at hl2; have := of_decide_eq_true hl2; rw [D.Is.length (α := Int)] at this; omega
  have k1 := D.Is.length (α := Int) wt
  have k2 := D.Is.length (α := Int) hd
  have hR : (MbD.mk r p t i f u wt hd).Right := ⟨hw, hh, by simp only; omega, by simp only; omega⟩
  obtain ⟨h1, h2, h3, h4, h5⟩ := obeyMb_len (MbD.mk r p t i f u wt hd).mb now pat (MsgD.mk mk mf mto mn mv me ml mb).msg
  have h6 : (MbD.mk r p t i f u wt hd).mb.waiting.length ≤ 30 := l1
  have h7 : (MbD.mk r p t i f u wt hd).mb.held.length ≤ 30 := l2
  have a1 : (obeyMb (MbD.mk r p t i f u wt hd).mb now pat (MsgD.mk mk mf mto mn mv me ml mb).msg).1.waiting.length ≤ 1048575 := by omega
  have a2 : (obeyMb (MbD.mk r p t i f u wt hd).mb now pat (MsgD.mk mk mf mto mn mv me ml mb).msg).1.held.length ≤ 1048575 := by omega
  have a3 : (obeyMb (MbD.mk r p t i f u wt hd).mb now pat (MsgD.mk mk mf mto mn mv me ml mb).msg).2.1.length ≤ 1048576 := by omega
  have a4 : (obeyMb (MbD.mk r p t i f u wt hd).mb now pat (MsgD.mk mk mf mto mn mv me ml mb).msg).2.2.length ≤ 1048576 := by omega
  have a5 : ∀ m : Msg, List.Mem m (obeyMb (MbD.mk r p t i f u wt hd).mb now pat (MsgD.mk mk mf mto mn mv me ml mb).msg).2.2 → m.values = [] ∧ m.body = [] := h5
  clear h1 h2 h3 h4 h5 h6 h7 hok hp hl1 hl2 l1 l2 k1 k2
  simp [hR, D.like_is, mb_like, right_like, D.like_to, like_len, ret_lbt, a1, a2, a3, a4]
  exact a5

theorem lawCollects : Law Try.prog 5 ((rdCo.three rdInt rdMsg).sp spB3) := by
  refine law_in _ (by kernel_rfl) fun H w ⟨⟨n, r, p, dl, d, s, v⟩, now, ⟨mk, mf, mto, mn, mv, me, ml, mb⟩⟩ hok hp => ?_
  obtain ⟨hd, hs⟩ := hp _ (List.mem_singleton.2 rfl)
  simp only at hd hs
  apply exec_sound ctLOk 400
  rw [show (rdCo.three rdInt rdMsg).canon (⟨n, r, p, dl, d, s, v⟩, now, ⟨mk, mf, mto, mn, mv, me, ml, mb⟩) = [.agg [.int .i64 n, .int .i64 r, .int .i64 p, .int .i64 dl, .dat d, .dat s, .bool v], .int .i64 now, .agg [.int .i64 mk, .int .i64 mf, .int .i64 mto, .int .i64 mn, .int .i64 mv, .int .i64 me, .dat ml, .dat mb]] from rfl, collects_in]
  refine ⟨fun hl1 => ⟨fun hl2 => ⟨fun _ => ⟨fun _ => ret_lbt, fun _ => ⟨fun _ => ret_lbt, fun _ => ⟨fun _ => ret_lbt, fun _ => ?_⟩⟩⟩, fun _ => ret_lbt⟩, fun _ => ret_lbt⟩, fun _ => ret_lbt⟩
  have l1 : (d.to Int).length ≤ 20 := by have := of_decide_eq_true hl1; rw [D.Is.length (α := Int)] at this; omega
  have l2 : (s.to Bool).length ≤ 20 := by have := of_decide_eq_true hl2; rw [D.Is.length (α := Bool)] at this; omega
  obtain ⟨h1, h2, h3, h4⟩ := collectCo_len (CoD.mk n r p dl d s v).co now (MsgD.mk mk mf mto mn mv me ml mb).msg
  obtain ⟨g1, g2, g3, g4⟩ := expireCo_len (CoD.mk n r p dl d s v).co now
  have h6 : (CoD.mk n r p dl d s v).co.positions.length ≤ 20 := l1
  have h7 : (CoD.mk n r p dl d s v).co.seen.length ≤ 20 := l2
  have a1 : (collectCo (CoD.mk n r p dl d s v).co now (MsgD.mk mk mf mto mn mv me ml mb).msg).1.positions.length ≤ 1048576 := by omega
  have a2 : (collectCo (CoD.mk n r p dl d s v).co now (MsgD.mk mk mf mto mn mv me ml mb).msg).1.seen.length ≤ 1048576 := by omega
  have a3 : (collectCo (CoD.mk n r p dl d s v).co now (MsgD.mk mk mf mto mn mv me ml mb).msg).2.length ≤ 1048576 := by omega
  have a4 : ∀ m : Msg, List.Mem m (collectCo (CoD.mk n r p dl d s v).co now (MsgD.mk mk mf mto mn mv me ml mb).msg).2 → m.values = [] ∧ m.body = [] := h4
  have b1 : (expireCo (CoD.mk n r p dl d s v).co now).1.positions.length ≤ 1048576 := by omega
  have b2 : (expireCo (CoD.mk n r p dl d s v).co now).1.seen.length ≤ 1048576 := by omega
  have b3 : (expireCo (CoD.mk n r p dl d s v).co now).2.length ≤ 1048576 := by omega
  have b4 : ∀ m : Msg, List.Mem m (expireCo (CoD.mk n r p dl d s v).co now).2 → m.values = [] ∧ m.body = [] := g4
  clear h1 h2 h3 h4 g1 g2 g3 g4 h6 h7 hok hp hl1 hl2 l1 l2
  simp [hd, hs, D.like_is, co_like, D.like_to, like_len, ret_lbt, a1, a2, a3, b1, b2, b3]
  exact ⟨a4, b4⟩
end Go.Proofs.Ytoechplbhbalaaa
end
