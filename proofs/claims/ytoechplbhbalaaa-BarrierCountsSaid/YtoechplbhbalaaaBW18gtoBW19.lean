/- Layer 21: BarrierCounts, walked. -/
import Derived.KernelRfl
import Derived.Test.YtoechplbhbalaaaBW15gtoBW18
set_option linter.all false
section
open Go Go.Proofs Sx
namespace Go.Proofs.Ytoechplbhbalaaa
set_option maxRecDepth 100000
set_option maxHeartbeats 0
section
variable (now write : Int) (wt hd : D) (frozen : Bool) (mr mp mt mi mu : Int)
theorem counts_in : exec Try.prog ctN 400 (entry Try.prog 7 [.agg [.int .i64 mr, .int .i64 mp, .int .i64 mt, .int .i64 mi, .bool frozen, .int .i64 mu, .dat wt, .dat hd], .int .i64 write, .int .i64 now]) =
  Tree.br true
    (Tree.br true
      (Tree.br (decide ((↑(D.len wt) : Int) ≤ 30))
        (Tree.br (!decide ((↑(D.len hd) : Int) ≤ 30)) (Tree.ret (SV.lb true))
          (Tree.need (MbD.Right (MbD.mk mr mp mt mi frozen mu wt hd))
            (Tree.all fun hs =>
              Tree.need (MbD.Right (MbD.mk mr mp mt mi frozen mu wt hd))
                (Tree.all fun hs_1 =>
                  Tree.all fun hs_2 =>
                    Tree.br
                      (Prod.snd (issueMb (MbD.mb (MbD.mk mr mp mt mi frozen mu wt hd))) !=
                        Prod.snd (issueMb (MbD.mb (MbD.mk mr mp mt mi frozen mu wt hd))))
                      (Tree.need
                        (MbD.Right
                            (MbD.mk (Mb.round (Prod.fst (issueMb (MbD.mb (MbD.mk mr mp mt mi frozen mu wt hd)))))
                              (Mb.position (Prod.fst (issueMb (MbD.mb (MbD.mk mr mp mt mi frozen mu wt hd)))))
                              (Mb.thawed (Prod.fst (issueMb (MbD.mb (MbD.mk mr mp mt mi frozen mu wt hd)))))
                              (Mb.issued (Prod.fst (issueMb (MbD.mb (MbD.mk mr mp mt mi frozen mu wt hd)))))
                              (Mb.frozen (Prod.fst (issueMb (MbD.mb (MbD.mk mr mp mt mi frozen mu wt hd)))))
                              (Mb.upto (Prod.fst (issueMb (MbD.mb (MbD.mk mr mp mt mi frozen mu wt hd)))))
                              (D.like (hs 0 0)
                                (Mb.waiting (Prod.fst (issueMb (MbD.mb (MbD.mk mr mp mt mi frozen mu wt hd))))))
                              (D.like (hs 0 1)
                                (Mb.held (Prod.fst (issueMb (MbD.mb (MbD.mk mr mp mt mi frozen mu wt hd))))))) ∧
                          MbD.Right
                              (MbD.mk (Mb.round (Prod.fst (issueMb (MbD.mb (MbD.mk mr mp mt mi frozen mu wt hd)))))
                                (Mb.position (Prod.fst (issueMb (MbD.mb (MbD.mk mr mp mt mi frozen mu wt hd)))))
                                (Mb.thawed (Prod.fst (issueMb (MbD.mb (MbD.mk mr mp mt mi frozen mu wt hd)))))
                                (Mb.issued (Prod.fst (issueMb (MbD.mb (MbD.mk mr mp mt mi frozen mu wt hd)))))
                                (Mb.frozen (Prod.fst (issueMb (MbD.mb (MbD.mk mr mp mt mi frozen mu wt hd)))))
                                (Mb.upto (Prod.fst (issueMb (MbD.mb (MbD.mk mr mp mt mi frozen mu wt hd)))))
                                (D.like (hs_1 0 0)
                                  (Mb.waiting (Prod.fst (issueMb (MbD.mb (MbD.mk mr mp mt mi frozen mu wt hd))))))
                                (D.like (hs_1 0 1)
                                  (Mb.held (Prod.fst (issueMb (MbD.mb (MbD.mk mr mp mt mi frozen mu wt hd))))))) ∧
                            MbD.mb
                                (MbD.mk (Mb.round (Prod.fst (issueMb (MbD.mb (MbD.mk mr mp mt mi frozen mu wt hd)))))
                                  (Mb.position (Prod.fst (issueMb (MbD.mb (MbD.mk mr mp mt mi frozen mu wt hd)))))
                                  (Mb.thawed (Prod.fst (issueMb (MbD.mb (MbD.mk mr mp mt mi frozen mu wt hd)))))
                                  (Mb.issued (Prod.fst (issueMb (MbD.mb (MbD.mk mr mp mt mi frozen mu wt hd)))))
                                  (Mb.frozen (Prod.fst (issueMb (MbD.mb (MbD.mk mr mp mt mi frozen mu wt hd)))))
                                  (Mb.upto (Prod.fst (issueMb (MbD.mb (MbD.mk mr mp mt mi frozen mu wt hd)))))
                                  (D.like (hs 0 0)
                                    (Mb.waiting (Prod.fst (issueMb (MbD.mb (MbD.mk mr mp mt mi frozen mu wt hd))))))
                                  (D.like (hs 0 1)
                                    (Mb.held (Prod.fst (issueMb (MbD.mb (MbD.mk mr mp mt mi frozen mu wt hd))))))) =
                              MbD.mb
                                (MbD.mk (Mb.round (Prod.fst (issueMb (MbD.mb (MbD.mk mr mp mt mi frozen mu wt hd)))))
                                  (Mb.position (Prod.fst (issueMb (MbD.mb (MbD.mk mr mp mt mi frozen mu wt hd)))))
                                  (Mb.thawed (Prod.fst (issueMb (MbD.mb (MbD.mk mr mp mt mi frozen mu wt hd)))))
                                  (Mb.issued (Prod.fst (issueMb (MbD.mb (MbD.mk mr mp mt mi frozen mu wt hd)))))
                                  (Mb.frozen (Prod.fst (issueMb (MbD.mb (MbD.mk mr mp mt mi frozen mu wt hd)))))
                                  (Mb.upto (Prod.fst (issueMb (MbD.mb (MbD.mk mr mp mt mi frozen mu wt hd)))))
                                  (D.like (hs_1 0 0)
                                    (Mb.waiting (Prod.fst (issueMb (MbD.mb (MbD.mk mr mp mt mi frozen mu wt hd))))))
                                  (D.like (hs_1 0 1)
                                    (Mb.held (Prod.fst (issueMb (MbD.mb (MbD.mk mr mp mt mi frozen mu wt hd))))))))
                        (Tree.need
                          ((Prod.snd (issueMb (MbD.mb (MbD.mk mr mp mt mi frozen mu wt hd))) !=
                              Prod.snd (issueMb (MbD.mb (MbD.mk mr mp mt mi frozen mu wt hd)))) =
                            true)
                          (Tree.need
                            ((Prod.snd (issueMb (MbD.mb (MbD.mk mr mp mt mi frozen mu wt hd))) !=
                                Prod.snd (issueMb (MbD.mb (MbD.mk mr mp mt mi frozen mu wt hd)))) =
                              true)
                            (Tree.need
                              ((Prod.snd (issueMb (MbD.mb (MbD.mk mr mp mt mi frozen mu wt hd))) !=
                                  Prod.snd (issueMb (MbD.mb (MbD.mk mr mp mt mi frozen mu wt hd)))) =
                                true)
                              (Tree.need
                                ((Prod.snd (issueMb (MbD.mb (MbD.mk mr mp mt mi frozen mu wt hd))) !=
                                    Prod.snd (issueMb (MbD.mb (MbD.mk mr mp mt mi frozen mu wt hd)))) =
                                  true)
                                (Tree.need
                                  ((Prod.snd (issueMb (MbD.mb (MbD.mk mr mp mt mi frozen mu wt hd))) !=
                                      Prod.snd (issueMb (MbD.mb (MbD.mk mr mp mt mi frozen mu wt hd)))) =
                                    true)
                                  (Tree.need
                                    ((Prod.snd (issueMb (MbD.mb (MbD.mk mr mp mt mi frozen mu wt hd))) !=
                                        Prod.snd (issueMb (MbD.mb (MbD.mk mr mp mt mi frozen mu wt hd)))) =
                                      true)
                                    (Tree.ret (SV.lb false)))))))))
                      (Tree.need
                        (MbD.Right
                            (MbD.mk (Mb.round (Prod.fst (issueMb (MbD.mb (MbD.mk mr mp mt mi frozen mu wt hd)))))
                              (Mb.position (Prod.fst (issueMb (MbD.mb (MbD.mk mr mp mt mi frozen mu wt hd)))))
                              (Mb.thawed (Prod.fst (issueMb (MbD.mb (MbD.mk mr mp mt mi frozen mu wt hd)))))
                              (Mb.issued (Prod.fst (issueMb (MbD.mb (MbD.mk mr mp mt mi frozen mu wt hd)))))
                              (Mb.frozen (Prod.fst (issueMb (MbD.mb (MbD.mk mr mp mt mi frozen mu wt hd)))))
                              (Mb.upto (Prod.fst (issueMb (MbD.mb (MbD.mk mr mp mt mi frozen mu wt hd)))))
                              (D.like (hs 0 0)
                                (Mb.waiting (Prod.fst (issueMb (MbD.mb (MbD.mk mr mp mt mi frozen mu wt hd))))))
                              (D.like (hs 0 1)
                                (Mb.held (Prod.fst (issueMb (MbD.mb (MbD.mk mr mp mt mi frozen mu wt hd))))))) ∧
                          MbD.Right
                              (MbD.mk (Mb.round (Prod.fst (issueMb (MbD.mb (MbD.mk mr mp mt mi frozen mu wt hd)))))
                                (Mb.position (Prod.fst (issueMb (MbD.mb (MbD.mk mr mp mt mi frozen mu wt hd)))))
                                (Mb.thawed (Prod.fst (issueMb (MbD.mb (MbD.mk mr mp mt mi frozen mu wt hd)))))
                                (Mb.issued (Prod.fst (issueMb (MbD.mb (MbD.mk mr mp mt mi frozen mu wt hd)))))
                                (Mb.frozen (Prod.fst (issueMb (MbD.mb (MbD.mk mr mp mt mi frozen mu wt hd)))))
                                (Mb.upto (Prod.fst (issueMb (MbD.mb (MbD.mk mr mp mt mi frozen mu wt hd)))))
                                (D.like (hs_1 0 0)
                                  (Mb.waiting (Prod.fst (issueMb (MbD.mb (MbD.mk mr mp mt mi frozen mu wt hd))))))
                                (D.like (hs_1 0 1)
                                  (Mb.held (Prod.fst (issueMb (MbD.mb (MbD.mk mr mp mt mi frozen mu wt hd))))))) ∧
                            MbD.mb
                                (MbD.mk (Mb.round (Prod.fst (issueMb (MbD.mb (MbD.mk mr mp mt mi frozen mu wt hd)))))
                                  (Mb.position (Prod.fst (issueMb (MbD.mb (MbD.mk mr mp mt mi frozen mu wt hd)))))
                                  (Mb.thawed (Prod.fst (issueMb (MbD.mb (MbD.mk mr mp mt mi frozen mu wt hd)))))
                                  (Mb.issued (Prod.fst (issueMb (MbD.mb (MbD.mk mr mp mt mi frozen mu wt hd)))))
                                  (Mb.frozen (Prod.fst (issueMb (MbD.mb (MbD.mk mr mp mt mi frozen mu wt hd)))))
                                  (Mb.upto (Prod.fst (issueMb (MbD.mb (MbD.mk mr mp mt mi frozen mu wt hd)))))
                                  (D.like (hs 0 0)
                                    (Mb.waiting (Prod.fst (issueMb (MbD.mb (MbD.mk mr mp mt mi frozen mu wt hd))))))
                                  (D.like (hs 0 1)
                                    (Mb.held (Prod.fst (issueMb (MbD.mb (MbD.mk mr mp mt mi frozen mu wt hd))))))) =
                              MbD.mb
                                (MbD.mk (Mb.round (Prod.fst (issueMb (MbD.mb (MbD.mk mr mp mt mi frozen mu wt hd)))))
                                  (Mb.position (Prod.fst (issueMb (MbD.mb (MbD.mk mr mp mt mi frozen mu wt hd)))))
                                  (Mb.thawed (Prod.fst (issueMb (MbD.mb (MbD.mk mr mp mt mi frozen mu wt hd)))))
                                  (Mb.issued (Prod.fst (issueMb (MbD.mb (MbD.mk mr mp mt mi frozen mu wt hd)))))
                                  (Mb.frozen (Prod.fst (issueMb (MbD.mb (MbD.mk mr mp mt mi frozen mu wt hd)))))
                                  (Mb.upto (Prod.fst (issueMb (MbD.mb (MbD.mk mr mp mt mi frozen mu wt hd)))))
                                  (D.like (hs_1 0 0)
                                    (Mb.waiting (Prod.fst (issueMb (MbD.mb (MbD.mk mr mp mt mi frozen mu wt hd))))))
                                  (D.like (hs_1 0 1)
                                    (Mb.held (Prod.fst (issueMb (MbD.mb (MbD.mk mr mp mt mi frozen mu wt hd))))))))
                        (Tree.need
                          ((Prod.snd (issueMb (MbD.mb (MbD.mk mr mp mt mi frozen mu wt hd))) !=
                              Prod.snd (issueMb (MbD.mb (MbD.mk mr mp mt mi frozen mu wt hd)))) =
                            false)
                          (Tree.need
                            ((Prod.snd (issueMb (MbD.mb (MbD.mk mr mp mt mi frozen mu wt hd))) !=
                                Prod.snd (issueMb (MbD.mb (MbD.mk mr mp mt mi frozen mu wt hd)))) =
                              false)
                            (Tree.need (MbD.Right (MbD.mk mr mp mt mi frozen mu wt hd))
                              (Tree.need
                                ((Prod.snd (issueMb (MbD.mb (MbD.mk mr mp mt mi frozen mu wt hd))) !=
                                    Prod.snd (issueMb (MbD.mb (MbD.mk mr mp mt mi frozen mu wt hd)))) =
                                  false)
                                (Tree.need
                                  ((Prod.snd (issueMb (MbD.mb (MbD.mk mr mp mt mi frozen mu wt hd))) !=
                                      Prod.snd (issueMb (MbD.mb (MbD.mk mr mp mt mi frozen mu wt hd)))) =
                                    false)
                                  (Tree.need (MbD.Right (MbD.mk mr mp mt mi frozen mu wt hd))
                                    (Tree.need
                                      ((Prod.snd (issueMb (MbD.mb (MbD.mk mr mp mt mi frozen mu wt hd))) !=
                                          Prod.snd (issueMb (MbD.mb (MbD.mk mr mp mt mi frozen mu wt hd)))) =
                                        false)
                                      (Tree.need
                                        ((Prod.snd (issueMb (MbD.mb (MbD.mk mr mp mt mi frozen mu wt hd))) !=
                                            Prod.snd (issueMb (MbD.mb (MbD.mk mr mp mt mi frozen mu wt hd)))) =
                                          false)
                                        (Tree.br
                                          (checkMb (MbD.mb (MbD.mk mr mp mt mi frozen mu wt hd)) !=
                                            checkMb (MbD.mb (MbD.mk mr mp mt mi frozen mu wt hd)))
                                          (Tree.ret (SV.lb false))
                                          (Tree.need (MbD.Right (MbD.mk mr mp mt mi frozen mu wt hd))
                                            (Tree.all fun hs =>
                                              Tree.need (MbD.Right (MbD.mk mr mp mt mi frozen mu wt hd))
                                                (Tree.all fun hs_3 =>
                                                  Tree.need
                                                    (MbD.Right
                                                        (MbD.mk
                                                          (Mb.round
                                                            (Prod.fst
                                                              (durMb (MbD.mb (MbD.mk mr mp mt mi frozen mu wt hd))
                                                                write)))
                                                          (Mb.position
                                                            (Prod.fst
                                                              (durMb (MbD.mb (MbD.mk mr mp mt mi frozen mu wt hd))
                                                                write)))
                                                          (Mb.thawed
                                                            (Prod.fst
                                                              (durMb (MbD.mb (MbD.mk mr mp mt mi frozen mu wt hd))
                                                                write)))
                                                          (Mb.issued
                                                            (Prod.fst
                                                              (durMb (MbD.mb (MbD.mk mr mp mt mi frozen mu wt hd))
                                                                write)))
                                                          (Mb.frozen
                                                            (Prod.fst
                                                              (durMb (MbD.mb (MbD.mk mr mp mt mi frozen mu wt hd))
                                                                write)))
                                                          (Mb.upto
                                                            (Prod.fst
                                                              (durMb (MbD.mb (MbD.mk mr mp mt mi frozen mu wt hd))
                                                                write)))
                                                          (D.like (hs 0 0)
                                                            (Mb.waiting
                                                              (Prod.fst
                                                                (durMb (MbD.mb (MbD.mk mr mp mt mi frozen mu wt hd))
                                                                  write))))
                                                          (D.like (hs 0 1)
                                                            (Mb.held
                                                              (Prod.fst
                                                                (durMb (MbD.mb (MbD.mk mr mp mt mi frozen mu wt hd))
                                                                  write))))) ∧
                                                      MbD.Right
                                                          (MbD.mk
                                                            (Mb.round
                                                              (Prod.fst
                                                                (durMb (MbD.mb (MbD.mk mr mp mt mi frozen mu wt hd))
                                                                  write)))
                                                            (Mb.position
                                                              (Prod.fst
                                                                (durMb (MbD.mb (MbD.mk mr mp mt mi frozen mu wt hd))
                                                                  write)))
                                                            (Mb.thawed
                                                              (Prod.fst
                                                                (durMb (MbD.mb (MbD.mk mr mp mt mi frozen mu wt hd))
                                                                  write)))
                                                            (Mb.issued
                                                              (Prod.fst
                                                                (durMb (MbD.mb (MbD.mk mr mp mt mi frozen mu wt hd))
                                                                  write)))
                                                            (Mb.frozen
                                                              (Prod.fst
                                                                (durMb (MbD.mb (MbD.mk mr mp mt mi frozen mu wt hd))
                                                                  write)))
                                                            (Mb.upto
                                                              (Prod.fst
                                                                (durMb (MbD.mb (MbD.mk mr mp mt mi frozen mu wt hd))
                                                                  write)))
                                                            (D.like (hs_3 0 0)
                                                              (Mb.waiting
                                                                (Prod.fst
                                                                  (durMb (MbD.mb (MbD.mk mr mp mt mi frozen mu wt hd))
                                                                    write))))
                                                            (D.like (hs_3 0 1)
                                                              (Mb.held
                                                                (Prod.fst
                                                                  (durMb (MbD.mb (MbD.mk mr mp mt mi frozen mu wt hd))
                                                                    write))))) ∧
                                                        MbD.mb
                                                            (MbD.mk
                                                              (Mb.round
                                                                (Prod.fst
                                                                  (durMb (MbD.mb (MbD.mk mr mp mt mi frozen mu wt hd))
                                                                    write)))
                                                              (Mb.position
                                                                (Prod.fst
                                                                  (durMb (MbD.mb (MbD.mk mr mp mt mi frozen mu wt hd))
                                                                    write)))
                                                              (Mb.thawed
                                                                (Prod.fst
                                                                  (durMb (MbD.mb (MbD.mk mr mp mt mi frozen mu wt hd))
                                                                    write)))
                                                              (Mb.issued
                                                                (Prod.fst
                                                                  (durMb (MbD.mb (MbD.mk mr mp mt mi frozen mu wt hd))
                                                                    write)))
                                                              (Mb.frozen
                                                                (Prod.fst
                                                                  (durMb (MbD.mb (MbD.mk mr mp mt mi frozen mu wt hd))
                                                                    write)))
                                                              (Mb.upto
                                                                (Prod.fst
                                                                  (durMb (MbD.mb (MbD.mk mr mp mt mi frozen mu wt hd))
                                                                    write)))
                                                              (D.like (hs 0 0)
                                                                (Mb.waiting
                                                                  (Prod.fst
                                                                    (durMb (MbD.mb (MbD.mk mr mp mt mi frozen mu wt hd))
                                                                      write))))
                                                              (D.like (hs 0 1)
                                                                (Mb.held
                                                                  (Prod.fst
                                                                    (durMb (MbD.mb (MbD.mk mr mp mt mi frozen mu wt hd))
                                                                      write))))) =
                                                          MbD.mb
                                                            (MbD.mk
                                                              (Mb.round
                                                                (Prod.fst
                                                                  (durMb (MbD.mb (MbD.mk mr mp mt mi frozen mu wt hd))
                                                                    write)))
                                                              (Mb.position
                                                                (Prod.fst
                                                                  (durMb (MbD.mb (MbD.mk mr mp mt mi frozen mu wt hd))
                                                                    write)))
                                                              (Mb.thawed
                                                                (Prod.fst
                                                                  (durMb (MbD.mb (MbD.mk mr mp mt mi frozen mu wt hd))
                                                                    write)))
                                                              (Mb.issued
                                                                (Prod.fst
                                                                  (durMb (MbD.mb (MbD.mk mr mp mt mi frozen mu wt hd))
                                                                    write)))
                                                              (Mb.frozen
                                                                (Prod.fst
                                                                  (durMb (MbD.mb (MbD.mk mr mp mt mi frozen mu wt hd))
                                                                    write)))
                                                              (Mb.upto
                                                                (Prod.fst
                                                                  (durMb (MbD.mb (MbD.mk mr mp mt mi frozen mu wt hd))
                                                                    write)))
                                                              (D.like (hs_3 0 0)
                                                                (Mb.waiting
                                                                  (Prod.fst
                                                                    (durMb (MbD.mb (MbD.mk mr mp mt mi frozen mu wt hd))
                                                                      write))))
                                                              (D.like (hs_3 0 1)
                                                                (Mb.held
                                                                  (Prod.fst
                                                                    (durMb (MbD.mb (MbD.mk mr mp mt mi frozen mu wt hd))
                                                                      write))))))
                                                    (Tree.need
                                                      (D.Is Int
                                                          (D.like (hs 0 2)
                                                            (Prod.fst
                                                              (Prod.snd
                                                                (durMb (MbD.mb (MbD.mk mr mp mt mi frozen mu wt hd))
                                                                  write)))) ∧
                                                        D.Is Int
                                                            (D.like (hs_3 0 2)
                                                              (Prod.fst
                                                                (Prod.snd
                                                                  (durMb (MbD.mb (MbD.mk mr mp mt mi frozen mu wt hd))
                                                                    write)))) ∧
                                                          D.len
                                                                (D.like (hs 0 2)
                                                                  (Prod.fst
                                                                    (Prod.snd
                                                                      (durMb (MbD.mb (MbD.mk mr mp mt mi frozen mu wt hd))
                                                                        write)))) ≤
                                                              1048576 ∧
                                                            D.to Int
                                                                (D.like (hs 0 2)
                                                                  (Prod.fst
                                                                    (Prod.snd
                                                                      (durMb (MbD.mb (MbD.mk mr mp mt mi frozen mu wt hd))
                                                                        write)))) =
                                                              D.to Int
                                                                (D.like (hs_3 0 2)
                                                                  (Prod.fst
                                                                    (Prod.snd
                                                                      (durMb (MbD.mb (MbD.mk mr mp mt mi frozen mu wt hd))
                                                                        write)))))
                                                      (Tree.br
                                                        (Prod.snd
                                                            (Prod.snd
                                                              (durMb (MbD.mb (MbD.mk mr mp mt mi frozen mu wt hd))
                                                                write)) !=
                                                          Prod.snd
                                                            (Prod.snd
                                                              (durMb (MbD.mb (MbD.mk mr mp mt mi frozen mu wt hd))
                                                                write)))
                                                        (Tree.ret (SV.lb false))
                                                        (Tree.need (MbD.Right (MbD.mk mr mp mt mi frozen mu wt hd))
                                                          (Tree.all fun hs =>
                                                            Tree.need (MbD.Right (MbD.mk mr mp mt mi frozen mu wt hd))
                                                              (Tree.all fun hs_4 =>
                                                                Tree.need
                                                                  (MbD.Right
                                                                      (MbD.mk
                                                                        (Mb.round
                                                                          (Prod.fst
                                                                            (relMb
                                                                              (MbD.mb
                                                                                (MbD.mk mr mp mt mi frozen mu wt hd))
                                                                              now)))
                                                                        (Mb.position
                                                                          (Prod.fst
                                                                            (relMb
                                                                              (MbD.mb
                                                                                (MbD.mk mr mp mt mi frozen mu wt hd))
                                                                              now)))
                                                                        (Mb.thawed
                                                                          (Prod.fst
                                                                            (relMb
                                                                              (MbD.mb
                                                                                (MbD.mk mr mp mt mi frozen mu wt hd))
                                                                              now)))
                                                                        (Mb.issued
                                                                          (Prod.fst
                                                                            (relMb
                                                                              (MbD.mb
                                                                                (MbD.mk mr mp mt mi frozen mu wt hd))
                                                                              now)))
                                                                        (Mb.frozen
                                                                          (Prod.fst
                                                                            (relMb
                                                                              (MbD.mb
                                                                                (MbD.mk mr mp mt mi frozen mu wt hd))
                                                                              now)))
                                                                        (Mb.upto
                                                                          (Prod.fst
                                                                            (relMb
                                                                              (MbD.mb
                                                                                (MbD.mk mr mp mt mi frozen mu wt hd))
                                                                              now)))
                                                                        (D.like (hs 0 0)
                                                                          (Mb.waiting
                                                                            (Prod.fst
                                                                              (relMb
                                                                                (MbD.mb
                                                                                  (MbD.mk mr mp mt mi frozen mu wt hd))
                                                                                now))))
                                                                        (D.like (hs 0 1)
                                                                          (Mb.held
                                                                            (Prod.fst
                                                                              (relMb
                                                                                (MbD.mb
                                                                                  (MbD.mk mr mp mt mi frozen mu wt hd))
                                                                                now))))) ∧
                                                                    MbD.Right
                                                                        (MbD.mk
                                                                          (Mb.round
                                                                            (Prod.fst
                                                                              (relMb
                                                                                (MbD.mb
                                                                                  (MbD.mk mr mp mt mi frozen mu wt hd))
                                                                                now)))
                                                                          (Mb.position
                                                                            (Prod.fst
                                                                              (relMb
                                                                                (MbD.mb
                                                                                  (MbD.mk mr mp mt mi frozen mu wt hd))
                                                                                now)))
                                                                          (Mb.thawed
                                                                            (Prod.fst
                                                                              (relMb
                                                                                (MbD.mb
                                                                                  (MbD.mk mr mp mt mi frozen mu wt hd))
                                                                                now)))
                                                                          (Mb.issued
                                                                            (Prod.fst
                                                                              (relMb
                                                                                (MbD.mb
                                                                                  (MbD.mk mr mp mt mi frozen mu wt hd))
                                                                                now)))
                                                                          (Mb.frozen
                                                                            (Prod.fst
                                                                              (relMb
                                                                                (MbD.mb
                                                                                  (MbD.mk mr mp mt mi frozen mu wt hd))
                                                                                now)))
                                                                          (Mb.upto
                                                                            (Prod.fst
                                                                              (relMb
                                                                                (MbD.mb
                                                                                  (MbD.mk mr mp mt mi frozen mu wt hd))
                                                                                now)))
                                                                          (D.like (hs_4 0 0)
                                                                            (Mb.waiting
                                                                              (Prod.fst
                                                                                (relMb
                                                                                  (MbD.mb
                                                                                    (MbD.mk mr mp mt mi frozen mu wt hd))
                                                                                  now))))
                                                                          (D.like (hs_4 0 1)
                                                                            (Mb.held
                                                                              (Prod.fst
                                                                                (relMb
                                                                                  (MbD.mb
                                                                                    (MbD.mk mr mp mt mi frozen mu wt hd))
                                                                                  now))))) ∧
                                                                      MbD.mb
                                                                          (MbD.mk
                                                                            (Mb.round
                                                                              (Prod.fst
                                                                                (relMb
                                                                                  (MbD.mb
                                                                                    (MbD.mk mr mp mt mi frozen mu wt hd))
                                                                                  now)))
                                                                            (Mb.position
                                                                              (Prod.fst
                                                                                (relMb
                                                                                  (MbD.mb
                                                                                    (MbD.mk mr mp mt mi frozen mu wt hd))
                                                                                  now)))
                                                                            (Mb.thawed
                                                                              (Prod.fst
                                                                                (relMb
                                                                                  (MbD.mb
                                                                                    (MbD.mk mr mp mt mi frozen mu wt hd))
                                                                                  now)))
                                                                            (Mb.issued
                                                                              (Prod.fst
                                                                                (relMb
                                                                                  (MbD.mb
                                                                                    (MbD.mk mr mp mt mi frozen mu wt hd))
                                                                                  now)))
                                                                            (Mb.frozen
                                                                              (Prod.fst
                                                                                (relMb
                                                                                  (MbD.mb
                                                                                    (MbD.mk mr mp mt mi frozen mu wt hd))
                                                                                  now)))
                                                                            (Mb.upto
                                                                              (Prod.fst
                                                                                (relMb
                                                                                  (MbD.mb
                                                                                    (MbD.mk mr mp mt mi frozen mu wt hd))
                                                                                  now)))
                                                                            (D.like (hs 0 0)
                                                                              (Mb.waiting
                                                                                (Prod.fst
                                                                                  (relMb
                                                                                    (MbD.mb
                                                                                      (MbD.mk mr mp mt mi frozen mu wt
                                                                                        hd))
                                                                                    now))))
                                                                            (D.like (hs 0 1)
                                                                              (Mb.held
                                                                                (Prod.fst
                                                                                  (relMb
                                                                                    (MbD.mb
                                                                                      (MbD.mk mr mp mt mi frozen mu wt
                                                                                        hd))
                                                                                    now))))) =
                                                                        MbD.mb
                                                                          (MbD.mk
                                                                            (Mb.round
                                                                              (Prod.fst
                                                                                (relMb
                                                                                  (MbD.mb
                                                                                    (MbD.mk mr mp mt mi frozen mu wt hd))
                                                                                  now)))
                                                                            (Mb.position
                                                                              (Prod.fst
                                                                                (relMb
                                                                                  (MbD.mb
                                                                                    (MbD.mk mr mp mt mi frozen mu wt hd))
                                                                                  now)))
                                                                            (Mb.thawed
                                                                              (Prod.fst
                                                                                (relMb
                                                                                  (MbD.mb
                                                                                    (MbD.mk mr mp mt mi frozen mu wt hd))
                                                                                  now)))
                                                                            (Mb.issued
                                                                              (Prod.fst
                                                                                (relMb
                                                                                  (MbD.mb
                                                                                    (MbD.mk mr mp mt mi frozen mu wt hd))
                                                                                  now)))
                                                                            (Mb.frozen
                                                                              (Prod.fst
                                                                                (relMb
                                                                                  (MbD.mb
                                                                                    (MbD.mk mr mp mt mi frozen mu wt hd))
                                                                                  now)))
                                                                            (Mb.upto
                                                                              (Prod.fst
                                                                                (relMb
                                                                                  (MbD.mb
                                                                                    (MbD.mk mr mp mt mi frozen mu wt hd))
                                                                                  now)))
                                                                            (D.like (hs_4 0 0)
                                                                              (Mb.waiting
                                                                                (Prod.fst
                                                                                  (relMb
                                                                                    (MbD.mb
                                                                                      (MbD.mk mr mp mt mi frozen mu wt
                                                                                        hd))
                                                                                    now))))
                                                                            (D.like (hs_4 0 1)
                                                                              (Mb.held
                                                                                (Prod.fst
                                                                                  (relMb
                                                                                    (MbD.mb
                                                                                      (MbD.mk mr mp mt mi frozen mu wt
                                                                                        hd))
                                                                                    now))))))
                                                                  (Tree.need
                                                                    (D.Is Int
                                                                        (D.like (hs 0 2)
                                                                          (Prod.snd
                                                                            (relMb
                                                                              (MbD.mb
                                                                                (MbD.mk mr mp mt mi frozen mu wt hd))
                                                                              now))) ∧
                                                                      D.Is Int
                                                                          (D.like (hs_4 0 2)
                                                                            (Prod.snd
                                                                              (relMb
                                                                                (MbD.mb
                                                                                  (MbD.mk mr mp mt mi frozen mu wt hd))
                                                                                now))) ∧
                                                                        D.len
                                                                              (D.like (hs 0 2)
                                                                                (Prod.snd
                                                                                  (relMb
                                                                                    (MbD.mb
                                                                                      (MbD.mk mr mp mt mi frozen mu wt
                                                                                        hd))
                                                                                    now))) ≤
                                                                            1048576 ∧
                                                                          D.to Int
                                                                              (D.like (hs 0 2)
                                                                                (Prod.snd
                                                                                  (relMb
                                                                                    (MbD.mb
                                                                                      (MbD.mk mr mp mt mi frozen mu wt
                                                                                        hd))
                                                                                    now))) =
                                                                            D.to Int
                                                                              (D.like (hs_4 0 2)
                                                                                (Prod.snd
                                                                                  (relMb
                                                                                    (MbD.mb
                                                                                      (MbD.mk mr mp mt mi frozen mu wt
                                                                                        hd))
                                                                                    now))))
                                                                    (Tree.ret (SV.lb true)))))))))))))))))))))))))
        (Tree.ret (SV.lb true)))
      (Tree.ret (SV.lb true)))
    (Tree.ret (SV.lb true)) := by kernel_rfl

end
end Go.Proofs.Ytoechplbhbalaaa
end
section
/- Layer 21: BarrierCounts. -/
open Go Go.Proofs Sx
namespace Sx
theorem issueMb_len (m : Mb) : (issueMb m).1.waiting.length ≤ m.waiting.length + 1 ∧ (issueMb m).1.held.length ≤ m.held.length := by
  unfold issueMb
  split <;> simp
theorem durMb_len (m : Mb) (x : Int) : (durMb m x).1.waiting.length ≤ m.waiting.length ∧ (durMb m x).1.held.length ≤ m.held.length + 1 ∧ (durMb m x).2.1.length ≤ 1 := by
  have := List.length_filter_le (fun y => y != x) m.waiting
  unfold durMb
  repeat' split
  all_goals simp [noMb]
  all_goals omega
theorem relMb_len (m : Mb) (x : Int) : (relMb m x).1.waiting.length ≤ m.waiting.length ∧ (relMb m x).1.held.length ≤ m.held.length ∧ (relMb m x).2.length ≤ m.held.length := by
  unfold relMb
  split
  · simp
  · simp [thawMb]
end Sx
namespace Go.Proofs.Ytoechplbhbalaaa
set_option maxRecDepth 100000
set_option maxHeartbeats 0
def spB4 (x : MbD × Int × Int) : SpecR := .scalar [x.1.w.Is Int ∧ x.1.h.Is Int] (.lb true)

theorem lawCounts : Law Try.prog 7 ((rdMb.three rdInt rdInt).sp spB4) := by
  refine law_in _ (by kernel_rfl) fun H w ⟨⟨r, p, t, i, f, u, wt, hd⟩, x, now⟩ hok hp => ?_
  obtain ⟨hw, hh⟩ := hp _ (List.mem_singleton.2 rfl)
  simp only at hw hh
  apply exec_sound ctNOk 400
  rw [show (rdMb.three rdInt rdInt).canon (⟨r, p, t, i, f, u, wt, hd⟩, x, now) = [.agg [.int .i64 r, .int .i64 p, .int .i64 t, .int .i64 i, .bool f, .int .i64 u, .dat wt, .dat hd], .int .i64 x, .int .i64 now] from rfl, counts_in]
  refine ⟨fun _ => ⟨fun _ => ⟨fun hl1 => ⟨fun _ => ret_lbt, fun hl2 => ?_⟩, fun _ => ret_lbt⟩, fun _ => ret_lbt⟩, fun _ => ret_lbt⟩
  have l1 : (wt.to Int).length ≤ 30 := by have := of_decide_eq_true hl1; rw [D.Is.length (α := Int)] at this; omega
  have l2 : (hd.to Int).length ≤ 30 := by simp only [Bool.not_eq_false'] at hl2; have := of_decide_eq_true hl2; rw [D.Is.length (α := Int)] at this; omega
  have k1 := D.Is.length (α := Int) wt
  have k2 := D.Is.length (α := Int) hd
  have hR : (MbD.mk r p t i f u wt hd).Right := ⟨hw, hh, by simp only; omega, by simp only; omega⟩
  have h6 : (MbD.mk r p t i f u wt hd).mb.waiting.length ≤ 30 := l1
  have h7 : (MbD.mk r p t i f u wt hd).mb.held.length ≤ 30 := l2
  obtain ⟨a1, a2⟩ := issueMb_len (MbD.mk r p t i f u wt hd).mb
  obtain ⟨b1, b2, b3⟩ := durMb_len (MbD.mk r p t i f u wt hd).mb x
  obtain ⟨c1, c2, c3⟩ := relMb_len (MbD.mk r p t i f u wt hd).mb now
  have a1 : (issueMb (MbD.mk r p t i f u wt hd).mb).1.waiting.length ≤ 1048575 := by omega
  have a2 : (issueMb (MbD.mk r p t i f u wt hd).mb).1.held.length ≤ 1048575 := by omega
  have b1 : (durMb (MbD.mk r p t i f u wt hd).mb x).1.waiting.length ≤ 1048575 := by omega
  have b2 : (durMb (MbD.mk r p t i f u wt hd).mb x).1.held.length ≤ 1048575 := by omega
  have b3 : (durMb (MbD.mk r p t i f u wt hd).mb x).2.1.length ≤ 1048576 := by omega
  have c1 : (relMb (MbD.mk r p t i f u wt hd).mb now).1.waiting.length ≤ 1048575 := by omega
  have c2 : (relMb (MbD.mk r p t i f u wt hd).mb now).1.held.length ≤ 1048575 := by omega
  have c3 : (relMb (MbD.mk r p t i f u wt hd).mb now).2.length ≤ 1048576 := by omega
  clear h6 h7 hok hp hl1 hl2 l1 l2 k1 k2
  simp [hR, D.like_is, mb_like, right_like, D.like_to, like_len, ret_lbt, a1, a2, b1, b2, b3, c1, c2, c3]
end Go.Proofs.Ytoechplbhbalaaa
end
