/- Layer 32: the statements, walked. -/
import Derived.KernelRfl
import Derived.Test.YtnfkkmdbaknnlaaW3gtoW12
import Derived.Test.YtnfkkmdbaknnlaaProg
set_option linter.all false
section
open Go Go.Proofs Sx
namespace Go.Proofs.Ytnfkkmdbaknnlaa
set_option maxRecDepth 100000
set_option maxHeartbeats 0
section
variable (e s st ap c te ts tst tap a b dd f g k : Int) (d v w : D)
theorem offers_in : exec Try.prog ctL 300 (entry Try.prog 4 [.agg [.int .i64 e, .int .i64 s, .dat d, .int .i64 st, .int .i64 ap], .int .i64 c]) =
  Tree.br (decide ((↑(D.len d) : Int) > 1100)) (Tree.ret (SV.lb true))
    (Tree.need (D.Is Int d)
      (Tree.all fun hs =>
        Tree.need (D.Is Int d)
          (Tree.all fun hs_1 =>
            Tree.all fun hs_2 =>
              Tree.br
                (decide
                  (Prod.snd (Prod.snd (offer (SrcD.src (SrcD.mk e s d st ap)) c)) =
                    Prod.snd (Prod.snd (offer (SrcD.src (SrcD.mk e s d st ap)) c))))
                (Tree.need
                  (D.Is Int (D.like (hs 0 0) (Src.offered (Prod.fst (offer (SrcD.src (SrcD.mk e s d st ap)) c)))) ∧
                    D.Is Int (D.like (hs_1 0 0) (Src.offered (Prod.fst (offer (SrcD.src (SrcD.mk e s d st ap)) c)))) ∧
                      D.len (D.like (hs 0 0) (Src.offered (Prod.fst (offer (SrcD.src (SrcD.mk e s d st ap)) c)))) ≤
                          1048576 ∧
                        SrcD.src
                            (SrcD.mk (Src.epoch (Prod.fst (offer (SrcD.src (SrcD.mk e s d st ap)) c)))
                              (Src.site (Prod.fst (offer (SrcD.src (SrcD.mk e s d st ap)) c)))
                              (D.like (hs 0 0) (Src.offered (Prod.fst (offer (SrcD.src (SrcD.mk e s d st ap)) c))))
                              (Src.stored (Prod.fst (offer (SrcD.src (SrcD.mk e s d st ap)) c)))
                              (Src.applied (Prod.fst (offer (SrcD.src (SrcD.mk e s d st ap)) c)))) =
                          SrcD.src
                            (SrcD.mk (Src.epoch (Prod.fst (offer (SrcD.src (SrcD.mk e s d st ap)) c)))
                              (Src.site (Prod.fst (offer (SrcD.src (SrcD.mk e s d st ap)) c)))
                              (D.like (hs_1 0 0) (Src.offered (Prod.fst (offer (SrcD.src (SrcD.mk e s d st ap)) c))))
                              (Src.stored (Prod.fst (offer (SrcD.src (SrcD.mk e s d st ap)) c)))
                              (Src.applied (Prod.fst (offer (SrcD.src (SrcD.mk e s d st ap)) c)))))
                  (Tree.need
                    (D.Is Msg (D.like (hs 0 1) (Prod.fst (Prod.snd (offer (SrcD.src (SrcD.mk e s d st ap)) c)))) ∧
                      D.Is Msg (D.like (hs_1 0 1) (Prod.fst (Prod.snd (offer (SrcD.src (SrcD.mk e s d st ap)) c)))) ∧
                        D.len (D.like (hs 0 1) (Prod.fst (Prod.snd (offer (SrcD.src (SrcD.mk e s d st ap)) c)))) ≤
                            1048576 ∧
                          (∀ (m : Msg),
                              List.Mem m
                                  (D.to Msg
                                    (D.like (hs 0 1) (Prod.fst (Prod.snd (offer (SrcD.src (SrcD.mk e s d st ap)) c))))) →
                                Msg.body m = [] ∧ Msg.values m = []) ∧
                            D.to Msg (D.like (hs 0 1) (Prod.fst (Prod.snd (offer (SrcD.src (SrcD.mk e s d st ap)) c)))) =
                              D.to Msg
                                (D.like (hs_1 0 1) (Prod.fst (Prod.snd (offer (SrcD.src (SrcD.mk e s d st ap)) c)))))
                    (Tree.need
                      (decide
                          (Prod.snd (Prod.snd (offer (SrcD.src (SrcD.mk e s d st ap)) c)) =
                            Prod.snd (Prod.snd (offer (SrcD.src (SrcD.mk e s d st ap)) c))) =
                        true)
                      (Tree.need
                        (decide
                            (Prod.snd (Prod.snd (offer (SrcD.src (SrcD.mk e s d st ap)) c)) =
                              Prod.snd (Prod.snd (offer (SrcD.src (SrcD.mk e s d st ap)) c))) =
                          true)
                        (Tree.need (D.Is Int d)
                          (Tree.need
                            (decide
                                (Prod.snd (Prod.snd (offer (SrcD.src (SrcD.mk e s d st ap)) c)) =
                                  Prod.snd (Prod.snd (offer (SrcD.src (SrcD.mk e s d st ap)) c))) =
                              true)
                            (Tree.need
                              (decide
                                  (Prod.snd (Prod.snd (offer (SrcD.src (SrcD.mk e s d st ap)) c)) =
                                    Prod.snd (Prod.snd (offer (SrcD.src (SrcD.mk e s d st ap)) c))) =
                                true)
                              (Tree.need (D.Is Int d)
                                (Tree.need
                                  (decide
                                      (Prod.snd (Prod.snd (offer (SrcD.src (SrcD.mk e s d st ap)) c)) =
                                        Prod.snd (Prod.snd (offer (SrcD.src (SrcD.mk e s d st ap)) c))) =
                                    true)
                                  (Tree.need
                                    (D.Is Msg (D.like (hs_2 18 0) (resend (SrcD.src (SrcD.mk e s d st ap)))) ∧
                                      D.Is Msg (D.like (hs_2 20 0) (resend (SrcD.src (SrcD.mk e s d st ap)))) ∧
                                        D.len (D.like (hs_2 18 0) (resend (SrcD.src (SrcD.mk e s d st ap)))) ≤ 1048576 ∧
                                          (∀ (m : Msg),
                                              List.Mem m
                                                  (D.to Msg
                                                    (D.like (hs_2 18 0) (resend (SrcD.src (SrcD.mk e s d st ap))))) →
                                                Msg.body m = [] ∧ Msg.values m = []) ∧
                                            D.to Msg (D.like (hs_2 18 0) (resend (SrcD.src (SrcD.mk e s d st ap)))) =
                                              D.to Msg (D.like (hs_2 20 0) (resend (SrcD.src (SrcD.mk e s d st ap)))))
                                    (Tree.need
                                      (decide
                                          (Prod.snd (Prod.snd (offer (SrcD.src (SrcD.mk e s d st ap)) c)) =
                                            Prod.snd (Prod.snd (offer (SrcD.src (SrcD.mk e s d st ap)) c))) =
                                        true)
                                      (Tree.need (D.Is Int d)
                                        (Tree.need (D.Is Int d)
                                          (Tree.ret
                                            (SV.bool
                                              (decide
                                                (releasable (SrcD.src (SrcD.mk e s d st ap)) =
                                                  releasable (SrcD.src (SrcD.mk e s d st ap)))))))))))))))))))
                (Tree.need
                  (D.Is Int (D.like (hs 0 0) (Src.offered (Prod.fst (offer (SrcD.src (SrcD.mk e s d st ap)) c)))) ∧
                    D.Is Int (D.like (hs_1 0 0) (Src.offered (Prod.fst (offer (SrcD.src (SrcD.mk e s d st ap)) c)))) ∧
                      D.len (D.like (hs 0 0) (Src.offered (Prod.fst (offer (SrcD.src (SrcD.mk e s d st ap)) c)))) ≤
                          1048576 ∧
                        SrcD.src
                            (SrcD.mk (Src.epoch (Prod.fst (offer (SrcD.src (SrcD.mk e s d st ap)) c)))
                              (Src.site (Prod.fst (offer (SrcD.src (SrcD.mk e s d st ap)) c)))
                              (D.like (hs 0 0) (Src.offered (Prod.fst (offer (SrcD.src (SrcD.mk e s d st ap)) c))))
                              (Src.stored (Prod.fst (offer (SrcD.src (SrcD.mk e s d st ap)) c)))
                              (Src.applied (Prod.fst (offer (SrcD.src (SrcD.mk e s d st ap)) c)))) =
                          SrcD.src
                            (SrcD.mk (Src.epoch (Prod.fst (offer (SrcD.src (SrcD.mk e s d st ap)) c)))
                              (Src.site (Prod.fst (offer (SrcD.src (SrcD.mk e s d st ap)) c)))
                              (D.like (hs_1 0 0) (Src.offered (Prod.fst (offer (SrcD.src (SrcD.mk e s d st ap)) c))))
                              (Src.stored (Prod.fst (offer (SrcD.src (SrcD.mk e s d st ap)) c)))
                              (Src.applied (Prod.fst (offer (SrcD.src (SrcD.mk e s d st ap)) c)))))
                  (Tree.need
                    (D.Is Msg (D.like (hs 0 1) (Prod.fst (Prod.snd (offer (SrcD.src (SrcD.mk e s d st ap)) c)))) ∧
                      D.Is Msg (D.like (hs_1 0 1) (Prod.fst (Prod.snd (offer (SrcD.src (SrcD.mk e s d st ap)) c)))) ∧
                        D.len (D.like (hs 0 1) (Prod.fst (Prod.snd (offer (SrcD.src (SrcD.mk e s d st ap)) c)))) ≤
                            1048576 ∧
                          (∀ (m : Msg),
                              List.Mem m
                                  (D.to Msg
                                    (D.like (hs 0 1) (Prod.fst (Prod.snd (offer (SrcD.src (SrcD.mk e s d st ap)) c))))) →
                                Msg.body m = [] ∧ Msg.values m = []) ∧
                            D.to Msg (D.like (hs 0 1) (Prod.fst (Prod.snd (offer (SrcD.src (SrcD.mk e s d st ap)) c)))) =
                              D.to Msg
                                (D.like (hs_1 0 1) (Prod.fst (Prod.snd (offer (SrcD.src (SrcD.mk e s d st ap)) c)))))
                    (Tree.need
                      (decide
                          (Prod.snd (Prod.snd (offer (SrcD.src (SrcD.mk e s d st ap)) c)) =
                            Prod.snd (Prod.snd (offer (SrcD.src (SrcD.mk e s d st ap)) c))) =
                        false)
                      (Tree.need
                        (decide
                            (Prod.snd (Prod.snd (offer (SrcD.src (SrcD.mk e s d st ap)) c)) =
                              Prod.snd (Prod.snd (offer (SrcD.src (SrcD.mk e s d st ap)) c))) =
                          false)
                        (Tree.need
                          (decide
                              (Prod.snd (Prod.snd (offer (SrcD.src (SrcD.mk e s d st ap)) c)) =
                                Prod.snd (Prod.snd (offer (SrcD.src (SrcD.mk e s d st ap)) c))) =
                            false)
                          (Tree.need
                            (decide
                                (Prod.snd (Prod.snd (offer (SrcD.src (SrcD.mk e s d st ap)) c)) =
                                  Prod.snd (Prod.snd (offer (SrcD.src (SrcD.mk e s d st ap)) c))) =
                              false)
                            (Tree.need
                              (decide
                                  (Prod.snd (Prod.snd (offer (SrcD.src (SrcD.mk e s d st ap)) c)) =
                                    Prod.snd (Prod.snd (offer (SrcD.src (SrcD.mk e s d st ap)) c))) =
                                false)
                              (Tree.need
                                (decide
                                    (Prod.snd (Prod.snd (offer (SrcD.src (SrcD.mk e s d st ap)) c)) =
                                      Prod.snd (Prod.snd (offer (SrcD.src (SrcD.mk e s d st ap)) c))) =
                                  false)
                                (Tree.ret (SV.lb false))))))))))))) := by kernel_rfl

theorem starts_in : exec Try.prog ctL 300 (entry Try.prog 3 [.agg [.int .i64 e, .int .i64 s, .dat d, .int .i64 st, .int .i64 ap], .agg [.int .i64 te, .int .i64 ts, .int .i64 tst, .int .i64 tap]]) =
  Tree.br (decide ((↑(D.len d) : Int) > 1100)) (Tree.ret (SV.lb true))
    (Tree.all fun hs =>
      Tree.all fun hs_1 =>
        Tree.all fun hs_2 =>
          Tree.all fun hs_3 =>
            Tree.all fun hs_4 =>
              Tree.br (decide (Prod.snd (newSource e s ap) = Prod.snd (newSource e s ap)))
                (Tree.br
                  (decide (Tgt.epoch (Prod.fst (newTarget te ts tap)) = Tgt.epoch (Prod.fst (newTarget te ts tap))) &&
                    (decide (Tgt.site (Prod.fst (newTarget te ts tap)) = Tgt.site (Prod.fst (newTarget te ts tap))) &&
                      (decide
                          (Tgt.stored (Prod.fst (newTarget te ts tap)) = Tgt.stored (Prod.fst (newTarget te ts tap))) &&
                        (decide
                            (Tgt.applied (Prod.fst (newTarget te ts tap)) =
                              Tgt.applied (Prod.fst (newTarget te ts tap))) &&
                          true))))
                  (Tree.br (decide (Prod.snd (newTarget te ts tap) = Prod.snd (newTarget te ts tap)))
                    (Tree.br
                      (decide
                        (checkSource (SrcD.src (SrcD.mk e s d st ap)) = checkSource (SrcD.src (SrcD.mk e s d st ap))))
                      (Tree.need
                        (D.Is Int (D.like (hs 0 0) (Src.offered (Prod.fst (newSource e s ap)))) ∧
                          D.Is Int (D.like (hs_1 0 0) (Src.offered (Prod.fst (newSource e s ap)))) ∧
                            D.len (D.like (hs 0 0) (Src.offered (Prod.fst (newSource e s ap)))) ≤ 1048576 ∧
                              SrcD.src
                                  (SrcD.mk (Src.epoch (Prod.fst (newSource e s ap)))
                                    (Src.site (Prod.fst (newSource e s ap)))
                                    (D.like (hs 0 0) (Src.offered (Prod.fst (newSource e s ap))))
                                    (Src.stored (Prod.fst (newSource e s ap)))
                                    (Src.applied (Prod.fst (newSource e s ap)))) =
                                SrcD.src
                                  (SrcD.mk (Src.epoch (Prod.fst (newSource e s ap)))
                                    (Src.site (Prod.fst (newSource e s ap)))
                                    (D.like (hs_1 0 0) (Src.offered (Prod.fst (newSource e s ap))))
                                    (Src.stored (Prod.fst (newSource e s ap)))
                                    (Src.applied (Prod.fst (newSource e s ap)))))
                        (Tree.need (decide (Prod.snd (newSource e s ap) = Prod.snd (newSource e s ap)) = true)
                          (Tree.need (decide (Prod.snd (newSource e s ap) = Prod.snd (newSource e s ap)) = true)
                            (Tree.need (decide (Prod.snd (newSource e s ap) = Prod.snd (newSource e s ap)) = true)
                              (Tree.need (decide (Prod.snd (newSource e s ap) = Prod.snd (newSource e s ap)) = true)
                                (Tree.need
                                  ((decide
                                        (Tgt.epoch (Prod.fst (newTarget te ts tap)) =
                                          Tgt.epoch (Prod.fst (newTarget te ts tap))) &&
                                      (decide
                                          (Tgt.site (Prod.fst (newTarget te ts tap)) =
                                            Tgt.site (Prod.fst (newTarget te ts tap))) &&
                                        (decide
                                            (Tgt.stored (Prod.fst (newTarget te ts tap)) =
                                              Tgt.stored (Prod.fst (newTarget te ts tap))) &&
                                          (decide
                                              (Tgt.applied (Prod.fst (newTarget te ts tap)) =
                                                Tgt.applied (Prod.fst (newTarget te ts tap))) &&
                                            true)))) =
                                    true)
                                  (Tree.need
                                    ((decide
                                          (Tgt.epoch (Prod.fst (newTarget te ts tap)) =
                                            Tgt.epoch (Prod.fst (newTarget te ts tap))) &&
                                        (decide
                                            (Tgt.site (Prod.fst (newTarget te ts tap)) =
                                              Tgt.site (Prod.fst (newTarget te ts tap))) &&
                                          (decide
                                              (Tgt.stored (Prod.fst (newTarget te ts tap)) =
                                                Tgt.stored (Prod.fst (newTarget te ts tap))) &&
                                            (decide
                                                (Tgt.applied (Prod.fst (newTarget te ts tap)) =
                                                  Tgt.applied (Prod.fst (newTarget te ts tap))) &&
                                              true)))) =
                                      true)
                                    (Tree.need
                                      ((decide
                                            (Tgt.epoch (Prod.fst (newTarget te ts tap)) =
                                              Tgt.epoch (Prod.fst (newTarget te ts tap))) &&
                                          (decide
                                              (Tgt.site (Prod.fst (newTarget te ts tap)) =
                                                Tgt.site (Prod.fst (newTarget te ts tap))) &&
                                            (decide
                                                (Tgt.stored (Prod.fst (newTarget te ts tap)) =
                                                  Tgt.stored (Prod.fst (newTarget te ts tap))) &&
                                              (decide
                                                  (Tgt.applied (Prod.fst (newTarget te ts tap)) =
                                                    Tgt.applied (Prod.fst (newTarget te ts tap))) &&
                                                true)))) =
                                        true)
                                      (Tree.need
                                        ((decide
                                              (Tgt.epoch (Prod.fst (newTarget te ts tap)) =
                                                Tgt.epoch (Prod.fst (newTarget te ts tap))) &&
                                            (decide
                                                (Tgt.site (Prod.fst (newTarget te ts tap)) =
                                                  Tgt.site (Prod.fst (newTarget te ts tap))) &&
                                              (decide
                                                  (Tgt.stored (Prod.fst (newTarget te ts tap)) =
                                                    Tgt.stored (Prod.fst (newTarget te ts tap))) &&
                                                (decide
                                                    (Tgt.applied (Prod.fst (newTarget te ts tap)) =
                                                      Tgt.applied (Prod.fst (newTarget te ts tap))) &&
                                                  true)))) =
                                          true)
                                        (Tree.need
                                          (decide (Prod.snd (newTarget te ts tap) = Prod.snd (newTarget te ts tap)) =
                                            true)
                                          (Tree.need
                                            (decide (Prod.snd (newTarget te ts tap) = Prod.snd (newTarget te ts tap)) =
                                              true)
                                            (Tree.need (D.Is Int d)
                                              (Tree.need
                                                (decide
                                                    (Prod.snd (newTarget te ts tap) = Prod.snd (newTarget te ts tap)) =
                                                  true)
                                                (Tree.need
                                                  (decide
                                                      (Prod.snd (newTarget te ts tap) = Prod.snd (newTarget te ts tap)) =
                                                    true)
                                                  (Tree.need (D.Is Int d)
                                                    (Tree.need
                                                      (decide
                                                          (Prod.snd (newTarget te ts tap) =
                                                            Prod.snd (newTarget te ts tap)) =
                                                        true)
                                                      (Tree.need
                                                        (decide
                                                            (Prod.snd (newTarget te ts tap) =
                                                              Prod.snd (newTarget te ts tap)) =
                                                          true)
                                                        (Tree.need
                                                          (decide
                                                              (checkSource (SrcD.src (SrcD.mk e s d st ap)) =
                                                                checkSource (SrcD.src (SrcD.mk e s d st ap))) =
                                                            true)
                                                          (Tree.need
                                                            (decide
                                                                (checkSource (SrcD.src (SrcD.mk e s d st ap)) =
                                                                  checkSource (SrcD.src (SrcD.mk e s d st ap))) =
                                                              true)
                                                            (Tree.need
                                                              (decide
                                                                  (checkSource (SrcD.src (SrcD.mk e s d st ap)) =
                                                                    checkSource (SrcD.src (SrcD.mk e s d st ap))) =
                                                                true)
                                                              (Tree.need
                                                                (decide
                                                                    (checkSource (SrcD.src (SrcD.mk e s d st ap)) =
                                                                      checkSource (SrcD.src (SrcD.mk e s d st ap))) =
                                                                  true)
                                                                (Tree.need
                                                                  (decide
                                                                      (checkSource (SrcD.src (SrcD.mk e s d st ap)) =
                                                                        checkSource (SrcD.src (SrcD.mk e s d st ap))) =
                                                                    true)
                                                                  (Tree.need
                                                                    (decide
                                                                        (checkSource (SrcD.src (SrcD.mk e s d st ap)) =
                                                                          checkSource (SrcD.src (SrcD.mk e s d st ap))) =
                                                                      true)
                                                                    (Tree.ret
                                                                      (SV.bool
                                                                        (decide
                                                                          (checkTarget (Tgt.mk te ts tst tap) =
                                                                            checkTarget
                                                                              (Tgt.mk te ts tst
                                                                                tap))))))))))))))))))))))))))))
                      (Tree.need
                        (D.Is Int (D.like (hs 0 0) (Src.offered (Prod.fst (newSource e s ap)))) ∧
                          D.Is Int (D.like (hs_1 0 0) (Src.offered (Prod.fst (newSource e s ap)))) ∧
                            D.len (D.like (hs 0 0) (Src.offered (Prod.fst (newSource e s ap)))) ≤ 1048576 ∧
                              SrcD.src
                                  (SrcD.mk (Src.epoch (Prod.fst (newSource e s ap)))
                                    (Src.site (Prod.fst (newSource e s ap)))
                                    (D.like (hs 0 0) (Src.offered (Prod.fst (newSource e s ap))))
                                    (Src.stored (Prod.fst (newSource e s ap)))
                                    (Src.applied (Prod.fst (newSource e s ap)))) =
                                SrcD.src
                                  (SrcD.mk (Src.epoch (Prod.fst (newSource e s ap)))
                                    (Src.site (Prod.fst (newSource e s ap)))
                                    (D.like (hs_1 0 0) (Src.offered (Prod.fst (newSource e s ap))))
                                    (Src.stored (Prod.fst (newSource e s ap)))
                                    (Src.applied (Prod.fst (newSource e s ap)))))
                        (Tree.need (decide (Prod.snd (newSource e s ap) = Prod.snd (newSource e s ap)) = true)
                          (Tree.need (decide (Prod.snd (newSource e s ap) = Prod.snd (newSource e s ap)) = true)
                            (Tree.need (decide (Prod.snd (newSource e s ap) = Prod.snd (newSource e s ap)) = true)
                              (Tree.need (decide (Prod.snd (newSource e s ap) = Prod.snd (newSource e s ap)) = true)
                                (Tree.need
                                  ((decide
                                        (Tgt.epoch (Prod.fst (newTarget te ts tap)) =
                                          Tgt.epoch (Prod.fst (newTarget te ts tap))) &&
                                      (decide
                                          (Tgt.site (Prod.fst (newTarget te ts tap)) =
                                            Tgt.site (Prod.fst (newTarget te ts tap))) &&
                                        (decide
                                            (Tgt.stored (Prod.fst (newTarget te ts tap)) =
                                              Tgt.stored (Prod.fst (newTarget te ts tap))) &&
                                          (decide
                                              (Tgt.applied (Prod.fst (newTarget te ts tap)) =
                                                Tgt.applied (Prod.fst (newTarget te ts tap))) &&
                                            true)))) =
                                    true)
                                  (Tree.need
                                    ((decide
                                          (Tgt.epoch (Prod.fst (newTarget te ts tap)) =
                                            Tgt.epoch (Prod.fst (newTarget te ts tap))) &&
                                        (decide
                                            (Tgt.site (Prod.fst (newTarget te ts tap)) =
                                              Tgt.site (Prod.fst (newTarget te ts tap))) &&
                                          (decide
                                              (Tgt.stored (Prod.fst (newTarget te ts tap)) =
                                                Tgt.stored (Prod.fst (newTarget te ts tap))) &&
                                            (decide
                                                (Tgt.applied (Prod.fst (newTarget te ts tap)) =
                                                  Tgt.applied (Prod.fst (newTarget te ts tap))) &&
                                              true)))) =
                                      true)
                                    (Tree.need
                                      ((decide
                                            (Tgt.epoch (Prod.fst (newTarget te ts tap)) =
                                              Tgt.epoch (Prod.fst (newTarget te ts tap))) &&
                                          (decide
                                              (Tgt.site (Prod.fst (newTarget te ts tap)) =
                                                Tgt.site (Prod.fst (newTarget te ts tap))) &&
                                            (decide
                                                (Tgt.stored (Prod.fst (newTarget te ts tap)) =
                                                  Tgt.stored (Prod.fst (newTarget te ts tap))) &&
                                              (decide
                                                  (Tgt.applied (Prod.fst (newTarget te ts tap)) =
                                                    Tgt.applied (Prod.fst (newTarget te ts tap))) &&
                                                true)))) =
                                        true)
                                      (Tree.need
                                        ((decide
                                              (Tgt.epoch (Prod.fst (newTarget te ts tap)) =
                                                Tgt.epoch (Prod.fst (newTarget te ts tap))) &&
                                            (decide
                                                (Tgt.site (Prod.fst (newTarget te ts tap)) =
                                                  Tgt.site (Prod.fst (newTarget te ts tap))) &&
                                              (decide
                                                  (Tgt.stored (Prod.fst (newTarget te ts tap)) =
                                                    Tgt.stored (Prod.fst (newTarget te ts tap))) &&
                                                (decide
                                                    (Tgt.applied (Prod.fst (newTarget te ts tap)) =
                                                      Tgt.applied (Prod.fst (newTarget te ts tap))) &&
                                                  true)))) =
                                          true)
                                        (Tree.need
                                          (decide (Prod.snd (newTarget te ts tap) = Prod.snd (newTarget te ts tap)) =
                                            true)
                                          (Tree.need
                                            (decide (Prod.snd (newTarget te ts tap) = Prod.snd (newTarget te ts tap)) =
                                              true)
                                            (Tree.need (D.Is Int d)
                                              (Tree.need
                                                (decide
                                                    (Prod.snd (newTarget te ts tap) = Prod.snd (newTarget te ts tap)) =
                                                  true)
                                                (Tree.need
                                                  (decide
                                                      (Prod.snd (newTarget te ts tap) = Prod.snd (newTarget te ts tap)) =
                                                    true)
                                                  (Tree.need (D.Is Int d)
                                                    (Tree.need
                                                      (decide
                                                          (Prod.snd (newTarget te ts tap) =
                                                            Prod.snd (newTarget te ts tap)) =
                                                        true)
                                                      (Tree.need
                                                        (decide
                                                            (Prod.snd (newTarget te ts tap) =
                                                              Prod.snd (newTarget te ts tap)) =
                                                          true)
                                                        (Tree.need
                                                          (decide
                                                              (checkSource (SrcD.src (SrcD.mk e s d st ap)) =
                                                                checkSource (SrcD.src (SrcD.mk e s d st ap))) =
                                                            false)
                                                          (Tree.need
                                                            (decide
                                                                (checkSource (SrcD.src (SrcD.mk e s d st ap)) =
                                                                  checkSource (SrcD.src (SrcD.mk e s d st ap))) =
                                                              false)
                                                            (Tree.need
                                                              (decide
                                                                  (checkSource (SrcD.src (SrcD.mk e s d st ap)) =
                                                                    checkSource (SrcD.src (SrcD.mk e s d st ap))) =
                                                                false)
                                                              (Tree.need
                                                                (decide
                                                                    (checkSource (SrcD.src (SrcD.mk e s d st ap)) =
                                                                      checkSource (SrcD.src (SrcD.mk e s d st ap))) =
                                                                  false)
                                                                (Tree.need
                                                                  (decide
                                                                      (checkSource (SrcD.src (SrcD.mk e s d st ap)) =
                                                                        checkSource (SrcD.src (SrcD.mk e s d st ap))) =
                                                                    false)
                                                                  (Tree.need
                                                                    (decide
                                                                        (checkSource (SrcD.src (SrcD.mk e s d st ap)) =
                                                                          checkSource (SrcD.src (SrcD.mk e s d st ap))) =
                                                                      false)
                                                                    (Tree.ret (SV.lb false))))))))))))))))))))))))))
                    (Tree.need
                      (D.Is Int (D.like (hs 0 0) (Src.offered (Prod.fst (newSource e s ap)))) ∧
                        D.Is Int (D.like (hs_1 0 0) (Src.offered (Prod.fst (newSource e s ap)))) ∧
                          D.len (D.like (hs 0 0) (Src.offered (Prod.fst (newSource e s ap)))) ≤ 1048576 ∧
                            SrcD.src
                                (SrcD.mk (Src.epoch (Prod.fst (newSource e s ap)))
                                  (Src.site (Prod.fst (newSource e s ap)))
                                  (D.like (hs 0 0) (Src.offered (Prod.fst (newSource e s ap))))
                                  (Src.stored (Prod.fst (newSource e s ap)))
                                  (Src.applied (Prod.fst (newSource e s ap)))) =
                              SrcD.src
                                (SrcD.mk (Src.epoch (Prod.fst (newSource e s ap)))
                                  (Src.site (Prod.fst (newSource e s ap)))
                                  (D.like (hs_1 0 0) (Src.offered (Prod.fst (newSource e s ap))))
                                  (Src.stored (Prod.fst (newSource e s ap))) (Src.applied (Prod.fst (newSource e s ap)))))
                      (Tree.need (decide (Prod.snd (newSource e s ap) = Prod.snd (newSource e s ap)) = true)
                        (Tree.need (decide (Prod.snd (newSource e s ap) = Prod.snd (newSource e s ap)) = true)
                          (Tree.need (decide (Prod.snd (newSource e s ap) = Prod.snd (newSource e s ap)) = true)
                            (Tree.need (decide (Prod.snd (newSource e s ap) = Prod.snd (newSource e s ap)) = true)
                              (Tree.need
                                ((decide
                                      (Tgt.epoch (Prod.fst (newTarget te ts tap)) =
                                        Tgt.epoch (Prod.fst (newTarget te ts tap))) &&
                                    (decide
                                        (Tgt.site (Prod.fst (newTarget te ts tap)) =
                                          Tgt.site (Prod.fst (newTarget te ts tap))) &&
                                      (decide
                                          (Tgt.stored (Prod.fst (newTarget te ts tap)) =
                                            Tgt.stored (Prod.fst (newTarget te ts tap))) &&
                                        (decide
                                            (Tgt.applied (Prod.fst (newTarget te ts tap)) =
                                              Tgt.applied (Prod.fst (newTarget te ts tap))) &&
                                          true)))) =
                                  true)
                                (Tree.need
                                  ((decide
                                        (Tgt.epoch (Prod.fst (newTarget te ts tap)) =
                                          Tgt.epoch (Prod.fst (newTarget te ts tap))) &&
                                      (decide
                                          (Tgt.site (Prod.fst (newTarget te ts tap)) =
                                            Tgt.site (Prod.fst (newTarget te ts tap))) &&
                                        (decide
                                            (Tgt.stored (Prod.fst (newTarget te ts tap)) =
                                              Tgt.stored (Prod.fst (newTarget te ts tap))) &&
                                          (decide
                                              (Tgt.applied (Prod.fst (newTarget te ts tap)) =
                                                Tgt.applied (Prod.fst (newTarget te ts tap))) &&
                                            true)))) =
                                    true)
                                  (Tree.need
                                    ((decide
                                          (Tgt.epoch (Prod.fst (newTarget te ts tap)) =
                                            Tgt.epoch (Prod.fst (newTarget te ts tap))) &&
                                        (decide
                                            (Tgt.site (Prod.fst (newTarget te ts tap)) =
                                              Tgt.site (Prod.fst (newTarget te ts tap))) &&
                                          (decide
                                              (Tgt.stored (Prod.fst (newTarget te ts tap)) =
                                                Tgt.stored (Prod.fst (newTarget te ts tap))) &&
                                            (decide
                                                (Tgt.applied (Prod.fst (newTarget te ts tap)) =
                                                  Tgt.applied (Prod.fst (newTarget te ts tap))) &&
                                              true)))) =
                                      true)
                                    (Tree.need
                                      ((decide
                                            (Tgt.epoch (Prod.fst (newTarget te ts tap)) =
                                              Tgt.epoch (Prod.fst (newTarget te ts tap))) &&
                                          (decide
                                              (Tgt.site (Prod.fst (newTarget te ts tap)) =
                                                Tgt.site (Prod.fst (newTarget te ts tap))) &&
                                            (decide
                                                (Tgt.stored (Prod.fst (newTarget te ts tap)) =
                                                  Tgt.stored (Prod.fst (newTarget te ts tap))) &&
                                              (decide
                                                  (Tgt.applied (Prod.fst (newTarget te ts tap)) =
                                                    Tgt.applied (Prod.fst (newTarget te ts tap))) &&
                                                true)))) =
                                        true)
                                      (Tree.need
                                        (decide (Prod.snd (newTarget te ts tap) = Prod.snd (newTarget te ts tap)) = false)
                                        (Tree.need
                                          (decide (Prod.snd (newTarget te ts tap) = Prod.snd (newTarget te ts tap)) =
                                            false)
                                          (Tree.need
                                            (decide (Prod.snd (newTarget te ts tap) = Prod.snd (newTarget te ts tap)) =
                                              false)
                                            (Tree.need
                                              (decide (Prod.snd (newTarget te ts tap) = Prod.snd (newTarget te ts tap)) =
                                                false)
                                              (Tree.need
                                                (decide
                                                    (Prod.snd (newTarget te ts tap) = Prod.snd (newTarget te ts tap)) =
                                                  false)
                                                (Tree.need
                                                  (decide
                                                      (Prod.snd (newTarget te ts tap) = Prod.snd (newTarget te ts tap)) =
                                                    false)
                                                  (Tree.ret (SV.lb false))))))))))))))))))
                  (Tree.need
                    (D.Is Int (D.like (hs 0 0) (Src.offered (Prod.fst (newSource e s ap)))) ∧
                      D.Is Int (D.like (hs_1 0 0) (Src.offered (Prod.fst (newSource e s ap)))) ∧
                        D.len (D.like (hs 0 0) (Src.offered (Prod.fst (newSource e s ap)))) ≤ 1048576 ∧
                          SrcD.src
                              (SrcD.mk (Src.epoch (Prod.fst (newSource e s ap))) (Src.site (Prod.fst (newSource e s ap)))
                                (D.like (hs 0 0) (Src.offered (Prod.fst (newSource e s ap))))
                                (Src.stored (Prod.fst (newSource e s ap))) (Src.applied (Prod.fst (newSource e s ap)))) =
                            SrcD.src
                              (SrcD.mk (Src.epoch (Prod.fst (newSource e s ap))) (Src.site (Prod.fst (newSource e s ap)))
                                (D.like (hs_1 0 0) (Src.offered (Prod.fst (newSource e s ap))))
                                (Src.stored (Prod.fst (newSource e s ap))) (Src.applied (Prod.fst (newSource e s ap)))))
                    (Tree.need (decide (Prod.snd (newSource e s ap) = Prod.snd (newSource e s ap)) = true)
                      (Tree.need (decide (Prod.snd (newSource e s ap) = Prod.snd (newSource e s ap)) = true)
                        (Tree.need (decide (Prod.snd (newSource e s ap) = Prod.snd (newSource e s ap)) = true)
                          (Tree.need (decide (Prod.snd (newSource e s ap) = Prod.snd (newSource e s ap)) = true)
                            (Tree.need
                              ((decide
                                    (Tgt.epoch (Prod.fst (newTarget te ts tap)) =
                                      Tgt.epoch (Prod.fst (newTarget te ts tap))) &&
                                  (decide
                                      (Tgt.site (Prod.fst (newTarget te ts tap)) =
                                        Tgt.site (Prod.fst (newTarget te ts tap))) &&
                                    (decide
                                        (Tgt.stored (Prod.fst (newTarget te ts tap)) =
                                          Tgt.stored (Prod.fst (newTarget te ts tap))) &&
                                      (decide
                                          (Tgt.applied (Prod.fst (newTarget te ts tap)) =
                                            Tgt.applied (Prod.fst (newTarget te ts tap))) &&
                                        true)))) =
                                false)
                              (Tree.need
                                ((decide
                                      (Tgt.epoch (Prod.fst (newTarget te ts tap)) =
                                        Tgt.epoch (Prod.fst (newTarget te ts tap))) &&
                                    (decide
                                        (Tgt.site (Prod.fst (newTarget te ts tap)) =
                                          Tgt.site (Prod.fst (newTarget te ts tap))) &&
                                      (decide
                                          (Tgt.stored (Prod.fst (newTarget te ts tap)) =
                                            Tgt.stored (Prod.fst (newTarget te ts tap))) &&
                                        (decide
                                            (Tgt.applied (Prod.fst (newTarget te ts tap)) =
                                              Tgt.applied (Prod.fst (newTarget te ts tap))) &&
                                          true)))) =
                                  false)
                                (Tree.need
                                  ((decide
                                        (Tgt.epoch (Prod.fst (newTarget te ts tap)) =
                                          Tgt.epoch (Prod.fst (newTarget te ts tap))) &&
                                      (decide
                                          (Tgt.site (Prod.fst (newTarget te ts tap)) =
                                            Tgt.site (Prod.fst (newTarget te ts tap))) &&
                                        (decide
                                            (Tgt.stored (Prod.fst (newTarget te ts tap)) =
                                              Tgt.stored (Prod.fst (newTarget te ts tap))) &&
                                          (decide
                                              (Tgt.applied (Prod.fst (newTarget te ts tap)) =
                                                Tgt.applied (Prod.fst (newTarget te ts tap))) &&
                                            true)))) =
                                    false)
                                  (Tree.need
                                    ((decide
                                          (Tgt.epoch (Prod.fst (newTarget te ts tap)) =
                                            Tgt.epoch (Prod.fst (newTarget te ts tap))) &&
                                        (decide
                                            (Tgt.site (Prod.fst (newTarget te ts tap)) =
                                              Tgt.site (Prod.fst (newTarget te ts tap))) &&
                                          (decide
                                              (Tgt.stored (Prod.fst (newTarget te ts tap)) =
                                                Tgt.stored (Prod.fst (newTarget te ts tap))) &&
                                            (decide
                                                (Tgt.applied (Prod.fst (newTarget te ts tap)) =
                                                  Tgt.applied (Prod.fst (newTarget te ts tap))) &&
                                              true)))) =
                                      false)
                                    (Tree.ret (SV.lb false))))))))))))
                (Tree.need
                  (D.Is Int (D.like (hs 0 0) (Src.offered (Prod.fst (newSource e s ap)))) ∧
                    D.Is Int (D.like (hs_1 0 0) (Src.offered (Prod.fst (newSource e s ap)))) ∧
                      D.len (D.like (hs 0 0) (Src.offered (Prod.fst (newSource e s ap)))) ≤ 1048576 ∧
                        SrcD.src
                            (SrcD.mk (Src.epoch (Prod.fst (newSource e s ap))) (Src.site (Prod.fst (newSource e s ap)))
                              (D.like (hs 0 0) (Src.offered (Prod.fst (newSource e s ap))))
                              (Src.stored (Prod.fst (newSource e s ap))) (Src.applied (Prod.fst (newSource e s ap)))) =
                          SrcD.src
                            (SrcD.mk (Src.epoch (Prod.fst (newSource e s ap))) (Src.site (Prod.fst (newSource e s ap)))
                              (D.like (hs_1 0 0) (Src.offered (Prod.fst (newSource e s ap))))
                              (Src.stored (Prod.fst (newSource e s ap))) (Src.applied (Prod.fst (newSource e s ap)))))
                  (Tree.need (decide (Prod.snd (newSource e s ap) = Prod.snd (newSource e s ap)) = false)
                    (Tree.need (decide (Prod.snd (newSource e s ap) = Prod.snd (newSource e s ap)) = false)
                      (Tree.need (decide (Prod.snd (newSource e s ap) = Prod.snd (newSource e s ap)) = false)
                        (Tree.need (decide (Prod.snd (newSource e s ap) = Prod.snd (newSource e s ap)) = false)
                          (Tree.ret (SV.lb false)))))))) := by kernel_rfl

theorem learns_in : exec Try.prog ctL 300 (entry Try.prog 5 [.agg [.int .i64 e, .int .i64 s, .dat d, .int .i64 st, .int .i64 ap], .agg [.int .i64 a, .int .i64 b, .int .i64 c, .int .i64 dd, .int .i64 f, .int .i64 g, .dat v, .dat w]]) =
  Tree.br (decide ((↑(D.len d) : Int) > 1100)) (Tree.ret (SV.lb true))
    (Tree.br (decide ((↑(D.len v) : Int) > 20)) (Tree.ret (SV.lb true))
      (Tree.br (decide ((↑(D.len w) : Int) > 100)) (Tree.ret (SV.lb true))
        (Tree.need (D.Is Int d)
          (Tree.all fun hs =>
            Tree.need (D.Is Int d)
              (Tree.all fun hs_1 =>
                Tree.need
                  (D.Is Int
                      (D.like (hs 0 0)
                        (Src.offered
                          (Prod.fst (learn (SrcD.src (SrcD.mk e s d st ap)) (MsgD.msg (MsgD.mk a b c dd f g v w)))))) ∧
                    D.Is Int
                        (D.like (hs_1 0 0)
                          (Src.offered
                            (Prod.fst (learn (SrcD.src (SrcD.mk e s d st ap)) (MsgD.msg (MsgD.mk a b c dd f g v w)))))) ∧
                      D.len
                            (D.like (hs 0 0)
                              (Src.offered
                                (Prod.fst
                                  (learn (SrcD.src (SrcD.mk e s d st ap)) (MsgD.msg (MsgD.mk a b c dd f g v w)))))) ≤
                          1048576 ∧
                        SrcD.src
                            (SrcD.mk
                              (Src.epoch
                                (Prod.fst (learn (SrcD.src (SrcD.mk e s d st ap)) (MsgD.msg (MsgD.mk a b c dd f g v w)))))
                              (Src.site
                                (Prod.fst (learn (SrcD.src (SrcD.mk e s d st ap)) (MsgD.msg (MsgD.mk a b c dd f g v w)))))
                              (D.like (hs 0 0)
                                (Src.offered
                                  (Prod.fst
                                    (learn (SrcD.src (SrcD.mk e s d st ap)) (MsgD.msg (MsgD.mk a b c dd f g v w))))))
                              (Src.stored
                                (Prod.fst (learn (SrcD.src (SrcD.mk e s d st ap)) (MsgD.msg (MsgD.mk a b c dd f g v w)))))
                              (Src.applied
                                (Prod.fst
                                  (learn (SrcD.src (SrcD.mk e s d st ap)) (MsgD.msg (MsgD.mk a b c dd f g v w)))))) =
                          SrcD.src
                            (SrcD.mk
                              (Src.epoch
                                (Prod.fst (learn (SrcD.src (SrcD.mk e s d st ap)) (MsgD.msg (MsgD.mk a b c dd f g v w)))))
                              (Src.site
                                (Prod.fst (learn (SrcD.src (SrcD.mk e s d st ap)) (MsgD.msg (MsgD.mk a b c dd f g v w)))))
                              (D.like (hs_1 0 0)
                                (Src.offered
                                  (Prod.fst
                                    (learn (SrcD.src (SrcD.mk e s d st ap)) (MsgD.msg (MsgD.mk a b c dd f g v w))))))
                              (Src.stored
                                (Prod.fst (learn (SrcD.src (SrcD.mk e s d st ap)) (MsgD.msg (MsgD.mk a b c dd f g v w)))))
                              (Src.applied
                                (Prod.fst
                                  (learn (SrcD.src (SrcD.mk e s d st ap)) (MsgD.msg (MsgD.mk a b c dd f g v w)))))))
                  (Tree.need
                    (D.Is Msg
                        (D.like (hs 0 1)
                          (Prod.snd (learn (SrcD.src (SrcD.mk e s d st ap)) (MsgD.msg (MsgD.mk a b c dd f g v w))))) ∧
                      D.Is Msg
                          (D.like (hs_1 0 1)
                            (Prod.snd (learn (SrcD.src (SrcD.mk e s d st ap)) (MsgD.msg (MsgD.mk a b c dd f g v w))))) ∧
                        D.len
                              (D.like (hs 0 1)
                                (Prod.snd
                                  (learn (SrcD.src (SrcD.mk e s d st ap)) (MsgD.msg (MsgD.mk a b c dd f g v w))))) ≤
                            1048576 ∧
                          (∀ (m : Msg),
                              List.Mem m
                                  (D.to Msg
                                    (D.like (hs 0 1)
                                      (Prod.snd
                                        (learn (SrcD.src (SrcD.mk e s d st ap))
                                          (MsgD.msg (MsgD.mk a b c dd f g v w)))))) →
                                Msg.body m = [] ∧ Msg.values m = []) ∧
                            D.to Msg
                                (D.like (hs 0 1)
                                  (Prod.snd
                                    (learn (SrcD.src (SrcD.mk e s d st ap)) (MsgD.msg (MsgD.mk a b c dd f g v w))))) =
                              D.to Msg
                                (D.like (hs_1 0 1)
                                  (Prod.snd
                                    (learn (SrcD.src (SrcD.mk e s d st ap)) (MsgD.msg (MsgD.mk a b c dd f g v w))))))
                    (Tree.ret (SV.lb true)))))))) := by kernel_rfl

theorem stores_in : exec Try.prog ctL 300 (entry Try.prog 6 [.agg [.int .i64 te, .int .i64 ts, .int .i64 tst, .int .i64 tap], .int .i64 c]) =
  Tree.all fun hs =>
    Tree.all fun hs_1 =>
      Tree.br
        (!(decide
              (Tgt.epoch (Prod.fst (Sx.store (Tgt.mk te ts tst tap) c)) =
                Tgt.epoch (Prod.fst (Sx.store (Tgt.mk te ts tst tap) c))) &&
            (decide
                (Tgt.site (Prod.fst (Sx.store (Tgt.mk te ts tst tap) c)) =
                  Tgt.site (Prod.fst (Sx.store (Tgt.mk te ts tst tap) c))) &&
              (decide
                  (Tgt.stored (Prod.fst (Sx.store (Tgt.mk te ts tst tap) c)) =
                    Tgt.stored (Prod.fst (Sx.store (Tgt.mk te ts tst tap) c))) &&
                (decide
                    (Tgt.applied (Prod.fst (Sx.store (Tgt.mk te ts tst tap) c)) =
                      Tgt.applied (Prod.fst (Sx.store (Tgt.mk te ts tst tap) c))) &&
                  true)))))
        (Tree.ret (SV.lb false))
        (Tree.need
          (D.Is Msg (D.like (hs 0 0) (Prod.fst (Prod.snd (Sx.store (Tgt.mk te ts tst tap) c)))) ∧
            D.Is Msg (D.like (hs_1 0 0) (Prod.fst (Prod.snd (Sx.store (Tgt.mk te ts tst tap) c)))) ∧
              D.len (D.like (hs 0 0) (Prod.fst (Prod.snd (Sx.store (Tgt.mk te ts tst tap) c)))) ≤ 1048576 ∧
                (∀ (m : Msg),
                    List.Mem m (D.to Msg (D.like (hs 0 0) (Prod.fst (Prod.snd (Sx.store (Tgt.mk te ts tst tap) c))))) →
                      Msg.body m = [] ∧ Msg.values m = []) ∧
                  D.to Msg (D.like (hs 0 0) (Prod.fst (Prod.snd (Sx.store (Tgt.mk te ts tst tap) c)))) =
                    D.to Msg (D.like (hs_1 0 0) (Prod.fst (Prod.snd (Sx.store (Tgt.mk te ts tst tap) c)))))
          (Tree.br
            (Prod.snd (Prod.snd (Sx.store (Tgt.mk te ts tst tap) c)) !=
              Prod.snd (Prod.snd (Sx.store (Tgt.mk te ts tst tap) c)))
            (Tree.ret (SV.lb false))
            (Tree.all fun hs =>
              Tree.all fun hs_2 =>
                Tree.br
                  (decide
                      (Tgt.epoch (Prod.fst (applyT (Tgt.mk te ts tst tap) c)) =
                        Tgt.epoch (Prod.fst (applyT (Tgt.mk te ts tst tap) c))) &&
                    (decide
                        (Tgt.site (Prod.fst (applyT (Tgt.mk te ts tst tap) c)) =
                          Tgt.site (Prod.fst (applyT (Tgt.mk te ts tst tap) c))) &&
                      (decide
                          (Tgt.stored (Prod.fst (applyT (Tgt.mk te ts tst tap) c)) =
                            Tgt.stored (Prod.fst (applyT (Tgt.mk te ts tst tap) c))) &&
                        (decide
                            (Tgt.applied (Prod.fst (applyT (Tgt.mk te ts tst tap) c)) =
                              Tgt.applied (Prod.fst (applyT (Tgt.mk te ts tst tap) c))) &&
                          true))))
                  (Tree.need
                    (D.Is Msg (D.like (hs 0 0) (Prod.fst (Prod.snd (applyT (Tgt.mk te ts tst tap) c)))) ∧
                      D.Is Msg (D.like (hs_2 0 0) (Prod.fst (Prod.snd (applyT (Tgt.mk te ts tst tap) c)))) ∧
                        D.len (D.like (hs 0 0) (Prod.fst (Prod.snd (applyT (Tgt.mk te ts tst tap) c)))) ≤ 1048576 ∧
                          (∀ (m : Msg),
                              List.Mem m
                                  (D.to Msg (D.like (hs 0 0) (Prod.fst (Prod.snd (applyT (Tgt.mk te ts tst tap) c))))) →
                                Msg.body m = [] ∧ Msg.values m = []) ∧
                            D.to Msg (D.like (hs 0 0) (Prod.fst (Prod.snd (applyT (Tgt.mk te ts tst tap) c)))) =
                              D.to Msg (D.like (hs_2 0 0) (Prod.fst (Prod.snd (applyT (Tgt.mk te ts tst tap) c)))))
                    (Tree.ret
                      (SV.bool
                        (decide
                          (Prod.snd (Prod.snd (applyT (Tgt.mk te ts tst tap) c)) =
                            Prod.snd (Prod.snd (applyT (Tgt.mk te ts tst tap) c)))))))
                  (Tree.ret (SV.lb false))))) := by kernel_rfl

theorem answers_in : exec Try.prog ctL 300 (entry Try.prog 7 [.agg [.int .i64 te, .int .i64 ts, .int .i64 tst, .int .i64 tap], .agg [.int .i64 a, .int .i64 b, .int .i64 c, .int .i64 dd, .int .i64 f, .int .i64 g, .dat v, .dat w]]) =
  Tree.br (decide ((↑(D.len v) : Int) > 20)) (Tree.ret (SV.lb true))
    (Tree.br (decide ((↑(D.len w) : Int) > 100)) (Tree.ret (SV.lb true))
      (Tree.all fun hs =>
        Tree.all fun hs_1 =>
          Tree.br
            (decide
                (Tgt.epoch (Prod.fst (answer (Tgt.mk te ts tst tap) (MsgD.msg (MsgD.mk a b c dd f g v w)))) =
                  Tgt.epoch (Prod.fst (answer (Tgt.mk te ts tst tap) (MsgD.msg (MsgD.mk a b c dd f g v w))))) &&
              (decide
                  (Tgt.site (Prod.fst (answer (Tgt.mk te ts tst tap) (MsgD.msg (MsgD.mk a b c dd f g v w)))) =
                    Tgt.site (Prod.fst (answer (Tgt.mk te ts tst tap) (MsgD.msg (MsgD.mk a b c dd f g v w))))) &&
                (decide
                    (Tgt.stored (Prod.fst (answer (Tgt.mk te ts tst tap) (MsgD.msg (MsgD.mk a b c dd f g v w)))) =
                      Tgt.stored (Prod.fst (answer (Tgt.mk te ts tst tap) (MsgD.msg (MsgD.mk a b c dd f g v w))))) &&
                  (decide
                      (Tgt.applied (Prod.fst (answer (Tgt.mk te ts tst tap) (MsgD.msg (MsgD.mk a b c dd f g v w)))) =
                        Tgt.applied (Prod.fst (answer (Tgt.mk te ts tst tap) (MsgD.msg (MsgD.mk a b c dd f g v w))))) &&
                    true))))
            (Tree.need
              (D.Is Msg
                  (D.like (hs 0 0) (Prod.snd (answer (Tgt.mk te ts tst tap) (MsgD.msg (MsgD.mk a b c dd f g v w))))) ∧
                D.Is Msg
                    (D.like (hs_1 0 0) (Prod.snd (answer (Tgt.mk te ts tst tap) (MsgD.msg (MsgD.mk a b c dd f g v w))))) ∧
                  D.len
                        (D.like (hs 0 0)
                          (Prod.snd (answer (Tgt.mk te ts tst tap) (MsgD.msg (MsgD.mk a b c dd f g v w))))) ≤
                      1048576 ∧
                    (∀ (m : Msg),
                        List.Mem m
                            (D.to Msg
                              (D.like (hs 0 0)
                                (Prod.snd (answer (Tgt.mk te ts tst tap) (MsgD.msg (MsgD.mk a b c dd f g v w)))))) →
                          Msg.body m = [] ∧ Msg.values m = []) ∧
                      D.to Msg
                          (D.like (hs 0 0)
                            (Prod.snd (answer (Tgt.mk te ts tst tap) (MsgD.msg (MsgD.mk a b c dd f g v w))))) =
                        D.to Msg
                          (D.like (hs_1 0 0)
                            (Prod.snd (answer (Tgt.mk te ts tst tap) (MsgD.msg (MsgD.mk a b c dd f g v w))))))
              (Tree.ret (SV.lb true)))
            (Tree.ret (SV.lb false)))) := by kernel_rfl

end
end Go.Proofs.Ytnfkkmdbaknnlaa
end
section
/- Layer 32: five statements about single steps. -/
open Go Go.Proofs Sx
namespace Sx
theorem ret_sure {P : Program} {w : World} {H : HV} {b : Bool} (h : b = true) : (Tree.ret (.bool b)).holds P ⟨w, H⟩ (RetS w H (.lb true)) := by
  subst h; exact ret_S fun _ _ => by simp [SV.den]
theorem ret_lbt {P : Program} {w : World} {H : HV} : (Tree.ret (.lb true)).holds P ⟨w, H⟩ (RetS w H (.lb true)) := ret_S fun _ _ => rfl
theorem ret_lbs {P : Program} {w : World} {H : HV} {b : Bool} (h : b = true) : (Tree.ret (.lb b)).holds P ⟨w, H⟩ (RetS w H (.lb true)) := by subst h; exact ret_lbt

theorem filter_len {α : Type} (p : α → Bool) (l : List α) : (l.filter p).length ≤ l.length := List.length_filter_le p l
theorem offer_len (s : Src) (c : Int) : (offer s c).1.offered.length ≤ s.offered.length + 1 ∧ (offer s c).2.1.length ≤ 1 ∧ ∀ m, m ∈ (offer s c).2.1 → m.body = [] ∧ m.values = [] := by
  unfold offer
  split
  · simp [zSrc]
  · split
    · simp [zSrc]
    · split
      · simp [zSrc]
      · split
        · simp [zSrc]
        · simp [toTarget]
theorem resend_len (s : Src) : (resend s).length ≤ s.offered.length + 1 ∧ ∀ m, m ∈ resend s → m.body = [] ∧ m.values = [] := by
  unfold resend
  split
  · simp
  · have h := filter_len (fun x => decide (s.stored < x)) s.offered
    constructor
    · rw [List.length_append, List.length_map]
      split <;> simp <;> omega
    · intro m hm
      rcases List.mem_append.1 hm with hm | hm
      · split at hm
        · rw [List.mem_singleton.1 hm]; exact ⟨rfl, rfl⟩
        · cases hm
      · obtain ⟨x, _, rfl⟩ := List.mem_map.1 hm
        exact ⟨rfl, rfl⟩
theorem src_like (a b c d : Int) (x : D) (l : List Int) : (SrcD.mk a b (x.like l) c d).src = ⟨a, b, l, c, d⟩ := by simp [SrcD.src, D.like_to]
theorem like_len {α : Type} [Codec α] (d : D) (l : List α) : (d.like l).len = l.length := by rw [D.Is.length (α := α), D.like_to]
end Sx
namespace Go.Proofs.Ytnfkkmdbaknnlaa
def spB1 (x : SrcD × Int) : SpecR := .scalar [x.1.d.Is Int] (.lb true)
theorem lawOffers : Law Try.prog 4 ((rdSrc.two rdInt).sp spB1) := by
  refine law_in _ (by kernel_rfl) fun H w ⟨⟨e, s, d, st, ap⟩, c⟩ hok hp => ?_
  have hd : d.Is Int := hp _ (List.mem_singleton.2 rfl)
  apply exec_sound ctLOk 300
  rw [show (rdSrc.two rdInt).canon (⟨e, s, d, st, ap⟩, c) = [.agg [.int .i64 e, .int .i64 s, .dat d, .int .i64 st, .int .i64 ap], .int .i64 c] from rfl, offers_in]
  refine ⟨fun _ => ret_lbt, fun hl => ?_⟩
  have hl : (d.to Int).length ≤ 1100 := by have := of_decide_eq_false hl; rw [D.Is.length (α := Int)] at this; omega
  have h1 := offer_len (SrcD.mk e s d st ap).src c
  have h2 := resend_len (SrcD.mk e s d st ap).src
  have h3 : (SrcD.mk e s d st ap).src.offered = d.to Int := rfl
  rw [h3] at h1 h2
  have h4 : (offer (SrcD.mk e s d st ap).src c).1.offered.length ≤ 1048576 := by omega
  have h5 : (offer (SrcD.mk e s d st ap).src c).2.1.length ≤ 1048576 := by omega
  have h6 : (resend (SrcD.mk e s d st ap).src).length ≤ 1048576 := by omega
  simp [hd, D.like_is, src_like, D.like_to, like_len, ret_sure, h4, h5, h6]
  exact ⟨h1.2.2, h2.2⟩
end Go.Proofs.Ytnfkkmdbaknnlaa
end
section
/- Layer 32: the other statements about single steps. -/
open Go Go.Proofs Sx
namespace Sx
theorem newSource_len (e s a : Int) : (newSource e s a).1.offered = [] := by unfold newSource; split <;> rfl
theorem store_len (t : Tgt) (c : Int) : (store t c).2.1.length ≤ 1 ∧ ∀ m, m ∈ (store t c).2.1 → m.body = [] ∧ m.values = [] := by
  unfold store
  split
  · simp
  · split
    · simp
    · split
      · simp
      · simp [toSource]
theorem applyT_len (t : Tgt) (c : Int) : (applyT t c).2.1.length ≤ 1 ∧ ∀ m, m ∈ (applyT t c).2.1 → m.body = [] ∧ m.values = [] := by
  unfold applyT
  split
  · simp
  · split
    · simp
    · split
      · simp
      · simp [toSource]
theorem answer_len (t : Tgt) (m : Msg) : (answer t m).2.length ≤ 1 ∧ ∀ x, x ∈ (answer t m).2 → x.body = [] ∧ x.values = [] := by
  unfold answer
  split
  · simp
  · split
    · simp [toSource]
    · simp only
      split <;> simp [toSource]
theorem learn_len (s : Src) (m : Msg) : (learn s m).1.offered.length ≤ s.offered.length ∧ (learn s m).2.length ≤ 1 ∧ ∀ x, x ∈ (learn s m).2 → x.body = [] ∧ x.values = [] := by
  unfold learn
  split
  · simp
  · split
    · simp
    · split
      · simp
      · split
        · split
          · simp [toTarget]
          · simp
        · split
          · split
            · simp [filter_len]
            · simp
          · simp
end Sx
namespace Go.Proofs.Ytnfkkmdbaknnlaa
def spB2 (x : SrcD × Tgt) : SpecR := .scalar [x.1.d.Is Int] (.lb true)
theorem lawStarts : Law Try.prog 3 ((rdSrc.two rdTgt).sp spB2) := by
  refine law_in _ (by kernel_rfl) fun H w ⟨⟨e, s, d, st, ap⟩, ⟨te, ts, tst, tap⟩⟩ hok hp => ?_
  have hd : d.Is Int := hp _ (List.mem_singleton.2 rfl)
  apply exec_sound ctLOk 300
  rw [show (rdSrc.two rdTgt).canon (⟨e, s, d, st, ap⟩, ⟨te, ts, tst, tap⟩) = [.agg [.int .i64 e, .int .i64 s, .dat d, .int .i64 st, .int .i64 ap], .agg [.int .i64 te, .int .i64 ts, .int .i64 tst, .int .i64 tap]] from rfl, starts_in]
  refine ⟨fun _ => ret_lbt, fun hl => ?_⟩
  have h1 := newSource_len e s ap
  simp [hd, D.like_is, src_like, D.like_to, like_len, ret_sure, h1]

def spB3 (x : SrcD × MsgD) : SpecR := .scalar [x.1.d.Is Int] (.lb true)
theorem lawLearns : Law Try.prog 5 ((rdSrc.two rdMsg).sp spB3) := by
  refine law_in _ (by kernel_rfl) fun H w ⟨⟨e, s, d, st, ap⟩, ⟨a, b, c, dd, f, g, v, w'⟩⟩ hok hp => ?_
  have hd : d.Is Int := hp _ (List.mem_singleton.2 rfl)
  apply exec_sound ctLOk 300
  rw [show (rdSrc.two rdMsg).canon (⟨e, s, d, st, ap⟩, ⟨a, b, c, dd, f, g, v, w'⟩) = [.agg [.int .i64 e, .int .i64 s, .dat d, .int .i64 st, .int .i64 ap], .agg [.int .i64 a, .int .i64 b, .int .i64 c, .int .i64 dd, .int .i64 f, .int .i64 g, .dat v, .dat w']] from rfl, learns_in]
  refine ⟨fun _ => ret_lbt, fun hl => ⟨fun _ => ret_lbt, fun _ => ⟨fun _ => ret_lbt, fun _ => ?_⟩⟩⟩
  have hl : (d.to Int).length ≤ 1100 := by have := of_decide_eq_false hl; rw [D.Is.length (α := Int)] at this; omega
  have h1 := learn_len (SrcD.mk e s d st ap).src (MsgD.mk a b c dd f g v w').msg
  have h3 : (SrcD.mk e s d st ap).src.offered = d.to Int := rfl
  rw [h3] at h1
  have h4 : (learn (SrcD.mk e s d st ap).src (MsgD.mk a b c dd f g v w').msg).1.offered.length ≤ 1048576 := by omega
  have h5 : (learn (SrcD.mk e s d st ap).src (MsgD.mk a b c dd f g v w').msg).2.length ≤ 1048576 := by omega
  simp [hd, D.like_is, src_like, D.like_to, like_len, ret_lbt, h4, h5]
  exact h1.2.2

def spB4 (_ : Tgt × Int) : SpecR := .scalar [] (.lb true)
theorem lawStores : Law Try.prog 6 ((rdTgt.two rdInt).sp spB4) := by
  refine law_in _ (by kernel_rfl) fun H w ⟨⟨te, ts, tst, tap⟩, c⟩ hok hp => ?_
  apply exec_sound ctLOk 300
  rw [show (rdTgt.two rdInt).canon (⟨te, ts, tst, tap⟩, c) = [.agg [.int .i64 te, .int .i64 ts, .int .i64 tst, .int .i64 tap], .int .i64 c] from rfl, stores_in]
  have h1 := store_len ⟨te, ts, tst, tap⟩ c
  have h2 := applyT_len ⟨te, ts, tst, tap⟩ c
  have h4 : (Sx.store ⟨te, ts, tst, tap⟩ c).2.1.length ≤ 1048576 := by omega
  have h5 : (applyT ⟨te, ts, tst, tap⟩ c).2.1.length ≤ 1048576 := by omega
  simp [D.like_is, D.like_to, like_len, ret_sure, h4, h5]
  exact ⟨h1.2, h2.2⟩

def spB5 (_ : Tgt × MsgD) : SpecR := .scalar [] (.lb true)
theorem lawAnswers : Law Try.prog 7 ((rdTgt.two rdMsg).sp spB5) := by
  refine law_in _ (by kernel_rfl) fun H w ⟨⟨te, ts, tst, tap⟩, ⟨a, b, c, dd, f, g, v, w'⟩⟩ hok hp => ?_
  apply exec_sound ctLOk 300
  rw [show (rdTgt.two rdMsg).canon (⟨te, ts, tst, tap⟩, ⟨a, b, c, dd, f, g, v, w'⟩) = [.agg [.int .i64 te, .int .i64 ts, .int .i64 tst, .int .i64 tap], .agg [.int .i64 a, .int .i64 b, .int .i64 c, .int .i64 dd, .int .i64 f, .int .i64 g, .dat v, .dat w']] from rfl, answers_in]
  refine ⟨fun _ => ret_lbt, fun hl => ⟨fun _ => ret_lbt, fun _ => ?_⟩⟩
  have h1 := answer_len ⟨te, ts, tst, tap⟩ (MsgD.mk a b c dd f g v w').msg
  have h4 : (answer ⟨te, ts, tst, tap⟩ (MsgD.mk a b c dd f g v w').msg).2.length ≤ 1048576 := by omega
  simp [D.like_is, D.like_to, like_len, ret_lbt, h4]
  exact h1.2
end Go.Proofs.Ytnfkkmdbaknnlaa
end
