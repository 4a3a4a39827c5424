/- Layer 32: the statements, walked. -/
import Derived.KernelRfl
import Derived.Test.YtnfkkmdbaknnlaaW3gtoW17g
import Derived.Test.YtnfkkmdbaknnlaaProg
import Derived.Test.YtnfkkmdbaknnlaaW15gtoM33
import Derived.Test.YtnfkkmdbaknnlaaOvtoW1
set_option linter.all false
section
open Go Go.Proofs Sx
namespace Go.Proofs.Ytnfkkmdbaknnlaa
set_option maxRecDepth 100000
set_option maxHeartbeats 0
section
variable (e s st ap c te ts tst tap a b dd f g k : Int) (d v w : D)
theorem offers_in : exec Try.prog ctL 300 (entry Try.prog 4 [.agg [.int .i64 e, .int .i64 s, .dat d, .int .i64 st, .int .i64 ap], .int .i64 c]) =
  Tree.br (decide ((↑(D.len d) : Int) > 1100)) (Tree.ret (SV.lb true))
    (Tree.need (D.Is Int d)
      (Tree.all fun hs =>
        Tree.need (D.Is Int d)
          (Tree.all fun hs_1 =>
            Tree.all fun hs_2 =>
              Tree.br
                (decide
                  (Prod.snd (Prod.snd (offer (SrcD.src (SrcD.mk e s d st ap)) c)) =
                    Prod.snd (Prod.snd (offer (SrcD.src (SrcD.mk e s d st ap)) c))))
                (Tree.need
                  (D.Is Int (D.like (hs 0 0) (Src.offered (Prod.fst (offer (SrcD.src (SrcD.mk e s d st ap)) c)))) ∧
                    D.Is Int (D.like (hs_1 0 0) (Src.offered (Prod.fst (offer (SrcD.src (SrcD.mk e s d st ap)) c)))) ∧
                      D.len (D.like (hs 0 0) (Src.offered (Prod.fst (offer (SrcD.src (SrcD.mk e s d st ap)) c)))) ≤
                          1048576 ∧
                        SrcD.src
                            (SrcD.mk (Src.epoch (Prod.fst (offer (SrcD.src (SrcD.mk e s d st ap)) c)))
                              (Src.site (Prod.fst (offer (SrcD.src (SrcD.mk e s d st ap)) c)))
                              (D.like (hs 0 0) (Src.offered (Prod.fst (offer (SrcD.src (SrcD.mk e s d st ap)) c))))
                              (Src.stored (Prod.fst (offer (SrcD.src (SrcD.mk e s d st ap)) c)))
                              (Src.applied (Prod.fst (offer (SrcD.src (SrcD.mk e s d st ap)) c)))) =
                          SrcD.src
                            (SrcD.mk (Src.epoch (Prod.fst (offer (SrcD.src (SrcD.mk e s d st ap)) c)))
                              (Src.site (Prod.fst (offer (SrcD.src (SrcD.mk e s d st ap)) c)))
                              (D.like (hs_1 0 0) (Src.offered (Prod.fst (offer (SrcD.src (SrcD.mk e s d st ap)) c))))
                              (Src.stored (Prod.fst (offer (SrcD.src (SrcD.mk e s d st ap)) c)))
                              (Src.applied (Prod.fst (offer (SrcD.src (SrcD.mk e s d st ap)) c)))))
                  (Tree.need
                    (D.Is Msg (D.like (hs 0 1) (Prod.fst (Prod.snd (offer (SrcD.src (SrcD.mk e s d st ap)) c)))) ∧
                      D.Is Msg (D.like (hs_1 0 1) (Prod.fst (Prod.snd (offer (SrcD.src (SrcD.mk e s d st ap)) c)))) ∧
                        D.len (D.like (hs 0 1) (Prod.fst (Prod.snd (offer (SrcD.src (SrcD.mk e s d st ap)) c)))) ≤
                            1048576 ∧
                          (∀ (m : Msg),
                              List.Mem m
                                  (D.to Msg
                                    (D.like (hs 0 1) (Prod.fst (Prod.snd (offer (SrcD.src (SrcD.mk e s d st ap)) c))))) →
                                Msg.body m = [] ∧ Msg.values m = []) ∧
                            D.to Msg (D.like (hs 0 1) (Prod.fst (Prod.snd (offer (SrcD.src (SrcD.mk e s d st ap)) c)))) =
                              D.to Msg
                                (D.like (hs_1 0 1) (Prod.fst (Prod.snd (offer (SrcD.src (SrcD.mk e s d st ap)) c)))))
                    (Tree.need
                      (decide
                          (Prod.snd (Prod.snd (offer (SrcD.src (SrcD.mk e s d st ap)) c)) =
                            Prod.snd (Prod.snd (offer (SrcD.src (SrcD.mk e s d st ap)) c))) =
                        true)
                      (Tree.need
                        (decide
                            (Prod.snd (Prod.snd (offer (SrcD.src (SrcD.mk e s d st ap)) c)) =
                              Prod.snd (Prod.snd (offer (SrcD.src (SrcD.mk e s d st ap)) c))) =
                          true)
                        (Tree.need (D.Is Int d)
                          (Tree.need
                            (decide
                                (Prod.snd (Prod.snd (offer (SrcD.src (SrcD.mk e s d st ap)) c)) =
                                  Prod.snd (Prod.snd (offer (SrcD.src (SrcD.mk e s d st ap)) c))) =
                              true)
                            (Tree.need
                              (decide
                                  (Prod.snd (Prod.snd (offer (SrcD.src (SrcD.mk e s d st ap)) c)) =
                                    Prod.snd (Prod.snd (offer (SrcD.src (SrcD.mk e s d st ap)) c))) =
                                true)
                              (Tree.need (D.Is Int d)
                                (Tree.need
                                  (decide
                                      (Prod.snd (Prod.snd (offer (SrcD.src (SrcD.mk e s d st ap)) c)) =
                                        Prod.snd (Prod.snd (offer (SrcD.src (SrcD.mk e s d st ap)) c))) =
                                    true)
                                  (Tree.need
                                    (D.Is Msg (D.like (hs_2 18 0) (resend (SrcD.src (SrcD.mk e s d st ap)))) ∧
                                      D.Is Msg (D.like (hs_2 20 0) (resend (SrcD.src (SrcD.mk e s d st ap)))) ∧
                                        D.len (D.like (hs_2 18 0) (resend (SrcD.src (SrcD.mk e s d st ap)))) ≤ 1048576 ∧
                                          (∀ (m : Msg),
                                              List.Mem m
                                                  (D.to Msg
                                                    (D.like (hs_2 18 0) (resend (SrcD.src (SrcD.mk e s d st ap))))) →
                                                Msg.body m = [] ∧ Msg.values m = []) ∧
                                            D.to Msg (D.like (hs_2 18 0) (resend (SrcD.src (SrcD.mk e s d st ap)))) =
                                              D.to Msg (D.like (hs_2 20 0) (resend (SrcD.src (SrcD.mk e s d st ap)))))
                                    (Tree.need
                                      (decide
                                          (Prod.snd (Prod.snd (offer (SrcD.src (SrcD.mk e s d st ap)) c)) =
                                            Prod.snd (Prod.snd (offer (SrcD.src (SrcD.mk e s d st ap)) c))) =
                                        true)
                                      (Tree.need (D.Is Int d)
                                        (Tree.need (D.Is Int d)
                                          (Tree.ret
                                            (SV.bool
                                              (decide
                                                (releasable (SrcD.src (SrcD.mk e s d st ap)) =
                                                  releasable (SrcD.src (SrcD.mk e s d st ap)))))))))))))))))))
                (Tree.need
                  (D.Is Int (D.like (hs 0 0) (Src.offered (Prod.fst (offer (SrcD.src (SrcD.mk e s d st ap)) c)))) ∧
                    D.Is Int (D.like (hs_1 0 0) (Src.offered (Prod.fst (offer (SrcD.src (SrcD.mk e s d st ap)) c)))) ∧
                      D.len (D.like (hs 0 0) (Src.offered (Prod.fst (offer (SrcD.src (SrcD.mk e s d st ap)) c)))) ≤
                          1048576 ∧
                        SrcD.src
                            (SrcD.mk (Src.epoch (Prod.fst (offer (SrcD.src (SrcD.mk e s d st ap)) c)))
                              (Src.site (Prod.fst (offer (SrcD.src (SrcD.mk e s d st ap)) c)))
                              (D.like (hs 0 0) (Src.offered (Prod.fst (offer (SrcD.src (SrcD.mk e s d st ap)) c))))
                              (Src.stored (Prod.fst (offer (SrcD.src (SrcD.mk e s d st ap)) c)))
                              (Src.applied (Prod.fst (offer (SrcD.src (SrcD.mk e s d st ap)) c)))) =
                          SrcD.src
                            (SrcD.mk (Src.epoch (Prod.fst (offer (SrcD.src (SrcD.mk e s d st ap)) c)))
                              (Src.site (Prod.fst (offer (SrcD.src (SrcD.mk e s d st ap)) c)))
                              (D.like (hs_1 0 0) (Src.offered (Prod.fst (offer (SrcD.src (SrcD.mk e s d st ap)) c))))
                              (Src.stored (Prod.fst (offer (SrcD.src (SrcD.mk e s d st ap)) c)))
                              (Src.applied (Prod.fst (offer (SrcD.src (SrcD.mk e s d st ap)) c)))))
                  (Tree.need
                    (D.Is Msg (D.like (hs 0 1) (Prod.fst (Prod.snd (offer (SrcD.src (SrcD.mk e s d st ap)) c)))) ∧
                      D.Is Msg (D.like (hs_1 0 1) (Prod.fst (Prod.snd (offer (SrcD.src (SrcD.mk e s d st ap)) c)))) ∧
                        D.len (D.like (hs 0 1) (Prod.fst (Prod.snd (offer (SrcD.src (SrcD.mk e s d st ap)) c)))) ≤
                            1048576 ∧
                          (∀ (m : Msg),
                              List.Mem m
                                  (D.to Msg
                                    (D.like (hs 0 1) (Prod.fst (Prod.snd (offer (SrcD.src (SrcD.mk e s d st ap)) c))))) →
                                Msg.body m = [] ∧ Msg.values m = []) ∧
                            D.to Msg (D.like (hs 0 1) (Prod.fst (Prod.snd (offer (SrcD.src (SrcD.mk e s d st ap)) c)))) =
                              D.to Msg
                                (D.like (hs_1 0 1) (Prod.fst (Prod.snd (offer (SrcD.src (SrcD.mk e s d st ap)) c)))))
                    (Tree.need
                      (decide
                          (Prod.snd (Prod.snd (offer (SrcD.src (SrcD.mk e s d st ap)) c)) =
                            Prod.snd (Prod.snd (offer (SrcD.src (SrcD.mk e s d st ap)) c))) =
                        false)
                      (Tree.need
                        (decide
                            (Prod.snd (Prod.snd (offer (SrcD.src (SrcD.mk e s d st ap)) c)) =
                              Prod.snd (Prod.snd (offer (SrcD.src (SrcD.mk e s d st ap)) c))) =
                          false)
                        (Tree.need
                          (decide
                              (Prod.snd (Prod.snd (offer (SrcD.src (SrcD.mk e s d st ap)) c)) =
                                Prod.snd (Prod.snd (offer (SrcD.src (SrcD.mk e s d st ap)) c))) =
                            false)
                          (Tree.need
                            (decide
                                (Prod.snd (Prod.snd (offer (SrcD.src (SrcD.mk e s d st ap)) c)) =
                                  Prod.snd (Prod.snd (offer (SrcD.src (SrcD.mk e s d st ap)) c))) =
                              false)
                            (Tree.need
                              (decide
                                  (Prod.snd (Prod.snd (offer (SrcD.src (SrcD.mk e s d st ap)) c)) =
                                    Prod.snd (Prod.snd (offer (SrcD.src (SrcD.mk e s d st ap)) c))) =
                                false)
                              (Tree.need
                                (decide
                                    (Prod.snd (Prod.snd (offer (SrcD.src (SrcD.mk e s d st ap)) c)) =
                                      Prod.snd (Prod.snd (offer (SrcD.src (SrcD.mk e s d st ap)) c))) =
                                  false)
                                (Tree.ret (SV.lb false))))))))))))) := by kernel_rfl

theorem starts_in : exec Try.prog ctL 300 (entry Try.prog 3 [.agg [.int .i64 e, .int .i64 s, .dat d, .int .i64 st, .int .i64 ap], .agg [.int .i64 te, .int .i64 ts, .int .i64 tst, .int .i64 tap]]) =
  Tree.br (decide ((↑(D.len d) : Int) > 1100)) (Tree.ret (SV.lb true))
    (Tree.all fun hs =>
      Tree.all fun hs_1 =>
        Tree.all fun hs_2 =>
          Tree.all fun hs_3 =>
            Tree.all fun hs_4 =>
              Tree.br (decide (Prod.snd (newSource e s ap) = Prod.snd (newSource e s ap)))
                (Tree.br
                  (decide (Tgt.epoch (Prod.fst (newTarget te ts tap)) = Tgt.epoch (Prod.fst (newTarget te ts tap))) &&
                    (decide (Tgt.site (Prod.fst (newTarget te ts tap)) = Tgt.site (Prod.fst (newTarget te ts tap))) &&
                      (decide
                          (Tgt.stored (Prod.fst (newTarget te ts tap)) = Tgt.stored (Prod.fst (newTarget te ts tap))) &&
                        (decide
                            (Tgt.applied (Prod.fst (newTarget te ts tap)) =
                              Tgt.applied (Prod.fst (newTarget te ts tap))) &&
                          true))))
                  (Tree.br (decide (Prod.snd (newTarget te ts tap) = Prod.snd (newTarget te ts tap)))
                    (Tree.br
                      (decide
                        (checkSource (SrcD.src (SrcD.mk e s d st ap)) = checkSource (SrcD.src (SrcD.mk e s d st ap))))
                      (Tree.need
                        (D.Is Int (D.like (hs 0 0) (Src.offered (Prod.fst (newSource e s ap)))) ∧
                          D.Is Int (D.like (hs_1 0 0) (Src.offered (Prod.fst (newSource e s ap)))) ∧
                            D.len (D.like (hs 0 0) (Src.offered (Prod.fst (newSource e s ap)))) ≤ 1048576 ∧
                              SrcD.src
                                  (SrcD.mk (Src.epoch (Prod.fst (newSource e s ap)))
                                    (Src.site (Prod.fst (newSource e s ap)))
                                    (D.like (hs 0 0) (Src.offered (Prod.fst (newSource e s ap))))
                                    (Src.stored (Prod.fst (newSource e s ap)))
                                    (Src.applied (Prod.fst (newSource e s ap)))) =
                                SrcD.src
                                  (SrcD.mk (Src.epoch (Prod.fst (newSource e s ap)))
                                    (Src.site (Prod.fst (newSource e s ap)))
                                    (D.like (hs_1 0 0) (Src.offered (Prod.fst (newSource e s ap))))
                                    (Src.stored (Prod.fst (newSource e s ap)))
                                    (Src.applied (Prod.fst (newSource e s ap)))))
                        (Tree.need (decide (Prod.snd (newSource e s ap) = Prod.snd (newSource e s ap)) = true)
                          (Tree.need (decide (Prod.snd (newSource e s ap) = Prod.snd (newSource e s ap)) = true)
                            (Tree.need (decide (Prod.snd (newSource e s ap) = Prod.snd (newSource e s ap)) = true)
                              (Tree.need (decide (Prod.snd (newSource e s ap) = Prod.snd (newSource e s ap)) = true)
                                (Tree.need
                                  ((decide
                                        (Tgt.epoch (Prod.fst (newTarget te ts tap)) =
                                          Tgt.epoch (Prod.fst (newTarget te ts tap))) &&
                                      (decide
                                          (Tgt.site (Prod.fst (newTarget te ts tap)) =
                                            Tgt.site (Prod.fst (newTarget te ts tap))) &&
                                        (decide
                                            (Tgt.stored (Prod.fst (newTarget te ts tap)) =
                                              Tgt.stored (Prod.fst (newTarget te ts tap))) &&
                                          (decide
                                              (Tgt.applied (Prod.fst (newTarget te ts tap)) =
                                                Tgt.applied (Prod.fst (newTarget te ts tap))) &&
                                            true)))) =
                                    true)
                                  (Tree.need
                                    ((decide
                                          (Tgt.epoch (Prod.fst (newTarget te ts tap)) =
                                            Tgt.epoch (Prod.fst (newTarget te ts tap))) &&
                                        (decide
                                            (Tgt.site (Prod.fst (newTarget te ts tap)) =
                                              Tgt.site (Prod.fst (newTarget te ts tap))) &&
                                          (decide
                                              (Tgt.stored (Prod.fst (newTarget te ts tap)) =
                                                Tgt.stored (Prod.fst (newTarget te ts tap))) &&
                                            (decide
                                                (Tgt.applied (Prod.fst (newTarget te ts tap)) =
                                                  Tgt.applied (Prod.fst (newTarget te ts tap))) &&
                                              true)))) =
                                      true)
                                    (Tree.need
                                      ((decide
                                            (Tgt.epoch (Prod.fst (newTarget te ts tap)) =
                                              Tgt.epoch (Prod.fst (newTarget te ts tap))) &&
                                          (decide
                                              (Tgt.site (Prod.fst (newTarget te ts tap)) =
                                                Tgt.site (Prod.fst (newTarget te ts tap))) &&
                                            (decide
                                                (Tgt.stored (Prod.fst (newTarget te ts tap)) =
                                                  Tgt.stored (Prod.fst (newTarget te ts tap))) &&
                                              (decide
                                                  (Tgt.applied (Prod.fst (newTarget te ts tap)) =
                                                    Tgt.applied (Prod.fst (newTarget te ts tap))) &&
                                                true)))) =
                                        true)
                                      (Tree.need
                                        ((decide
                                              (Tgt.epoch (Prod.fst (newTarget te ts tap)) =
                                                Tgt.epoch (Prod.fst (newTarget te ts tap))) &&
                                            (decide
                                                (Tgt.site (Prod.fst (newTarget te ts tap)) =
                                                  Tgt.site (Prod.fst (newTarget te ts tap))) &&
                                              (decide
                                                  (Tgt.stored (Prod.fst (newTarget te ts tap)) =
                                                    Tgt.stored (Prod.fst (newTarget te ts tap))) &&
                                                (decide
                                                    (Tgt.applied (Prod.fst (newTarget te ts tap)) =
                                                      Tgt.applied (Prod.fst (newTarget te ts tap))) &&
                                                  true)))) =
                                          true)
                                        (Tree.need
                                          (decide (Prod.snd (newTarget te ts tap) = Prod.snd (newTarget te ts tap)) =
                                            true)
                                          (Tree.need
                                            (decide (Prod.snd (newTarget te ts tap) = Prod.snd (newTarget te ts tap)) =
                                              true)
                                            (Tree.need (D.Is Int d)
                                              (Tree.need
                                                (decide
                                                    (Prod.snd (newTarget te ts tap) = Prod.snd (newTarget te ts tap)) =
                                                  true)
                                                (Tree.need
                                                  (decide
                                                      (Prod.snd (newTarget te ts tap) = Prod.snd (newTarget te ts tap)) =
                                                    true)
                                                  (Tree.need (D.Is Int d)
                                                    (Tree.need
                                                      (decide
                                                          (Prod.snd (newTarget te ts tap) =
                                                            Prod.snd (newTarget te ts tap)) =
                                                        true)
                                                      (Tree.need
                                                        (decide
                                                            (Prod.snd (newTarget te ts tap) =
                                                              Prod.snd (newTarget te ts tap)) =
                                                          true)
                                                        (Tree.need
                                                          (decide
                                                              (checkSource (SrcD.src (SrcD.mk e s d st ap)) =
                                                                checkSource (SrcD.src (SrcD.mk e s d st ap))) =
                                                            true)
                                                          (Tree.need
                                                            (decide
                                                                (checkSource (SrcD.src (SrcD.mk e s d st ap)) =
                                                                  checkSource (SrcD.src (SrcD.mk e s d st ap))) =
                                                              true)
                                                            (Tree.need
                                                              (decide
                                                                  (checkSource (SrcD.src (SrcD.mk e s d st ap)) =
                                                                    checkSource (SrcD.src (SrcD.mk e s d st ap))) =
                                                                true)
                                                              (Tree.need
                                                                (decide
                                                                    (checkSource (SrcD.src (SrcD.mk e s d st ap)) =
                                                                      checkSource (SrcD.src (SrcD.mk e s d st ap))) =
                                                                  true)
                                                                (Tree.need
                                                                  (decide
                                                                      (checkSource (SrcD.src (SrcD.mk e s d st ap)) =
                                                                        checkSource (SrcD.src (SrcD.mk e s d st ap))) =
                                                                    true)
                                                                  (Tree.need
                                                                    (decide
                                                                        (checkSource (SrcD.src (SrcD.mk e s d st ap)) =
                                                                          checkSource (SrcD.src (SrcD.mk e s d st ap))) =
                                                                      true)
                                                                    (Tree.ret
                                                                      (SV.bool
                                                                        (decide
                                                                          (checkTarget (Tgt.mk te ts tst tap) =
                                                                            checkTarget
                                                                              (Tgt.mk te ts tst
                                                                                tap))))))))))))))))))))))))))))
                      (Tree.need
                        (D.Is Int (D.like (hs 0 0) (Src.offered (Prod.fst (newSource e s ap)))) ∧
                          D.Is Int (D.like (hs_1 0 0) (Src.offered (Prod.fst (newSource e s ap)))) ∧
                            D.len (D.like (hs 0 0) (Src.offered (Prod.fst (newSource e s ap)))) ≤ 1048576 ∧
                              SrcD.src
                                  (SrcD.mk (Src.epoch (Prod.fst (newSource e s ap)))
                                    (Src.site (Prod.fst (newSource e s ap)))
                                    (D.like (hs 0 0) (Src.offered (Prod.fst (newSource e s ap))))
                                    (Src.stored (Prod.fst (newSource e s ap)))
                                    (Src.applied (Prod.fst (newSource e s ap)))) =
                                SrcD.src
                                  (SrcD.mk (Src.epoch (Prod.fst (newSource e s ap)))
                                    (Src.site (Prod.fst (newSource e s ap)))
                                    (D.like (hs_1 0 0) (Src.offered (Prod.fst (newSource e s ap))))
                                    (Src.stored (Prod.fst (newSource e s ap)))
                                    (Src.applied (Prod.fst (newSource e s ap)))))
                        (Tree.need (decide (Prod.snd (newSource e s ap) = Prod.snd (newSource e s ap)) = true)
                          (Tree.need (decide (Prod.snd (newSource e s ap) = Prod.snd (newSource e s ap)) = true)
                            (Tree.need (decide (Prod.snd (newSource e s ap) = Prod.snd (newSource e s ap)) = true)
                              (Tree.need (decide (Prod.snd (newSource e s ap) = Prod.snd (newSource e s ap)) = true)
                                (Tree.need
                                  ((decide
                                        (Tgt.epoch (Prod.fst (newTarget te ts tap)) =
                                          Tgt.epoch (Prod.fst (newTarget te ts tap))) &&
                                      (decide
                                          (Tgt.site (Prod.fst (newTarget te ts tap)) =
                                            Tgt.site (Prod.fst (newTarget te ts tap))) &&
                                        (decide
                                            (Tgt.stored (Prod.fst (newTarget te ts tap)) =
                                              Tgt.stored (Prod.fst (newTarget te ts tap))) &&
                                          (decide
                                              (Tgt.applied (Prod.fst (newTarget te ts tap)) =
                                                Tgt.applied (Prod.fst (newTarget te ts tap))) &&
                                            true)))) =
                                    true)
                                  (Tree.need
                                    ((decide
                                          (Tgt.epoch (Prod.fst (newTarget te ts tap)) =
                                            Tgt.epoch (Prod.fst (newTarget te ts tap))) &&
                                        (decide
                                            (Tgt.site (Prod.fst (newTarget te ts tap)) =
                                              Tgt.site (Prod.fst (newTarget te ts tap))) &&
                                          (decide
                                              (Tgt.stored (Prod.fst (newTarget te ts tap)) =
                                                Tgt.stored (Prod.fst (newTarget te ts tap))) &&
                                            (decide
                                                (Tgt.applied (Prod.fst (newTarget te ts tap)) =
                                                  Tgt.applied (Prod.fst (newTarget te ts tap))) &&
                                              true)))) =
                                      true)
                                    (Tree.need
                                      ((decide
                                            (Tgt.epoch (Prod.fst (newTarget te ts tap)) =
                                              Tgt.epoch (Prod.fst (newTarget te ts tap))) &&
                                          (decide
                                              (Tgt.site (Prod.fst (newTarget te ts tap)) =
                                                Tgt.site (Prod.fst (newTarget te ts tap))) &&
                                            (decide
                                                (Tgt.stored (Prod.fst (newTarget te ts tap)) =
                                                  Tgt.stored (Prod.fst (newTarget te ts tap))) &&
                                              (decide
                                                  (Tgt.applied (Prod.fst (newTarget te ts tap)) =
                                                    Tgt.applied (Prod.fst (newTarget te ts tap))) &&
                                                true)))) =
                                        true)
                                      (Tree.need
                                        ((decide
                                              (Tgt.epoch (Prod.fst (newTarget te ts tap)) =
                                                Tgt.epoch (Prod.fst (newTarget te ts tap))) &&
                                            (decide
                                                (Tgt.site (Prod.fst (newTarget te ts tap)) =
                                                  Tgt.site (Prod.fst (newTarget te ts tap))) &&
                                              (decide
                                                  (Tgt.stored (Prod.fst (newTarget te ts tap)) =
                                                    Tgt.stored (Prod.fst (newTarget te ts tap))) &&
                                                (decide
                                                    (Tgt.applied (Prod.fst (newTarget te ts tap)) =
                                                      Tgt.applied (Prod.fst (newTarget te ts tap))) &&
                                                  true)))) =
                                          true)
                                        (Tree.need
                                          (decide (Prod.snd (newTarget te ts tap) = Prod.snd (newTarget te ts tap)) =
                                            true)
                                          (Tree.need
                                            (decide (Prod.snd (newTarget te ts tap) = Prod.snd (newTarget te ts tap)) =
                                              true)
                                            (Tree.need (D.Is Int d)
                                              (Tree.need
                                                (decide
                                                    (Prod.snd (newTarget te ts tap) = Prod.snd (newTarget te ts tap)) =
                                                  true)
                                                (Tree.need
                                                  (decide
                                                      (Prod.snd (newTarget te ts tap) = Prod.snd (newTarget te ts tap)) =
                                                    true)
                                                  (Tree.need (D.Is Int d)
                                                    (Tree.need
                                                      (decide
                                                          (Prod.snd (newTarget te ts tap) =
                                                            Prod.snd (newTarget te ts tap)) =
                                                        true)
                                                      (Tree.need
                                                        (decide
                                                            (Prod.snd (newTarget te ts tap) =
                                                              Prod.snd (newTarget te ts tap)) =
                                                          true)
                                                        (Tree.need
                                                          (decide
                                                              (checkSource (SrcD.src (SrcD.mk e s d st ap)) =
                                                                checkSource (SrcD.src (SrcD.mk e s d st ap))) =
                                                            false)
                                                          (Tree.need
                                                            (decide
                                                                (checkSource (SrcD.src (SrcD.mk e s d st ap)) =
                                                                  checkSource (SrcD.src (SrcD.mk e s d st ap))) =
                                                              false)
                                                            (Tree.need
                                                              (decide
                                                                  (checkSource (SrcD.src (SrcD.mk e s d st ap)) =
                                                                    checkSource (SrcD.src (SrcD.mk e s d st ap))) =
                                                                false)
                                                              (Tree.need
                                                                (decide
                                                                    (checkSource (SrcD.src (SrcD.mk e s d st ap)) =
                                                                      checkSource (SrcD.src (SrcD.mk e s d st ap))) =
                                                                  false)
                                                                (Tree.need
                                                                  (decide
                                                                      (checkSource (SrcD.src (SrcD.mk e s d st ap)) =
                                                                        checkSource (SrcD.src (SrcD.mk e s d st ap))) =
                                                                    false)
                                                                  (Tree.need
                                                                    (decide
                                                                        (checkSource (SrcD.src (SrcD.mk e s d st ap)) =
                                                                          checkSource (SrcD.src (SrcD.mk e s d st ap))) =
                                                                      false)
                                                                    (Tree.ret (SV.lb false))))))))))))))))))))))))))
                    (Tree.need
                      (D.Is Int (D.like (hs 0 0) (Src.offered (Prod.fst (newSource e s ap)))) ∧
                        D.Is Int (D.like (hs_1 0 0) (Src.offered (Prod.fst (newSource e s ap)))) ∧
                          D.len (D.like (hs 0 0) (Src.offered (Prod.fst (newSource e s ap)))) ≤ 1048576 ∧
                            SrcD.src
                                (SrcD.mk (Src.epoch (Prod.fst (newSource e s ap)))
                                  (Src.site (Prod.fst (newSource e s ap)))
                                  (D.like (hs 0 0) (Src.offered (Prod.fst (newSource e s ap))))
                                  (Src.stored (Prod.fst (newSource e s ap)))
                                  (Src.applied (Prod.fst (newSource e s ap)))) =
                              SrcD.src
                                (SrcD.mk (Src.epoch (Prod.fst (newSource e s ap)))
                                  (Src.site (Prod.fst (newSource e s ap)))
                                  (D.like (hs_1 0 0) (Src.offered (Prod.fst (newSource e s ap))))
                                  (Src.stored (Prod.fst (newSource e s ap))) (Src.applied (Prod.fst (newSource e s ap)))))
                      (Tree.need (decide (Prod.snd (newSource e s ap) = Prod.snd (newSource e s ap)) = true)
                        (Tree.need (decide (Prod.snd (newSource e s ap) = Prod.snd (newSource e s ap)) = true)
                          (Tree.need (decide (Prod.snd (newSource e s ap) = Prod.snd (newSource e s ap)) = true)
                            (Tree.need (decide (Prod.snd (newSource e s ap) = Prod.snd (newSource e s ap)) = true)
                              (Tree.need
                                ((decide
                                      (Tgt.epoch (Prod.fst (newTarget te ts tap)) =
                                        Tgt.epoch (Prod.fst (newTarget te ts tap))) &&
                                    (decide
                                        (Tgt.site (Prod.fst (newTarget te ts tap)) =
                                          Tgt.site (Prod.fst (newTarget te ts tap))) &&
                                      (decide
                                          (Tgt.stored (Prod.fst (newTarget te ts tap)) =
                                            Tgt.stored (Prod.fst (newTarget te ts tap))) &&
                                        (decide
                                            (Tgt.applied (Prod.fst (newTarget te ts tap)) =
                                              Tgt.applied (Prod.fst (newTarget te ts tap))) &&
                                          true)))) =
                                  true)
                                (Tree.need
                                  ((decide
                                        (Tgt.epoch (Prod.fst (newTarget te ts tap)) =
                                          Tgt.epoch (Prod.fst (newTarget te ts tap))) &&
                                      (decide
                                          (Tgt.site (Prod.fst (newTarget te ts tap)) =
                                            Tgt.site (Prod.fst (newTarget te ts tap))) &&
                                        (decide
                                            (Tgt.stored (Prod.fst (newTarget te ts tap)) =
                                              Tgt.stored (Prod.fst (newTarget te ts tap))) &&
                                          (decide
                                              (Tgt.applied (Prod.fst (newTarget te ts tap)) =
                                                Tgt.applied (Prod.fst (newTarget te ts tap))) &&
                                            true)))) =
                                    true)
                                  (Tree.need
                                    ((decide
                                          (Tgt.epoch (Prod.fst (newTarget te ts tap)) =
                                            Tgt.epoch (Prod.fst (newTarget te ts tap))) &&
                                        (decide
                                            (Tgt.site (Prod.fst (newTarget te ts tap)) =
                                              Tgt.site (Prod.fst (newTarget te ts tap))) &&
                                          (decide
                                              (Tgt.stored (Prod.fst (newTarget te ts tap)) =
                                                Tgt.stored (Prod.fst (newTarget te ts tap))) &&
                                            (decide
                                                (Tgt.applied (Prod.fst (newTarget te ts tap)) =
                                                  Tgt.applied (Prod.fst (newTarget te ts tap))) &&
                                              true)))) =
                                      true)
                                    (Tree.need
                                      ((decide
                                            (Tgt.epoch (Prod.fst (newTarget te ts tap)) =
                                              Tgt.epoch (Prod.fst (newTarget te ts tap))) &&
                                          (decide
                                              (Tgt.site (Prod.fst (newTarget te ts tap)) =
                                                Tgt.site (Prod.fst (newTarget te ts tap))) &&
                                            (decide
                                                (Tgt.stored (Prod.fst (newTarget te ts tap)) =
                                                  Tgt.stored (Prod.fst (newTarget te ts tap))) &&
                                              (decide
                                                  (Tgt.applied (Prod.fst (newTarget te ts tap)) =
                                                    Tgt.applied (Prod.fst (newTarget te ts tap))) &&
                                                true)))) =
                                        true)
                                      (Tree.need
                                        (decide (Prod.snd (newTarget te ts tap) = Prod.snd (newTarget te ts tap)) = false)
                                        (Tree.need
                                          (decide (Prod.snd (newTarget te ts tap) = Prod.snd (newTarget te ts tap)) =
                                            false)
                                          (Tree.need
                                            (decide (Prod.snd (newTarget te ts tap) = Prod.snd (newTarget te ts tap)) =
                                              false)
                                            (Tree.need
                                              (decide (Prod.snd (newTarget te ts tap) = Prod.snd (newTarget te ts tap)) =
                                                false)
                                              (Tree.need
                                                (decide
                                                    (Prod.snd (newTarget te ts tap) = Prod.snd (newTarget te ts tap)) =
                                                  false)
                                                (Tree.need
                                                  (decide
                                                      (Prod.snd (newTarget te ts tap) = Prod.snd (newTarget te ts tap)) =
                                                    false)
                                                  (Tree.ret (SV.lb false))))))))))))))))))
                  (Tree.need
                    (D.Is Int (D.like (hs 0 0) (Src.offered (Prod.fst (newSource e s ap)))) ∧
                      D.Is Int (D.like (hs_1 0 0) (Src.offered (Prod.fst (newSource e s ap)))) ∧
                        D.len (D.like (hs 0 0) (Src.offered (Prod.fst (newSource e s ap)))) ≤ 1048576 ∧
                          SrcD.src
                              (SrcD.mk (Src.epoch (Prod.fst (newSource e s ap))) (Src.site (Prod.fst (newSource e s ap)))
                                (D.like (hs 0 0) (Src.offered (Prod.fst (newSource e s ap))))
                                (Src.stored (Prod.fst (newSource e s ap))) (Src.applied (Prod.fst (newSource e s ap)))) =
                            SrcD.src
                              (SrcD.mk (Src.epoch (Prod.fst (newSource e s ap))) (Src.site (Prod.fst (newSource e s ap)))
                                (D.like (hs_1 0 0) (Src.offered (Prod.fst (newSource e s ap))))
                                (Src.stored (Prod.fst (newSource e s ap))) (Src.applied (Prod.fst (newSource e s ap)))))
                    (Tree.need (decide (Prod.snd (newSource e s ap) = Prod.snd (newSource e s ap)) = true)
                      (Tree.need (decide (Prod.snd (newSource e s ap) = Prod.snd (newSource e s ap)) = true)
                        (Tree.need (decide (Prod.snd (newSource e s ap) = Prod.snd (newSource e s ap)) = true)
                          (Tree.need (decide (Prod.snd (newSource e s ap) = Prod.snd (newSource e s ap)) = true)
                            (Tree.need
                              ((decide
                                    (Tgt.epoch (Prod.fst (newTarget te ts tap)) =
                                      Tgt.epoch (Prod.fst (newTarget te ts tap))) &&
                                  (decide
                                      (Tgt.site (Prod.fst (newTarget te ts tap)) =
                                        Tgt.site (Prod.fst (newTarget te ts tap))) &&
                                    (decide
                                        (Tgt.stored (Prod.fst (newTarget te ts tap)) =
                                          Tgt.stored (Prod.fst (newTarget te ts tap))) &&
                                      (decide
                                          (Tgt.applied (Prod.fst (newTarget te ts tap)) =
                                            Tgt.applied (Prod.fst (newTarget te ts tap))) &&
                                        true)))) =
                                false)
                              (Tree.need
                                ((decide
                                      (Tgt.epoch (Prod.fst (newTarget te ts tap)) =
                                        Tgt.epoch (Prod.fst (newTarget te ts tap))) &&
                                    (decide
                                        (Tgt.site (Prod.fst (newTarget te ts tap)) =
                                          Tgt.site (Prod.fst (newTarget te ts tap))) &&
                                      (decide
                                          (Tgt.stored (Prod.fst (newTarget te ts tap)) =
                                            Tgt.stored (Prod.fst (newTarget te ts tap))) &&
                                        (decide
                                            (Tgt.applied (Prod.fst (newTarget te ts tap)) =
                                              Tgt.applied (Prod.fst (newTarget te ts tap))) &&
                                          true)))) =
                                  false)
                                (Tree.need
                                  ((decide
                                        (Tgt.epoch (Prod.fst (newTarget te ts tap)) =
                                          Tgt.epoch (Prod.fst (newTarget te ts tap))) &&
                                      (decide
                                          (Tgt.site (Prod.fst (newTarget te ts tap)) =
                                            Tgt.site (Prod.fst (newTarget te ts tap))) &&
                                        (decide
                                            (Tgt.stored (Prod.fst (newTarget te ts tap)) =
                                              Tgt.stored (Prod.fst (newTarget te ts tap))) &&
                                          (decide
                                              (Tgt.applied (Prod.fst (newTarget te ts tap)) =
                                                Tgt.applied (Prod.fst (newTarget te ts tap))) &&
                                            true)))) =
                                    false)
                                  (Tree.need
                                    ((decide
                                          (Tgt.epoch (Prod.fst (newTarget te ts tap)) =
                                            Tgt.epoch (Prod.fst (newTarget te ts tap))) &&
                                        (decide
                                            (Tgt.site (Prod.fst (newTarget te ts tap)) =
                                              Tgt.site (Prod.fst (newTarget te ts tap))) &&
                                          (decide
                                              (Tgt.stored (Prod.fst (newTarget te ts tap)) =
                                                Tgt.stored (Prod.fst (newTarget te ts tap))) &&
                                            (decide
                                                (Tgt.applied (Prod.fst (newTarget te ts tap)) =
                                                  Tgt.applied (Prod.fst (newTarget te ts tap))) &&
                                              true)))) =
                                      false)
                                    (Tree.ret (SV.lb false))))))))))))
                (Tree.need
                  (D.Is Int (D.like (hs 0 0) (Src.offered (Prod.fst (newSource e s ap)))) ∧
                    D.Is Int (D.like (hs_1 0 0) (Src.offered (Prod.fst (newSource e s ap)))) ∧
                      D.len (D.like (hs 0 0) (Src.offered (Prod.fst (newSource e s ap)))) ≤ 1048576 ∧
                        SrcD.src
                            (SrcD.mk (Src.epoch (Prod.fst (newSource e s ap))) (Src.site (Prod.fst (newSource e s ap)))
                              (D.like (hs 0 0) (Src.offered (Prod.fst (newSource e s ap))))
                              (Src.stored (Prod.fst (newSource e s ap))) (Src.applied (Prod.fst (newSource e s ap)))) =
                          SrcD.src
                            (SrcD.mk (Src.epoch (Prod.fst (newSource e s ap))) (Src.site (Prod.fst (newSource e s ap)))
                              (D.like (hs_1 0 0) (Src.offered (Prod.fst (newSource e s ap))))
                              (Src.stored (Prod.fst (newSource e s ap))) (Src.applied (Prod.fst (newSource e s ap)))))
                  (Tree.need (decide (Prod.snd (newSource e s ap) = Prod.snd (newSource e s ap)) = false)
                    (Tree.need (decide (Prod.snd (newSource e s ap) = Prod.snd (newSource e s ap)) = false)
                      (Tree.need (decide (Prod.snd (newSource e s ap) = Prod.snd (newSource e s ap)) = false)
                        (Tree.need (decide (Prod.snd (newSource e s ap) = Prod.snd (newSource e s ap)) = false)
                          (Tree.ret (SV.lb false)))))))) := by kernel_rfl

theorem learns_in : exec Try.prog ctL 300 (entry Try.prog 5 [.agg [.int .i64 e, .int .i64 s, .dat d, .int .i64 st, .int .i64 ap], .agg [.int .i64 a, .int .i64 b, .int .i64 c, .int .i64 dd, .int .i64 f, .int .i64 g, .dat v, .dat w]]) =
  Tree.br (decide ((↑(D.len d) : Int) > 1100)) (Tree.ret (SV.lb true))
    (Tree.br (decide ((↑(D.len v) : Int) > 20)) (Tree.ret (SV.lb true))
      (Tree.br (decide ((↑(D.len w) : Int) > 100)) (Tree.ret (SV.lb true))
        (Tree.need (D.Is Int d)
          (Tree.all fun hs =>
            Tree.need (D.Is Int d)
              (Tree.all fun hs_1 =>
                Tree.need
                  (D.Is Int
                      (D.like (hs 0 0)
                        (Src.offered
                          (Prod.fst (learn (SrcD.src (SrcD.mk e s d st ap)) (MsgD.msg (MsgD.mk a b c dd f g v w)))))) ∧
                    D.Is Int
                        (D.like (hs_1 0 0)
                          (Src.offered
                            (Prod.fst (learn (SrcD.src (SrcD.mk e s d st ap)) (MsgD.msg (MsgD.mk a b c dd f g v w)))))) ∧
                      D.len
                            (D.like (hs 0 0)
                              (Src.offered
                                (Prod.fst
                                  (learn (SrcD.src (SrcD.mk e s d st ap)) (MsgD.msg (MsgD.mk a b c dd f g v w)))))) ≤
                          1048576 ∧
                        SrcD.src
                            (SrcD.mk
                              (Src.epoch
                                (Prod.fst (learn (SrcD.src (SrcD.mk e s d st ap)) (MsgD.msg (MsgD.mk a b c dd f g v w)))))
                              (Src.site
                                (Prod.fst (learn (SrcD.src (SrcD.mk e s d st ap)) (MsgD.msg (MsgD.mk a b c dd f g v w)))))
                              (D.like (hs 0 0)
                                (Src.offered
                                  (Prod.fst
                                    (learn (SrcD.src (SrcD.mk e s d st ap)) (MsgD.msg (MsgD.mk a b c dd f g v w))))))
                              (Src.stored
                                (Prod.fst (learn (SrcD.src (SrcD.mk e s d st ap)) (MsgD.msg (MsgD.mk a b c dd f g v w)))))
                              (Src.applied
                                (Prod.fst
                                  (learn (SrcD.src (SrcD.mk e s d st ap)) (MsgD.msg (MsgD.mk a b c dd f g v w)))))) =
                          SrcD.src
                            (SrcD.mk
                              (Src.epoch
                                (Prod.fst (learn (SrcD.src (SrcD.mk e s d st ap)) (MsgD.msg (MsgD.mk a b c dd f g v w)))))
                              (Src.site
                                (Prod.fst (learn (SrcD.src (SrcD.mk e s d st ap)) (MsgD.msg (MsgD.mk a b c dd f g v w)))))
                              (D.like (hs_1 0 0)
                                (Src.offered
                                  (Prod.fst
                                    (learn (SrcD.src (SrcD.mk e s d st ap)) (MsgD.msg (MsgD.mk a b c dd f g v w))))))
                              (Src.stored
                                (Prod.fst (learn (SrcD.src (SrcD.mk e s d st ap)) (MsgD.msg (MsgD.mk a b c dd f g v w)))))
                              (Src.applied
                                (Prod.fst
                                  (learn (SrcD.src (SrcD.mk e s d st ap)) (MsgD.msg (MsgD.mk a b c dd f g v w)))))))
                  (Tree.need
                    (D.Is Msg
                        (D.like (hs 0 1)
                          (Prod.snd (learn (SrcD.src (SrcD.mk e s d st ap)) (MsgD.msg (MsgD.mk a b c dd f g v w))))) ∧
                      D.Is Msg
                          (D.like (hs_1 0 1)
                            (Prod.snd (learn (SrcD.src (SrcD.mk e s d st ap)) (MsgD.msg (MsgD.mk a b c dd f g v w))))) ∧
                        D.len
                              (D.like (hs 0 1)
                                (Prod.snd
                                  (learn (SrcD.src (SrcD.mk e s d st ap)) (MsgD.msg (MsgD.mk a b c dd f g v w))))) ≤
                            1048576 ∧
                          (∀ (m : Msg),
                              List.Mem m
                                  (D.to Msg
                                    (D.like (hs 0 1)
                                      (Prod.snd
                                        (learn (SrcD.src (SrcD.mk e s d st ap))
                                          (MsgD.msg (MsgD.mk a b c dd f g v w)))))) →
                                Msg.body m = [] ∧ Msg.values m = []) ∧
                            D.to Msg
                                (D.like (hs 0 1)
                                  (Prod.snd
                                    (learn (SrcD.src (SrcD.mk e s d st ap)) (MsgD.msg (MsgD.mk a b c dd f g v w))))) =
                              D.to Msg
                                (D.like (hs_1 0 1)
                                  (Prod.snd
                                    (learn (SrcD.src (SrcD.mk e s d st ap)) (MsgD.msg (MsgD.mk a b c dd f g v w))))))
                    (Tree.ret (SV.lb true)))))))) := by kernel_rfl

theorem stores_in : exec Try.prog ctL 300 (entry Try.prog 6 [.agg [.int .i64 te, .int .i64 ts, .int .i64 tst, .int .i64 tap], .int .i64 c]) =
  Tree.all fun hs =>
    Tree.all fun hs_1 =>
      Tree.br
        (!(decide
              (Tgt.epoch (Prod.fst (Sx.store (Tgt.mk te ts tst tap) c)) =
                Tgt.epoch (Prod.fst (Sx.store (Tgt.mk te ts tst tap) c))) &&
            (decide
                (Tgt.site (Prod.fst (Sx.store (Tgt.mk te ts tst tap) c)) =
                  Tgt.site (Prod.fst (Sx.store (Tgt.mk te ts tst tap) c))) &&
              (decide
                  (Tgt.stored (Prod.fst (Sx.store (Tgt.mk te ts tst tap) c)) =
                    Tgt.stored (Prod.fst (Sx.store (Tgt.mk te ts tst tap) c))) &&
                (decide
                    (Tgt.applied (Prod.fst (Sx.store (Tgt.mk te ts tst tap) c)) =
                      Tgt.applied (Prod.fst (Sx.store (Tgt.mk te ts tst tap) c))) &&
                  true)))))
        (Tree.ret (SV.lb false))
        (Tree.need
          (D.Is Msg (D.like (hs 0 0) (Prod.fst (Prod.snd (Sx.store (Tgt.mk te ts tst tap) c)))) ∧
            D.Is Msg (D.like (hs_1 0 0) (Prod.fst (Prod.snd (Sx.store (Tgt.mk te ts tst tap) c)))) ∧
              D.len (D.like (hs 0 0) (Prod.fst (Prod.snd (Sx.store (Tgt.mk te ts tst tap) c)))) ≤ 1048576 ∧
                (∀ (m : Msg),
                    List.Mem m (D.to Msg (D.like (hs 0 0) (Prod.fst (Prod.snd (Sx.store (Tgt.mk te ts tst tap) c))))) →
                      Msg.body m = [] ∧ Msg.values m = []) ∧
                  D.to Msg (D.like (hs 0 0) (Prod.fst (Prod.snd (Sx.store (Tgt.mk te ts tst tap) c)))) =
                    D.to Msg (D.like (hs_1 0 0) (Prod.fst (Prod.snd (Sx.store (Tgt.mk te ts tst tap) c)))))
          (Tree.br
            (Prod.snd (Prod.snd (Sx.store (Tgt.mk te ts tst tap) c)) !=
              Prod.snd (Prod.snd (Sx.store (Tgt.mk te ts tst tap) c)))
            (Tree.ret (SV.lb false))
            (Tree.all fun hs =>
              Tree.all fun hs_2 =>
                Tree.br
                  (decide
                      (Tgt.epoch (Prod.fst (applyT (Tgt.mk te ts tst tap) c)) =
                        Tgt.epoch (Prod.fst (applyT (Tgt.mk te ts tst tap) c))) &&
                    (decide
                        (Tgt.site (Prod.fst (applyT (Tgt.mk te ts tst tap) c)) =
                          Tgt.site (Prod.fst (applyT (Tgt.mk te ts tst tap) c))) &&
                      (decide
                          (Tgt.stored (Prod.fst (applyT (Tgt.mk te ts tst tap) c)) =
                            Tgt.stored (Prod.fst (applyT (Tgt.mk te ts tst tap) c))) &&
                        (decide
                            (Tgt.applied (Prod.fst (applyT (Tgt.mk te ts tst tap) c)) =
                              Tgt.applied (Prod.fst (applyT (Tgt.mk te ts tst tap) c))) &&
                          true))))
                  (Tree.need
                    (D.Is Msg (D.like (hs 0 0) (Prod.fst (Prod.snd (applyT (Tgt.mk te ts tst tap) c)))) ∧
                      D.Is Msg (D.like (hs_2 0 0) (Prod.fst (Prod.snd (applyT (Tgt.mk te ts tst tap) c)))) ∧
                        D.len (D.like (hs 0 0) (Prod.fst (Prod.snd (applyT (Tgt.mk te ts tst tap) c)))) ≤ 1048576 ∧
                          (∀ (m : Msg),
                              List.Mem m
                                  (D.to Msg (D.like (hs 0 0) (Prod.fst (Prod.snd (applyT (Tgt.mk te ts tst tap) c))))) →
                                Msg.body m = [] ∧ Msg.values m = []) ∧
                            D.to Msg (D.like (hs 0 0) (Prod.fst (Prod.snd (applyT (Tgt.mk te ts tst tap) c)))) =
                              D.to Msg (D.like (hs_2 0 0) (Prod.fst (Prod.snd (applyT (Tgt.mk te ts tst tap) c)))))
                    (Tree.ret
                      (SV.bool
                        (decide
                          (Prod.snd (Prod.snd (applyT (Tgt.mk te ts tst tap) c)) =
                            Prod.snd (Prod.snd (applyT (Tgt.mk te ts tst tap) c)))))))
                  (Tree.ret (SV.lb false))))) := by kernel_rfl

theorem answers_in : exec Try.prog ctL 300 (entry Try.prog 7 [.agg [.int .i64 te, .int .i64 ts, .int .i64 tst, .int .i64 tap], .agg [.int .i64 a, .int .i64 b, .int .i64 c, .int .i64 dd, .int .i64 f, .int .i64 g, .dat v, .dat w]]) =
  Tree.br (decide ((↑(D.len v) : Int) > 20)) (Tree.ret (SV.lb true))
    (Tree.br (decide ((↑(D.len w) : Int) > 100)) (Tree.ret (SV.lb true))
      (Tree.all fun hs =>
        Tree.all fun hs_1 =>
          Tree.br
            (decide
                (Tgt.epoch (Prod.fst (answer (Tgt.mk te ts tst tap) (MsgD.msg (MsgD.mk a b c dd f g v w)))) =
                  Tgt.epoch (Prod.fst (answer (Tgt.mk te ts tst tap) (MsgD.msg (MsgD.mk a b c dd f g v w))))) &&
              (decide
                  (Tgt.site (Prod.fst (answer (Tgt.mk te ts tst tap) (MsgD.msg (MsgD.mk a b c dd f g v w)))) =
                    Tgt.site (Prod.fst (answer (Tgt.mk te ts tst tap) (MsgD.msg (MsgD.mk a b c dd f g v w))))) &&
                (decide
                    (Tgt.stored (Prod.fst (answer (Tgt.mk te ts tst tap) (MsgD.msg (MsgD.mk a b c dd f g v w)))) =
                      Tgt.stored (Prod.fst (answer (Tgt.mk te ts tst tap) (MsgD.msg (MsgD.mk a b c dd f g v w))))) &&
                  (decide
                      (Tgt.applied (Prod.fst (answer (Tgt.mk te ts tst tap) (MsgD.msg (MsgD.mk a b c dd f g v w)))) =
                        Tgt.applied (Prod.fst (answer (Tgt.mk te ts tst tap) (MsgD.msg (MsgD.mk a b c dd f g v w))))) &&
                    true))))
            (Tree.need
              (D.Is Msg
                  (D.like (hs 0 0) (Prod.snd (answer (Tgt.mk te ts tst tap) (MsgD.msg (MsgD.mk a b c dd f g v w))))) ∧
                D.Is Msg
                    (D.like (hs_1 0 0) (Prod.snd (answer (Tgt.mk te ts tst tap) (MsgD.msg (MsgD.mk a b c dd f g v w))))) ∧
                  D.len
                        (D.like (hs 0 0)
                          (Prod.snd (answer (Tgt.mk te ts tst tap) (MsgD.msg (MsgD.mk a b c dd f g v w))))) ≤
                      1048576 ∧
                    (∀ (m : Msg),
                        List.Mem m
                            (D.to Msg
                              (D.like (hs 0 0)
                                (Prod.snd (answer (Tgt.mk te ts tst tap) (MsgD.msg (MsgD.mk a b c dd f g v w)))))) →
                          Msg.body m = [] ∧ Msg.values m = []) ∧
                      D.to Msg
                          (D.like (hs 0 0)
                            (Prod.snd (answer (Tgt.mk te ts tst tap) (MsgD.msg (MsgD.mk a b c dd f g v w))))) =
                        D.to Msg
                          (D.like (hs_1 0 0)
                            (Prod.snd (answer (Tgt.mk te ts tst tap) (MsgD.msg (MsgD.mk a b c dd f g v w))))))
              (Tree.ret (SV.lb true)))
            (Tree.ret (SV.lb false)))) := by kernel_rfl

end
end Go.Proofs.Ytnfkkmdbaknnlaa
end
section
/- Layer 32: five statements about single steps. -/
open Go Go.Proofs Sx
namespace Sx
theorem ret_sure {P : Program} {w : World} {H : HV} {b : Bool} (h : b = true) : (Tree.ret (.bool b)).holds P ⟨w, H⟩ (RetS w H (.lb true)) := by
  subst h; exact ret_S fun _ _ => by simp [SV.den]
theorem ret_lbt {P : Program} {w : World} {H : HV} : (Tree.ret (.lb true)).holds P ⟨w, H⟩ (RetS w H (.lb true)) := ret_S fun _ _ => rfl
theorem ret_lbs {P : Program} {w : World} {H : HV} {b : Bool} (h : b = true) : (Tree.ret (.lb b)).holds P ⟨w, H⟩ (RetS w H (.lb true)) := by subst h; exact ret_lbt

theorem filter_len {α : Type} (p : α → Bool) (l : List α) : (l.filter p).length ≤ l.length := List.length_filter_le p l
theorem offer_len (s : Src) (c : Int) : (offer s c).1.offered.length ≤ s.offered.length + 1 ∧ (offer s c).2.1.length ≤ 1 ∧ ∀ m, m ∈ (offer s c).2.1 → m.body = [] ∧ m.values = [] := by
  unfold offer
  split
  · simp [zSrc]
  · split
    · simp [zSrc]
    · split
      · simp [zSrc]
      · split
        · simp [zSrc]
        · simp [toTarget]
theorem resend_len (s : Src) : (resend s).length ≤ s.offered.length + 1 ∧ ∀ m, m ∈ resend s → m.body = [] ∧ m.values = [] := by
  unfold resend
  split
  · simp
  · have h := filter_len (fun x => decide (s.stored < x)) s.offered
    constructor
    · rw [List.length_append, List.length_map]
      split <;> simp <;> omega
    · intro m hm
      rcases List.mem_append.1 hm with hm | hm
      · split at hm
        · rw [List.mem_singleton.1 hm]; exact ⟨rfl, rfl⟩
        · cases hm
      · obtain ⟨x, _, rfl⟩ := List.mem_map.1 hm
        exact ⟨rfl, rfl⟩
theorem src_like (a b c d : Int) (x : D) (l : List Int) : (SrcD.mk a b (x.like l) c d).src = ⟨a, b, l, c, d⟩ := by simp [SrcD.src, D.like_to]
theorem like_len {α : Type} [Codec α] (d : D) (l : List α) : (d.like l).len = l.length := by rw [D.Is.length (α := α), D.like_to]
end Sx
namespace Go.Proofs.Ytnfkkmdbaknnlaa
def spB1 (x : SrcD × Int) : SpecR := .scalar [x.1.d.Is Int] (.lb true)
theorem lawOffers : Law Try.prog 4 ((rdSrc.two rdInt).sp spB1) := by
  refine law_in _ (by kernel_rfl) fun H w ⟨⟨e, s, d, st, ap⟩, c⟩ hok hp => ?_
  have hd : d.Is Int := hp _ (List.mem_singleton.2 rfl)
  apply exec_sound ctLOk 300
  rw [show (rdSrc.two rdInt).canon (⟨e, s, d, st, ap⟩, c) = [.agg [.int .i64 e, .int .i64 s, .dat d, .int .i64 st, .int .i64 ap], .int .i64 c] from rfl, offers_in]
  refine ⟨fun _ => ret_lbt, fun hl => ?_⟩
  have hl : (d.to Int).length ≤ 1100 := by have := of_decide_eq_false hl; rw [D.Is.length (α := Int)] at this; omega
  have h1 := offer_len (SrcD.mk e s d st ap).src c
  have h2 := resend_len (SrcD.mk e s d st ap).src
  have h3 : (SrcD.mk e s d st ap).src.offered = d.to Int := rfl
  rw [h3] at h1 h2
  have h4 : (offer (SrcD.mk e s d st ap).src c).1.offered.length ≤ 1048576 := by omega
  have h5 : (offer (SrcD.mk e s d st ap).src c).2.1.length ≤ 1048576 := by omega
  have h6 : (resend (SrcD.mk e s d st ap).src).length ≤ 1048576 := by omega
  simp [hd, D.like_is, src_like, D.like_to, like_len, ret_sure, h4, h5, h6]
  exact ⟨h1.2.2, h2.2⟩
end Go.Proofs.Ytnfkkmdbaknnlaa
end
section
/- Layer 32: the other statements about single steps. -/
open Go Go.Proofs Sx
namespace Sx
theorem newSource_len (e s a : Int) : (newSource e s a).1.offered = [] := by unfold newSource; split <;> rfl
theorem store_len (t : Tgt) (c : Int) : (store t c).2.1.length ≤ 1 ∧ ∀ m, m ∈ (store t c).2.1 → m.body = [] ∧ m.values = [] := by
  unfold store
  split
  · simp
  · split
    · simp
    · split
      · simp
      · simp [toSource]
theorem applyT_len (t : Tgt) (c : Int) : (applyT t c).2.1.length ≤ 1 ∧ ∀ m, m ∈ (applyT t c).2.1 → m.body = [] ∧ m.values = [] := by
  unfold applyT
  split
  · simp
  · split
    · simp
    · split
      · simp
      · simp [toSource]
theorem answer_len (t : Tgt) (m : Msg) : (answer t m).2.length ≤ 1 ∧ ∀ x, x ∈ (answer t m).2 → x.body = [] ∧ x.values = [] := by
  unfold answer
  split
  · simp
  · split
    · simp [toSource]
    · simp only
      split <;> simp [toSource]
theorem learn_len (s : Src) (m : Msg) : (learn s m).1.offered.length ≤ s.offered.length ∧ (learn s m).2.length ≤ 1 ∧ ∀ x, x ∈ (learn s m).2 → x.body = [] ∧ x.values = [] := by
  unfold learn
  split
  · simp
  · split
    · simp
    · split
      · simp
      · split
        · split
          · simp [toTarget]
          · simp
        · split
          · split
            · simp [filter_len]
            · simp
          · simp
end Sx
namespace Go.Proofs.Ytnfkkmdbaknnlaa
def spB2 (x : SrcD × Tgt) : SpecR := .scalar [x.1.d.Is Int] (.lb true)
theorem lawStarts : Law Try.prog 3 ((rdSrc.two rdTgt).sp spB2) := by
  refine law_in _ (by kernel_rfl) fun H w ⟨⟨e, s, d, st, ap⟩, ⟨te, ts, tst, tap⟩⟩ hok hp => ?_
  have hd : d.Is Int := hp _ (List.mem_singleton.2 rfl)
  apply exec_sound ctLOk 300
  rw [show (rdSrc.two rdTgt).canon (⟨e, s, d, st, ap⟩, ⟨te, ts, tst, tap⟩) = [.agg [.int .i64 e, .int .i64 s, .dat d, .int .i64 st, .int .i64 ap], .agg [.int .i64 te, .int .i64 ts, .int .i64 tst, .int .i64 tap]] from rfl, starts_in]
  refine ⟨fun _ => ret_lbt, fun hl => ?_⟩
  have h1 := newSource_len e s ap
  simp [hd, D.like_is, src_like, D.like_to, like_len, ret_sure, h1]

def spB3 (x : SrcD × MsgD) : SpecR := .scalar [x.1.d.Is Int] (.lb true)
theorem lawLearns : Law Try.prog 5 ((rdSrc.two rdMsg).sp spB3) := by
  refine law_in _ (by kernel_rfl) fun H w ⟨⟨e, s, d, st, ap⟩, ⟨a, b, c, dd, f, g, v, w'⟩⟩ hok hp => ?_
  have hd : d.Is Int := hp _ (List.mem_singleton.2 rfl)
  apply exec_sound ctLOk 300
  rw [show (rdSrc.two rdMsg).canon (⟨e, s, d, st, ap⟩, ⟨a, b, c, dd, f, g, v, w'⟩) = [.agg [.int .i64 e, .int .i64 s, .dat d, .int .i64 st, .int .i64 ap], .agg [.int .i64 a, .int .i64 b, .int .i64 c, .int .i64 dd, .int .i64 f, .int .i64 g, .dat v, .dat w']] from rfl, learns_in]
  refine ⟨fun _ => ret_lbt, fun hl => ⟨fun _ => ret_lbt, fun _ => ⟨fun _ => ret_lbt, fun _ => ?_⟩⟩⟩
  have hl : (d.to Int).length ≤ 1100 := by have := of_decide_eq_false hl; rw [D.Is.length (α := Int)] at this; omega
  have h1 := learn_len (SrcD.mk e s d st ap).src (MsgD.mk a b c dd f g v w').msg
  have h3 : (SrcD.mk e s d st ap).src.offered = d.to Int := rfl
  rw [h3] at h1
  have h4 : (learn (SrcD.mk e s d st ap).src (MsgD.mk a b c dd f g v w').msg).1.offered.length ≤ 1048576 := by omega
  have h5 : (learn (SrcD.mk e s d st ap).src (MsgD.mk a b c dd f g v w').msg).2.length ≤ 1048576 := by omega
  simp [hd, D.like_is, src_like, D.like_to, like_len, ret_lbt, h4, h5]
  exact h1.2.2

def spB4 (_ : Tgt × Int) : SpecR := .scalar [] (.lb true)
theorem lawStores : Law Try.prog 6 ((rdTgt.two rdInt).sp spB4) := by
  refine law_in _ (by kernel_rfl) fun H w ⟨⟨te, ts, tst, tap⟩, c⟩ hok hp => ?_
  apply exec_sound ctLOk 300
  rw [show (rdTgt.two rdInt).canon (⟨te, ts, tst, tap⟩, c) = [.agg [.int .i64 te, .int .i64 ts, .int .i64 tst, .int .i64 tap], .int .i64 c] from rfl, stores_in]
  have h1 := store_len ⟨te, ts, tst, tap⟩ c
  have h2 := applyT_len ⟨te, ts, tst, tap⟩ c
  have h4 : (Sx.store ⟨te, ts, tst, tap⟩ c).2.1.length ≤ 1048576 := by omega
  have h5 : (applyT ⟨te, ts, tst, tap⟩ c).2.1.length ≤ 1048576 := by omega
  simp [D.like_is, D.like_to, like_len, ret_sure, h4, h5]
  exact ⟨h1.2, h2.2⟩

def spB5 (_ : Tgt × MsgD) : SpecR := .scalar [] (.lb true)
theorem lawAnswers : Law Try.prog 7 ((rdTgt.two rdMsg).sp spB5) := by
  refine law_in _ (by kernel_rfl) fun H w ⟨⟨te, ts, tst, tap⟩, ⟨a, b, c, dd, f, g, v, w'⟩⟩ hok hp => ?_
  apply exec_sound ctLOk 300
  rw [show (rdTgt.two rdMsg).canon (⟨te, ts, tst, tap⟩, ⟨a, b, c, dd, f, g, v, w'⟩) = [.agg [.int .i64 te, .int .i64 ts, .int .i64 tst, .int .i64 tap], .agg [.int .i64 a, .int .i64 b, .int .i64 c, .int .i64 dd, .int .i64 f, .int .i64 g, .dat v, .dat w']] from rfl, answers_in]
  refine ⟨fun _ => ret_lbt, fun hl => ⟨fun _ => ret_lbt, fun _ => ?_⟩⟩
  have h1 := answer_len ⟨te, ts, tst, tap⟩ (MsgD.mk a b c dd f g v w').msg
  have h4 : (answer ⟨te, ts, tst, tap⟩ (MsgD.mk a b c dd f g v w').msg).2.length ≤ 1048576 := by omega
  simp [D.like_is, D.like_to, like_len, ret_lbt, h4]
  exact h1.2
end Go.Proofs.Ytnfkkmdbaknnlaa
end
section
/- Layer 32: a step within CommitSafe. -/
open Go Go.Proofs Sx
namespace Sx
/-- What is known of a play. -/
structure PI (j : Nat) (S : SrcD) (T : Tgt) (r1 r2 : List (List D)) (sent : List Msg) : Prop where
  inv : Inv j S.src T sent
  rows : SRows Msg r2 sent
  d : S.d.Is Int
  r1 : r1.length ≤ j

theorem PI.len2 {j : Nat} {S : SrcD} {T : Tgt} {r1 r2 : List (List D)} {sent : List Msg} (h : PI j S T r1 r2 sent) : r2.length ≤ 64 * j := by
  rw [rows_len h.rows]; exact h.inv.ml

theorem fits_msg {d : D} (h : d.Is Msg) : d.Fits 8 := h.fits
theorem wrap_small {n : Int} (h0 : 0 ≤ n) (h : n ≤ 4611686018427387904) : IntKind.i64.wrap n = n := wrap64 (by omega) (by omega)
end Sx
namespace Go.Proofs.Ytnfkkmdbaknnlaa
section
variable {C : Ctx} {R : Value → World → Prop} {l : D} {i n : Int} {S0 S : SrcD} {T0 T : Tgt} {h1 h2 : Hd} {r1 r2 : List (List D)}

theorem c3n8 (hl : r2.length ≤ 100000) (hD : ∀ h', Runs Try.prog C (D8 l i n S T h1 h' r1 (r2 ++ [])) R) : Runs Try.prog C (C8 3 .nils l i n S0 T0 S T h1 h2 r1 r2) R := by
  obtain ⟨e, s, d, st, ap⟩ := S
  obtain ⟨e0, s0, d0, st0, ap0⟩ := S0
  apply goS_sound ctLOk (fun _ => false) [(38, 2), (38, 246), (8, 27)] 400
  rw [c3n_8]
  refine ⟨⟨rfl, .inl rfl, ?_, ?_⟩, fun hs => hD _⟩
  · simp only [len_slc]; omega
  · simp only [len_slc]; omega

theorem c3d8 {dm : D} (hm : dm.Is Msg) (hl : r2.length + dm.len ≤ 100000) (hD : ∀ h', Runs Try.prog C (D8 l i n S T h1 h' r1 (r2 ++ dm.rows)) R) : Runs Try.prog C (C8 3 (.dat dm) l i n S0 T0 S T h1 h2 r1 r2) R := by
  obtain ⟨e, s, d, st, ap⟩ := S
  obtain ⟨e0, s0, d0, st0, ap0⟩ := S0
  apply goS_sound ctLOk (fun _ => false) [(38, 2), (38, 246), (8, 27)] 400
  rw [c3d_8]
  refine ⟨⟨rfl, fits_msg hm, ?_, ?_⟩, fun hs => hD _⟩
  · simp only [len_slc]; omega
  · simp only [len_slc]; omega

theorem c5d8 {dm : D} (hm : dm.Is Msg) (hl : r2.length + dm.len ≤ 100000) (hD : ∀ h', Runs Try.prog C (D8 l i n S T h1 h' r1 (r2 ++ dm.rows)) R) : Runs Try.prog C (C8 5 (.dat dm) l i n S0 T0 S T h1 h2 r1 r2) R := by
  obtain ⟨e, s, d, st, ap⟩ := S
  obtain ⟨e0, s0, d0, st0, ap0⟩ := S0
  apply goS_sound ctLOk (fun _ => false) [(38, 2), (38, 246), (8, 27)] 400
  rw [c5d_8]
  refine ⟨⟨rfl, fits_msg hm, ?_, ?_⟩, fun hs => hD _⟩
  · simp only [len_slc]; omega
  · simp only [len_slc]; omega

/-- The first loop. -/
theorem l18 {j : Nat} {sent : List Msg} (hj : j ≤ 60) (hp : PI j S T r1 r2 sent) (hn : Runs Try.prog C (C8 3 .nils l i n S T S T h1 h2 r1 r2) R)
    (hs : ∀ c dm, c ∈ S.d.to Int → T.stored < c → S.e = T.epoch → dm.Is Msg → dm.to Msg = (Sx.store T c).2.1 → Runs Try.prog C (C8 3 (.dat dm) l i n S T S (Sx.store T c).1 h1 h2 r1 r2) R) :
    ∀ q : Nat, q ≤ (S.d.to Int).length → Runs Try.prog C (L18 l i n S T q h1 h2 r1 r2) R := by
  obtain ⟨e, s, d, st, ap⟩ := S
  have hd : d.Is Int := hp.d
  have hlen : (d.to Int).length ≤ 60 := by have := hp.inv.of2; simp only [SrcD.src] at this; omega
  refine runs_loop (fun q : Nat => L18 l i n ⟨e, s, d, st, ap⟩ T q h1 h2 r1 r2) (fun q => q ≤ (d.to Int).length) (fun q => (d.to Int).length - q) (fun _ => rfl) fun q hq ih => ?_
  apply goS_sound ctLOk (fun _ => false) [(38, 2), (38, 246), (8, 27)] 400
  rw [l1_8]
  refine ⟨fun hlt => ?_, fun _ => hn⟩
  have hlt' : q < (d.to Int).length := by have := of_decide_eq_true hlt; rw [D.Is.length (α := Int)] at this; omega
  obtain ⟨a1, a2, a3⟩ := int_at hd hlt'
  have next : Runs Try.prog C (L18 l i n ⟨e, s, d, st, ap⟩ T (IntKind.i64.wrap ((q : Int) + 1)) h1 h2 r1 r2) R := by
    rw [wrap_succ hlt' (by omega)]
    exact ih (q + 1) hlt' (by omega)
  refine ⟨a1, a2, fun hgt => ⟨fun hee => ?_, fun _ => next⟩, fun _ => next⟩
  rw [a3] at hgt
  have hgt := of_decide_eq_true hgt
  have hee := of_decide_eq_true hee
  have hmem : (d.to Int)[q] ∈ d.to Int := List.getElem_mem hlt'
  intro hs'
  rw [a3]
  have hok : (Sx.store ⟨T.epoch, T.site, T.stored, T.applied⟩ (d.to Int)[q]).2.2 = 0 := by
    unfold Sx.store
    have ct : checkTarget ⟨T.epoch, T.site, T.stored, T.applied⟩ = 0 := checkTarget_ok hp.inv.tok
    have := (hp.inv.sok.low _ hmem).2
    have h0 : ¬ ((d.to Int)[q] ≤ T.stored) := by omega
    have h1' : ¬ ((d.to Int)[q] > 1073741824) := by omega
    rw [if_neg (by simp [ct]), if_neg h0, if_neg h1']
  refine ⟨fun h => by rw [hok] at h; simp at h, fun _ => ?_⟩
  exact hs _ _ hmem hgt hee (D.like_is _ _) (D.like_to _ _)

theorem wrap_pred {q : Nat} (hq : q ≤ 1000) : IntKind.i64.wrap ((q : Int) - 1) = (q : Int) - 1 := wrap64 (by omega) (by omega)

/-- The second loop. -/
theorem l28 {j : Nat} {sent : List Msg} {k x : Int} (hj : j ≤ 60) (hp : PI j S T r1 r2 sent) (hn : Runs Try.prog C (C8 3 .nils l i n S T S T h1 h2 r1 r2) R)
    (hs : ∀ c dm, c ∈ S.d.to Int → T.applied < c → c ≤ T.stored → dm.Is Msg → dm.to Msg = (applyT T c).2.1 → Runs Try.prog C (C8 3 (.dat dm) l i n S T S (applyT T c).1 h1 h2 r1 r2) R) :
    ∀ q : Nat, q ≤ (S.d.to Int).length → Runs Try.prog C (L28 l i n S T k x ((q : Int) - 1) h1 h2 r1 r2) R := by
  obtain ⟨e, s, d, st, ap⟩ := S
  have hd : d.Is Int := hp.d
  have hlen : (d.to Int).length ≤ 60 := by have := hp.inv.of2; simp only [SrcD.src] at this; omega
  refine runs_loop (fun q : Nat => L28 l i n ⟨e, s, d, st, ap⟩ T k x ((q : Int) - 1) h1 h2 r1 r2) (fun q => q ≤ (d.to Int).length) (fun q => q) (fun _ => rfl) fun q hq ih => ?_
  apply goS_sound ctLOk (fun _ => false) [(38, 2), (38, 246), (8, 27)] 400
  rw [l2_8]
  refine ⟨fun hge => ?_, fun _ => hn⟩
  have hge := of_decide_eq_true hge
  obtain ⟨p, rfl⟩ : ∃ p, q = p + 1 := ⟨q - 1, by omega⟩
  have hpp : ((p + 1 : Nat) : Int) - 1 = (p : Int) := by omega
  have hlt' : p < (d.to Int).length := by omega
  obtain ⟨a1, a2, a3⟩ := int_at hd hlt'
  rw [hpp]
  have next : Runs Try.prog C (L28 l i n ⟨e, s, d, st, ap⟩ T k x (IntKind.i64.wrap ((p : Int) - 1)) h1 h2 r1 r2) R := by
    rw [wrap_pred (by omega)]
    exact ih p (by omega) (by omega)
  refine ⟨a1, a2, fun hgt => ⟨fun hle => ⟨by decide, fun _ => ?_, fun _ => next⟩, fun _ => next⟩, fun _ => next⟩
  rw [a3] at hgt hle
  have hgt := of_decide_eq_true hgt
  have hle := of_decide_eq_true hle
  have hmem : (d.to Int)[p] ∈ d.to Int := List.getElem_mem hlt'
  intro hs'
  rw [a3]
  have hok : (applyT ⟨T.epoch, T.site, T.stored, T.applied⟩ (d.to Int)[p]).2.2 = 0 := by
    unfold applyT
    have ct : checkTarget ⟨T.epoch, T.site, T.stored, T.applied⟩ = 0 := checkTarget_ok hp.inv.tok
    have h0 : ¬ ((d.to Int)[p] ≤ T.applied) := by omega
    have h1' : ¬ ((d.to Int)[p] > T.stored) := by omega
    rw [if_neg (by simp [ct]), if_neg h0, if_neg h1']
  refine ⟨fun h => by rw [hok] at h; simp at h, fun _ => ?_⟩
  exact hs _ _ hmem hgt hle (D.like_is _ _) (D.like_to _ _)
end
end Go.Proofs.Ytnfkkmdbaknnlaa
namespace Sx
theorem tmod_small {x m : Int} (h0 : 0 ≤ x) (hm : 0 < m) : 0 ≤ Int.tmod x m ∧ Int.tmod x m < m := ⟨Int.tmod_nonneg _ h0, Int.tmod_lt_of_pos _ hm⟩

/-- A message that is read off one's own rows. -/
theorem row_msg {h : Hd} {rows : List (List D)} {ms : List Msg} (hr : SRows Msg rows ms) {i : Nat} (hi : i < ms.length) :
    (D.slc h 8 rows).HasCells i 0 [.int .i64, .int .i64, .int .i64, .int .i64, .int .i64, .int .i64, .slc, .slc] ∧
    (MsgD.mk ((D.slc h 8 rows).getInt i 0) ((D.slc h 8 rows).getInt i 1) ((D.slc h 8 rows).getInt i 2) ((D.slc h 8 rows).getInt i 3) ((D.slc h 8 rows).getInt i 4) ((D.slc h 8 rows).getInt i 5)
      ((D.slc h 8 rows).cell i 6) ((D.slc h 8 rows).cell i 7)).msg = ms[i] := by
  obtain ⟨h1, h2⟩ := is_of (h := h) (s := 8) rfl hr
  obtain ⟨a, b, c, d, e, f, g, _, k, _, m⟩ := msg_cell h1 (i := i) (by rw [h2]; exact hi)
  refine ⟨a, ?_⟩
  simp only [MsgD.msg, b, c, d, e, f, g, k, m]
  simp only [h2]

theorem last_at {d : D} (hd : d.Is Int) (a : Int) (hl : 0 < (d.to Int).length) (hn : (d.to Int).length ≤ 100000) :
    IntKind.i64.wrap ((d.len : Int) - 1) = (((d.to Int).length - 1 : Nat) : Int) ∧ (d.to Int)[(d.to Int).length - 1]'(by omega) = lastOf a (d.to Int) := by
  constructor
  · rw [D.Is.length (α := Int), wrap64 (by omega) (by omega)]; omega
  · unfold lastOf
    rw [List.getLastD_eq_getLast?, List.getLast?_eq_getElem?, List.getElem?_eq_getElem (by omega)]; rfl

theorem cyc_eq {a x : Int} (ha : -1000 ≤ a) (hb : a ≤ 4000000000) (hx : 0 ≤ x) :
    IntKind.i64.wrap (IntKind.i64.wrap (a + 1) + IntKind.i64.wrap (Int.tmod x 2)) = a + 1 ∨ IntKind.i64.wrap (IntKind.i64.wrap (a + 1) + IntKind.i64.wrap (Int.tmod x 2)) = a + 2 := by
  obtain ⟨h1, h2⟩ := tmod_small hx (by decide : (0 : Int) < 2)
  rw [wrap64 (n := a + 1) (by omega) (by omega), wrap64 (n := Int.tmod x 2) (by omega) (by omega), wrap64 (by omega) (by omega)]
  omega

/-- What a step leaves. -/
structure PlayLeft (j : Nat) (S : SrcD) (T : Tgt) (r2 : List (List D)) (S' : SrcD) (T' : Tgt) (r1' rows' : List (List D)) (sent ms : List Msg) : Prop where
  pi : PI (j + 1) S' T' r1' (r2 ++ rows') (sent ++ ms)
  rows : SRows Msg rows' ms
  br : Brings S.src T S'.src T' ms
  step : StepTo S.src T sent S'.src T' ms
end Sx
namespace Go.Proofs.Ytnfkkmdbaknnlaa
section
variable {C : Ctx} {R : Value → World → Prop} {l : D} {i n : Int} {S : SrcD} {T : Tgt} {h1 h2 : Hd} {r1 r2 : List (List D)}

/-- A step. -/
theorem st8 {j : Nat} {sent : List Msg} {k x : Int} (hj : j ≤ 59) (hx : 0 ≤ x) (hxb : x ≤ 255) (hp : PI j S T r1 r2 sent)
    (hD : ∀ S' T' h1' h2' r1' rows' ms, PlayLeft j S T r2 S' T' r1' rows' sent ms → Runs Try.prog C (D8 l i n S' T' h1' h2' r1' (r2 ++ rows')) R) :
    Runs Try.prog C (E8 l i n S T k x h1 h2 r1 r2) R := by
  have hp0 := hp
  obtain ⟨e, s, d, st, ap⟩ := S
  have hd : d.Is Int := hp.d
  have hlen : (d.to Int).length ≤ 60 := by have := hp.inv.of2; simp only [SrcD.src] at this; omega
  have hr2 := hp.len2
  have hrl := rows_len hp.rows
  -- the end of a step
  have hend : ∀ S' T' h1' h2' r1' rows' ms, StepTo (SrcD.mk e s d st ap).src T sent S'.src T' ms → S'.d.Is Int → SRows Msg rows' ms → r1'.length ≤ j + 1 →
      Runs Try.prog C (D8 l i n S' T' h1' h2' r1' (r2 ++ rows')) R := by
    intro S' T' h1' h2' r1' rows' ms hst hd' hr' hl'
    obtain ⟨i1, i2⟩ := inv_step (by omega) hp.inv hst
    exact hD S' T' h1' h2' r1' rows' ms ⟨⟨i1, rows_app hp.rows hr', hd', hl'⟩, hr', i2, hst⟩
  have hr1 := hp.r1
  have idle : ∀ S', StepTo (SrcD.mk e s d st ap).src T sent S'.src T [] → S'.d.Is Int → Runs Try.prog C (C8 3 .nils l i n ⟨e, s, d, st, ap⟩ T S' T h1 h2 r1 r2) R :=
    fun S' hs hd' => c3n8 (by omega) fun h' => hend S' T _ _ _ [] [] hs hd' rows_nil (by omega)
  have sends : ∀ S' T' dm ms, StepTo (SrcD.mk e s d st ap).src T sent S'.src T' ms → S'.d.Is Int → dm.Is Msg → dm.to Msg = ms → ms.length ≤ 70 → Runs Try.prog C (C8 3 (.dat dm) l i n ⟨e, s, d, st, ap⟩ T S' T' h1 h2 r1 r2) R :=
    fun S' T' dm ms hs hd' hm hm' hl' => c3d8 hm (by rw [D.Is.length (α := Msg), hm']; omega) fun h' => hend S' T' _ _ _ _ ms hs hd' (by rw [← hm']; exact rows_of hm) (by omega)
  have hso : ∀ (S' : Src) (h : D), (SrcD.mk S'.epoch S'.site (h.like S'.offered) S'.stored S'.applied).src = S' := fun S' h => src_like _ _ _ _ _ _
  have sends' : ∀ (S' : Src) (h : D) T' dm ms, StepTo (SrcD.mk e s d st ap).src T sent S' T' ms → dm.Is Msg → dm.to Msg = ms → ms.length ≤ 70 →
      Runs Try.prog C (C8 3 (.dat dm) l i n ⟨e, s, d, st, ap⟩ T ⟨S'.epoch, S'.site, h.like S'.offered, S'.stored, S'.applied⟩ T' h1 h2 r1 r2) R :=
    fun S' h T' dm ms hs hm hm' hl' => sends _ T' dm ms (by rw [hso]; exact hs) (D.like_is _ _) hm hm' hl'
  have idle' : ∀ (S' : Src) (h : D), StepTo (SrcD.mk e s d st ap).src T sent S' T [] →
      Runs Try.prog C (C8 3 .nils l i n ⟨e, s, d, st, ap⟩ T ⟨S'.epoch, S'.site, h.like S'.offered, S'.stored, S'.applied⟩ T h1 h2 r1 r2) R :=
    fun S' h hs => idle _ (by rw [hso]; exact hs) (D.like_is _ _)
  apply goS_sound ctLOk (fun _ => false) [(38, 2), (38, 246), (8, 27)] 400
  rw [step8]
  -- the source offers
  have offers : ∀ c : Int, (c = lastOf ap (d.to Int) + 1 ∨ c = lastOf ap (d.to Int) + 2) → (offer (SrcD.mk e s d st ap).src c).2.2 = 0 → ∀ (h3 h4 : D) (q : List (List D)), q.length = 1 → ∀ hh,
      Runs Try.prog C (C8 5 (.dat (h4.like (offer (SrcD.mk e s d st ap).src c).2.1)) l i n ⟨e, s, d, st, ap⟩ T
        ⟨(offer (SrcD.mk e s d st ap).src c).1.epoch, (offer (SrcD.mk e s d st ap).src c).1.site, h3.like (offer (SrcD.mk e s d st ap).src c).1.offered, (offer (SrcD.mk e s d st ap).src c).1.stored, (offer (SrcD.mk e s d st ap).src c).1.applied⟩ T hh h2 (r1 ++ q) r2) R := by
    intro c hc he h3 h4 q hq hh
    have hol := offer_len (SrcD.mk e s d st ap).src c
    refine c5d8 (D.like_is _ _) (by rw [like_len]; omega) fun h' => hend _ T _ _ _ _ (offer (SrcD.mk e s d st ap).src c).2.1 ?_ (D.like_is _ _) ⟨(rows_of (D.like_is _ _)).1, by rw [(rows_of (D.like_is (α := Msg) _ _)).2, D.like_to]⟩ (by rw [List.length_append, hq]; omega)
    rw [hso]
    exact .offer c hc he
  have hlg := lastOf_ge (a := ap) (l := d.to Int) (fun y hy => (hp.inv.sok.low y hy).1) hp.inv.sok.up
  have hap0 := hp.inv.sok.a0
  have hlub : lastOf ap (d.to Int) ≤ 1073741824 := by
    rcases lastOf_mem (a := ap) (l := d.to Int) with h | h
    · rw [h]; exact hp.inv.sok.a1
    · exact (hp.inv.sok.low _ h).2
  have hap0' : 0 ≤ ap := hap0
  refine ⟨by decide, fun _ => ⟨fun hpos => ?_, fun hzero => ?_⟩, fun _ => ⟨fun _ => ?_, fun _ => ⟨fun _ => ?_, fun _ => ⟨fun _ => ⟨fun hpos => ?_, fun _ => ?_⟩, fun _ => ⟨fun _ => ⟨fun hpos => ?_, fun _ => ?_⟩, fun _ => ⟨fun _ => ?_, fun _ => ?_⟩⟩⟩⟩⟩⟩
  · -- 0: behind the last
    have hpos' : 0 < (d.to Int).length := by have := of_decide_eq_true hpos; rw [D.Is.length (α := Int)] at this; omega
    obtain ⟨w1, w2⟩ := last_at hd ap hpos' (by omega)
    have hlt : (d.to Int).length - 1 < (d.to Int).length := by omega
    obtain ⟨a1, a2, a3⟩ := int_at hd hlt
    rw [w1]
    refine ⟨a1, a2, by decide, hd, fun hs => ?_⟩
    rw [a3, w2]
    have hc := cyc_eq (a := lastOf ap (d.to Int)) (x := x) (by omega) (by omega) hx
    generalize IntKind.i64.wrap (IntKind.i64.wrap (lastOf ap (d.to Int) + 1) + IntKind.i64.wrap (Int.tmod x 2)) = c at hc
    refine ⟨fun he => ⟨by decide, fun hs1 => ⟨⟨rfl, .inr rfl, ?_, ?_⟩, fun hs2 => ?_⟩⟩, fun _ => idle _ .none hd⟩
    · simp only [len_slc, List.length_singleton]; omega
    · simp only [len_slc, List.length_singleton]; omega
    · exact offers c hc (of_decide_eq_true he) _ _ _ rfl _
  · -- 0: behind what is applied
    have hz : d.to Int = [] := by
      have := of_decide_eq_false hzero
      rw [D.Is.length (α := Int)] at this
      exact List.eq_nil_of_length_eq_zero (by omega)
    have hlast : lastOf ap (d.to Int) = ap := by rw [hz]; rfl
    refine ⟨by decide, hd, fun hs => ?_⟩
    have hc := cyc_eq (a := ap) (x := x) (by omega) (by omega) hx
    generalize IntKind.i64.wrap (IntKind.i64.wrap (ap + 1) + IntKind.i64.wrap (Int.tmod x 2)) = c at hc
    refine ⟨fun he => ⟨by decide, fun hs1 => ⟨⟨rfl, .inr rfl, ?_, ?_⟩, fun hs2 => ?_⟩⟩, fun _ => idle _ .none hd⟩
    · simp only [len_slc, List.length_singleton]; omega
    · simp only [len_slc, List.length_singleton]; omega
    · exact offers c (by rw [hlast]; exact hc) (of_decide_eq_true he) _ _ _ rfl _
  · -- 1: the target stores
    exact l18 (by omega) hp0 (idle _ .none hd) (fun c dm hc hgt hee hm hm' => sends _ _ dm _ (.store c hc hgt hee) hd hm hm' (by have := (store_len T c).1; omega)) 0 (Nat.zero_le _)
  · -- 2: it applies
    have h3 : IntKind.i64.wrap ((d.len : Int) - 1) = (((d.to Int).length : Nat) : Int) - 1 := by rw [D.Is.length (α := Int), wrap64 (by omega) (by omega)]
    rw [h3]
    exact l28 (by omega) hp0 (idle _ .none hd) (fun c dm hc hgt hle hm hm' => sends _ _ dm _ (.apply c hc hgt hle) hd hm hm' (by have := (applyT_len T c).1; omega)) _ (Nat.le_refl _)
  · -- 3: the source learns
    have hpos' : 0 < sent.length := by have := of_decide_eq_true hpos; simp only [len_slc] at this; omega
    have hw : IntKind.i64.wrap x = x := wrap64 (by omega) (by omega)
    obtain ⟨t1, t2⟩ := tmod_small hx (by omega : (0 : Int) < (r2.length : Int))
    intro hs
    rw [hw]
    simp only [len_slc]
    have hi : (Int.toNat (Int.tmod x (r2.length : Int))) < sent.length := by omega
    obtain ⟨m1, m2⟩ := row_msg (h := h2) hp.rows hi
    refine ⟨by omega, ⟨t1, t2, rfl⟩, ⟨m1, rfl⟩, hd, ?_⟩
    rw [m2]
    have hst := StepTo.learn (s := (SrcD.mk e s d st ap).src) (t := T) (sent := sent) sent[Int.toNat (Int.tmod x (r2.length : Int))] (List.getElem_mem hi)
    exact sends' _ _ T _ _ hst (D.like_is _ _) (D.like_to _ _) (by have := (learn_len (SrcD.mk e s d st ap).src sent[Int.toNat (Int.tmod x (r2.length : Int))]).2.1; omega)
  · exact idle _ .none hd
  · -- 4: the target answers
    have hpos' : 0 < sent.length := by have := of_decide_eq_true hpos; simp only [len_slc] at this; omega
    have hw : IntKind.i64.wrap x = x := wrap64 (by omega) (by omega)
    obtain ⟨t1, t2⟩ := tmod_small hx (by omega : (0 : Int) < (r2.length : Int))
    intro hs
    rw [hw]
    simp only [len_slc]
    have hi : (Int.toNat (Int.tmod x (r2.length : Int))) < sent.length := by omega
    obtain ⟨m1, m2⟩ := row_msg (h := h2) hp.rows hi
    refine ⟨by omega, ⟨t1, t2, rfl⟩, ⟨m1, rfl⟩, ?_⟩
    rw [m2]
    have hst := StepTo.answer (s := (SrcD.mk e s d st ap).src) (t := T) (sent := sent) sent[Int.toNat (Int.tmod x (r2.length : Int))] (List.getElem_mem hi)
    exact sends _ _ _ _ hst hd (D.like_is _ _) (D.like_to _ _) (by have := (answer_len T sent[Int.toNat (Int.tmod x (r2.length : Int))]).1; omega)
  · exact idle _ .none hd
  · -- 5: the source sends again
    refine ⟨hd, fun hs => ?_⟩
    have hrl' := (resend_len (SrcD.mk e s d st ap).src).1
    have h3 : (SrcD.mk e s d st ap).src.offered = d.to Int := rfl
    rw [h3] at hrl'
    exact sends _ _ _ _ .resend hd (D.like_is _ _) (D.like_to _ _) (by omega)
  · -- 6: a new source
    intro hs
    have hte := hp.inv.tok.e0
    have hte1 := hp.inv.tok.e1
    have hw : IntKind.i64.wrap (T.epoch + 1) = T.epoch + 1 := wrap64 (by omega) (by omega)
    rw [hw]
    refine ⟨fun _ => ⟨by decide, fun _ => ?_, fun _ => idle _ .none hd⟩, fun _ => idle _ .none hd⟩
    exact idle' _ _ .fresh
end
end Go.Proofs.Ytnfkkmdbaknnlaa
end
section
/- Layer 32: CommitSafe. -/
open Go Go.Proofs Sx
namespace Sx
/-- The steps of a play. -/
def PlaySteps (l : D) : Prop := l.sz = 2 ∧ (∀ r, r ∈ l.rows → ∃ k x, r = [.int .u8 k, .int .u8 x] ∧ 0 ≤ x ∧ x ≤ 255) ∨ l.rows = []

theorem PlaySteps.at {l : D} (h : PlaySteps l) {i : Nat} (hi : i < l.len) : (0 ≤ (i : Int) ∧ (i : Int) < (l.len : Int) ∧ l.sz = 2) ∧ l.HasCells (Int.toNat (i : Int)) 0 [.int .u8, .int .u8] ∧ 0 ≤ l.getInt (Int.toNat (i : Int)) 1 ∧ l.getInt (Int.toNat (i : Int)) 1 ≤ 255 := by
  rcases h with ⟨hs, hr⟩ | h0
  · have hi' : i < l.rows.length := hi
    obtain ⟨k, x, he, hx⟩ := hr (l.rows[i]'hi') (List.getElem_mem hi')
    have e : ∀ j, l.cellAt i j = ([.int .u8 k, .int .u8 x] : List D)[j]? := fun j => by
      simp only [D.cellAt, List.getElem?_eq_getElem hi', Option.bind_some]
      rw [he]
    refine ⟨⟨by omega, by omega, hs⟩, ?_, ?_⟩
    · simp only [D.HasCells, D.HasCell, Int.toNat_natCast, e]
      exact ⟨⟨k, rfl⟩, ⟨x, rfl⟩, trivial⟩
    · simp only [D.getInt, Int.toNat_natCast, e]
      exact hx
  · simp [D.len, h0] at hi
end Sx
namespace Go.Proofs.Ytnfkkmdbaknnlaa
section
variable {w : World} {H : HV} {l : D} {i : Int} {S : SrcD} {T : Tgt} {h1 h2 : Hd} {r1 r2 : List (List D)}

theorem releasable_ok {s : Src} (h : SrcOk s) : releasable s = s.applied := by unfold releasable; rw [if_neg (by simp [checkSource_ok h])]

/-- The messages from place n on are no commits of what is not stored. -/
theorem m8 {sent : List Msg} {n : Nat} (hr : SRows Msg r2 sent) (hl : sent.length ≤ 100000) (hm : ∀ q, (hq : q < sent.length) → n ≤ q → sent[q].kind = 10 → sent[q].epoch = T.epoch → sent[q].number ≤ T.stored)
    (hA : Runs Try.prog ⟨w, H⟩ (A8 l (IntKind.i64.wrap (i + 1)) S T h1 h2 r1 r2) (RetS w H (.lb true))) :
    ∀ k : Nat, n ≤ k ∧ k ≤ sent.length → Runs Try.prog ⟨w, H⟩ (M8 l i k S T h1 h2 r1 r2) (RetS w H (.lb true)) := by
  obtain ⟨e, s, d, st, ap⟩ := S
  refine runs_loop (fun k : Nat => M8 l i k ⟨e, s, d, st, ap⟩ T h1 h2 r1 r2) (fun k => n ≤ k ∧ k ≤ sent.length) (fun k => sent.length - k) (fun _ => rfl) fun k hk ih => ?_
  apply goS_sound ctLOk (fun _ => false) [(38, 2), (38, 246), (8, 27)] 400
  rw [m_8]
  refine ⟨fun hlt => fun hs => ?_, fun _ => hA⟩
  have hrl := rows_len hr
  have hlt' : k < sent.length := by have := of_decide_eq_true hlt; simp only [len_slc] at this; omega
  obtain ⟨i1, i2⟩ := is_of (h := h2) (s := 8) rfl hr
  obtain ⟨a, b0, _, _, b3, _, b5, _⟩ := msg_cell i1 (i := k) (by rw [i2]; exact hlt')
  have a0 : (D.slc h2 8 r2).HasCell (Int.toNat (k : Int)) 0 (.int .i64) := a.1
  have a3 : (D.slc h2 8 r2).HasCell (Int.toNat (k : Int)) 3 (.int .i64) := a.2.2.2.1
  have a5 : (D.slc h2 8 r2).HasCell (Int.toNat (k : Int)) 5 (.int .i64) := a.2.2.2.2.2.1
  have hb : (0 ≤ (k : Int) ∧ (k : Int) < ((D.slc h2 8 r2).len : Int) ∧ (D.slc h2 8 r2).sz = 8) := ⟨by omega, by simp only [len_slc]; omega, rfl⟩
  have hsz : (D.slc h2 8 r2).sz = 8 := rfl
  have next : Runs Try.prog ⟨w, H⟩ (M8 l i (IntKind.i64.wrap ((k : Int) + 1)) ⟨e, s, d, st, ap⟩ T h1 h2 r1 r2) (RetS w H (.lb true)) := by
    rw [wrap_succ hlt' (by omega)]
    exact ih (k + 1) (by omega) (by omega)
  refine ⟨fun h10 => ⟨fun he => ?_, fun he => ?_⟩, fun h10 => ?_⟩
  · simp only [holds_need, h10, he, hb, hsz, a0, a3, a5, true_and, and_true]
    refine ⟨fun hgt => ?_, fun _ => next⟩
    exfalso
    have hgt := of_decide_eq_true hgt
    have h10 := of_decide_eq_true h10
    have he := of_decide_eq_true he
    simp only [Int.toNat_natCast] at hgt h10 he
    rw [b3] at hgt; rw [b0] at h10; rw [b5] at he
    simp only [i2] at hgt h10 he
    have := hm k hlt' hk.1 h10 he
    omega
  · simp only [holds_need, h10, he, hb, hsz, a0, a3, a5, true_and, and_true]
    exact next
  · simp only [holds_need, h10, hb, hsz, a0, a3, a5, true_and, and_true]
    exact next

/-- After a step. -/
theorem d8 {j : Nat} {n : Nat} {S' : SrcD} {T' : Tgt} {r1' rows' : List (List D)} {sent ms : List Msg} (hj : j ≤ 60) (hn : n = sent.length) (hp : PlayLeft j S T r2 S' T' r1' rows' sent ms)
    (hA : Runs Try.prog ⟨w, H⟩ (A8 l (IntKind.i64.wrap (i + 1)) S' T' h1 h2 r1' (r2 ++ rows')) (RetS w H (.lb true))) :
    Runs Try.prog ⟨w, H⟩ (D8 l i n S' T' h1 h2 r1' (r2 ++ rows')) (RetS w H (.lb true)) := by
  have hml := hp.pi.inv.ml
  have hM := m8 (n := n) hp.pi.rows (by omega) (fun q hq hge h10 he => by
    rw [List.getElem_append_right (by omega)] at h10 he ⊢
    exact hp.br.cm _ (List.getElem_mem _) h10 he) hA n ⟨Nat.le_refl _, by rw [List.length_append]; omega⟩
  obtain ⟨e, s, d, st, ap⟩ := S'
  have hd : d.Is Int := hp.pi.d
  have hrel : releasable (SrcD.mk e s d st ap).src = ap := releasable_ok hp.pi.inv.sok
  have hap : ap ≤ T'.applied := hp.pi.inv.ap
  have hg : decide (releasable (SrcD.mk e s d st ap).src > T'.applied) = false := by rw [hrel]; exact decide_eq_false (by omega)
  apply goS_sound ctLOk (fun _ => false) [(38, 2), (38, 246), (8, 27)] 400
  rw [d_8]
  intro hs
  refine ⟨fun h => (by rw [hg] at h; cases h), fun _ => ⟨fun he => ?_, fun he => ?_⟩⟩
  · simp only [holds_need, hg, he, hd, true_and]
    refine ⟨fun hgt => ?_, fun _ => hM⟩
    have h1 := of_decide_eq_true hgt
    have h2 : st ≤ T'.stored := hp.pi.inv.st1 (of_decide_eq_true he)
    omega
  · simp only [holds_need, hg, he, hd, true_and]
    exact hM

/-- The statement's loop. -/
theorem a8 (hl : PlaySteps l) (hlen : l.len ≤ 60) : ∀ σ : Nat × SrcD × Tgt × Hd × Hd × List (List D) × List (List D),
    (σ.1 ≤ l.len ∧ ∃ sent, PI σ.1 σ.2.1 σ.2.2.1 σ.2.2.2.2.2.1 σ.2.2.2.2.2.2 sent) →
    Runs Try.prog ⟨w, H⟩ (A8 l σ.1 σ.2.1 σ.2.2.1 σ.2.2.2.1 σ.2.2.2.2.1 σ.2.2.2.2.2.1 σ.2.2.2.2.2.2) (RetS w H (.lb true)) := by
  refine runs_loop (fun σ : Nat × SrcD × Tgt × Hd × Hd × List (List D) × List (List D) => A8 l σ.1 σ.2.1 σ.2.2.1 σ.2.2.2.1 σ.2.2.2.2.1 σ.2.2.2.2.2.1 σ.2.2.2.2.2.2)
    (fun σ => σ.1 ≤ l.len ∧ ∃ sent, PI σ.1 σ.2.1 σ.2.2.1 σ.2.2.2.2.2.1 σ.2.2.2.2.2.2 sent) (fun σ => l.len - σ.1) (fun _ => rfl) ?_
  rintro ⟨i, S, T, h1, h2, r1, r2⟩ ⟨hi, sent, hp⟩ ih
  simp only at hi hp
  obtain ⟨e, s, d, st, ap⟩ := S
  apply goS_sound ctLOk (fun _ => false) [(38, 2), (38, 246), (8, 27)] 400
  rw [a_8]
  refine ⟨fun hlt hs => ?_, fun _ => ret_lbt⟩
  have hlt' : i < l.len := by have := of_decide_eq_true hlt; omega
  obtain ⟨b1, b2, b3, b4⟩ := hl.at hlt'
  refine ⟨b1, b2, ?_⟩
  refine st8 (j := i) (by omega) b3 b4 hp fun S' T' h1' h2' r1' rows' ms hq => ?_
  refine d8 (by omega) ?_ hq ?_
  · rw [len_slc, rows_len hp.rows]
  · rw [wrap_succ hlt' (by omega)]
    exact ih (i + 1, S', T', h1', h2', r1', r2 ++ rows') ⟨by simp only; omega, _, hq.pi⟩ (by simp only; omega)

def spB6 (x : D) : SpecR := .scalar [PlaySteps x] (.lb true)
theorem lawSafe : Law Try.prog 8 (rdD.one.sp spB6) := by
  refine law_in _ (by kernel_rfl) fun H w l hok hp => ?_
  have hl : PlaySteps l := hp _ (List.mem_singleton.2 rfl)
  apply exec_sound ctLOk 300
  rw [show rdD.one.canon l = [.dat l] from rfl, safe_in]
  refine ⟨fun _ => ret_lbt, fun hlen => fun hs => fun hs1 => ⟨fun _ => ?_, fun h => by cases h⟩⟩
  have hlen' : l.len ≤ 60 := by have := of_decide_eq_false hlen; omega
  refine lbIn_to 0 11 ⟨⟨8, none, none, [Item.inLoop (cAt Try.prog 8 [1, 1, 1, 0, 1, 0, 0]), Item.inBlock 0, Item.code (cAt Try.prog 8 [1, 1, 1, 1])], mkJ 0 [(0, .dat l), (3, .ptr 0 0), (4, .int .i64 0)] 0 97⟩, [],
    [(0, .cells 67 (pcs ⟨1, 2, (hs 0 0).like ([] : List Int), 3, 3⟩ ⟨1, 2, 3, 3⟩ .nils .nils (.lb true)))]⟩ (by kernel_rfl) ?_
  refine vecIn2_to 5 3 1 (some 0) 9 6 53 8 (some 0) 10 (A8 l 0 ⟨1, 2, (hs 0 0).like ([] : List Int), 3, 3⟩ ⟨1, 2, 3, 3⟩ none none [] []) (by kernel_rfl) ?_
  exact a8 hl hlen' (0, ⟨1, 2, (hs 0 0).like ([] : List Int), 3, 3⟩, ⟨1, 2, 3, 3⟩, none, none, [], []) ⟨Nat.zero_le _, [], ⟨by rw [src_like]; exact inv_begin, rows_nil, D.like_is _ _, Nat.le_refl _⟩⟩
end
end Go.Proofs.Ytnfkkmdbaknnlaa
end
section
/- Layer 32: how the steps of a play read. -/
open Go
namespace Sx
theorem sh_steps {l : D} (h : TS.Sh (.slc (.st [.int .u8, .int .u8])) [l]) : PlaySteps l ∧ l.IsSlc := by
  simp only [TS.Sh] at h
  obtain ⟨a, s, rows, h1, h2, h3, h4⟩ := h
  simp only [List.cons.injEq, and_true] at h1
  subst h1
  refine ⟨?_, ⟨_, _, _, rfl⟩⟩
  rcases h2 with h2 | h2
  · exact .inr h2
  · left
    refine ⟨by simpa [D.sz, TS.sz, TS.szL] using h2, fun r hr => ?_⟩
    have := h4 r hr
    simp only [TS.ShL, TS.Sh] at this
    obtain ⟨_, _, rfl, ⟨k, rfl, _⟩, _, _, rfl, ⟨x, rfl, w⟩, rfl⟩ := this
    have b := bounds_u8 w
    exact ⟨k, x, rfl, b.1, b.2⟩
end Sx
end
section
/- Layer 32: the states at which the walk of a step rests, within the statement of number 10. -/
open Go Go.Proofs Sx
namespace Go.Proofs.Ytnfkkmdbaknnlaa
/-- The statement's frame, while it waits for a step. -/
noncomputable def fr10 (l : D) (i : Int) (K : Nat) : SFrm := ⟨10, some (opsAt Try.prog 10 [1, 1, 1, 0, 1, 0, 0, 1, 0, 0], [6]), some 38, [Item.inBlock 1, Item.code (cAt Try.prog 10 [1, 1, 1, 0, 1, 0, 0, 1, 1]), Item.inLoop (cAt Try.prog 10 [1, 1, 1, 0, 1, 0, 0]), Item.inBlock 0, Item.code (cAt Try.prog 10 [1, 1, 1, 1])],
  mkJ 0 [(0, .dat l), (3, .ptr K 0), (4, .int .i64 i)] 0 155⟩
noncomputable def E10 (l : D) (i : Int) (S : SrcD) (T : Tgt) (k x : Int) (h1 h2 : Hd) (r1 r2 : List (List D)) : Conf :=
  ⟨⟨38, none, none, [Item.code (cAt Try.prog 38 [0]), Item.code (cAt Try.prog 38 [1])], mkJ 1 [(0, .agg (pcs S T (.vec 0) (.vec 1) (.lb true))), (1, .agg [.int .u8 k, .int .u8 x])] 0 252⟩,
   [fr10 l i 2], [(0, .arr 3 (.slc h1 1 r1)), (1, .arr 53 (.slc h2 8 r2)), (2, .cells 67 (pcs S T (.vec 0) (.vec 1) (.lb true)))]⟩
noncomputable def L110 (l : D) (i : Int) (S : SrcD) (T : Tgt) (q : Int) (h1 h2 : Hd) (r1 r2 : List (List D)) : Conf :=
  ⟨⟨38, none, none, [Item.inLoop (cAt Try.prog 38 [1, 1, 0, 1, 0, 1, 1, 1, 0, 1, 0, 0]), Item.inBlock 1, Item.inBlock 0, Item.code (cAt Try.prog 38 [1, 1, 1])],
    mkJ 1 [(2, .ptr 0 0), (4, .ptr 1 0), (5, .nils), (10, .int .i64 q)] 0 252⟩, [fr10 l i 2],
   [(0, .cells 67 (pcs S T (.vec 3) (.vec 4) (.lb true))), (1, zpl), (2, .cells 67 (pcs S T (.vec 3) (.vec 4) (.lb true))), (3, .arr 3 (.slc h1 1 r1)), (4, .arr 53 (.slc h2 8 r2))]⟩
noncomputable def L210 (l : D) (i : Int) (S : SrcD) (T : Tgt) (k x q : Int) (h1 h2 : Hd) (r1 r2 : List (List D)) : Conf :=
  ⟨⟨38, none, none, [Item.inLoop (cAt Try.prog 38 [1, 1, 0, 1, 0, 1, 1, 1, 1, 1, 0, 1, 0, 0]), Item.inBlock 3, Item.inBlock 0, Item.code (cAt Try.prog 38 [1, 1, 1])],
    mkJ 1 [(2, .ptr 0 0), (3, .ptr 1 0), (4, .ptr 2 0), (5, .nils), (15, .int .i64 q)] 0 252⟩, [fr10 l i 3],
   [(0, .cells 67 (pcs S T (.vec 4) (.vec 5) (.lb true))), (1, .cells 71 [.int .u8 k, .int .u8 x]), (2, zpl), (3, .cells 67 (pcs S T (.vec 4) (.vec 5) (.lb true))), (4, .arr 3 (.slc h1 1 r1)), (5, .arr 53 (.slc h2 8 r2))]⟩
noncomputable def C10 (o : Nat) (X : SV) (l : D) (i : Int) (S0 : SrcD) (T0 : Tgt) (S : SrcD) (T : Tgt) (h1 h2 : Hd) (r1 r2 : List (List D)) : Conf :=
  ⟨⟨38, none, none, [Item.code (cAt Try.prog 38 [1, 1, 1, 0]), Item.code (cAt Try.prog 38 [1, 1, 1, 1])], mkJ 1 [(2, .ptr 0 0), (4, .ptr 1 0), (5, X)] 0 252⟩, [fr10 l i 2],
   [(0, .cells 67 (pcs S T (.vec 3) (.vec 4) (.lb true))), (1, zpl), (2, .cells 67 (pcs S0 T0 (.vec o) (.vec 4) (.lb true))), (3, .arr 3 (.slc h1 1 r1)), (4, .arr 53 (.slc h2 8 r2))]⟩
end Go.Proofs.Ytnfkkmdbaknnlaa
end
section
/- Layer 32: CommitCompletes, behind its first loop. -/
open Go Go.Proofs Sx
namespace Go.Proofs.Ytnfkkmdbaknnlaa
noncomputable def B10 (S : SrcD) (T : Tgt) (h1 h2 : Hd) (r1 r2 : List (List D)) : Conf :=
  ⟨⟨10, none, none, [Item.code (cAt Try.prog 10 [1, 1, 1, 1, 0, 0]), Item.code (cAt Try.prog 10 [1, 1, 1, 1, 0, 1]), Item.code (cAt Try.prog 10 [1, 1, 1, 1, 1])], mkJ 0 [(3, .ptr 0 0)] 0 155⟩, [],
   [(0, .cells 67 (pcs S T (.vec 1) (.vec 2) (.lb true))), (1, .arr 3 (.slc h1 1 r1)), (2, .arr 53 (.slc h2 8 r2))]⟩
end Go.Proofs.Ytnfkkmdbaknnlaa
namespace Go.Proofs.Ytnfkkmdbaknnlaa
/-- What lies in memory during the rounds. -/
noncomputable def mem10 (S0 : SrcD) (T0 : Tgt) (S : SrcD) (T : Tgt) (h1 h2 : Hd) (r1 r2 : List (List D)) : Mem :=
  [(0, .cells 67 (pcs S0 T0 (.vec 3) (.vec 4) (.lb true))), (1, .cells 24 [.int .i64 S.e, .int .i64 S.s, .dat S.d, .int .i64 S.st, .int .i64 S.ap]),
   (2, .cells 26 [.int .i64 T.epoch, .int .i64 T.site, .int .i64 T.stored, .int .i64 T.applied]), (3, .arr 3 (.slc h1 1 r1)), (4, .arr 53 (.slc h2 8 r2))]
noncomputable def N10 (n : Int) (S0 : SrcD) (T0 : Tgt) (S : SrcD) (T : Tgt) (h1 h2 : Hd) (r1 r2 : List (List D)) : Conf :=
  mkL 10 [Item.inLoop (cAt Try.prog 10 [1, 1, 1, 1, 1, 1, 1, 1, 0, 1, 0, 0]), Item.inBlock 2, Item.code (cAt Try.prog 10 [1, 1, 1, 1, 1, 1, 1, 1, 1])] 155
    [(3, .ptr 0 0), (5, .ptr 1 0), (6, .ptr 2 0), (10, .int .i64 n)] (mem10 S0 T0 S T h1 h2 r1 r2)
end Go.Proofs.Ytnfkkmdbaknnlaa
namespace Go.Proofs.Ytnfkkmdbaknnlaa
noncomputable def I10 (n i : Int) (dm : D) (S0 : SrcD) (T0 : Tgt) (S : SrcD) (T : Tgt) (h1 h2 : Hd) (r1 r2 : List (List D)) : Conf :=
  mkL 10 [Item.inLoop (cAt Try.prog 10 [1, 1, 1, 1, 1, 1, 1, 1, 0, 1, 0, 0, 1, 0, 0, 1, 1, 0, 0]), Item.inBlock 4, Item.inBlock 3, Item.code (cAt Try.prog 10 [1, 1, 1, 1, 1, 1, 1, 1, 0, 1, 0, 0, 1, 1]),
      Item.inLoop (cAt Try.prog 10 [1, 1, 1, 1, 1, 1, 1, 1, 0, 1, 0, 0]), Item.inBlock 2, Item.code (cAt Try.prog 10 [1, 1, 1, 1, 1, 1, 1, 1, 1])] 155
    [(3, .ptr 0 0), (5, .ptr 1 0), (6, .ptr 2 0), (10, .int .i64 n), (11, .dat dm), (12, .int .i64 i)] (mem10 S0 T0 S T h1 h2 r1 r2)
end Go.Proofs.Ytnfkkmdbaknnlaa
namespace Go.Proofs.Ytnfkkmdbaknnlaa
noncomputable def K10 (n i k : Int) (dm da : D) (S0 : SrcD) (T0 : Tgt) (S : SrcD) (T : Tgt) (h1 h2 : Hd) (r1 r2 : List (List D)) : Conf :=
  mkL 10 [Item.inLoop (cAt Try.prog 10 [1, 1, 1, 1, 1, 1, 1, 1, 0, 1, 0, 0, 1, 0, 0, 1, 1, 0, 0, 1, 0, 0, 1, 1, 1, 0, 0]), Item.inBlock 6, Item.inBlock 5, Item.code (cAt Try.prog 10 [1, 1, 1, 1, 1, 1, 1, 1, 0, 1, 0, 0, 1, 0, 0, 1, 1, 0, 0, 1, 1]), Item.inLoop (cAt Try.prog 10 [1, 1, 1, 1, 1, 1, 1, 1, 0, 1, 0, 0, 1, 0, 0, 1, 1, 0, 0]), Item.inBlock 4, Item.inBlock 3, Item.code (cAt Try.prog 10 [1, 1, 1, 1, 1, 1, 1, 1, 0, 1, 0, 0, 1, 1]), Item.inLoop (cAt Try.prog 10 [1, 1, 1, 1, 1, 1, 1, 1, 0, 1, 0, 0]), Item.inBlock 2, Item.code (cAt Try.prog 10 [1, 1, 1, 1, 1, 1, 1, 1, 1])] 155
    [(3, .ptr 0 0), (5, .ptr 1 0), (6, .ptr 2 0), (10, .int .i64 n), (11, .dat dm), (12, .int .i64 i), (14, .dat da), (15, .int .i64 k)] (mem10 S0 T0 S T h1 h2 r1 r2)
noncomputable def J10 (n i k j : Int) (dm da dx : D) (S0 : SrcD) (T0 : Tgt) (S : SrcD) (T : Tgt) (h1 h2 : Hd) (r1 r2 : List (List D)) : Conf :=
  mkL 10 [Item.inLoop (cAt Try.prog 10 [1, 1, 1, 1, 1, 1, 1, 1, 0, 1, 0, 0, 1, 0, 0, 1, 1, 0, 0, 1, 0, 0, 1, 1, 1, 0, 0, 1, 0, 0, 1, 1, 1, 0, 0]), Item.inBlock 8, Item.inBlock 7, Item.code (cAt Try.prog 10 [1, 1, 1, 1, 1, 1, 1, 1, 0, 1, 0, 0, 1, 0, 0, 1, 1, 0, 0, 1, 0, 0, 1, 1, 1, 0, 0, 1, 1]), Item.inLoop (cAt Try.prog 10 [1, 1, 1, 1, 1, 1, 1, 1, 0, 1, 0, 0, 1, 0, 0, 1, 1, 0, 0, 1, 0, 0, 1, 1, 1, 0, 0]), Item.inBlock 6, Item.inBlock 5, Item.code (cAt Try.prog 10 [1, 1, 1, 1, 1, 1, 1, 1, 0, 1, 0, 0, 1, 0, 0, 1, 1, 0, 0, 1, 1]), Item.inLoop (cAt Try.prog 10 [1, 1, 1, 1, 1, 1, 1, 1, 0, 1, 0, 0, 1, 0, 0, 1, 1, 0, 0]), Item.inBlock 4, Item.inBlock 3, Item.code (cAt Try.prog 10 [1, 1, 1, 1, 1, 1, 1, 1, 0, 1, 0, 0, 1, 1]), Item.inLoop (cAt Try.prog 10 [1, 1, 1, 1, 1, 1, 1, 1, 0, 1, 0, 0]), Item.inBlock 2, Item.code (cAt Try.prog 10 [1, 1, 1, 1, 1, 1, 1, 1, 1])] 155
    [(3, .ptr 0 0), (5, .ptr 1 0), (6, .ptr 2 0), (10, .int .i64 n), (11, .dat dm), (12, .int .i64 i), (14, .dat da), (15, .int .i64 k), (17, .dat dx), (18, .int .i64 j)] (mem10 S0 T0 S T h1 h2 r1 r2)
noncomputable def H10 (n i k j h : Int) (dm da dx dl : D) (S0 : SrcD) (T0 : Tgt) (S : SrcD) (T : Tgt) (h1 h2 : Hd) (r1 r2 : List (List D)) : Conf :=
  mkL 10 [Item.inLoop (cAt Try.prog 10 [1, 1, 1, 1, 1, 1, 1, 1, 0, 1, 0, 0, 1, 0, 0, 1, 1, 0, 0, 1, 0, 0, 1, 1, 1, 0, 0, 1, 0, 0, 1, 1, 1, 0, 0, 1, 0, 0, 1, 1, 1, 0, 0]), Item.inBlock 10, Item.inBlock 9, Item.code (cAt Try.prog 10 [1, 1, 1, 1, 1, 1, 1, 1, 0, 1, 0, 0, 1, 0, 0, 1, 1, 0, 0, 1, 0, 0, 1, 1, 1, 0, 0, 1, 0, 0, 1, 1, 1, 0, 0, 1, 1]), Item.inLoop (cAt Try.prog 10 [1, 1, 1, 1, 1, 1, 1, 1, 0, 1, 0, 0, 1, 0, 0, 1, 1, 0, 0, 1, 0, 0, 1, 1, 1, 0, 0, 1, 0, 0, 1, 1, 1, 0, 0]), Item.inBlock 8, Item.inBlock 7, Item.code (cAt Try.prog 10 [1, 1, 1, 1, 1, 1, 1, 1, 0, 1, 0, 0, 1, 0, 0, 1, 1, 0, 0, 1, 0, 0, 1, 1, 1, 0, 0, 1, 1]), Item.inLoop (cAt Try.prog 10 [1, 1, 1, 1, 1, 1, 1, 1, 0, 1, 0, 0, 1, 0, 0, 1, 1, 0, 0, 1, 0, 0, 1, 1, 1, 0, 0]), Item.inBlock 6, Item.inBlock 5, Item.code (cAt Try.prog 10 [1, 1, 1, 1, 1, 1, 1, 1, 0, 1, 0, 0, 1, 0, 0, 1, 1, 0, 0, 1, 1]), Item.inLoop (cAt Try.prog 10 [1, 1, 1, 1, 1, 1, 1, 1, 0, 1, 0, 0, 1, 0, 0, 1, 1, 0, 0]), Item.inBlock 4, Item.inBlock 3, Item.code (cAt Try.prog 10 [1, 1, 1, 1, 1, 1, 1, 1, 0, 1, 0, 0, 1, 1]), Item.inLoop (cAt Try.prog 10 [1, 1, 1, 1, 1, 1, 1, 1, 0, 1, 0, 0]), Item.inBlock 2, Item.code (cAt Try.prog 10 [1, 1, 1, 1, 1, 1, 1, 1, 1])] 155
    [(3, .ptr 0 0), (5, .ptr 1 0), (6, .ptr 2 0), (10, .int .i64 n), (11, .dat dm), (12, .int .i64 i), (14, .dat da), (15, .int .i64 k), (17, .dat dx), (18, .int .i64 j), (20, .dat dl), (21, .int .i64 h)] (mem10 S0 T0 S T h1 h2 r1 r2)
end Go.Proofs.Ytnfkkmdbaknnlaa
end
section
/- Layer 32: CommitCompletes, walked. -/
open Go Go.Proofs Sx
namespace Go.Proofs.Ytnfkkmdbaknnlaa
set_option maxRecDepth 100000
set_option maxHeartbeats 0
section
variable (l : D) (e s st ap te ts tst tap i n k : Int) (d : D) (h1 h2 : Hd) (r1 r2 : List (List D))
theorem a_10 : goS Try.prog ctL (fun _ => false) [(38, 2), (38, 246), (10, 39)] 400 (unroll (A10 l i ⟨e, s, d, st, ap⟩ ⟨te, ts, tst, tap⟩ h1 h2 r1 r2)) =
  Tree.br (decide (i < (↑(D.len l) : Int)))
    (Tree.all fun hs =>
      Tree.need (0 ≤ i ∧ i < (↑(D.len l) : Int) ∧ D.sz l = 2)
        (Tree.need (D.HasCells l (Int.toNat i) 0 [FT.int IntKind.u8, FT.int IntKind.u8])
          (Tree.leaf
            (Conf.mk
              (SFrm.mk 38 none none [Item.code (cAt Try.prog 38 [0]), Item.code (cAt Try.prog 38 [1])]
                (mkJ 1
                  [(0,
                      SV.agg
                        [SV.int IntKind.i64 e, SV.int IntKind.i64 s, SV.dat d, SV.int IntKind.i64 st,
                          SV.int IntKind.i64 ap, SV.int IntKind.i64 te, SV.int IntKind.i64 ts, SV.int IntKind.i64 tst,
                          SV.int IntKind.i64 tap, SV.vec 0, SV.vec 1, SV.lb true]),
                    (1,
                      SV.agg
                        [SV.int IntKind.u8 (D.getInt l (Int.toNat i) 0), SV.int IntKind.u8 (D.getInt l (Int.toNat i) 1)])]
                  0 252))
              [SFrm.mk 10 (some (opsAt Try.prog 10 [1, 1, 1, 0, 1, 0, 0, 1, 0, 0], [6])) (some 38)
                  [Item.inBlock 1, Item.code (cAt Try.prog 10 [1, 1, 1, 0, 1, 0, 0, 1, 1]),
                    Item.inLoop (cAt Try.prog 10 [1, 1, 1, 0, 1, 0, 0]), Item.inBlock 0,
                    Item.code (cAt Try.prog 10 [1, 1, 1, 1])]
                  (mkJ 0 [(0, SV.dat l), (3, SV.ptr 2 0), (4, SV.int IntKind.i64 i)] 0 155)]
              [(0, OBlk.arr 3 (D.slc h1 1 r1)), (1, OBlk.arr 53 (D.slc h2 8 r2)),
                (2,
                  OBlk.cells 67
                    [SV.int IntKind.i64 e, SV.int IntKind.i64 s, SV.dat d, SV.int IntKind.i64 st, SV.int IntKind.i64 ap,
                      SV.int IntKind.i64 te, SV.int IntKind.i64 ts, SV.int IntKind.i64 tst, SV.int IntKind.i64 tap,
                      SV.vec 0, SV.vec 1, SV.lb true])]))))
    (Tree.leaf
      (Conf.mk
        (SFrm.mk 10 none none
          [Item.code (cAt Try.prog 10 [1, 1, 1, 1, 0, 0]), Item.code (cAt Try.prog 10 [1, 1, 1, 1, 0, 1]),
            Item.code (cAt Try.prog 10 [1, 1, 1, 1, 1])]
          (mkJ 0 [(3, SV.ptr 0 0)] 0 155))
        []
        [(0,
            OBlk.cells 67
              [SV.int IntKind.i64 e, SV.int IntKind.i64 s, SV.dat d, SV.int IntKind.i64 st, SV.int IntKind.i64 ap,
                SV.int IntKind.i64 te, SV.int IntKind.i64 ts, SV.int IntKind.i64 tst, SV.int IntKind.i64 tap, SV.vec 1,
                SV.vec 2, SV.lb true]),
          (1, OBlk.arr 3 (D.slc h1 1 r1)), (2, OBlk.arr 53 (D.slc h2 8 r2))])) := by kernel_rfl

theorem completes_in : exec Try.prog ctL 300 (entry Try.prog 10 [.dat l]) =
  Tree.br (decide ((↑(D.len l) : Int) > 60)) (Tree.ret (SV.lb true))
    (Tree.all fun hs =>
      Tree.all fun hs_1 =>
        Tree.br true
          (Tree.leaf
            (Conf.mk
              (SFrm.mk 10 none none
                [Item.inLoop (cAt Try.prog 10 [1, 1, 1, 0, 1, 0, 0]), Item.inBlock 0,
                  Item.code (cAt Try.prog 10 [1, 1, 1, 1])]
                (mkJ 0 [(0, SV.dat l), (3, SV.ptr 0 0), (4, SV.int IntKind.i64 0)] 0 155))
              []
              [(0,
                  OBlk.cells 67
                    [SV.int IntKind.i64 1, SV.int IntKind.i64 2, SV.dat (D.like (hs 0 0) ([] : List Int)), SV.int IntKind.i64 3,
                      SV.int IntKind.i64 3, SV.int IntKind.i64 1, SV.int IntKind.i64 2, SV.int IntKind.i64 3,
                      SV.int IntKind.i64 3, SV.nils, SV.nils, SV.bool true])]))
          (Tree.leaf
            (Conf.mk
              (SFrm.mk 10 none none
                [Item.inLoop (cAt Try.prog 10 [1, 1, 1, 0, 1, 0, 0]), Item.inBlock 0,
                  Item.code (cAt Try.prog 10 [1, 1, 1, 1])]
                (mkJ 0 [(0, SV.dat l), (3, SV.ptr 0 0), (4, SV.int IntKind.i64 0)] 0 155))
              []
              [(0,
                  OBlk.cells 67
                    [SV.int IntKind.i64 1, SV.int IntKind.i64 2, SV.dat (D.like (hs 0 0) ([] : List Int)), SV.int IntKind.i64 3,
                      SV.int IntKind.i64 3, SV.int IntKind.i64 1, SV.int IntKind.i64 2, SV.int IntKind.i64 3,
                      SV.int IntKind.i64 3, SV.nils, SV.nils, SV.lb false])]))) := by kernel_rfl

theorem b_10 : goS Try.prog ctL (fun _ => false) [(38, 2), (38, 246)] 400 (B10 ⟨e, s, d, st, ap⟩ ⟨te, ts, tst, tap⟩ h1 h2 r1 r2) =
  Tree.br (e != te) (Tree.ret (SV.lb true))
    (Tree.all fun hs =>
      Tree.br (decide (tst > tap))
        (Tree.all fun hs =>
          Tree.br (Prod.snd (Prod.snd (applyT (Tgt.mk te ts tst tap) tst)) != 0) (Tree.ret (SV.lb false))
            (Tree.leaf
              (Conf.mk
                (SFrm.mk 10 none none
                  [Item.inLoop (cAt Try.prog 10 [1, 1, 1, 1, 1, 1, 1, 1, 0, 1, 0, 0]), Item.inBlock 2,
                    Item.code (cAt Try.prog 10 [1, 1, 1, 1, 1, 1, 1, 1, 1])]
                  (mkJ 0 [(3, SV.ptr 0 0), (5, SV.ptr 1 0), (6, SV.ptr 2 0), (10, SV.int IntKind.i64 0)] 0 155))
                []
                [(0,
                    OBlk.cells 67
                      [SV.int IntKind.i64 e, SV.int IntKind.i64 s, SV.dat d, SV.int IntKind.i64 st, SV.int IntKind.i64 ap,
                        SV.int IntKind.i64 te, SV.int IntKind.i64 ts, SV.int IntKind.i64 tst, SV.int IntKind.i64 tap,
                        SV.vec 3, SV.vec 4, SV.lb true]),
                  (1,
                    OBlk.cells 24
                      [SV.int IntKind.i64 e, SV.int IntKind.i64 s, SV.dat d, SV.int IntKind.i64 st,
                        SV.int IntKind.i64 ap]),
                  (2,
                    OBlk.cells 26
                      [SV.int IntKind.i64 (Tgt.epoch (Prod.fst (applyT (Tgt.mk te ts tst tap) tst))),
                        SV.int IntKind.i64 (Tgt.site (Prod.fst (applyT (Tgt.mk te ts tst tap) tst))),
                        SV.int IntKind.i64 (Tgt.stored (Prod.fst (applyT (Tgt.mk te ts tst tap) tst))),
                        SV.int IntKind.i64 (Tgt.applied (Prod.fst (applyT (Tgt.mk te ts tst tap) tst)))]),
                  (3, OBlk.arr 3 (D.slc h1 1 r1)), (4, OBlk.arr 53 (D.slc h2 8 r2))])))
        (Tree.leaf
          (Conf.mk
            (SFrm.mk 10 none none
              [Item.inLoop (cAt Try.prog 10 [1, 1, 1, 1, 1, 1, 1, 1, 0, 1, 0, 0]), Item.inBlock 2,
                Item.code (cAt Try.prog 10 [1, 1, 1, 1, 1, 1, 1, 1, 1])]
              (mkJ 0 [(3, SV.ptr 0 0), (5, SV.ptr 1 0), (6, SV.ptr 2 0), (10, SV.int IntKind.i64 0)] 0 155))
            []
            [(0,
                OBlk.cells 67
                  [SV.int IntKind.i64 e, SV.int IntKind.i64 s, SV.dat d, SV.int IntKind.i64 st, SV.int IntKind.i64 ap,
                    SV.int IntKind.i64 te, SV.int IntKind.i64 ts, SV.int IntKind.i64 tst, SV.int IntKind.i64 tap,
                    SV.vec 3, SV.vec 4, SV.lb true]),
              (1,
                OBlk.cells 24
                  [SV.int IntKind.i64 e, SV.int IntKind.i64 s, SV.dat d, SV.int IntKind.i64 st, SV.int IntKind.i64 ap]),
              (2,
                OBlk.cells 26
                  [SV.int IntKind.i64 te, SV.int IntKind.i64 ts, SV.int IntKind.i64 tst, SV.int IntKind.i64 tap]),
              (3, OBlk.arr 3 (D.slc h1 1 r1)), (4, OBlk.arr 53 (D.slc h2 8 r2))]))) := by kernel_rfl

end
end Go.Proofs.Ytnfkkmdbaknnlaa
end
section
/- Layer 32: CommitCompletes, the rounds. -/
open Go Go.Proofs Sx
namespace Go.Proofs.Ytnfkkmdbaknnlaa
set_option maxRecDepth 100000
set_option maxHeartbeats 0
section
variable (e s st ap te ts tst tap e0 s0 st0 ap0 te0 ts0 tst0 tap0 n i k j h : Int) (d d0 dm da dx dl : D) (h1 h2 : Hd) (r1 r2 : List (List D))
theorem n_10 : goS Try.prog ctL (fun _ => false) [(38, 2), (38, 246)] 400 (unroll (N10 n ⟨e0, s0, d0, st0, ap0⟩ ⟨te0, ts0, tst0, tap0⟩ ⟨e, s, d, st, ap⟩ ⟨te, ts, tst, tap⟩ h1 h2 r1 r2)) =
  Tree.br (decide (n < 2))
    (Tree.need (D.Is Int d)
      (Tree.all fun hs =>
        Tree.leaf
          (Conf.mk
            (SFrm.mk 10 none none
              [Item.inLoop (cAt Try.prog 10 [1, 1, 1, 1, 1, 1, 1, 1, 0, 1, 0, 0, 1, 0, 0, 1, 1, 0, 0]), Item.inBlock 4,
                Item.inBlock 3, Item.code (cAt Try.prog 10 [1, 1, 1, 1, 1, 1, 1, 1, 0, 1, 0, 0, 1, 1]),
                Item.inLoop (cAt Try.prog 10 [1, 1, 1, 1, 1, 1, 1, 1, 0, 1, 0, 0]), Item.inBlock 2,
                Item.code (cAt Try.prog 10 [1, 1, 1, 1, 1, 1, 1, 1, 1])]
              (mkJ 0
                [(3, SV.ptr 0 0), (5, SV.ptr 1 0), (6, SV.ptr 2 0), (10, SV.int IntKind.i64 n),
                  (11, SV.dat (D.like (hs 0 0) (resend (SrcD.src (SrcD.mk e s d st ap))))), (12, SV.int IntKind.i64 0)]
                0 155))
            []
            [(0,
                OBlk.cells 67
                  [SV.int IntKind.i64 e0, SV.int IntKind.i64 s0, SV.dat d0, SV.int IntKind.i64 st0,
                    SV.int IntKind.i64 ap0, SV.int IntKind.i64 te0, SV.int IntKind.i64 ts0, SV.int IntKind.i64 tst0,
                    SV.int IntKind.i64 tap0, SV.vec 3, SV.vec 4, SV.lb true]),
              (1,
                OBlk.cells 24
                  [SV.int IntKind.i64 e, SV.int IntKind.i64 s, SV.dat d, SV.int IntKind.i64 st, SV.int IntKind.i64 ap]),
              (2,
                OBlk.cells 26
                  [SV.int IntKind.i64 te, SV.int IntKind.i64 ts, SV.int IntKind.i64 tst, SV.int IntKind.i64 tap]),
              (3, OBlk.arr 3 (D.slc h1 1 r1)), (4, OBlk.arr 53 (D.slc h2 8 r2))])))
    (Tree.all fun hs =>
      Tree.br (decide (releasable (SrcD.src (SrcD.mk e s d st ap)) = tap))
        (Tree.need (D.Is Int d)
          (Tree.need (decide (releasable (SrcD.src (SrcD.mk e s d st ap)) = tap) = true)
            (Tree.need (decide (releasable (SrcD.src (SrcD.mk e s d st ap)) = tap) = true)
              (Tree.need (decide (releasable (SrcD.src (SrcD.mk e s d st ap)) = tap) = true)
                (Tree.need (decide (releasable (SrcD.src (SrcD.mk e s d st ap)) = tap) = true)
                  (Tree.need (decide (releasable (SrcD.src (SrcD.mk e s d st ap)) = tap) = true)
                    (Tree.need (decide (releasable (SrcD.src (SrcD.mk e s d st ap)) = tap) = true)
                      (Tree.need (decide (releasable (SrcD.src (SrcD.mk e s d st ap)) = tap) = true)
                        (Tree.ret (SV.lb true))))))))))
        (Tree.need (D.Is Int d)
          (Tree.need (decide (releasable (SrcD.src (SrcD.mk e s d st ap)) = tap) = false)
            (Tree.need (decide (releasable (SrcD.src (SrcD.mk e s d st ap)) = tap) = false)
              (Tree.need (decide (releasable (SrcD.src (SrcD.mk e s d st ap)) = tap) = false)
                (Tree.need (decide (releasable (SrcD.src (SrcD.mk e s d st ap)) = tap) = false)
                  (Tree.need (decide (releasable (SrcD.src (SrcD.mk e s d st ap)) = tap) = false)
                    (Tree.need (decide (releasable (SrcD.src (SrcD.mk e s d st ap)) = tap) = false)
                      (Tree.need (decide (releasable (SrcD.src (SrcD.mk e s d st ap)) = tap) = false)
                        (Tree.ret (SV.bool (decide (tap ≤ ap0))))))))))))) := by kernel_rfl

theorem i_10 : goS Try.prog ctL (fun _ => false) [(38, 2), (38, 246)] 400 (unroll (I10 n i dm ⟨e0, s0, d0, st0, ap0⟩ ⟨te0, ts0, tst0, tap0⟩ ⟨e, s, d, st, ap⟩ ⟨te, ts, tst, tap⟩ h1 h2 r1 r2)) =
  Tree.br (decide (i < (↑(D.len dm) : Int)))
    (Tree.all fun hs =>
      Tree.need (0 ≤ i ∧ i < (↑(D.len dm) : Int) ∧ D.sz dm = 8)
        (Tree.need
          (D.HasCells dm (Int.toNat i) 0
            [FT.int IntKind.i64, FT.int IntKind.i64, FT.int IntKind.i64, FT.int IntKind.i64, FT.int IntKind.i64,
              FT.int IntKind.i64, FT.slc, FT.slc])
          (Tree.leaf
            (Conf.mk
              (SFrm.mk 10 none none
                [Item.inLoop
                    (cAt Try.prog 10 [1, 1, 1, 1, 1, 1, 1, 1, 0, 1, 0, 0, 1, 0, 0, 1, 1, 0, 0, 1, 0, 0, 1, 1, 1, 0, 0]),
                  Item.inBlock 6, Item.inBlock 5,
                  Item.code (cAt Try.prog 10 [1, 1, 1, 1, 1, 1, 1, 1, 0, 1, 0, 0, 1, 0, 0, 1, 1, 0, 0, 1, 1]),
                  Item.inLoop (cAt Try.prog 10 [1, 1, 1, 1, 1, 1, 1, 1, 0, 1, 0, 0, 1, 0, 0, 1, 1, 0, 0]), Item.inBlock 4,
                  Item.inBlock 3, Item.code (cAt Try.prog 10 [1, 1, 1, 1, 1, 1, 1, 1, 0, 1, 0, 0, 1, 1]),
                  Item.inLoop (cAt Try.prog 10 [1, 1, 1, 1, 1, 1, 1, 1, 0, 1, 0, 0]), Item.inBlock 2,
                  Item.code (cAt Try.prog 10 [1, 1, 1, 1, 1, 1, 1, 1, 1])]
                (mkJ 0
                  [(3, SV.ptr 0 0), (5, SV.ptr 1 0), (6, SV.ptr 2 0), (10, SV.int IntKind.i64 n), (11, SV.dat dm),
                    (12, SV.int IntKind.i64 i),
                    (14,
                      SV.dat
                        (D.like (hs 5 0)
                          (Prod.snd
                            (answer (Tgt.mk te ts tst tap)
                              (MsgD.msg
                                (MsgD.mk (D.getInt dm (Int.toNat i) 0) (D.getInt dm (Int.toNat i) 1)
                                  (D.getInt dm (Int.toNat i) 2) (D.getInt dm (Int.toNat i) 3)
                                  (D.getInt dm (Int.toNat i) 4) (D.getInt dm (Int.toNat i) 5) (D.cell dm (Int.toNat i) 6)
                                  (D.cell dm (Int.toNat i) 7))))))),
                    (15, SV.int IntKind.i64 0)]
                  0 155))
              []
              [(0,
                  OBlk.cells 67
                    [SV.int IntKind.i64 e0, SV.int IntKind.i64 s0, SV.dat d0, SV.int IntKind.i64 st0,
                      SV.int IntKind.i64 ap0, SV.int IntKind.i64 te0, SV.int IntKind.i64 ts0, SV.int IntKind.i64 tst0,
                      SV.int IntKind.i64 tap0, SV.vec 3, SV.vec 4, SV.lb true]),
                (1,
                  OBlk.cells 24
                    [SV.int IntKind.i64 e, SV.int IntKind.i64 s, SV.dat d, SV.int IntKind.i64 st, SV.int IntKind.i64 ap]),
                (2,
                  OBlk.cells 26
                    [SV.int IntKind.i64
                        (Tgt.epoch
                          (Prod.fst
                            (answer (Tgt.mk te ts tst tap)
                              (MsgD.msg
                                (MsgD.mk (D.getInt dm (Int.toNat i) 0) (D.getInt dm (Int.toNat i) 1)
                                  (D.getInt dm (Int.toNat i) 2) (D.getInt dm (Int.toNat i) 3)
                                  (D.getInt dm (Int.toNat i) 4) (D.getInt dm (Int.toNat i) 5) (D.cell dm (Int.toNat i) 6)
                                  (D.cell dm (Int.toNat i) 7)))))),
                      SV.int IntKind.i64
                        (Tgt.site
                          (Prod.fst
                            (answer (Tgt.mk te ts tst tap)
                              (MsgD.msg
                                (MsgD.mk (D.getInt dm (Int.toNat i) 0) (D.getInt dm (Int.toNat i) 1)
                                  (D.getInt dm (Int.toNat i) 2) (D.getInt dm (Int.toNat i) 3)
                                  (D.getInt dm (Int.toNat i) 4) (D.getInt dm (Int.toNat i) 5) (D.cell dm (Int.toNat i) 6)
                                  (D.cell dm (Int.toNat i) 7)))))),
                      SV.int IntKind.i64
                        (Tgt.stored
                          (Prod.fst
                            (answer (Tgt.mk te ts tst tap)
                              (MsgD.msg
                                (MsgD.mk (D.getInt dm (Int.toNat i) 0) (D.getInt dm (Int.toNat i) 1)
                                  (D.getInt dm (Int.toNat i) 2) (D.getInt dm (Int.toNat i) 3)
                                  (D.getInt dm (Int.toNat i) 4) (D.getInt dm (Int.toNat i) 5) (D.cell dm (Int.toNat i) 6)
                                  (D.cell dm (Int.toNat i) 7)))))),
                      SV.int IntKind.i64
                        (Tgt.applied
                          (Prod.fst
                            (answer (Tgt.mk te ts tst tap)
                              (MsgD.msg
                                (MsgD.mk (D.getInt dm (Int.toNat i) 0) (D.getInt dm (Int.toNat i) 1)
                                  (D.getInt dm (Int.toNat i) 2) (D.getInt dm (Int.toNat i) 3)
                                  (D.getInt dm (Int.toNat i) 4) (D.getInt dm (Int.toNat i) 5) (D.cell dm (Int.toNat i) 6)
                                  (D.cell dm (Int.toNat i) 7))))))]),
                (3, OBlk.arr 3 (D.slc h1 1 r1)), (4, OBlk.arr 53 (D.slc h2 8 r2))]))))
    (Tree.leaf
      (Conf.mk
        (SFrm.mk 10 none none
          [Item.inLoop (cAt Try.prog 10 [1, 1, 1, 1, 1, 1, 1, 1, 0, 1, 0, 0]), Item.inBlock 2,
            Item.code (cAt Try.prog 10 [1, 1, 1, 1, 1, 1, 1, 1, 1])]
          (mkJ 0
            [(3, SV.ptr 0 0), (5, SV.ptr 1 0), (6, SV.ptr 2 0),
              (10, SV.int IntKind.i64 (IntKind.wrap IntKind.i64 (n + 1)))]
            0 155))
        []
        [(0,
            OBlk.cells 67
              [SV.int IntKind.i64 e0, SV.int IntKind.i64 s0, SV.dat d0, SV.int IntKind.i64 st0, SV.int IntKind.i64 ap0,
                SV.int IntKind.i64 te0, SV.int IntKind.i64 ts0, SV.int IntKind.i64 tst0, SV.int IntKind.i64 tap0,
                SV.vec 3, SV.vec 4, SV.lb true]),
          (1,
            OBlk.cells 24
              [SV.int IntKind.i64 e, SV.int IntKind.i64 s, SV.dat d, SV.int IntKind.i64 st, SV.int IntKind.i64 ap]),
          (2,
            OBlk.cells 26 [SV.int IntKind.i64 te, SV.int IntKind.i64 ts, SV.int IntKind.i64 tst, SV.int IntKind.i64 tap]),
          (3, OBlk.arr 3 (D.slc h1 1 r1)), (4, OBlk.arr 53 (D.slc h2 8 r2))])) := by kernel_rfl

end
end Go.Proofs.Ytnfkkmdbaknnlaa
end
section
/- Layer 32: CommitCompletes, the rounds. -/
open Go Go.Proofs Sx
namespace Go.Proofs.Ytnfkkmdbaknnlaa
set_option maxRecDepth 100000
set_option maxHeartbeats 0
section
variable (e s st ap te ts tst tap e0 s0 st0 ap0 te0 ts0 tst0 tap0 n i k j h : Int) (d d0 dm da dx dl : D) (h1 h2 : Hd) (r1 r2 : List (List D))
theorem k_10 : goS Try.prog ctL (fun _ => false) [(38, 2), (38, 246)] 400 (unroll (K10 n i k dm da ⟨e0, s0, d0, st0, ap0⟩ ⟨te0, ts0, tst0, tap0⟩ ⟨e, s, d, st, ap⟩ ⟨te, ts, tst, tap⟩ h1 h2 r1 r2)) =
  Tree.br (decide (k < (↑(D.len da) : Int)))
    (Tree.all fun hs =>
      Tree.need (0 ≤ k ∧ k < (↑(D.len da) : Int) ∧ D.sz da = 8)
        (Tree.need
          (D.HasCells da (Int.toNat k) 0
            [FT.int IntKind.i64, FT.int IntKind.i64, FT.int IntKind.i64, FT.int IntKind.i64, FT.int IntKind.i64,
              FT.int IntKind.i64, FT.slc, FT.slc])
          (Tree.need (D.Is Int d)
            (Tree.leaf
              (Conf.mk
                (SFrm.mk 10 none none
                  [Item.inLoop
                      (cAt Try.prog 10
                        [1, 1, 1, 1, 1, 1, 1, 1, 0, 1, 0, 0, 1, 0, 0, 1, 1, 0, 0, 1, 0, 0, 1, 1, 1, 0, 0, 1, 0, 0, 1, 1,
                          1, 0, 0]),
                    Item.inBlock 8, Item.inBlock 7,
                    Item.code
                      (cAt Try.prog 10
                        [1, 1, 1, 1, 1, 1, 1, 1, 0, 1, 0, 0, 1, 0, 0, 1, 1, 0, 0, 1, 0, 0, 1, 1, 1, 0, 0, 1, 1]),
                    Item.inLoop
                      (cAt Try.prog 10 [1, 1, 1, 1, 1, 1, 1, 1, 0, 1, 0, 0, 1, 0, 0, 1, 1, 0, 0, 1, 0, 0, 1, 1, 1, 0, 0]),
                    Item.inBlock 6, Item.inBlock 5,
                    Item.code (cAt Try.prog 10 [1, 1, 1, 1, 1, 1, 1, 1, 0, 1, 0, 0, 1, 0, 0, 1, 1, 0, 0, 1, 1]),
                    Item.inLoop (cAt Try.prog 10 [1, 1, 1, 1, 1, 1, 1, 1, 0, 1, 0, 0, 1, 0, 0, 1, 1, 0, 0]),
                    Item.inBlock 4, Item.inBlock 3,
                    Item.code (cAt Try.prog 10 [1, 1, 1, 1, 1, 1, 1, 1, 0, 1, 0, 0, 1, 1]),
                    Item.inLoop (cAt Try.prog 10 [1, 1, 1, 1, 1, 1, 1, 1, 0, 1, 0, 0]), Item.inBlock 2,
                    Item.code (cAt Try.prog 10 [1, 1, 1, 1, 1, 1, 1, 1, 1])]
                  (mkJ 0
                    [(3, SV.ptr 0 0), (5, SV.ptr 1 0), (6, SV.ptr 2 0), (10, SV.int IntKind.i64 n), (11, SV.dat dm),
                      (12, SV.int IntKind.i64 i), (14, SV.dat da), (15, SV.int IntKind.i64 k),
                      (17,
                        SV.dat
                          (D.like (hs 5 1)
                            (Prod.snd
                              (learn (SrcD.src (SrcD.mk e s d st ap))
                                (MsgD.msg
                                  (MsgD.mk (D.getInt da (Int.toNat k) 0) (D.getInt da (Int.toNat k) 1)
                                    (D.getInt da (Int.toNat k) 2) (D.getInt da (Int.toNat k) 3)
                                    (D.getInt da (Int.toNat k) 4) (D.getInt da (Int.toNat k) 5)
                                    (D.cell da (Int.toNat k) 6) (D.cell da (Int.toNat k) 7))))))),
                      (18, SV.int IntKind.i64 0)]
                    0 155))
                []
                [(0,
                    OBlk.cells 67
                      [SV.int IntKind.i64 e0, SV.int IntKind.i64 s0, SV.dat d0, SV.int IntKind.i64 st0,
                        SV.int IntKind.i64 ap0, SV.int IntKind.i64 te0, SV.int IntKind.i64 ts0, SV.int IntKind.i64 tst0,
                        SV.int IntKind.i64 tap0, SV.vec 3, SV.vec 4, SV.lb true]),
                  (1,
                    OBlk.cells 24
                      [SV.int IntKind.i64
                          (Src.epoch
                            (Prod.fst
                              (learn (SrcD.src (SrcD.mk e s d st ap))
                                (MsgD.msg
                                  (MsgD.mk (D.getInt da (Int.toNat k) 0) (D.getInt da (Int.toNat k) 1)
                                    (D.getInt da (Int.toNat k) 2) (D.getInt da (Int.toNat k) 3)
                                    (D.getInt da (Int.toNat k) 4) (D.getInt da (Int.toNat k) 5)
                                    (D.cell da (Int.toNat k) 6) (D.cell da (Int.toNat k) 7)))))),
                        SV.int IntKind.i64
                          (Src.site
                            (Prod.fst
                              (learn (SrcD.src (SrcD.mk e s d st ap))
                                (MsgD.msg
                                  (MsgD.mk (D.getInt da (Int.toNat k) 0) (D.getInt da (Int.toNat k) 1)
                                    (D.getInt da (Int.toNat k) 2) (D.getInt da (Int.toNat k) 3)
                                    (D.getInt da (Int.toNat k) 4) (D.getInt da (Int.toNat k) 5)
                                    (D.cell da (Int.toNat k) 6) (D.cell da (Int.toNat k) 7)))))),
                        SV.dat
                          (D.like (hs 5 0)
                            (Src.offered
                              (Prod.fst
                                (learn (SrcD.src (SrcD.mk e s d st ap))
                                  (MsgD.msg
                                    (MsgD.mk (D.getInt da (Int.toNat k) 0) (D.getInt da (Int.toNat k) 1)
                                      (D.getInt da (Int.toNat k) 2) (D.getInt da (Int.toNat k) 3)
                                      (D.getInt da (Int.toNat k) 4) (D.getInt da (Int.toNat k) 5)
                                      (D.cell da (Int.toNat k) 6) (D.cell da (Int.toNat k) 7))))))),
                        SV.int IntKind.i64
                          (Src.stored
                            (Prod.fst
                              (learn (SrcD.src (SrcD.mk e s d st ap))
                                (MsgD.msg
                                  (MsgD.mk (D.getInt da (Int.toNat k) 0) (D.getInt da (Int.toNat k) 1)
                                    (D.getInt da (Int.toNat k) 2) (D.getInt da (Int.toNat k) 3)
                                    (D.getInt da (Int.toNat k) 4) (D.getInt da (Int.toNat k) 5)
                                    (D.cell da (Int.toNat k) 6) (D.cell da (Int.toNat k) 7)))))),
                        SV.int IntKind.i64
                          (Src.applied
                            (Prod.fst
                              (learn (SrcD.src (SrcD.mk e s d st ap))
                                (MsgD.msg
                                  (MsgD.mk (D.getInt da (Int.toNat k) 0) (D.getInt da (Int.toNat k) 1)
                                    (D.getInt da (Int.toNat k) 2) (D.getInt da (Int.toNat k) 3)
                                    (D.getInt da (Int.toNat k) 4) (D.getInt da (Int.toNat k) 5)
                                    (D.cell da (Int.toNat k) 6) (D.cell da (Int.toNat k) 7))))))]),
                  (2,
                    OBlk.cells 26
                      [SV.int IntKind.i64 te, SV.int IntKind.i64 ts, SV.int IntKind.i64 tst, SV.int IntKind.i64 tap]),
                  (3, OBlk.arr 3 (D.slc h1 1 r1)), (4, OBlk.arr 53 (D.slc h2 8 r2))])))))
    (Tree.leaf
      (Conf.mk
        (SFrm.mk 10 none none
          [Item.inLoop (cAt Try.prog 10 [1, 1, 1, 1, 1, 1, 1, 1, 0, 1, 0, 0, 1, 0, 0, 1, 1, 0, 0]), Item.inBlock 4,
            Item.inBlock 3, Item.code (cAt Try.prog 10 [1, 1, 1, 1, 1, 1, 1, 1, 0, 1, 0, 0, 1, 1]),
            Item.inLoop (cAt Try.prog 10 [1, 1, 1, 1, 1, 1, 1, 1, 0, 1, 0, 0]), Item.inBlock 2,
            Item.code (cAt Try.prog 10 [1, 1, 1, 1, 1, 1, 1, 1, 1])]
          (mkJ 0
            [(3, SV.ptr 0 0), (5, SV.ptr 1 0), (6, SV.ptr 2 0), (10, SV.int IntKind.i64 n), (11, SV.dat dm),
              (12, SV.int IntKind.i64 (IntKind.wrap IntKind.i64 (i + 1)))]
            0 155))
        []
        [(0,
            OBlk.cells 67
              [SV.int IntKind.i64 e0, SV.int IntKind.i64 s0, SV.dat d0, SV.int IntKind.i64 st0, SV.int IntKind.i64 ap0,
                SV.int IntKind.i64 te0, SV.int IntKind.i64 ts0, SV.int IntKind.i64 tst0, SV.int IntKind.i64 tap0,
                SV.vec 3, SV.vec 4, SV.lb true]),
          (1,
            OBlk.cells 24
              [SV.int IntKind.i64 e, SV.int IntKind.i64 s, SV.dat d, SV.int IntKind.i64 st, SV.int IntKind.i64 ap]),
          (2,
            OBlk.cells 26 [SV.int IntKind.i64 te, SV.int IntKind.i64 ts, SV.int IntKind.i64 tst, SV.int IntKind.i64 tap]),
          (3, OBlk.arr 3 (D.slc h1 1 r1)), (4, OBlk.arr 53 (D.slc h2 8 r2))])) := by kernel_rfl

end
end Go.Proofs.Ytnfkkmdbaknnlaa
end
section
/- Layer 32: CommitCompletes, the rounds. -/
open Go Go.Proofs Sx
namespace Go.Proofs.Ytnfkkmdbaknnlaa
set_option maxRecDepth 100000
set_option maxHeartbeats 0
section
variable (e s st ap te ts tst tap e0 s0 st0 ap0 te0 ts0 tst0 tap0 n i k j h : Int) (d d0 dm da dx dl : D) (h1 h2 : Hd) (r1 r2 : List (List D))
theorem j_10 : goS Try.prog ctL (fun _ => false) [(38, 2), (38, 246)] 400 (unroll (J10 n i k j dm da dx ⟨e0, s0, d0, st0, ap0⟩ ⟨te0, ts0, tst0, tap0⟩ ⟨e, s, d, st, ap⟩ ⟨te, ts, tst, tap⟩ h1 h2 r1 r2)) =
  Tree.br (decide (j < (↑(D.len dx) : Int)))
    (Tree.all fun hs =>
      Tree.need (0 ≤ j ∧ j < (↑(D.len dx) : Int) ∧ D.sz dx = 8)
        (Tree.need
          (D.HasCells dx (Int.toNat j) 0
            [FT.int IntKind.i64, FT.int IntKind.i64, FT.int IntKind.i64, FT.int IntKind.i64, FT.int IntKind.i64,
              FT.int IntKind.i64, FT.slc, FT.slc])
          (Tree.leaf
            (Conf.mk
              (SFrm.mk 10 none none
                [Item.inLoop
                    (cAt Try.prog 10
                      [1, 1, 1, 1, 1, 1, 1, 1, 0, 1, 0, 0, 1, 0, 0, 1, 1, 0, 0, 1, 0, 0, 1, 1, 1, 0, 0, 1, 0, 0, 1, 1, 1,
                        0, 0, 1, 0, 0, 1, 1, 1, 0, 0]),
                  Item.inBlock 10, Item.inBlock 9,
                  Item.code
                    (cAt Try.prog 10
                      [1, 1, 1, 1, 1, 1, 1, 1, 0, 1, 0, 0, 1, 0, 0, 1, 1, 0, 0, 1, 0, 0, 1, 1, 1, 0, 0, 1, 0, 0, 1, 1, 1,
                        0, 0, 1, 1]),
                  Item.inLoop
                    (cAt Try.prog 10
                      [1, 1, 1, 1, 1, 1, 1, 1, 0, 1, 0, 0, 1, 0, 0, 1, 1, 0, 0, 1, 0, 0, 1, 1, 1, 0, 0, 1, 0, 0, 1, 1, 1,
                        0, 0]),
                  Item.inBlock 8, Item.inBlock 7,
                  Item.code
                    (cAt Try.prog 10
                      [1, 1, 1, 1, 1, 1, 1, 1, 0, 1, 0, 0, 1, 0, 0, 1, 1, 0, 0, 1, 0, 0, 1, 1, 1, 0, 0, 1, 1]),
                  Item.inLoop
                    (cAt Try.prog 10 [1, 1, 1, 1, 1, 1, 1, 1, 0, 1, 0, 0, 1, 0, 0, 1, 1, 0, 0, 1, 0, 0, 1, 1, 1, 0, 0]),
                  Item.inBlock 6, Item.inBlock 5,
                  Item.code (cAt Try.prog 10 [1, 1, 1, 1, 1, 1, 1, 1, 0, 1, 0, 0, 1, 0, 0, 1, 1, 0, 0, 1, 1]),
                  Item.inLoop (cAt Try.prog 10 [1, 1, 1, 1, 1, 1, 1, 1, 0, 1, 0, 0, 1, 0, 0, 1, 1, 0, 0]), Item.inBlock 4,
                  Item.inBlock 3, Item.code (cAt Try.prog 10 [1, 1, 1, 1, 1, 1, 1, 1, 0, 1, 0, 0, 1, 1]),
                  Item.inLoop (cAt Try.prog 10 [1, 1, 1, 1, 1, 1, 1, 1, 0, 1, 0, 0]), Item.inBlock 2,
                  Item.code (cAt Try.prog 10 [1, 1, 1, 1, 1, 1, 1, 1, 1])]
                (mkJ 0
                  [(3, SV.ptr 0 0), (5, SV.ptr 1 0), (6, SV.ptr 2 0), (10, SV.int IntKind.i64 n), (11, SV.dat dm),
                    (12, SV.int IntKind.i64 i), (14, SV.dat da), (15, SV.int IntKind.i64 k), (17, SV.dat dx),
                    (18, SV.int IntKind.i64 j),
                    (20,
                      SV.dat
                        (D.like (hs 5 0)
                          (Prod.snd
                            (answer (Tgt.mk te ts tst tap)
                              (MsgD.msg
                                (MsgD.mk (D.getInt dx (Int.toNat j) 0) (D.getInt dx (Int.toNat j) 1)
                                  (D.getInt dx (Int.toNat j) 2) (D.getInt dx (Int.toNat j) 3)
                                  (D.getInt dx (Int.toNat j) 4) (D.getInt dx (Int.toNat j) 5) (D.cell dx (Int.toNat j) 6)
                                  (D.cell dx (Int.toNat j) 7))))))),
                    (21, SV.int IntKind.i64 0)]
                  0 155))
              []
              [(0,
                  OBlk.cells 67
                    [SV.int IntKind.i64 e0, SV.int IntKind.i64 s0, SV.dat d0, SV.int IntKind.i64 st0,
                      SV.int IntKind.i64 ap0, SV.int IntKind.i64 te0, SV.int IntKind.i64 ts0, SV.int IntKind.i64 tst0,
                      SV.int IntKind.i64 tap0, SV.vec 3, SV.vec 4, SV.lb true]),
                (1,
                  OBlk.cells 24
                    [SV.int IntKind.i64 e, SV.int IntKind.i64 s, SV.dat d, SV.int IntKind.i64 st, SV.int IntKind.i64 ap]),
                (2,
                  OBlk.cells 26
                    [SV.int IntKind.i64
                        (Tgt.epoch
                          (Prod.fst
                            (answer (Tgt.mk te ts tst tap)
                              (MsgD.msg
                                (MsgD.mk (D.getInt dx (Int.toNat j) 0) (D.getInt dx (Int.toNat j) 1)
                                  (D.getInt dx (Int.toNat j) 2) (D.getInt dx (Int.toNat j) 3)
                                  (D.getInt dx (Int.toNat j) 4) (D.getInt dx (Int.toNat j) 5) (D.cell dx (Int.toNat j) 6)
                                  (D.cell dx (Int.toNat j) 7)))))),
                      SV.int IntKind.i64
                        (Tgt.site
                          (Prod.fst
                            (answer (Tgt.mk te ts tst tap)
                              (MsgD.msg
                                (MsgD.mk (D.getInt dx (Int.toNat j) 0) (D.getInt dx (Int.toNat j) 1)
                                  (D.getInt dx (Int.toNat j) 2) (D.getInt dx (Int.toNat j) 3)
                                  (D.getInt dx (Int.toNat j) 4) (D.getInt dx (Int.toNat j) 5) (D.cell dx (Int.toNat j) 6)
                                  (D.cell dx (Int.toNat j) 7)))))),
                      SV.int IntKind.i64
                        (Tgt.stored
                          (Prod.fst
                            (answer (Tgt.mk te ts tst tap)
                              (MsgD.msg
                                (MsgD.mk (D.getInt dx (Int.toNat j) 0) (D.getInt dx (Int.toNat j) 1)
                                  (D.getInt dx (Int.toNat j) 2) (D.getInt dx (Int.toNat j) 3)
                                  (D.getInt dx (Int.toNat j) 4) (D.getInt dx (Int.toNat j) 5) (D.cell dx (Int.toNat j) 6)
                                  (D.cell dx (Int.toNat j) 7)))))),
                      SV.int IntKind.i64
                        (Tgt.applied
                          (Prod.fst
                            (answer (Tgt.mk te ts tst tap)
                              (MsgD.msg
                                (MsgD.mk (D.getInt dx (Int.toNat j) 0) (D.getInt dx (Int.toNat j) 1)
                                  (D.getInt dx (Int.toNat j) 2) (D.getInt dx (Int.toNat j) 3)
                                  (D.getInt dx (Int.toNat j) 4) (D.getInt dx (Int.toNat j) 5) (D.cell dx (Int.toNat j) 6)
                                  (D.cell dx (Int.toNat j) 7))))))]),
                (3, OBlk.arr 3 (D.slc h1 1 r1)), (4, OBlk.arr 53 (D.slc h2 8 r2))]))))
    (Tree.leaf
      (Conf.mk
        (SFrm.mk 10 none none
          [Item.inLoop
              (cAt Try.prog 10 [1, 1, 1, 1, 1, 1, 1, 1, 0, 1, 0, 0, 1, 0, 0, 1, 1, 0, 0, 1, 0, 0, 1, 1, 1, 0, 0]),
            Item.inBlock 6, Item.inBlock 5,
            Item.code (cAt Try.prog 10 [1, 1, 1, 1, 1, 1, 1, 1, 0, 1, 0, 0, 1, 0, 0, 1, 1, 0, 0, 1, 1]),
            Item.inLoop (cAt Try.prog 10 [1, 1, 1, 1, 1, 1, 1, 1, 0, 1, 0, 0, 1, 0, 0, 1, 1, 0, 0]), Item.inBlock 4,
            Item.inBlock 3, Item.code (cAt Try.prog 10 [1, 1, 1, 1, 1, 1, 1, 1, 0, 1, 0, 0, 1, 1]),
            Item.inLoop (cAt Try.prog 10 [1, 1, 1, 1, 1, 1, 1, 1, 0, 1, 0, 0]), Item.inBlock 2,
            Item.code (cAt Try.prog 10 [1, 1, 1, 1, 1, 1, 1, 1, 1])]
          (mkJ 0
            [(3, SV.ptr 0 0), (5, SV.ptr 1 0), (6, SV.ptr 2 0), (10, SV.int IntKind.i64 n), (11, SV.dat dm),
              (12, SV.int IntKind.i64 i), (14, SV.dat da), (15, SV.int IntKind.i64 (IntKind.wrap IntKind.i64 (k + 1)))]
            0 155))
        []
        [(0,
            OBlk.cells 67
              [SV.int IntKind.i64 e0, SV.int IntKind.i64 s0, SV.dat d0, SV.int IntKind.i64 st0, SV.int IntKind.i64 ap0,
                SV.int IntKind.i64 te0, SV.int IntKind.i64 ts0, SV.int IntKind.i64 tst0, SV.int IntKind.i64 tap0,
                SV.vec 3, SV.vec 4, SV.lb true]),
          (1,
            OBlk.cells 24
              [SV.int IntKind.i64 e, SV.int IntKind.i64 s, SV.dat d, SV.int IntKind.i64 st, SV.int IntKind.i64 ap]),
          (2,
            OBlk.cells 26 [SV.int IntKind.i64 te, SV.int IntKind.i64 ts, SV.int IntKind.i64 tst, SV.int IntKind.i64 tap]),
          (3, OBlk.arr 3 (D.slc h1 1 r1)), (4, OBlk.arr 53 (D.slc h2 8 r2))])) := by kernel_rfl

end
end Go.Proofs.Ytnfkkmdbaknnlaa
end
