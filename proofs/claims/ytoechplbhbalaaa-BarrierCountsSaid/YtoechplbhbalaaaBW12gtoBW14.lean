/- Layer 21: the example, walked. -/
import Derived.KernelRfl
import Derived.Test.YtoechplbhbalaaaBW10gtoBW12
set_option linter.all false
section
open Go Go.Proofs Sx
namespace Go.Proofs.Ytoechplbhbalaaa
set_option maxRecDepth 100000
set_option maxHeartbeats 0
section
theorem awake_in : (execU Try.prog ctT (fun _ => true) 600 (entry Try.prog 12 [])).dec =
  Tree.all fun hs =>
    Tree.all fun hs =>
      Tree.need ((0 : Int) ≤ 0 ∧ 0 < (↑2 : Int))
        (Tree.all fun hs_1 =>
          Tree.need ((0 : Int) ≤ 0 ∧ 0 < (↑2 : Int))
            (Tree.need ((0 : Int) ≤ 0 ∧ 0 < (↑2 : Int))
              (Tree.all fun hs_2 =>
                Tree.need ((0 : Int) ≤ 0 ∧ 0 < (↑2 : Int))
                  (Tree.need ((0 : Int) ≤ 0 ∧ 0 < (↑2 : Int))
                    (Tree.all fun hs_3 =>
                      Tree.need ((0 : Int) ≤ 0 ∧ 0 < (↑2 : Int))
                        (Tree.all fun hs_4 =>
                          Tree.need ((0 : Int) ≤ 0 ∧ 0 < (↑2 : Int))
                            (Tree.need
                              ((0 : Int) ≤ 0 ∧
                                0 < (↑(D.len (pM (hs 0 2) [Msg.mk 1 2 0 1 0 0 [] [], Msg.mk 1 2 1 1 0 0 [] []])) : Int) ∧
                                  D.sz (pM (hs 0 2) [Msg.mk 1 2 0 1 0 0 [] [], Msg.mk 1 2 1 1 0 0 [] []]) = 8)
                              (Tree.need
                                (D.HasCells (pM (hs 0 2) [Msg.mk 1 2 0 1 0 0 [] [], Msg.mk 1 2 1 1 0 0 [] []]) 0 0
                                  [FT.int IntKind.i64, FT.int IntKind.i64, FT.int IntKind.i64, FT.int IntKind.i64,
                                    FT.int IntKind.i64, FT.int IntKind.i64, FT.slc, FT.slc])
                                (Tree.need ((0 : Int) ≤ 0 ∧ 0 < (↑2 : Int))
                                  (Tree.all fun hs_5 =>
                                    Tree.need
                                      ((0 : Int) ≤ 0 ∧
                                        0 < (↑(D.len (pM (hs_4 7 3) [Msg.mk 2 0 2 1 3 0 [] []])) : Int) ∧
                                          D.sz (pM (hs_4 7 3) [Msg.mk 2 0 2 1 3 0 [] []]) = 8)
                                      (Tree.need
                                        (D.HasCells (pM (hs_4 7 3) [Msg.mk 2 0 2 1 3 0 [] []]) 0 0
                                          [FT.int IntKind.i64, FT.int IntKind.i64, FT.int IntKind.i64, FT.int IntKind.i64,
                                            FT.int IntKind.i64, FT.int IntKind.i64, FT.slc, FT.slc])
                                        (Tree.need
                                          (D.Fits (pM (hs_5 4 2) []) 8 ∧
                                            D.len (pM (hs_5 4 2) []) * 96 ≤ 140737488355328 ∧
                                              D.len (pM (hs_5 4 2) []) ≤ 9223372036854775807)
                                          (Tree.all fun hs_6 =>
                                            Tree.all fun hs_7 =>
                                              Tree.need
                                                (0 ≤ IntKind.wrap IntKind.i64 (0 + 1) ∧
                                                  IntKind.wrap IntKind.i64 (0 + 1) < (↑2 : Int))
                                                (Tree.need
                                                  (0 ≤ IntKind.wrap IntKind.i64 (0 + 1) ∧
                                                    IntKind.wrap IntKind.i64 (0 + 1) <
                                                        (↑(D.len
                                                              (pM (hs 0 2)
                                                                [Msg.mk 1 2 0 1 0 0 [] [], Msg.mk 1 2 1 1 0 0 [] []])) :
                                                          Int) ∧
                                                      D.sz
                                                          (pM (hs 0 2)
                                                            [Msg.mk 1 2 0 1 0 0 [] [], Msg.mk 1 2 1 1 0 0 [] []]) =
                                                        8)
                                                  (Tree.need
                                                    (D.HasCells
                                                      (pM (hs 0 2) [Msg.mk 1 2 0 1 0 0 [] [], Msg.mk 1 2 1 1 0 0 [] []]) 1
                                                      0
                                                      [FT.int IntKind.i64, FT.int IntKind.i64, FT.int IntKind.i64,
                                                        FT.int IntKind.i64, FT.int IntKind.i64, FT.int IntKind.i64,
                                                        FT.slc, FT.slc])
                                                    (Tree.need
                                                      (0 ≤ IntKind.wrap IntKind.i64 (0 + 1) ∧
                                                        IntKind.wrap IntKind.i64 (0 + 1) < (↑2 : Int))
                                                      (Tree.all fun hs =>
                                                        Tree.need
                                                          ((0 : Int) ≤ 0 ∧
                                                            0 <
                                                                (↑(D.len (pM (hs_7 7 3) [Msg.mk 2 1 2 1 0 0 [] []])) :
                                                                  Int) ∧
                                                              D.sz (pM (hs_7 7 3) [Msg.mk 2 1 2 1 0 0 [] []]) = 8)
                                                          (Tree.need
                                                            (D.HasCells (pM (hs_7 7 3) [Msg.mk 2 1 2 1 0 0 [] []]) 0 0
                                                              [FT.int IntKind.i64, FT.int IntKind.i64, FT.int IntKind.i64,
                                                                FT.int IntKind.i64, FT.int IntKind.i64,
                                                                FT.int IntKind.i64, FT.slc, FT.slc])
                                                            (Tree.need
                                                              (D.sz
                                                                    (D.slc (D.hd (hs_6 0 0)) 8
                                                                      (D.rows (pM (hs_5 4 2) []))) =
                                                                  8 ∧
                                                                D.Fits
                                                                    (pM (hs 4 2)
                                                                      [Msg.mk 3 2 0 1 0 0 [] [],
                                                                        Msg.mk 3 2 1 1 0 0 [] []])
                                                                    8 ∧
                                                                  (D.len
                                                                            (D.slc (D.hd (hs_6 0 0)) 8
                                                                              (D.rows (pM (hs_5 4 2) []))) +
                                                                          D.len
                                                                            (pM (hs 4 2)
                                                                              [Msg.mk 3 2 0 1 0 0 [] [],
                                                                                Msg.mk 3 2 1 1 0 0 [] []])) *
                                                                        96 ≤
                                                                      140737488355328 ∧
                                                                    D.len
                                                                          (D.slc (D.hd (hs_6 0 0)) 8
                                                                            (D.rows (pM (hs_5 4 2) []))) +
                                                                        D.len
                                                                          (pM (hs 4 2)
                                                                            [Msg.mk 3 2 0 1 0 0 [] [],
                                                                              Msg.mk 3 2 1 1 0 0 [] []]) ≤
                                                                      9223372036854775807)
                                                              (Tree.all fun hs_8 =>
                                                                Tree.all fun hs_9 =>
                                                                  Tree.need ((0 : Int) ≤ 0 ∧ 0 < (↑2 : Int))
                                                                    (Tree.need
                                                                      ((0 : Int) ≤ 0 ∧
                                                                        0 <
                                                                            (↑(D.len
                                                                                  (D.slc (D.hd (hs_8 0 0)) 8
                                                                                    (List.append
                                                                                      (D.rows
                                                                                        (D.slc (D.hd (hs_6 0 0)) 8
                                                                                          (D.rows (pM (hs_5 4 2) []))))
                                                                                      (D.rows
                                                                                        (pM (hs 4 2)
                                                                                          [Msg.mk 3 2 0 1 0 0 [] [],
                                                                                            Msg.mk 3 2 1 1 0 0 []
                                                                                              []]))))) :
                                                                              Int) ∧
                                                                          D.sz
                                                                              (D.slc (D.hd (hs_8 0 0)) 8
                                                                                (List.append
                                                                                  (D.rows
                                                                                    (D.slc (D.hd (hs_6 0 0)) 8
                                                                                      (D.rows (pM (hs_5 4 2) []))))
                                                                                  (D.rows
                                                                                    (pM (hs 4 2)
                                                                                      [Msg.mk 3 2 0 1 0 0 [] [],
                                                                                        Msg.mk 3 2 1 1 0 0 [] []])))) =
                                                                            8)
                                                                      (Tree.need
                                                                        (D.HasCells
                                                                            (D.slc (D.hd (hs_8 0 0)) 8
                                                                              (List.append
                                                                                (D.rows
                                                                                  (D.slc (D.hd (hs_6 0 0)) 8
                                                                                    (D.rows (pM (hs_5 4 2) []))))
                                                                                (D.rows
                                                                                  (pM (hs 4 2)
                                                                                    [Msg.mk 3 2 0 1 0 0 [] [],
                                                                                      Msg.mk 3 2 1 1 0 0 [] []]))))
                                                                            0 0
                                                                            [FT.int IntKind.i64, FT.int IntKind.i64,
                                                                              FT.int IntKind.i64, FT.int IntKind.i64,
                                                                              FT.int IntKind.i64, FT.int IntKind.i64,
                                                                              FT.slc, FT.slc] ∧
                                                                          D.sz
                                                                              (D.slc (D.hd (hs_8 0 0)) 8
                                                                                (List.append
                                                                                  (D.rows
                                                                                    (D.slc (D.hd (hs_6 0 0)) 8
                                                                                      (D.rows (pM (hs_5 4 2) []))))
                                                                                  (D.rows
                                                                                    (pM (hs 4 2)
                                                                                      [Msg.mk 3 2 0 1 0 0 [] [],
                                                                                        Msg.mk 3 2 1 1 0 0 [] []])))) =
                                                                            8)
                                                                        (Tree.need ((0 : Int) ≤ 0 ∧ 0 < (↑2 : Int))
                                                                          (Tree.all fun hs_10 =>
                                                                            Tree.need
                                                                              ((0 : Int) ≤ 0 ∧
                                                                                0 <
                                                                                    (↑(D.len
                                                                                          (pM (hs_9 7 3)
                                                                                            [Msg.mk 4 0 2 1 1 0 [] []])) :
                                                                                      Int) ∧
                                                                                  D.sz
                                                                                      (pM (hs_9 7 3)
                                                                                        [Msg.mk 4 0 2 1 1 0 [] []]) =
                                                                                    8)
                                                                              (Tree.need
                                                                                (D.HasCells
                                                                                  (pM (hs_9 7 3)
                                                                                    [Msg.mk 4 0 2 1 1 0 [] []])
                                                                                  0 0
                                                                                  [FT.int IntKind.i64, FT.int IntKind.i64,
                                                                                    FT.int IntKind.i64,
                                                                                    FT.int IntKind.i64,
                                                                                    FT.int IntKind.i64,
                                                                                    FT.int IntKind.i64, FT.slc, FT.slc])
                                                                                (Tree.need
                                                                                  (D.Fits (pM (hs_10 4 2) []) 8 ∧
                                                                                    D.len (pM (hs_10 4 2) []) * 96 ≤
                                                                                        140737488355328 ∧
                                                                                      D.len (pM (hs_10 4 2) []) ≤
                                                                                        9223372036854775807)
                                                                                  (Tree.all fun hs_11 =>
                                                                                    Tree.all fun hs_12 =>
                                                                                      Tree.need
                                                                                        (0 ≤
                                                                                            IntKind.wrap IntKind.i64
                                                                                              (0 + 1) ∧
                                                                                          IntKind.wrap IntKind.i64
                                                                                              (0 + 1) <
                                                                                            (↑2 : Int))
                                                                                        (Tree.need
                                                                                          (0 ≤
                                                                                              IntKind.wrap IntKind.i64
                                                                                                (0 + 1) ∧
                                                                                            IntKind.wrap IntKind.i64
                                                                                                  (0 + 1) <
                                                                                                (↑(D.len
                                                                                                      (D.slc
                                                                                                        (D.hd (hs_8 0 0))
                                                                                                        8
                                                                                                        (List.append
                                                                                                          (D.rows
                                                                                                            (D.slc
                                                                                                              (D.hd
                                                                                                                (hs_6 0
                                                                                                                  0))
                                                                                                              8
                                                                                                              (D.rows
                                                                                                                (pM
                                                                                                                  (hs_5 4
                                                                                                                    2)
                                                                                                                  []))))
                                                                                                          (D.rows
                                                                                                            (pM (hs 4 2)
                                                                                                              [Msg.mk 3 2
                                                                                                                  0 1 0 0
                                                                                                                  [] [],
                                                                                                                Msg.mk 3 2
                                                                                                                  1 1 0 0
                                                                                                                  []
                                                                                                                  []]))))) :
                                                                                                  Int) ∧
                                                                                              D.sz
                                                                                                  (D.slc (D.hd (hs_8 0 0))
                                                                                                    8
                                                                                                    (List.append
                                                                                                      (D.rows
                                                                                                        (D.slc
                                                                                                          (D.hd
                                                                                                            (hs_6 0 0))
                                                                                                          8
                                                                                                          (D.rows
                                                                                                            (pM (hs_5 4 2)
                                                                                                              []))))
                                                                                                      (D.rows
                                                                                                        (pM (hs 4 2)
                                                                                                          [Msg.mk 3 2 0 1
                                                                                                              0 0 [] [],
                                                                                                            Msg.mk 3 2 1 1
                                                                                                              0 0 []
                                                                                                              []])))) =
                                                                                                8)
                                                                                          (Tree.need
                                                                                            (D.HasCells
                                                                                                (D.slc (D.hd (hs_8 0 0)) 8
                                                                                                  (List.append
                                                                                                    (D.rows
                                                                                                      (D.slc
                                                                                                        (D.hd (hs_6 0 0))
                                                                                                        8
                                                                                                        (D.rows
                                                                                                          (pM (hs_5 4 2)
                                                                                                            []))))
                                                                                                    (D.rows
                                                                                                      (pM (hs 4 2)
                                                                                                        [Msg.mk 3 2 0 1 0
                                                                                                            0 [] [],
                                                                                                          Msg.mk 3 2 1 1 0
                                                                                                            0 [] []]))))
                                                                                                1 0
                                                                                                [FT.int IntKind.i64,
                                                                                                  FT.int IntKind.i64,
                                                                                                  FT.int IntKind.i64,
                                                                                                  FT.int IntKind.i64,
                                                                                                  FT.int IntKind.i64,
                                                                                                  FT.int IntKind.i64,
                                                                                                  FT.slc, FT.slc] ∧
                                                                                              D.sz
                                                                                                  (D.slc (D.hd (hs_8 0 0))
                                                                                                    8
                                                                                                    (List.append
                                                                                                      (D.rows
                                                                                                        (D.slc
                                                                                                          (D.hd
                                                                                                            (hs_6 0 0))
                                                                                                          8
                                                                                                          (D.rows
                                                                                                            (pM (hs_5 4 2)
                                                                                                              []))))
                                                                                                      (D.rows
                                                                                                        (pM (hs 4 2)
                                                                                                          [Msg.mk 3 2 0 1
                                                                                                              0 0 [] [],
                                                                                                            Msg.mk 3 2 1 1
                                                                                                              0 0 []
                                                                                                              []])))) =
                                                                                                8)
                                                                                            (Tree.need
                                                                                              (0 ≤
                                                                                                  IntKind.wrap IntKind.i64
                                                                                                    (0 + 1) ∧
                                                                                                IntKind.wrap IntKind.i64
                                                                                                    (0 + 1) <
                                                                                                  (↑2 : Int))
                                                                                              (Tree.all fun hs =>
                                                                                                Tree.need
                                                                                                  ((0 : Int) ≤ 0 ∧
                                                                                                    0 <
                                                                                                        (↑(D.len
                                                                                                              (pM
                                                                                                                (hs_12 7
                                                                                                                  3)
                                                                                                                [Msg.mk 4
                                                                                                                    1 2 1
                                                                                                                    1 0 []
                                                                                                                    []])) :
                                                                                                          Int) ∧
                                                                                                      D.sz
                                                                                                          (pM (hs_12 7 3)
                                                                                                            [Msg.mk 4 1 2
                                                                                                                1 1 0 []
                                                                                                                []]) =
                                                                                                        8)
                                                                                                  (Tree.need
                                                                                                    (D.HasCells
                                                                                                      (pM (hs_12 7 3)
                                                                                                        [Msg.mk 4 1 2 1 1
                                                                                                            0 [] []])
                                                                                                      0 0
                                                                                                      [FT.int IntKind.i64,
                                                                                                        FT.int
                                                                                                          IntKind.i64,
                                                                                                        FT.int
                                                                                                          IntKind.i64,
                                                                                                        FT.int
                                                                                                          IntKind.i64,
                                                                                                        FT.int
                                                                                                          IntKind.i64,
                                                                                                        FT.int
                                                                                                          IntKind.i64,
                                                                                                        FT.slc, FT.slc])
                                                                                                    (Tree.need
                                                                                                      (D.sz
                                                                                                            (D.slc
                                                                                                              (D.hd
                                                                                                                (hs_11 0
                                                                                                                  0))
                                                                                                              8
                                                                                                              (D.rows
                                                                                                                (pM
                                                                                                                  (hs_10 4
                                                                                                                    2)
                                                                                                                  []))) =
                                                                                                          8 ∧
                                                                                                        D.Fits
                                                                                                            (pM (hs 4 2)
                                                                                                              [])
                                                                                                            8 ∧
                                                                                                          (D.len
                                                                                                                    (D.slc
                                                                                                                      (D.hd
                                                                                                                        (hs_11
                                                                                                                          0
                                                                                                                          0))
                                                                                                                      8
                                                                                                                      (D.rows
                                                                                                                        (pM
                                                                                                                          (hs_10
                                                                                                                            4
                                                                                                                            2)
                                                                                                                          []))) +
                                                                                                                  D.len
                                                                                                                    (pM
                                                                                                                      (hs
                                                                                                                        4
                                                                                                                        2)
                                                                                                                      [])) *
                                                                                                                96 ≤
                                                                                                              140737488355328 ∧
                                                                                                            D.len
                                                                                                                  (D.slc
                                                                                                                    (D.hd
                                                                                                                      (hs_11
                                                                                                                        0
                                                                                                                        0))
                                                                                                                    8
                                                                                                                    (D.rows
                                                                                                                      (pM
                                                                                                                        (hs_10
                                                                                                                          4
                                                                                                                          2)
                                                                                                                        []))) +
                                                                                                                D.len
                                                                                                                  (pM
                                                                                                                    (hs 4
                                                                                                                      2)
                                                                                                                    []) ≤
                                                                                                              9223372036854775807)
                                                                                                      (Tree.all
                                                                                                        fun hs_13 =>
                                                                                                        Tree.all
                                                                                                          fun hs_14 =>
                                                                                                          Tree.all
                                                                                                            fun hs_15 =>
                                                                                                            Tree.ret
                                                                                                              (SV.bool
                                                                                                                (decide
                                                                                                                  ((↑(D.len
                                                                                                                          (D.slc
                                                                                                                            (D.hd
                                                                                                                              (hs_13
                                                                                                                                0
                                                                                                                                0))
                                                                                                                            8
                                                                                                                            (List.append
                                                                                                                              (D.rows
                                                                                                                                (D.slc
                                                                                                                                  (D.hd
                                                                                                                                    (hs_11
                                                                                                                                      0
                                                                                                                                      0))
                                                                                                                                  8
                                                                                                                                  (D.rows
                                                                                                                                    (pM
                                                                                                                                      (hs_10
                                                                                                                                        4
                                                                                                                                        2)
                                                                                                                                      []))))
                                                                                                                              (D.rows
                                                                                                                                (pM
                                                                                                                                  (hs
                                                                                                                                    4
                                                                                                                                    2)
                                                                                                                                  []))))) :
                                                                                                                      Int) =
                                                                                                                    0))))))))))))))))))))))))))))))))))))) := by kernel_rfl

end
end Go.Proofs.Ytoechplbhbalaaa
end
section
/- Layer 21: the example holds. -/
open Go Go.Proofs Sx
namespace Sx
/-- No arguments. -/
def rdNone : Rd Unit where
  read l := match l with | [] => some () | _ => none
  canon _ := []
  right H E args b h hok := by
    split at h
    · exact ⟨rfl, trivial⟩
    · cases h
def spTrue (_ : Unit) : SpecR := .scalar [] (.lb true)
theorem need_len {d : D} {n s : Nat} (i : Int) (h : d.len = n) (h' : d.sz = s) (h0 : 0 ≤ i) (hi : i < n) : 0 ≤ i ∧ i < (d.len : Int) ∧ d.sz = s := ⟨h0, by rw [h]; exact hi, h'⟩
end Sx
namespace Go.Proofs.Ytoechplbhbalaaa
set_option maxRecDepth 100000
set_option maxHeartbeats 0
theorem lawAwake : Law Try.prog 12 (rdNone.sp spTrue) := by
  refine law_in _ (by kernel_rfl) fun H w _ hok hp => ?_
  refine dec_sound ctTOk (fun _ => true) 600 (entry Try.prog 12 []) awake_in ?_
  repeat' first
    | with_reducible refine holds_all.2 fun _ => ?_
    | refine ⟨⟨by decide, by decide⟩, ?_⟩
    | refine ⟨need_len (n := 1) 0 rfl rfl (by decide) (by decide), ?_⟩
    | refine ⟨need_len (n := 2) 0 rfl rfl (by decide) (by decide), ?_⟩
    | refine ⟨need_len (n := 2) (IntKind.wrap .i64 (0 + 1)) rfl rfl (by decide) (by decide), ?_⟩
    | refine ⟨⟨⟨_, rfl⟩, ⟨_, rfl⟩, ⟨_, rfl⟩, ⟨_, rfl⟩, ⟨_, rfl⟩, ⟨_, rfl⟩, ⟨_, _, _, rfl⟩, ⟨_, _, _, rfl⟩, trivial⟩, ?_⟩
    | refine ⟨⟨⟨⟨_, rfl⟩, ⟨_, rfl⟩, ⟨_, rfl⟩, ⟨_, rfl⟩, ⟨_, rfl⟩, ⟨_, rfl⟩, ⟨_, _, _, rfl⟩, ⟨_, _, _, rfl⟩, trivial⟩, rfl⟩, ?_⟩
    | refine ⟨⟨.inl rfl, (by decide : 0 * 96 ≤ 140737488355328), (by decide : 0 ≤ 9223372036854775807)⟩, ?_⟩
    | refine ⟨⟨rfl, .inr rfl, (by decide : (0 + 2) * 96 ≤ 140737488355328), (by decide : 0 + 2 ≤ 9223372036854775807)⟩, ?_⟩
    | refine ⟨⟨rfl, .inl rfl, (by decide : (0 + 0) * 96 ≤ 140737488355328), (by decide : 0 + 0 ≤ 9223372036854775807)⟩, ?_⟩
    | fail
  exact ret_S fun E E' => by simp only [SV.den]; rfl
end Go.Proofs.Ytoechplbhbalaaa
end
section
/- Layer 21: the contracts that the statements lean on. -/
open Go Go.Proofs Sx
namespace Sx
/-- A law that gives a bool, where this is sure to be true. -/
theorem law_sure {P : Program} {f : FuncId} {β : Type} {r : Rd β} {sp sp' : β → SpecR} (h : Law P f (r.sp sp))
    (hh : ∀ b, ∃ ps v ps', sp b = .scalar ps (.bool v) ∧ sp' b = .scalar ps' (.lb true) ∧ ((∀ p, p ∈ ps' → p) → (∀ p, p ∈ ps → p) ∧ v = true)) : Law P f (r.sp sp') := by
  refine ⟨h.1, fun H E args hargs => ?_⟩
  have h2 := h.2 H E args hargs
  unfold Rd.sp at h2 ⊢
  cases hr : r.read args with
  | none => trivial
  | some b =>
    obtain ⟨ps, v, ps', e1, e2, h3⟩ := hh b
    rw [hr] at h2
    simp only [e1] at h2
    simp only [e2]
    intro hp
    obtain ⟨h4, rfl⟩ := h3 hp
    have h5 := h2 h4
    simpa [SV.den] using h5

theorem ret_sure {P : Program} {w : World} {H : HV} {b : Bool} (h : b = true) : (Tree.ret (.bool b)).holds P ⟨w, H⟩ (RetS w H (.lb true)) := by
  subst h; exact ret_S fun _ _ => by simp [SV.den]
theorem ret_lbt {P : Program} {w : World} {H : HV} : (Tree.ret (.lb true)).holds P ⟨w, H⟩ (RetS w H (.lb true)) := ret_S fun _ _ => rfl
theorem ret_lbs {P : Program} {w : World} {H : HV} {b : Bool} (h : b = true) : (Tree.ret (.lb b)).holds P ⟨w, H⟩ (RetS w H (.lb true)) := by subst h; exact ret_lbt

def spSameCoS (x : CoD × CoD) : SpecR := .scalar [x.1.d.Is Int ∧ x.1.s.Is Bool ∧ x.2.d.Is Int ∧ x.2.s.Is Bool ∧ x.1.d.len ≤ 1048576 ∧ x.1.s.len ≤ 1048576 ∧ x.1.co = x.2.co] (.lb true)
def spSameMbS (x : MbD × MbD) : SpecR := .scalar [x.1.Right ∧ x.2.Right ∧ x.1.mb = x.2.mb] (.lb true)
def spSameIntsS (x : D × D) : SpecR := .scalar [x.1.Is Int ∧ x.2.Is Int ∧ x.1.len ≤ 1048576 ∧ x.1.to Int = x.2.to Int] (.lb true)
noncomputable def spSameMsgsS (x : D × D) : SpecR := .scalar [x.1.Is Msg ∧ x.2.Is Msg ∧ x.1.len ≤ 1048576 ∧ (∀ m, m ∈ x.1.to Msg → m.values = [] ∧ m.body = []) ∧ x.1.to Msg = x.2.to Msg] (.lb true)
end Sx
namespace Go.Proofs.Ytoechplbhbalaaa
theorem lawSameCoS : Law Try.prog 15 ((rdCo.two rdCo).sp spSameCoS) :=
  law_sure lawSameCo fun b => ⟨_, _, _, rfl, rfl, fun hp => by
    obtain ⟨h1, h2, h3, h4, h5, h6, h7⟩ := hp _ (List.mem_singleton.2 rfl)
    exact ⟨fun p hp' => by rw [List.mem_singleton.1 hp']; exact ⟨h1, h2, h3, h4, h5, h6⟩, decide_eq_true h7⟩⟩
theorem lawSameMbS : Law Try.prog 26 ((rdMb.two rdMb).sp spSameMbS) :=
  law_sure lawSameMb fun b => ⟨_, _, _, rfl, rfl, fun hp => by
    obtain ⟨h1, h2, h3⟩ := hp _ (List.mem_singleton.2 rfl)
    exact ⟨fun p hp' => by rw [List.mem_singleton.1 hp']; exact ⟨h1, h2⟩, decide_eq_true h3⟩⟩
theorem lawSameIntsS : Law Try.prog 23 ((rdD.two rdD).sp spSameIntsS) :=
  law_sure lawSameInts fun b => ⟨_, _, _, rfl, rfl, fun hp => by
    obtain ⟨h1, h2, h3, h4⟩ := hp _ (List.mem_singleton.2 rfl)
    exact ⟨fun p hp' => by rw [List.mem_singleton.1 hp']; exact ⟨h1, h2, h3⟩, decide_eq_true h4⟩⟩
theorem lawSameMsgsS : Law Try.prog 16 ((rdD.two rdD).sp spSameMsgsS) :=
  law_sure lawSameMsgs fun b => ⟨_, _, _, rfl, rfl, fun hp => by
    obtain ⟨h1, h2, h3, h4, h5⟩ := hp _ (List.mem_singleton.2 rfl)
    exact ⟨fun p hp' => by rw [List.mem_singleton.1 hp']; exact ⟨h1, h2, h3, fun m hm => ⟨(h4 m hm).2, (h4 m hm).1⟩, fun m hm => (h4 m (by rw [h5]; exact hm)).2⟩, decide_eq_true h5⟩⟩

noncomputable def ctL : Ctrs := (12, ctrOf (rdNone.sp spTrue)) :: (15, ctrOf ((rdCo.two rdCo).sp spSameCoS)) :: (16, ctrOf ((rdD.two rdD).sp spSameMsgsS)) :: (23, ctrOf ((rdD.two rdD).sp spSameIntsS)) :: (26, ctrOf ((rdMb.two rdMb).sp spSameMbS)) ::
  (13, ctrOf ((rdCo.three rdInt rdInt).sp spStart)) :: (14, ctrOf ((rdCo.three rdInt rdInt).sp spStart)) :: (21, ctrOf (rdCo.one.sp spRes)) :: (22, ctrOf (rdCo.one.sp spRes)) ::
  (24, ctrOf ((rdMb.four rdInt rdInt rdMsg).sp spObey)) :: (25, ctrOf ((rdMb.four rdInt rdInt rdMsg).sp spObey)) :: (27, ctrOf ((rdCo.three rdInt rdMsg).sp spColl)) :: (28, ctrOf ((rdCo.three rdInt rdMsg).sp spColl)) ::
  (29, ctrOf ((rdCo.two rdInt).sp spExp)) :: (30, ctrOf ((rdCo.two rdInt).sp spExp)) :: (36, ctrOf (rdMb.one.sp spIssue)) :: (37, ctrOf (rdMb.one.sp spIssue)) :: ctM

theorem ctLOk : Ctrs.Ok Try.prog ctL := by
  intro x hx
  simp only [ctL, List.mem_cons] at hx
  rcases hx with rfl | rfl | rfl | rfl | rfl | rfl | rfl | rfl | rfl | rfl | rfl | rfl | rfl | rfl | rfl | rfl | rfl | hx
  · exact ctrOf_ok lawAwake
  · exact ctrOf_ok lawSameCoS
  · exact ctrOf_ok lawSameMsgsS
  · exact ctrOf_ok lawSameIntsS
  · exact ctrOf_ok lawSameMbS
  · exact ctrOf_ok (lawStart 13 (.inl rfl))
  · exact ctrOf_ok (lawStart 14 (.inr rfl))
  · exact ctrOf_ok (lawRes 21 (.inl rfl))
  · exact ctrOf_ok (lawRes 22 (.inr rfl))
  · exact ctrOf_ok lawObey1
  · exact ctrOf_ok lawObey2
  · exact ctrOf_ok lawColl1
  · exact ctrOf_ok lawColl2
  · exact ctrOf_ok lawExp1
  · exact ctrOf_ok lawExp2
  · exact ctrOf_ok lawIssue1
  · exact ctrOf_ok lawIssue2
  · exact ctMOk _ hx
end Go.Proofs.Ytoechplbhbalaaa
end
