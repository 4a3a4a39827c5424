/- Layer 21: how its arguments read. -/
import Derived.Test.YtoechplbhbalaaaOvtoM22
import Derived.KernelRfl
import Derived.Test.YtoechplbhbalaaaProg
set_option linter.all false
section
open Go
namespace Sx
abbrev tsCo : List TS := [tsI, tsI, tsI, tsI, .slc tsI, .slc .bool, .bool]
abbrev tsMb : List TS := [tsI, tsI, tsI, tsI, .bool, tsI, .slc tsI, .slc tsI]
abbrev tsCall : List TS := [.st tsMsg, tsI, tsI]

theorem sh_bool {ds : List D} (h : TS.Sh .bool ds) : ∃ b, ds = [.bool b] := by simpa only [TS.Sh] using h
theorem sh_bools {d : D} (h : TS.Sh (.slc .bool) [d]) : d.Is Bool ∧ d.IsSlc ∧ d.len ≤ maxLen := by
  simp only [TS.Sh] at h
  obtain ⟨a, s, rows, h1, h2, h3, h4⟩ := h
  simp only [List.cons.injEq, and_true] at h1
  subst h1
  exact ⟨⟨a, s, rows, rfl, h2.imp id fun h => by rw [h]; rfl, fun r hr => by obtain ⟨n, rfl⟩ := h4 r hr; exact ⟨n, rfl⟩⟩, ⟨_, _, _, rfl⟩, h3⟩

theorem sh_co {ds : List D} (h : TS.ShL tsCo ds) : ∃ a b c e d s v, ds = [.int .i64 a, .int .i64 b, .int .i64 c, .int .i64 e, d, s, .bool v] ∧ d.Is Int ∧ d.IsSlc ∧ s.Is Bool ∧ s.IsSlc := by
  simp only [TS.ShL] at h
  obtain ⟨_, _, rfl, h1, _, _, rfl, h2, _, _, rfl, h3, _, _, rfl, h4, _, _, rfl, h5, _, _, rfl, h6, _, _, rfl, h7, rfl⟩ := h
  obtain ⟨a, rfl, _⟩ := sh_int h1
  obtain ⟨b, rfl, _⟩ := sh_int h2
  obtain ⟨c, rfl, _⟩ := sh_int h3
  obtain ⟨e, rfl, _⟩ := sh_int h4
  obtain ⟨d, rfl, h5⟩ := sh_slc h5
  obtain ⟨s, rfl, h6⟩ := sh_slc h6
  obtain ⟨v, rfl⟩ := sh_bool h7
  exact ⟨a, b, c, e, d, s, v, rfl, (sh_ints h5).1, (sh_ints h5).2.1, (sh_bools h6).1, (sh_bools h6).2.1⟩
theorem sh_mb {ds : List D} (h : TS.ShL tsMb ds) : ∃ a b c e f u w hd, ds = [.int .i64 a, .int .i64 b, .int .i64 c, .int .i64 e, .bool f, .int .i64 u, w, hd] ∧ w.Is Int ∧ w.IsSlc ∧ hd.Is Int ∧ hd.IsSlc := by
  simp only [TS.ShL] at h
  obtain ⟨_, _, rfl, h1, _, _, rfl, h2, _, _, rfl, h3, _, _, rfl, h4, _, _, rfl, h5, _, _, rfl, h6, _, _, rfl, h7, _, _, rfl, h8, rfl⟩ := h
  obtain ⟨a, rfl, _⟩ := sh_int h1
  obtain ⟨b, rfl, _⟩ := sh_int h2
  obtain ⟨c, rfl, _⟩ := sh_int h3
  obtain ⟨e, rfl, _⟩ := sh_int h4
  obtain ⟨f, rfl⟩ := sh_bool h5
  obtain ⟨u, rfl, _⟩ := sh_int h6
  obtain ⟨w, rfl, h7⟩ := sh_slc h7
  obtain ⟨hd, rfl, h8⟩ := sh_slc h8
  exact ⟨a, b, c, e, f, u, w, hd, rfl, (sh_ints h7).1, (sh_ints h7).2.1, (sh_ints h8).1, (sh_ints h8).2.1⟩
theorem sh_call {ds : List D} (h : TS.ShL tsCall ds) : ∃ a b c d e f v w n p, ds = [.int .i64 a, .int .i64 b, .int .i64 c, .int .i64 d, .int .i64 e, .int .i64 f, v, w, .int .i64 n, .int .i64 p] ∧ v.Is Int ∧ v.IsSlc ∧ w.Is Byte ∧ w.IsSlc := by
  unfold tsCall TS.ShL at h
  obtain ⟨_, _, rfl, h1, h⟩ := h
  simp only [TS.ShL] at h
  obtain ⟨_, _, rfl, h2, _, _, rfl, h3, rfl⟩ := h
  obtain ⟨a, b, c, d, e, f, v, w, rfl, k1, k2, k3, k4⟩ := sh_msg (by simpa only [TS.Sh] using h1)
  obtain ⟨n, rfl, _⟩ := sh_int h2
  obtain ⟨p, rfl, _⟩ := sh_int h3
  exact ⟨a, b, c, d, e, f, v, w, n, p, rfl, k1, k2, k3, k4⟩
end Sx
end
section
/- Layer 21: small functions, walked. -/
open Go Go.Proofs Sx
namespace Go.Proofs.Ytoechplbhbalaaa
set_option maxRecDepth 100000
set_option maxHeartbeats 0
noncomputable def intsL (a b : D) (j : Int) : Conf := Conf.mk (SFrm.mk 23 none none [Item.inLoop (cAt Try.prog 23 [1, 1, 0, 1, 0, 0]), Item.inBlock 0, Item.code (cAt Try.prog 23 [1, 1, 1])]
  (mkJ 0 [(0, .dat a), (1, .dat b), (5, .int .i64 j)] 0 26)) [] []
noncomputable def idxL (d : D) (j : Int) : Conf := Conf.mk (SFrm.mk 80 none none [Item.inLoop (cAt Try.prog 80 [1, 0, 1, 0, 0]), Item.inBlock 0, Item.code (cAt Try.prog 80 [1, 1])]
  (mkJ 0 [(0, .dat d), (1, .fn 53 [] []), (7, .int .i64 d.len), (8, .int .i64 j)] 0 19)) [] []
noncomputable def cc2L (nodes round phase deadline : Int) (d s : D) (v : SV) (j : Int) : Conf := Conf.mk (SFrm.mk 18 none none [Item.inLoop (cAt Try.prog 18 [1, 1, 1, 0, 1, 0, 0]), Item.inBlock 0, Item.code (cAt Try.prog 18 [1, 1, 1, 1])]
  (mkJ 0 [(1, .ptr 0 0), (3, .int .i64 j)] 0 85)) [] [(0, .cells 25 [.int .i64 nodes, .int .i64 round, .int .i64 phase, .int .i64 deadline, .dat d, .dat s, v])]
section
variable (n j : Int) (v : SV) (a b d s : D) (nodes round phase deadline now patience : Int) (valid : Bool)
theorem new1_in : exec Try.prog [] 200 (entry Try.prog 19 [.int .i64 n]) =
  Tree.br (decide (n < 1))
    (Tree.ret
      (SV.tup
        [SV.agg
            [SV.int IntKind.i64 0, SV.int IntKind.i64 0, SV.int IntKind.i64 0, SV.int IntKind.i64 0, SV.nils, SV.nils,
              SV.lb false],
          SV.int IntKind.i64 2]))
    (Tree.br (decide (n > 8))
      (Tree.ret
        (SV.tup
          [SV.agg
              [SV.int IntKind.i64 0, SV.int IntKind.i64 0, SV.int IntKind.i64 0, SV.int IntKind.i64 0, SV.nils, SV.nils,
                SV.lb false],
            SV.int IntKind.i64 2]))
      (Tree.all fun hs =>
        Tree.need (0 ≤ n ∧ n = n ∧ (↑8 : Int) * n ≤ 281474976710656 ∧ n ≤ 9223372036854775807)
          (Tree.need (0 ≤ n ∧ n = n ∧ (↑1 : Int) * n ≤ 281474976710656 ∧ n ≤ 9223372036854775807)
            (Tree.ret
              (SV.tup
                [SV.agg
                    [SV.int IntKind.i64 n, SV.int IntKind.i64 0, SV.int IntKind.i64 0, SV.int IntKind.i64 0,
                      SV.dat (D.slc (D.hd (hs 2 0)) 1 (List.replicate (Int.toNat n) [D.int IntKind.i64 0])),
                      SV.dat (D.slc (D.hd (hs 4 0)) 1 (List.replicate (Int.toNat n) [D.bool false])), SV.lb false],
                  SV.int IntKind.i64 0]))))) := by kernel_rfl

theorem new2_in : exec Try.prog [] 200 (entry Try.prog 20 [.int .i64 n]) =
  Tree.br (decide (n < 1))
    (Tree.ret
      (SV.tup
        [SV.agg
            [SV.int IntKind.i64 0, SV.int IntKind.i64 0, SV.int IntKind.i64 0, SV.int IntKind.i64 0, SV.nils, SV.nils,
              SV.lb false],
          SV.int IntKind.i64 2]))
    (Tree.br (decide (n > 8))
      (Tree.ret
        (SV.tup
          [SV.agg
              [SV.int IntKind.i64 0, SV.int IntKind.i64 0, SV.int IntKind.i64 0, SV.int IntKind.i64 0, SV.nils, SV.nils,
                SV.lb false],
            SV.int IntKind.i64 2]))
      (Tree.all fun hs =>
        Tree.need (0 ≤ n ∧ n = n ∧ (↑8 : Int) * n ≤ 281474976710656 ∧ n ≤ 9223372036854775807)
          (Tree.need (0 ≤ n ∧ n = n ∧ (↑1 : Int) * n ≤ 281474976710656 ∧ n ≤ 9223372036854775807)
            (Tree.ret
              (SV.tup
                [SV.agg
                    [SV.int IntKind.i64 n, SV.int IntKind.i64 0, SV.int IntKind.i64 0, SV.int IntKind.i64 0,
                      SV.dat (D.slc (D.hd (hs 2 0)) 1 (List.replicate (Int.toNat n) [D.int IntKind.i64 0])),
                      SV.dat (D.slc (D.hd (hs 4 0)) 1 (List.replicate (Int.toNat n) [D.bool false])), SV.lb false],
                  SV.int IntKind.i64 0]))))) := by kernel_rfl

theorem ints_in : exec Try.prog [] 200 (entry Try.prog 23 [.dat a, .dat b]) =
  Tree.br ((↑(D.len a) : Int) != (↑(D.len b) : Int)) (Tree.ret (SV.lb false))
    (Tree.leaf
      (Conf.mk
        (SFrm.mk 23 none none
          [Item.inLoop (cAt Try.prog 23 [1, 1, 0, 1, 0, 0]), Item.inBlock 0, Item.code (cAt Try.prog 23 [1, 1, 1])]
          (mkJ 0 [(0, SV.dat a), (1, SV.dat b), (5, SV.int IntKind.i64 0)] 0 26))
        [] [])) := by kernel_rfl

theorem idx_in : exec Try.prog [] 200 (entry Try.prog 80 [.dat d, .fn 53 [] []]) =
  Tree.leaf
    (Conf.mk
      (SFrm.mk 80 none none
        [Item.inLoop (cAt Try.prog 80 [1, 0, 1, 0, 0]), Item.inBlock 0, Item.code (cAt Try.prog 80 [1, 1])]
        (mkJ 0 [(0, SV.dat d), (1, SV.fn 53 [] []), (7, SV.int IntKind.i64 (↑(D.len d) : Int)), (8, SV.int IntKind.i64 0)]
          0 19))
      [] []) := by kernel_rfl

theorem any_in : exec Try.prog [(80, ctrOf ((rdD.two (rdFn 53)).sp spIdxBad))] 200 (entry Try.prog 52 [.dat d, .fn 53 [] []]) =
  Tree.need (D.Is Int d ∧ D.len d ≤ 1048576) (Tree.ret (SV.bool (decide (idxP (D.to Int d) badPos ≥ 0)))) := by kernel_rfl

theorem cc1_in : exec Try.prog [(52, ctrOf ((rdD.two (rdFn 53)).sp spAnyBad))] 300 (entry Try.prog 17 [.agg [.int .i64 nodes, .int .i64 round, .int .i64 phase, .int .i64 deadline, .dat d, .dat s, .bool valid]]) =
  Tree.br (decide (nodes < 1))
    (Tree.br (decide (nodes < 1)) (Tree.ret (SV.int IntKind.i64 3))
      (Tree.br ((↑(D.len d) : Int) != nodes)
        (Tree.br ((↑(D.len d) : Int) != nodes) (Tree.ret (SV.int IntKind.i64 3))
          (Tree.need (D.Is Int d ∧ D.len d ≤ 1048576)
            (Tree.br (List.any (D.to Int d) badPos) (Tree.ret (SV.int IntKind.i64 3)) (Tree.ret (SV.int IntKind.i64 0)))))
        (Tree.br ((↑(D.len s) : Int) != nodes)
          (Tree.br ((↑(D.len s) : Int) != nodes) (Tree.ret (SV.int IntKind.i64 3))
            (Tree.need (D.Is Int d ∧ D.len d ≤ 1048576)
              (Tree.br (List.any (D.to Int d) badPos) (Tree.ret (SV.int IntKind.i64 3))
                (Tree.ret (SV.int IntKind.i64 0)))))
          (Tree.br valid
            (Tree.br (phase != 0) (Tree.ret (SV.int IntKind.i64 3))
              (Tree.need (D.Is Int d ∧ D.len d ≤ 1048576)
                (Tree.br (List.any (D.to Int d) badPos) (Tree.ret (SV.int IntKind.i64 3))
                  (Tree.ret (SV.int IntKind.i64 0)))))
            (Tree.need (D.Is Int d ∧ D.len d ≤ 1048576)
              (Tree.br (List.any (D.to Int d) badPos) (Tree.ret (SV.int IntKind.i64 3))
                (Tree.ret (SV.int IntKind.i64 0))))))))
    (Tree.br (decide (nodes > 8))
      (Tree.br (decide (nodes > 8)) (Tree.ret (SV.int IntKind.i64 3))
        (Tree.br ((↑(D.len d) : Int) != nodes)
          (Tree.br ((↑(D.len d) : Int) != nodes) (Tree.ret (SV.int IntKind.i64 3))
            (Tree.need (D.Is Int d ∧ D.len d ≤ 1048576)
              (Tree.br (List.any (D.to Int d) badPos) (Tree.ret (SV.int IntKind.i64 3))
                (Tree.ret (SV.int IntKind.i64 0)))))
          (Tree.br ((↑(D.len s) : Int) != nodes)
            (Tree.br ((↑(D.len s) : Int) != nodes) (Tree.ret (SV.int IntKind.i64 3))
              (Tree.need (D.Is Int d ∧ D.len d ≤ 1048576)
                (Tree.br (List.any (D.to Int d) badPos) (Tree.ret (SV.int IntKind.i64 3))
                  (Tree.ret (SV.int IntKind.i64 0)))))
            (Tree.br valid
              (Tree.br (phase != 0) (Tree.ret (SV.int IntKind.i64 3))
                (Tree.need (D.Is Int d ∧ D.len d ≤ 1048576)
                  (Tree.br (List.any (D.to Int d) badPos) (Tree.ret (SV.int IntKind.i64 3))
                    (Tree.ret (SV.int IntKind.i64 0)))))
              (Tree.need (D.Is Int d ∧ D.len d ≤ 1048576)
                (Tree.br (List.any (D.to Int d) badPos) (Tree.ret (SV.int IntKind.i64 3))
                  (Tree.ret (SV.int IntKind.i64 0))))))))
      (Tree.br (decide (round ≥ 0))
        (Tree.br (!decide (round ≤ 1073741824))
          (Tree.br (!decide (round ≤ 1073741824)) (Tree.ret (SV.int IntKind.i64 3))
            (Tree.br ((↑(D.len d) : Int) != nodes)
              (Tree.br ((↑(D.len d) : Int) != nodes) (Tree.ret (SV.int IntKind.i64 3))
                (Tree.need (D.Is Int d ∧ D.len d ≤ 1048576)
                  (Tree.br (List.any (D.to Int d) badPos) (Tree.ret (SV.int IntKind.i64 3))
                    (Tree.ret (SV.int IntKind.i64 0)))))
              (Tree.br ((↑(D.len s) : Int) != nodes)
                (Tree.br ((↑(D.len s) : Int) != nodes) (Tree.ret (SV.int IntKind.i64 3))
                  (Tree.need (D.Is Int d ∧ D.len d ≤ 1048576)
                    (Tree.br (List.any (D.to Int d) badPos) (Tree.ret (SV.int IntKind.i64 3))
                      (Tree.ret (SV.int IntKind.i64 0)))))
                (Tree.br valid
                  (Tree.br (phase != 0) (Tree.ret (SV.int IntKind.i64 3))
                    (Tree.need (D.Is Int d ∧ D.len d ≤ 1048576)
                      (Tree.br (List.any (D.to Int d) badPos) (Tree.ret (SV.int IntKind.i64 3))
                        (Tree.ret (SV.int IntKind.i64 0)))))
                  (Tree.need (D.Is Int d ∧ D.len d ≤ 1048576)
                    (Tree.br (List.any (D.to Int d) badPos) (Tree.ret (SV.int IntKind.i64 3))
                      (Tree.ret (SV.int IntKind.i64 0))))))))
          (Tree.br (decide (deadline ≥ 0))
            (Tree.br (!decide (deadline ≤ 1073741824))
              (Tree.br (!decide (deadline ≤ 1073741824)) (Tree.ret (SV.int IntKind.i64 3))
                (Tree.br ((↑(D.len d) : Int) != nodes)
                  (Tree.br ((↑(D.len d) : Int) != nodes) (Tree.ret (SV.int IntKind.i64 3))
                    (Tree.need (D.Is Int d ∧ D.len d ≤ 1048576)
                      (Tree.br (List.any (D.to Int d) badPos) (Tree.ret (SV.int IntKind.i64 3))
                        (Tree.ret (SV.int IntKind.i64 0)))))
                  (Tree.br ((↑(D.len s) : Int) != nodes)
                    (Tree.br ((↑(D.len s) : Int) != nodes) (Tree.ret (SV.int IntKind.i64 3))
                      (Tree.need (D.Is Int d ∧ D.len d ≤ 1048576)
                        (Tree.br (List.any (D.to Int d) badPos) (Tree.ret (SV.int IntKind.i64 3))
                          (Tree.ret (SV.int IntKind.i64 0)))))
                    (Tree.br valid
                      (Tree.br (phase != 0) (Tree.ret (SV.int IntKind.i64 3))
                        (Tree.need (D.Is Int d ∧ D.len d ≤ 1048576)
                          (Tree.br (List.any (D.to Int d) badPos) (Tree.ret (SV.int IntKind.i64 3))
                            (Tree.ret (SV.int IntKind.i64 0)))))
                      (Tree.need (D.Is Int d ∧ D.len d ≤ 1048576)
                        (Tree.br (List.any (D.to Int d) badPos) (Tree.ret (SV.int IntKind.i64 3))
                          (Tree.ret (SV.int IntKind.i64 0))))))))
              (Tree.br (decide (phase < 0))
                (Tree.br (decide (phase < 0)) (Tree.ret (SV.int IntKind.i64 3))
                  (Tree.br ((↑(D.len d) : Int) != nodes)
                    (Tree.br ((↑(D.len d) : Int) != nodes) (Tree.ret (SV.int IntKind.i64 3))
                      (Tree.need (D.Is Int d ∧ D.len d ≤ 1048576)
                        (Tree.br (List.any (D.to Int d) badPos) (Tree.ret (SV.int IntKind.i64 3))
                          (Tree.ret (SV.int IntKind.i64 0)))))
                    (Tree.br ((↑(D.len s) : Int) != nodes)
                      (Tree.br ((↑(D.len s) : Int) != nodes) (Tree.ret (SV.int IntKind.i64 3))
                        (Tree.need (D.Is Int d ∧ D.len d ≤ 1048576)
                          (Tree.br (List.any (D.to Int d) badPos) (Tree.ret (SV.int IntKind.i64 3))
                            (Tree.ret (SV.int IntKind.i64 0)))))
                      (Tree.br valid
                        (Tree.br (phase != 0) (Tree.ret (SV.int IntKind.i64 3))
                          (Tree.need (D.Is Int d ∧ D.len d ≤ 1048576)
                            (Tree.br (List.any (D.to Int d) badPos) (Tree.ret (SV.int IntKind.i64 3))
                              (Tree.ret (SV.int IntKind.i64 0)))))
                        (Tree.need (D.Is Int d ∧ D.len d ≤ 1048576)
                          (Tree.br (List.any (D.to Int d) badPos) (Tree.ret (SV.int IntKind.i64 3))
                            (Tree.ret (SV.int IntKind.i64 0))))))))
                (Tree.br (decide (phase > 2)) (Tree.ret (SV.int IntKind.i64 3))
                  (Tree.br ((↑(D.len d) : Int) != nodes)
                    (Tree.br ((↑(D.len d) : Int) != nodes) (Tree.ret (SV.int IntKind.i64 3))
                      (Tree.need (D.Is Int d ∧ D.len d ≤ 1048576)
                        (Tree.br (List.any (D.to Int d) badPos) (Tree.ret (SV.int IntKind.i64 3))
                          (Tree.ret (SV.int IntKind.i64 0)))))
                    (Tree.br ((↑(D.len s) : Int) != nodes)
                      (Tree.br ((↑(D.len s) : Int) != nodes) (Tree.ret (SV.int IntKind.i64 3))
                        (Tree.need (D.Is Int d ∧ D.len d ≤ 1048576)
                          (Tree.br (List.any (D.to Int d) badPos) (Tree.ret (SV.int IntKind.i64 3))
                            (Tree.ret (SV.int IntKind.i64 0)))))
                      (Tree.br valid
                        (Tree.br (phase != 0) (Tree.ret (SV.int IntKind.i64 3))
                          (Tree.need (D.Is Int d ∧ D.len d ≤ 1048576)
                            (Tree.br (List.any (D.to Int d) badPos) (Tree.ret (SV.int IntKind.i64 3))
                              (Tree.ret (SV.int IntKind.i64 0)))))
                        (Tree.need (D.Is Int d ∧ D.len d ≤ 1048576)
                          (Tree.br (List.any (D.to Int d) badPos) (Tree.ret (SV.int IntKind.i64 3))
                            (Tree.ret (SV.int IntKind.i64 0))))))))))
            (Tree.ret (SV.int IntKind.i64 3))))
        (Tree.ret (SV.int IntKind.i64 3)))) := by kernel_rfl

theorem cc2_in : exec Try.prog [] 300 (entry Try.prog 18 [.agg [.int .i64 nodes, .int .i64 round, .int .i64 phase, .int .i64 deadline, .dat d, .dat s, .bool valid]]) =
  Tree.br (decide (nodes < 1)) (Tree.ret (SV.int IntKind.i64 3))
    (Tree.br (decide (nodes > 8)) (Tree.ret (SV.int IntKind.i64 3))
      (Tree.br (decide (round < 0)) (Tree.ret (SV.int IntKind.i64 3))
        (Tree.br (decide (round > 1073741824)) (Tree.ret (SV.int IntKind.i64 3))
          (Tree.br (decide (deadline < 0)) (Tree.ret (SV.int IntKind.i64 3))
            (Tree.br (decide (deadline > 1073741824)) (Tree.ret (SV.int IntKind.i64 3))
              (Tree.br (decide (phase < 0)) (Tree.ret (SV.int IntKind.i64 3))
                (Tree.br (decide (phase > 2)) (Tree.ret (SV.int IntKind.i64 3))
                  (Tree.br ((↑(D.len d) : Int) != nodes) (Tree.ret (SV.int IntKind.i64 3))
                    (Tree.br ((↑(D.len s) : Int) != nodes) (Tree.ret (SV.int IntKind.i64 3))
                      (Tree.br valid
                        (Tree.br (phase != 0) (Tree.ret (SV.int IntKind.i64 3))
                          (Tree.leaf
                            (Conf.mk
                              (SFrm.mk 18 none none
                                [Item.inLoop (cAt Try.prog 18 [1, 1, 1, 0, 1, 0, 0]), Item.inBlock 0,
                                  Item.code (cAt Try.prog 18 [1, 1, 1, 1])]
                                (mkJ 0 [(1, SV.ptr 0 0), (3, SV.int IntKind.i64 0)] 0 85))
                              []
                              [(0,
                                  OBlk.cells 25
                                    [SV.int IntKind.i64 nodes, SV.int IntKind.i64 round, SV.int IntKind.i64 phase,
                                      SV.int IntKind.i64 deadline, SV.dat d, SV.dat s, SV.bool valid])])))
                        (Tree.leaf
                          (Conf.mk
                            (SFrm.mk 18 none none
                              [Item.inLoop (cAt Try.prog 18 [1, 1, 1, 0, 1, 0, 0]), Item.inBlock 0,
                                Item.code (cAt Try.prog 18 [1, 1, 1, 1])]
                              (mkJ 0 [(1, SV.ptr 0 0), (3, SV.int IntKind.i64 0)] 0 85))
                            []
                            [(0,
                                OBlk.cells 25
                                  [SV.int IntKind.i64 nodes, SV.int IntKind.i64 round, SV.int IntKind.i64 phase,
                                    SV.int IntKind.i64 deadline, SV.dat d, SV.dat s, SV.bool valid])])))))))))))) := by kernel_rfl

theorem ints_go : exec Try.prog [] 200 (unroll (intsL a b j)) =
  Tree.br (decide (j < (↑(D.len a) : Int)))
    (Tree.all fun hs =>
      Tree.need (0 ≤ j ∧ j < (↑(D.len a) : Int) ∧ D.sz a = 1)
        (Tree.need (D.HasCell a (Int.toNat j) 0 (FT.int IntKind.i64))
          (Tree.need (0 ≤ j ∧ j < (↑(D.len b) : Int) ∧ D.sz b = 1)
            (Tree.need (D.HasCell b (Int.toNat j) 0 (FT.int IntKind.i64))
              (Tree.br (D.getInt a (Int.toNat j) 0 != D.getInt b (Int.toNat j) 0) (Tree.ret (SV.lb false))
                (Tree.leaf
                  (Conf.mk
                    (SFrm.mk 23 none none
                      [Item.inLoop (cAt Try.prog 23 [1, 1, 0, 1, 0, 0]), Item.inBlock 0,
                        Item.code (cAt Try.prog 23 [1, 1, 1])]
                      (mkJ 0 [(0, SV.dat a), (1, SV.dat b), (5, SV.int IntKind.i64 (IntKind.wrap IntKind.i64 (j + 1)))] 0
                        26))
                    [] [])))))))
    (Tree.ret (SV.lb true)) := by kernel_rfl

theorem idx_go : exec Try.prog [] 200 (unroll (idxL d j)) =
  Tree.br (decide (j < (↑(D.len d) : Int)))
    (Tree.need (0 ≤ j ∧ j < (↑(D.len d) : Int) ∧ D.sz d = 1)
      (Tree.need (D.HasCell d (Int.toNat j) 0 (FT.int IntKind.i64))
        (Tree.br (decide (D.getInt d (Int.toNat j) 0 < 0)) (Tree.ret (SV.int IntKind.i64 j))
          (Tree.br (decide (D.getInt d (Int.toNat j) 0 > 4096)) (Tree.ret (SV.int IntKind.i64 j))
            (Tree.leaf
              (Conf.mk
                (SFrm.mk 80 none none
                  [Item.inLoop (cAt Try.prog 80 [1, 0, 1, 0, 0]), Item.inBlock 0, Item.code (cAt Try.prog 80 [1, 1])]
                  (mkJ 0
                    [(0, SV.dat d), (1, SV.fn 53 [] []), (7, SV.int IntKind.i64 (↑(D.len d) : Int)),
                      (8, SV.int IntKind.i64 (IntKind.wrap IntKind.i64 (j + 1)))]
                    0 19))
                [] []))))))
    (Tree.ret (SV.int IntKind.i64 (Int.neg 1))) := by kernel_rfl

theorem cc2_go : exec Try.prog [] 200 (unroll (cc2L nodes round phase deadline d s (.bool valid) j)) =
  Tree.br (decide (j < nodes))
    (Tree.need (0 ≤ j ∧ j < (↑(D.len d) : Int) ∧ D.sz d = 1)
      (Tree.need (D.HasCell d (Int.toNat j) 0 (FT.int IntKind.i64))
        (Tree.br (decide (D.getInt d (Int.toNat j) 0 < 0)) (Tree.ret (SV.int IntKind.i64 3))
          (Tree.need (0 ≤ j ∧ j < (↑(D.len d) : Int) ∧ D.sz d = 1)
            (Tree.need (D.HasCell d (Int.toNat j) 0 (FT.int IntKind.i64))
              (Tree.br (decide (D.getInt d (Int.toNat j) 0 > 4096)) (Tree.ret (SV.int IntKind.i64 3))
                (Tree.leaf
                  (Conf.mk
                    (SFrm.mk 18 none none
                      [Item.inLoop (cAt Try.prog 18 [1, 1, 1, 0, 1, 0, 0]), Item.inBlock 0,
                        Item.code (cAt Try.prog 18 [1, 1, 1, 1])]
                      (mkJ 0 [(1, SV.ptr 0 0), (3, SV.int IntKind.i64 (IntKind.wrap IntKind.i64 (j + 1)))] 0 85))
                    []
                    [(0,
                        OBlk.cells 25
                          [SV.int IntKind.i64 nodes, SV.int IntKind.i64 round, SV.int IntKind.i64 phase,
                            SV.int IntKind.i64 deadline, SV.dat d, SV.dat s, SV.bool valid])]))))))))
    (Tree.ret (SV.int IntKind.i64 0)) := by kernel_rfl

theorem tm_in : exec Try.prog [] 200 (entry Try.prog 49 [.int .i64 n]) =
  Tree.br (decide (n ≥ 0)) (Tree.ret (SV.bool (decide (n ≤ 1073741824)))) (Tree.ret (SV.lb false)) := by kernel_rfl

end
end Go.Proofs.Ytoechplbhbalaaa
end
section
/- Layer 21: the laws of the small functions. -/
open Go Go.Proofs Sx
namespace Sx
theorem wrap_id {j : Nat} (hn : j ≤ 1048576) : IntKind.i64.wrap (j : Int) = (j : Int) := by rw [wrap64 (by omega) (by omega)]

section
variable {P : Program} {w : World} {H : HV}
theorem lb_den {b : Bool} : ∀ E, (SV.lb b).den E = (SV.bool b).den E := fun _ => by simp [SV.den]
theorem ret_coE {n r p dl k : Int} {X Y V : SV} {ps : List Int} {ss : List Bool} {v : Bool} {res : Co × Int} (hx : Stands Int X ps) (hy : Stands Bool Y ss) (hv : ∀ E, V.den E = (SV.bool v).den E) (hr : res = (⟨n, r, p, dl, ps, ss, v⟩, k)) :
    (Tree.ret (.tup [.agg [.int .i64 n, .int .i64 r, .int .i64 p, .int .i64 dl, X, Y, V], .int .i64 k])).holds P ⟨w, H⟩ (RetD w H fun ds => .tup [coSV (ds 0) (ds 1) res.1, .int .i64 res.2]) := by
  subst hr
  obtain ⟨d, h1, h2, h3, h4⟩ := hx
  obtain ⟨d', h1', h2', h3', h4'⟩ := hy
  refine ret_D (fun i => match i with | 0 => d | _ => d') (fun E E' => ?_) (fun H' ho => ?_)
  · have : V.den E = (SV.bool v).den E' := by rw [hv]; rfl
    simp only [SV.den, SV.denL, coSV, D.like_self h2 h3, D.like_self h2' h3', h1, h1', this]
  · simp only [SV.Ok, SV.OkL, coSV, D.like_self h2 h3, D.like_self h2' h3'] at ho ⊢
    exact ⟨⟨trivial, trivial, trivial, trivial, ⟨h4 _ ho.1.2.2.2.2.1, h2.slc⟩, ⟨h4' _ ho.1.2.2.2.2.2.1, h2'.slc⟩, trivial, trivial⟩, trivial, trivial⟩
end

theorem idxP_any (xs : List Int) (p : Int → Bool) : decide (idxP xs p ≥ 0) = xs.any p := by
  rw [Bool.eq_iff_iff]
  simp only [idxP, ge_iff_le, decide_eq_true_eq]
  cases hf : xs.findIdx? p with
  | none =>
    rw [List.findIdx?_eq_none_iff] at hf
    simp only
    constructor
    · intro h; omega
    · intro h
      obtain ⟨x, h1, h2⟩ := List.any_eq_true.1 h
      rw [hf x h1] at h2; cases h2
  | some i =>
    rw [List.findIdx?_eq_some_iff_getElem] at hf
    obtain ⟨hi, h1, _⟩ := hf
    have : xs.any p = true := List.any_eq_true.2 ⟨_, List.getElem_mem hi, h1⟩
    simp only [this, iff_true]
    omega

theorem checkCo_first {n r p dl : Int} {ps : List Int} {ss : List Bool} {v : Bool} (h : checkCo ⟨n, r, p, dl, ps, ss, v⟩ = 0) : 1 ≤ n ∧ n ≤ 8 ∧ ps.length = n.toNat ∧ ss.length = n.toNat := by
  unfold checkCo at h
  split at h
  · cases h
  · split at h
    · cases h
    · rename_i h1 h2
      simp only [not_or] at h1 h2
      omega

theorem zeros_rows {n : Int} (h : Hd) : Stands Int (.dat (.slc h 1 (List.replicate (Int.toNat n) [D.int IntKind.i64 0]))) (List.replicate n.toNat 0) :=
  stands_rows rfl ⟨fun r hr => by rw [List.eq_of_mem_replicate hr]; exact ok_int 0, by simp [List.map_replicate]⟩
theorem falses_rows {n : Int} (h : Hd) : Stands Bool (.dat (.slc h 1 (List.replicate (Int.toNat n) [D.bool false]))) (List.replicate n.toNat false) :=
  stands_rows rfl ⟨fun r hr => by rw [List.eq_of_mem_replicate hr]; exact ok_bool false, by simp [List.map_replicate]⟩
end Sx

namespace Go.Proofs.Ytoechplbhbalaaa

theorem lawIdx : Law Try.prog 80 ((rdD.two (rdFn 53)).sp spIdxBad) := by
  refine law_in _ (by kernel_rfl) fun H w ⟨d, u⟩ hok hp => ?_
  obtain ⟨hd, hlen⟩ := hp _ (List.mem_singleton.2 rfl)
  simp only at hd hlen
  rw [D.Is.length (α := Int)] at hlen
  apply exec_sound (noCtr _) 200
  rw [show (rdD.two (rdFn 53)).canon (d, u) = [.dat d, .fn 53 [] []] from rfl, idx_in]
  refine runs_loop (fun j : Nat => idxL d j) (fun j => j ≤ (d.to Int).length ∧ ((d.to Int).take j).findIdx? badPos = none) (fun j => (d.to Int).length - j) (fun _ => rfl) ?_ 0 ⟨Nat.zero_le _, by simp⟩
  intro j ⟨hj, hpre⟩ ih
  apply exec_sound (noCtr _) 200
  rw [idx_go]
  have hl := D.Is.length (α := Int) d
  have found : ∀ hc : j < (d.to Int).length, badPos (d.to Int)[j] = true → (d.to Int).findIdx? badPos = some j := by
    intro hc hb
    rw [List.findIdx?_eq_some_iff_getElem]
    refine ⟨hc, hb, fun i hi => ?_⟩
    rw [List.findIdx?_eq_none_iff] at hpre
    have := hpre (d.to Int)[i] (List.mem_take_iff_getElem.2 ⟨i, by omega, rfl⟩)
    simp [this]
  refine ⟨fun hc => ?_, fun hc => ?_⟩
  · simp [hl] at hc
    obtain ⟨c1, c2, c3⟩ := int_at hd hc
    rw [c3]
    refine ⟨c1, c2, fun hc2 => ret_int ?_, fun hc2 => ⟨fun hc3 => ret_int ?_, fun hc3 => ?_⟩⟩
    · simp only [idxP, found hc (by simp [badPos, hc2])]
    · simp only [idxP, found hc (by simp [badPos, hc3])]
    · have := ih (j + 1) ⟨hc, by rw [List.take_succ_eq_append_getElem hc, List.findIdx?_append, hpre]; simp at hc2 hc3; simp [badPos]; omega⟩ (by omega)
      rw [← wrap_succ hc hlen] at this
      exact this
  · simp [hl] at hc
    have : j = (d.to Int).length := by omega
    subst this
    rw [List.take_length] at hpre
    exact ret_int (by simp only [idxP, hpre]; rfl)

theorem ctIdx : Ctrs.Ok Try.prog [(80, ctrOf ((rdD.two (rdFn 53)).sp spIdxBad))] := by
  intro x hx
  rw [List.mem_singleton.1 hx]
  exact ctrOf_ok lawIdx

theorem lawAny : Law Try.prog 52 ((rdD.two (rdFn 53)).sp spAnyBad) := by
  refine law_in _ (by kernel_rfl) fun H w ⟨d, u⟩ hok hp => ?_
  apply exec_sound ctIdx 200
  rw [show (rdD.two (rdFn 53)).canon (d, u) = [.dat d, .fn 53 [] []] from rfl, any_in]
  exact ⟨hp _ (List.mem_singleton.2 rfl), ret_bool (idxP_any _ _)⟩

theorem ctAny : Ctrs.Ok Try.prog [(52, ctrOf ((rdD.two (rdFn 53)).sp spAnyBad))] := by
  intro x hx
  rw [List.mem_singleton.1 hx]
  exact ctrOf_ok lawAny

theorem lawNew (f : FuncId) (hf : f = 19 ∨ f = 20) : Law Try.prog f (rdInt.one.sp spNewCo) := by
  rcases hf with rfl | rfl
  all_goals
    refine law_in _ (by kernel_rfl) fun H w n hok hp => ?_
    clear hp hok
    apply exec_sound (noCtr _) 200
    rw [show rdInt.one.canon n = [.int .i64 n] from rfl]
    first | rw [new1_in] | rw [new2_in]
    refine ⟨fun hc => ?_, fun hc => ⟨fun hc2 => ?_, fun hc2 hs => ?_⟩⟩
    · exact ret_coE stands_nils stands_nils lb_den (by simp at hc; simp [newCo, hc])
    · exact ret_coE stands_nils stands_nils lb_den (by simp at hc2; simp [newCo, hc2])
    · simp only [decide_eq_false_iff_not] at hc hc2
      refine ⟨by simp; omega, by simp; omega, ?_⟩
      exact ret_coE (zeros_rows _) (falses_rows _) lb_den (by rw [newCo, if_neg (by omega)])

theorem lawSameInts : Law Try.prog 23 ((rdD.two rdD).sp spSameInts) := by
  refine law_in _ (by kernel_rfl) fun H w ⟨a, b⟩ hok hp => ?_
  obtain ⟨ha, hb, hlen⟩ := hp _ (List.mem_singleton.2 rfl)
  simp only at ha hb hlen
  have hla := D.Is.length (α := Int) a
  have hlb := D.Is.length (α := Int) b
  rw [hla] at hlen
  apply exec_sound (noCtr _) 200
  rw [show (rdD.two rdD).canon (a, b) = [.dat a, .dat b] from rfl, ints_in]
  refine ⟨fun hc => ret_lb ?_, fun hc => ?_⟩
  · simp [hla, hlb] at hc
    symm
    simp only [decide_eq_false_iff_not]
    intro he; apply hc; rw [he]
  simp [hla, hlb] at hc
  have hc' : (a.to Int).length = (b.to Int).length := by omega
  refine runs_loop (fun j : Nat => intsL a b j) (fun j => j ≤ (a.to Int).length ∧ (a.to Int).take j = (b.to Int).take j) (fun j => (a.to Int).length - j) (fun _ => rfl) ?_ 0 ⟨Nat.zero_le _, by simp⟩
  intro j ⟨hj, hpre⟩ ih
  apply exec_sound (noCtr _) 200
  rw [ints_go]
  refine ⟨fun hx => ?_, fun hx => ?_⟩
  · simp [hla] at hx
    have hy : j < (b.to Int).length := by omega
    obtain ⟨c1, c2, c3⟩ := int_at ha hx
    obtain ⟨e1, e2, e3⟩ := int_at hb hy
    rw [c3, e3]
    refine fun hs => ⟨c1, c2, e1, e2, fun hn => ret_lb ?_, fun hn => ?_⟩
    · simp only [bne_iff_ne, ne_eq] at hn
      symm
      simp only [decide_eq_false_iff_not]
      intro he
      apply hn
      simp only [he]
    · simp only [bne_eq_false_iff_eq] at hn
      have := ih (j + 1) ⟨hx, by rw [List.take_succ_eq_append_getElem hx, List.take_succ_eq_append_getElem hy, hpre, hn]⟩ (by omega)
      rw [← wrap_succ hx hlen] at this
      exact this
  · simp [hla] at hx
    have : j = (a.to Int).length := by omega
    subst this
    rw [List.take_length] at hpre
    refine ret_lb ?_
    symm
    simp only [decide_eq_true_eq]
    rw [hpre, hc', List.take_length]

theorem cc2_loop {H : HV} {d s : D} (hd : d.Is Int) (nodes round phase deadline : Int) (valid : Bool) (w : World) (h1 : (d.to Int).length = nodes) (h8 : nodes ≤ 8) (k : Int)
    (hk : k = if (d.to Int).any badPos = true then 3 else 0) :
    Runs Try.prog ⟨w, H⟩ (cc2L nodes round phase deadline d s (.bool valid) 0) (RetS w H (.int .i64 k)) := by
  have hl := D.Is.length (α := Int) d
  refine runs_loop (fun j : Nat => cc2L nodes round phase deadline d s (.bool valid) j) (fun j => j ≤ (d.to Int).length ∧ ((d.to Int).take j).any badPos = false) (fun j => (d.to Int).length - j) (fun _ => rfl) ?_ 0 ⟨Nat.zero_le _, by simp⟩
  intro j ⟨hj, hpre⟩ ih
  apply exec_sound (noCtr _) 200
  rw [cc2_go]
  have found : ∀ hc : j < (d.to Int).length, badPos (d.to Int)[j] = true → (d.to Int).any badPos = true := fun hc hb => List.any_eq_true.2 ⟨_, List.getElem_mem hc, hb⟩
  refine ⟨fun hc => ?_, fun hc => ?_⟩
  · simp only [decide_eq_true_eq] at hc
    have hc : j < (d.to Int).length := by omega
    obtain ⟨c1, c2, c3⟩ := int_at hd hc
    rw [c3]
    refine ⟨c1, c2, fun hc2 => ret_int ?_, fun hc2 => ⟨c1, c2, fun hc3 => ret_int ?_, fun hc3 => ?_⟩⟩
    · rw [hk, found hc (by simp [badPos, hc2])]; rfl
    · rw [hk, found hc (by simp [badPos, hc3])]; rfl
    · have := ih (j + 1) ⟨hc, by rw [List.take_succ_eq_append_getElem hc, List.any_append, hpre]; simp at hc2 hc3; simp [badPos]; omega⟩ (by omega)
      rw [← wrap_succ hc (by omega)] at this
      exact this
  · simp only [decide_eq_false_iff_not] at hc
    have : j = (d.to Int).length := by omega
    subst this
    rw [List.take_length] at hpre
    exact ret_int (by rw [hk, hpre]; rfl)

theorem lawCC1 : Law Try.prog 17 (rdCo.one.sp spCC) := by
  refine law_in _ (by kernel_rfl) fun H w ⟨n, r, p, dl, d, s, v⟩ hok hp => ?_
  obtain ⟨hd, hs⟩ := hp _ (List.mem_singleton.2 rfl)
  simp only at hd hs
  clear hp hok
  have hl := D.Is.length (α := Int) d
  have hl2 := D.Is.length (α := Bool) s
  apply exec_sound ctAny 300
  rw [show rdCo.one.canon ⟨n, r, p, dl, d, s, v⟩ = [.agg [.int .i64 n, .int .i64 r, .int .i64 p, .int .i64 dl, .dat d, .dat s, .bool v]] from rfl, cc1_in]
  simp only [CoD.co]
  have h3 : ∀ b : Bool, b = (d.to Int).any badPos → b = b := fun _ _ => rfl
  repeat' first
    | refine ⟨fun hc => ?_, fun hc => ?_⟩
    | refine ⟨⟨hd, by simp at *; omega⟩, ?_⟩
    | refine ret_int ?_
    | fail
  all_goals (simp only [decide_eq_true_eq, decide_eq_false_iff_not, bne_iff_ne, ne_eq, bne_eq_false_iff_eq, Bool.not_eq_true', Bool.not_eq_false', Decidable.not_not, ge_iff_le, gt_iff_lt, hl, hl2] at *; simp [checkCo, okTime, *] <;> omega)
theorem lawCC2 : Law Try.prog 18 (rdCo.one.sp spCC) := by
  refine law_in _ (by kernel_rfl) fun H w ⟨n, r, p, dl, d, s, v⟩ hok hp => ?_
  obtain ⟨hd, hs⟩ := hp _ (List.mem_singleton.2 rfl)
  simp only at hd hs
  clear hp hok
  have hl := D.Is.length (α := Int) d
  have hl2 := D.Is.length (α := Bool) s
  apply exec_sound (noCtr _) 300
  rw [show rdCo.one.canon ⟨n, r, p, dl, d, s, v⟩ = [.agg [.int .i64 n, .int .i64 r, .int .i64 p, .int .i64 dl, .dat d, .dat s, .bool v]] from rfl, cc2_in]
  simp only [CoD.co]
  repeat' first
    | refine ⟨fun hc => ?_, fun hc => ?_⟩
    | refine ret_int ?_
    | fail
  all_goals first
    | (refine cc2_loop hd n r p dl v w ?_ ?_ _ ?_ <;> simp only [decide_eq_true_eq, decide_eq_false_iff_not, bne_iff_ne, ne_eq, bne_eq_false_iff_eq, Bool.not_eq_true', Bool.not_eq_false', Decidable.not_not, ge_iff_le, gt_iff_lt, hl, hl2] at * <;> first | omega | (simp [checkCo, okTime, *] <;> omega))
    | (simp only [decide_eq_true_eq, decide_eq_false_iff_not, bne_iff_ne, ne_eq, bne_eq_false_iff_eq, Bool.not_eq_true', Bool.not_eq_false', Decidable.not_not, ge_iff_le, gt_iff_lt, hl, hl2] at *; simp [checkCo, okTime, *] <;> omega)
end Go.Proofs.Ytoechplbhbalaaa
end
section
/- Layer 21: Clone, all, the comparisons, walked. -/
open Go Go.Proofs Sx
namespace Go.Proofs.Ytoechplbhbalaaa
set_option maxRecDepth 100000
set_option maxHeartbeats 0
noncomputable def all1L (d out : D) (kind n i : Int) : Conf := Conf.mk (SFrm.mk 50 none none [Item.inLoop (cAt Try.prog 50 [1, 1, 0, 1, 0, 0]), Item.inBlock 0, Item.code (cAt Try.prog 50 [1, 1, 1])]
  (mkJ 0 [(0, .elt d 0 0), (1, .int .i64 kind), (5, .vec 0), (11, .int .i64 n), (12, .int .i64 i)] 0 33)) [] [(0, .arr 50 out)]
noncomputable def all2L (nodes round phase deadline : Int) (d s out : D) (v : SV) (kind i : Int) : Conf := Conf.mk (SFrm.mk 51 none none [Item.inLoop (cAt Try.prog 51 [1, 1, 0, 1, 0, 0]), Item.inBlock 0, Item.code (cAt Try.prog 51 [1, 1, 1])]
  (mkJ 0 [(1, .int .i64 kind), (2, .ptr 0 0), (5, .vec 1), (6, .int .i64 i)] 0 24)) [] [(0, .cells 25 [.int .i64 nodes, .int .i64 round, .int .i64 phase, .int .i64 deadline, .dat d, .dat s, v]), (1, .arr 50 out)]
noncomputable def samecoL (n r p dl n' r' p' dl' : Int) (d s d' s' : D) (v v' : Bool) (j : Int) : Conf := Conf.mk (SFrm.mk 15 none none [Item.inLoop (cAt Try.prog 15 [1, 1, 0, 1, 0, 0]), Item.inBlock 0, Item.code (cAt Try.prog 15 [1, 1, 1])]
  (mkJ 0 [(2, .ptr 0 0), (3, .ptr 1 0), (5, .int .i64 j)] 0 74)) [] [(0, .cells 25 [.int .i64 n, .int .i64 r, .int .i64 p, .int .i64 dl, .dat d, .dat s, .bool v]), (1, .cells 25 [.int .i64 n', .int .i64 r', .int .i64 p', .int .i64 dl', .dat d', .dat s', .bool v'])]
noncomputable def samemsL (a b : D) (j : Int) : Conf := Conf.mk (SFrm.mk 16 none none [Item.inLoop (cAt Try.prog 16 [1, 1, 0, 1, 0, 0]), Item.inBlock 0, Item.code (cAt Try.prog 16 [1, 1, 1])]
  (mkJ 0 [(0, .dat a), (1, .dat b), (5, .int .i64 j)] 0 84)) [] []
section
variable (n j i : Int) (v : SV) (a b d s out d' s' : D) (nodes round phase deadline now patience kind n' r p dl r' p' dl' : Int) (valid valid' : Bool)
theorem cl1_in : execT Try.prog [] (fun _ => false) 19 (entry Try.prog 54 [.dat d]) =
  Tree.br
    (nilOf
      (evS
        (putS [SV.dat d, SV.undef, SV.nils, SV.undef, SV.undef, SV.undef, SV.undef, SV.undef] (some 3)
          (evS [SV.dat d, SV.undef, SV.nils, SV.undef, SV.undef, SV.undef, SV.undef, SV.undef] (Operand.tmp 0)))
        (Operand.tmp 3))
      d)
    (Tree.ret SV.nils)
    (Tree.all fun hs =>
      Tree.need
        (D.sz (D.slc (D.hd (hs 0 0)) 1 []) = 1 ∧
          D.Fits d 1 ∧
            (D.len (D.slc (D.hd (hs 0 0)) 1 []) + D.len d) * 8 ≤ 140737488355328 ∧
              D.len (D.slc (D.hd (hs 0 0)) 1 []) + D.len d ≤ 9223372036854775807)
        (Tree.all fun hs_1 =>
          Tree.leaf
            (Conf.mk
              (SFrm.mk 54 none none [Item.code (cAt Try.prog 54 [1, 0, 1, 0, 1])]
                (mkU
                  [(0, SV.dat d), (2, SV.vec 1007), (3, SV.dat d),
                    (4,
                      SV.bool
                        (nilOf
                          (evS
                            (putS [SV.dat d, SV.undef, SV.nils, SV.undef, SV.undef, SV.undef, SV.undef, SV.undef] (some 3)
                              (evS [SV.dat d, SV.undef, SV.nils, SV.undef, SV.undef, SV.undef, SV.undef, SV.undef]
                                (Operand.tmp 0)))
                            (Operand.tmp 3))
                          d)),
                    (5, SV.vec 1005), (6, SV.dat d), (7, SV.vec 1007)]
                  0 8))
              []
              [(1007,
                  OBlk.arr 3
                    (D.slc (D.hd (hs_1 0 0)) 1 (List.append (D.rows (D.slc (D.hd (hs 0 0)) 1 [])) (D.rows d))))]))) := by kernel_rfl

theorem cl2_in : execT Try.prog [] (fun _ => false) 19 (entry Try.prog 82 [.dat d]) =
  Tree.br
    (nilOf
      (evS
        (putS [SV.dat d, SV.undef, SV.nils, SV.undef, SV.undef, SV.undef, SV.undef, SV.undef] (some 3)
          (evS [SV.dat d, SV.undef, SV.nils, SV.undef, SV.undef, SV.undef, SV.undef, SV.undef] (Operand.tmp 0)))
        (Operand.tmp 3))
      d)
    (Tree.ret SV.nils)
    (Tree.all fun hs =>
      Tree.need
        (D.sz (D.slc (D.hd (hs 0 0)) 1 []) = 1 ∧
          D.Fits d 1 ∧
            (D.len (D.slc (D.hd (hs 0 0)) 1 []) + D.len d) * 1 ≤ 140737488355328 ∧
              D.len (D.slc (D.hd (hs 0 0)) 1 []) + D.len d ≤ 9223372036854775807)
        (Tree.all fun hs_1 =>
          Tree.leaf
            (Conf.mk
              (SFrm.mk 82 none none [Item.code (cAt Try.prog 82 [1, 0, 1, 0, 1])]
                (mkU
                  [(0, SV.dat d), (2, SV.vec 1007), (3, SV.dat d),
                    (4,
                      SV.bool
                        (nilOf
                          (evS
                            (putS [SV.dat d, SV.undef, SV.nils, SV.undef, SV.undef, SV.undef, SV.undef, SV.undef] (some 3)
                              (evS [SV.dat d, SV.undef, SV.nils, SV.undef, SV.undef, SV.undef, SV.undef, SV.undef]
                                (Operand.tmp 0)))
                            (Operand.tmp 3))
                          d)),
                    (5, SV.vec 1005), (6, SV.dat d), (7, SV.vec 1007)]
                  0 8))
              []
              [(1007,
                  OBlk.arr 4
                    (D.slc (D.hd (hs_1 0 0)) 1 (List.append (D.rows (D.slc (D.hd (hs 0 0)) 1 [])) (D.rows d))))]))) := by kernel_rfl

theorem all1_in : exec Try.prog [] 200 (entry Try.prog 50 [.elt d 0 0, .int .i64 kind]) =
  Tree.need (D.HasCell d 0 0 (FT.int IntKind.i64))
    (Tree.leaf
      (Conf.mk
        (SFrm.mk 50 none none
          [Item.inLoop (cAt Try.prog 50 [1, 1, 0, 1, 0, 0]), Item.inBlock 0, Item.code (cAt Try.prog 50 [1, 1, 1])]
          (mkJ 0
            [(0, SV.elt d 0 0), (1, SV.int IntKind.i64 kind), (5, SV.nils), (11, SV.int IntKind.i64 (D.getInt d 0 0)),
              (12, SV.int IntKind.i64 0)]
            0 33))
        [] [])) := by kernel_rfl

theorem all1_go : exec Try.prog [] 200 (unroll (all1L d out kind n i)) =
  Tree.br (decide (i < n))
    (Tree.all fun hs =>
      Tree.need (D.HasCell d 0 0 (FT.int IntKind.i64))
        (Tree.need (D.HasCell d 0 1 (FT.int IntKind.i64))
          (Tree.need
            (D.sz out = 8 ∧
              D.Fits
                  (D.slc (D.hd (hs 14 0)) 8
                    [[D.int IntKind.i64 kind, D.int IntKind.i64 (D.getInt d 0 0), D.int IntKind.i64 i,
                        D.int IntKind.i64 (D.getInt d 0 1), D.int IntKind.i64 0, D.int IntKind.i64 0, D.slc none 0 [],
                        D.slc none 0 []]])
                  8 ∧
                (D.len out +
                        D.len
                          (D.slc (D.hd (hs 14 0)) 8
                            [[D.int IntKind.i64 kind, D.int IntKind.i64 (D.getInt d 0 0), D.int IntKind.i64 i,
                                D.int IntKind.i64 (D.getInt d 0 1), D.int IntKind.i64 0, D.int IntKind.i64 0,
                                D.slc none 0 [], D.slc none 0 []]])) *
                      96 ≤
                    140737488355328 ∧
                  D.len out +
                      D.len
                        (D.slc (D.hd (hs 14 0)) 8
                          [[D.int IntKind.i64 kind, D.int IntKind.i64 (D.getInt d 0 0), D.int IntKind.i64 i,
                              D.int IntKind.i64 (D.getInt d 0 1), D.int IntKind.i64 0, D.int IntKind.i64 0,
                              D.slc none 0 [], D.slc none 0 []]]) ≤
                    9223372036854775807)
            (Tree.leaf
              (Conf.mk
                (SFrm.mk 50 none none
                  [Item.inLoop (cAt Try.prog 50 [1, 1, 0, 1, 0, 0]), Item.inBlock 0,
                    Item.code (cAt Try.prog 50 [1, 1, 1])]
                  (mkJ 0
                    [(0, SV.elt d 0 0), (1, SV.int IntKind.i64 kind), (5, SV.vec 0), (11, SV.int IntKind.i64 n),
                      (12, SV.int IntKind.i64 (IntKind.wrap IntKind.i64 (i + 1)))]
                    0 33))
                []
                [(0,
                    OBlk.arr 50
                      (D.slc (D.hd (hs 15 0)) 8
                        (List.append (D.rows out)
                          (D.rows
                            (D.slc (D.hd (hs 14 0)) 8
                              [[D.int IntKind.i64 kind, D.int IntKind.i64 (D.getInt d 0 0), D.int IntKind.i64 i,
                                  D.int IntKind.i64 (D.getInt d 0 1), D.int IntKind.i64 0, D.int IntKind.i64 0,
                                  D.slc none 0 [], D.slc none 0 []]])))))])))))
    (Tree.ret (SV.dat out)) := by kernel_rfl

theorem all2_in : exec Try.prog [] 200 (entry Try.prog 51 [.agg [.int .i64 nodes, .int .i64 round, .int .i64 phase, .int .i64 deadline, .dat d, .dat s, .bool valid], .int .i64 kind]) =
  Tree.leaf
    (Conf.mk
      (SFrm.mk 51 none none
        [Item.inLoop (cAt Try.prog 51 [1, 1, 0, 1, 0, 0]), Item.inBlock 0, Item.code (cAt Try.prog 51 [1, 1, 1])]
        (mkJ 0 [(1, SV.int IntKind.i64 kind), (2, SV.ptr 0 0), (5, SV.nils), (6, SV.int IntKind.i64 0)] 0 24))
      []
      [(0,
          OBlk.cells 25
            [SV.int IntKind.i64 nodes, SV.int IntKind.i64 round, SV.int IntKind.i64 phase, SV.int IntKind.i64 deadline,
              SV.dat d, SV.dat s, SV.bool valid])]) := by kernel_rfl

theorem all2_go : exec Try.prog [] 200 (unroll (all2L nodes round phase deadline d s out (.bool valid) kind i)) =
  Tree.br (decide (i < nodes))
    (Tree.all fun hs =>
      Tree.need
        (D.sz out = 8 ∧
          D.Fits
              (D.slc (D.hd (hs 0 0)) 8
                [[D.int IntKind.i64 kind, D.int IntKind.i64 nodes, D.int IntKind.i64 i, D.int IntKind.i64 round,
                    D.int IntKind.i64 0, D.int IntKind.i64 0, D.slc none 0 [], D.slc none 0 []]])
              8 ∧
            (D.len out +
                    D.len
                      (D.slc (D.hd (hs 0 0)) 8
                        [[D.int IntKind.i64 kind, D.int IntKind.i64 nodes, D.int IntKind.i64 i, D.int IntKind.i64 round,
                            D.int IntKind.i64 0, D.int IntKind.i64 0, D.slc none 0 [], D.slc none 0 []]])) *
                  96 ≤
                140737488355328 ∧
              D.len out +
                  D.len
                    (D.slc (D.hd (hs 0 0)) 8
                      [[D.int IntKind.i64 kind, D.int IntKind.i64 nodes, D.int IntKind.i64 i, D.int IntKind.i64 round,
                          D.int IntKind.i64 0, D.int IntKind.i64 0, D.slc none 0 [], D.slc none 0 []]]) ≤
                9223372036854775807)
        (Tree.all fun hs_1 =>
          Tree.leaf
            (Conf.mk
              (SFrm.mk 51 none none
                [Item.inLoop (cAt Try.prog 51 [1, 1, 0, 1, 0, 0]), Item.inBlock 0, Item.code (cAt Try.prog 51 [1, 1, 1])]
                (mkJ 0
                  [(1, SV.int IntKind.i64 kind), (2, SV.ptr 0 0), (5, SV.vec 1),
                    (6, SV.int IntKind.i64 (IntKind.wrap IntKind.i64 (i + 1)))]
                  0 24))
              []
              [(0,
                  OBlk.cells 25
                    [SV.int IntKind.i64 nodes, SV.int IntKind.i64 round, SV.int IntKind.i64 phase,
                      SV.int IntKind.i64 deadline, SV.dat d, SV.dat s, SV.bool valid]),
                (1,
                  OBlk.arr 50
                    (D.slc (D.hd (hs_1 0 0)) 8
                      (List.append (D.rows out)
                        (D.rows
                          (D.slc (D.hd (hs 0 0)) 8
                            [[D.int IntKind.i64 kind, D.int IntKind.i64 nodes, D.int IntKind.i64 i,
                                D.int IntKind.i64 round, D.int IntKind.i64 0, D.int IntKind.i64 0, D.slc none 0 [],
                                D.slc none 0 []]])))))])))
    (Tree.ret (SV.dat out)) := by kernel_rfl

theorem res1_in : exec Try.prog ctB 300 (entry Try.prog 21 [.agg [.int .i64 nodes, .int .i64 round, .int .i64 phase, .int .i64 deadline, .dat d, .dat s, .bool valid]]) =
  Tree.need (D.Is Int d ∧ D.Is Bool s)
    (Tree.br (checkCo (CoD.co (CoD.mk nodes round phase deadline d s valid)) != 0)
      (Tree.ret (SV.tup [SV.nils, SV.lb false]))
      (Tree.br (!valid) (Tree.ret (SV.tup [SV.nils, SV.lb false]))
        (Tree.need (D.Is Int d ∧ D.len d ≤ 1048576)
          (Tree.all fun hs => Tree.ret (SV.tup [SV.dat (D.slc (D.hd (hs 0 0)) 1 (D.rows d)), SV.lb true]))))) := by kernel_rfl

theorem res2_in : exec Try.prog ctB 300 (entry Try.prog 22 [.agg [.int .i64 nodes, .int .i64 round, .int .i64 phase, .int .i64 deadline, .dat d, .dat s, .bool valid]]) =
  Tree.need (D.Is Int d ∧ D.Is Bool s)
    (Tree.br (checkCo (CoD.co (CoD.mk nodes round phase deadline d s valid)) != 0)
      (Tree.ret (SV.tup [SV.nils, SV.lb false]))
      (Tree.br (!valid) (Tree.ret (SV.tup [SV.nils, SV.lb false])) (Tree.ret (SV.tup [SV.dat d, SV.lb true])))) := by kernel_rfl

theorem start1_in : exec Try.prog ctB 500 (entry Try.prog 13 [.agg [.int .i64 nodes, .int .i64 round, .int .i64 phase, .int .i64 deadline, .dat d, .dat s, .bool valid], .int .i64 now, .int .i64 patience]) =
  Tree.need (D.Is Int d ∧ D.Is Bool s)
    (Tree.br (checkCo (CoD.co (CoD.mk nodes round phase deadline d s valid)) != 0)
      (Tree.ret
        (SV.tup
          [SV.agg
              [SV.int IntKind.i64 0, SV.int IntKind.i64 0, SV.int IntKind.i64 0, SV.int IntKind.i64 0, SV.nils, SV.nils,
                SV.lb false],
            SV.nils, SV.int IntKind.i64 (checkCo (CoD.co (CoD.mk nodes round phase deadline d s valid)))]))
      (Tree.br (decide (now ≥ 0))
        (Tree.br (!decide (now ≤ 1073741824))
          (Tree.br (!decide (now ≤ 1073741824))
            (Tree.ret
              (SV.tup
                [SV.agg
                    [SV.int IntKind.i64 0, SV.int IntKind.i64 0, SV.int IntKind.i64 0, SV.int IntKind.i64 0, SV.nils,
                      SV.nils, SV.lb false],
                  SV.nils, SV.int IntKind.i64 24]))
            (Tree.br (phase != 0)
              (Tree.ret
                (SV.tup
                  [SV.agg
                      [SV.int IntKind.i64 0, SV.int IntKind.i64 0, SV.int IntKind.i64 0, SV.int IntKind.i64 0, SV.nils,
                        SV.nils, SV.lb false],
                    SV.nils, SV.int IntKind.i64 26]))
              (Tree.br (decide (round = 1073741824))
                (Tree.ret
                  (SV.tup
                    [SV.agg
                        [SV.int IntKind.i64 0, SV.int IntKind.i64 0, SV.int IntKind.i64 0, SV.int IntKind.i64 0, SV.nils,
                          SV.nils, SV.lb false],
                      SV.nils, SV.int IntKind.i64 6]))
                (Tree.all fun hs =>
                  Tree.all fun hs_1 =>
                    Tree.need (Co.nodes (Prod.fst (newCo nodes)) ≤ 8)
                      (Tree.ret
                        (SV.tup
                          [SV.agg
                              [SV.int IntKind.i64 (Co.nodes (Prod.fst (newCo nodes))),
                                SV.int IntKind.i64 (IntKind.wrap IntKind.i64 (round + 1)), SV.int IntKind.i64 1,
                                SV.int IntKind.i64 (IntKind.wrap IntKind.i64 (now + patience)),
                                SV.dat (D.like (hs 0 0) (Co.positions (Prod.fst (newCo nodes)))),
                                SV.dat (D.like (hs 0 1) (Co.seen (Prod.fst (newCo nodes)))),
                                SV.bool (Co.valid (Prod.fst (newCo nodes)))],
                            SV.dat
                              (D.like (hs_1 5 0)
                                (msgsTo (Co.nodes (Prod.fst (newCo nodes))) (IntKind.wrap IntKind.i64 (round + 1)) 1)),
                            SV.int IntKind.i64 0]))))))
          (Tree.br (decide (patience < 1))
            (Tree.br (decide (patience < 1))
              (Tree.ret
                (SV.tup
                  [SV.agg
                      [SV.int IntKind.i64 0, SV.int IntKind.i64 0, SV.int IntKind.i64 0, SV.int IntKind.i64 0, SV.nils,
                        SV.nils, SV.lb false],
                    SV.nils, SV.int IntKind.i64 24]))
              (Tree.br (phase != 0)
                (Tree.ret
                  (SV.tup
                    [SV.agg
                        [SV.int IntKind.i64 0, SV.int IntKind.i64 0, SV.int IntKind.i64 0, SV.int IntKind.i64 0, SV.nils,
                          SV.nils, SV.lb false],
                      SV.nils, SV.int IntKind.i64 26]))
                (Tree.br (decide (round = 1073741824))
                  (Tree.ret
                    (SV.tup
                      [SV.agg
                          [SV.int IntKind.i64 0, SV.int IntKind.i64 0, SV.int IntKind.i64 0, SV.int IntKind.i64 0,
                            SV.nils, SV.nils, SV.lb false],
                        SV.nils, SV.int IntKind.i64 6]))
                  (Tree.all fun hs =>
                    Tree.all fun hs_1 =>
                      Tree.need (Co.nodes (Prod.fst (newCo nodes)) ≤ 8)
                        (Tree.ret
                          (SV.tup
                            [SV.agg
                                [SV.int IntKind.i64 (Co.nodes (Prod.fst (newCo nodes))),
                                  SV.int IntKind.i64 (IntKind.wrap IntKind.i64 (round + 1)), SV.int IntKind.i64 1,
                                  SV.int IntKind.i64 (IntKind.wrap IntKind.i64 (now + patience)),
                                  SV.dat (D.like (hs 0 0) (Co.positions (Prod.fst (newCo nodes)))),
                                  SV.dat (D.like (hs 0 1) (Co.seen (Prod.fst (newCo nodes)))),
                                  SV.bool (Co.valid (Prod.fst (newCo nodes)))],
                              SV.dat
                                (D.like (hs_1 5 0)
                                  (msgsTo (Co.nodes (Prod.fst (newCo nodes))) (IntKind.wrap IntKind.i64 (round + 1)) 1)),
                              SV.int IntKind.i64 0]))))))
            (Tree.br (decide (patience > IntKind.wrap IntKind.i64 (1073741824 - now)))
              (Tree.ret
                (SV.tup
                  [SV.agg
                      [SV.int IntKind.i64 0, SV.int IntKind.i64 0, SV.int IntKind.i64 0, SV.int IntKind.i64 0, SV.nils,
                        SV.nils, SV.lb false],
                    SV.nils, SV.int IntKind.i64 24]))
              (Tree.br (phase != 0)
                (Tree.ret
                  (SV.tup
                    [SV.agg
                        [SV.int IntKind.i64 0, SV.int IntKind.i64 0, SV.int IntKind.i64 0, SV.int IntKind.i64 0, SV.nils,
                          SV.nils, SV.lb false],
                      SV.nils, SV.int IntKind.i64 26]))
                (Tree.br (decide (round = 1073741824))
                  (Tree.ret
                    (SV.tup
                      [SV.agg
                          [SV.int IntKind.i64 0, SV.int IntKind.i64 0, SV.int IntKind.i64 0, SV.int IntKind.i64 0,
                            SV.nils, SV.nils, SV.lb false],
                        SV.nils, SV.int IntKind.i64 6]))
                  (Tree.all fun hs =>
                    Tree.all fun hs_1 =>
                      Tree.need (Co.nodes (Prod.fst (newCo nodes)) ≤ 8)
                        (Tree.ret
                          (SV.tup
                            [SV.agg
                                [SV.int IntKind.i64 (Co.nodes (Prod.fst (newCo nodes))),
                                  SV.int IntKind.i64 (IntKind.wrap IntKind.i64 (round + 1)), SV.int IntKind.i64 1,
                                  SV.int IntKind.i64 (IntKind.wrap IntKind.i64 (now + patience)),
                                  SV.dat (D.like (hs 0 0) (Co.positions (Prod.fst (newCo nodes)))),
                                  SV.dat (D.like (hs 0 1) (Co.seen (Prod.fst (newCo nodes)))),
                                  SV.bool (Co.valid (Prod.fst (newCo nodes)))],
                              SV.dat
                                (D.like (hs_1 5 0)
                                  (msgsTo (Co.nodes (Prod.fst (newCo nodes))) (IntKind.wrap IntKind.i64 (round + 1)) 1)),
                              SV.int IntKind.i64 0]))))))))
        (Tree.ret
          (SV.tup
            [SV.agg
                [SV.int IntKind.i64 0, SV.int IntKind.i64 0, SV.int IntKind.i64 0, SV.int IntKind.i64 0, SV.nils, SV.nils,
                  SV.lb false],
              SV.nils, SV.int IntKind.i64 24])))) := by kernel_rfl

theorem start2_in : exec Try.prog ctB 500 (entry Try.prog 14 [.agg [.int .i64 nodes, .int .i64 round, .int .i64 phase, .int .i64 deadline, .dat d, .dat s, .bool valid], .int .i64 now, .int .i64 patience]) =
  Tree.need (D.Is Int d ∧ D.Is Bool s)
    (Tree.br (checkCo (CoD.co (CoD.mk nodes round phase deadline d s valid)) != 0)
      (Tree.ret
        (SV.tup
          [SV.agg
              [SV.int IntKind.i64 0, SV.int IntKind.i64 0, SV.int IntKind.i64 0, SV.int IntKind.i64 0, SV.nils, SV.nils,
                SV.lb false],
            SV.nils, SV.int IntKind.i64 3]))
      (Tree.br (decide (now < 0))
        (Tree.ret
          (SV.tup
            [SV.agg
                [SV.int IntKind.i64 0, SV.int IntKind.i64 0, SV.int IntKind.i64 0, SV.int IntKind.i64 0, SV.nils, SV.nils,
                  SV.lb false],
              SV.nils, SV.int IntKind.i64 24]))
        (Tree.br (decide (patience < 1))
          (Tree.ret
            (SV.tup
              [SV.agg
                  [SV.int IntKind.i64 0, SV.int IntKind.i64 0, SV.int IntKind.i64 0, SV.int IntKind.i64 0, SV.nils,
                    SV.nils, SV.lb false],
                SV.nils, SV.int IntKind.i64 24]))
          (Tree.br (decide (now > 1073741824))
            (Tree.ret
              (SV.tup
                [SV.agg
                    [SV.int IntKind.i64 0, SV.int IntKind.i64 0, SV.int IntKind.i64 0, SV.int IntKind.i64 0, SV.nils,
                      SV.nils, SV.lb false],
                  SV.nils, SV.int IntKind.i64 24]))
            (Tree.br (decide (patience > IntKind.wrap IntKind.i64 (1073741824 - now)))
              (Tree.ret
                (SV.tup
                  [SV.agg
                      [SV.int IntKind.i64 0, SV.int IntKind.i64 0, SV.int IntKind.i64 0, SV.int IntKind.i64 0, SV.nils,
                        SV.nils, SV.lb false],
                    SV.nils, SV.int IntKind.i64 24]))
              (Tree.br (phase != 0)
                (Tree.ret
                  (SV.tup
                    [SV.agg
                        [SV.int IntKind.i64 0, SV.int IntKind.i64 0, SV.int IntKind.i64 0, SV.int IntKind.i64 0, SV.nils,
                          SV.nils, SV.lb false],
                      SV.nils, SV.int IntKind.i64 26]))
                (Tree.br (decide (round = 1073741824))
                  (Tree.ret
                    (SV.tup
                      [SV.agg
                          [SV.int IntKind.i64 0, SV.int IntKind.i64 0, SV.int IntKind.i64 0, SV.int IntKind.i64 0,
                            SV.nils, SV.nils, SV.lb false],
                        SV.nils, SV.int IntKind.i64 6]))
                  (Tree.all fun hs =>
                    Tree.all fun hs_1 =>
                      Tree.need (Co.nodes (Prod.fst (newCo nodes)) ≤ 8)
                        (Tree.ret
                          (SV.tup
                            [SV.agg
                                [SV.int IntKind.i64 (Co.nodes (Prod.fst (newCo nodes))),
                                  SV.int IntKind.i64 (IntKind.wrap IntKind.i64 (round + 1)), SV.int IntKind.i64 1,
                                  SV.int IntKind.i64 (IntKind.wrap IntKind.i64 (now + patience)),
                                  SV.dat (D.like (hs 0 0) (Co.positions (Prod.fst (newCo nodes)))),
                                  SV.dat (D.like (hs 0 1) (Co.seen (Prod.fst (newCo nodes)))),
                                  SV.bool (Co.valid (Prod.fst (newCo nodes)))],
                              SV.dat
                                (D.like (hs_1 2 0)
                                  (msgsTo (Co.nodes (Prod.fst (newCo nodes))) (IntKind.wrap IntKind.i64 (round + 1)) 1)),
                              SV.int IntKind.i64 0])))))))))) := by kernel_rfl

theorem sameco_in : exec Try.prog ctB 500 (entry Try.prog 15 [.agg [.int .i64 n, .int .i64 r, .int .i64 p, .int .i64 dl, .dat d, .dat s, .bool valid], .agg [.int .i64 n', .int .i64 r', .int .i64 p', .int .i64 dl', .dat d', .dat s', .bool valid']]) =
  Tree.br (n != n') (Tree.ret (SV.lb false))
    (Tree.br (r != r') (Tree.ret (SV.lb false))
      (Tree.br (p != p') (Tree.ret (SV.lb false))
        (Tree.br (dl != dl') (Tree.ret (SV.lb false))
          (Tree.br (!decide (valid = valid')) (Tree.ret (SV.lb false))
            (Tree.need (D.Is Int d ∧ D.Is Int d' ∧ D.len d ≤ 1048576)
              (Tree.br (!decide (D.to Int d = D.to Int d')) (Tree.ret (SV.lb false))
                (Tree.br ((↑(D.len s) : Int) != (↑(D.len s') : Int)) (Tree.ret (SV.lb false))
                  (Tree.leaf
                    (Conf.mk
                      (SFrm.mk 15 none none
                        [Item.inLoop (cAt Try.prog 15 [1, 1, 0, 1, 0, 0]), Item.inBlock 0,
                          Item.code (cAt Try.prog 15 [1, 1, 1])]
                        (mkJ 0 [(2, SV.ptr 0 0), (3, SV.ptr 1 0), (5, SV.int IntKind.i64 0)] 0 74))
                      []
                      [(0,
                          OBlk.cells 25
                            [SV.int IntKind.i64 n, SV.int IntKind.i64 r, SV.int IntKind.i64 p, SV.int IntKind.i64 dl,
                              SV.dat d, SV.dat s, SV.bool valid]),
                        (1,
                          OBlk.cells 25
                            [SV.int IntKind.i64 n', SV.int IntKind.i64 r', SV.int IntKind.i64 p', SV.int IntKind.i64 dl',
                              SV.dat d', SV.dat s', SV.bool valid'])]))))))))) := by kernel_rfl

theorem sameco_go : exec Try.prog ctB 500 (unroll (samecoL n r p dl n' r' p' dl' d s d' s' valid valid' j)) =
  Tree.br (decide (j < (↑(D.len s) : Int)))
    (Tree.all fun hs =>
      Tree.need (0 ≤ j ∧ j < (↑(D.len s) : Int) ∧ D.sz s = 1)
        (Tree.need (D.HasCell s (Int.toNat j) 0 FT.bool)
          (Tree.need (0 ≤ j ∧ j < (↑(D.len s') : Int) ∧ D.sz s' = 1)
            (Tree.need (D.HasCell s' (Int.toNat j) 0 FT.bool)
              (Tree.br (!decide (D.getBool s (Int.toNat j) 0 = D.getBool s' (Int.toNat j) 0)) (Tree.ret (SV.lb false))
                (Tree.leaf
                  (Conf.mk
                    (SFrm.mk 15 none none
                      [Item.inLoop (cAt Try.prog 15 [1, 1, 0, 1, 0, 0]), Item.inBlock 0,
                        Item.code (cAt Try.prog 15 [1, 1, 1])]
                      (mkJ 0
                        [(2, SV.ptr 0 0), (3, SV.ptr 1 0), (5, SV.int IntKind.i64 (IntKind.wrap IntKind.i64 (j + 1)))] 0
                        74))
                    []
                    [(0,
                        OBlk.cells 25
                          [SV.int IntKind.i64 n, SV.int IntKind.i64 r, SV.int IntKind.i64 p, SV.int IntKind.i64 dl,
                            SV.dat d, SV.dat s, SV.bool valid]),
                      (1,
                        OBlk.cells 25
                          [SV.int IntKind.i64 n', SV.int IntKind.i64 r', SV.int IntKind.i64 p', SV.int IntKind.i64 dl',
                            SV.dat d', SV.dat s', SV.bool valid'])])))))))
    (Tree.ret (SV.lb true)) := by kernel_rfl

theorem samems_in : exec Try.prog ctB 500 (entry Try.prog 16 [.dat a, .dat b]) =
  Tree.br ((↑(D.len a) : Int) != (↑(D.len b) : Int)) (Tree.ret (SV.lb false))
    (Tree.leaf
      (Conf.mk
        (SFrm.mk 16 none none
          [Item.inLoop (cAt Try.prog 16 [1, 1, 0, 1, 0, 0]), Item.inBlock 0, Item.code (cAt Try.prog 16 [1, 1, 1])]
          (mkJ 0 [(0, SV.dat a), (1, SV.dat b), (5, SV.int IntKind.i64 0)] 0 84))
        [] [])) := by kernel_rfl

theorem samems_go : exec Try.prog ctB 500 (unroll (samemsL a b j)) =
  Tree.br (decide (j < (↑(D.len a) : Int)))
    (Tree.all fun hs =>
      Tree.need (0 ≤ j ∧ j < (↑(D.len a) : Int) ∧ D.sz a = 8)
        (Tree.need
          (D.HasCells a (Int.toNat j) 0
            [FT.int IntKind.i64, FT.int IntKind.i64, FT.int IntKind.i64, FT.int IntKind.i64, FT.int IntKind.i64,
              FT.int IntKind.i64, FT.slc, FT.slc])
          (Tree.need (0 ≤ j ∧ j < (↑(D.len b) : Int) ∧ D.sz b = 8)
            (Tree.need
              (D.HasCells b (Int.toNat j) 0
                [FT.int IntKind.i64, FT.int IntKind.i64, FT.int IntKind.i64, FT.int IntKind.i64, FT.int IntKind.i64,
                  FT.int IntKind.i64, FT.slc, FT.slc])
              (Tree.br (D.getInt a (Int.toNat j) 0 != D.getInt b (Int.toNat j) 0) (Tree.ret (SV.lb false))
                (Tree.br (D.getInt a (Int.toNat j) 1 != D.getInt b (Int.toNat j) 1) (Tree.ret (SV.lb false))
                  (Tree.br (D.getInt a (Int.toNat j) 2 != D.getInt b (Int.toNat j) 2) (Tree.ret (SV.lb false))
                    (Tree.br (D.getInt a (Int.toNat j) 3 != D.getInt b (Int.toNat j) 3) (Tree.ret (SV.lb false))
                      (Tree.br (D.getInt a (Int.toNat j) 4 != D.getInt b (Int.toNat j) 4) (Tree.ret (SV.lb false))
                        (Tree.br (D.getInt a (Int.toNat j) 5 != D.getInt b (Int.toNat j) 5) (Tree.ret (SV.lb false))
                          (Tree.need
                            (D.Is Int (D.cell a (Int.toNat j) 6) ∧
                              D.Is Int (D.cell b (Int.toNat j) 6) ∧ D.len (D.cell a (Int.toNat j) 6) ≤ 1048576)
                            (Tree.br (!decide (D.to Int (D.cell a (Int.toNat j) 6) = D.to Int (D.cell b (Int.toNat j) 6)))
                              (Tree.ret (SV.lb false))
                              (Tree.need (D.IsBytes (D.cell a (Int.toNat j) 7))
                                (Tree.need (D.IsBytes (D.cell b (Int.toNat j) 7))
                                  (Tree.br
                                    (!List.beq (ByteArray.toList (D.bytesOf (D.cell a (Int.toNat j) 7)))
                                        (ByteArray.toList (D.bytesOf (D.cell b (Int.toNat j) 7))))
                                    (Tree.ret (SV.lb false))
                                    (Tree.leaf
                                      (Conf.mk
                                        (SFrm.mk 16 none none
                                          [Item.inLoop (cAt Try.prog 16 [1, 1, 0, 1, 0, 0]), Item.inBlock 0,
                                            Item.code (cAt Try.prog 16 [1, 1, 1])]
                                          (mkJ 0
                                            [(0, SV.dat a), (1, SV.dat b),
                                              (5, SV.int IntKind.i64 (IntKind.wrap IntKind.i64 (j + 1)))]
                                            0 84))
                                        [] [])))))))))))))))))
    (Tree.ret (SV.lb true)) := by kernel_rfl

end
end Go.Proofs.Ytoechplbhbalaaa
end
section
/- Layer 21: the laws of Clone, all, New, Start, Result and the comparisons. -/
open Go Go.Proofs Sx
namespace Sx

theorem val_int {d : D} {k : IntKind} {n : Int} (h : d.val = .int k n) : d = .int k n := by
  cases d with
  | int k' n' => simp only [D.val, Value.int.injEq] at h; rw [h.1, h.2]
  | bool b => simp [D.val] at h
  | str s => simp [D.val] at h
  | slc hh s r => cases hh <;> simp [D.val, hval] at h

theorem empty_ok {H H2 : HV} {d : D} (h : d.Ok H) (hs : d.IsSlc) (hr : d.rows = []) : d.Ok H2 := by
  obtain ⟨a, b, c, rfl⟩ := hs
  simp only [D.rows] at hr
  subst hr
  cases h with
  | nil => exact .nil _
  | slc => exact .slc _ _ _ [] (by simp) (by simp) (by simp) (by simp) (by simp)

/-- Messages do not lie in a block of few cells. -/
theorem msgs_far {H' H2 : HV} {b n : Nat} (hn : n ≤ 7) (hb : ∀ o, n ≤ o → H' b o = none) (h2 : ∀ b' o v, b' ≠ b → H' b' o = some v → H2 b' o = some v) {d : D}
    (hms : ∀ m, m ∈ d.to Msg → m.values = [] ∧ m.body = []) (hd : d.Is Msg) (hok : d.Ok H') : d.Ok H2 := by
  obtain ⟨h, s, rows, rfl, hs, hr⟩ := hd
  cases hok with
  | nil => exact .nil _
  | slc a c sz rows h1 h2' h3 h4 h5 =>
    refine .slc a c s rows h1 h2' h3 (fun i j r x hi hj => h2 _ _ _ (fun hbk => ?_) (h4 i j r x hi hj)) (fun r hrr x hx => ?_)
    · have hmem := List.mem_of_getElem? hi
      have hs8 : s = 8 := by
        rcases hs with rfl | hs
        · cases hmem
        · exact hs
      have hl := h3 r hmem
      subst hs8
      have h7 : r[7]? = some r[7] := List.getElem?_eq_getElem (by omega)
      have := h4 i 7 r r[7] hi h7
      rw [hbk, hb _ (by omega)] at this
      cases this
    · obtain ⟨e1, e2, e3, e4, e5, e6, v, w, rfl, hv, hw⟩ := hr r hrr
      have hm := hms _ (List.mem_map.2 ⟨_, hrr, rfl⟩)
      have hx' := h5 _ hrr x hx
      simp only [List.mem_cons, List.not_mem_nil, or_false] at hx
      rcases hx with rfl | rfl | rfl | rfl | rfl | rfl | rfl | rfl
      · exact .int ..
      · exact .int ..
      · exact .int ..
      · exact .int ..
      · exact .int ..
      · exact .int ..
      · exact empty_ok hx' hv.slc (by have : (x.to Int) = [] := hm.1; simpa [D.to] using this)
      · exact empty_ok hx' hw.slc (by have : (x.to Byte) = [] := hm.2; simpa [D.to] using this)

theorem checkCo_zero {n r p dl : Int} {ps : List Int} {ss : List Bool} {v : Bool} : checkCo ⟨n, r, p, dl, ps, ss, v⟩ = 0 ↔
    (1 ≤ n ∧ n ≤ 8) ∧ (0 ≤ r ∧ r ≤ 1073741824) ∧ (0 ≤ dl ∧ dl ≤ 1073741824) ∧ (0 ≤ p ∧ p ≤ 2) ∧ (ps.length : Int) = n ∧ (ss.length : Int) = n ∧ (v = true → p = 0) ∧ ps.any badPos = false := by
  unfold checkCo
  simp only [okTime]
  split
  · rename_i h
    constructor
    · intro h; cases h
    · intro h'
      simp only [Bool.and_eq_false_imp, decide_eq_true_eq, decide_eq_false_iff_not] at h
      omega
  · rename_i h
    simp only [Bool.and_eq_false_imp, decide_eq_true_eq, decide_eq_false_iff_not, not_or, Classical.not_imp, Decidable.not_not] at h
    split
    · rename_i h2
      constructor
      · intro h; cases h
      · rintro ⟨_, _, _, _, h3, h4, h5, _⟩
        rcases h2 with h2 | h2 | ⟨h2, h6⟩
        · exact absurd h3 h2
        · exact absurd h4 h2
        · exact absurd (h5 h2) h6
    · rename_i h2
      simp only [not_or, not_and, Decidable.not_not] at h2
      split
      · rename_i h3
        constructor
        · intro h; cases h
        · rintro ⟨_, _, _, _, _, _, _, h4⟩; rw [h3] at h4; cases h4
      · rename_i h3
        simp only [Bool.not_eq_true] at h3
        simp only [true_iff]
        exact ⟨by omega, by omega, by omega, by omega, h2.1, h2.2.1, h2.2.2, h3⟩

theorem checkCo_or (c : Co) : checkCo c = 0 ∨ checkCo c = 3 := by
  unfold checkCo
  split
  · exact .inr rfl
  · split
    · exact .inr rfl
    · split
      · exact .inr rfl
      · exact .inl rfl

theorem newCo_eq {n : Int} (h : 1 ≤ n ∧ n ≤ 8) : newCo n = (⟨n, 0, 0, 0, List.replicate n.toNat 0, List.replicate n.toNat false, false⟩, 0) := by rw [newCo, if_neg (by omega)]

theorem startCo_eq {n r p dl now patience : Int} {ps : List Int} {ss : List Bool} {v : Bool} (h : checkCo ⟨n, r, p, dl, ps, ss, v⟩ = 0) : startCo ⟨n, r, p, dl, ps, ss, v⟩ now patience =
    if now < 0 ∨ now > 1073741824 ∨ patience < 1 ∨ patience > 1073741824 - now then (zCo, [], 24) else if p ≠ 0 then (zCo, [], 26) else if r = 1073741824 then (zCo, [], 6)
    else (⟨n, r + 1, 1, now + patience, List.replicate n.toNat 0, List.replicate n.toNat false, false⟩, msgsTo n (r + 1) 1, 0) := by
  have hz := checkCo_zero.1 h
  unfold startCo
  rw [if_neg (by simp [h])]
  have e : (okTime now = false ∨ patience < 1 ∨ patience > 1073741824 - now) ↔ (now < 0 ∨ now > 1073741824 ∨ patience < 1 ∨ patience > 1073741824 - now) := by
    simp only [okTime, Bool.and_eq_false_imp, decide_eq_true_eq, decide_eq_false_iff_not]
    omega
  by_cases h1 : okTime now = false ∨ patience < 1 ∨ patience > 1073741824 - now
  · rw [if_pos h1, if_pos (e.1 h1)]
  · rw [if_neg h1, if_neg (fun hh => h1 (e.2 hh))]
    split
    · rfl
    · split
      · rfl
      · simp only [newCo_eq hz.1, allMsgs_eq]

section
variable {P : Program} {w : World} {H : HV}
theorem ret_co3 {n r p dl k : Int} {X Y V Z : SV} {ps : List Int} {ss : List Bool} {v : Bool} {ms : List Msg} {res : Co × List Msg × Int} (hx : Stands Int X ps) (hy : Stands Bool Y ss) (hv : ∀ E, V.den E = (SV.bool v).den E) (hz : Stands Msg Z ms)
    (hr : res = (⟨n, r, p, dl, ps, ss, v⟩, ms, k)) :
    (Tree.ret (.tup [.agg [.int .i64 n, .int .i64 r, .int .i64 p, .int .i64 dl, X, Y, V], Z, .int .i64 k])).holds P ⟨w, H⟩ (RetD w H fun ds => .tup [coSV (ds 0) (ds 1) res.1, .dat ((ds 2).like res.2.1), .int .i64 res.2.2]) := by
  subst hr
  obtain ⟨d, h1, h2, h3, h4⟩ := hx
  obtain ⟨d', h1', h2', h3', h4'⟩ := hy
  obtain ⟨d'', h1'', h2'', h3'', h4''⟩ := hz
  refine ret_D (fun i => match i with | 0 => d | 1 => d' | _ => d'') (fun E E' => ?_) (fun H' ho => ?_)
  · have : V.den E = (SV.bool v).den E' := by rw [hv]; rfl
    simp only [SV.den, SV.denL, coSV, D.like_self h2 h3, D.like_self h2' h3', D.like_self h2'' h3'', h1, h1', h1'', this]
  · simp only [SV.Ok, SV.OkL, coSV, D.like_self h2 h3, D.like_self h2' h3', D.like_self h2'' h3''] at ho ⊢
    exact ⟨⟨trivial, trivial, trivial, trivial, ⟨h4 _ ho.1.2.2.2.2.1, h2.slc⟩, ⟨h4' _ ho.1.2.2.2.2.2.1, h2'.slc⟩, trivial, trivial⟩, ⟨h4'' _ ho.2.1, h2''.slc⟩, trivial, trivial⟩

theorem ret_co2 {n r p dl : Int} {X Y V Z : SV} {ps : List Int} {ss : List Bool} {v : Bool} {ms : List Msg} {res : Co × List Msg} (hx : Stands Int X ps) (hy : Stands Bool Y ss) (hv : ∀ E, V.den E = (SV.bool v).den E) (hz : Stands Msg Z ms)
    (hr : res = (⟨n, r, p, dl, ps, ss, v⟩, ms)) :
    (Tree.ret (.tup [.agg [.int .i64 n, .int .i64 r, .int .i64 p, .int .i64 dl, X, Y, V], Z])).holds P ⟨w, H⟩ (RetD w H fun ds => .tup [coSV (ds 0) (ds 1) res.1, .dat ((ds 2).like res.2)]) := by
  subst hr
  obtain ⟨d, h1, h2, h3, h4⟩ := hx
  obtain ⟨d', h1', h2', h3', h4'⟩ := hy
  obtain ⟨d'', h1'', h2'', h3'', h4''⟩ := hz
  refine ret_D (fun i => match i with | 0 => d | 1 => d' | _ => d'') (fun E E' => ?_) (fun H' ho => ?_)
  · have : V.den E = (SV.bool v).den E' := by rw [hv]; rfl
    simp only [SV.den, SV.denL, coSV, D.like_self h2 h3, D.like_self h2' h3', D.like_self h2'' h3'', h1, h1', h1'', this]
  · simp only [SV.Ok, SV.OkL, coSV, D.like_self h2 h3, D.like_self h2' h3', D.like_self h2'' h3''] at ho ⊢
    exact ⟨⟨trivial, trivial, trivial, trivial, ⟨h4 _ ho.1.2.2.2.2.1, h2.slc⟩, ⟨h4' _ ho.1.2.2.2.2.2.1, h2'.slc⟩, trivial, trivial⟩, ⟨h4'' _ ho.2.1, h2''.slc⟩, trivial⟩

theorem ret_intsB {X V : SV} {xs : List Int} {v : Bool} {res : List Int × Bool} (hx : Stands Int X xs) (hv : ∀ E, V.den E = (SV.bool v).den E) (hr : res = (xs, v)) :
    (Tree.ret (.tup [X, V])).holds P ⟨w, H⟩ (RetD w H fun ds => .tup [.dat ((ds 0).like res.1), .bool res.2]) := by
  subst hr
  obtain ⟨d, h1, h2, h3, h4⟩ := hx
  refine ret_D (fun _ => d) (fun E E' => ?_) (fun H' ho => ?_)
  · have : V.den E = (SV.bool v).den E' := by rw [hv]; rfl
    simp only [SV.den, SV.denL, D.like_self h2 h3, h1, this]
  · simp only [SV.Ok, SV.OkL, D.like_self h2 h3] at ho ⊢
    exact ⟨⟨h4 _ ho.1, h2.slc⟩, trivial, trivial⟩

theorem ret_msgs' {X : SV} {ms r : List Msg} (hx : Stands Msg X ms) (hr : r = ms) : (Tree.ret X).holds P ⟨w, H⟩ (RetD w H fun ds => .dat ((ds 0).like r)) := by
  subst hr
  obtain ⟨d, h1, h2, h3, h4⟩ := hx
  refine ret_D (fun _ => d) (fun E E' => ?_) (fun H' ho => ?_)
  · simp only [SV.den, D.like_self h2 h3, h1]
  · simp only [SV.Ok, D.like_self h2 h3] at ho ⊢
    exact ⟨h4 _ ho, h2.slc⟩
end

theorem msg_row' {a b c d e f : Int} {m : Msg} (hm : m = ⟨a, b, c, d, e, f, [], []⟩) :
    SRows Msg [[.int .i64 a, .int .i64 b, .int .i64 c, .int .i64 d, .int .i64 e, .int .i64 f, .slc none 0 [], .slc none 0 []]] [m] := by
  subst hm
  exact rows_one (ok_msg ..) rfl

theorem bool_at {d : D} (hd : d.Is Bool) {j : Nat} (hj : j < (d.to Bool).length) :
    (0 ≤ (j : Int) ∧ (j : Int) < (d.len : Int) ∧ d.sz = 1) ∧ d.HasCell (Int.toNat j) 0 .bool ∧ d.getBool (Int.toNat j) 0 = (d.to Bool)[j] := by
  obtain ⟨h1, h2⟩ := bool_cell hd hj
  exact ⟨⟨by omega, by rw [D.Is.length (α := Bool)]; omega, by rw [hd.size hj]; rfl⟩, h2, h1⟩

theorem range_snoc {α : Type _} (f : Nat → α) (i : Nat) : (List.range (i + 1)).map f = (List.range i).map f ++ [f i] := by
  rw [List.range_succ, List.map_append]; rfl

theorem take_eq' {α : Type _} {xs ys : List α} {j : Nat} (hx : j < xs.length) (hy : j < ys.length) : xs.take (j + 1) = ys.take (j + 1) ↔ xs.take j = ys.take j ∧ xs[j] = ys[j] := by
  rw [List.take_succ_eq_append_getElem hx, List.take_succ_eq_append_getElem hy]
  constructor
  · intro h
    have := List.append_inj h (by simp; omega)
    exact ⟨this.1, by simpa using this.2⟩
  · rintro ⟨h1, h2⟩; rw [h1, h2]

theorem ne_of_take' {α : Type _} {xs ys : List α} {j : Nat} (hx : j < xs.length) (hy : j < ys.length) (h : xs[j] ≠ ys[j]) : xs ≠ ys := by
  rintro rfl; exact h rfl
end Sx

namespace Go.Proofs.Ytoechplbhbalaaa
set_option maxRecDepth 100000

theorem lawClone1 : OLaw Try.prog 54 (spClone Int 3) := by
  refine olaw_clone (by kernel_rfl) fun H w d hok hd hlen => ?_
  apply execT_sound (noCtr _) (fun _ => false) 19
  rw [cl1_in]
  refine ⟨fun hc => ?_, fun hc hs => ⟨⟨rfl, hd.fits, by simp only [len_slc, List.length_nil]; omega, by simp only [len_slc, List.length_nil]; omega⟩, fun hs1 => ?_⟩⟩
  · have hc : d.isNil = true := hc
    have := nil_rows hok hc
    exact own_nil (h := .slc none 1 []) (by rw [this]; rfl)
  · exact own_ret (f := Try.f54) (j := 1007) (h := hs1 0 0) (by kernel_rfl) (by kernel_rfl) rfl rfl

theorem lawClone2 : OLaw Try.prog 82 (spClone Bool 4) := by
  refine olaw_clone (by kernel_rfl) fun H w d hok hd hlen => ?_
  apply execT_sound (noCtr _) (fun _ => false) 19
  rw [cl2_in]
  refine ⟨fun hc => ?_, fun hc hs => ⟨⟨rfl, hd.fits, by simp only [len_slc, List.length_nil]; omega, by simp only [len_slc, List.length_nil]; omega⟩, fun hs1 => ?_⟩⟩
  · have hc : d.isNil = true := hc
    have := nil_rows hok hc
    exact own_nil (h := .slc none 1 []) (by rw [this]; rfl)
  · exact own_ret (f := Try.f82) (j := 1007) (h := hs1 0 0) (by kernel_rfl) (by kernel_rfl) rfl rfl

theorem all1_loop {H : HV} {b : Nat} {n r kind : Int} {row : List D} (hn : n ≤ 8) (w : World) :
    Runs Try.prog ⟨w, H⟩ (all1L (rowD b (.int .i64 n :: .int .i64 r :: row)) (.slc none 8 []) kind n 0) (RetD w H fun ds => .dat ((ds 0).like (msgsTo n r kind))) := by
  refine runs_loop (fun p : D × Nat => all1L (rowD b (.int .i64 n :: .int .i64 r :: row)) p.1 kind n p.2)
    (fun p => p.2 ≤ n.toNat ∧ p.1.Is Msg ∧ p.1.sz = 8 ∧ p.1.to Msg = (List.range p.2).map fun (i : Nat) => (⟨kind, n, (i : Int), r, 0, 0, [], []⟩ : Msg))
    (fun p => n.toNat - p.2) (fun _ => rfl) ?_ (.slc none 8 [], 0) ⟨Nat.zero_le _, is_nil _ _, rfl, rfl⟩
  intro ⟨out, i⟩ ⟨hi, hm, hs, hto⟩ ih
  simp only at hi hm hs hto
  apply exec_sound (noCtr _) 200
  rw [all1_go]
  have g0 : (rowD b (.int .i64 n :: .int .i64 r :: row)).getInt 0 0 = n := rfl
  have g1 : (rowD b (.int .i64 n :: .int .i64 r :: row)).getInt 0 1 = r := rfl
  have hml := D.Is.length (α := Msg) out
  rw [hto] at hml
  simp only [List.length_map, List.length_range] at hml
  rw [g0, g1]
  refine ⟨fun hc hs' => ⟨⟨n, rfl⟩, ⟨r, rfl⟩, ⟨hs, .inr rfl, by simp only [len_slc, List.length_cons, List.length_nil]; omega, by simp only [len_slc, List.length_cons, List.length_nil]; omega⟩, ?_⟩, fun hc => ?_⟩
  · simp only [decide_eq_true_eq] at hc
    have hr := rows_app (rows_of hm) (msg_row' (m := ⟨kind, n, (i : Int), r, 0, 0, [], []⟩) rfl)
    obtain ⟨i1, i2⟩ := is_of (h := D.hd (hs' 15 0)) (s := 8) rfl hr
    have := ih (.slc (D.hd (hs' 15 0)) 8 (List.append (D.rows out) (D.rows (D.slc (D.hd (hs' 14 0)) 8 [[D.int IntKind.i64 kind, D.int IntKind.i64 n, D.int IntKind.i64 i, D.int IntKind.i64 r, D.int IntKind.i64 0, D.int IntKind.i64 0, D.slc none 0 [], D.slc none 0 []]]))), i + 1)
      ⟨by omega, i1, rfl, i2.trans (by rw [hto, range_snoc])⟩ (by simp only; omega)
    simp only at this
    rw [← wrap_succ (n := 9) (by omega) (by omega)] at this
    exact this
  · simp only [decide_eq_false_iff_not] at hc
    have : i = n.toNat := by omega
    subst this
    exact ret_msgs' (stands_dat hm hto) rfl

theorem msgsTo_plain (n r k : Int) : ∀ m, m ∈ msgsTo n r k → m.values = [] ∧ m.body = [] := by
  intro m hm
  simp only [msgsTo, List.mem_map] at hm
  obtain ⟨i, _, rfl⟩ := hm
  exact ⟨rfl, rfl⟩

theorem lawAll1 : PLaw Try.prog 50 spAllP := by
  refine ⟨by kernel_rfl, fun H E b row cs args hrow hfree hcs hargs => ?_⟩
  unfold spAllP
  split
  · rename_i heq
    split at heq
    · rename_i n r cs'
      split at heq
      · rename_i k
        split at heq
        · rename_i hlen
          cases heq
          intro hp w hc
          have hn : n ≤ 8 := hp _ (List.mem_singleton.2 rfl)
          have hrl : row.length = 7 := by
            have := congrArg List.length hcs
            rw [SV.denL_eq] at this
            simp only [List.length_map, List.length_cons] at this hlen
            omega
          obtain ⟨a, a', row', rfl⟩ : ∃ a a' row', row = a :: a' :: row' := by
            match row, hrl with
            | a :: a' :: row', _ => exact ⟨a, a', row', rfl⟩
          simp only [SV.denL, SV.den, List.map_cons, List.cons.injEq] at hcs
          have e1 := val_int hcs.1.symm
          have e2 := val_int hcs.2.1.symm
          subst e1; subst e2
          have hcall := calls_of (args := [.elt (rowD b (.int .i64 n :: .int .i64 r :: row')) 0 0, .int .i64 k]) (P := Try.prog) (f := 50) (H := H) (w := w)
            (R := RetD w H fun ds => .dat ((ds 0).like (msgsTo n r k))) (by kernel_rfl) ⟨hrow, trivial, trivial⟩ E hc (by
              apply exec_sound (noCtr _) 200
              rw [all1_in]
              refine ⟨⟨n, rfl⟩, ?_⟩
              have g0 : (rowD b (.int .i64 n :: .int .i64 r :: row')).getInt 0 0 = n := rfl
              rw [g0]
              exact vecTo 0 50 8 none 5 (all1L (rowD b (.int .i64 n :: .int .i64 r :: row')) (.slc none 8 []) k n 0) (by kernel_rfl) (all1_loop hn w))
          refine Calls.mono hcall fun e w' ⟨v, he, H', ha, ds, hden, hok⟩ => ⟨v, H', he, ha, fun i => ds i, hden E, fun H2 h2 => ?_⟩
          simp only [SV.Ok] at hok ⊢
          refine ⟨msgs_far (b := b) (n := 7) (Nat.le_refl _) (fun o ho => ?_) h2 (by rw [D.like_to]; exact msgsTo_plain n r k) (D.like_is _ _) hok.1, hok.2⟩
          cases hx : H' b o with
          | none => rfl
          | some x =>
            rcases ha.fresh b o x hx with h3 | h3
            · rw [hfree o (by rw [hrl]; exact ho)] at h3; cases h3
            · have h0 : H b 0 = some (.int .i64 n) := by
                cases hrow with
                | slc _ _ _ _ _ _ _ h4 _ => have := h4 0 0 _ _ rfl rfl; simpa [D.val] using this
              have := (good_start hc E).lt h0
              omega
        · cases heq
      · cases heq
    · cases heq
  · trivial

theorem all2_loop {H : HV} {n r p dl kind : Int} {d s : D} {v : Bool} (hn : n ≤ 8) (w : World) :
    Runs Try.prog ⟨w, H⟩ (all2L n r p dl d s (.slc none 8 []) (.bool v) kind 0) (RetD w H fun ds => .dat ((ds 0).like (msgsTo n r kind))) := by
  refine runs_loop (fun q : D × Nat => all2L n r p dl d s q.1 (.bool v) kind q.2)
    (fun q => q.2 ≤ n.toNat ∧ q.1.Is Msg ∧ q.1.sz = 8 ∧ q.1.to Msg = (List.range q.2).map fun (i : Nat) => (⟨kind, n, (i : Int), r, 0, 0, [], []⟩ : Msg))
    (fun q => n.toNat - q.2) (fun _ => rfl) ?_ (.slc none 8 [], 0) ⟨Nat.zero_le _, is_nil _ _, rfl, rfl⟩
  intro ⟨out, i⟩ ⟨hi, hm, hs, hto⟩ ih
  simp only at hi hm hs hto
  apply exec_sound (noCtr _) 200
  rw [all2_go]
  have hml := D.Is.length (α := Msg) out
  rw [hto] at hml
  simp only [List.length_map, List.length_range] at hml
  refine ⟨fun hc hs' => ⟨⟨hs, .inr rfl, by simp only [len_slc, List.length_cons, List.length_nil]; omega, by simp only [len_slc, List.length_cons, List.length_nil]; omega⟩, fun hs1 => ?_⟩, fun hc => ?_⟩
  · simp only [decide_eq_true_eq] at hc
    have hr := rows_app (rows_of hm) (msg_row' (m := ⟨kind, n, (i : Int), r, 0, 0, [], []⟩) rfl)
    obtain ⟨i1, i2⟩ := is_of (h := D.hd (hs1 0 0)) (s := 8) rfl hr
    have := ih (.slc (D.hd (hs1 0 0)) 8 (List.append (D.rows out) (D.rows (D.slc (D.hd (hs' 0 0)) 8 [[D.int IntKind.i64 kind, D.int IntKind.i64 n, D.int IntKind.i64 i, D.int IntKind.i64 r, D.int IntKind.i64 0, D.int IntKind.i64 0, D.slc none 0 [], D.slc none 0 []]]))), i + 1)
      ⟨by omega, i1, rfl, i2.trans (by rw [hto, range_snoc])⟩ (by simp only; omega)
    simp only at this
    rw [← wrap_succ (n := 9) (by omega) (by omega)] at this
    exact this
  · simp only [decide_eq_false_iff_not] at hc
    have : i = n.toNat := by omega
    subst this
    exact ret_msgs' (stands_dat hm hto) rfl

theorem lawAll2 : Law Try.prog 51 ((rdCo.two rdInt).sp spAll2) := by
  refine law_in _ (by kernel_rfl) fun H w ⟨⟨n, r, p, dl, d, s, v⟩, k⟩ hok hp => ?_
  have hn : n ≤ 8 := hp _ (List.mem_singleton.2 rfl)
  apply exec_sound (noCtr _) 200
  rw [show (rdCo.two rdInt).canon (⟨n, r, p, dl, d, s, v⟩, k) = [.agg [.int .i64 n, .int .i64 r, .int .i64 p, .int .i64 dl, .dat d, .dat s, .bool v], .int .i64 k] from rfl, all2_in]
  exact vecTo 9 50 8 none 5 (all2L n r p dl d s (.slc none 8 []) (.bool v) k 0) (by kernel_rfl) (all2_loop hn w)

theorem ctBOk : Ctrs.Ok Try.prog ctB := by
  intro x hx
  simp only [ctB, List.mem_cons, List.not_mem_nil, or_false] at hx
  rcases hx with rfl | rfl | rfl | rfl | rfl | rfl | rfl | rfl | rfl
  · exact ctrOf_ok lawCC1
  · exact ctrOf_ok lawCC2
  · exact ctrOf_ok (lawNew 19 (.inl rfl))
  · exact ctrOf_ok (lawNew 20 (.inr rfl))
  · exact ctrOf_ok lawSameInts
  · exact pCtr_ok lawAll1
  · exact ctrOf_ok lawAll2
  · exact oCtr_ok lawClone1
  · exact oCtr_ok lawClone2

theorem lawRes (f : FuncId) (hf : f = 21 ∨ f = 22) : Law Try.prog f (rdCo.one.sp spRes) := by
  rcases hf with rfl | rfl
  all_goals
    refine law_in _ (by kernel_rfl) fun H w ⟨n, r, p, dl, d, s, v⟩ hok hp => ?_
    obtain ⟨hd, hs⟩ := hp _ (List.mem_singleton.2 rfl)
    simp only at hd hs
    clear hp hok
    have hl := D.Is.length (α := Int) d
    apply exec_sound ctBOk 300
    rw [show rdCo.one.canon ⟨n, r, p, dl, d, s, v⟩ = [.agg [.int .i64 n, .int .i64 r, .int .i64 p, .int .i64 dl, .dat d, .dat s, .bool v]] from rfl]
    first | rw [res1_in] | rw [res2_in]
    simp only [CoD.co]
    refine ⟨⟨hd, hs⟩, fun hc => ret_intsB stands_nils lb_den ?_, fun hc => ⟨fun hv => ret_intsB stands_nils lb_den ?_, fun hv => ?_⟩⟩
    · simp only [bne_iff_ne, ne_eq] at hc
      simp [resultCo, hc]
    · simp only [Bool.not_eq_true'] at hv
      simp [resultCo, hv]
    · simp only [bne_eq_false_iff_eq] at hc
      simp only [Bool.not_eq_false'] at hv
      subst hv
      have hz := checkCo_zero.1 hc
      first
        | exact ⟨⟨hd, by omega⟩, fun hs1 => ret_intsB (stands_rows rfl (rows_of hd)) lb_den (by simp [resultCo, hc])⟩
        | exact ret_intsB (stands_self hd) lb_den (by simp [resultCo, hc])

theorem lawStart (f : FuncId) (hf : f = 13 ∨ f = 14) : Law Try.prog f ((rdCo.three rdInt rdInt).sp spStart) := by
  rcases hf with rfl | rfl
  all_goals
    refine law_in _ (by kernel_rfl) fun H w ⟨⟨n, r, p, dl, d, s, v⟩, now, patience⟩ hok hp => ?_
    obtain ⟨hd, hs⟩ := hp _ (List.mem_singleton.2 rfl)
    simp only at hd hs
    clear hp hok
    apply exec_sound ctBOk 500
    rw [show (rdCo.three rdInt rdInt).canon (⟨n, r, p, dl, d, s, v⟩, now, patience) = [.agg [.int .i64 n, .int .i64 r, .int .i64 p, .int .i64 dl, .dat d, .dat s, .bool v], .int .i64 now, .int .i64 patience] from rfl]
    first | rw [start1_in] | rw [start2_in]
    simp only [CoD.co]
    refine ⟨⟨hd, hs⟩, fun hc => ret_co3 stands_nils stands_nils lb_den stands_nils ?_, fun hc => ?_⟩
    · simp only [bne_iff_ne, ne_eq] at hc
      have := (checkCo_or ⟨n, r, p, dl, d.to Int, s.to Bool, v⟩).resolve_left hc
      simp [startCo, this, zCo]
    simp only [bne_eq_false_iff_eq] at hc
    have hz := checkCo_zero.1 hc
    rw [newCo_eq hz.1]
    have hw : 0 ≤ now ∧ now ≤ 1073741824 → IntKind.i64.wrap (1073741824 - now) = 1073741824 - now := fun h => wrap64 (by omega) (by omega)
    have hw2 : IntKind.i64.wrap (r + 1) = r + 1 := wrap64 (by omega) (by omega)
    have hw3 : 0 ≤ now ∧ now ≤ 1073741824 ∧ 1 ≤ patience ∧ patience ≤ 1073741824 - now → IntKind.i64.wrap (now + patience) = now + patience := fun h => wrap64 (by omega) (by omega)
    rw [startCo_eq hc]
    rw [hw2]
    repeat' first
      | refine ⟨fun hc => ?_, fun hc => ?_⟩
      | refine fun (hs : Nat → Nat → D) => ?_
      | refine ⟨hz.1.2, ?_⟩
      | refine ret_co3 stands_nils stands_nils lb_den stands_nils ?_
      | refine ret_co3 stands_like stands_like (fun _ => rfl) stands_like ?_
      | fail
    all_goals
      clear hd hs
      simp only [decide_eq_true_eq, decide_eq_false_iff_not, bne_iff_ne, ne_eq, bne_eq_false_iff_eq, Bool.not_eq_true', Bool.not_eq_false', Decidable.not_not, ge_iff_le, gt_iff_lt, Bool.not_not] at *
      first
        | (rw [if_pos (by first | omega | (have := hw ⟨by omega, by omega⟩; omega))]; rfl)
        | (rw [if_neg (by first | omega | (have := hw ⟨by omega, by omega⟩; omega))]
           first
             | (rw [if_pos (by omega)]; rfl)
             | (rw [if_neg (by omega), if_pos (by omega)]; rfl)
             | (have h1 := hw ⟨by omega, by omega⟩
                rw [if_neg (by omega), if_neg (by omega), hw3 ⟨by omega, by omega, by omega, by omega⟩]))
        | (exfalso; omega)

theorem lawSameCo : Law Try.prog 15 ((rdCo.two rdCo).sp spSameCo) := by
  refine law_in _ (by kernel_rfl) fun H w ⟨⟨n, r, p, dl, d, s, v⟩, ⟨n', r', p', dl', d', s', v'⟩⟩ hok hp => ?_
  obtain ⟨hd, hs, hd', hs', hlen, hlen'⟩ := hp _ (List.mem_singleton.2 rfl)
  simp only at hd hs hd' hs' hlen hlen'
  clear hp hok
  have hl := D.Is.length (α := Int) d
  have hls := D.Is.length (α := Bool) s
  have hls' := D.Is.length (α := Bool) s'
  apply exec_sound ctBOk 500
  rw [show (rdCo.two rdCo).canon (⟨n, r, p, dl, d, s, v⟩, ⟨n', r', p', dl', d', s', v'⟩) = [.agg [.int .i64 n, .int .i64 r, .int .i64 p, .int .i64 dl, .dat d, .dat s, .bool v], .agg [.int .i64 n', .int .i64 r', .int .i64 p', .int .i64 dl', .dat d', .dat s', .bool v']] from rfl, sameco_in]
  simp only [CoD.co, Co.mk.injEq]
  refine ⟨fun h1 => ret_lb ?_, fun h1 => ⟨fun h2 => ret_lb ?_, fun h2 => ⟨fun h3 => ret_lb ?_, fun h3 => ⟨fun h4 => ret_lb ?_, fun h4 => ⟨fun h5 => ret_lb ?_, fun h5 => ⟨⟨hd, hd', hlen⟩, fun h6 => ret_lb ?_, fun h6 => ⟨fun h7 => ret_lb ?_, fun h7 => ?_⟩⟩⟩⟩⟩⟩⟩
  · simp at h1; simp [h1]
  · simp at h2; simp [h2]
  · simp at h3; simp [h3]
  · simp at h4; simp [h4]
  · simp at h5; simp [h5]
  · simp at h6; simp [h6]
  · simp [hls, hls'] at h7
    symm
    simp only [decide_eq_false_iff_not]
    rintro ⟨_, _, _, _, _, h, _⟩
    exact h7 (by rw [h])
  · simp only [bne_eq_false_iff_eq, Bool.not_eq_false', decide_eq_true_eq] at h1 h2 h3 h4 h5 h6 h7
    subst h1; subst h2; subst h3; subst h4; subst h5
    have h7 : (s.to Bool).length = (s'.to Bool).length := by omega
    refine runs_loop (fun j : Nat => samecoL n r p dl n r p dl d s d' s' v v j) (fun j => j ≤ (s.to Bool).length ∧ (s.to Bool).take j = (s'.to Bool).take j) (fun j => (s.to Bool).length - j) (fun _ => rfl) ?_ 0 ⟨Nat.zero_le _, by simp⟩
    intro j ⟨hj, hpre⟩ ih
    apply exec_sound ctBOk 500
    rw [sameco_go]
    refine ⟨fun hc => ?_, fun hc => ?_⟩
    · simp [hls] at hc
      have hc' : j < (s'.to Bool).length := by omega
      obtain ⟨c1, c2, c3⟩ := bool_at hs hc
      obtain ⟨d1, d2, d3⟩ := bool_at hs' hc'
      rw [c3, d3]
      refine fun _ => ⟨c1, c2, d1, d2, fun hx => ret_lb ?_, fun hx => ?_⟩
      · simp only [Bool.not_eq_true', decide_eq_false_iff_not] at hx
        simp [ne_of_take' hc hc' hx]
      · simp only [Bool.not_eq_false', decide_eq_true_eq] at hx
        have := ih (j + 1) ⟨hc, (take_eq' hc hc').2 ⟨hpre, hx⟩⟩ (by omega)
        rw [← wrap_succ hc (by omega)] at this
        exact this
    · simp [hls] at hc
      refine ret_lb ?_
      rw [List.take_of_length_le (by omega), List.take_of_length_le (by omega)] at hpre
      simp [hpre, h6]

theorem isBytes_of' {d : D} (h : d.Is Byte) : d.IsBytes := by
  obtain ⟨a, b, c, rfl, hz, h2⟩ := h
  unfold D.IsBytes
  simp only [rows_slc]
  clear hz
  induction c with
  | nil => exact ⟨[], rfl⟩
  | cons x r ih =>
    obtain ⟨ns, hns⟩ := ih (fun y hy => h2 y (List.mem_cons_of_mem _ hy))
    obtain ⟨n, hn⟩ := h2 x List.mem_cons_self
    exact ⟨n :: ns, by rw [hn, hns]; rfl⟩

theorem bytes_nil' {d : D} (h : d.Is Byte) (h' : d.to Byte = []) : d.bytesOf = ByteArray.empty := by
  obtain ⟨a, b, c, rfl, _, h2⟩ := h
  have : c = [] := by simpa [D.to] using h'
  subst this
  rfl

theorem lawSameMsgs : Law Try.prog 16 ((rdD.two rdD).sp spSameMsgs3) := by
  refine law_in _ (by kernel_rfl) fun H w ⟨a, b⟩ hok hp => ?_
  obtain ⟨ha, hb, hlen, hpl, hpl'⟩ := hp _ (List.mem_singleton.2 rfl)
  simp only at ha hb hlen hpl hpl'
  clear hp hok
  have hla := D.Is.length (α := Msg) a
  have hlb := D.Is.length (α := Msg) b
  rw [hla] at hlen
  apply exec_sound ctBOk 500
  rw [show (rdD.two rdD).canon (a, b) = [.dat a, .dat b] from rfl, samems_in]
  refine ⟨fun h1 => ret_lb ?_, fun h1 => ?_⟩
  · simp [hla, hlb] at h1
    symm
    simp only [decide_eq_false_iff_not]
    intro h
    exact h1 (by rw [h])
  simp only [bne_eq_false_iff_eq] at h1
  have h1 : (a.to Msg).length = (b.to Msg).length := by omega
  refine runs_loop (fun j : Nat => samemsL a b j) (fun j => j ≤ (a.to Msg).length ∧ (a.to Msg).take j = (b.to Msg).take j) (fun j => (a.to Msg).length - j) (fun _ => rfl) ?_ 0 ⟨Nat.zero_le _, by simp⟩
  intro j ⟨hj, hpre⟩ ih
  apply exec_sound ctBOk 500
  rw [samems_go]
  refine ⟨fun hc hs => ?_, fun hc => ?_⟩
  · simp [hla] at hc
    have hc' : j < (b.to Msg).length := by omega
    obtain ⟨q0, q1, q2, q3, q4, q5, q6, q7, q8, q9, q10⟩ := msg_cell ha hc
    obtain ⟨z0, z1, z2, z3, z4, z5, z6, z7, z8, z9, z10⟩ := msg_cell hb hc'
    obtain ⟨p1, p2⟩ := hpl _ (List.getElem_mem hc)
    have p1' := hpl' _ (List.getElem_mem hc')
    have b1 := bytes_nil' q9 (q10.trans p1)
    have b2 := bytes_nil' z9 (z10.trans p1')
    have ej : Int.toNat (j : Int) = j := by simp
    rw [ej]
    have sza : a.sz = 8 := ha.size hc
    have szb : b.sz = 8 := hb.size hc'
    rw [b1, b2, q1, q2, q3, q4, q5, q6, q8, z1, z2, z3, z4, z5, z6, z8]
    have no : ∀ {x : Prop}, (x → False) → ((a.to Msg)[j] = (b.to Msg)[j] → x) → (a.to Msg) ≠ b.to Msg := fun h1 h2 h3 => h1 (h2 (by simp only [h3]))
    refine ⟨⟨by omega, by omega, sza⟩, q0, ⟨by omega, by omega, szb⟩, z0, fun h => ret_lb ?_, fun e1 => ⟨fun h => ret_lb ?_, fun e2 => ⟨fun h => ret_lb ?_, fun e3 => ⟨fun h => ret_lb ?_, fun e4 => ⟨fun h => ret_lb ?_, fun e5 => ⟨fun h => ret_lb ?_, fun e6 =>
      ⟨⟨q7, z7, ?_⟩, fun h => ret_lb ?_, fun e7 => ⟨isBytes_of' q9, isBytes_of' z9, fun h => ?_, fun _ => ?_⟩⟩⟩⟩⟩⟩⟩⟩
    · simp only [bne_iff_ne, ne_eq] at h; symm; simp only [decide_eq_false_iff_not]; exact no h fun h => by rw [h]
    · simp only [bne_iff_ne, ne_eq] at h; symm; simp only [decide_eq_false_iff_not]; exact no h fun h => by rw [h]
    · simp only [bne_iff_ne, ne_eq] at h; symm; simp only [decide_eq_false_iff_not]; exact no h fun h => by rw [h]
    · simp only [bne_iff_ne, ne_eq] at h; symm; simp only [decide_eq_false_iff_not]; exact no h fun h => by rw [h]
    · simp only [bne_iff_ne, ne_eq] at h; symm; simp only [decide_eq_false_iff_not]; exact no h fun h => by rw [h]
    · simp only [bne_iff_ne, ne_eq] at h; symm; simp only [decide_eq_false_iff_not]; exact no h fun h => by rw [h]
    · have := D.Is.length (α := Int) (a.cell j 6)
      rw [q8, p2] at this
      rw [this]; simp
    · simp only [Bool.not_eq_true', decide_eq_false_iff_not] at h; symm; simp only [decide_eq_false_iff_not]; exact no h fun h => by rw [h]
    · exfalso
      have : List.beq (ByteArray.toList ByteArray.empty) (ByteArray.toList ByteArray.empty) = true := by
        show (ByteArray.toList ByteArray.empty == ByteArray.toList ByteArray.empty) = true
        simp
      rw [this] at h
      cases h
    · simp only [bne_eq_false_iff_eq, Bool.not_eq_false', decide_eq_true_eq] at e1 e2 e3 e4 e5 e6 e7
      have hx : (a.to Msg)[j] = (b.to Msg)[j] := by
        rcases hA : (a.to Msg)[j] with ⟨x1, x2, x3, x4, x5, x6, x7, x8⟩
        rcases hB : (b.to Msg)[j] with ⟨y1, y2, y3, y4, y5, y6, y7, y8⟩
        rw [hA] at e1 e2 e3 e4 e5 e6 e7 p1
        rw [hB] at e1 e2 e3 e4 e5 e6 e7 p1'
        simp only at e1 e2 e3 e4 e5 e6 e7 p1 p1'
        rw [e1, e2, e3, e4, e5, e6, e7, p1, p1']
      have := ih (j + 1) ⟨hc, (take_eq' hc hc').2 ⟨hpre, hx⟩⟩ (by omega)
      rw [← wrap_succ hc (by omega)] at this
      exact this
  · simp [hla] at hc
    refine ret_lb ?_
    rw [List.take_of_length_le (by omega), List.take_of_length_le (by omega)] at hpre
    simp [hpre]
end Go.Proofs.Ytoechplbhbalaaa
end
