/- Layer 15: closed (2), Restrict, lists, walked. -/
import Derived.KernelRfl
import Derived.Test.YtdiekahpofifeaaHT8toN20
import Derived.Test.YtdiekahpofifeaaOvtoHT7
import Derived.Laws.CopyRow
import Derived.Sort.Row
set_option linter.all false
section
open Go Go.Proofs Sx
namespace Go.Proofs.Ytdiekahpofifeaa
set_option maxRecDepth 100000
set_option maxHeartbeats 0
noncomputable def rcl2L (ha hb hc a : D) (j k : Int) : Conf := Conf.mk (SFrm.mk 47 none none [Item.inLoop (cAt Try.prog 47 [1, 0, 1, 0, 0, 1, 0, 0, 1, 0, 0]), Item.inBlock 2, Item.inBlock 1, Item.code (cAt Try.prog 47 [1, 0, 1, 0, 0, 1, 1]), Item.inLoop (cAt Try.prog 47 [1, 0, 1, 0, 0]), Item.inBlock 0, Item.code (cAt Try.prog 47 [1, 1])] (mkJ 0 [(1, .dat a), (2, .ptr 0 0), (5, .int .i64 j), (6, .int .i64 k)] 0 33)) [] [(0, OBlk.cells 26 [.dat ha, .dat hb, .dat hc])]
noncomputable def ixiL (d : D) (n : Int) (j : Int) : Conf := Conf.mk (SFrm.mk 62 none none [Item.inLoop (cAt Try.prog 62 [1, 0, 1, 0, 0]), Item.inBlock 0, Item.code (cAt Try.prog 62 [1, 1])] (mkJ 0 [(0, .dat d), (1, .int .i64 n), (7, .int .i64 d.len), (8, .int .i64 j)] 0 19)) [] []
noncomputable def ctRs : Ctrs := (63, ctrOf (rdHi.one.sp spCopy)) :: (62, ctrOf ((rdD.two rdInt).sp spIxI)) :: ctN
noncomputable def ctRR : Ctrs := (64, ctrOf (rdHi.one.sp spCopy)) :: (47, ctrOf ((rdHi.two rdD).sp spClR)) :: ctNR
section
variable (n j k m : Int) (ha hb hc a d t q : D)
theorem rcl2L_go : exec Try.prog ctNS 300 (unroll (rcl2L ha hb hc a j k)) =
 Tree.br (decide (k < (↑(D.len hb) : Int)))
 (.all fun hs =>
 .br (beforeR (D.to Ev hc) k (D.getInt a (Int.toNat j) 0))
 (.need (0 ≤ j ∧ j < (↑(D.len a) : Int) ∧ D.sz a = 1)
 (.need (D.HasCell a (Int.toNat j) 0 (FT.int .i64))
 (.need (D.Is Ev hc ∧ D.len hc ≤ 1048576)
 (.need (beforeR (D.to Ev hc) k (D.getInt a (Int.toNat j) 0) = true)
 (.need (beforeR (D.to Ev hc) k (D.getInt a (Int.toNat j) 0) = true)
 (.need (beforeR (D.to Ev hc) k (D.getInt a (Int.toNat j) 0) = true)
 (.need (D.Is Int a ∧ D.len a ≤ 1048576)
 (.need (beforeR (D.to Ev hc) k (D.getInt a (Int.toNat j) 0) = true)
 (.need (beforeR (D.to Ev hc) k (D.getInt a (Int.toNat j) 0) = true)
 (.br (!List.contains (D.to Int a) k) (.ret (.lb false))
 (.leaf
 (Conf.mk
 (SFrm.mk 47 none none
 [Item.inLoop (cAt Try.prog 47 [1, 0, 1, 0, 0, 1, 0, 0, 1, 0, 0]), Item.inBlock 2,
 Item.inBlock 1, Item.code (cAt Try.prog 47 [1, 0, 1, 0, 0, 1, 1]),
 Item.inLoop (cAt Try.prog 47 [1, 0, 1, 0, 0]), Item.inBlock 0,
 Item.code (cAt Try.prog 47 [1, 1])]
 (mkJ 0
 [(1, .dat a), (2, .ptr 0 0), (5, .int .i64 j),
 (6, .int .i64 (IntKind.wrap .i64 (k + 1)))]
 0 33))
 [] [(0, OBlk.cells 26 [.dat ha, .dat hb, .dat hc])]))))))))))))
 (.need (0 ≤ j ∧ j < (↑(D.len a) : Int) ∧ D.sz a = 1)
 (.need (D.HasCell a (Int.toNat j) 0 (FT.int .i64))
 (.need (D.Is Ev hc ∧ D.len hc ≤ 1048576)
 (.need (beforeR (D.to Ev hc) k (D.getInt a (Int.toNat j) 0) = false)
 (.need (beforeR (D.to Ev hc) k (D.getInt a (Int.toNat j) 0) = false)
 (.need (beforeR (D.to Ev hc) k (D.getInt a (Int.toNat j) 0) = false)
 (.need (beforeR (D.to Ev hc) k (D.getInt a (Int.toNat j) 0) = false)
 (.need (beforeR (D.to Ev hc) k (D.getInt a (Int.toNat j) 0) = false)
 (.leaf
 (Conf.mk
 (SFrm.mk 47 none none
 [Item.inLoop (cAt Try.prog 47 [1, 0, 1, 0, 0, 1, 0, 0, 1, 0, 0]), Item.inBlock 2,
 Item.inBlock 1, Item.code (cAt Try.prog 47 [1, 0, 1, 0, 0, 1, 1]),
 Item.inLoop (cAt Try.prog 47 [1, 0, 1, 0, 0]), Item.inBlock 0,
 Item.code (cAt Try.prog 47 [1, 1])]
 (mkJ 0
 [(1, .dat a), (2, .ptr 0 0), (5, .int .i64 j),
 (6, .int .i64 (IntKind.wrap .i64 (k + 1)))]
 0 33))
 [] [(0, OBlk.cells 26 [.dat ha, .dat hb, .dat hc])])))))))))))
 (.leaf
 (Conf.mk
 (SFrm.mk 47 none none
 [Item.inLoop (cAt Try.prog 47 [1, 0, 1, 0, 0]), Item.inBlock 0, Item.code (cAt Try.prog 47 [1, 1])]
 (mkJ 0 [(1, .dat a), (2, .ptr 0 0), (5, .int .i64 (IntKind.wrap .i64 (j + 1)))] 0 33))
 [] [(0, OBlk.cells 26 [.dat ha, .dat hb, .dat hc])])) := by kernel_rfl

theorem ixi_in : exec Try.prog [] 300 (entry Try.prog 62 [.dat d, .int .i64 n]) =
 Tree.leaf
 (Conf.mk
 (SFrm.mk 62 none none
 [Item.inLoop (cAt Try.prog 62 [1, 0, 1, 0, 0]), Item.inBlock 0, Item.code (cAt Try.prog 62 [1, 1])]
 (mkJ 0
 [(0, .dat d), (1, .int .i64 n), (7, .int .i64 (↑(D.len d) : Int)),
 (8, .int .i64 0)]
 0 19))
 [] []) := by kernel_rfl

theorem ixiL_go : exec Try.prog [] 300 (unroll (ixiL d n j)) =
 Tree.br (decide (j < (↑(D.len d) : Int)))
 (.need (0 ≤ j ∧ j < (↑(D.len d) : Int) ∧ D.sz d = 1)
 (.need (D.HasCell d (Int.toNat j) 0 (FT.int .i64))
 (.br (decide (n = D.getInt d (Int.toNat j) 0)) (.ret (.int .i64 j))
 (.leaf
 (Conf.mk
 (SFrm.mk 62 none none
 [Item.inLoop (cAt Try.prog 62 [1, 0, 1, 0, 0]), Item.inBlock 0, Item.code (cAt Try.prog 62 [1, 1])]
 (mkJ 0
 [(0, .dat d), (1, .int .i64 n), (7, .int .i64 (↑(D.len d) : Int)),
 (8, .int .i64 (IntKind.wrap .i64 (j + 1)))]
 0 19))
 [] [])))))
 (.ret (.int .i64 (Int.neg 1))) := by kernel_rfl

theorem rst_in : 
 let z1 := (D.to Wt (onOk (Prod.fst (checkH (HiD.hist (HiD.mk ha hb hc)))) hb))
 execQ Try.prog ctRs 400 (entry Try.prog 27 [.agg [.dat ha, .dat hb, .dat hc], .dat a]) =
 Tree.need (HiD.Right (HiD.mk ha hb hc)) (.all fun hs => .br (Prod.fst (checkH (HiD.hist (HiD.mk ha hb hc))) != 0) (.ret (SV.tup [.agg [.nils, .nils, .nils], .int .i64 (Prod.fst (checkH (HiD.hist (HiD.mk ha hb hc))))]))
 (.need (D.Is Int a ∧ D.len a ≤ 1048576 ∧ D.Is Wt (onOk (Prod.fst (checkH (HiD.hist (HiD.mk ha hb hc)))) hb)) (.br (!setH (D.to Int a) (↑(List.length z1) : Int)) (.ret (SV.tup [.agg [.nils, .nils, .nils], .int .i64 2]))
 (.need (D.Is Wt (onOk (Prod.fst (checkH (HiD.hist (HiD.mk ha hb hc)))) hb) ∧ D.Is Int (D.like (hs 0 0) (Tl.issued (Prod.snd (checkH (HiD.hist (HiD.mk ha hb hc)))))) ∧ D.Is Int (D.like (hs 0 1) (Tl.acked
 (Prod.snd (checkH (HiD.hist (HiD.mk ha hb hc)))))) ∧ D.Is Int a ∧ D.len (onOk (Prod.fst (checkH (HiD.hist (HiD.mk ha hb hc)))) hb) ≤ 1048576 ∧ D.len a ≤ 1048576 ∧ List.length (D.to Int (D.like (hs 0 0)
 (Tl.issued (Prod.snd (checkH (HiD.hist (HiD.mk ha hb hc))))))) = List.length z1 ∧ List.length (D.to Int (D.like (hs 0 1) (Tl.acked (Prod.snd (checkH (HiD.hist (HiD.mk ha hb hc))))))) = List.length z1 ∧ setH
 (D.to Int a) (↑(List.length z1) : Int) = true) (.br (!closedT (Tl.mk (D.to Int (D.like (hs 0 0) (Tl.issued (Prod.snd (checkH (HiD.hist (HiD.mk ha hb hc))))))) (D.to Int (D.like (hs 0 1) (Tl.acked (Prod.snd
 (checkH (HiD.hist (HiD.mk ha hb hc)))))))) (List.length z1) (D.to Int a)) (.ret (SV.tup [.agg [.nils, .nils, .nils], .int .i64 27])) (.leaf (Conf.mk (SFrm.mk 27 none none [Item.code (cAt Try.prog 27 [1, 1, 1, 1, 0, 1, 0]), Item.inBlock 1, Item.code
 (cAt Try.prog 27 [1, 1, 1, 1, 1])] (mkU [(0, SV.junk 0), (1, .dat a), (2, .ptr 0 0), (3, SV.junk 3), (4, .ptr 1 0), (5, SV.junk 5), (6, SV.junk 6), (7, SV.junk 7), (8, .ptr 2 0), (9, SV.junk 9), (11, SV.junk 11),
 (12, SV.junk 12), (13, SV.junk 13), (14, SV.junk 14), (15, SV.junk 15), (16, SV.junk 16), (17, SV.junk 17), (18, SV.junk 18), (19, SV.junk 19), (20, SV.junk 20), (21, SV.junk 21), (22, SV.junk 22), (23, SV.junk 23),
 (24, SV.junk 24), (25, SV.junk 25), (26, SV.junk 26), (27, SV.junk 27), (28, SV.junk 28), (29, SV.junk 29), (30, SV.junk 30), (31, SV.junk 31), (32, SV.junk 32), (33, SV.junk 33), (34, SV.junk 34), (35, SV.junk 35),
 (36, SV.junk 36), (37, SV.junk 37), (38, SV.junk 38), (39, SV.junk 39), (40, SV.junk 40), (41, SV.fn 75 [] [.ptr 3 0, .ptr 4 0]), (42, SV.junk 42), (50, SV.junk 50), (51, SV.junk 51), (52, SV.junk 52),
 (53, SV.junk 53), (54, SV.junk 54), (55, SV.junk 55), (56, SV.junk 56), (57, SV.junk 57), (58, SV.junk 58), (59, SV.junk 59), (60, SV.junk 60), (61, SV.junk 61), (62, SV.junk 62), (63, SV.junk 63), (64, SV.junk 64),
 (65, SV.junk 65), (66, SV.junk 66), (67, SV.junk 67), (68, SV.junk 68), (69, SV.junk 69), (70, SV.junk 70), (71, SV.junk 71), (72, SV.junk 72), (73, SV.junk 73), (74, SV.junk 74)] 0 75)) [] [(0, OBlk.cells 26 [.dat ha, .dat hb, .dat hc]),
 (1, OBlk.cells 26 [.nils, .nils, .nils]), (2, OBlk.cells 26 [.dat ha, .nils, .nils]), (3, OBlk.cells 22 [.dat a]), (4, OBlk.cells 81 [.dat (onOk (Prod.fst (checkH (HiD.hist (HiD.mk ha hb hc)))) ha), .dat
 (onOk (Prod.fst (checkH (HiD.hist (HiD.mk ha hb hc)))) hb), .dat (onOk (Prod.fst (checkH (HiD.hist (HiD.mk ha hb hc)))) hc), .dat (D.like (hs 0 0) (Tl.issued (Prod.snd (checkH (HiD.hist (HiD.mk ha hb hc)))))), .dat
 (D.like (hs 0 1) (Tl.acked (Prod.snd (checkH (HiD.hist (HiD.mk ha hb hc))))))])]))))))) := by
 intros; kernel_rfl

theorem rstR_in : exec Try.prog ctRR 400 (entry Try.prog 28 [.agg [.dat ha, .dat hb, .dat hc], .dat a]) =
 Tree.need (HiD.Right (HiD.mk ha hb hc))
 (.br (Prod.fst (checkH (HiD.hist (HiD.mk ha hb hc))) != 0)
 (.ret
 (SV.tup
 [.agg [.nils, .nils, .nils], .int .i64 (Prod.fst (checkH (HiD.hist (HiD.mk ha hb hc))))]))
 (.need (D.Is Int a ∧ D.len a ≤ 1048576)
 (.br (!setH (D.to Int a) (↑(D.len hb) : Int))
 (.ret (SV.tup [.agg [.nils, .nils, .nils], .int .i64 2]))
 (.need (D.Is Ev hc ∧ D.len hc ≤ 1048576 ∧ D.Is Wt hb ∧ D.len hb ≤ 1048576 ∧ D.Is Int a ∧ D.len a ≤ 1048576)
 (.br (!closedS (D.to Ev hc) (List.length (D.to Wt hb)) (D.to Int a))
 (.ret (SV.tup [.agg [.nils, .nils, .nils], .int .i64 27]))
 (.leaf
 (Conf.mk
 (SFrm.mk 28 none none
 [Item.inLoop (cAt Try.prog 28 [1, 1, 1, 1, 1, 0, 1, 0, 0]), Item.inBlock 0,
 Item.code (cAt Try.prog 28 [1, 1, 1, 1, 1, 1])]
 (mkJ 0 [(1, .dat a), (2, .ptr 0 0), (4, .ptr 1 0), (7, .ptr 2 0), (8, .int .i64 0)] 0
 90))
 []
 [(0, OBlk.cells 26 [.dat ha, .dat hb, .dat hc]), (1, OBlk.cells 26 [.nils, .nils, .nils]),
 (2, OBlk.cells 26 [.dat ha, .nils, .nils])]))))))) := by kernel_rfl

end
end Go.Proofs.Ytdiekahpofifeaa
end
section
open Go Go.Proofs Sx
namespace Go.Proofs.Ytdiekahpofifeaa
set_option maxRecDepth 100000

theorem ctNOk : Ctrs.Ok Try.prog ctN := by
  intro x hx
  simp only [ctN, List.mem_cons, List.not_mem_nil, or_false] at hx
  rcases hx with rfl | rfl | rfl | rfl
  · exact ctrOf_ok lawCk
  · exact ctrOf_ok lawIsSet
  · exact ctrOf_ok lawIsCl
  · exact ctrOf_ok lawBefT
theorem ctNROk : Ctrs.Ok Try.prog ctNR := by
  intro x hx
  simp only [ctNR, List.mem_cons, List.not_mem_nil, or_false] at hx
  rcases hx with rfl | rfl | rfl | rfl | rfl | rfl
  · exact ctrOf_ok lawCkR
  · exact ctrOf_ok lawAt
  · exact ctrOf_ok lawIssE
  · exact ctrOf_ok lawAckE
  · exact ctrOf_ok lawHas
  · exact ctrOf_ok lawSet

theorem lawIxI : Law Try.prog 62 ((rdD.two rdInt).sp spIxI) := by
  refine law_in _ (by kernel_rfl) fun H w ⟨d, n⟩ hok hp => ?_
  obtain ⟨hd, hlen⟩ := hp _ (List.mem_singleton.2 rfl)
  simp only at hd hlen
  have hl := D.Is.length (α := Int) d
  apply exec_sound (noCtr _) 300
  rw [show (rdD.two rdInt).canon (d, n) = [.dat d, .int .i64 n] from rfl, ixi_in]
  refine runs_loop (fun j : Nat => ixiL d n j) (fun j => j ≤ (d.to Int).length ∧ ((d.to Int).take j).findIdx? (fun y => decide (n = y)) = none) (fun j => (d.to Int).length - j) (fun _ => rfl) ?_ 0 ⟨Nat.zero_le _, by simp⟩
  intro j ⟨hj, hpre⟩ ih
  apply exec_sound (noCtr _) 300
  rw [ixiL_go]
  refine ⟨fun hc => ?_, fun hc => ret_int ?_⟩
  · have hc : j < (d.to Int).length := by have := of_decide_eq_true hc; omega
    obtain ⟨c1, c2, c3⟩ := int_at hd hc
    rw [c3]
    refine ⟨c1, c2, fun h => ret_int ?_, fun h => ?_⟩
    · exact (idxG_hit hc hpre h).symm
    · have := ih (j + 1) ⟨hc, idxG_miss hc hpre h⟩ (by omega)
      rw [← wrap_succ hc (by omega)] at this
      exact this
  · have : j = (d.to Int).length := by have := of_decide_eq_false hc; omega
    subst this
    exact (idxG_none hpre).symm

theorem lawBefR : Law Try.prog 43 ((rdHi.three rdInt rdInt).sp spBefR) := by
  refine law_in _ (by kernel_rfl) fun H w ⟨⟨ha, hb, hc⟩, n, k⟩ hok hp => ?_
  obtain ⟨rc, lc⟩ := hp _ (List.mem_singleton.2 rfl)
  simp only at rc lc
  apply exec_sound ctNROk 300
  rw [show (rdHi.three rdInt rdInt).canon (⟨ha, hb, hc⟩, n, k) = [.agg [.dat ha, .dat hb, .dat hc], .int .i64 n, .int .i64 k] from rfl, rbf_in]
  refine fun hs => ⟨⟨rc, lc⟩, ⟨rc, lc⟩, fun h => ret_bool ?_, fun h => ret_lb ?_⟩
  · have e : decide (atEv (hc.to Ev) ⟨1, n⟩ ≥ 0) = true := h
    show decide (atEv (hc.to Ev) ⟨1, n⟩ < atEv (hc.to Ev) ⟨0, k⟩) = beforeR (hc.to Ev) n k
    unfold beforeR; rw [e]; rfl
  · have e : decide (atEv (hc.to Ev) ⟨1, n⟩ ≥ 0) = false := h
    show false = beforeR (hc.to Ev) n k
    unfold beforeR; rw [e]; rfl
theorem ctNSOk : Ctrs.Ok Try.prog ctNS := by
  intro x hx
  rcases List.mem_cons.1 hx with rfl | hx
  · exact ctrOf_ok lawBefR
  · exact ctNROk x hx

theorem lawClR : Law Try.prog 47 ((rdHi.two rdD).sp spClR) := by
  refine law_in _ (by kernel_rfl) fun H w ⟨⟨ha, hb, hc⟩, a⟩ hok hp => ?_
  obtain ⟨rc, lc, rb, lb, ra, la⟩ := hp _ (List.mem_singleton.2 rfl)
  simp only at rc lc rb lb ra la
  have al := D.Is.length (α := Int) a
  have bl := D.Is.length (α := Wt) hb
  apply exec_sound ctNROk 300
  rw [show (rdHi.two rdD).canon (⟨ha, hb, hc⟩, a) = [.agg [.dat ha, .dat hb, .dat hc], .dat a] from rfl, rcl_in]
  refine runs_loop (fun j : Nat => rclL ha hb hc a j) (fun j => j ≤ (a.to Int).length ∧ ∀ x, (hx : x < (a.to Int).length) → x < j → rowOkR (hc.to Ev) (hb.to Wt).length (a.to Int) (a.to Int)[x] = true) (fun j => (a.to Int).length - j) (fun _ => rfl) ?_ 0 ⟨Nat.zero_le _, fun x _ h => absurd h (Nat.not_lt_zero _)⟩
  intro j ⟨hj, hpre⟩ ih
  apply exec_sound ctNSOk 300
  rw [rclL_go]
  refine ⟨fun hcj => ?_, fun hcj => ?_⟩
  · have hcj : j < (a.to Int).length := by have := of_decide_eq_true hcj; omega
    obtain ⟨c1, c2, c3⟩ := int_at ra hcj
    refine runs_loop (fun k : Nat => rcl2L ha hb hc a j k) (fun k => k ≤ (hb.to Wt).length ∧ ∀ x : Nat, x < k → (!beforeR (hc.to Ev) x (a.to Int)[j] || (a.to Int).contains (x : Int)) = true) (fun k => (hb.to Wt).length - k) (fun _ => rfl) ?_ 0 ⟨Nat.zero_le _, fun x h => absurd h (Nat.not_lt_zero _)⟩
    intro k ⟨hk, hpk⟩ ihk
    apply exec_sound ctNSOk 300
    rw [rcl2L_go]
    refine ⟨fun hck hs => ?_, fun hck => ?_⟩
    · have hck : k < (hb.to Wt).length := by have := of_decide_eq_true hck; omega
      have nxt : (!beforeR (hc.to Ev) k (a.to Int)[j] || (a.to Int).contains (k : Int)) = true → Runs Try.prog ⟨w, H⟩ (rcl2L ha hb hc a j (IntKind.i64.wrap ((k : Int) + 1))) (RetS w H (.bool (closedS (hc.to Ev) (hb.to Wt).length (a.to Int)))) := fun h => by
        have := ihk (k + 1) ⟨hck, fun x hx => by
          by_cases e : x = k
          · subst e; exact h
          · exact hpk x (by omega)⟩ (by omega)
        rw [← wrap_succ hck (by omega)] at this
        exact this
      rw [c3]
      refine ⟨fun hbf => ?_, fun hbf => ?_⟩
      · simp only [holds_need]
        refine ⟨c1, c2, ⟨rc, lc⟩, hbf, hbf, hbf, ⟨ra, la⟩, hbf, hbf, fun hn => ret_lb (.symm ?_), fun hn => nxt ?_⟩
        · have hn : (a.to Int).contains (k : Int) = false := by simpa using hn
          unfold closedS
          rw [List.all_eq_false]
          refine ⟨_, List.getElem_mem hcj, ?_⟩
          rw [Bool.not_eq_true]
          unfold rowOkR
          rw [List.all_eq_false]
          exact ⟨k, List.mem_range.2 hck, by rw [hbf, hn]; decide⟩
        · have hn : (a.to Int).contains (k : Int) = true := by simpa using hn
          rw [hn]; simp
      · simp only [holds_need]
        exact ⟨c1, c2, ⟨rc, lc⟩, hbf, hbf, hbf, hbf, hbf, nxt (by rw [hbf]; rfl)⟩
    · have : k = (hb.to Wt).length := by have := of_decide_eq_false hck; omega
      subst this
      have := ih (j + 1) ⟨hcj, fun x hx hxj => by
        by_cases e : x = j
        · subst e
          unfold rowOkR
          rw [List.all_eq_true]
          exact fun y hy => hpk y (List.mem_range.1 hy)
        · exact hpre x hx (by omega)⟩ (by omega)
      rw [← wrap_succ hcj (by omega)] at this
      exact this
  · have : j = (a.to Int).length := by have := of_decide_eq_false hcj; omega
    subst this
    refine ret_lb (.symm ?_)
    unfold closedS
    rw [List.all_eq_true]
    intro b hb'
    obtain ⟨x, hx, rfl⟩ := List.getElem_of_mem hb'
    exact hpre x hx hx

theorem lawBefRef : Law Try.prog 14 ((rdHi.three rdInt rdInt).sp spBef) := by
  refine law_in _ (by kernel_rfl) fun H w ⟨⟨ha, hb, hc⟩, n, k⟩ hok hp => ?_
  have hR : (HiD.mk ha hb hc).Right := hp _ (List.mem_singleton.2 rfl)
  obtain ⟨ra, rb, rc, la, lb, lc, rd⟩ := id hR
  apply exec_sound ctNSOk 300
  rw [show (rdHi.three rdInt rdInt).canon (⟨ha, hb, hc⟩, n, k) = [.agg [.dat ha, .dat hb, .dat hc], .int .i64 n, .int .i64 k] from rfl, rB_in]
  refine ⟨hR, fun h => ⟨⟨rc, lc⟩, ret_bool ?_⟩, fun h => ret_lb ?_⟩
  · show _ = beforeH (HiD.mk ha hb hc).hist n k
    unfold beforeH; rw [h]; rfl
  · show _ = beforeH (HiD.mk ha hb hc).hist n k
    unfold beforeH; rw [h]; rfl

theorem lawClsRef : Law Try.prog 16 ((rdHi.two rdD).sp spCls) := by
  refine law_in _ (by kernel_rfl) fun H w ⟨⟨ha, hb, hc⟩, a⟩ hok hp => ?_
  obtain ⟨hR, hra, hla⟩ := hp _ (List.mem_singleton.2 rfl)
  simp only at hR hra hla
  obtain ⟨ra, rb, rc, la, lb, lc, rd⟩ := id hR
  simp only at ra rb rc la lb lc rd
  have bl := D.Is.length (α := Wt) hb
  apply exec_sound (cs := (47, ctrOf ((rdHi.two rdD).sp spClR)) :: ctNR) (fun x hx => by
    rcases List.mem_cons.1 hx with rfl | hx
    · exact ctrOf_ok lawClR
    · exact ctNROk x hx) 300
  rw [show (rdHi.two rdD).canon (⟨ha, hb, hc⟩, a) = [.agg [.dat ha, .dat hb, .dat hc], .dat a] from rfl, rC_in, bl]
  have e0 : closedB (HiD.mk ha hb hc).hist (a.to Int) = (decide ((checkH (HiD.mk ha hb hc).hist).1 = 0) && (setH (a.to Int) (hb.to Wt).length && closedS (hc.to Ev) (hb.to Wt).length (a.to Int))) := rfl
  refine ⟨hR, fun h => ⟨⟨hra, hla⟩, fun h2 => ⟨⟨rc, lc, rb, by omega, hra, hla⟩, ret_bool ?_⟩, fun h2 => ret_lb ?_⟩, fun h => ret_lb ?_⟩
  · rw [e0, h, h2]; rfl
  · rw [e0, h, h2]; rfl
  · rw [e0, h]; rfl
theorem ck_right {x : HiD} (hR : x.Right) (hc : (checkH x.hist).1 = 0) : ((checkH x.hist).2.issued.length = (x.w.to Wt).length) ∧ ((checkH x.hist).2.acked.length = (x.w.to Wt).length) := by
  obtain ⟨htl, hlen, _⟩ := checkH_ok hc
  exact ⟨hlen, by have := htl.len; have e : x.hist.writes.length = (x.w.to Wt).length := rfl; omega⟩

theorem lawCls : Law Try.prog 15 ((rdHi.two rdD).sp spCls) := by
  refine law_in _ (by kernel_rfl) fun H w ⟨⟨ha, hb, hc⟩, a⟩ hok hp => ?_
  obtain ⟨hR, hra, hla⟩ := hp _ (List.mem_singleton.2 rfl)
  simp only at hR hra hla
  obtain ⟨ra, rb, rc, la, lb, lc, rd⟩ := id hR
  simp only at ra rb rc la lb lc rd
  apply exec_sound ctNOk 300
  rw [show (rdHi.two rdD).canon (⟨ha, hb, hc⟩, a) = [.agg [.dat ha, .dat hb, .dat hc], .dat a] from rfl, cls_in]
  have e0 : closedB (HiD.mk ha hb hc).hist (a.to Int) = (decide ((checkH (HiD.mk ha hb hc).hist).1 = 0) && (setH (a.to Int) (hb.to Wt).length && closedS (hc.to Ev) (hb.to Wt).length (a.to Int))) := rfl
  refine ⟨hR, fun hs => ⟨fun h => ?_, fun h => ret_lb (by rw [e0, h]; rfl)⟩⟩
  have h0 : (checkH (HiD.mk ha hb hc).hist).1 = 0 := of_decide_eq_true h
  obtain ⟨l1, l2⟩ := ck_right hR h0
  simp only [h0, onOk_ok]
  refine ⟨⟨hra, hla, rb⟩, fun h2 => ?_, fun h2 => ret_lb ?_⟩
  · have i1 := D.like_is (hs 0 0) (checkH (HiD.mk ha hb hc).hist).2.issued
    have i2 := D.like_is (hs 0 1) (checkH (HiD.mk ha hb hc).hist).2.acked
    have t1 := D.like_to (hs 0 0) (checkH (HiD.mk ha hb hc).hist).2.issued
    have t2 := D.like_to (hs 0 1) (checkH (HiD.mk ha hb hc).hist).2.acked
    rw [t1, t2]
    refine ⟨⟨rb, i1, i2, hra, lb, hla, l1, l2, h2⟩, ret_bool ?_⟩
    rw [e0, h, h2]
    exact closed_same h0 h2
  · rw [e0, h, h2]; rfl

theorem lawBef : Law Try.prog 13 ((rdHi.three rdInt rdInt).sp spBef) := by
  refine law_in _ (by kernel_rfl) fun H w ⟨⟨ha, hb, hc⟩, n, k⟩ hok hp => ?_
  have hR : (HiD.mk ha hb hc).Right := hp _ (List.mem_singleton.2 rfl)
  obtain ⟨ra, rb, rc, la, lb, lc, rd⟩ := id hR
  simp only at ra rb rc la lb lc rd
  have bl := D.Is.length (α := Wt) hb
  apply exec_sound ctNOk 300
  rw [show (rdHi.three rdInt rdInt).canon (⟨ha, hb, hc⟩, n, k) = [.agg [.dat ha, .dat hb, .dat hc], .int .i64 n, .int .i64 k] from rfl, bf_in]
  have e0 : beforeH (HiD.mk ha hb hc).hist n k = (decide ((checkH (HiD.mk ha hb hc).hist).1 = 0) && beforeR (hc.to Ev) n k) := rfl
  refine ⟨hR, fun hs => ⟨fun h => ?_, fun h => ret_lb (by rw [e0, h]; rfl)⟩⟩
  have h0 : (checkH (HiD.mk ha hb hc).hist).1 = 0 := of_decide_eq_true h
  obtain ⟨l1, l2⟩ := ck_right hR h0
  have htl := (checkH_ok h0).1
  have out : ¬((0 ≤ n ∧ n < ((checkH (HiD.mk ha hb hc).hist).2.issued.length : Int)) ∧ 0 ≤ k ∧ k < ((checkH (HiD.mk ha hb hc).hist).2.issued.length : Int)) → false = beforeH (HiD.mk ha hb hc).hist n k := fun ho => by
    rw [e0, show beforeR (hc.to Ev) n k = false from before_out htl ho, Bool.and_false]
  simp only at l1 l2
  refine ⟨fun h1 => ⟨fun h2 => ⟨fun h3 => ⟨fun h4 => ?_, fun h4 => ret_lb (out ?_)⟩, fun h3 => ret_lb (out ?_)⟩, fun h2 => ret_lb (out ?_)⟩, fun h1 => ret_lb (out ?_)⟩
  · have h1 := of_decide_eq_true h1
    have h2 := of_decide_eq_true h2
    have h3 := of_decide_eq_true h3
    have h4 := of_decide_eq_true h4
    have i1 := D.like_is (hs 0 0) (checkH (HiD.mk ha hb hc).hist).2.issued
    have i2 := D.like_is (hs 0 1) (checkH (HiD.mk ha hb hc).hist).2.acked
    have t1 := D.like_to (hs 0 0) (checkH (HiD.mk ha hb hc).hist).2.issued
    have t2 := D.like_to (hs 0 1) (checkH (HiD.mk ha hb hc).hist).2.acked
    simp only [TlD.tl, t1, t2]
    refine ⟨⟨i1, i2, h1, by omega, h3, by omega⟩, ret_bool ?_⟩
    rw [e0, h, Bool.true_and]
    exact before_same htl ⟨h1, by omega⟩ ⟨h3, by omega⟩
  · have := of_decide_eq_false h4; omega
  · have := of_decide_eq_false h3; omega
  · have := of_decide_eq_false h2; omega
  · have := of_decide_eq_false h1; omega

theorem lawFst : Law Try.prog 37 (rdInt.one.sp spFst) := by
  refine law_in _ (by kernel_rfl) fun H w n hok hp => ?_
  have hn : n ≤ 1000000 := hp _ (List.mem_singleton.2 rfl)
  apply exec_sound ctNROk 300
  rw [show rdInt.one.canon n = [.int .i64 n] from rfl, fst_in]
  refine vecIn_to 9 3 1 none 3 (fstL (.slc none 1 []) n 0) (by kernel_rfl) ?_
  refine runs_loop (fun q : D × Nat => fstL q.1 n q.2) (fun q => (q.2 = 0 ∨ (q.2 : Int) ≤ n) ∧ q.1.Is Int ∧ q.1.sz = 1 ∧ q.1.to Int = (List.range q.2).map fun (a : Nat) => (a : Int)) (fun q => n.toNat - q.2) (fun _ => rfl) ?_ (.slc none 1 [], 0) ⟨.inl rfl, is_nil _ _, rfl, rfl⟩
  intro ⟨q, j⟩ ⟨hj, hq, hz, hto⟩ ih
  simp only at hj hq hz hto
  have ql := D.Is.length (α := Int) q
  rw [hto, List.length_map, List.length_range] at ql
  show Runs Try.prog ⟨w, H⟩ (unroll (fstL q n j)) _
  apply exec_sound (noCtr _) 300
  rw [fstL_go]
  refine ⟨fun hcj hs1 => ?_, fun hcj => ?_⟩
  · have hcj : (j : Int) < n := of_decide_eq_true hcj
    refine ⟨⟨hz, .inr rfl, by simp only [len_slc, List.length_cons, List.length_nil]; omega, by simp only [len_slc, List.length_cons, List.length_nil]; omega⟩, fun hs2 => ?_⟩
    have hr := rows_app (rows_of hq) (int_one (j : Int))
    obtain ⟨i1, i2⟩ := is_of (h := D.hd (hs2 0 0)) (s := 1) rfl hr
    have := ih (_, j + 1) ⟨.inr (by simp only; omega), i1, rfl, i2.trans (by rw [hto, List.range_succ, List.map_append]; rfl)⟩ (by simp only; omega)
    simp only at this
    rw [← wrap_succ (n := 1000001) (by omega) (by omega)] at this
    exact this
  · have hcj := of_decide_eq_false hcj
    refine ret_one (stands_dat hq hto) ?_
    unfold firstN
    congr 2
    omega

theorem acd_snoc {h : Hist} {n : Int} {t : List Int} (hc : (checkH h).1 = 0) (ht : t = (checkH h).2.acked) {j : Nat} (hj : j < t.length) :
    ((List.range (j + 1)).map fun (a : Nat) => (a : Int)).filter (fun a => decide (0 ≤ atEv h.events ⟨1, a⟩) && decide (atEv h.events ⟨1, a⟩ < n)) =
      ((List.range j).map fun (a : Nat) => (a : Int)).filter (fun a => decide (0 ≤ atEv h.events ⟨1, a⟩) && decide (atEv h.events ⟨1, a⟩ < n)) ++ (if 0 ≤ t[j] ∧ t[j] < n then [(j : Int)] else []) := by
  subst ht
  have htl := (checkH_ok hc).1
  have e : atEv h.events ⟨1, (j : Int)⟩ = (checkH h).2.acked[j] := (htl.ack j hj).symm
  rw [List.range_succ, List.map_append, List.filter_append]
  congr 1
  simp only [List.map_cons, List.map_nil, List.filter_cons, List.filter_nil, e, Bool.and_eq_true, decide_eq_true_eq]

theorem lawAcd : Law Try.prog 18 ((rdHi.two rdInt).sp spAcd) := by
  refine law_in _ (by kernel_rfl) fun H w ⟨⟨ha, hb, hc⟩, n⟩ hok hp => ?_
  have hR : (HiD.mk ha hb hc).Right := hp _ (List.mem_singleton.2 rfl)
  obtain ⟨ra, rb, rc, la, lb, lc, rd⟩ := id hR
  simp only at ra rb rc la lb lc rd
  have bl := D.Is.length (α := Wt) hb
  apply exec_sound ctNOk 300
  rw [show (rdHi.two rdInt).canon (⟨ha, hb, hc⟩, n) = [.agg [.dat ha, .dat hb, .dat hc], .int .i64 n] from rfl, acd_in]
  refine ⟨hR, fun hs => ⟨fun h => ret_one stands_nils ?_, fun h => ?_⟩⟩
  · have h : (checkH (HiD.mk ha hb hc).hist).1 ≠ 0 := by simpa using h
    show [] = ackedH _ n
    unfold ackedH; rw [if_pos h]
  have h0 : (checkH (HiD.mk ha hb hc).hist).1 = 0 := by simpa using h
  obtain ⟨l1, l2⟩ := ck_right hR h0
  simp only at l1 l2
  have i2 := D.like_is (hs 0 1) (checkH (HiD.mk ha hb hc).hist).2.acked
  have t2 := D.like_to (hs 0 1) (checkH (HiD.mk ha hb hc).hist).2.acked
  generalize D.like (hs 0 1) (checkH (HiD.mk ha hb hc).hist).2.acked = t at i2 t2
  have tl := D.Is.length (α := Int) t
  rw [t2, l2] at tl
  refine vecIn_to 9 3 1 none 7 (acL t (.slc none 1 []) n 0) (by kernel_rfl) ?_
  refine runs_loop (fun q : D × Nat => acL t q.1 n q.2) (fun q => q.2 ≤ (t.to Int).length ∧ q.1.Is Int ∧ q.1.sz = 1 ∧ q.1.len ≤ q.2 ∧ q.1.to Int = ((List.range q.2).map fun (a : Nat) => (a : Int)).filter (fun a => decide (0 ≤ atEv (hc.to Ev) ⟨1, a⟩) && decide (atEv (hc.to Ev) ⟨1, a⟩ < n))) (fun q => (t.to Int).length - q.2) (fun _ => rfl) ?_ (.slc none 1 [], 0) ⟨Nat.zero_le _, is_nil _ _, rfl, Nat.le_refl _, rfl⟩
  intro ⟨q, j⟩ ⟨hj, hq, hz, hql, hto⟩ ih
  simp only at hj hq hz hto hql
  show Runs Try.prog ⟨w, H⟩ (unroll (acL t q n j)) _
  apply exec_sound (noCtr _) 300
  rw [acL_go]
  have tl2 : (t.to Int).length = (hb.to Wt).length := by rw [t2, l2]
  refine ⟨fun hcj => ?_, fun hcj => ret_one (stands_dat hq hto) ?_⟩
  · have hcj : j < (t.to Int).length := by have := of_decide_eq_true hcj; omega
    obtain ⟨c1, c2, c3⟩ := int_at i2 hcj
    have sn := acd_snoc (n := n) h0 t2 hcj
    rw [c3]
    have skip : ¬(0 ≤ (t.to Int)[j] ∧ (t.to Int)[j] < n) → Runs Try.prog ⟨w, H⟩ (acL t q n (IntKind.i64.wrap ((j : Int) + 1))) (RetD w H fun ds => .dat ((ds 0).like (ackedH (HiD.mk ha hb hc).hist n))) := fun hno => by
      have := ih (q, j + 1) ⟨hcj, hq, hz, by simp only; omega, hto.trans (by rw [if_neg hno, List.append_nil] at sn; exact sn.symm)⟩ (by simp only; omega)
      simp only at this
      rw [← wrap_succ hcj (by omega)] at this
      exact this
    refine ⟨c1, c2, fun h1 => ⟨fun h2 hs1 => ?_, fun h2 => skip ?_⟩, fun h1 => skip ?_⟩
    · have h1 := of_decide_eq_true h1
      have h2 := of_decide_eq_true h2
      refine ⟨⟨hz, .inr rfl, by simp only [len_slc, List.length_cons, List.length_nil]; omega, by simp only [len_slc, List.length_cons, List.length_nil]; omega⟩, fun hs2 => ?_⟩
      have hr := rows_app (rows_of hq) (int_one (j : Int))
      obtain ⟨j1, j2⟩ := is_of (h := D.hd (hs2 0 0)) (s := 1) rfl hr
      have := ih (_, j + 1) ⟨hcj, j1, rfl, by simp only [len_slc, append_list, List.length_append, rows_slc, List.length_cons, List.length_nil]; have : q.rows.length = q.len := rfl; omega, j2.trans (by rw [if_pos ⟨h1, h2⟩] at sn; rw [hto]; exact sn.symm)⟩ (by simp only; omega)
      simp only at this
      rw [← wrap_succ hcj (by omega)] at this
      exact this
    · have h2 := of_decide_eq_false h2; omega
    · have h1 := of_decide_eq_false h1; omega
  · have : j = (t.to Int).length := by have := of_decide_eq_false hcj; omega
    subst this
    show _ = ackedH (HiD.mk ha hb hc).hist n
    unfold ackedH
    rw [if_neg (by simp [h0]), tl2]
    rfl

theorem lawAcdR : Law Try.prog 19 ((rdHi.two rdInt).sp spAcd) := by
  refine law_in _ (by kernel_rfl) fun H w ⟨⟨ha, hb, hc⟩, n⟩ hok hp => ?_
  have hR : (HiD.mk ha hb hc).Right := hp _ (List.mem_singleton.2 rfl)
  obtain ⟨ra, rb, rc, la, lb, lc, rd⟩ := id hR
  simp only at ra rb rc la lb lc rd
  have bl := D.Is.length (α := Wt) hb
  have el := D.Is.length (α := Ev) hc
  apply exec_sound ctNROk 300
  rw [show (rdHi.two rdInt).canon (⟨ha, hb, hc⟩, n) = [.agg [.dat ha, .dat hb, .dat hc], .int .i64 n] from rfl, racd_in]
  refine ⟨hR, fun h => ret_one stands_nils ?_, fun h => ?_⟩
  · have h : (checkH (HiD.mk ha hb hc).hist).1 ≠ 0 := by simpa using h
    show [] = ackedH _ n
    unfold ackedH; rw [if_pos h]
  have h0 : (checkH (HiD.mk ha hb hc).hist).1 = 0 := by simpa using h
  have hm : ∃ m : Nat, m ≤ (hc.to Ev).length ∧ (if (if (hc.len : Int) < n then (hc.len : Int) else n) > 0 then (if (hc.len : Int) < n then (hc.len : Int) else n) else 0) = (m : Int) ∧ ∀ x : Int, 0 ≤ x → x < (hc.to Ev).length → (x < m ↔ x < n) := by
    by_cases h1 : (hc.len : Int) < n
    · refine ⟨(hc.to Ev).length, Nat.le_refl _, ?_, fun x h2 h3 => by omega⟩
      rw [if_pos h1]; split <;> omega
    · rw [if_neg h1]
      by_cases h2 : n > 0
      · rw [if_pos h2]; exact ⟨n.toNat, by omega, by omega, fun x h3 h4 => by omega⟩
      · rw [if_neg h2]; exact ⟨0, Nat.zero_le _, rfl, fun x h3 h4 => by omega⟩
  obtain ⟨m, hm1, hm2, hm3⟩ := hm
  rw [hm2]
  refine vecIn_to 9 3 1 none 6 (racL ha hb hc (.slc none 1 []) m 0) (by kernel_rfl) ?_
  have hsub := rc.sub 0 (Int.toNat (m : Int))
  simp only [Int.toNat_natCast, List.drop_zero, Nat.sub_zero] at hsub
  have hsl : (hc.sub 0 m).len ≤ 1048576 := by rw [D.Is.length (α := Ev), hsub.2, List.length_take]; omega
  refine runs_loop (fun q : D × Nat => racL ha hb hc q.1 m q.2) (fun q => q.2 ≤ (hb.to Wt).length ∧ q.1.Is Int ∧ q.1.sz = 1 ∧ q.1.len ≤ q.2 ∧ q.1.to Int = ((List.range q.2).map fun (a : Nat) => (a : Int)).filter (fun a => decide (0 ≤ atEv (hc.to Ev) ⟨1, a⟩) && decide (atEv (hc.to Ev) ⟨1, a⟩ < n))) (fun q => (hb.to Wt).length - q.2) (fun _ => rfl) ?_ (.slc none 1 [], 0) ⟨Nat.zero_le _, is_nil _ _, rfl, Nat.le_refl _, rfl⟩
  intro ⟨q, j⟩ ⟨hj, hq, hz, hql, hto⟩ ih
  simp only at hj hq hz hto hql
  show Runs Try.prog ⟨w, H⟩ (unroll (racL ha hb hc q m j)) _
  apply exec_sound ctNROk 300
  rw [racL_go]
  refine ⟨fun hcj hs0 => ?_, fun hcj => ret_one (stands_dat hq hto) ?_⟩
  · have hcj : j < (hb.to Wt).length := by have := of_decide_eq_true hcj; omega
    have ti := atEv_take_iff (hc.to Ev) ⟨1, (j : Int)⟩ m
    have hcs := atEv_cases (hc.to Ev) ⟨1, (j : Int)⟩
    have e1 : atEv ((hc.sub 0 (Int.toNat (m : Int))).to Ev) (EvD.ev ⟨1, (j : Int)⟩) = atEv ((hc.to Ev).take m) ⟨1, (j : Int)⟩ := by
      simp only [Int.toNat_natCast, hsub.2]; rfl
    have sn : ((List.range (j + 1)).map fun (a : Nat) => (a : Int)).filter (fun a => decide (0 ≤ atEv (hc.to Ev) ⟨1, a⟩) && decide (atEv (hc.to Ev) ⟨1, a⟩ < n)) =
        ((List.range j).map fun (a : Nat) => (a : Int)).filter (fun a => decide (0 ≤ atEv (hc.to Ev) ⟨1, a⟩) && decide (atEv (hc.to Ev) ⟨1, a⟩ < n)) ++ (if atEv ((hc.to Ev).take m) ⟨1, (j : Int)⟩ ≥ 0 then [(j : Int)] else []) := by
      rw [List.range_succ, List.map_append, List.filter_append]
      congr 1
      simp only [List.map_cons, List.map_nil, List.filter_cons, List.filter_nil, Bool.and_eq_true, decide_eq_true_eq]
      by_cases h5 : atEv ((hc.to Ev).take m) ⟨1, (j : Int)⟩ ≥ 0
      · have := ti.1 h5
        rw [if_pos h5, if_pos]
        refine ⟨this.1, (hm3 _ this.1 ?_).1 this.2⟩
        rcases hcs with h6 | h6 <;> omega
      · rw [if_neg h5, if_neg]
        intro h7
        refine h5 (ti.2 ⟨h7.1, (hm3 _ h7.1 ?_).2 h7.2⟩)
        rcases hcs with h6 | h6 <;> omega
    rw [e1]
    refine ⟨⟨by omega, by omega, by omega, rc.fits⟩, ⟨by simpa using hsub.1, by simpa using hsl⟩, fun h1 hs1 => ?_, fun h1 => ?_⟩
    · have h1 := of_decide_eq_true h1
      rw [if_pos h1] at sn
      refine ⟨⟨hz, .inr rfl, by simp only [len_slc, List.length_cons, List.length_nil]; omega, by simp only [len_slc, List.length_cons, List.length_nil]; omega⟩, fun hs2 => ?_⟩
      have hr := rows_app (rows_of hq) (int_one (j : Int))
      obtain ⟨j1, j2⟩ := is_of (h := D.hd (hs2 0 0)) (s := 1) rfl hr
      have := ih (_, j + 1) ⟨hcj, j1, rfl, by simp only [len_slc, append_list, List.length_append, rows_slc, List.length_cons, List.length_nil]; have : q.rows.length = q.len := rfl; omega, j2.trans (by rw [hto]; exact sn.symm)⟩ (by simp only; omega)
      simp only at this
      rw [← wrap_succ hcj (by omega)] at this
      exact this
    · have h1 := of_decide_eq_false h1
      rw [if_neg h1, List.append_nil] at sn
      have := ih (q, j + 1) ⟨hcj, hq, hz, by simp only; omega, hto.trans sn.symm⟩ (by simp only; omega)
      simp only at this
      rw [← wrap_succ hcj (by omega)] at this
      exact this
  · have : j = (hb.to Wt).length := by have := of_decide_eq_false hcj; omega
    subst this
    show _ = ackedH (HiD.mk ha hb hc).hist n
    unfold ackedH
    rw [if_neg (by simp [h0])]
    rfl
end Go.Proofs.Ytdiekahpofifeaa
end
section
open Go Go.Proofs Sx
namespace Go.Proofs.Ytdiekahpofifeaa
set_option maxRecDepth 100000
set_option maxHeartbeats 0
noncomputable def rsK : List Item := [Item.inBlock 1, Item.code (cAt Try.prog 27 [1, 1, 1, 1, 1])]
noncomputable def rsT (a : D) : List SV := mkU [(0, SV.junk 0), (1, .dat a), (2, .ptr 100000 0), (3, SV.junk 3), (4, .ptr 100001 0), (5, SV.junk 5), (6, SV.junk 6), (7, SV.junk 7), (8, .ptr 100002 0), (9, SV.junk 9), (11, SV.junk 11), (12, SV.junk 12), (13, SV.junk 13), (14, SV.junk 14), (15, SV.junk 15), (16, SV.junk 16), (17, SV.junk 17), (18, SV.junk 18), (19, SV.junk 19), (20, SV.junk 20), (21, SV.junk 21), (22, SV.junk 22), (23, SV.junk 23), (24, SV.junk 24), (25, SV.junk 25), (26, SV.junk 26), (27, SV.junk 27), (28, SV.junk 28), (29, SV.junk 29), (30, SV.junk 30), (31, SV.junk 31), (32, SV.junk 32), (33, SV.junk 33), (34, SV.junk 34), (35, SV.junk 35), (36, SV.junk 36), (37, SV.junk 37), (38, SV.junk 38), (39, SV.junk 39), (40, SV.junk 40), (41, SV.fn 75 [] [.ptr 100003 0, .ptr 100004 0]), (42, SV.junk 42), (50, SV.junk 50), (51, SV.junk 51), (52, SV.junk 52), (53, SV.junk 53), (54, SV.junk 54), (55, SV.junk 55), (56, SV.junk 56), (57, SV.junk 57), (58, SV.junk 58), (59, SV.junk 59), (60, SV.junk 60), (61, SV.junk 61), (62, SV.junk 62), (63, SV.junk 63), (64, SV.junk 64), (65, SV.junk 65), (66, SV.junk 66), (67, SV.junk 67), (68, SV.junk 68), (69, SV.junk 69), (70, SV.junk 70), (71, SV.junk 71), (72, SV.junk 72), (73, SV.junk 73), (74, SV.junk 74)] 0 75
noncomputable def rsM (hs ha hb hc ga gb gc i o a q : D) : Mem := (100003, OBlk.cells 22 [.dat a]) :: (100004, OBlk.cells 81 [.dat ha, .dat hb, .dat hc, .dat i, .dat o]) :: [(100000, OBlk.cells 26 [.dat ga, .dat gb, .dat gc]), (100001, OBlk.cells 26 [.nils, .nils, .nils]), (100002, OBlk.cells 26 [.dat hs, .vec 9, .nils]), (9, OBlk.arr 55 q)]
noncomputable def rsN (hs ha hb hc ga gb gc i o a q : D) (z : Int) : Mem := (1010, OBlk.cells 55 [.int .i64 (hb.getInt (Int.toNat z) 0), .int .i64 (hb.getInt (Int.toNat z) 1), .dat (hb.cell (Int.toNat z) 2)]) :: rsM hs ha hb hc ga gb gc i o a q
noncomputable def rsR (hb a : D) (z : Int) : List SV := ((rsT a).set 42 (.int .i64 z)).set 43 (wvH hb z)
theorem rsF1 : cAt Try.prog 27 [1, 1, 1, 1, 0, 1, 0] = .rangeFunc (.tmp 41) #[42, 43] (cAt Try.prog 27 [1, 1, 1, 1, 0, 1, 0, 0]) (cAt Try.prog 27 [1, 1, 1, 1, 0, 1, 0, 1]) := by kernel_rfl
noncomputable def rstL (hs ga gb gc a q p : D) (z : Int) : Conf := Conf.mk (SFrm.mk 27 none none [Item.inLoop (cAt Try.prog 27 [1, 1, 1, 1, 1, 0, 1, 0, 0]), Item.inBlock 3, Item.code (cAt Try.prog 27 [1, 1, 1, 1, 1, 1])] (mkJ 0 [(1, .dat a), (4, .ptr 100001 0), (8, .ptr 100002 0), (51, .dat gc), (52, .int .i64 (gc.len : Int)), (53, .int .i64 z)] 0 75)) [] [(2, OBlk.arr 55 q), (3, OBlk.arr 77 p), (100000, OBlk.cells 26 [.dat ga, .dat gb, .dat gc]), (100001, OBlk.cells 26 [.nils, .nils, .nils]), (100002, OBlk.cells 26 [.dat hs, .vec 2, .vec 3])]
noncomputable def rs1L (ha hb hc a q : D) (z : Int) : Conf := Conf.mk (SFrm.mk 28 none none [Item.inLoop (cAt Try.prog 28 [1, 1, 1, 1, 1, 0, 1, 0, 0]), Item.inBlock 0, Item.code (cAt Try.prog 28 [1, 1, 1, 1, 1, 1])] (mkJ 0 [(1, .dat a), (2, .ptr 0 0), (4, .ptr 1 0), (7, .ptr 2 0), (8, .int .i64 z)] 0 90)) [] [(0, OBlk.cells 26 [.dat ha, .dat hb, .dat hc]), (1, OBlk.cells 26 [.nils, .nils, .nils]), (2, OBlk.cells 26 [.dat ha, .nils, .vec 3]), (3, .arr 77 q)]
noncomputable def rs2L (ha hb hc a q : D) (z x : Int) : Conf := Conf.mk (SFrm.mk 28 none none [Item.inLoop (cAt Try.prog 28 [1, 1, 1, 1, 1, 0, 1, 0, 0, 1, 0, 0, 1, 0, 0]), Item.inBlock 2, Item.inBlock 1, Item.code (cAt Try.prog 28 [1, 1, 1, 1, 1, 0, 1, 0, 0, 1, 1]), Item.inLoop (cAt Try.prog 28 [1, 1, 1, 1, 1, 0, 1, 0, 0]), Item.inBlock 0, Item.code (cAt Try.prog 28 [1, 1, 1, 1, 1, 1])] (mkJ 0 [(1, .dat a), (2, .ptr 0 0), (4, .ptr 1 0), (7, .ptr 2 0), (8, .int .i64 z), (9, .int .i64 x)] 0 90)) [] [(0, OBlk.cells 26 [.dat ha, .dat hb, .dat hc]), (1, OBlk.cells 26 [.nils, .nils, .nils]), (2, OBlk.cells 26 [.dat ha, .nils, .vec 3]), (3, .arr 77 q)]
noncomputable def rs3L (ha hb hc a q p : D) (x : Int) : Conf := Conf.mk (SFrm.mk 28 none none [Item.inLoop (cAt Try.prog 28 [1, 1, 1, 1, 1, 1, 0, 1, 0, 0]), Item.inBlock 4, Item.code (cAt Try.prog 28 [1, 1, 1, 1, 1, 1, 1])] (mkJ 0 [(1, .dat a), (2, .ptr 0 0), (4, .ptr 1 0), (7, .ptr 2 0), (10, .int .i64 x)] 0 90)) [] [(0, OBlk.cells 26 [.dat ha, .dat hb, .dat hc]), (1, OBlk.cells 26 [.nils, .nils, .nils]), (2, OBlk.cells 26 [.dat ha, .vec 3, .vec 4]), (3, .arr 55 p), (4, .arr 77 q)]
section
variable (p : D) (x : Int) (hs ha hb hc ga gb gc i o a q : D) (z : Int)
theorem rsa_go : execP Try.prog [] 100 ⟨⟨27, none, none, [.code (cAt Try.prog 27 [1, 1, 1, 1, 0, 1, 0, 0])], rsR hb a z⟩, [], rsM hs ha hb hc ga gb gc i o a q⟩ =
 Tree.leaf
 (Conf.mk
 (SFrm.mk 27 none none []
 (mkU
 [(0, SV.junk 0), (1, .dat a), (2, .ptr 100000 0), (3, SV.junk 3), (4, .ptr 100001 0), (5, SV.junk 5),
 (6, SV.junk 6), (7, SV.junk 7), (8, .ptr 100002 0), (9, SV.junk 9), (10, .ptr 1010 0), (11, SV.junk 11),
 (12, SV.junk 12), (13, SV.junk 13), (14, SV.junk 14), (15, SV.junk 15), (16, SV.junk 16), (17, SV.junk 17),
 (18, SV.junk 18), (19, SV.junk 19), (20, SV.junk 20), (21, SV.junk 21), (22, SV.junk 22), (23, SV.junk 23),
 (24, SV.junk 24), (25, SV.junk 25), (26, SV.junk 26), (27, SV.junk 27), (28, SV.junk 28), (29, SV.junk 29),
 (30, SV.junk 30), (31, SV.junk 31), (32, SV.junk 32), (33, SV.junk 33), (34, SV.junk 34), (35, SV.junk 35),
 (36, SV.junk 36), (37, SV.junk 37), (38, SV.junk 38), (39, SV.junk 39), (40, SV.junk 40),
 (41, SV.fn 75 [] [.ptr 100003 0, .ptr 100004 0]), (42, .int .i64 z),
 (43,
 .agg
 [.int .i64 (D.getInt hb (Int.toNat z) 0), .int .i64 (D.getInt hb (Int.toNat z) 1),
 .dat (D.cell hb (Int.toNat z) 2)]),
 (50, SV.junk 50), (51, SV.junk 51), (52, SV.junk 52), (53, SV.junk 53), (54, SV.junk 54), (55, SV.junk 55),
 (56, SV.junk 56), (57, SV.junk 57), (58, SV.junk 58), (59, SV.junk 59), (60, SV.junk 60), (61, SV.junk 61),
 (62, SV.junk 62), (63, SV.junk 63), (64, SV.junk 64), (65, SV.junk 65), (66, SV.junk 66), (67, SV.junk 67),
 (68, SV.junk 68), (69, SV.junk 69), (70, SV.junk 70), (71, SV.junk 71), (72, SV.junk 72), (73, SV.junk 73),
 (74, SV.junk 74)]
 0 75))
 []
 [(1010,
 OBlk.cells 55
 [.int .i64 (D.getInt hb (Int.toNat z) 0), .int .i64 (D.getInt hb (Int.toNat z) 1),
 .dat (D.cell hb (Int.toNat z) 2)]),
 (100003, OBlk.cells 22 [.dat a]), (100004, OBlk.cells 81 [.dat ha, .dat hb, .dat hc, .dat i, .dat o]),
 (100000, OBlk.cells 26 [.dat ga, .dat gb, .dat gc]), (100001, OBlk.cells 26 [.nils, .nils, .nils]),
 (100002, OBlk.cells 26 [.dat hs, .vec 9, .nils]), (9, OBlk.arr 55 q)]) := by kernel_rfl

theorem rsb_go : execP Try.prog [] 100 ⟨⟨27, none, none, [.code (cAt Try.prog 27 [1, 1, 1, 1, 0, 1, 0, 1])], (rsR hb a z).set 10 (.ptr 1010 0)⟩, [], rsN hs ha hb hc ga gb gc i o a q z⟩ =
 Tree.all fun hs_1 =>
 .need
 (D.sz q = 3 ∧
 D.Fits
 (D.slc (D.hd (hs_1 0 0)) 3
 [[D.int .i64 (D.getInt hb (Int.toNat z) 0), D.int .i64 (D.getInt hb (Int.toNat z) 1),
 D.cell hb (Int.toNat z) 2]])
 3 ∧
 (D.len q +
 D.len
 (D.slc (D.hd (hs_1 0 0)) 3
 [[D.int .i64 (D.getInt hb (Int.toNat z) 0), D.int .i64 (D.getInt hb (Int.toNat z) 1),
 D.cell hb (Int.toNat z) 2]])) *
 40 ≤
 140737488355328 ∧
 D.len q +
 D.len
 (D.slc (D.hd (hs_1 0 0)) 3
 [[D.int .i64 (D.getInt hb (Int.toNat z) 0), D.int .i64 (D.getInt hb (Int.toNat z) 1),
 D.cell hb (Int.toNat z) 2]]) ≤
 9223372036854775807)
 (.all fun hs_2 =>
 .leaf
 (Conf.mk
 (SFrm.mk 27 none none []
 (mkJ 0
 [(1, .dat a), (2, .ptr 100000 0), (4, .ptr 100001 0), (8, .ptr 100002 0), (10, .ptr 1010 0),
 (41, SV.fn 75 [] [.ptr 100003 0, .ptr 100004 0]), (42, .int .i64 z),
 (43,
 .agg
 [.int .i64 (D.getInt hb (Int.toNat z) 0), .int .i64 (D.getInt hb (Int.toNat z) 1),
 .dat (D.cell hb (Int.toNat z) 2)]),
 (44, .ptr 100002 1), (45, .vec 9),
 (46,
 .agg
 [.int .i64 (D.getInt hb (Int.toNat z) 0), .int .i64 (D.getInt hb (Int.toNat z) 1),
 .dat (D.cell hb (Int.toNat z) 2)]),
 (47, .vec 1047), (48, .vec 1048), (49, .ptr 100002 1)]
 0 75))
 []
 [(1048,
 OBlk.arr 55
 (D.slc (D.hd (hs_2 0 0)) 3
 (List.append (D.rows q)
 (D.rows
 (D.slc (D.hd (hs_1 0 0)) 3
 [[D.int .i64 (D.getInt hb (Int.toNat z) 0),
 D.int .i64 (D.getInt hb (Int.toNat z) 1), D.cell hb (Int.toNat z) 2]]))))),
 (1047,
 OBlk.arr 55
 (D.slc (D.hd (hs_1 0 0)) 3
 [[D.int .i64 (D.getInt hb (Int.toNat z) 0), D.int .i64 (D.getInt hb (Int.toNat z) 1),
 D.cell hb (Int.toNat z) 2]])),
 (1010,
 OBlk.cells 55
 [.int .i64 (D.getInt hb (Int.toNat z) 0), .int .i64 (D.getInt hb (Int.toNat z) 1),
 .dat (D.cell hb (Int.toNat z) 2)]),
 (100003, OBlk.cells 22 [.dat a]),
 (100004, OBlk.cells 81 [.dat ha, .dat hb, .dat hc, .dat i, .dat o]),
 (100000, OBlk.cells 26 [.dat ga, .dat gb, .dat gc]),
 (100001, OBlk.cells 26 [.nils, .nils, .nils]),
 (100002, OBlk.cells 26 [.dat hs, .vec 1048, .nils])])) := by kernel_rfl

theorem rse_in : exec Try.prog ctRs 400 ⟨⟨27, none, none, rsK, rsT a⟩, [], rsM hs ha hb hc ga gb gc i o a q⟩ =
 Tree.leaf
 (Conf.mk
 (SFrm.mk 27 none none
 [Item.inLoop (cAt Try.prog 27 [1, 1, 1, 1, 1, 0, 1, 0, 0]), Item.inBlock 3,
 Item.code (cAt Try.prog 27 [1, 1, 1, 1, 1, 1])]
 (mkJ 0
 [(1, .dat a), (4, .ptr 100001 0), (8, .ptr 100002 0), (51, .dat gc),
 (52, .int .i64 (↑(D.len gc) : Int)), (53, .int .i64 0)]
 0 75))
 []
 [(2, OBlk.arr 55 q), (100000, OBlk.cells 26 [.dat ga, .dat gb, .dat gc]),
 (100001, OBlk.cells 26 [.nils, .nils, .nils]), (100002, OBlk.cells 26 [.dat hs, .vec 2, .nils]),
 (100003, OBlk.cells 22 [.dat a]),
 (100004, OBlk.cells 81 [.dat ha, .dat hb, .dat hc, .dat i, .dat o])]) := by kernel_rfl

theorem rsl_go : exec Try.prog ctRs 400 (unroll (rstL hs ga gb gc a q p z)) =
 Tree.br (decide (z < (↑(D.len gc) : Int)))
 (.need (0 ≤ z ∧ z < (↑(D.len gc) : Int) ∧ D.sz gc = 2)
 (.need (D.HasCells gc (Int.toNat z) 0 [FT.int .i64, FT.int .i64])
 (.need (D.Is Int a ∧ D.len a ≤ 1048576)
 (.br (decide ((idxG (D.to Int a) fun y => decide (D.getInt gc (Int.toNat z) 1 = y)) ≥ 0))
 (.all fun hs_1 =>
 .need
 (D.sz p = 2 ∧
 D.Fits
 (D.slc (D.hd (hs_1 0 0)) 2
 [[D.int .i64 (D.getInt gc (Int.toNat z) 0),
 D.int .i64 (idxG (D.to Int a) fun y => decide (D.getInt gc (Int.toNat z) 1 = y))]])
 2 ∧
 (D.len p +
 D.len
 (D.slc (D.hd (hs_1 0 0)) 2
 [[D.int .i64 (D.getInt gc (Int.toNat z) 0),
 D.int .i64
 (idxG (D.to Int a) fun y => decide (D.getInt gc (Int.toNat z) 1 = y))]])) *
 16 ≤
 140737488355328 ∧
 D.len p +
 D.len
 (D.slc (D.hd (hs_1 0 0)) 2
 [[D.int .i64 (D.getInt gc (Int.toNat z) 0),
 D.int .i64
 (idxG (D.to Int a) fun y => decide (D.getInt gc (Int.toNat z) 1 = y))]]) ≤
 9223372036854775807)
 (.all fun hs_2 =>
 .leaf
 (Conf.mk
 (SFrm.mk 27 none none
 [Item.inLoop (cAt Try.prog 27 [1, 1, 1, 1, 1, 0, 1, 0, 0]), Item.inBlock 3,
 Item.code (cAt Try.prog 27 [1, 1, 1, 1, 1, 1])]
 (mkJ 0
 [(1, .dat a), (4, .ptr 100001 0), (8, .ptr 100002 0), (51, .dat gc),
 (52, .int .i64 (↑(D.len gc) : Int)),
 (53, .int .i64 (IntKind.wrap .i64 (z + 1)))]
 0 75))
 []
 [(2, OBlk.arr 55 q),
 (3,
 OBlk.arr 77
 (D.slc (D.hd (hs_2 0 0)) 2
 (List.append (D.rows p)
 (D.rows
 (D.slc (D.hd (hs_1 0 0)) 2
 [[D.int .i64 (D.getInt gc (Int.toNat z) 0),
 D.int .i64
 (idxG (D.to Int a) fun y => decide (D.getInt gc (Int.toNat z) 1 = y))]]))))),
 (100000, OBlk.cells 26 [.dat ga, .dat gb, .dat gc]),
 (100001, OBlk.cells 26 [.nils, .nils, .nils]),
 (100002, OBlk.cells 26 [.dat hs, .vec 2, .vec 3])])))
 (.leaf
 (Conf.mk
 (SFrm.mk 27 none none
 [Item.inLoop (cAt Try.prog 27 [1, 1, 1, 1, 1, 0, 1, 0, 0]), Item.inBlock 3,
 Item.code (cAt Try.prog 27 [1, 1, 1, 1, 1, 1])]
 (mkJ 0
 [(1, .dat a), (4, .ptr 100001 0), (8, .ptr 100002 0), (51, .dat gc),
 (52, .int .i64 (↑(D.len gc) : Int)),
 (53, .int .i64 (IntKind.wrap .i64 (z + 1)))]
 0 75))
 []
 [(2, OBlk.arr 55 q), (3, OBlk.arr 77 p), (100000, OBlk.cells 26 [.dat ga, .dat gb, .dat gc]),
 (100001, OBlk.cells 26 [.nils, .nils, .nils]),
 (100002, OBlk.cells 26 [.dat hs, .vec 2, .vec 3])]))))))
 (.need (HiD.Right (HiD.mk hs q p))
 (.all fun hs_1 =>
 .ret
 (SV.tup
 [.agg
 [.dat (D.like (hs_1 0 0) (D.to Int hs)), .dat (D.like (hs_1 0 1) (D.to Wt q)),
 .dat (D.like (hs_1 0 2) (D.to Ev p))],
 .int .i64 0]))) := by kernel_rfl

theorem rs1_go : exec Try.prog ctRR 400 (unroll (rs1L ha hb hc a q z)) =
 Tree.br (decide (z < (↑(D.len hc) : Int)))
 (.leaf
 (Conf.mk
 (SFrm.mk 28 none none
 [Item.inLoop (cAt Try.prog 28 [1, 1, 1, 1, 1, 0, 1, 0, 0, 1, 0, 0, 1, 0, 0]), Item.inBlock 2, Item.inBlock 1,
 Item.code (cAt Try.prog 28 [1, 1, 1, 1, 1, 0, 1, 0, 0, 1, 1]),
 Item.inLoop (cAt Try.prog 28 [1, 1, 1, 1, 1, 0, 1, 0, 0]), Item.inBlock 0,
 Item.code (cAt Try.prog 28 [1, 1, 1, 1, 1, 1])]
 (mkJ 0
 [(1, .dat a), (2, .ptr 0 0), (4, .ptr 1 0), (7, .ptr 2 0), (8, .int .i64 z),
 (9, .int .i64 0)]
 0 90))
 []
 [(0, OBlk.cells 26 [.dat ha, .dat hb, .dat hc]), (1, OBlk.cells 26 [.nils, .nils, .nils]),
 (2, OBlk.cells 26 [.dat ha, .nils, .vec 3]), (3, OBlk.arr 77 q)]))
 (.leaf
 (Conf.mk
 (SFrm.mk 28 none none
 [Item.inLoop (cAt Try.prog 28 [1, 1, 1, 1, 1, 1, 0, 1, 0, 0]), Item.inBlock 4,
 Item.code (cAt Try.prog 28 [1, 1, 1, 1, 1, 1, 1])]
 (mkJ 0 [(1, .dat a), (2, .ptr 0 0), (4, .ptr 1 0), (7, .ptr 2 0), (10, .int .i64 0)] 0 90))
 []
 [(0, OBlk.cells 26 [.dat ha, .dat hb, .dat hc]), (1, OBlk.cells 26 [.nils, .nils, .nils]),
 (2, OBlk.cells 26 [.dat ha, .nils, .vec 3]), (3, OBlk.arr 77 q)])) := by kernel_rfl

theorem rs2_go : exec Try.prog ctRR 400 (unroll (rs2L ha hb hc a q z x)) =
 Tree.br (decide (x < (↑(D.len a) : Int)))
 (.all fun hs =>
 .need (0 ≤ x ∧ x < (↑(D.len a) : Int) ∧ D.sz a = 1)
 (.need (D.HasCell a (Int.toNat x) 0 (FT.int .i64))
 (.need (0 ≤ z ∧ z < (↑(D.len hc) : Int) ∧ D.sz hc = 2)
 (.need (D.HasCell hc (Int.toNat z) 1 (FT.int .i64))
 (.br (decide (D.getInt a (Int.toNat x) 0 = D.getInt hc (Int.toNat z) 1))
 (.all fun hs =>
 .need (0 ≤ z ∧ z < (↑(D.len hc) : Int) ∧ D.sz hc = 2)
 (.need (D.HasCell hc (Int.toNat z) 0 (FT.int .i64))
 (.need
 (D.sz q = 2 ∧
 D.Fits
 (D.slc (D.hd (hs 10 0)) 2
 [[D.int .i64 (D.getInt hc (Int.toNat z) 0), D.int .i64 x]])
 2 ∧
 (D.len q +
 D.len
 (D.slc (D.hd (hs 10 0)) 2
 [[D.int .i64 (D.getInt hc (Int.toNat z) 0), D.int .i64 x]])) *
 16 ≤
 140737488355328 ∧
 D.len q +
 D.len
 (D.slc (D.hd (hs 10 0)) 2
 [[D.int .i64 (D.getInt hc (Int.toNat z) 0), D.int .i64 x]]) ≤
 9223372036854775807)
 (.leaf
 (Conf.mk
 (SFrm.mk 28 none none
 [Item.inLoop (cAt Try.prog 28 [1, 1, 1, 1, 1, 0, 1, 0, 0, 1, 0, 0, 1, 0, 0]),
 Item.inBlock 2, Item.inBlock 1,
 Item.code (cAt Try.prog 28 [1, 1, 1, 1, 1, 0, 1, 0, 0, 1, 1]),
 Item.inLoop (cAt Try.prog 28 [1, 1, 1, 1, 1, 0, 1, 0, 0]), Item.inBlock 0,
 Item.code (cAt Try.prog 28 [1, 1, 1, 1, 1, 1])]
 (mkJ 0
 [(1, .dat a), (2, .ptr 0 0), (4, .ptr 1 0), (7, .ptr 2 0),
 (8, .int .i64 z), (9, .int .i64 (IntKind.wrap .i64 (x + 1)))]
 0 90))
 []
 [(0, OBlk.cells 26 [.dat ha, .dat hb, .dat hc]),
 (1, OBlk.cells 26 [.nils, .nils, .nils]),
 (2, OBlk.cells 26 [.dat ha, .nils, .vec 3]),
 (3,
 OBlk.arr 77
 (D.slc (D.hd (hs 11 0)) 2
 (List.append (D.rows q)
 (D.rows
 (D.slc (D.hd (hs 10 0)) 2
 [[D.int .i64 (D.getInt hc (Int.toNat z) 0),
 D.int .i64 x]])))))])))))
 (.leaf
 (Conf.mk
 (SFrm.mk 28 none none
 [Item.inLoop (cAt Try.prog 28 [1, 1, 1, 1, 1, 0, 1, 0, 0, 1, 0, 0, 1, 0, 0]), Item.inBlock 2,
 Item.inBlock 1, Item.code (cAt Try.prog 28 [1, 1, 1, 1, 1, 0, 1, 0, 0, 1, 1]),
 Item.inLoop (cAt Try.prog 28 [1, 1, 1, 1, 1, 0, 1, 0, 0]), Item.inBlock 0,
 Item.code (cAt Try.prog 28 [1, 1, 1, 1, 1, 1])]
 (mkJ 0
 [(1, .dat a), (2, .ptr 0 0), (4, .ptr 1 0), (7, .ptr 2 0), (8, .int .i64 z),
 (9, .int .i64 (IntKind.wrap .i64 (x + 1)))]
 0 90))
 []
 [(0, OBlk.cells 26 [.dat ha, .dat hb, .dat hc]), (1, OBlk.cells 26 [.nils, .nils, .nils]),
 (2, OBlk.cells 26 [.dat ha, .nils, .vec 3]), (3, OBlk.arr 77 q)])))))))
 (.leaf
 (Conf.mk
 (SFrm.mk 28 none none
 [Item.inLoop (cAt Try.prog 28 [1, 1, 1, 1, 1, 0, 1, 0, 0]), Item.inBlock 0,
 Item.code (cAt Try.prog 28 [1, 1, 1, 1, 1, 1])]
 (mkJ 0
 [(1, .dat a), (2, .ptr 0 0), (4, .ptr 1 0), (7, .ptr 2 0),
 (8, .int .i64 (IntKind.wrap .i64 (z + 1)))]
 0 90))
 []
 [(0, OBlk.cells 26 [.dat ha, .dat hb, .dat hc]), (1, OBlk.cells 26 [.nils, .nils, .nils]),
 (2, OBlk.cells 26 [.dat ha, .nils, .vec 3]), (3, OBlk.arr 77 q)])) := by kernel_rfl

theorem rs3_go : exec Try.prog ctRR 400 (unroll (rs3L ha hb hc a q p x)) =
 Tree.br (decide (x < (↑(D.len a) : Int)))
 (.all fun hs =>
 .need (0 ≤ x ∧ x < (↑(D.len a) : Int) ∧ D.sz a = 1)
 (.need (D.HasCell a (Int.toNat x) 0 (FT.int .i64))
 (.need (0 ≤ D.getInt a (Int.toNat x) 0 ∧ D.getInt a (Int.toNat x) 0 < (↑(D.len hb) : Int) ∧ D.sz hb = 3)
 (.need
 (D.HasCells hb (Int.toNat (D.getInt a (Int.toNat x) 0)) 0 [FT.int .i64, FT.int .i64, FT.slc])
 (.need
 (D.sz p = 3 ∧
 D.Fits
 (D.slc (D.hd (hs 10 0)) 3
 [[D.int .i64 (D.getInt hb (Int.toNat (D.getInt a (Int.toNat x) 0)) 0),
 D.int .i64 (D.getInt hb (Int.toNat (D.getInt a (Int.toNat x) 0)) 1),
 D.cell hb (Int.toNat (D.getInt a (Int.toNat x) 0)) 2]])
 3 ∧
 (D.len p +
 D.len
 (D.slc (D.hd (hs 10 0)) 3
 [[D.int .i64 (D.getInt hb (Int.toNat (D.getInt a (Int.toNat x) 0)) 0),
 D.int .i64 (D.getInt hb (Int.toNat (D.getInt a (Int.toNat x) 0)) 1),
 D.cell hb (Int.toNat (D.getInt a (Int.toNat x) 0)) 2]])) *
 40 ≤
 140737488355328 ∧
 D.len p +
 D.len
 (D.slc (D.hd (hs 10 0)) 3
 [[D.int .i64 (D.getInt hb (Int.toNat (D.getInt a (Int.toNat x) 0)) 0),
 D.int .i64 (D.getInt hb (Int.toNat (D.getInt a (Int.toNat x) 0)) 1),
 D.cell hb (Int.toNat (D.getInt a (Int.toNat x) 0)) 2]]) ≤
 9223372036854775807)
 (.leaf
 (Conf.mk
 (SFrm.mk 28 none none
 [Item.inLoop (cAt Try.prog 28 [1, 1, 1, 1, 1, 1, 0, 1, 0, 0]), Item.inBlock 4,
 Item.code (cAt Try.prog 28 [1, 1, 1, 1, 1, 1, 1])]
 (mkJ 0
 [(1, .dat a), (2, .ptr 0 0), (4, .ptr 1 0), (7, .ptr 2 0),
 (10, .int .i64 (IntKind.wrap .i64 (x + 1)))]
 0 90))
 []
 [(0, OBlk.cells 26 [.dat ha, .dat hb, .dat hc]), (1, OBlk.cells 26 [.nils, .nils, .nils]),
 (2, OBlk.cells 26 [.dat ha, .vec 3, .vec 4]),
 (3,
 OBlk.arr 55
 (D.slc (D.hd (hs 11 0)) 3
 (List.append (D.rows p)
 (D.rows
 (D.slc (D.hd (hs 10 0)) 3
 [[D.int .i64 (D.getInt hb (Int.toNat (D.getInt a (Int.toNat x) 0)) 0),
 D.int .i64 (D.getInt hb (Int.toNat (D.getInt a (Int.toNat x) 0)) 1),
 D.cell hb (Int.toNat (D.getInt a (Int.toNat x) 0)) 2]]))))),
 (4, OBlk.arr 77 q)])))))))
 (.need (HiD.Right (HiD.mk ha p q))
 (.all fun hs =>
 .ret
 (SV.tup
 [.agg
 [.dat (D.like (hs 0 0) (D.to Int ha)), .dat (D.like (hs 0 1) (D.to Wt p)),
 .dat (D.like (hs 0 2) (D.to Ev q))],
 .int .i64 0]))) := by kernel_rfl

end
end Go.Proofs.Ytdiekahpofifeaa
end
section
open Go
namespace Sx
theorem setUp_lt {l : List Int} {n : Int} {m : Nat} (h : setUp l n m = true) : ∀ {i k : Nat}, i < k → k < m → l.getD i 0 < l.getD k 0 := by
  intro i k hik hk
  obtain ⟨d, rfl⟩ := Nat.exists_eq_add_of_lt hik
  clear hik
  have step : ∀ q, 0 < q → q < m → l.getD (q - 1) 0 < l.getD q 0 := fun q h0 hq => by
    obtain ⟨e, rfl⟩ := Nat.exists_eq_add_of_le (show q + 1 ≤ m by omega)
    have := setUp_mono h
    simp only [setUp, Bool.and_eq_true, Bool.or_eq_true, decide_eq_true_eq] at this
    have := this.2.2.2
    omega
  induction d with
  | zero => have := step (i + 1) (by omega) (by omega); simpa using this
  | succ d ih =>
    have h1 := ih (by omega)
    have h2 := step (i + (d + 1) + 1) (by omega) hk
    have e : i + (d + 1) + 1 - 1 = i + d + 1 := by omega
    rw [e] at h2
    omega
theorem setH_inj {l : List Int} {n : Int} (h : setH l n = true) {i k : Nat} (hi : i < l.length) (hk : k < l.length) (e : l.getD i 0 = l.getD k 0) : i = k := by
  rcases Nat.lt_trichotomy i k with h1 | h1 | h1
  · have := setUp_lt h h1 hk; omega
  · exact h1
  · have := setUp_lt h h1 hi; omega

theorem range_one (i : Nat) : ∀ n, (List.range n).filter (fun k => decide (k = i)) = if i < n then [i] else []
  | 0 => by simp
  | n + 1 => by
    rw [List.range_succ, List.filter_append, range_one i n]
    by_cases h1 : i < n
    · rw [if_pos h1, if_pos (by omega)]
      simp; omega
    · rw [if_neg h1]
      by_cases h2 : n = i
      · subst h2; simp
      · rw [if_neg (by omega)]; simp [h2]
def evR (set : List Int) (x : Ev) : List Ev := ((List.range set.length).filter fun k => decide (set.getD k 0 = x.write)).map fun (k : Nat) => (⟨x.kind, k⟩ : Ev)
theorem evR_idx {set : List Int} {n : Int} (h : setH set n = true) (x : Ev) : evR set x = if idxG set (fun y => decide (x.write = y)) ≥ 0 then [⟨x.kind, idxG set (fun y => decide (x.write = y))⟩] else [] := by
  unfold evR idxG
  cases hf : set.findIdx? (fun y => decide (x.write = y)) with
  | none =>
    rw [List.findIdx?_eq_none_iff] at hf
    have : (List.range set.length).filter (fun k => decide (set.getD k 0 = x.write)) = [] := by
      rw [List.filter_eq_nil_iff]
      intro k hk
      have hk := List.mem_range.1 hk
      have := hf _ (List.getElem_mem hk)
      rw [getD_lt hk]
      simp only [decide_eq_false_iff_not] at this
      simp only [decide_eq_true_eq]
      exact fun e => this e.symm
    rw [this]; rfl
  | some i =>
    rw [List.findIdx?_eq_some_iff_getElem] at hf
    obtain ⟨hi, h1, _⟩ := hf
    simp only [decide_eq_true_eq] at h1
    have : (List.range set.length).filter (fun k => decide (set.getD k 0 = x.write)) = [i] := by
      have e : (List.range set.length).filter (fun k => decide (set.getD k 0 = x.write)) = (List.range set.length).filter (fun k => decide (k = i)) := by
        apply List.filter_congr
        intro k hk
        have hk := List.mem_range.1 hk
        rw [decide_eq_decide]
        constructor
        · intro e; exact setH_inj h hk hi (by rw [e, getD_lt hi, h1])
        · intro e; subst e; rw [getD_lt hk, h1]
      rw [e, range_one, if_pos hi]
    rw [this]
    simp only
    rw [if_pos (by omega)]
    rfl
def restE (set : List Int) (l : List Ev) : List Ev := l.flatMap (evR set)
theorem restE_snoc {set : List Int} {l : List Ev} {j : Nat} (hj : j < l.length) : restE set (l.take (j + 1)) = restE set (l.take j) ++ evR set l[j] := by
  unfold restE
  rw [List.take_succ_eq_append_getElem hj, List.flatMap_append]
  simp
theorem evR_len {set : List Int} {n : Int} (h : setH set n = true) (x : Ev) : (evR set x).length ≤ 1 := by
  rw [evR_idx h]; split <;> simp
theorem restE_len {set : List Int} {n : Int} (h : setH set n = true) : ∀ l : List Ev, (restE set l).length ≤ l.length
  | [] => by simp [restE]
  | x :: r => by
    have h1 := evR_len h x
    have h2 := restE_len h r
    simp only [restE, List.flatMap_cons, List.length_append, List.length_cons] at h2 ⊢
    omega
def zWt : Wt := ⟨0, 0, []⟩
def pickW (ws : List Wt) (set : List Int) : List Wt := set.map fun n => ws.getD n.toNat zWt
def restrictH (h : Hist) (set : List Int) : Hist × Int :=
  if (checkH h).1 ≠ 0 then (zHist, (checkH h).1)
  else if setH set h.writes.length = false then (zHist, 2)
  else if closedS h.events h.writes.length set = false then (zHist, 27)
  else (⟨h.sizes, pickW h.writes set, restE set h.events⟩, 0)
theorem rest_e1 {h : Hist} {set : List Int} (h1 : (checkH h).1 ≠ 0) : restrictH h set = (zHist, (checkH h).1) := by unfold restrictH; rw [if_pos h1]
theorem rest_e2 {h : Hist} {set : List Int} (h1 : (checkH h).1 = 0) (h2 : setH set h.writes.length = false) : restrictH h set = (zHist, 2) := by unfold restrictH; rw [if_neg (by simp [h1]), if_pos h2]
theorem rest_e27 {h : Hist} {set : List Int} (h1 : (checkH h).1 = 0) (h2 : setH set h.writes.length = true) (h3 : closedS h.events h.writes.length set = false) : restrictH h set = (zHist, 27) := by
  unfold restrictH; rw [if_neg (by simp [h1]), if_neg (by simp [h2]), if_pos h3]
theorem rest_ok {h : Hist} {set : List Int} (h1 : (checkH h).1 = 0) (h2 : setH set h.writes.length = true) (h3 : closedS h.events h.writes.length set = true) : restrictH h set = (⟨h.sizes, pickW h.writes set, restE set h.events⟩, 0) := by
  unfold restrictH; rw [if_neg (by simp [h1]), if_neg (by simp [h2]), if_neg (by simp [h3])]
noncomputable def spRest (x : HiD × D) : SpecR := .data [x.1.Right ∧ x.2.Is Int ∧ x.2.len ≤ 1048576] fun ds => .tup [hiSV ds (restrictH x.1.hist (x.2.to Int)).1, .int .i64 (restrictH x.1.hist (x.2.to Int)).2]
theorem pickW_snoc {ws : List Wt} {set : List Int} {j : Nat} (hj : j < set.length) : pickW ws (set.take (j + 1)) = pickW ws (set.take j) ++ [ws.getD (set[j]).toNat zWt] := by
  unfold pickW; rw [List.take_succ_eq_append_getElem hj, List.map_append]; rfl
theorem pickW_len (ws : List Wt) (set : List Int) : (pickW ws set).length = set.length := by simp [pickW]
end Sx
end
section
open Go Go.Proofs Sx
namespace Go.Proofs.Ytdiekahpofifeaa
set_option maxRecDepth 100000

theorem ctRsOk : Ctrs.Ok Try.prog ctRs := by
  intro x hx
  rcases List.mem_cons.1 hx with rfl | hx
  · exact ctrOf_ok lawCopied
  rcases List.mem_cons.1 hx with rfl | hx
  · exact ctrOf_ok lawIxI
  · exact ctNOk x hx
theorem ctRROk : Ctrs.Ok Try.prog ctRR := by
  intro x hx
  rcases List.mem_cons.1 hx with rfl | hx
  · exact ctrOf_ok lawCopyR
  rcases List.mem_cons.1 hx with rfl | hx
  · exact ctrOf_ok lawClR
  · exact ctNROk x hx

section
variable {H : HV} {w : World} {ha hb hc a : D} (hR : (HiD.mk ha hb hc).Right) (hra : a.Is Int) (hla : a.len ≤ 1048576)
  (h0 : (checkH (HiD.mk ha hb hc).hist).1 = 0) (h2 : setH (a.to Int) (hb.to Wt).length = true) (h3 : closedS (hc.to Ev) (hb.to Wt).length (a.to Int) = true)
include hR hra hla h0 h2 h3

theorem rest_result {q p : D} (hq : q.Is Wt) (hql : q.len ≤ 1048576) (hqt : q.to Wt = pickW (hb.to Wt) (a.to Int)) (hp : p.Is Ev) (hpl : p.len ≤ 1048576) (hpt : p.to Ev = restE (a.to Int) (hc.to Ev)) :
    (HiD.mk ha q p).Right ∧ ∀ hs : Nat → Nat → D, (Tree.ret (SV.tup [SV.agg [SV.dat (D.like (hs 0 0) (ha.to Int)), SV.dat (D.like (hs 0 1) (q.to Wt)), SV.dat (D.like (hs 0 2) (p.to Ev))], SV.int IntKind.i64 0])).holds Try.prog ⟨w, H⟩
      (RetD w H fun ds => .tup [hiSV ds (restrictH (HiD.mk ha hb hc).hist (a.to Int)).1, .int .i64 (restrictH (HiD.mk ha hb hc).hist (a.to Int)).2]) := by
  obtain ⟨ra, rb, rc, la, lb, lc, rd⟩ := id hR
  simp only at ra rb rc la lb lc rd
  have hr : restrictH (HiD.mk ha hb hc).hist (a.to Int) = (⟨ha.to Int, q.to Wt, p.to Ev⟩, 0) := by rw [rest_ok h0 h2 h3, hqt, hpt]; rfl
  refine ⟨⟨ra, hq, hp, la, hql, hpl, fun x hx => ?_⟩, fun hs => ?_⟩
  · simp only [hqt, pickW, List.mem_map] at hx
    obtain ⟨n, hn, rfl⟩ := hx
    obtain ⟨k, hk, rfl⟩ := List.getElem_of_mem hn
    have hz := setH_in h2 hk
    have hlt : ((a.to Int)[k]).toNat < (hb.to Wt).length := by omega
    have : (hb.to Wt).getD ((a.to Int)[k]).toNat zWt = (hb.to Wt)[((a.to Int)[k]).toNat] := by simp [hlt]
    rw [this]
    exact rd _ (List.getElem_mem hlt)
  · exact ret_hiI stands_like stands_like stands_like (by rw [hr]) (by rw [hr])
theorem rest_events {Dm : Nat} {q : D} (hq : q.Is Wt) (hqs : q.sz = 3) (hql : q.len ≤ 1048576) (hqt : q.to Wt = pickW (hb.to Wt) (a.to Int)) :
    Runs Try.prog ((⟨w, H⟩ : Ctx).marked Dm) (rstL ha ha hb hc a q (.slc none 2 []) 0) (RetD w H fun ds => .tup [hiSV ds (restrictH (HiD.mk ha hb hc).hist (a.to Int)).1, .int .i64 (restrictH (HiD.mk ha hb hc).hist (a.to Int)).2]) := by
  obtain ⟨ra, rb, rc, la, lb, lc, rd⟩ := id hR
  simp only at ra rb rc la lb lc rd
  have el := D.Is.length (α := Ev) hc
  refine runs_loop (fun p : D × Nat => rstL ha ha hb hc a q p.1 p.2) (fun p => p.2 ≤ (hc.to Ev).length ∧ p.1.Is Ev ∧ p.1.sz = 2 ∧ p.1.to Ev = restE (a.to Int) ((hc.to Ev).take p.2)) (fun p => (hc.to Ev).length - p.2) (fun _ => rfl) ?_ (.slc none 2 [], 0) ⟨Nat.zero_le _, is_nil _ _, rfl, rfl⟩
  intro ⟨p, j⟩ ⟨hj, hp, hz, hto⟩ ih
  simp only at hj hp hz hto
  have pl := D.Is.length (α := Ev) p
  have pl2 := restE_len h2 ((hc.to Ev).take j)
  rw [hto] at pl
  rw [List.length_take] at pl2
  show Runs Try.prog _ (unroll (rstL ha ha hb hc a q p j)) _
  apply exec_sound ctRsOk 400
  rw [rsl_go]
  refine ⟨fun hcj => ?_, fun hcj => ?_⟩
  · have hcj : j < (hc.to Ev).length := by have := of_decide_eq_true hcj; omega
    obtain ⟨c1, c2, c3⟩ := ev_cell rc hcj
    have sn := restE_snoc (set := a.to Int) hcj
    rw [evR_idx h2] at sn
    generalize hev : (hc.to Ev)[j] = ev at c2 c3 sn
    obtain ⟨k, x⟩ := ev
    simp only at c2 c3 sn
    have g0 : hc.getInt (Int.toNat (j : Int)) 0 = k := c2
    have g1 : hc.getInt (Int.toNat (j : Int)) 1 = x := c3
    rw [g0, g1]
    refine ⟨⟨by omega, by omega, rc.size hcj⟩, c1, ⟨hra, hla⟩, fun h hs1 => ?_, fun h => ?_⟩
    · have h := of_decide_eq_true h
      rw [if_pos h] at sn
      refine ⟨⟨hz, .inr rfl, by simp only [len_slc, List.length_cons, List.length_nil]; omega, by simp only [len_slc, List.length_cons, List.length_nil]; omega⟩, fun hs2 => ?_⟩
      have hr := rows_app (rows_of hp) (ev_one k (idxG (a.to Int) fun y => decide (x = y)))
      obtain ⟨i1, i2⟩ := is_of (h := D.hd (hs2 0 0)) (s := 2) rfl hr
      have := ih (_, j + 1) ⟨hcj, i1, rfl, i2.trans (by rw [hto, sn])⟩ (by simp only; omega)
      simp only at this
      rw [← wrap_succ hcj (by omega)] at this
      exact this
    · have h := of_decide_eq_false h
      rw [if_neg h, List.append_nil] at sn
      have := ih (p, j + 1) ⟨hcj, hp, hz, hto.trans sn.symm⟩ (by simp only; omega)
      simp only at this
      rw [← wrap_succ hcj (by omega)] at this
      exact this
  · have : j = (hc.to Ev).length := by have := of_decide_eq_false hcj; omega
    subst this
    rw [List.take_length] at hto
    obtain ⟨x1, x2⟩ := rest_result (w := w) (H := H) hR hra hla h0 h2 h3 hq hql hqt hp (by omega) hto
    exact ⟨x1, fun hs => ret_marked (x2 hs)⟩
theorem rest_loop {i o : D} {q0 : D} (hq0 : q0 = .slc none 3 []) :
    Runs Try.prog ⟨w, H⟩ ⟨⟨27, none, none, Item.code (cAt Try.prog 27 [1, 1, 1, 1, 0, 1, 0]) :: rsK, rsT a⟩, [], rsM ha ha hb hc ha hb hc i o a q0⟩ (RetD w H fun ds => .tup [hiSV ds (restrictH (HiD.mk ha hb hc).hist (a.to Int)).1, .int .i64 (restrictH (HiD.mk ha hb hc).hist (a.to Int)).2]) := by
  obtain ⟨ra, rb, rc, la, lb, lc, rd⟩ := id hR
  simp only at ra rb rc la lb lc rd
  have al := D.Is.length (α := Int) a
  have bl := D.Is.length (α := Wt) hb
  rw [rsF1]
  refine runs_range icode (mm := fun q : D => rsM ha ha hb hc ha hb hc i o a q) (Inv := fun j q => q.Is Wt ∧ q.sz = 3 ∧ q.len = j ∧ q.to Wt = pickW (hb.to Wt) ((a.to Int).take j)) (Stop := fun _ => False)
    (c1W (fun q : D => [(100000, OBlk.cells 26 [SV.dat ha, SV.dat hb, SV.dat hc]), (100001, OBlk.cells 26 [SV.nils, SV.nils, SV.nils]), (100002, OBlk.cells 26 [SV.dat ha, SV.vec 9, SV.nils]), (9, OBlk.arr 55 q)]) _ hra rb hla (fun j hj => by
      have hj' : j < (a.to Int).length := by omega
      have := setH_in h2 hj'
      rw [(int_at hra hj').2.2, bl]
      exact this))
    q0 ⟨by rw [hq0]; exact is_nil _ _, by rw [hq0]; rfl, by rw [hq0]; rfl, by rw [hq0]; rfl⟩ rfl rfl rfl rfl rfl rfl (fun _ => rfl) (fun j => (rsR hb a (a.getInt (Int.toNat (j : Int)) 0)).set 10 (.ptr 1010 0)) (fun j q => rsN ha ha hb hc ha hb hc i o a q (a.getInt (Int.toNat (j : Int)) 0)) ?_ ?_ ?_ ?_
  · intro C1 q j hrd hj hi
    apply execP_sound (noCtr _) 100
    refine holds_of (rsa_go ha ha hb hc ha hb hc i o a q (a.getInt (Int.toNat (j : Int)) 0)) ?_
    exact end_here hrd ⟨rfl, rfl, rfl⟩
  · intro C1 q j hrd hj ⟨hq, hqs, hql, hqt⟩
    have hj' : j < (a.to Int).length := by omega
    have hz := (int_at hra hj').2.2
    have hzr := setH_in h2 hj'
    obtain ⟨z, hzz⟩ := Int.eq_ofNat_of_zero_le hzr.1
    have hzb : z < (hb.to Wt).length := by omega
    obtain ⟨c1, c2, c3⟩ := wt_cell rb hzb
    apply execP_sound (noCtr _) 100
    rw [rsb_go, hz, hzz]
    simp only [Int.toNat_natCast]
    refine fun hs1 => ⟨⟨hqs, .inr rfl, by simp only [len_slc, List.length_cons, List.length_nil]; omega, by simp only [len_slc, List.length_cons, List.length_nil]; omega⟩, fun hs2 => ?_⟩
    have hr := rows_app (rows_of hq) (wt_one (hb.getInt z 0) (hb.getInt z 1) c2)
    obtain ⟨i1, i2⟩ := is_of (h := D.hd (hs2 0 0)) (s := 3) rfl hr
    refine end_here hrd ⟨fun _ => ⟨_, ?_, i1, rfl, ?_, i2.trans ?_⟩, fun h => by cases h⟩
    · refine (MemTo.sub (.cons₂ _ (.cons _ (.cons _ (.refl _))))).trans ((MemTo.move 1048 9 rfl).trans ?_)
      exact MemTo.perm (List.perm_append_comm (l₁ := [_, _, _, _, _]) (l₂ := [_]))
    · simp only [len_slc, append_list, List.length_append, rows_slc, List.length_cons, List.length_nil]
      have : q.rows.length = q.len := rfl
      omega
    · rw [hqt, pickW_snoc hj', hzz]
      congr 1
      have : (hb.to Wt).getD (Int.toNat (z : Int)) zWt = (hb.to Wt)[z] := by simp [hzb]
      rw [this, c3]
  · intro D2 q ⟨hq, hqs, hql, hqt⟩
    apply exec_sound ctRsOk 400
    rw [rse_in]
    refine runs_sub [(2, OBlk.arr 55 q), (100000, OBlk.cells 26 [SV.dat ha, SV.dat hb, SV.dat hc]), (100001, OBlk.cells 26 [SV.nils, SV.nils, SV.nils]), (100002, OBlk.cells 26 [SV.dat ha, SV.vec 2, SV.nils])] (List.sublist_append_left _ [(100003, OBlk.cells 22 [SV.dat a]), (100004, OBlk.cells 81 [SV.dat ha, SV.dat hb, SV.dat hc, SV.dat i, SV.dat o])]) ?_
    refine vecIn_to 9 77 2 (some 100002) 2 (rstL ha ha hb hc a q (.slc none 2 []) 0) (by kernel_rfl) ?_
    exact rest_events hR hra hla h0 h2 h3 hq hqs (by omega) (by rw [hqt, al, List.take_length])
  · exact fun _ _ h => h.elim
end

theorem lawRest : Law Try.prog 27 ((rdHi.two rdD).sp spRest) := by
  refine law_in _ (by kernel_rfl) fun H w ⟨⟨ha, hb, hc⟩, a⟩ hok hp => ?_
  obtain ⟨hR, hra, hla⟩ := hp _ (List.mem_singleton.2 rfl)
  simp only at hR hra hla
  obtain ⟨ra, rb, rc, la, lb, lc, rd⟩ := id hR
  simp only at ra rb rc la lb lc rd
  apply execQ_sound ctRsOk 400
  rw [show (rdHi.two rdD).canon (⟨ha, hb, hc⟩, a) = [.agg [.dat ha, .dat hb, .dat hc], .dat a] from rfl, rst_in]
  refine ⟨hR, fun hs => ⟨fun h => ?_, fun h => ?_⟩⟩
  · have h : (checkH (HiD.mk ha hb hc).hist).1 ≠ 0 := by simpa using h
    exact ret_hiI (s := []) (ws := []) (es := []) stands_nils stands_nils stands_nils (by rw [rest_e1 h]; rfl) (by rw [rest_e1 h])
  have h0 : (checkH (HiD.mk ha hb hc).hist).1 = 0 := by simpa using h
  obtain ⟨l1, l2⟩ := ck_right hR h0
  have i1 := D.like_is (hs 0 0) (checkH (HiD.mk ha hb hc).hist).2.issued
  have i2 := D.like_is (hs 0 1) (checkH (HiD.mk ha hb hc).hist).2.acked
  have t1 := D.like_to (hs 0 0) (checkH (HiD.mk ha hb hc).hist).2.issued
  have t2 := D.like_to (hs 0 1) (checkH (HiD.mk ha hb hc).hist).2.acked
  simp only [h0, onOk_ok]
  rw [t1, t2]
  generalize D.like (hs 0 0) (checkH (HiD.mk ha hb hc).hist).2.issued = i at i1 t1
  generalize D.like (hs 0 1) (checkH (HiD.mk ha hb hc).hist).2.acked = o at i2 t2
  refine ⟨⟨hra, hla, rb⟩, fun h2 => ?_, fun h2 => ⟨⟨rb, i1, i2, hra, lb, hla, l1, l2, by simpa using h2⟩, fun h3 => ?_, fun h3 => ?_⟩⟩
  · have h2 : setH (a.to Int) (hb.to Wt).length = false := by simpa using h2
    have e := rest_e2 (h := (HiD.mk ha hb hc).hist) (set := a.to Int) h0 h2
    exact ret_hiI (s := []) (ws := []) (es := []) stands_nils stands_nils stands_nils (by rw [e]; rfl) (by rw [e])
  · have h2 : setH (a.to Int) (hb.to Wt).length = true := by simpa using h2
    have h3 : closedT (checkH (HiD.mk ha hb hc).hist).2 (hb.to Wt).length (a.to Int) = false := by simpa using h3
    have e := rest_e27 (h := (HiD.mk ha hb hc).hist) (set := a.to Int) h0 h2 (by rw [← closed_same h0 h2]; exact h3)
    exact ret_hiI (s := []) (ws := []) (es := []) stands_nils stands_nils stands_nils (by rw [e]; rfl) (by rw [e])
  · have h2 : setH (a.to Int) (hb.to Wt).length = true := by simpa using h2
    have h3 : closedT (checkH (HiD.mk ha hb hc).hist).2 (hb.to Wt).length (a.to Int) = true := by simpa using h3
    have h3' : closedS (hc.to Ev) (hb.to Wt).length (a.to Int) = true := by rw [← show closedT (checkH (HiD.mk ha hb hc).hist).2 (hb.to Wt).length (a.to Int) = closedS (hc.to Ev) (hb.to Wt).length (a.to Int) from closed_same (h := (HiD.mk ha hb hc).hist) h0 h2]; exact h3
    refine pin_to 100000 ⟨⟨27, none, none, Item.code (cAt Try.prog 27 [1, 1, 1, 1, 0, 1, 0]) :: rsK, rsT a⟩, [], [(100000, OBlk.cells 26 [SV.dat ha, SV.dat hb, SV.dat hc]), (100001, OBlk.cells 26 [SV.nils, SV.nils, SV.nils]), (100002, OBlk.cells 26 [SV.dat ha, SV.nils, SV.nils]), (100003, OBlk.cells 22 [SV.dat a]), (100004, OBlk.cells 81 [SV.dat ha, SV.dat hb, SV.dat hc, SV.dat i, SV.dat o])]⟩ (by kernel_rfl) ?_ rfl
    refine vecIn_sound (K := 9) (e := 55) (sz := 3) (blk := some 100002) (off := 1) (c' := ⟨⟨27, none, none, Item.code (cAt Try.prog 27 [1, 1, 1, 1, 0, 1, 0]) :: rsK, rsT a⟩, [], (9, OBlk.arr 55 (.slc none 3 [])) :: [(100000, OBlk.cells 26 [SV.dat ha, SV.dat hb, SV.dat hc]), (100001, OBlk.cells 26 [SV.nils, SV.nils, SV.nils]), (100002, OBlk.cells 26 [SV.dat ha, SV.vec 9, SV.nils]), (100003, OBlk.cells 22 [SV.dat a]), (100004, OBlk.cells 81 [SV.dat ha, SV.dat hb, SV.dat hc, SV.dat i, SV.dat o])]⟩) (by kernel_rfl) ?_
    refine runs_perm (rsM ha ha hb hc ha hb hc i o a (.slc none 3 [])) ?_ (rest_loop hR hra hla h0 h2 h3' rfl)
    exact ((List.perm_append_comm (l₁ := [(100003, OBlk.cells 22 [SV.dat a]), (100004, OBlk.cells 81 [SV.dat ha, SV.dat hb, SV.dat hc, SV.dat i, SV.dat o])]) (l₂ := [(100000, OBlk.cells 26 [SV.dat ha, SV.dat hb, SV.dat hc]), (100001, OBlk.cells 26 [SV.nils, SV.nils, SV.nils]), (100002, OBlk.cells 26 [SV.dat ha, SV.vec 9, SV.nils])])).append_right [(9, OBlk.arr 55 (.slc none 3 []))]).trans List.perm_append_comm

theorem lawRestR : Law Try.prog 28 ((rdHi.two rdD).sp spRest) := by
  refine law_in _ (by kernel_rfl) fun H w ⟨⟨ha, hb, hc⟩, a⟩ hok hp => ?_
  obtain ⟨hR, hra, hla⟩ := hp _ (List.mem_singleton.2 rfl)
  simp only at hR hra hla
  obtain ⟨ra, rb, rc, la, lb, lc, rd⟩ := id hR
  simp only at ra rb rc la lb lc rd
  have al := D.Is.length (α := Int) a
  have bl := D.Is.length (α := Wt) hb
  have el := D.Is.length (α := Ev) hc
  apply exec_sound ctRROk 400
  rw [show (rdHi.two rdD).canon (⟨ha, hb, hc⟩, a) = [.agg [.dat ha, .dat hb, .dat hc], .dat a] from rfl, rstR_in, bl]
  refine ⟨hR, fun h => ?_, fun h => ?_⟩
  · have h : (checkH (HiD.mk ha hb hc).hist).1 ≠ 0 := by simpa using h
    exact ret_hiI (s := []) (ws := []) (es := []) stands_nils stands_nils stands_nils (by rw [rest_e1 h]; rfl) (by rw [rest_e1 h])
  have h0 : (checkH (HiD.mk ha hb hc).hist).1 = 0 := by simpa using h
  refine ⟨⟨hra, hla⟩, fun h2 => ?_, fun h2 => ⟨⟨rc, lc, rb, by omega, hra, hla⟩, fun h3 => ?_, fun h3 => ?_⟩⟩
  · have h2 : setH (a.to Int) (hb.to Wt).length = false := by simpa using h2
    have e := rest_e2 (h := (HiD.mk ha hb hc).hist) (set := a.to Int) h0 h2
    exact ret_hiI (s := []) (ws := []) (es := []) stands_nils stands_nils stands_nils (by rw [e]; rfl) (by rw [e])
  · have h2 : setH (a.to Int) (hb.to Wt).length = true := by simpa using h2
    have h3 : closedS (hc.to Ev) (hb.to Wt).length (a.to Int) = false := by simpa using h3
    have e := rest_e27 (h := (HiD.mk ha hb hc).hist) (set := a.to Int) h0 h2 h3
    exact ret_hiI (s := []) (ws := []) (es := []) stands_nils stands_nils stands_nils (by rw [e]; rfl) (by rw [e])
  have h2 : setH (a.to Int) (hb.to Wt).length = true := by simpa using h2
  have h3 : closedS (hc.to Ev) (hb.to Wt).length (a.to Int) = true := by simpa using h3
  refine vecIn_to 9 77 2 (some 2) 2 (rs1L ha hb hc a (.slc none 2 []) 0) (by kernel_rfl) ?_
  refine runs_loop (fun p : D × Nat => rs1L ha hb hc a p.1 p.2) (fun p => p.2 ≤ (hc.to Ev).length ∧ p.1.Is Ev ∧ p.1.sz = 2 ∧ p.1.to Ev = restE (a.to Int) ((hc.to Ev).take p.2)) (fun p => (hc.to Ev).length - p.2) (fun _ => rfl) ?_ (.slc none 2 [], 0) ⟨Nat.zero_le _, is_nil _ _, rfl, rfl⟩
  intro ⟨q, j⟩ ⟨hj, hq, hz, hto⟩ ih
  simp only at hj hq hz hto
  have ql := D.Is.length (α := Ev) q
  have ql2 := restE_len h2 ((hc.to Ev).take j)
  rw [hto] at ql
  rw [List.length_take] at ql2
  show Runs Try.prog _ (unroll (rs1L ha hb hc a q j)) _
  apply exec_sound ctRROk 400
  rw [rs1_go]
  refine ⟨fun hcj => ?_, fun hcj => ?_⟩
  · have hcj : j < (hc.to Ev).length := by have := of_decide_eq_true hcj; omega
    obtain ⟨c1, c2, c3⟩ := ev_cell rc hcj
    have sn := restE_snoc (set := a.to Int) hcj
    unfold evR at sn
    generalize hev : (hc.to Ev)[j] = ev at c2 c3 sn
    obtain ⟨k, y⟩ := ev
    simp only at c2 c3 sn
    have g0 : hc.getInt (Int.toNat (j : Int)) 0 = k := c2
    have g1 : hc.getInt (Int.toNat (j : Int)) 1 = y := c3
    have c0 : 0 ≤ (j : Int) ∧ (j : Int) < (hc.len : Int) ∧ hc.sz = 2 := ⟨by omega, by omega, rc.size hcj⟩
    refine runs_loop (fun p : D × Nat => rs2L ha hb hc a p.1 j p.2) (fun p => p.2 ≤ (a.to Int).length ∧ p.1.Is Ev ∧ p.1.sz = 2 ∧ p.1.len ≤ j + p.2 ∧ p.1.to Ev = restE (a.to Int) ((hc.to Ev).take j) ++ ((List.range p.2).filter fun i => decide ((a.to Int).getD i 0 = y)).map fun (i : Nat) => (⟨k, i⟩ : Ev)) (fun p => (a.to Int).length - p.2) (fun _ => rfl) ?_ (q, 0) ⟨Nat.zero_le _, hq, hz, by simp only; omega, by simpa using hto⟩
    intro ⟨p, x⟩ ⟨hx, hp, hpz, hpl, hpt⟩ ihx
    simp only at hx hp hpz hpl hpt
    show Runs Try.prog _ (unroll (rs2L ha hb hc a p j x)) _
    apply exec_sound ctRROk 400
    rw [rs2_go]
    refine ⟨fun hcx hs => ?_, fun hcx => ?_⟩
    · have hcx : x < (a.to Int).length := by have := of_decide_eq_true hcx; omega
      obtain ⟨d1, d2, d3⟩ := int_at hra hcx
      have gx : (a.to Int).getD x 0 = (a.to Int)[x] := getD_lt hcx
      have sx : ((List.range (x + 1)).filter fun i => decide ((a.to Int).getD i 0 = y)) = ((List.range x).filter fun i => decide ((a.to Int).getD i 0 = y)) ++ (if (a.to Int)[x] = y then [x] else []) := by
        rw [List.range_succ, List.filter_append]
        congr 1
        simp only [List.filter_cons, List.filter_nil, gx, decide_eq_true_eq]
      rw [d3, g0, g1]
      refine ⟨d1, d2, c0, c1.2.1, fun h hs1 => ?_, fun h => ?_⟩
      · have h := of_decide_eq_true h
        rw [if_pos h] at sx
        refine ⟨c0, c1.1, ⟨hpz, .inr rfl, by simp only [len_slc, List.length_cons, List.length_nil]; omega, by simp only [len_slc, List.length_cons, List.length_nil]; omega⟩, ?_⟩
        have hr := rows_app (rows_of hp) (ev_one k (x : Int))
        obtain ⟨i1, i2⟩ := is_of (h := D.hd (hs1 11 0)) (s := 2) rfl hr
        have := ihx (_, x + 1) ⟨hcx, i1, rfl, by simp only [len_slc, append_list, List.length_append, rows_slc, List.length_cons, List.length_nil]; have : p.rows.length = p.len := rfl; omega, i2.trans (by rw [hpt, sx, List.map_append, List.append_assoc]; rfl)⟩ (by simp only; omega)
        simp only at this
        rw [← wrap_succ hcx (by omega)] at this
        exact this
      · have h := of_decide_eq_false h
        rw [if_neg h, List.append_nil] at sx
        have := ihx (p, x + 1) ⟨hcx, hp, hpz, by simp only; omega, by simp only; rw [hpt, sx]⟩ (by simp only; omega)
        simp only at this
        rw [← wrap_succ hcx (by omega)] at this
        exact this
    · have : x = (a.to Int).length := by have := of_decide_eq_false hcx; omega
      subst this
      have := ih (p, j + 1) ⟨hcj, hp, hpz, hpt.trans sn.symm⟩ (by simp only; omega)
      simp only at this
      rw [← wrap_succ hcj (by omega)] at this
      exact this
  · have : j = (hc.to Ev).length := by have := of_decide_eq_false hcj; omega
    subst this
    rw [List.take_length] at hto
    refine vecIn_to 9 55 3 (some 2) 1 (rs3L ha hb hc a q (.slc none 3 []) 0) (by kernel_rfl) ?_
    refine runs_loop (fun p : D × Nat => rs3L ha hb hc a q p.1 p.2) (fun p => p.2 ≤ (a.to Int).length ∧ p.1.Is Wt ∧ p.1.sz = 3 ∧ p.1.to Wt = pickW (hb.to Wt) ((a.to Int).take p.2)) (fun p => (a.to Int).length - p.2) (fun _ => rfl) ?_ (.slc none 3 [], 0) ⟨Nat.zero_le _, is_nil _ _, rfl, rfl⟩
    intro ⟨p, x⟩ ⟨hx, hp, hpz, hpt⟩ ihx
    simp only at hx hp hpz hpt
    have pl := D.Is.length (α := Wt) p
    rw [hpt, pickW_len, List.length_take] at pl
    show Runs Try.prog _ (unroll (rs3L ha hb hc a q p x)) _
    apply exec_sound ctRROk 400
    rw [rs3_go]
    refine ⟨fun hcx hs => ?_, fun hcx => ?_⟩
    · have hcx : x < (a.to Int).length := by have := of_decide_eq_true hcx; omega
      obtain ⟨d1, d2, d3⟩ := int_at hra hcx
      have hzr := setH_in h2 hcx
      obtain ⟨z, hzz⟩ := Int.eq_ofNat_of_zero_le hzr.1
      have hzb : z < (hb.to Wt).length := by omega
      obtain ⟨c1, c2, c3⟩ := wt_cell rb hzb
      rw [d3, hzz]
      simp only [Int.toNat_natCast]
      refine ⟨by simpa using d1, by simpa using d2, ⟨by omega, by omega, rb.size hzb⟩, c1, ⟨hpz, .inr rfl, by simp only [len_slc, List.length_cons, List.length_nil]; omega, by simp only [len_slc, List.length_cons, List.length_nil]; omega⟩, ?_⟩
      have hr := rows_app (rows_of hp) (wt_one (hb.getInt z 0) (hb.getInt z 1) c2)
      obtain ⟨i1, i2⟩ := is_of (h := D.hd (hs 11 0)) (s := 3) rfl hr
      have := ihx (_, x + 1) ⟨hcx, i1, rfl, i2.trans (by
        rw [hpt, pickW_snoc hcx, hzz]
        congr 1
        have : (hb.to Wt).getD (Int.toNat (z : Int)) zWt = (hb.to Wt)[z] := by simp [hzb]
        rw [this, c3])⟩ (by simp only; omega)
      simp only at this
      rw [← wrap_succ hcx (by omega)] at this
      exact this
    · have : x = (a.to Int).length := by have := of_decide_eq_false hcx; omega
      subst this
      rw [List.take_length] at hpt
      obtain ⟨x1, x2⟩ := rest_result (w := w) (H := H) hR hra hla h0 h2 h3 hp (by omega) hpt hq (by omega) hto
      exact ⟨x1, x2⟩
end Go.Proofs.Ytdiekahpofifeaa
end
section
open Go Go.Proofs Sx
namespace Go.Proofs.Ytdiekahpofifeaa
set_option maxRecDepth 100000
set_option maxHeartbeats 0
section
variable (n : Int) (a b : D)
theorem eqi_in : exec Try.prog [] 200 (entry Try.prog 17 [.dat a, .dat b]) =
 Tree.br ((↑(D.len a) : Int) != (↑(D.len b) : Int)) (.ret (.lb false))
 (.leaf
 (Conf.mk
 (SFrm.mk 17 none none
 [Item.inLoop (cAt Try.prog 17 [1, 1, 0, 1, 0, 0]), Item.inBlock 0, Item.code (cAt Try.prog 17 [1, 1, 1])]
 (mkJ 0 [(0, .dat a), (1, .dat b), (12, .int .i64 (↑(D.len a) : Int)), (13, .int .i64 0)] 0
 26))
 [] [])) := by kernel_rfl

theorem eqe_in : exec Try.prog [] 200 (entry Try.prog 40 [.dat a, .dat b]) =
 Tree.br ((↑(D.len a) : Int) != (↑(D.len b) : Int)) (.ret (.lb false))
 (.leaf
 (Conf.mk
 (SFrm.mk 40 none none
 [Item.inLoop (cAt Try.prog 40 [1, 1, 0, 1, 0, 0]), Item.inBlock 0, Item.code (cAt Try.prog 40 [1, 1, 1])]
 (mkJ 0 [(0, .dat a), (1, .dat b), (12, .int .i64 (↑(D.len a) : Int)), (13, .int .i64 0)] 0
 26))
 [] [])) := by kernel_rfl

theorem con_in : exec Try.prog [(62, ctrOf ((rdD.two rdInt).sp spIxI))] 200 (entry Try.prog 38 [.dat a, .int .i64 n]) =
 Tree.need (D.Is Int a ∧ D.len a ≤ 1048576)
 (.ret (.bool (decide ((idxG (D.to Int a) fun y => decide (n = y)) ≥ 0)))) := by kernel_rfl

end
end Go.Proofs.Ytdiekahpofifeaa
end
section
open Go Go.Proofs Sx
namespace Go.Proofs.Ytdiekahpofifeaa
set_option maxRecDepth 100000
set_option maxHeartbeats 0
noncomputable def eqiL (a b : D) (j : Int) : Conf := Conf.mk (SFrm.mk 17 none none [Item.inLoop (cAt Try.prog 17 [1, 1, 0, 1, 0, 0]), Item.inBlock 0, Item.code (cAt Try.prog 17 [1, 1, 1])] (mkJ 0 [(0, .dat a), (1, .dat b), (12, .int .i64 (a.len : Int)), (13, .int .i64 j)] 0 26)) [] []
noncomputable def eqeL (a b : D) (j : Int) : Conf := Conf.mk (SFrm.mk 40 none none [Item.inLoop (cAt Try.prog 40 [1, 1, 0, 1, 0, 0]), Item.inBlock 0, Item.code (cAt Try.prog 40 [1, 1, 1])] (mkJ 0 [(0, .dat a), (1, .dat b), (12, .int .i64 (a.len : Int)), (13, .int .i64 j)] 0 26)) [] []
section
variable (n j : Int) (a b : D)
theorem eqi_go : exec Try.prog [] 200 (unroll (eqiL a b j)) =
 Tree.br (decide (j < (↑(D.len a) : Int)))
 (.all fun hs =>
 .need (0 ≤ j ∧ j < (↑(D.len a) : Int) ∧ D.sz a = 1)
 (.need (D.HasCell a (Int.toNat j) 0 (FT.int .i64))
 (.need (0 ≤ j ∧ j < (↑(D.len b) : Int) ∧ D.sz b = 1)
 (.need (D.HasCell b (Int.toNat j) 0 (FT.int .i64))
 (.br (D.getInt a (Int.toNat j) 0 != D.getInt b (Int.toNat j) 0) (.ret (.lb false))
 (.leaf
 (Conf.mk
 (SFrm.mk 17 none none
 [Item.inLoop (cAt Try.prog 17 [1, 1, 0, 1, 0, 0]), Item.inBlock 0,
 Item.code (cAt Try.prog 17 [1, 1, 1])]
 (mkJ 0
 [(0, .dat a), (1, .dat b), (12, .int .i64 (↑(D.len a) : Int)),
 (13, .int .i64 (IntKind.wrap .i64 (j + 1)))]
 0 26))
 [] [])))))))
 (.ret (.lb true)) := by kernel_rfl

theorem eqe_go : exec Try.prog [] 200 (unroll (eqeL a b j)) =
 Tree.br (decide (j < (↑(D.len a) : Int)))
 (.all fun hs =>
 .need (0 ≤ j ∧ j < (↑(D.len a) : Int) ∧ D.sz a = 2)
 (.need (D.HasCells a (Int.toNat j) 0 [FT.int .i64, FT.int .i64])
 (.need (0 ≤ j ∧ j < (↑(D.len b) : Int) ∧ D.sz b = 2)
 (.need (D.HasCells b (Int.toNat j) 0 [FT.int .i64, FT.int .i64])
 (.br
 (!(decide (D.getInt a (Int.toNat j) 0 = D.getInt b (Int.toNat j) 0) &&
 (decide (D.getInt a (Int.toNat j) 1 = D.getInt b (Int.toNat j) 1) && true)))
 (.ret (.lb false))
 (.leaf
 (Conf.mk
 (SFrm.mk 40 none none
 [Item.inLoop (cAt Try.prog 40 [1, 1, 0, 1, 0, 0]), Item.inBlock 0,
 Item.code (cAt Try.prog 40 [1, 1, 1])]
 (mkJ 0
 [(0, .dat a), (1, .dat b), (12, .int .i64 (↑(D.len a) : Int)),
 (13, .int .i64 (IntKind.wrap .i64 (j + 1)))]
 0 26))
 [] [])))))))
 (.ret (.lb true)) := by kernel_rfl

end
end Go.Proofs.Ytdiekahpofifeaa
end
section
open Go
namespace Sx
theorem law_tab2 {P : Program} {f : FuncId} {β : Type} {r : Rd β} {sp : β → SpecR} {γ : Type} [DecidableEq γ] (h : Law P f (r.sp sp)) (c : β → Bool) (v : β → γ) (tab : List γ) (k : β → γ → SpecR)
    (hh : ∀ b, c b = true → match k b (v b) with
      | .no => True
      | .data ps' g' => ∃ ps g, sp b = .data ps g ∧ ((∀ p, p ∈ ps' → p) → ∀ p, p ∈ ps → p) ∧ ∀ ds, ∃ ds', g' ds' = g ds
      | .scalar ps' v' => ∃ ps v, sp b = .scalar ps v ∧ ((∀ p, p ∈ ps' → p) → ∀ p, p ∈ ps → p) ∧ v' = v) :
    Law P f (r.sp fun b => iff (c b) (tabD (v b) tab (k b))) :=
  law_alt h fun b => by
    unfold iff
    cases hc : c b with
    | false => trivial
    | true =>
      simp only
      rcases tabD_or (v b) (k b) tab with h1 | h1
      · rw [h1]; trivial
      · rw [h1]; exact hh b hc
def evRows : List (List D) → Bool
  | [] => true
  | r :: rs => match r with
    | [.int .i64 _, .int .i64 _] => evRows rs
    | _ => false
def D.allEv (d : D) : Bool :=
  match d with
  | .slc _ s rows => (match rows with | [] => true | _ :: _ => s == 2) && evRows rows
  | _ => false
def secRows : List (List D) → Bool
  | [] => true
  | r :: rs => match r with
    | [.int .u8 _, .int .u8 _, .int .u8 _, .int .u8 _, .int .u8 _, .int .u8 _, .int .u8 _, .int .u8 _] => secRows rs
    | _ => false
def D.allSec (d : D) : Bool :=
  match d with
  | .slc _ s rows => (match rows with | [] => true | _ :: _ => s == 8) && secRows rows
  | _ => false
def wtRows : List (List D) → Bool
  | [] => true
  | r :: rs => match r with
    | [.int .i64 _, .int .i64 _, d] => d.allSec && wtRows rs
    | _ => false
def D.allWt (d : D) : Bool :=
  match d with
  | .slc _ s rows => (match rows with | [] => true | _ :: _ => s == 3) && wtRows rows
  | _ => false
theorem evRows_ok : ∀ (rows : List (List D)), evRows rows = true → ∀ r, r ∈ rows → Codec.ok Ev r
  | [], _, r, h => by cases h
  | x :: rs, h, r, hr => by
    unfold evRows at h
    split at h
    · rcases List.mem_cons.1 hr with rfl | hr
      · exact ⟨_, _, rfl⟩
      · exact evRows_ok rs h r hr
    · cases h
theorem secRows_ok : ∀ (rows : List (List D)), secRows rows = true → ∀ r, r ∈ rows → Codec.ok Sec r
  | [], _, r, h => by cases h
  | x :: rs, h, r, hr => by
    unfold secRows at h
    split at h
    · rcases List.mem_cons.1 hr with rfl | hr
      · exact ⟨_, _, _, _, _, _, _, _, rfl⟩
      · exact secRows_ok rs h r hr
    · cases h
theorem allSec_is {d : D} (h : d.allSec = true) : d.Is Sec := by
  unfold D.allSec at h
  split at h
  · rename_i a s rows
    simp only [Bool.and_eq_true] at h
    refine ⟨_, _, _, rfl, ?_, secRows_ok _ h.2⟩
    cases rows with
    | nil => exact .inl rfl
    | cons x r => right; exact eq_of_beq h.1
  · cases h
theorem wtRows_ok : ∀ (rows : List (List D)), wtRows rows = true → ∀ r, r ∈ rows → Codec.ok Wt r
  | [], _, r, h => by cases h
  | x :: rs, h, r, hr => by
    unfold wtRows at h
    split at h
    · simp only [Bool.and_eq_true] at h
      rcases List.mem_cons.1 hr with rfl | hr
      · exact ⟨_, _, _, rfl, allSec_is h.1⟩
      · exact wtRows_ok rs h.2 r hr
    · cases h
theorem allEv_is {d : D} (h : d.allEv = true) : d.Is Ev := by
  unfold D.allEv at h
  split at h
  · rename_i a s rows
    simp only [Bool.and_eq_true] at h
    refine ⟨_, _, _, rfl, ?_, evRows_ok _ h.2⟩
    cases rows with
    | nil => exact .inl rfl
    | cons x r => right; exact eq_of_beq h.1
  · cases h
theorem allWt_is {d : D} (h : d.allWt = true) : d.Is Wt := by
  unfold D.allWt at h
  split at h
  · rename_i a s rows
    simp only [Bool.and_eq_true] at h
    refine ⟨_, _, _, rfl, ?_, wtRows_ok _ h.2⟩
    cases rows with
    | nil => exact .inl rfl
    | cons x r => right; exact eq_of_beq h.1
  · cases h
def hiL (x : HiD) : Bool := x.s.allInt && (x.w.allWt && (x.e.allEv && (decide (x.s.len ≤ 1048576) && (decide (x.w.len ≤ 1048576) && (decide (x.e.len ≤ 1048576) && (x.w.to Wt).all fun w => decide (w.data.length ≤ 1048576))))))
theorem hiL_is {x : HiD} (h : hiL x = true) : x.Right := by
  simp only [hiL, Bool.and_eq_true, decide_eq_true_eq, List.all_eq_true] at h
  exact ⟨allInt_is h.1, allWt_is h.2.1, allEv_is h.2.2.1, h.2.2.2.1, h.2.2.2.2.1, h.2.2.2.2.2.1, h.2.2.2.2.2.2⟩
def setL (x : D) : Bool := x.allInt && decide (x.len ≤ 1048576)
theorem setL_is {x : D} (h : setL x = true) : x.Is Int ∧ x.len ≤ 1048576 := by
  simp only [setL, Bool.and_eq_true, decide_eq_true_eq] at h
  exact ⟨allInt_is h.1, h.2⟩
def spCkT (x : HiD) : SpecR := iff (hiL x) (tabD (checkH x.hist).1 [0] fun e => .scalar [] (.int .i64 e))
def spBefTT (x : HiD × Int × Int) : SpecR := iff (hiL x.1) (tabD (beforeH x.1.hist x.2.1 x.2.2) [true, false] fun b => .scalar [] (.bool b))
def spClsT (x : HiD × D) : SpecR := iff (hiL x.1 && setL x.2) (tabD (closedB x.1.hist (x.2.to Int)) [true, false] fun b => .scalar [] (.bool b))
noncomputable def spRestT (x : HiD × D) : SpecR := iff (hiL x.1 && setL x.2) (tabD (restrictH x.1.hist (x.2.to Int)).2 [0, 27] fun e => .data [] fun ds => .tup [hiSV ds (restrictH x.1.hist (x.2.to Int)).1, .int .i64 e])
noncomputable def spAcdT (x : HiD × Int) : SpecR := iff (hiL x.1) (tabD () [()] fun _ => .data [] fun ds => .dat ((ds 0).like (ackedH x.1.hist x.2)))
def spIntsS (x : D × D) : SpecR := .scalar [x.1.Is Int ∧ x.2.Is Int ∧ x.1.len ≤ 1048576 ∧ x.1.to Int = x.2.to Int] (.lb true)
def spEvsS (x : D × D) : SpecR := .scalar [x.1.Is Ev ∧ x.2.Is Ev ∧ x.1.len ≤ 1048576 ∧ x.1.to Ev = x.2.to Ev] (.lb true)
def spHasC (x : D × Int) : SpecR := .scalar [x.1.Is Int ∧ x.1.len ≤ 1048576] (.bool ((x.1.to Int).contains x.2))
end Sx
end
section
open Go Go.Proofs Sx
namespace Go.Proofs.Ytdiekahpofifeaa
set_option maxRecDepth 100000

theorem lawEqI : Law Try.prog 17 ((rdD.two rdD).sp spInts) := by
  refine law_in _ (by kernel_rfl) fun H w ⟨a, b⟩ hok hp => ?_
  obtain ⟨ha, hb, hlen⟩ := hp _ (List.mem_singleton.2 rfl)
  simp only at ha hb hlen
  have hla := D.Is.length (α := Int) a
  have hlb := D.Is.length (α := Int) b
  apply exec_sound (noCtr _) 200
  rw [show (rdD.two rdD).canon (a, b) = [.dat a, .dat b] from rfl, eqi_in]
  refine ⟨fun hc => ret_lb ?_, fun hc => ?_⟩
  · exact same_not fun he => by simp [hla, hlb, he] at hc
  have hc' : (a.to Int).length = (b.to Int).length := by simp [hla, hlb] at hc; omega
  refine runs_loop (fun j : Nat => eqiL a b j) (fun j => j ≤ (a.to Int).length ∧ (a.to Int).take j = (b.to Int).take j) (fun j => (a.to Int).length - j) (fun _ => rfl) ?_ 0 ⟨Nat.zero_le _, rfl⟩
  intro j ⟨hj, hpre⟩ ih
  apply exec_sound (noCtr _) 200
  rw [eqi_go]
  refine ⟨fun hc _ => ?_, fun hc => ret_lb ?_⟩
  · have hc : j < (a.to Int).length := by have := of_decide_eq_true hc; omega
    obtain ⟨c1, c2, c3⟩ := int_at ha hc
    obtain ⟨e1, e2, e3⟩ := int_at hb (hc' ▸ hc)
    refine ⟨c1, c2, e1, e2, fun h => ret_lb ?_, fun h => ?_⟩
    · refine same_not fun he => ?_
      simp only [c3, e3, he, bne_self_eq_false] at h
      cases h
    · have hx : (a.to Int)[j] = (b.to Int)[j]'(hc' ▸ hc) := by rw [c3, e3] at h; simpa using h
      have := ih (j + 1) ⟨hc, take_succ_eq hc (hc' ▸ hc) hpre hx⟩ (by omega)
      rw [← wrap_succ hc (by omega)] at this
      exact this
  · have := of_decide_eq_false hc
    exact (decide_eq_true (list_eq_of hc' (by omega) hpre)).symm

theorem lawEqE : Law Try.prog 40 ((rdD.two rdD).sp spEvs) := by
  refine law_in _ (by kernel_rfl) fun H w ⟨a, b⟩ hok hp => ?_
  obtain ⟨ha, hb, hlen⟩ := hp _ (List.mem_singleton.2 rfl)
  simp only at ha hb hlen
  have hla := D.Is.length (α := Ev) a
  have hlb := D.Is.length (α := Ev) b
  apply exec_sound (noCtr _) 200
  rw [show (rdD.two rdD).canon (a, b) = [.dat a, .dat b] from rfl, eqe_in]
  refine ⟨fun hc => ret_lb ?_, fun hc => ?_⟩
  · exact same_not fun he => by simp [hla, hlb, he] at hc
  have hc' : (a.to Ev).length = (b.to Ev).length := by simp [hla, hlb] at hc; omega
  refine runs_loop (fun j : Nat => eqeL a b j) (fun j => j ≤ (a.to Ev).length ∧ (a.to Ev).take j = (b.to Ev).take j) (fun j => (a.to Ev).length - j) (fun _ => rfl) ?_ 0 ⟨Nat.zero_le _, rfl⟩
  intro j ⟨hj, hpre⟩ ih
  apply exec_sound (noCtr _) 200
  rw [eqe_go]
  refine ⟨fun hc _ => ?_, fun hc => ret_lb ?_⟩
  · have hc : j < (a.to Ev).length := by have := of_decide_eq_true hc; omega
    obtain ⟨c1, c2, c3⟩ := ev_cell ha hc
    obtain ⟨e1, e2, e3⟩ := ev_cell hb (hc' ▸ hc)
    refine ⟨⟨by omega, by omega, ha.size hc⟩, c1, ⟨by omega, by omega, hb.size (hc' ▸ hc)⟩, e1, fun h => ret_lb ?_, fun h => ?_⟩
    · refine same_not fun he => ?_
      simp only [Int.toNat_natCast, c2, c3, e2, e3, he, decide_true, Bool.and_true, Bool.not_true] at h
      cases h
    · have hx : (a.to Ev)[j] = (b.to Ev)[j]'(hc' ▸ hc) := by
        simp only [Int.toNat_natCast, c2, c3, e2, e3, Bool.and_true, Bool.not_eq_false', Bool.and_eq_true, decide_eq_true_eq] at h
        generalize (a.to Ev)[j] = x at h; generalize (b.to Ev)[j]'(hc' ▸ hc) = y at h
        obtain ⟨_, _⟩ := x; obtain ⟨_, _⟩ := y
        simp only at h; rw [h.1, h.2]
      have := ih (j + 1) ⟨hc, take_succ_eq hc (hc' ▸ hc) hpre hx⟩ (by omega)
      rw [← wrap_succ hc (by omega)] at this
      exact this
  · have := of_decide_eq_false hc
    exact (decide_eq_true (list_eq_of hc' (by omega) hpre)).symm

theorem lawCon : Law Try.prog 38 ((rdD.two rdInt).sp spHasC) := by
  refine law_in _ (by kernel_rfl) fun H w ⟨a, n⟩ hok hp => ?_
  obtain ⟨ha, hlen⟩ := hp _ (List.mem_singleton.2 rfl)
  simp only at ha hlen
  apply exec_sound (cs := [(62, ctrOf ((rdD.two rdInt).sp spIxI))]) (by intro x hx; rw [List.mem_singleton.1 hx]; exact ctrOf_ok lawIxI) 200
  rw [show (rdD.two rdInt).canon (a, n) = [.dat a, .int .i64 n] from rfl, con_in]
  refine ⟨⟨ha, hlen⟩, ret_bool ?_⟩
  rw [idxG_any, List.contains_eq_any_beq]
  congr 1
theorem lawEqIS : Law Try.prog 17 ((rdD.two rdD).sp spIntsS) :=
  law_sure lawEqI fun b => ⟨_, _, _, rfl, rfl, fun hp => by
    obtain ⟨h1, h2, h3, h4⟩ := hp _ (List.mem_singleton.2 rfl)
    exact ⟨fun p hp' => by rw [List.mem_singleton.1 hp']; exact ⟨h1, h2, h3⟩, decide_eq_true h4⟩⟩
theorem lawEqES : Law Try.prog 40 ((rdD.two rdD).sp spEvsS) :=
  law_sure lawEqE fun b => ⟨_, _, _, rfl, rfl, fun hp => by
    obtain ⟨h1, h2, h3, h4⟩ := hp _ (List.mem_singleton.2 rfl)
    exact ⟨fun p hp' => by rw [List.mem_singleton.1 hp']; exact ⟨h1, h2, h3⟩, decide_eq_true h4⟩⟩
theorem lawCkT : Law Try.prog 23 (rdHi.one.sp spCkT) :=
  law_tab lawChkH _ _ _ _ fun b h => ⟨_, _, rfl, fun _ p hp => by rw [List.mem_singleton.1 hp]; exact hiL_is h, rfl⟩
theorem lawBefTT : Law Try.prog 13 ((rdHi.three rdInt rdInt).sp spBefTT) :=
  law_tab lawBef _ _ _ _ fun b h => ⟨_, _, rfl, fun _ p hp => by rw [List.mem_singleton.1 hp]; exact hiL_is h, rfl⟩
theorem lawClsT : Law Try.prog 15 ((rdHi.two rdD).sp spClsT) :=
  law_tab lawCls _ _ _ _ fun b h => ⟨_, _, rfl, fun _ p hp => by rw [List.mem_singleton.1 hp]; have h := Bool.and_eq_true_iff.1 h; exact ⟨hiL_is h.1, setL_is h.2⟩, rfl⟩
theorem lawRestT : Law Try.prog 27 ((rdHi.two rdD).sp spRestT) :=
  law_tab2 lawRest _ _ _ _ fun b h => ⟨_, _, rfl, fun _ p hp => by rw [List.mem_singleton.1 hp]; have h := Bool.and_eq_true_iff.1 h; exact ⟨hiL_is h.1, setL_is h.2⟩, fun ds => ⟨ds, rfl⟩⟩
theorem lawAcdT : Law Try.prog 18 ((rdHi.two rdInt).sp spAcdT) :=
  law_tab2 lawAcd _ (fun _ => ()) _ (fun x _ => .data [] fun ds => .dat ((ds 0).like (ackedH x.1.hist x.2))) fun b h => ⟨_, _, rfl, fun _ p hp => by rw [List.mem_singleton.1 hp]; exact hiL_is h, fun ds => ⟨ds, rfl⟩⟩
noncomputable def ctT : Ctrs := [(23, ctrOf (rdHi.one.sp spCkT)), (13, ctrOf ((rdHi.three rdInt rdInt).sp spBefTT)), (15, ctrOf ((rdHi.two rdD).sp spClsT)), (27, ctrOf ((rdHi.two rdD).sp spRestT)),
  (18, ctrOf ((rdHi.two rdInt).sp spAcdT)), (17, ctrOf ((rdD.two rdD).sp spIntsS)), (40, ctrOf ((rdD.two rdD).sp spEvsS))]
theorem ctTOk : Ctrs.Ok Try.prog ctT := by
  intro x hx
  simp only [ctT, List.mem_cons, List.not_mem_nil, or_false] at hx
  rcases hx with rfl | rfl | rfl | rfl | rfl | rfl | rfl
  · exact ctrOf_ok lawCkT
  · exact ctrOf_ok lawBefTT
  · exact ctrOf_ok lawClsT
  · exact ctrOf_ok lawRestT
  · exact ctrOf_ok lawAcdT
  · exact ctrOf_ok lawEqIS
  · exact ctrOf_ok lawEqES
end Go.Proofs.Ytdiekahpofifeaa
end
section
open Go
namespace Sx
instance : Plain Sec where
  cells _ _ s := [.int .u8 s.b0, .int .u8 s.b1, .int .u8 s.b2, .int .u8 s.b3, .int .u8 s.b4, .int .u8 s.b5, .int .u8 s.b6, .int .u8 s.b7]
  right d i r _ h := by obtain ⟨_, _, _, _, _, _, _, _, rfl⟩ := h; rfl
instance : Plain Ev where
  cells _ _ e := [.int .i64 e.kind, .int .i64 e.write]
  right d i r _ h := by obtain ⟨_, _, rfl⟩ := h; rfl
instance : Plain Wt where
  cells d i w := [.int .i64 w.vol, .int .i64 w.start, (d.cell i 2).plain w.data]
  right d i r h ho := by
    obtain ⟨a, b, v, rfl, hv⟩ := ho
    obtain ⟨p1, p2, p3, rfl⟩ := hv.slc
    have e1 : d.cell i 2 = .slc p1 p2 p3 := by simp [D.cell, D.cellAt, h]
    simp only [Codec.dec, e1, plain_self hv]
def pI (d : D) (l : List Int) : D := d.plain l
def pS (d : D) (l : List Sec) : D := d.plain l
noncomputable def pW (d : D) (l : List Wt) : D := d.plain l
def pE (d : D) (l : List Ev) : D := d.plain l
theorem pI_self {d : D} (h : d.Is Int) {l : List Int} (e : d.to Int = l) : pI d l = d := by subst e; exact plain_self h
theorem pS_self {d : D} (h : d.Is Sec) {l : List Sec} (e : d.to Sec = l) : pS d l = d := by subst e; exact plain_self h
theorem pW_self {d : D} (h : d.Is Wt) {l : List Wt} (e : d.to Wt = l) : pW d l = d := by subst e; exact plain_self h
theorem pE_self {d : D} (h : d.Is Ev) {l : List Ev} (e : d.to Ev = l) : pE d l = d := by subst e; exact plain_self h
def oneS : Sec := ⟨1, 0, 0, 0, 0, 0, 0, 0⟩
noncomputable def spEx1 (n : Int) : SpecR := .data [] fun ds => .agg [.int .i64 0, .int .i64 n, .dat (pS (ds 0) [oneS])]
noncomputable def exSV (ds : Nat → D) : SV := .agg [.dat (pI (ds 0) [4]), .dat (pW (ds 1) [⟨0, 0, [oneS]⟩, ⟨0, 1, [oneS]⟩, ⟨0, 2, [oneS]⟩]), .dat (pE (ds 2) [⟨0, 0⟩, ⟨0, 1⟩, ⟨1, 0⟩, ⟨0, 2⟩])]
noncomputable def spEx (_ : Unit) : SpecR := .data [] exSV
def spSameHS (x : HiD × HiD) : SpecR := .scalar [x.1.Right ∧ x.2.s.Is Int ∧ x.2.w.Is Wt ∧ x.2.e.Is Ev ∧ x.1.hist = x.2.hist] (.lb true)
end Sx
end
section
open Go Go.Proofs Sx
namespace Go.Proofs.Ytdiekahpofifeaa
set_option maxRecDepth 100000
set_option maxHeartbeats 0
section
variable (n : Int)
theorem ex1_in : exec Try.prog [] 600 (entry Try.prog 68 [.int .i64 n]) =
 Tree.all fun hs =>
 .ret
 (.agg
 [.int .i64 0, .int .i64 n,
 .dat
 (D.slc (D.hd (hs 0 0)) 8
 [[D.int .u8 1, D.int .u8 0, D.int .u8 0, D.int .u8 0, D.int .u8 0,
 D.int .u8 0, D.int .u8 0, D.int .u8 0]])]) := by kernel_rfl

theorem ex_in : exec Try.prog [(68, ctrOf (rdInt.one.sp spEx1))] 600 (entry Try.prog 39 []) =
 Tree.all fun hs =>
 .all fun hs_1 =>
 .all fun hs_2 =>
 .all fun hs_3 =>
 .all fun hs_4 =>
 .all fun hs_5 =>
 .ret
 (.agg
 [.dat (D.slc (D.hd (hs 0 0)) 1 [[D.int .i64 4]]),
 .dat
 (D.slc (D.hd (hs_4 0 0)) 3
 [[D.int .i64 0, D.int .i64 0, pS (hs_1 0 0) [oneS]],
 [D.int .i64 0, D.int .i64 1, pS (hs_2 0 0) [oneS]],
 [D.int .i64 0, D.int .i64 2, pS (hs_3 0 0) [oneS]]]),
 .dat
 (D.slc (D.hd (hs_5 0 0)) 2
 [[D.int .i64 0, D.int .i64 0], [D.int .i64 0, D.int .i64 1],
 [D.int .i64 1, D.int .i64 0], [D.int .i64 0, D.int .i64 2]])]) := by kernel_rfl

end
end Go.Proofs.Ytdiekahpofifeaa
end
section
open Go Go.Proofs Sx
namespace Sx
theorem one_row (a : Hd) : (D.slc a 8 [[.int .u8 1, .int .u8 0, .int .u8 0, .int .u8 0, .int .u8 0, .int .u8 0, .int .u8 0, .int .u8 0]]).Is Sec :=
  ⟨_, _, _, rfl, .inr rfl, fun r hr => by rw [List.mem_singleton.1 hr]; exact ⟨_, _, _, _, _, _, _, _, rfl⟩⟩
theorem pS_is (d : D) (l : List Sec) : (pS d l).Is Sec := by
  refine ⟨_, _, _, rfl, ?_, ?_⟩
  · cases l with
    | nil => exact .inl rfl
    | cons x r => exact .inr rfl
  · intro r hr
    have : ∀ (l : List Sec) (i : Nat) (r : List D), r ∈ plainRows d i l → Codec.ok Sec r := by
      intro l
      induction l with
      | nil => intro i r hr; cases hr
      | cons x t ih =>
        intro i r hr
        simp only [plainRows, List.mem_cons] at hr
        rcases hr with rfl | hr
        · exact ⟨_, _, _, _, _, _, _, _, rfl⟩
        · exact ih _ _ hr
    exact this l 0 r hr
theorem pS_to (d : D) (l : List Sec) : (pS d l).to Sec = l := by
  have : ∀ (l : List Sec) (i : Nat), (plainRows d i l).map (Codec.dec (α := Sec)) = l := by
    intro l
    induction l with
    | nil => intro i; rfl
    | cons x t ih => intro i; simp only [plainRows, List.map_cons, ih]; rfl
  exact this l 0
end Sx
namespace Go.Proofs.Ytdiekahpofifeaa
set_option maxRecDepth 100000
theorem lawEx1 : Law Try.prog 68 (rdInt.one.sp spEx1) := by
  refine law_in _ (by kernel_rfl) fun H w n hok hp => ?_
  apply exec_sound (noCtr _) 600
  rw [show rdInt.one.canon n = [.int .i64 n] from rfl, ex1_in]
  intro hs
  have e := pS_self (one_row (D.hd (hs 0 0))) (l := [oneS]) rfl
  refine ret_D (fun _ => D.slc (D.hd (hs 0 0)) 8 [[.int .u8 1, .int .u8 0, .int .u8 0, .int .u8 0, .int .u8 0, .int .u8 0, .int .u8 0, .int .u8 0]]) (fun E E' => ?_) (fun H' h => ?_)
  · simp only [e, SV.den, SV.denL]
  · simp only [e]; exact h
theorem lawEx : Law Try.prog 39 (rdNone.sp spEx) := by
  refine law_in _ (by kernel_rfl) fun H w n hok hp => ?_
  apply exec_sound (cs := [(68, ctrOf (rdInt.one.sp spEx1))]) (by intro x hx; rw [List.mem_singleton.1 hx]; exact ctrOf_ok lawEx1) 600
  rw [show rdNone.canon n = [] from rfl, ex_in]
  intro h0 h1 h2 h3 h4 h5
  generalize hX : D.slc (D.hd (h0 0 0)) 1 [[D.int IntKind.i64 4]] = X
  generalize hY : D.slc (D.hd (h4 0 0)) 3 [[D.int IntKind.i64 0, D.int IntKind.i64 0, pS (h1 0 0) [oneS]], [D.int IntKind.i64 0, D.int IntKind.i64 1, pS (h2 0 0) [oneS]], [D.int IntKind.i64 0, D.int IntKind.i64 2, pS (h3 0 0) [oneS]]] = Y
  generalize hZ : D.slc (D.hd (h5 0 0)) 2 [[D.int IntKind.i64 0, D.int IntKind.i64 0], [D.int IntKind.i64 0, D.int IntKind.i64 1], [D.int IntKind.i64 1, D.int IntKind.i64 0], [D.int IntKind.i64 0, D.int IntKind.i64 2]] = Z
  have e1 : pI X [4] = X := pI_self (by rw [← hX]; exact allInt_is rfl) (by rw [← hX]; rfl)
  have e2 : pW Y [⟨0, 0, [oneS]⟩, ⟨0, 1, [oneS]⟩, ⟨0, 2, [oneS]⟩] = Y := by
    refine pW_self ?_ ?_
    · rw [← hY]
      refine ⟨_, _, _, rfl, .inr rfl, fun r hr => ?_⟩
      simp only [List.mem_cons, List.not_mem_nil, or_false] at hr
      rcases hr with rfl | rfl | rfl <;> exact ⟨_, _, _, rfl, pS_is _ _⟩
    · rw [← hY]
      show [Wt.mk 0 0 ((pS (h1 0 0) [oneS]).to Sec), Wt.mk 0 1 ((pS (h2 0 0) [oneS]).to Sec), Wt.mk 0 2 ((pS (h3 0 0) [oneS]).to Sec)] = _
      simp only [pS_to]
  have e3 : pE Z [⟨0, 0⟩, ⟨0, 1⟩, ⟨1, 0⟩, ⟨0, 2⟩] = Z := pE_self (by rw [← hZ]; exact allEv_is rfl) (by rw [← hZ]; rfl)
  refine ret_D (fun i => match i with | 0 => X | 1 => Y | _ => Z) (fun E E' => ?_) (fun H' h => ?_)
  · simp only [exSV, e1, e2, e3, SV.den, SV.denL]; rw [← hZ]
  · simp only [exSV, e1, e2, e3]; rw [← hZ]; exact h
end Go.Proofs.Ytdiekahpofifeaa
end
section
open Go Go.Proofs Sx
namespace Go.Proofs.Ytdiekahpofifeaa
set_option maxRecDepth 100000
set_option maxHeartbeats 0
noncomputable def ctA : Ctrs := (39, ctrOf (rdNone.sp spEx)) :: ctT
section
theorem awake_in : (execU Try.prog ctA (fun _ => true) 600 (entry Try.prog 12 [])).dec =
 Tree.all fun hs =>
 .all fun hs_1 =>
 .all fun hs_2 =>
 .all fun hs_3 =>
 .all fun hs_4 =>
 .all fun hs_5 =>
 .all fun hs_6 =>
 .all fun hs_7 =>
 .need
 (D.Is Ev
 (D.like (hs_2 0 2)
 (restE (D.to Int (D.slc (D.hd (hs_1 0 0)) 1 [[D.int .i64 0], [D.int .i64 2]]))
 (D.to Ev (pE (hs 0 2) [Ev.mk 0 0, Ev.mk 0 1, Ev.mk 1 0, Ev.mk 0 2])))) ∧
 D.Is Ev
 (D.slc (D.hd (hs_7 0 0)) 2
 [[D.int .i64 0, D.int .i64 0], [D.int .i64 1, D.int .i64 0],
 [D.int .i64 0, D.int .i64 1]]) ∧
 D.len
 (D.like (hs_2 0 2)
 (restE
 (D.to Int (D.slc (D.hd (hs_1 0 0)) 1 [[D.int .i64 0], [D.int .i64 2]]))
 (D.to Ev (pE (hs 0 2) [Ev.mk 0 0, Ev.mk 0 1, Ev.mk 1 0, Ev.mk 0 2])))) ≤
 1048576 ∧
 D.to Ev
 (D.like (hs_2 0 2)
 (restE
 (D.to Int (D.slc (D.hd (hs_1 0 0)) 1 [[D.int .i64 0], [D.int .i64 2]]))
 (D.to Ev (pE (hs 0 2) [Ev.mk 0 0, Ev.mk 0 1, Ev.mk 1 0, Ev.mk 0 2])))) =
 D.to Ev
 (D.slc (D.hd (hs_7 0 0)) 2
 [[D.int .i64 0, D.int .i64 0], [D.int .i64 1, D.int .i64 0],
 [D.int .i64 0, D.int .i64 1]]))
 (.all fun hs_8 =>
 .all fun hs_9 =>
 .need
 (D.Is Int
 (D.like (hs_8 0 0)
 (ackedH
 (HiD.hist
 (HiD.mk (pI (hs 0 0) [4])
 (pW (hs 0 1) [Wt.mk 0 0 [oneS], Wt.mk 0 1 [oneS], Wt.mk 0 2 [oneS]])
 (pE (hs 0 2) [Ev.mk 0 0, Ev.mk 0 1, Ev.mk 1 0, Ev.mk 0 2])))
 3)) ∧
 D.Is Int (D.slc (D.hd (hs_9 0 0)) 1 [[D.int .i64 0]]) ∧
 D.len
 (D.like (hs_8 0 0)
 (ackedH
 (HiD.hist
 (HiD.mk (pI (hs 0 0) [4])
 (pW (hs 0 1) [Wt.mk 0 0 [oneS], Wt.mk 0 1 [oneS], Wt.mk 0 2 [oneS]])
 (pE (hs 0 2) [Ev.mk 0 0, Ev.mk 0 1, Ev.mk 1 0, Ev.mk 0 2])))
 3)) ≤
 1048576 ∧
 D.to Int
 (D.like (hs_8 0 0)
 (ackedH
 (HiD.hist
 (HiD.mk (pI (hs 0 0) [4])
 (pW (hs 0 1) [Wt.mk 0 0 [oneS], Wt.mk 0 1 [oneS], Wt.mk 0 2 [oneS]])
 (pE (hs 0 2) [Ev.mk 0 0, Ev.mk 0 1, Ev.mk 1 0, Ev.mk 0 2])))
 3)) =
 D.to Int (D.slc (D.hd (hs_9 0 0)) 1 [[D.int .i64 0]]))
 (.ret (.lb true))) := by kernel_rfl

end
end Go.Proofs.Ytdiekahpofifeaa
end
section
open Go Go.Proofs Sx
namespace Sx
theorem like_len {α : Type} [Codec α] (d : D) (l : List α) : (d.like l).len = l.length := by rw [D.Is.length (α := α), D.like_to]
theorem like_needs {α : Type} [Codec α] {d e : D} {l : List α} (h1 : e.Is α) (h2 : l = e.to α) (h3 : l.length ≤ 1048576) : (d.like l).Is α ∧ e.Is α ∧ (d.like l).len ≤ 1048576 ∧ (d.like l).to α = e.to α :=
  ⟨D.like_is _ _, h1, by rw [like_len]; exact h3, by rw [D.like_to]; exact h2⟩
end Sx
namespace Go.Proofs.Ytdiekahpofifeaa
set_option maxRecDepth 100000
set_option maxHeartbeats 0
theorem ctAOk : Ctrs.Ok Try.prog ctA := by
  intro x hx
  rcases List.mem_cons.1 hx with rfl | hx
  · exact ctrOf_ok lawEx
  · exact ctTOk _ hx
theorem lawAwake : Law Try.prog 12 (rdNone.sp spTrue) := by
  refine law_in _ (by kernel_rfl) fun H w _ hok hp => ?_
  refine dec_sound ctAOk (fun _ => true) 600 (entry Try.prog 12 []) awake_in ?_
  intro h0 h1 h2 h3 h4 h5 h6 h7
  refine ⟨like_needs (allEv_is rfl) (by kernel_rfl) (Nat.le_of_ble_eq_true (by kernel_rfl)), fun h8 h9 => ⟨like_needs (allInt_is rfl) (by kernel_rfl) (Nat.le_of_ble_eq_true (by kernel_rfl)), ret_lbt⟩⟩
end Go.Proofs.Ytdiekahpofifeaa
end
section
open Go Go.Proofs Sx
namespace Go.Proofs.Ytdiekahpofifeaa
theorem lawSameHS : Law Try.prog 22 ((rdHi.two rdHi).sp spSameHS) :=
  law_sure lawSameH fun b => ⟨_, _, _, rfl, rfl, fun hp => by
    obtain ⟨h1, h2, h3, h4, h5⟩ := hp _ (List.mem_singleton.2 rfl)
    exact ⟨fun p hp' => by rw [List.mem_singleton.1 hp']; exact ⟨h1, h2, h3, h4⟩, decide_eq_true h5⟩⟩
noncomputable def ctL : Ctrs := [(11, ctrOf (rdHi.one.sp spFew)), (12, ctrOf (rdNone.sp spTrue)), (13, ctrOf ((rdHi.three rdInt rdInt).sp spBef)), (14, ctrOf ((rdHi.three rdInt rdInt).sp spBef)),
  (15, ctrOf ((rdHi.two rdD).sp spCls)), (16, ctrOf ((rdHi.two rdD).sp spCls)), (17, ctrOf ((rdD.two rdD).sp spIntsS)), (18, ctrOf ((rdHi.two rdInt).sp spAcd)), (19, ctrOf ((rdHi.two rdInt).sp spAcd)),
  (20, ctrOf (rdD.one.sp spNewH)), (21, ctrOf (rdD.one.sp spNewH)), (22, ctrOf ((rdHi.two rdHi).sp spSameHS)), (23, ctrOf (rdHi.one.sp spCkI)), (24, ctrOf (rdHi.one.sp spCkI)),
  (27, ctrOf ((rdHi.two rdD).sp spRest)), (28, ctrOf ((rdHi.two rdD).sp spRest)), (30, ctrOf ((rdHi.two rdWt).sp spIssueH)), (31, ctrOf ((rdHi.two rdWt).sp spIssueH)),
  (32, ctrOf ((rdHi.two rdInt).sp spAckH)), (33, ctrOf ((rdHi.two rdInt).sp spAckH))]
theorem ctLOk : Ctrs.Ok Try.prog ctL := by
  intro x hx
  simp only [ctL, List.mem_cons, List.not_mem_nil, or_false] at hx
  rcases hx with rfl | rfl | rfl | rfl | rfl | rfl | rfl | rfl | rfl | rfl | rfl | rfl | rfl | rfl | rfl | rfl | rfl | rfl | rfl | rfl
  · exact ctrOf_ok lawFew
  · exact ctrOf_ok lawAwake
  · exact ctrOf_ok lawBef
  · exact ctrOf_ok lawBefRef
  · exact ctrOf_ok lawCls
  · exact ctrOf_ok lawClsRef
  · exact ctrOf_ok lawEqIS
  · exact ctrOf_ok lawAcd
  · exact ctrOf_ok lawAcdR
  · exact ctrOf_ok lawNewH
  · exact ctrOf_ok lawNewHR
  · exact ctrOf_ok lawSameHS
  · exact ctrOf_ok lawChkH
  · exact ctrOf_ok lawCkR
  · exact ctrOf_ok lawRest
  · exact ctrOf_ok lawRestR
  · exact ctrOf_ok lawIssue
  · exact ctrOf_ok lawIssueR
  · exact ctrOf_ok lawAck
  · exact ctrOf_ok lawAckR
end Go.Proofs.Ytdiekahpofifeaa
end
section
open Go Go.Proofs Sx
namespace Go.Proofs.Ytdiekahpofifeaa
set_option maxRecDepth 100000
set_option maxHeartbeats 0
section
variable (a b c : D)
theorem rep_in : exec Try.prog ctL 400 (entry Try.prog 36 [.dat a, .dat b, .dat c]) =
 Tree.need (D.Is Int a ∧ D.len a ≤ 1048576)
 (.all fun hs =>
 .br (Prod.snd (newH (D.to Int a)) != 0)
 (.ret
 (SV.tup
 [.agg
 [.dat (D.like (hs 0 0) (Hist.sizes (Prod.fst (newH (D.to Int a))))),
 .dat (D.like (hs 0 1) (Hist.writes (Prod.fst (newH (D.to Int a))))),
 .dat (D.like (hs 0 2) (Hist.events (Prod.fst (newH (D.to Int a)))))],
 .lb false]))
 (.leaf
 (Conf.mk
 (SFrm.mk 36 none none
 [Item.inLoop (cAt Try.prog 36 [1, 1, 1, 1, 0, 1, 0, 0]), Item.inBlock 0,
 Item.code (cAt Try.prog 36 [1, 1, 1, 1, 1])]
 (mkJ 0
 [(1, .dat b), (6, .ptr 0 0), (8, .ptr 1 0), (10, .int .i64 0), (26, .dat c),
 (27, .int .i64 (↑(D.len c) : Int)), (28, .int .i64 0)]
 0 66))
 []
 [(0, OBlk.cells 26 [.nils, .nils, .nils]),
 (1,
 OBlk.cells 26
 [.dat (D.like (hs 0 0) (Hist.sizes (Prod.fst (newH (D.to Int a))))),
 .dat (D.like (hs 0 1) (Hist.writes (Prod.fst (newH (D.to Int a))))),
 .dat (D.like (hs 0 2) (Hist.events (Prod.fst (newH (D.to Int a)))))])]))) := by kernel_rfl

end
end Go.Proofs.Ytdiekahpofifeaa
end
section
open Go Go.Proofs Sx
namespace Go.Proofs.Ytdiekahpofifeaa
set_option maxRecDepth 100000
set_option maxHeartbeats 0
noncomputable def repL (b c ha hb hc : D) (x z : Int) : Conf := Conf.mk (SFrm.mk 36 none none [Item.inLoop (cAt Try.prog 36 [1, 1, 1, 1, 0, 1, 0, 0]), Item.inBlock 0, Item.code (cAt Try.prog 36 [1, 1, 1, 1, 1])] (mkJ 0 [(1, .dat b), (6, .ptr 0 0), (8, .ptr 1 0), (10, .int .i64 x), (26, .dat c), (27, .int .i64 (c.len : Int)), (28, .int .i64 z)] 0 66)) [] [(0, OBlk.cells 26 [.nils, .nils, .nils]), (1, OBlk.cells 26 [.dat ha, .dat hb, .dat hc])]
section
variable (b c ha hb hc : D) (x z : Int)
theorem rep_go : 
 let z1 := (SFrm.mk 36 none none [Item.inLoop (cAt Try.prog 36 [1, 1, 1, 1, 0, 1, 0, 0]), Item.inBlock 0, Item.code (cAt Try.prog 36 [1, 1, 1, 1, 1])] (mkJ 0 [(1, .dat b), (6, .ptr 0 0), (8, .ptr 1 0), (10, .int .i64 x), (26, .dat c), (27, .int .i64 (↑(D.len c) : Int)), (28, .int .i64 (IntKind.wrap .i64 (z + 1)))] 0 66))
 let z2 := (issueH (HiD.hist (HiD.mk ha hb hc)) (WtD.wt (WtD.mk (D.getInt b (Int.toNat x) 0) (D.getInt b (Int.toNat x) 1) (D.cell b (Int.toNat x) 2))))
 let z3 := (SFrm.mk 36 none none [Item.inLoop (cAt Try.prog 36 [1, 1, 1, 1, 0, 1, 0, 0]), Item.inBlock 0, Item.code (cAt Try.prog 36 [1, 1, 1, 1, 1])] (mkJ 0 [(1, .dat b), (6, .ptr 0 0), (8, .ptr 1 0), (10, .int .i64 (IntKind.wrap .i64 (x + 1))), (26, .dat c), (27, .int .i64 (↑(D.len c) : Int)), (28, .int .i64 (IntKind.wrap .i64 (z + 1)))] 0 66))
 let z4 := (ackH (HiD.hist (HiD.mk ha hb hc)) (D.getInt c (Int.toNat z) 1))
 exec Try.prog ctL 400 (unroll (repL b c ha hb hc x z)) =
 Tree.br (decide (z < (↑(D.len c) : Int))) (.need (0 ≤ z ∧ z < (↑(D.len c) : Int) ∧ D.sz c = 2) (.need (D.HasCells c (Int.toNat z) 0 [FT.int .i64, FT.int .i64]) (.br (decide (D.getInt c (Int.toNat z) 0 = 1))
 (.need (HiD.Right (HiD.mk ha hb hc) ∧ D.len hc ≤ 1000000) (.all fun hs => .br (decide (Prod.snd z4 = 0)) (.leaf (Conf.mk z1 [] [(0, OBlk.cells 26 [.nils, .nils, .nils]), (1, OBlk.cells 26 [.dat (D.like
 (hs 0 0) (Hist.sizes (Prod.fst z4))), .dat (D.like (hs 0 1) (Hist.writes (Prod.fst z4))), .dat (D.like (hs 0 2) (Hist.events (Prod.fst z4)))])])) (.leaf (Conf.mk z1 [] [(0, OBlk.cells 26 [.nils, .nils, .nils]),
 (1, OBlk.cells 26 [.dat ha, .dat hb, .dat hc])])))) (.br (decide (x < (↑(D.len b) : Int))) (.all fun hs => .need (0 ≤ x ∧ x < (↑(D.len b) : Int) ∧ D.sz b = 3) (.need (D.HasCells b (Int.toNat x) 0 [FT.int .i64, FT.int .i64, FT.slc])
 (.need (HiD.Right (HiD.mk ha hb hc) ∧ D.len hc ≤ 1000000 ∧ WtD.Ok (WtD.mk (D.getInt b (Int.toNat x) 0) (D.getInt b (Int.toNat x) 1) (D.cell b (Int.toNat x) 2))) (.br (decide (Prod.snd (Prod.snd z2) = 0))
 (.leaf (Conf.mk z3 [] [(0, OBlk.cells 26 [.nils, .nils, .nils]), (1, OBlk.cells 26 [.dat (D.like (hs 5 0) (Hist.sizes (Prod.fst z2))), .dat (D.like (hs 5 1) (Hist.writes (Prod.fst z2))), .dat (D.like (hs 5 2)
 (Hist.events (Prod.fst z2)))])])) (.leaf (Conf.mk z3 [] [(0, OBlk.cells 26 [.nils, .nils, .nils]), (1, OBlk.cells 26 [.dat ha, .dat hb, .dat hc])])))))) (.leaf (Conf.mk z1 [] [(0, OBlk.cells 26 [.nils, .nils, .nils]),
 (1, OBlk.cells 26 [.dat ha, .dat hb, .dat hc])])))))) (.ret (SV.tup [.agg [.dat ha, .dat hb, .dat hc], .lb true])) := by
 intros; kernel_rfl

end
end Go.Proofs.Ytdiekahpofifeaa
end
section
open Go
namespace Sx
def rdPair : Rd1 (Int × Int) where
  read x := match x with | .agg [.int .i64 a, .int .i64 b] => some (a, b) | _ => none
  canon n := .agg [.int .i64 n.1, .int .i64 n.2]
  right H E x b h hok := by
    split at h
    · cases h; exact ⟨rfl, trivial, trivial, trivial⟩
    · cases h
theorem few_right {x : HiD} (h1 : x.s.Is Int) (h2 : x.w.Is Wt) (h3 : x.e.Is Ev) (h : fewH x.hist = true) : x.Right ∧ x.e.len ≤ 1000000 := by
  simp only [fewH, Bool.and_eq_true, decide_eq_true_eq, List.all_eq_true] at h
  obtain ⟨a, b, c, d, e⟩ := h
  have a : (x.s.to Int).length ≤ 9 := a
  have b : (x.w.to Wt).length ≤ 40 := b
  have c : (x.e.to Ev).length ≤ 90 := c
  have e : ∀ w, w ∈ x.w.to Wt → w.data.length ≤ 30 := e
  have l1 := D.Is.length (α := Int) x.s
  have l2 := D.Is.length (α := Wt) x.w
  have l3 := D.Is.length (α := Ev) x.e
  exact ⟨⟨h1, h2, h3, by omega, by omega, by omega, fun w hw => by have := e w hw; omega⟩, by omega⟩
def HistOk (h : Hist) : Prop := h.sizes.length ≤ 1048576 ∧ h.writes.length ≤ 1048576 ∧ h.events.length ≤ 1048576 ∧ ∀ w, w ∈ h.writes → w.data.length ≤ 1048576
theorem llen {α : Type} [Codec α] (d : D) (l : List α) : (d.like l).len = l.length := by rw [D.Is.length (α := α), D.like_to]
theorem like_right {h : Hist} {a b c : D} (hk : HistOk h) : (HiD.mk (a.like h.sizes) (b.like h.writes) (c.like h.events)).Right :=
  ⟨D.like_is _ _, D.like_is _ _, D.like_is _ _, by simp only [llen]; exact hk.1, by simp only [llen]; exact hk.2.1, by simp only [llen]; exact hk.2.2.1, by simp only [D.like_to]; exact hk.2.2.2⟩
theorem like_hist {h : Hist} {a b c : D} : (HiD.mk (a.like h.sizes) (b.like h.writes) (c.like h.events)).hist = h := by simp only [HiD.hist, D.like_to]
end Sx
end
section
open Go
namespace Sx
def stepE (ws : List Wt) (st : Hist × Nat) (e : Ev) : Hist × Nat :=
  if e.kind = 1 then (if (ackH st.1 e.write).2 = 0 then (ackH st.1 e.write).1 else st.1, st.2)
  else if st.2 < ws.length then (if (issueH st.1 (ws.getD st.2 zWt)).2.2 = 0 then (issueH st.1 (ws.getD st.2 zWt)).1 else st.1, st.2 + 1) else st
def runE (ws : List Wt) (h0 : Hist) (evs : List Ev) (j : Nat) : Hist × Nat := (evs.take j).foldl (stepE ws) (h0, 0)
theorem runE_succ {ws : List Wt} {h0 : Hist} {evs : List Ev} {j : Nat} (hj : j < evs.length) : runE ws h0 evs (j + 1) = stepE ws (runE ws h0 evs j) evs[j] := by
  unfold runE
  rw [List.take_succ_eq_append_getElem hj, List.foldl_append]; rfl
def replayH (s : List Int) (ws : List Wt) (evs : List Ev) : Hist × Bool :=
  if (newH s).2 ≠ 0 then ((newH s).1, false) else ((runE ws (newH s).1 evs evs.length).1, true)
def HB (m j : Nat) (st : Hist × Nat) : Prop := st.1.sizes.length ≤ m ∧ st.1.writes.length ≤ j ∧ st.1.events.length ≤ j ∧ (∀ w, w ∈ st.1.writes → w.data.length ≤ 1048576) ∧ st.2 ≤ j
theorem newH_hb {s : List Int} : HB s.length 0 ((newH s).1, 0) := by
  unfold newH
  split
  · exact ⟨by simp [zHist], by simp [zHist], by simp [zHist], by simp [zHist], Nat.le_refl _⟩
  · exact ⟨Nat.le_refl _, by simp, by simp, by simp, Nat.le_refl _⟩
theorem ackH_hb {m j : Nat} {h : Hist} {k : Nat} {n : Int} (h1 : HB m j (h, k)) : HB m (j + 1) ((ackH h n).1, k) := by
  obtain ⟨a, b, c, d, e⟩ := h1
  simp only at a b c d e
  have z : ∀ x : Int, HB m (j + 1) ((zHist, x).1, k) := fun _ => ⟨by simp [zHist], by simp [zHist], by simp [zHist], by simp [zHist], by simp only; omega⟩
  unfold ackH
  split
  · exact z _
  · split
    · exact z _
    · split
      · exact z _
      · exact ⟨a, by simp only; omega, by simp; omega, d, by simp only; omega⟩
theorem issueH_hb {m j : Nat} {h : Hist} {k : Nat} {w : Wt} (h1 : HB m j (h, k)) (hw : w.data.length ≤ 1048576) : HB m (j + 1) ((issueH h w).1, k + 1) := by
  obtain ⟨a, b, c, d, e⟩ := h1
  simp only at a b c d e
  have z : ∀ x : Int × Int, HB m (j + 1) ((zHist, x).1, k + 1) := fun _ => ⟨by simp [zHist], by simp [zHist], by simp [zHist], by simp [zHist], by simp only; omega⟩
  unfold issueH
  split
  · exact z _
  · split
    · exact z _
    · split
      · exact z _
      · refine ⟨a, by simp; omega, by simp; omega, ?_, by simp only; omega⟩
        simp only [List.mem_append, List.mem_singleton]
        rintro w' (h | rfl)
        · exact d w' h
        · exact hw
theorem hb_up {m j : Nat} {h : Hist} {k : Nat} (h1 : HB m j (h, k)) : HB m (j + 1) (h, k) := ⟨h1.1, by have := h1.2.1; omega, by have := h1.2.2.1; omega, h1.2.2.2.1, by have := h1.2.2.2.2; omega⟩
theorem hb_up1 {m j : Nat} {h : Hist} {k : Nat} (h1 : HB m j (h, k)) : HB m (j + 1) (h, k + 1) := ⟨h1.1, Nat.le_succ_of_le h1.2.1, Nat.le_succ_of_le h1.2.2.1, h1.2.2.2.1, Nat.succ_le_succ h1.2.2.2.2⟩
theorem hb_right {m j : Nat} {x : HiD} {k : Nat} (h1 : HB m j (x.hist, k)) (hm : m ≤ 1000000) (hj : j ≤ 1000000) (a : x.s.Is Int) (b : x.w.Is Wt) (c : x.e.Is Ev) : x.Right ∧ x.e.len ≤ 1000000 := by
  obtain ⟨p, q, r, d, e⟩ := h1
  simp only at p q r d e
  have p : (x.s.to Int).length ≤ m := p
  have q : (x.w.to Wt).length ≤ j := q
  have r : (x.e.to Ev).length ≤ j := r
  have l1 := D.Is.length (α := Int) x.s
  have l2 := D.Is.length (α := Wt) x.w
  have l3 := D.Is.length (α := Ev) x.e
  exact ⟨⟨a, b, c, by omega, by omega, by omega, d⟩, by omega⟩
theorem hb_ok {m j : Nat} {st : Hist × Nat} (h1 : HB m j st) (hm : m ≤ 1000000) (hj : j ≤ 1000000) : HistOk st.1 := ⟨by have := h1.1; omega, by have := h1.2.1; omega, by have := h1.2.2.1; omega, h1.2.2.2.1⟩
theorem stepE_hb {ws : List Wt} {m j : Nat} {st : Hist × Nat} {e : Ev} (h1 : HB m j st) (hw : ∀ w, w ∈ ws → w.data.length ≤ 1048576) : HB m (j + 1) (stepE ws st e) := by
  obtain ⟨h, k⟩ := st
  unfold stepE
  split
  · split
    · exact ackH_hb h1
    · exact hb_up h1
  · split
    · rename_i hk
      simp only at hk
      split
      · exact issueH_hb h1 (by rw [show ws.getD k zWt = ws[k] by simp [hk]]; exact hw _ (List.getElem_mem hk))
      · exact hb_up1 h1
    · exact hb_up h1
theorem runE_hb {ws : List Wt} {s : List Int} {evs : List Ev} (hw : ∀ w, w ∈ ws → w.data.length ≤ 1048576) : ∀ j, j ≤ evs.length → HB s.length j (runE ws (newH s).1 evs j)
  | 0, _ => by simp only [runE, List.take_zero, List.foldl_nil]; exact newH_hb
  | j + 1, hj => by rw [runE_succ (by omega)]; exact stepE_hb (runE_hb hw j (by omega)) hw
noncomputable def repSV (ds : Nat → D) (r : Hist × Bool) : SV := .tup [hiSV ds r.1, .bool r.2]
noncomputable def spReplay (x : D × D × D) : SpecR := .data [x.1.Is Int ∧ x.1.len ≤ 1000000 ∧ x.2.1.Is Wt ∧ (∀ w, w ∈ x.2.1.to Wt → w.data.length ≤ 1048576) ∧ x.2.1.len ≤ 1000000 ∧ x.2.2.Is Ev ∧ x.2.2.len ≤ 1000000]
  fun ds => repSV ds (replayH (x.1.to Int) (x.2.1.to Wt) (x.2.2.to Ev))
def stepsH (h : Hist) : Hist × Bool := if fewH h = true then replayH h.sizes h.writes h.events else (zHist, false)
noncomputable def spSteps (x : HiD) : SpecR := .data [x.s.Is Int ∧ x.w.Is Wt ∧ x.e.Is Ev] fun ds => repSV ds (stepsH x.hist)
end Sx
end
section
open Go Go.Proofs Sx
namespace Go.Proofs.Ytdiekahpofifeaa
set_option maxRecDepth 100000
set_option maxHeartbeats 0
theorem ret_rep {w : World} {H : HV} {h : Hist} {b b' : Bool} {a1 a2 a3 : D} (h1 : a1.Is Int) (h2 : a2.Is Wt) (h3 : a3.Is Ev) (e1 : a1.to Int = h.sizes) (e2 : a2.to Wt = h.writes) (e3 : a3.to Ev = h.events) (hb : b = b') :
    (Tree.ret (.tup [.agg [.dat a1, .dat a2, .dat a3], .lb b])).holds Try.prog ⟨w, H⟩ (RetD w H fun ds => repSV ds (h, b')) := by
  subst hb
  have k1 := D.like_self h1 e1
  have k2 := D.like_self h2 e2
  have k3 := D.like_self h3 e3
  refine ret_D (fun i => match i with | 0 => a1 | 1 => a2 | _ => a3) (fun E E' => ?_) (fun H' ho => ?_)
  · simp only [repSV, hiSV, k1, k2, k3, SV.den, SV.denL]
  · simp only [repSV, hiSV, k1, k2, k3]
    exact ho
theorem lawReplay : Law Try.prog 36 ((rdD.three rdD rdD).sp spReplay) := by
  refine law_in _ (by kernel_rfl) fun H w ⟨a, b, c⟩ hok hp => ?_
  obtain ⟨h1, l1, h2, hd, l2, h3, l3⟩ := hp _ (List.mem_singleton.2 rfl)
  simp only at h1 l1 h2 hd l2 h3 l3
  have hl1 := D.Is.length (α := Int) a
  have hl2 := D.Is.length (α := Wt) b
  have hl3 := D.Is.length (α := Ev) c
  have hB := runE_hb (ws := b.to Wt) (s := a.to Int) (evs := c.to Ev) hd
  apply exec_sound ctLOk 400
  rw [show (rdD.three rdD rdD).canon (a, b, c) = [.dat a, .dat b, .dat c] from rfl, rep_in]
  refine ⟨⟨h1, by omega⟩, fun hs => ⟨fun hc => ?_, fun hc => ?_⟩⟩
  · have hc : (newH (a.to Int)).2 ≠ 0 := by simpa using hc
    have e : replayH (a.to Int) (b.to Wt) (c.to Ev) = ((newH (a.to Int)).1, false) := by unfold replayH; rw [if_pos hc]
    simp only [e]
    exact ret_rep (D.like_is _ _) (D.like_is _ _) (D.like_is _ _) (D.like_to _ _) (D.like_to _ _) (D.like_to _ _) rfl
  · have hc : (newH (a.to Int)).2 = 0 := by simpa using hc
    have e : replayH (a.to Int) (b.to Wt) (c.to Ev) = ((runE (b.to Wt) (newH (a.to Int)).1 (c.to Ev) (c.to Ev).length).1, true) := by unfold replayH; rw [if_neg (by simp [hc])]
    simp only [e]
    refine runs_loop (fun s : Nat × Nat × D × D × D => repL b c s.2.2.1 s.2.2.2.1 s.2.2.2.2 s.2.1 s.1)
      (fun s => s.1 ≤ (c.to Ev).length ∧ s.2.2.1.Is Int ∧ s.2.2.2.1.Is Wt ∧ s.2.2.2.2.Is Ev ∧ ((HiD.mk s.2.2.1 s.2.2.2.1 s.2.2.2.2).hist, s.2.1) = runE (b.to Wt) (newH (a.to Int)).1 (c.to Ev) s.1)
      (fun s => (c.to Ev).length - s.1) (fun _ => rfl) ?_ (0, 0, (hs 0 0).like (newH (a.to Int)).1.sizes, (hs 0 1).like (newH (a.to Int)).1.writes, (hs 0 2).like (newH (a.to Int)).1.events) ⟨Nat.zero_le _, D.like_is _ _, D.like_is _ _, D.like_is _ _, by simp only [like_hist, runE, List.take_zero, List.foldl_nil]⟩
    rintro ⟨j, x, ha, hb, hc⟩ ⟨hj, i1, i2, i3, hst⟩ ih
    simp only at hj i1 i2 i3 hst ih ⊢
    have hb1 := hB j hj
    rw [← hst] at hb1
    obtain ⟨hR, hE⟩ := hb_right hb1 (by omega) (by omega) i1 i2 i3
    apply exec_sound ctLOk 400
    rw [rep_go]
    refine ⟨fun hq => ?_, fun hq => ?_⟩
    · have hq : j < (c.to Ev).length := by have := of_decide_eq_true hq; omega
      obtain ⟨c1, c2, c3⟩ := ev_cell h3 hq
      have nx := runE_succ (ws := b.to Wt) (h0 := (newH (a.to Int)).1) hq
      rw [← hst] at nx
      have wj : IntKind.i64.wrap ((j : Int) + 1) = ((j + 1 : Nat) : Int) := wrap_succ hq (by omega)
      refine ⟨⟨by omega, by omega, h3.size hq⟩, c1, ?_⟩
      rw [Int.toNat_natCast, c2, c3, wj]
      refine ⟨fun hk => ⟨⟨hR, hE⟩, fun hs2 => ⟨fun hz => ?_, fun hz => ?_⟩⟩, fun hk => ⟨fun hx => fun hs2 => ?_, fun hx => ?_⟩⟩
      · refine ih (j + 1, x, (hs2 0 0).like (ackH (HiD.mk ha hb hc).hist ((c.to Ev)[j]).write).1.sizes, (hs2 0 1).like (ackH (HiD.mk ha hb hc).hist ((c.to Ev)[j]).write).1.writes, (hs2 0 2).like (ackH (HiD.mk ha hb hc).hist ((c.to Ev)[j]).write).1.events) ⟨hq, D.like_is _ _, D.like_is _ _, D.like_is _ _, ?_⟩ (by simp only; omega)
        simp only [like_hist]
        rw [nx]; unfold stepE
        rw [if_pos (of_decide_eq_true hk), if_pos (of_decide_eq_true hz)]
      · refine ih (j + 1, x, ha, hb, hc) ⟨hq, i1, i2, i3, ?_⟩ (by simp only; omega)
        simp only
        rw [nx]; unfold stepE
        rw [if_pos (of_decide_eq_true hk), if_neg (of_decide_eq_false hz)]
      · have hxx : x < (b.to Wt).length := by have := of_decide_eq_true hx; omega
        obtain ⟨d1, d2, d3⟩ := wt_cell h2 hxx
        have e0 : (WtD.mk (b.getInt x 0) (b.getInt x 1) (b.cell x 2)).wt = (b.to Wt).getD x zWt := by
          rw [show (b.to Wt).getD x zWt = (b.to Wt)[x] by simp [hxx], d3]; rfl
        have dl : ((b.cell x 2).to Sec).length ≤ 1048576 := by have := hd _ (List.getElem_mem hxx); rw [d3] at this; exact this
        have wx : IntKind.i64.wrap ((x : Int) + 1) = ((x + 1 : Nat) : Int) := wrap_succ hxx (by omega)
        refine ⟨⟨by omega, by omega, h2.size hxx⟩, ?_⟩
        rw [Int.toNat_natCast, wx, e0]
        refine ⟨d1, ⟨hR, hE, d2, by show (b.cell x 2).len ≤ _; rw [D.Is.length (α := Sec)]; exact dl⟩, fun hz => ?_, fun hz => ?_⟩
        · refine ih (j + 1, x + 1, (hs2 5 0).like (issueH (HiD.mk ha hb hc).hist ((b.to Wt).getD x zWt)).1.sizes, (hs2 5 1).like (issueH (HiD.mk ha hb hc).hist ((b.to Wt).getD x zWt)).1.writes, (hs2 5 2).like (issueH (HiD.mk ha hb hc).hist ((b.to Wt).getD x zWt)).1.events) ⟨hq, D.like_is _ _, D.like_is _ _, D.like_is _ _, ?_⟩ (by simp only; omega)
          simp only [like_hist]
          rw [nx]; unfold stepE
          rw [if_neg (of_decide_eq_false hk), if_pos hxx, if_pos (of_decide_eq_true hz)]
        · refine ih (j + 1, x + 1, ha, hb, hc) ⟨hq, i1, i2, i3, ?_⟩ (by simp only; omega)
          simp only
          rw [nx]; unfold stepE
          rw [if_neg (of_decide_eq_false hk), if_pos hxx, if_neg (of_decide_eq_false hz)]
      · refine ih (j + 1, x, ha, hb, hc) ⟨hq, i1, i2, i3, ?_⟩ (by simp only; omega)
        simp only
        rw [nx]; unfold stepE
        have hx : ¬x < (b.to Wt).length := by have := of_decide_eq_false hx; omega
        rw [if_neg (of_decide_eq_false hk), if_neg hx]
    · have hq := of_decide_eq_false hq
      have : j = (c.to Ev).length := by omega
      subst this
      have hst' := congrArg Prod.fst hst
      simp only at hst'
      rw [← hst']
      exact ret_rep i1 i2 i3 rfl rfl rfl rfl
end Go.Proofs.Ytdiekahpofifeaa
end
section
open Go Go.Proofs Sx
namespace Go.Proofs.Ytdiekahpofifeaa
set_option maxRecDepth 100000
set_option maxHeartbeats 0
noncomputable def ctR : Ctrs := (36, ctrOf ((rdD.three rdD rdD).sp spReplay)) :: ctL
section
variable (ha hb hc : D)
theorem steps_in : exec Try.prog ctR 400 (entry Try.prog 34 [.agg [.dat ha, .dat hb, .dat hc]]) =
 Tree.need (D.Is Int ha ∧ D.Is Wt hb ∧ D.Is Ev hc)
 (.br (!fewH (HiD.hist (HiD.mk ha hb hc))) (.ret (SV.tup [.agg [.nils, .nils, .nils], .lb false]))
 (.need
 (D.Is Int ha ∧
 D.len ha ≤ 1000000 ∧
 D.Is Wt hb ∧
 (∀ (w : Wt), List.Mem w (D.to Wt hb) → List.length (Wt.data w) ≤ 1048576) ∧
 D.len hb ≤ 1000000 ∧ D.Is Ev hc ∧ D.len hc ≤ 1000000)
 (.all fun hs =>
 .ret
 (SV.tup
 [.agg
 [.dat (D.like (hs 0 0) (Hist.sizes (Prod.fst (replayH (D.to Int ha) (D.to Wt hb) (D.to Ev hc))))),
 .dat (D.like (hs 0 1) (Hist.writes (Prod.fst (replayH (D.to Int ha) (D.to Wt hb) (D.to Ev hc))))),
 .dat (D.like (hs 0 2) (Hist.events (Prod.fst (replayH (D.to Int ha) (D.to Wt hb) (D.to Ev hc)))))],
 .bool (Prod.snd (replayH (D.to Int ha) (D.to Wt hb) (D.to Ev hc)))])))) := by kernel_rfl


end
end Go.Proofs.Ytdiekahpofifeaa
end
section
open Go Go.Proofs Sx
namespace Go.Proofs.Ytdiekahpofifeaa
set_option maxRecDepth 100000
set_option maxHeartbeats 0
theorem ctROk : Ctrs.Ok Try.prog ctR := by
  intro x hx
  rcases List.mem_cons.1 hx with rfl | hx
  · exact ctrOf_ok lawReplay
  · exact ctLOk _ hx
theorem few_rep {x : HiD} (h1 : x.s.Is Int) (h2 : x.w.Is Wt) (h3 : x.e.Is Ev) (h : fewH x.hist = true) : x.s.Is Int ∧ x.s.len ≤ 1000000 ∧ x.w.Is Wt ∧ (∀ w, w ∈ x.w.to Wt → w.data.length ≤ 1048576) ∧ x.w.len ≤ 1000000 ∧ x.e.Is Ev ∧ x.e.len ≤ 1000000 := by
  have hR := few_right h1 h2 h3 h
  simp only [fewH, Bool.and_eq_true, decide_eq_true_eq, List.all_eq_true] at h
  obtain ⟨a, b, c, d, e⟩ := h
  have a : (x.s.to Int).length ≤ 9 := a
  have b : (x.w.to Wt).length ≤ 40 := b
  have l1 := D.Is.length (α := Int) x.s
  have l2 := D.Is.length (α := Wt) x.w
  exact ⟨h1, by omega, h2, hR.1.2.2.2.2.2.2, by omega, h3, hR.2⟩
theorem lawSteps : Law Try.prog 34 (rdHi.one.sp spSteps) := by
  refine law_in _ (by kernel_rfl) fun H w ⟨ha, hb, hc⟩ hok hp => ?_
  obtain ⟨h1, h2, h3⟩ := hp _ (List.mem_singleton.2 rfl)
  simp only at h1 h2 h3
  apply exec_sound ctROk 400
  rw [show rdHi.one.canon ⟨ha, hb, hc⟩ = [.agg [.dat ha, .dat hb, .dat hc]] from rfl, steps_in]
  refine ⟨⟨h1, h2, h3⟩, fun hf => ?_, fun hf => ?_⟩
  · have hf : ¬fewH (HiD.mk ha hb hc).hist = true := by simpa using hf
    have e : stepsH (HiD.mk ha hb hc).hist = (zHist, false) := by unfold stepsH; rw [if_neg hf]
    simp only [e]
    have n1 := D.like_self (α := Int) (d := .slc none 0 []) ⟨_, _, _, rfl, .inl rfl, by simp⟩ (xs := []) rfl
    have n2 := D.like_self (α := Wt) (d := .slc none 0 []) ⟨_, _, _, rfl, .inl rfl, by simp⟩ (xs := []) rfl
    have n3 := D.like_self (α := Ev) (d := .slc none 0 []) ⟨_, _, _, rfl, .inl rfl, by simp⟩ (xs := []) rfl
    refine ret_D (fun _ => .slc none 0 []) (fun E E' => ?_) (fun H' ho => ?_)
    · simp only [repSV, hiSV, zHist, n1, n2, n3, SV.den, SV.denL, D.val, hval]
    · simp only [repSV, hiSV, zHist, n1, n2, n3]
      exact ⟨⟨⟨.nil 0, _, _, _, rfl⟩, ⟨.nil 0, _, _, _, rfl⟩, ⟨.nil 0, _, _, _, rfl⟩, trivial⟩, trivial, trivial⟩
  · have hf : fewH (HiD.mk ha hb hc).hist = true := by simpa using hf
    have e : stepsH (HiD.mk ha hb hc).hist = replayH (ha.to Int) (hb.to Wt) (hc.to Ev) := by unfold stepsH; rw [if_pos hf]; rfl
    refine ⟨few_rep (x := ⟨ha, hb, hc⟩) h1 h2 h3 hf, fun hs => ?_⟩
    simp only [e]
    exact ret_D (hs 0) (fun E E' => rfl) (fun H' ho => ho)
theorem stepsH_hb (h : Hist) : HB 9 90 ((stepsH h).1, 0) := by
  unfold stepsH
  split
  · rename_i hf
    simp only [fewH, Bool.and_eq_true, decide_eq_true_eq, List.all_eq_true] at hf
    obtain ⟨a, b, c, d, e⟩ := hf
    unfold replayH
    split
    · have := newH_hb (s := h.sizes)
      exact ⟨by have := this.1; simp only at this ⊢; omega, by have := this.2.1; simp only at this ⊢; omega, by have := this.2.2.1; simp only at this ⊢; omega, this.2.2.2.1, Nat.zero_le _⟩
    · have := runE_hb (ws := h.writes) (s := h.sizes) (evs := h.events) (fun w hw => by have := e w hw; omega) _ (Nat.le_refl _)
      exact ⟨by have := this.1; simp only at this ⊢; omega, by have := this.2.1; simp only at this ⊢; omega, by have := this.2.2.1; simp only at this ⊢; omega, this.2.2.2.1, Nat.zero_le _⟩
  · exact ⟨by simp [zHist], by simp [zHist], by simp [zHist], by simp [zHist], Nat.zero_le _⟩
noncomputable def ctS : Ctrs := (34, ctrOf (rdHi.one.sp spSteps)) :: (38, ctrOf ((rdD.two rdInt).sp spHasC)) :: (37, ctrOf (rdInt.one.sp spFst)) :: ctL
theorem ctSOk : Ctrs.Ok Try.prog ctS := by
  intro x hx
  rcases List.mem_cons.1 hx with rfl | hx
  · exact ctrOf_ok lawSteps
  rcases List.mem_cons.1 hx with rfl | hx
  · exact ctrOf_ok lawCon
  rcases List.mem_cons.1 hx with rfl | hx
  · exact ctrOf_ok lawFst
  · exact ctLOk _ hx
end Go.Proofs.Ytdiekahpofifeaa
end
section
namespace Sx
open Go RowKit
inductive MidK where
  | copy
  | append
  | store
  | build
deriving DecidableEq
def opMid (o : Op) (k : MidK) : Bool :=
  match k with
  | .copy => match o with | .call cl => (match cl.callee with | .builtin .copy => true | _ => false) | _ => false
  | .append => match o with | .call cl => (match cl.callee with | .builtin .append => true | _ => false) | _ => false
  | .store => match o with | .store .. => true | _ => false
  | .build => match o with | .buildSlice .. => true | _ => false
def restsMid (M : List (FuncId × MidK)) (c : Conf) : Bool :=
  match c.top.ri with
  | some (ops, i :: _) => match ops[i]? with
    | some o => M.any fun x => x.1 == c.top.fn && opMid o.op x.2
    | none => false
  | _ => false
noncomputable def execM (P : Program) (cs : Ctrs) (S : List (FuncId × Nat)) (M : List (FuncId × MidK)) (n : Nat) : Conf → Tree :=
  Nat.rec (motive := fun _ => Conf → Tree) (fun _ => .stuck) (fun _ ih c => match restsMid M c with
    | true => leafR c
    | false => match restsAt S c with
      | true => restC P c
      | false => stepC P cs (fun _ => false) ih c) n
noncomputable def goM (P : Program) (cs : Ctrs) (S : List (FuncId × Nat)) (M : List (FuncId × MidK)) (n : Nat) (c : Conf) : Tree := stepC P cs (fun _ => false) (execM P cs S M n) c
section
variable {P : Program} {C : Ctx} {R : Value → World → Prop} {cs : Ctrs}
theorem execM_sound (hcs : cs.Ok P) (S : List (FuncId × Nat)) (M : List (FuncId × MidK)) : ∀ (n : Nat) (c : Conf), (execM P cs S M n c).holds P C R → Runs P C c R
  | 0, _, h => h.elim
  | n + 1, c, h => by
    have e : execM P cs S M (n + 1) c = match restsMid M c with
      | true => leafR c
      | false => match restsAt S c with
        | true => restC P c
        | false => stepC P cs (fun _ => false) (execM P cs S M n) c := rfl
    rw [e] at h
    cases hr : restsMid M c with
    | true => rw [hr, leafR_eq] at h; exact h
    | false =>
      rw [hr] at h
      simp only at h
      cases hs : restsAt S c with
      | true => rw [hs] at h; exact fgtR_sound (headR_sound h)
      | false => rw [hs] at h; exact step_sound (U := fun _ => false) hcs (fun c h => execM_sound hcs S M n c h) c h
theorem goM_sound (hcs : cs.Ok P) (S : List (FuncId × Nat)) (M : List (FuncId × MidK)) (n : Nat) (c : Conf) (h : (goM P cs S M n c).holds P C R) : Runs P C c R :=
  step_sound (U := fun _ => false) hcs (fun c h => execM_sound hcs S M n c h) c h
end
end Sx
end
section
namespace Sx
open Go RowKit
section
variable {P : Program}
def At (P : Program) (c : Conf) (H : HV) (w : World) (R : Value → World → Prop) : Prop :=
  ∀ E, c.Ok H → InMem H w → StkRun P ctxPlain (c.top.den E) (c.rest.map (SFrm.den E)) w R
theorem at_of_runs {c : Conf} {H : HV} {w : World} {R : Value → World → Prop} (hm : c.mem = []) (h : Runs P ⟨w, H⟩ c R) : At P c H w R :=
  fun E ok hin => h E H w (by rw [hm]; exact good_start hin E) ok
theorem After.trans {w w1 w2 : World} {H H1 H2 : HV} (a : After w H w1 H1) (b : After w1 H1 w2 H2) : After w H w2 H2 :=
  ⟨a.below.trans (b.below.mono a.below.size), a.le.trans b.le, fun x o v h => by
    rcases b.fresh x o v h with h | h
    · exact a.fresh x o v h
    · exact .inr (Nat.le_trans a.below.size h), b.cell⟩
def callAt (ops : Array Oper) (i : Nat) : Option (Builtin × List Operand × List TypeId × Option Tmp) :=
  match ops[i]? with
  | some ⟨dst, .call ⟨.builtin b, args, tys⟩, _, _, _, none⟩ => some (b, args.toList, tys.toList, dst)
  | _ => none
def storeAt (ops : Array Oper) (i : Nat) : Option (TypeId × Operand × Operand × Option Tmp) :=
  match ops[i]? with
  | some ⟨dst, .store t a x, _, _, _, none⟩ => some (t, a, x, dst)
  | _ => none
theorem wanted_none {o : Oper} (h : o.guard = none) (y : Nat → Option Bool) : Region.wanted o y = true := by unfold Region.wanted; rw [h]
theorem stk_builtin {f : FuncId} {ops : Array Oper} {i : Nat} {l : List Nat} {aw dst : Option Tmp} {k : List Item} {tmps : List SV} {rest : List SFrm} {b : Builtin} {args : List Operand} {tys : List TypeId} {E E' : Env} {w w' : World} {R : Value → World → Prop} {u : Value}
    (ho : callAt ops i = some (b, args, tys, dst))
    (hr : ∀ ty, (builtin b tys.toArray ty #[] (args.map fun x => (evS tmps x).den E).toArray).run P w = .ok (.value u) w')
    (hcst : ∀ (ty : TypeId) (c : Array Bool) (xs : Array Value), builtin b tys.toArray ty c xs = builtin b tys.toArray ty #[] xs)
    (h : StkRun P ctxPlain ⟨f, some (ops, l), aw, k, (⟨(SV.denL E tmps).toArray, []⟩ : Act).put dst u, none⟩ (rest.map (SFrm.den E')) w' R) :
    StkRun P ctxPlain (SFrm.den E ⟨f, some (ops, i :: l), aw, k, tmps⟩) (rest.map (SFrm.den E')) w R := by
  unfold callAt at ho
  split at ho
  · rename_i dst' b' args' tys' ty pos after hops
    cases ho
    have hro : RunsTo P ⟨(SV.denL E tmps).toArray, []⟩ ⟨dst, .call ⟨.builtin b, args', tys'⟩, ty, pos, after, none⟩ w u w' := by
      left
      have := hr ty
      simp only [Array.toArray_toList] at this
      have ev : args'.toList.map (fun x => (evS tmps x).den E) = (args'.map (Act.eval ⟨(SV.denL E tmps).toArray, []⟩)).toList := by
        rw [Array.toList_map]
        exact List.map_congr_left fun x _ => (den_evS E tmps [] x).symm
      rw [ev, Array.toArray_toList] at this
      simp only [execOp, resolve, invoke, Sem.run_bind, Sem.run_pure, Result.andThen_ok]
      rw [← Array.toArray_toList (xs := tys'), hcst, Array.toArray_toList]
      exact this
    cases rest with
    | nil =>
      refine frm_op (a := ⟨(SV.denL E tmps).toArray, []⟩) (ro := none) hops (wanted_none rfl _) hro ?_
      cases dst <;> exact h
    | cons g r => exact frm_op hops (wanted_none rfl _) hro h
  · cases ho
theorem run_copy_sz (w : World) (dT sT ty elem : TypeId) (g o dLen dCap : Nat) (a : Addr) (sLen sCap s : Nat) (cur : Array Value) (t : TypeId) (cs : List Value)
    (hu : P.underlying dT = some (.slice elem)) (hs : (P.info? elem).map (·.size) = some s)
    (hg : w.heap[g]? = some (.cells cur t (0, 0))) (hn : cs.length = Nat.min sLen dLen * s)
    (hsrc : ∀ j v, cs[j]? = some v → w.cell? (a.add j) = some v) (hfit : o + cs.length ≤ cur.size) (h1 : ∀ v ∈ cs, v.oneCell' = true) :
    (Builtin.copy_ #[dT, sT] ty #[.slice (some ⟨g, o, none⟩) dLen dCap, .slice (some a) sLen sCap]).run P w =
      .ok (goInt (Nat.min sLen dLen)) (w.setRow g (cur.toList.take o ++ cs ++ cur.toList.drop (o + cs.length)).toArray) := by
  have hl := run_loadCells_list (P := P) w a cs hsrc
  have hst := run_storeCells_at P g o t cs 0 cur w hg (by simpa using hfit) h1
  cases hq : P.info? elem with
  | none => simp [hq] at hs
  | some i =>
    have hi : i.size = s := by simpa [hq] using hs
    simp [Builtin.copy_, run_underlying hu, Builtin.lenOf, Builtin.firstCells, Go.sizeOf, typeInfo, hq, hi, ← hn, hl, hst]
end
theorem prefix_of {F L : List Value} (h : ∀ (x : Nat) (v : Value), F[x]? = some v → L[x]? = some v) : L = F ++ L.drop F.length := by
  apply List.ext_getElem?
  intro x
  by_cases hx : x < F.length
  · rw [List.getElem?_append_left hx, List.getElem?_eq_getElem hx]
    exact h x _ (List.getElem?_eq_getElem hx)
  · rw [List.getElem?_append_right (by omega), List.getElem?_drop]
    congr 1; omega
def blk (o : D) (v : Nat) : Nat := (o.cell v 0).addr.block
structure ImgW (n : Nat) (H : HV) (w : World) (o : D) : Prop where
  is : o.Is Vol
  sz : o.sz = 1
  ok : o.Ok H
  ne : ∀ v, v < o.len → (o.cell v 0).rows ≠ []
  hd : ∀ v, v < o.len → ∃ c, (o.cell v 0).hd = some (⟨blk o v, 0, none⟩, c)
  low : ∀ v, v < o.len → n ≤ blk o v
  dis : ∀ v v', v < o.len → v' < o.len → blk o v = blk o v' → v = v'
  out : ∀ v, v < o.len → o.addr.block ≠ blk o v
  live : ∀ v, v < o.len → ∃ cur t, w.heap[blk o v]? = some (.cells cur t (0, 0))
theorem vol_row {o : D} (h : o.Is Vol) {v : Nat} (hv : v < o.len) : o.rows[v]? = some [o.cell v 0] ∧ (o.cell v 0).Is Sec ∧ (o.to Vol)[v]? = some ⟨(o.cell v 0).to Sec⟩ := by
  have hv' : v < (o.to Vol).length := by rw [← D.Is.length (α := Vol)]; exact hv
  obtain ⟨r, h1, ⟨d, rfl, hd⟩, h3⟩ := h.row hv'
  have e : o.cell v 0 = d := by simp [D.cell, D.cellAt, h1]
  rw [e]
  exact ⟨h1, hd, by rw [List.getElem?_eq_getElem hv', h3]; rfl⟩
def D.putSec (o : D) (v s : Nat) (rs : List (List D)) : D := .slc o.hd 1 (o.rows.set v [.slc (o.cell v 0).hd 8 ((o.cell v 0).rows.take s ++ rs ++ (o.cell v 0).rows.drop (s + rs.length))])
section
variable {n : Nat} {H : HV} {w : World} {o : D} (h : ImgW n H w o) {v s : Nat} {rs : List (List D)} (hv : v < o.len) (hrs : ∀ r, r ∈ rs → Codec.ok Sec r) (hs : s + rs.length ≤ (o.cell v 0).len)
include h hv hrs hs
theorem put_cell {v' : Nat} (hv' : v' < o.len) : (o.putSec v s rs).cell v' 0 = if v' = v then .slc (o.cell v 0).hd 8 ((o.cell v 0).rows.take s ++ rs ++ (o.cell v 0).rows.drop (s + rs.length)) else o.cell v' 0 := by
  have hl : v' < o.rows.length := hv'
  have e0 : ∀ (a : Hd) (z : Nat) (rows : List (List D)), (D.slc a z rows).cell v' 0 = ((rows[v']?).bind (·[0]?)).getD (.slc none 0 []) := fun _ _ _ => rfl
  unfold D.putSec
  rw [e0]
  by_cases e : v' = v
  · subst e
    rw [if_pos rfl, List.getElem?_set_self hl]; rfl
  · rw [if_neg e, List.getElem?_set_ne (Ne.symm e)]; rfl
theorem put_blk {v' : Nat} (hv' : v' < o.len) : blk (o.putSec v s rs) v' = blk o v' := by
  unfold blk
  rw [put_cell h hv hrs hs hv']
  split
  · rename_i e; subst e; rfl
  · rfl
theorem put_len : (o.putSec v s rs).len = o.len := by simp [D.putSec, D.len, D.rows]
theorem put_rows_ok : ∀ r, r ∈ (o.cell v 0).rows.take s ++ rs ++ (o.cell v 0).rows.drop (s + rs.length) → Codec.ok Sec r := by
  have hi := (rows_of (vol_row h.is hv).2.1).1
  intro r hr
  rcases List.mem_append.1 hr with hr | hr
  · rcases List.mem_append.1 hr with hr | hr
    · exact hi r (List.mem_of_mem_take hr)
    · exact hrs r hr
  · exact hi r (List.mem_of_mem_drop hr)
theorem put_rows_len : ((o.cell v 0).rows.take s ++ rs ++ (o.cell v 0).rows.drop (s + rs.length)).length = (o.cell v 0).rows.length := by
  have : s + rs.length ≤ (o.cell v 0).rows.length := hs
  simp only [List.length_append, List.length_take, List.length_drop]; omega
theorem put_to : (o.putSec v s rs).to Vol = (o.to Vol).set v ⟨((o.cell v 0).to Sec).take s ++ rs.map Codec.dec ++ ((o.cell v 0).to Sec).drop (s + rs.length)⟩ := by
  unfold D.putSec
  simp only [D.to, D.rows, List.map_set]
  congr 1
  show (⟨(D.slc (o.cell v 0).hd 8 _).to Sec⟩ : Vol) = _
  simp only [D.to, D.rows, List.map_append, List.map_take, List.map_drop]
theorem put_val : (o.putSec v s rs).val = o.val := by
  obtain ⟨a, b, c, rfl, _⟩ := h.is
  simp [D.putSec, D.val, D.hd, D.rows]
theorem put_is : (o.putSec v s rs).Is Vol := by
  refine is_rows rfl fun r hr => ?_
  rcases List.mem_or_eq_of_mem_set hr with hr | rfl
  · exact (rows_of h.is).1 r hr
  · exact ⟨_, rfl, is_rows rfl (put_rows_ok h hv hrs hs)⟩
theorem sec_plain {r : List D} (hr : Codec.ok Sec r) : r.length = 8 ∧ ∀ x, x ∈ r → ∀ H, x.Ok H := by
  obtain ⟨a, b, c, d, e, f, g, i, rfl⟩ := hr
  refine ⟨rfl, fun x hx H => ?_⟩
  simp only [List.mem_cons, List.not_mem_nil, or_false] at hx
  rcases hx with rfl | rfl | rfl | rfl | rfl | rfl | rfl | rfl <;> exact .int _ _
theorem ImgW.put (hin : InMem H w) {w' : World} {cur : Array Value} {t : TypeId} (hg : w.heap[blk o v]? = some (.cells cur t (0, 0)))
    (hw : w' = w.setRow (blk o v) (cur.toList.take (s * 8) ++ flat rs ++ cur.toList.drop (s * 8 + (flat rs).length)).toArray) :
    ∃ H', InMem H' w' ∧ ImgW n H' w' (o.putSec v s rs) ∧ (∀ H0 : HV, HLe H0 H → (∀ x, H0 (blk o v) x = none) → HLe H0 H') ∧ (∀ b x u, H' b x = some u → H b x = some u ∨ b = blk o v) ∧ s * 8 + (flat rs).length ≤ cur.size ∧ (∀ b, b ≠ blk o v → w'.heap[b]? = w.heap[b]?) := by
  obtain ⟨hrow, hsec, _⟩ := vol_row h.is hv
  obtain ⟨c, hhd⟩ := h.hd v hv
  have hne := h.ne v hv
  have hi := rows_of hsec
  have hl8 : ∀ r, r ∈ (o.cell v 0).rows → r.length = 8 := fun r hr => (sec_plain h hv hrs hs (hi.1 r hr)).1
  have hr8 : ∀ r, r ∈ rs → r.length = 8 := fun r hr => (sec_plain h hv hrs hs (hrs r hr)).1
  have hnl := put_rows_len h hv hrs hs
  have hno := put_rows_ok h hv hrs hs
  generalize hrows' : (o.cell v 0).rows.take s ++ rs ++ (o.cell v 0).rows.drop (s + rs.length) = rows' at hnl hno
  have hr' : ∀ r, r ∈ rows' → r.length = 8 := fun r hr => (sec_plain h hv hrs hs (hno r hr)).1
  -- the inner slice lies in memory
  have hiok : (o.cell v 0).Ok H := by
    have hok := h.ok
    cases hok with
    | slc a c sz rows hsp hc hlen hcell hk =>
      have hm : rows[v]? = some [(D.slc (some (a, c)) sz rows).cell v 0] := hrow
      exact hk _ (List.mem_of_getElem? hm) _ (by simp)
    | nil sz => simp [D.len, D.rows] at hv
    | int _ _ => obtain ⟨_, _, _, e, _⟩ := h.is; cases e
    | bool _ => obtain ⟨_, _, _, e, _⟩ := h.is; cases e
    | str _ => obtain ⟨_, _, _, e, _⟩ := h.is; cases e
  have hcells : ∀ i j r x, (o.cell v 0).rows[i]? = some r → r[j]? = some x → H (blk o v) (i * 8 + j) = some x.val := by
    intro i j r x h1 h2
    have hz : (o.cell v 0).sz = 8 := hsec.size (by
      rw [← D.Is.length (α := Sec)]
      have := (List.getElem?_eq_some_iff.1 h1).1
      exact (Nat.lt_of_le_of_lt (Nat.zero_le _) this : 0 < (o.cell v 0).rows.length))
    revert hhd hz h1
    generalize o.cell v 0 = q at hiok
    intro hhd h1 hz
    cases hiok with
    | slc a c sz rows hsp hc hlen hcell hk =>
      simp only [D.hd, Option.some.injEq, Prod.mk.injEq] at hhd
      obtain ⟨rfl, _⟩ := hhd
      simp only [D.sz] at hz
      subst hz
      have := hcell i j r x h1 h2
      simpa using this
    | nil sz => simp [D.hd] at hhd
    | int _ _ => simp [D.hd] at hhd
    | bool _ => simp [D.hd] at hhd
    | str _ => simp [D.hd] at hhd
  have hpre : ∀ (x : Nat) (u : Value), (flat (o.cell v 0).rows)[x]? = some u → cur.toList[x]? = some u := by
    intro x u hx
    have hlen := flat_len hl8
    have hxl : x < (o.cell v 0).rows.length * 8 := by rw [← hlen]; exact (List.getElem?_eq_some_iff.1 hx).1
    have hi1 : x / 8 < (o.cell v 0).rows.length := by omega
    have hr1 : (o.cell v 0).rows[x / 8]? = some (o.cell v 0).rows[x / 8] := List.getElem?_eq_getElem hi1
    have hrl := hl8 _ (List.getElem_mem hi1)
    have hj1 : x % 8 < ((o.cell v 0).rows[x / 8]).length := by rw [hrl]; exact Nat.mod_lt _ (by decide)
    have hr2 : ((o.cell v 0).rows[x / 8])[x % 8]? = some ((o.cell v 0).rows[x / 8])[x % 8] := List.getElem?_eq_getElem hj1
    have e1 := flat_get hl8 _ _ _ _ hr1 hr2
    have e2 := hcells _ _ _ _ hr1 hr2
    have ex : x / 8 * 8 + x % 8 = x := by omega
    rw [ex] at e1 e2
    rw [hx] at e1
    cases e1
    have e3 := hin _ _ _ e2
    simp only [World.cell?, hg, Option.isSome_none, Bool.false_eq_true, if_false] at e3
    simpa using e3
  have hL := prefix_of hpre
  have hFl : (flat (o.cell v 0).rows).length = (o.cell v 0).rows.length * 8 := flat_len hl8
  have hMl : (flat rs).length = rs.length * 8 := flat_len hr8
  have hsr : s + rs.length ≤ (o.cell v 0).rows.length := hs
  have hfit : s * 8 + (flat rs).length ≤ (flat (o.cell v 0).rows).length := by rw [hFl, hMl, ← Nat.add_mul]; exact Nat.mul_le_mul_right _ hsr
  have hcsz : (flat (o.cell v 0).rows).length ≤ cur.size := by
    have := congrArg List.length hL
    simp only [List.length_append, Array.length_toList, List.length_drop] at this
    omega
  have hF' : flat rows' = (flat (o.cell v 0).rows).take (s * 8) ++ flat rs ++ (flat (o.cell v 0).rows).drop (s * 8 + (flat rs).length) := by
    rw [← hrows', flat_append, flat_append]
    have tk : ∀ k, k ≤ (o.cell v 0).rows.length → flat ((o.cell v 0).rows.take k) = (flat (o.cell v 0).rows).take (k * 8) ∧ flat ((o.cell v 0).rows.drop k) = (flat (o.cell v 0).rows).drop (k * 8) := fun k hk => by
      have e := flat_append ((o.cell v 0).rows.take k) ((o.cell v 0).rows.drop k)
      rw [List.take_append_drop] at e
      have e2 : (flat ((o.cell v 0).rows.take k)).length = k * 8 := by
        rw [flat_len (sz := 8) fun r hr => hl8 r (List.mem_of_mem_take hr), List.length_take, Nat.min_eq_left hk]
      rw [e]
      exact ⟨by rw [← e2, List.take_left], by rw [← e2, List.drop_left]⟩
    rw [(tk s (by omega)).1, (tk (s + rs.length) hsr).2, hMl, Nat.add_mul]
  have hL' : cur.toList.take (s * 8) ++ flat rs ++ cur.toList.drop (s * 8 + (flat rs).length) = flat rows' ++ cur.toList.drop (flat (o.cell v 0).rows).length := by
    rw [hF']
    have e1 : cur.toList.take (s * 8) = (flat (o.cell v 0).rows).take (s * 8) := by
      rw [hL, List.take_append_of_le_length (by omega)]
    have e2 : cur.toList.drop (s * 8 + (flat rs).length) = (flat (o.cell v 0).rows).drop (s * 8 + (flat rs).length) ++ cur.toList.drop (flat (o.cell v 0).rows).length := by
      conv => lhs; rw [hL]
      rw [List.drop_append_of_le_length hfit]
    rw [e1, e2, List.append_assoc, List.append_assoc, List.append_assoc]
  rw [hL'] at hw
  have hoth : ∀ b, b ≠ blk o v → w'.heap[b]? = w.heap[b]? := fun b hb => by rw [hw]; exact setRow_other w _ _ _ hb
  have hnew : w'.heap[blk o v]? = some (.cells (flat rows' ++ cur.toList.drop (flat (o.cell v 0).rows).length).toArray t (0, 0)) := by
    rw [hw]; exact setRow_heap w _ cur _ t _ hg
  refine ⟨H.row (blk o v) (flat rows'), ?_, ?_, ?_, ?_, by omega, hoth⟩
  · intro b x u hb
    unfold HV.row at hb
    split at hb
    · rename_i e
      subst e
      simp only [World.cell?, hnew, Option.isSome_none, Bool.false_eq_true, if_false]
      have := (List.getElem?_eq_some_iff.1 hb).1
      simp only [List.getElem?_toArray]
      rw [List.getElem?_append_left this]; exact hb
    · rename_i e
      have := hin b x u hb
      simpa [World.cell?, hoth b e] using this
  · -- the image
    have hrowne : rows' ≠ [] := fun e => hne (List.length_eq_zero_iff.1 (by rw [← hnl, e]; rfl))
    have pc := @put_cell n H w o h v s rs hv hrs hs
    have pb := @put_blk n H w o h v s rs hv hrs hs
    have pl := put_len h hv hrs hs
    refine ⟨put_is h hv hrs hs, rfl, ?_, fun v' hv' => ?_, fun v' hv' => ?_, fun v' hv' => ?_, fun v1 v2 h1 h2 e => ?_, fun v' hv' => ?_, fun v' hv' => ?_⟩
    · -- in memory
      have key : ∀ v', (hv' : v' < o.len) → ((o.putSec v s rs).cell v' 0).Ok (H.row (blk o v) (flat rows')) := by
        intro v' hv'
        rw [pc hv']
        by_cases e : v' = v
        · rw [if_pos e, hhd, hrows']
          refine .slc _ _ _ _ (fun _ => rfl) ?_ hr' (fun i j r x h1 h2 => ?_) (fun r hr x hx => (sec_plain h hv hrs hs (hno r hr)).2 x hx _)
          · rw [hnl]
            revert hhd
            generalize o.cell v 0 = q at hiok
            intro hhd
            cases hiok with
            | slc a c' sz rows hsp hc hlen hcell hk => simp only [D.hd, Option.some.injEq, Prod.mk.injEq] at hhd; rw [← hhd.2]; exact hc
            | nil sz => simp [D.hd] at hhd
            | int _ _ => simp [D.hd] at hhd
            | bool _ => simp [D.hd] at hhd
            | str _ => simp [D.hd] at hhd
          · simp only [HV.row, if_true, Nat.zero_add]
            exact flat_get hr' i j r x h1 h2
        · rw [if_neg e]
          obtain ⟨hrow', hsec', _⟩ := vol_row h.is hv'
          obtain ⟨c', hhd'⟩ := h.hd v' hv'
          have hbne : blk o v' ≠ blk o v := fun e' => e (h.dis v' v hv' hv e')
          have hok' : (o.cell v' 0).Ok H := by
            have hok := h.ok
            cases hok with
            | slc a c sz rows hsp hc hlen hcell hk =>
              have hm : rows[v']? = some [(D.slc (some (a, c)) sz rows).cell v' 0] := hrow'
              exact hk _ (List.mem_of_getElem? hm) _ (by simp)
            | nil sz => simp [D.len, D.rows] at hv'
            | int _ _ => obtain ⟨_, _, _, e, _⟩ := h.is; cases e
            | bool _ => obtain ⟨_, _, _, e, _⟩ := h.is; cases e
            | str _ => obtain ⟨_, _, _, e, _⟩ := h.is; cases e
          have hsr' := (rows_of hsec').1
          revert hhd' hsr'
          generalize o.cell v' 0 = q at hok'
          intro hhd' hsr'
          cases hok' with
          | slc a c2 sz rows hsp hc hlen hcell hk =>
            simp only [D.hd, Option.some.injEq, Prod.mk.injEq] at hhd'
            obtain ⟨rfl, rfl⟩ := hhd'
            refine .slc _ _ _ _ hsp hc hlen (fun i j r x h1 h2 => ?_) (fun r hr x hx => (sec_plain h hv hrs hs (hsr' r hr)).2 x hx _)
            have := hcell i j r x h1 h2
            simp only [HV.row]
            rw [if_neg hbne]; exact this
          | nil sz => simp [D.hd] at hhd'
          | int _ _ => simp [D.hd] at hhd'
          | bool _ => simp [D.hd] at hhd'
          | str _ => simp [D.hd] at hhd'
      have hok := h.ok
      have hout := h.out v hv
      have hsz := h.sz
      have hlen' : (o.putSec v s rs).rows.length = o.rows.length := pl
      have hrl' : ∀ r, r ∈ (o.putSec v s rs).rows → ∃ v', v' < o.len ∧ r = [(o.putSec v s rs).cell v' 0] := fun r hr => by
        obtain ⟨i, hi', rfl⟩ := List.getElem_of_mem hr
        have hi2 : i < o.len := by rw [hlen'] at hi'; exact hi'
        have := (vol_row (put_is h hv hrs hs) (v := i) (by rw [pl]; exact hi2)).1
        rw [List.getElem?_eq_getElem hi'] at this
        exact ⟨i, hi2, Option.some.inj this⟩
      have hvals : ∀ i, i < o.len → ((o.putSec v s rs).cell i 0).val = (o.cell i 0).val := fun i hi' => by
        rw [pc hi']
        split
        · rename_i e; subst e
          obtain ⟨a, b, cc, e', _⟩ := hsec
          rw [hrows']
          rw [e'] at hnl ⊢
          simp only [D.val, D.hd, D.rows] at hnl ⊢
          rw [hnl]
        · rfl
      have hput : o.putSec v s rs = .slc o.hd 1 (o.putSec v s rs).rows := rfl
      rw [hput]
      have hc1 : ∀ i, i < o.len → o.rows[i]? = some [o.cell i 0] := fun i hi' => (vol_row h.is hi').1
      have hc2 : ∀ i, i < o.len → (o.putSec v s rs).rows[i]? = some [(o.putSec v s rs).cell i 0] := fun i hi' => (vol_row (put_is h hv hrs hs) (by rw [pl]; exact hi')).1
      generalize (o.putSec v s rs).rows = R at hlen' hrl' hc2
      generalize hcell' : (fun i => (o.putSec v s rs).cell i 0) = cf at *
      have cfe : ∀ i, (o.putSec v s rs).cell i 0 = cf i := fun i => congrFun hcell' i
      simp only [cfe] at hrl' hvals hc2 key
      clear cfe hcell' pc pb hput
      cases hok with
      | slc a c' sz rows hsp hc hlen hcell hk =>
        simp only [D.sz] at hsz
        subst hsz
        simp only [D.hd]
        refine .slc _ _ _ _ (fun _ => hsp (fun e => by rw [e] at hv; simp [D.len, D.rows] at hv)) (by rw [hlen']; exact hc) (fun r hr => by obtain ⟨v', _, rfl⟩ := hrl' r hr; rfl) (fun i j r x h1 h2 => ?_) (fun r hr x hx => ?_)
        · have hi' : i < R.length := (List.getElem?_eq_some_iff.1 h1).1
          have hi2 : i < rows.length := by rw [hlen'] at hi'; exact hi'
          have e1 := hc2 i hi2
          rw [h1] at e1
          cases e1
          have hj : j = 0 := by
            have := (List.getElem?_eq_some_iff.1 h2).1
            simp at this; exact this
          subst hj
          simp only [List.getElem?_cons_zero, Option.some.injEq] at h2
          subst h2
          have e2 := hcell i 0 _ _ (hc1 i hi2) rfl
          have e3 := hvals i hi2
          rw [e3]
          simp only [HV.row]
          rw [if_neg (show ¬a.block = _ from hout)]; exact e2
        · obtain ⟨v', hv', rfl⟩ := hrl' r hr
          rw [List.mem_singleton.1 hx]
          exact key v' hv'
      | nil sz => simp [D.len, D.rows] at hv
      | int _ _ => obtain ⟨_, _, _, e, _⟩ := h.is; cases e
      | bool _ => obtain ⟨_, _, _, e, _⟩ := h.is; cases e
      | str _ => obtain ⟨_, _, _, e, _⟩ := h.is; cases e
    · rw [pl] at hv'
      rw [pc hv']
      split
      · rw [hrows']; exact hrowne
      · exact h.ne v' hv'
    · rw [pl] at hv'
      rw [pb hv', pc hv']
      split
      · rename_i e; subst e; exact ⟨c, hhd⟩
      · exact h.hd v' hv'
    · rw [pl] at hv'; rw [pb hv']; exact h.low v' hv'
    · rw [pl] at h1 h2; rw [pb h1, pb h2] at e; exact h.dis v1 v2 h1 h2 e
    · rw [pl] at hv'; rw [pb hv']; exact h.out v' hv'
    · rw [pl] at hv'; rw [pb hv']
      by_cases e : blk o v' = blk o v
      · rw [e]; exact ⟨_, _, hnew⟩
      · rw [hoth _ e]; exact h.live v' hv'
  · intro H0 hle hn b x u hb
    unfold HV.row
    split
    · rename_i e; subst e; rw [hn] at hb; cases hb
    · exact hle b x u hb
  · intro b x u hb
    unfold HV.row at hb
    split at hb
    · rename_i e; exact .inr e
    · exact .inl hb
end
theorem ImgW.mono {n : Nat} {H H' : HV} {w w' : World} {o : D} (h : ImgW n H w o) (a : After w H w' H') : ImgW n H' w' o :=
  ⟨h.is, h.sz, h.ok.mono a.le, h.ne, h.hd, h.low, h.dis, h.out, fun v hv => by
    obtain ⟨cur, t, hg⟩ := h.live v hv
    exact ⟨cur, t, by rw [a.below.block _ (Array.getElem?_eq_some_iff.1 hg).1]; exact hg⟩⟩
/-! A frame's slots, from this very world on. -/
def envJ (E : Env) (T : Array Value) : Env := ⟨E.b, E.v, fun i => T.getD i Go.undef⟩
theorem slotS_cases (l : List (Nat × SV)) (t : Nat) (d : SV) : slotS l t d = d ∨ ∃ p, p ∈ l ∧ p.1 = t ∧ slotS l t d = p.2 := by
  induction l with
  | nil => exact .inl rfl
  | cons p r ih =>
    obtain ⟨u, v⟩ := p
    unfold slotS
    by_cases h : u = t
    · subst h; right; exact ⟨(u, v), List.mem_cons_self, rfl, by simp⟩
    · have hb : (u == t) = false := by simpa using h
      rw [hb]
      simp only [Bool.false_eq_true, if_false]
      rcases ih with h | ⟨p, h1, h2, h3⟩
      · exact .inl h
      · exact .inr ⟨p, List.mem_cons_of_mem _ h1, h2, h3⟩
theorem den_mkJ {E : Env} {T : Array Value} {sl : List (Nat × SV)} (hs : ∀ p, p ∈ sl → p.2.den (envJ E T) = T.getD p.1 Go.undef) : ∀ (m t : Nat), t + m = T.size → SV.denL (envJ E T) (mkJ 0 sl t m) = T.toList.drop t
  | 0, t, h => by
    simp only [mkJ, SV.denL]
    rw [List.drop_eq_nil_of_le (by rw [Array.length_toList]; omega)]
  | m + 1, t, h => by
    have ht : t < T.toList.length := by rw [Array.length_toList]; omega
    have e : (slotS sl t (.junk (1000 * 0 + t))).den (envJ E T) = T.toList[t] := by
      have e2 : T.getD t Go.undef = T.toList[t] := by
        have : t < T.size := by omega
        simp [this]
      rcases slotS_cases sl t (.junk (1000 * 0 + t)) with h1 | ⟨p, h1, h2, h3⟩
      · rw [h1, ← e2]; simp [SV.den, envJ]
      · rw [h3, hs p h1, h2, e2]
    simp only [mkJ, SV.denL]
    rw [den_mkJ hs m (t + 1) (by omega), e, ← List.drop_eq_getElem_cons ht]
theorem ok_mkJ {H : HV} {sl : List (Nat × SV)} (hs : ∀ p, p ∈ sl → p.2.Ok H) (m t : Nat) : SV.OkL H (mkJ 0 sl t m) := by
  rw [SV.OkL_iff]
  intro x hx
  have : ∀ (m t : Nat), x ∈ mkJ 0 sl t m → ∃ t, x = slotS sl t (.junk (1000 * 0 + t)) := by
    intro m
    induction m with
    | zero => intro t h; simp [mkJ] at h
    | succ m ih =>
      intro t h
      simp only [mkJ, List.mem_cons] at h
      rcases h with h | h
      · exact ⟨t, h⟩
      · exact ih _ h
  obtain ⟨t, rfl⟩ := this m t hx
  rcases slotS_cases sl t (.junk (1000 * 0 + t)) with h1 | ⟨p, h1, _, h3⟩
  · rw [h1]; simp [SV.Ok]
  · rw [h3]; exact hs p h1
theorem stk_to {P : Program} {f : FuncId} {ri : Option (Array Oper × List Nat)} {aw : Option Tmp} {k : List Item} {T : Array Value} {sl : List (Nat × SV)} {n : Nat} {E : Env} {H : HV} {w : World} {R : Value → World → Prop} (hn : n = T.size)
    (hs : ∀ p, p ∈ sl → p.2.den (envJ E T) = T.getD p.1 Go.undef) (hok : ∀ p, p ∈ sl → p.2.Ok H) (hin : InMem H w) (h : At P ⟨⟨f, ri, aw, k, mkJ 0 sl 0 n⟩, [], []⟩ H w R) : StkRun P ctxPlain ⟨f, ri, aw, k, ⟨T, []⟩, none⟩ [] w R := by
  have := h (envJ E T) ⟨ok_mkJ hok _ _, by simp⟩ hin
  simp only [SFrm.den, List.map_nil] at this
  rw [den_mkJ hs n 0 (by omega), List.drop_zero, Array.toArray_toList] at this
  exact this
end Sx
end
section
namespace Sx
open Go RowKit
def innerOk (n : Nat) (H : HV) (w : World) (d : D) : Prop :=
  d.Is Sec ∧ d.Ok H ∧ d.rows ≠ [] ∧ ∃ B c, d.hd = some (⟨B, 0, none⟩, c) ∧ n ≤ B ∧ ∃ cur t, w.heap[B]? = some (.cells cur t (0, 0))
def blkD (d : D) : Nat := d.addr.block
structure BuildI (n : Nat) (H : HV) (w : World) (e : TypeId) (ov : Value) (ds : List D) : Prop where
  own : w.ownsRow n e 1 ov ds.length (flat (ds.map fun d => [d]))
  noH : ∀ b, ov.ownBlock = some b → ∀ x, H b x = none
  inn : ∀ d, d ∈ ds → innerOk n H w d
  dis : (ds.map blkD).Nodup
theorem blkD_of {d : D} {B c : Nat} (h : d.hd = some (⟨B, 0, none⟩, c)) : blkD d = B := by unfold blkD D.addr; rw [h]
theorem innerOk.mono {n : Nat} {H H' : HV} {w w' : World} {d : D} (h : innerOk n H w d) (a : After w H w' H') : innerOk n H' w' d := by
  obtain ⟨h1, h2, h3, B, c, h4, h5, cur, t, h6⟩ := h
  exact ⟨h1, h2.mono a.le, h3, B, c, h4, h5, cur, t, by rw [a.below.block _ (Array.getElem?_eq_some_iff.1 h6).1]; exact h6⟩
theorem innerOk.cell {n : Nat} {H : HV} {w : World} {d : D} (h : innerOk n H w d) : ∃ u, H (blkD d) 0 = some u := by
  obtain ⟨h1, h2, h3, B, c, h4, _⟩ := h
  rw [blkD_of h4]
  have hr := (rows_of h1).1
  cases h2 with
  | slc a c' sz rows hsp hc hlen hcell hk =>
    simp only [D.hd, Option.some.injEq, Prod.mk.injEq] at h4
    obtain ⟨rfl, rfl⟩ := h4
    cases rows with
    | nil => exact absurd rfl h3
    | cons r rs =>
      have := hr r (by simp [D.rows])
      obtain ⟨x0, x1, x2, x3, x4, x5, x6, x7, rfl⟩ := this
      exact ⟨_, by simpa using hcell 0 0 _ _ rfl rfl⟩
  | nil sz => simp [D.hd] at h4
  | int _ _ => simp [D.hd] at h4
  | bool _ => simp [D.hd] at h4
  | str _ => simp [D.hd] at h4
theorem BuildI.mono {n : Nat} {H H' : HV} {w w' : World} {e : TypeId} {ov : Value} {ds : List D} (h : BuildI n H w e ov ds) (a : After w H w' H') : BuildI n H' w' e ov ds := by
  refine ⟨⟨h.own.1, ?_⟩, fun b hb x => ?_, fun d hd => (h.inn d hd).mono a, h.dis⟩
  · rcases h.own.2 with h1 | ⟨g, cap, cur, h1, h2, h3, h4⟩
    · exact .inl h1
    · exact .inr ⟨g, cap, cur, h1, h2, by rw [a.below.block _ (Array.getElem?_eq_some_iff.1 h3).1]; exact h3, h4⟩
  · have hlt : b < w.heap.size := by
      rcases h.own.2 with ⟨h1, _⟩ | ⟨g, cap, cur, h1, h2, h3, h4⟩
      · rw [h1] at hb; simp [Value.ownBlock] at hb
      · rw [h1] at hb
        simp only [Value.ownBlock, Option.some.injEq] at hb
        subst hb
        exact (Array.getElem?_eq_some_iff.1 h3).1
    cases hx : H' b x with
    | none => rfl
    | some u =>
      rcases a.fresh b x u hx with h1 | h1
      · rw [h.noH b hb x] at h1; cases h1
      · omega
theorem pub_inner {w w1 : World} {H H1 : HV} {m : Mem} {E : Env} {k : Nat} {e : TypeId} {d : D} (g : Good ⟨w, H⟩ m E H1 w1) (hg : m.get k = some (.arr e d)) (hs : d.Is Sec) (hne : d.rows ≠ []) :
    ∃ H2, After w H w1 H2 ∧ HLe H1 H2 ∧ innerOk w.heap.size H2 w1 d ∧ (SV.vec k).den E = d.val := by
  obtain ⟨H2, hle, g2, hok, _⟩ := g.publish hg
  obtain ⟨h, sz, rows, rfl, hv, how, _, _, ha⟩ := g.own k _ (Mem.get_mem hg)
  refine ⟨H2, after_good g2, hle, ⟨hs, hok, hne, ?_⟩, ?_⟩
  · rcases how.2 with ⟨h1, h0⟩ | ⟨gg, cap, cur, h1, h2, h3, _⟩
    · exact absurd (List.length_eq_zero_iff.1 h0) hne
    · cases h with
      | none => simp [D.val, hval] at h1
      | some ac =>
        obtain ⟨a, c⟩ := ac
        simp only [D.val, hval, Value.slice.injEq, Option.some.injEq] at h1
        obtain ⟨rfl, _, rfl⟩ := h1
        exact ⟨gg, c, rfl, h2, cur, _, h3⟩
  · simp only [SV.den, hv]; rfl
theorem build_append {P : Program} {w0 w w1 : World} {H0 H H1 : HV} {m : Mem} {E : Env} {k : Nat} {t ty e : TypeId} {i : TypeInfo} {z ov : Value} {ds : List D} {d : D} {hh : Hd}
    (ht : P.underlying t = some (.slice e)) (hi : P.info? e = some i) (hz : i.zero = some z) (hzs : z.cells.size = i.size) (his : i.size = 1) (hib : i.bytes ≤ 1000)
    (a : After w0 H0 w H) (b : BuildI w0.heap.size H w e ov ds) (hd : innerOk w0.heap.size H w d) (hnew : blkD d ∉ ds.map blkD) (g : Good ⟨w, H⟩ m E H1 w1) (hg : m.get k = some (.arr e (.slc hh 1 [[d]]))) (hlen : ds.length ≤ 1048576) {key : Nat} (hkey : Mem.has key m = false) :
    ∃ w2 ov', (Builtin.append_ #[t, t] ty #[ov, (SV.vec k).den E]).run P w1 = .ok ov' w2 ∧ After w0 H0 w2 H1 ∧ BuildI w0.heap.size H1 w2 e ov' (ds ++ [d]) := by
  have a1 := after_good g
  have b1 := b.mono a1
  have hd1 := hd.mono a1
  have a01 := a.trans a1
  have hmem := Mem.get_mem hg
  obtain ⟨h', sz', rows', he, hv, how, hrl, hro, hb⟩ := g.own k _ hmem
  cases he
  have gd : Good ⟨w0, H1⟩ m E H1 w1 := ⟨a01.below, HLe.refl _, fun _ _ _ h => .inl h, g.cell, fun j o hj => (g.own j o hj).ctx a.below.size, g.keys, g.apart, fixOk_plain _ _ _⟩
  have hxr : Reads w1 ((SV.vec k).den E) i.size [[d]] := by
    rw [his]
    have := reads_own (C := ⟨w, H⟩) (H := H1) (g.own k _ hmem)
    simp only [SV.den]
    exact this
  have hold : ∀ r, r ∈ ds.map (fun d => [d]) → r.length = i.size := fun r hr => by obtain ⟨x, _, rfl⟩ := List.mem_map.1 hr; rw [his]; rfl
  obtain ⟨w2, h2, bb, hrun, g2, hsz, hkeep, hbb, hos⟩ := Good.append t ty e i z ht hi hz hzs gd ov (ds.map fun d => [d]) (by rw [his, List.length_map]; exact b1.own) hold
    (fun r hr x hx => by
      obtain ⟨y, hy, rfl⟩ := List.mem_map.1 hr
      rw [List.mem_singleton.1 hx]; exact (b1.inn y hy).2.1)
    (fun q hq => ⟨b1.noH q hq, fun j p hj hl => by
      have h1 := (g.own j p hj).low hl
      have hlt : q < w.heap.size := by
        rcases b.own.2 with ⟨h1, _⟩ | ⟨g', cap, cur, h1, _, h3, _⟩
        · rw [h1] at hq; simp [Value.ownBlock] at hq
        · rw [h1] at hq
          simp only [Value.ownBlock, Option.some.injEq] at hq
          subst hq
          exact (Array.getElem?_eq_some_iff.1 h3).1
      have h1 : w.heap.size ≤ E.b j := h1
      omega⟩)
    ((SV.vec k).den E) [[d]] hxr (fun r hr x hx => by
      rw [List.mem_singleton.1 hr] at hx
      rw [List.mem_singleton.1 hx]; exact hd1.2.1)
    (by
      have : (ds.length + 1) * i.bytes ≤ 1048577 * 1000 := Nat.mul_le_mul (by omega) hib
      rw [List.length_map]
      show (ds.length + 1) * i.bytes ≤ _
      omega)
    (by rw [List.length_map]; show ds.length + 1 ≤ maxLen; unfold maxLen; omega) key hkey
  have hcell2 : ∀ q x u, H1 q x = some u → w2.cell? ⟨q, x, none⟩ = some u := g2.cell
  have o2 := g2.own key _ List.mem_cons_self
  obtain ⟨hx, szx, rowsx, he2, hv2, how2, _, _, ha2⟩ := o2
  cases he2
  have hap : ds.map (fun d => [d]) ++ [[d]] = (ds ++ [d]).map fun d => [d] := by simp
  refine ⟨w2, _, hrun, ⟨g2.below, a01.le, a01.fresh, hcell2⟩, ⟨?_, fun q hq x => ?_, fun y hy => ?_, ?_⟩⟩
  · rw [hap] at how2
    rw [his] at how2
    have e1 : (D.slc h2 1 ((ds ++ [d]).map fun d => [d])).val = hval h2 ((ds.map fun d => [d]).length + [[d]].length) := by
      simp [D.val]
    rw [e1] at how2
    simpa using how2
  · cases h2 with
    | none => simp [hval, Value.ownBlock] at hq
    | some ac =>
      obtain ⟨a', c'⟩ := ac
      simp only [hval, Value.ownBlock, Option.some.injEq] at hq
      obtain ⟨e1, e2⟩ := ha2 a' c' rfl
      rw [← hq, e1]; exact e2 x
  · have hy1 : innerOk w0.heap.size H1 w1 y := by
      rcases List.mem_append.1 hy with h | h
      · exact b1.inn y h
      · rw [List.mem_singleton.1 h]; exact hd1
    obtain ⟨u, hu⟩ := hy1.cell
    obtain ⟨q1, q2, q3, B, c, q4, q5, cur, tt, q6⟩ := hy1
    refine ⟨q1, q2, q3, B, c, q4, q5, cur, tt, ?_⟩
    rw [hkeep B (Array.getElem?_eq_some_iff.1 q6).1 (fun e' => by
      have := b1.noH B e' 0
      rw [blkD_of q4] at hu
      rw [hu] at this; cases this)]
    exact q6
  · rw [List.map_append, List.nodup_append]
    refine ⟨b1.dis, by simp, fun x hx y hy => ?_⟩
    simp only [List.map_cons, List.map_nil, List.mem_singleton] at hy
    subst hy
    intro e'; subst e'; exact hnew hx
theorem nodup_inj : ∀ {l : List Nat}, l.Nodup → ∀ {i j : Nat} (hi : i < l.length) (hj : j < l.length), l[i] = l[j] → i = j
  | [], _, _, _, hi, _, _ => absurd hi (Nat.not_lt_zero _)
  | x :: r, h, i, j, hi, hj, e => by
    rw [List.nodup_cons] at h
    cases i with
    | zero =>
      cases j with
      | zero => rfl
      | succ j =>
        simp only [List.getElem_cons_zero, List.getElem_cons_succ] at e
        exact absurd (e ▸ List.getElem_mem _) h.1
    | succ i =>
      cases j with
      | zero =>
        simp only [List.getElem_cons_zero, List.getElem_cons_succ] at e
        exact absurd (e ▸ List.getElem_mem _) h.1
      | succ j =>
        simp only [List.getElem_cons_succ] at e
        rw [nodup_inj h.2 _ _ e]
theorem build_done {n : Nat} {H : HV} {w : World} {e : TypeId} {ov : Value} {ds : List D} (b : BuildI n H w e ov ds) (hne : ds ≠ []) (hin : InMem H w) :
    ∃ H' o, HLe H H' ∧ InMem H' w ∧ (∀ q x u, H' q x = some u → H q x = some u ∨ n ≤ q) ∧ ImgW n H' w o ∧ o.val = ov ∧ o.rows = ds.map fun d => [d] := by
  rcases b.own.2 with ⟨_, h0⟩ | ⟨g, cap, cur, rfl, hlow, hg, hnc, hcm, hcs, htake⟩
  · exact absurd (List.length_eq_zero_iff.1 h0) hne
  · have hno : ∀ x, H g x = none := b.noH g rfl
    have hle : HLe H (H.row g (flat (ds.map fun d => [d]))) := HV.row_le hno
    let o : D := .slc (some (⟨g, 0, none⟩, cap)) 1 (ds.map fun d => [d])
    have hcell : ∀ v, (hv : v < ds.length) → o.cell v 0 = ds[v] := fun v hv => by
      simp [o, D.cell, D.cellAt, D.rows, hv]
    have hlen : o.len = ds.length := by simp [o, D.len, D.rows]
    have hbk : ∀ v, (hv : v < ds.length) → blk o v = blkD ds[v] := fun v hv => by unfold blk; rw [hcell v hv]; rfl
    refine ⟨H.row g (flat (ds.map fun d => [d])), o, hle, fun q x u hq => ?_, fun q x u hq => ?_, ⟨?_, rfl, ?_, fun v hv => ?_, fun v hv => ?_, fun v hv => ?_, fun v v' h1 h2 e' => ?_, fun v hv => ?_, fun v hv => ?_⟩, by simp [o, D.val, hval], rfl⟩
    · unfold HV.row at hq
      split at hq
      · rename_i e'; subst e'
        simp only [World.cell?, hg, Option.isSome_none, Bool.false_eq_true, if_false]
        rw [← htake, List.getElem?_take] at hq
        split at hq
        · simpa using hq
        · cases hq
      · exact hin q x u hq
    · unfold HV.row at hq
      split at hq
      · rename_i e'; subst e'; exact .inr hlow
      · exact .inl hq
    · refine is_rows rfl fun r hr => ?_
      obtain ⟨d, hd, rfl⟩ := List.mem_map.1 hr
      exact ⟨d, rfl, (b.inn d hd).1⟩
    · refine .slc _ _ _ _ (fun _ => rfl) (by simpa using hnc) (fun r hr => by obtain ⟨d, _, rfl⟩ := List.mem_map.1 hr; rfl) (fun i j r x h1 h2 => ?_) (fun r hr x hx => ?_)
      · simp only [HV.row, if_true, Nat.zero_add]
        exact flat_get (sz := 1) (fun r hr => by obtain ⟨d, _, rfl⟩ := List.mem_map.1 hr; rfl) i j r x h1 h2
      · obtain ⟨d, hd, rfl⟩ := List.mem_map.1 hr
        rw [List.mem_singleton.1 hx]; exact (b.inn d hd).2.1.mono hle
    all_goals rw [hlen] at *
    · rw [hcell v hv]; exact (b.inn _ (List.getElem_mem hv)).2.2.1
    · rw [hbk v hv, hcell v hv]
      obtain ⟨_, _, _, B, c, h4, _⟩ := b.inn _ (List.getElem_mem hv)
      exact ⟨c, by rw [blkD_of h4]; exact h4⟩
    · rw [hbk v hv]
      obtain ⟨_, _, _, B, c, h4, h5, _⟩ := b.inn _ (List.getElem_mem hv)
      rw [blkD_of h4]; exact h5
    · rw [hbk v h1, hbk v' h2] at e'
      have hn := b.dis
      have l1 : v < (ds.map blkD).length := by rw [List.length_map]; exact h1
      have l2 : v' < (ds.map blkD).length := by rw [List.length_map]; exact h2
      have g1 : (ds.map blkD)[v] = blkD ds[v] := List.getElem_map ..
      have g2 : (ds.map blkD)[v'] = blkD ds[v'] := List.getElem_map ..
      exact nodup_inj hn l1 l2 (by rw [g1, g2, e'])
    · rw [hbk v hv]
      obtain ⟨u, hu⟩ := (b.inn _ (List.getElem_mem hv)).cell
      show g ≠ _
      intro e'
      rw [← e', hno] at hu; cases hu
    · rw [hbk v hv]
      obtain ⟨_, _, _, B, c, h4, h5, cur', t', h6⟩ := b.inn _ (List.getElem_mem hv)
      rw [blkD_of h4]; exact ⟨cur', t', h6⟩
theorem innerOk.low {n n' : Nat} {H : HV} {w : World} {d : D} (h : innerOk n H w d) (hn : n' ≤ n) : innerOk n' H w d := by
  obtain ⟨h1, h2, h3, B, c, h4, h5, h6⟩ := h
  exact ⟨h1, h2, h3, B, c, h4, Nat.le_trans hn h5, h6⟩
theorem innerOk.fresh {n : Nat} {H H' : HV} {w w' : World} {e : TypeId} {ov : Value} {ds : List D} {d : D} (h : innerOk w.heap.size H' w' d) (b : BuildI n H w e ov ds) : blkD d ∉ ds.map blkD := by
  intro hm
  obtain ⟨y, hy, hyd⟩ := List.mem_map.1 hm
  obtain ⟨_, _, _, B, c, h4, h5, _⟩ := h
  obtain ⟨_, _, _, B', c', h4', _, cur, t, h6'⟩ := b.inn y hy
  have := (Array.getElem?_eq_some_iff.1 h6').1
  rw [blkD_of h4, blkD_of h4'] at hyd
  omega
def CpR (w0 : World) (H0 : HV) (vs : List Vol) : Value → World → Prop := fun u w' => ∃ H' o, After w0 H0 w' H' ∧ ImgW w0.heap.size H' w' o ∧ u = o.val ∧ o.to Vol = vs
theorem ret_img {P : Program} {w0 w : World} {H0 H : HV} {e : TypeId} {ov : Value} {ds : List D} {vs : List Vol} (a : After w0 H0 w H) (b : BuildI w0.heap.size H w e ov ds) (hne : ds ≠ []) (hto : ds.map (fun d => Vol.mk (d.to Sec)) = vs) :
    (Tree.ret (.raw ov)).holds P ⟨w, H⟩ (CpR w0 H0 vs) := by
  refine ⟨rfl, fun E H' w' g hv => ?_⟩
  have a1 := a.trans (after_good g)
  obtain ⟨H2, o, hle, hin, hfr, hI, hv, hr⟩ := build_done (b.mono (after_good g)) hne g.cell
  refine ⟨H2, o, ⟨a1.below, a1.le.trans hle, fun q x u hq => ?_, hin⟩, hI, hv.symm, ?_⟩
  · rcases hfr q x u hq with h | h
    · exact a1.fresh q x u h
    · exact .inr h
  · simp only [D.to, hr, List.map_map]
    rw [← hto]; rfl
theorem buildI_own {w w1 : World} {H H1 : HV} {m : Mem} {E : Env} {k : Nat} {e : TypeId} {hh : Hd} (g : Good ⟨w, H⟩ m E H1 w1) (hg : m.get k = some (.arr e (.slc hh 1 []))) : BuildI w.heap.size H1 w1 e ((SV.vec k).den E) [] := by
  obtain ⟨h, sz, rows, he, hv, how, _, _, ha⟩ := g.own k _ (Mem.get_mem hg)
  cases he
  refine ⟨?_, fun b hb x => ?_, fun d hd => by simp at hd, by simp⟩
  · simp only [SV.den, hv]
    exact how
  · simp only [SV.den, hv] at hb
    cases hh with
    | none => simp [hval, Value.ownBlock] at hb
    | some ac =>
      obtain ⟨a, c⟩ := ac
      simp only [hval, Value.ownBlock, Option.some.injEq] at hb
      obtain ⟨e1, e2⟩ := ha a c rfl
      rw [← hb, e1]; exact e2 x
theorem stk_call {P : Program} {f : FuncId} {ri : Option (Array Oper × List Nat)} {aw : Option Tmp} {k : List Item} {T : Array Value} {sl : List (Nat × SV)} {n : Nat} {E : Env} {H : HV} {w : World} {R1 R : Value → World → Prop} {g : CFrm} {r : List CFrm} (hn : n = T.size)
    (hs : ∀ p, p ∈ sl → p.2.den (envJ E T) = T.getD p.1 Go.undef) (hok : ∀ p, p ∈ sl → p.2.Ok H) (hin : InMem H w) (h : At P ⟨⟨f, ri, aw, k, mkJ 0 sl 0 n⟩, [], []⟩ H w R1)
    (h2 : ∀ u w', R1 u w' → StkRun P ctxPlain { g with act := g.act.put g.await u } r w' R) : StkRun P ctxPlain ⟨f, ri, aw, k, ⟨T, []⟩, none⟩ (g :: r) w R := by
  have hr := stk_to hn hs hok hin h
  exact CFrm.run_mono hr h2
theorem stk_aw {P : Program} {f : FuncId} {ri : Option (Array Oper × List Nat)} {aw aw' : Option Tmp} {k : List Item} {a : Act} {r : List CFrm} {w : World} {R : Value → World → Prop} (h : StkRun P ctxPlain ⟨f, ri, aw, k, a, none⟩ r w R) : StkRun P ctxPlain ⟨f, ri, aw', k, a, none⟩ r w R := by
  cases r <;> exact h
end Sx
end
section
open Go Go.Proofs Sx
namespace Go.Proofs.Ytdiekahpofifeaa
set_option maxRecDepth 100000
set_option maxHeartbeats 0
noncomputable def ctAp : Ctrs := [(76, ctrOf (rdD.one.sp spChkI)), (78, ctrOf ((rdD.two rdWt).sp spFits1))]
section
variable (im l : D)

end
end Go.Proofs.Ytdiekahpofifeaa
end
section
open Go Go.Proofs Sx
namespace Go.Proofs.Ytdiekahpofifeaa
set_option maxRecDepth 100000
set_option maxHeartbeats 0
noncomputable def mcL (d : D) (o : SV) (j : Int) : Conf := Conf.mk (SFrm.mk 86 none none [Item.inLoop (cAt Try.prog 86 [1, 1, 0, 1, 0, 0]), Item.inBlock 0, Item.code (cAt Try.prog 86 [1, 1, 1])] (mkJ 0 [(1, .fn 67 [] []), (5, o), (11, .dat d), (12, .int .i64 (d.len : Int)), (13, .int .i64 j)] 0 25)) [] []
section
variable (im : D) (j : Int) (o : Value)
theorem mc_in : goM Try.prog [] [] [(86, MidK.build)] 300 (unroll (mcL im (.raw o) j)) =
 Tree.br (decide (j < (↑(D.len im) : Int)))
 (.need (0 ≤ j ∧ j < (↑(D.len im) : Int) ∧ D.sz im = 1)
 (.need (D.HasCell im (Int.toNat j) 0 FT.slc)
 (.br
 (nilOf
 (evS
 (putS
 [.dat (D.cell im (Int.toNat j) 0), SV.undef, .nils, SV.undef, SV.undef, SV.undef, SV.undef, SV.undef]
 (some 3)
 (evS
 [.dat (D.cell im (Int.toNat j) 0), SV.undef, .nils, SV.undef, SV.undef, SV.undef, SV.undef,
 SV.undef]
 (Operand.tmp 0)))
 (Operand.tmp 3))
 (D.cell im (Int.toNat j) 0))
 (.leaf
 (Conf.mk
 (SFrm.mk 86 (some (opsAt Try.prog 86 [1, 1, 0, 1, 0, 0, 1, 1, 0, 0, 1], [4, 5, 6])) none
 [Item.inBlock 1, Item.code (cAt Try.prog 86 [1, 1, 0, 1, 0, 0, 1, 1, 1]),
 Item.inLoop (cAt Try.prog 86 [1, 1, 0, 1, 0, 0]), Item.inBlock 0, Item.code (cAt Try.prog 86 [1, 1, 1])]
 (mkJ 0
 [(1, SV.fn 67 [] []), (5, SV.raw o), (7, .dat (D.cell im (Int.toNat j) 0)), (11, .dat im),
 (12, .int .i64 (↑(D.len im) : Int)), (13, .int .i64 j),
 (14, .bool (decide (j < (↑(D.len im) : Int)))), (15, SV.elt im (Int.toNat j) 0),
 (16, .dat (D.cell im (Int.toNat j) 0)), (17, SV.raw o), (18, SV.fn 67 [] []),
 (19, .dat (D.cell im (Int.toNat j) 0)), (20, .nils)]
 0 25))
 [] []))
 (.all fun hs =>
 .need
 (D.sz (D.slc (D.hd (hs 0 0)) 8 []) = 8 ∧
 D.Fits (D.cell im (Int.toNat j) 0) 8 ∧
 (D.len (D.slc (D.hd (hs 0 0)) 8 []) + D.len (D.cell im (Int.toNat j) 0)) * 8 ≤ 140737488355328 ∧
 D.len (D.slc (D.hd (hs 0 0)) 8 []) + D.len (D.cell im (Int.toNat j) 0) ≤ 9223372036854775807)
 (.all fun hs_1 =>
 .leaf
 (Conf.mk
 (SFrm.mk 86 (some (opsAt Try.prog 86 [1, 1, 0, 1, 0, 0, 1, 1, 0, 0, 1], [4, 5, 6])) none
 [Item.inBlock 1, Item.code (cAt Try.prog 86 [1, 1, 0, 1, 0, 0, 1, 1, 1]),
 Item.inLoop (cAt Try.prog 86 [1, 1, 0, 1, 0, 0]), Item.inBlock 0,
 Item.code (cAt Try.prog 86 [1, 1, 1])]
 (mkJ 0
 [(1, SV.fn 67 [] []), (5, SV.raw o), (7, .dat (D.cell im (Int.toNat j) 0)), (11, .dat im),
 (12, .int .i64 (↑(D.len im) : Int)), (13, .int .i64 j),
 (14, .bool (decide (j < (↑(D.len im) : Int)))), (15, SV.elt im (Int.toNat j) 0),
 (16, .dat (D.cell im (Int.toNat j) 0)), (17, SV.raw o), (18, SV.fn 67 [] []),
 (19, .dat (D.cell im (Int.toNat j) 0)), (20, .vec 2007)]
 0 25))
 []
 [(2007,
 OBlk.arr 105
 (D.slc (D.hd (hs_1 0 0)) 8
 (List.append (D.rows (D.slc (D.hd (hs 0 0)) 8 []))
 (D.rows (D.cell im (Int.toNat j) 0)))))]))))))
 (.ret (SV.raw o)) := by kernel_rfl



end
end Go.Proofs.Ytdiekahpofifeaa
end
section
open Go Go.Proofs Sx
namespace Go.Proofs.Ytdiekahpofifeaa
set_option maxRecDepth 100000
set_option maxHeartbeats 0
noncomputable def apL (o l : D) (j : Int) : Conf := Conf.mk (SFrm.mk 59 none none [Item.inLoop (cAt Try.prog 59 [1, 1, 1, 0, 1, 0, 0]), Item.inBlock 0, Item.code (cAt Try.prog 59 [1, 1, 1, 1])] (mkJ 0 [(8, .dat o), (19, .dat l), (20, .int .i64 (l.len : Int)), (21, .int .i64 j)] 0 46)) [] []
section
variable (o l im : D) (j : Int)
theorem apl_go : 
 let z1 := (WtD.mk (D.getInt l (Int.toNat j) 0) (D.getInt l (Int.toNat j) 1) (D.cell l (Int.toNat j) 2))
 let z2 : List SV := [.int .i64 (D.getInt l (Int.toNat j) 0), .int .i64 (D.getInt l (Int.toNat j) 1), .dat (D.cell l (Int.toNat j) 2)]
 let z3 := (D.len (D.cell o (Int.toNat (D.getInt l (Int.toNat j) 0)) 0))
 goM Try.prog ctAp [] [(59, MidK.copy)] 300 (unroll (apL o l j)) =
 Tree.br (decide (j < (↑(D.len l) : Int))) (.need (0 ≤ j ∧ j < (↑(D.len l) : Int) ∧ D.sz l = 3) (.need (D.HasCells l (Int.toNat j) 0 [FT.int .i64, FT.int .i64, FT.slc]) (.need (ImgOk o ∧ WtD.Ok z1) (.br
 (fitsErr (volSizes (D.to Vol o)) (WtD.wt z1) != 0) (.ret (SV.tup [.nils, .int .i64 j, .int .i64 (fitsErr (volSizes (D.to Vol o)) (WtD.wt z1))])) (.all fun hs => .need (0 ≤ D.getInt l (Int.toNat j) 0 ∧ D.getInt l
 (Int.toNat j) 0 < (↑(D.len o) : Int) ∧ D.sz o = 1) (.need (D.HasCell o (Int.toNat (D.getInt l (Int.toNat j) 0)) 0 FT.slc) (.need (0 ≤ D.getInt l (Int.toNat j) 1 ∧ D.getInt l (Int.toNat j) 1 ≤ (↑z3 : Int) ∧
 (↑z3 : Int) ≤ (↑z3 : Int) ∧ D.Fits (D.cell o (Int.toNat (D.getInt l (Int.toNat j) 0)) 0) 8) (.leaf (Conf.mk (SFrm.mk 59 (some (opsAt Try.prog 59 [1, 1, 1, 0, 1, 0, 0, 1, 1, 0, 0, 1, 1], [10])) none [Item.inBlock 1, Item.code
 (cAt Try.prog 59 [1, 1, 1, 0, 1, 0, 0, 1, 1, 1]), Item.inLoop (cAt Try.prog 59 [1, 1, 1, 0, 1, 0, 0]), Item.inBlock 0, Item.code (cAt Try.prog 59 [1, 1, 1, 1])] (mkJ 0 [(8, .dat o), (9, .int .i64 j), (10, .ptr 1010 0),
 (11, .int .i64 (fitsErr (volSizes (D.to Vol o)) (WtD.wt z1))), (19, .dat l), (20, .int .i64 (↑(D.len l) : Int)), (21, .int .i64 j), (22, .bool (decide (j < (↑(D.len l) : Int)))), (23, .int .i64 j), (24, SV.elt l
 (Int.toNat j) 0), (25, .agg z2), (26, .dat o), (27, .agg z2), (28, .int .i64 (fitsErr (volSizes (D.to Vol o)) (WtD.wt z1))), (29, .int .i64 (fitsErr (volSizes (D.to Vol o)) (WtD.wt z1))), (30, .bool (fitsErr
 (volSizes (D.to Vol o)) (WtD.wt z1) != 0)), (33, .dat o), (34, .ptr 1010 0), (35, .int .i64 (D.getInt l (Int.toNat j) 0)), (36, SV.elt o (Int.toNat (D.getInt l (Int.toNat j) 0)) 0), (37, .dat (D.cell o
 (Int.toNat (D.getInt l (Int.toNat j) 0)) 0)), (38, .ptr 1010 1), (39, .int .i64 (D.getInt l (Int.toNat j) 1)), (40, .dat (D.sub (D.cell o (Int.toNat (D.getInt l (Int.toNat j) 0)) 0) (Int.toNat (D.getInt l
 (Int.toNat j) 1)) (Int.toNat (↑z3 : Int)))), (41, .ptr 1010 2), (42, .dat (D.cell l (Int.toNat j) 2))] 0 46)) [] [(1010, OBlk.cells 55 z2)]))))))))) (.ret (SV.tup [.dat o, .int .i64 0, .int .i64 0])) := by
 intros; kernel_rfl

theorem apc_in : goM Try.prog ctAp [(77, 0), (77, 1), (77, 2), (77, 3)] [] 300 (entry Try.prog 59 [.dat im, .dat l]) =
 Tree.need (D.Is Vol im ∧ D.len im ≤ 1048576)
 (.br (sizesErr (volSizes (D.to Vol im)) != 0)
 (.ret (SV.tup [.nils, .int .i64 0, .int .i64 (sizesErr (volSizes (D.to Vol im)))]))
 (.leaf
 (Conf.mk
 (SFrm.mk 77 none none [Item.code (cAt Try.prog 77 [0]), Item.code (cAt Try.prog 77 [1])]
 (mkJ 1 [(0, .dat im)] 0 5))
 [SFrm.mk 59 (some (opsAt Try.prog 59 [1, 1, 0], [2])) (some 18) [Item.code (cAt Try.prog 59 [1, 1, 1])]
 (mkJ 0 [(1, .dat l)] 0 46)]
 []))) := by kernel_rfl

end
end Go.Proofs.Ytdiekahpofifeaa
end
section
open Go Go.Proofs Sx
namespace Go.Proofs.Ytdiekahpofifeaa
set_option maxRecDepth 100000
set_option maxHeartbeats 0
noncomputable def mcB (im d : D) (o : SV) (j : Int) : Conf := Conf.mk (SFrm.mk 86 (some (opsAt Try.prog 86 [1, 1, 0, 1, 0, 0, 1, 1, 0, 0, 1], [4, 5, 6])) none [Item.inBlock 1, Item.code (cAt Try.prog 86 [1, 1, 0, 1, 0, 0, 1, 1, 1]), Item.inLoop (cAt Try.prog 86 [1, 1, 0, 1, 0, 0]), Item.inBlock 0, Item.code (cAt Try.prog 86 [1, 1, 1])] (mkJ 0 [(1, SV.fn 67 [] []), (11, .dat im), (12, .int .i64 (im.len : Int)), (13, .int .i64 j), (17, o), (20, .dat d)] 0 25)) [] []
section
variable (im d : D) (j : Int) (o : Value)
theorem mcb_go : goM Try.prog [] [] [(86, MidK.append)] 300 (mcB im d (.raw o) j) =
 Tree.all fun hs =>
 .leaf
 (Conf.mk
 (SFrm.mk 86 (some (opsAt Try.prog 86 [1, 1, 0, 1, 0, 0, 1, 1, 0, 0, 1], [5, 6])) none
 [Item.inBlock 1, Item.code (cAt Try.prog 86 [1, 1, 0, 1, 0, 0, 1, 1, 1]),
 Item.inLoop (cAt Try.prog 86 [1, 1, 0, 1, 0, 0]), Item.inBlock 0, Item.code (cAt Try.prog 86 [1, 1, 1])]
 (mkJ 0
 [(1, SV.fn 67 [] []), (11, .dat im), (12, .int .i64 (↑(D.len im) : Int)),
 (13, .int .i64 j), (17, SV.raw o), (20, .dat d), (21, .vec 1021)]
 0 25))
 [] [(1021, OBlk.arr 53 (D.slc (D.hd (hs 0 0)) 1 [[d]]))]) := by kernel_rfl

end
end Go.Proofs.Ytdiekahpofifeaa
end
section
open Go Go.Proofs Sx
namespace Go.Proofs.Ytdiekahpofifeaa
set_option maxRecDepth 100000
set_option maxHeartbeats 0
noncomputable def mcC (im : D) (o : SV) (j : Int) : Conf := Conf.mk (SFrm.mk 86 (some (opsAt Try.prog 86 [1, 1, 0, 1, 0, 0, 1, 1, 0, 0, 1], [6])) none [Item.inBlock 1, Item.code (cAt Try.prog 86 [1, 1, 0, 1, 0, 0, 1, 1, 1]), Item.inLoop (cAt Try.prog 86 [1, 1, 0, 1, 0, 0]), Item.inBlock 0, Item.code (cAt Try.prog 86 [1, 1, 1])] (mkJ 0 [(1, SV.fn 67 [] []), (11, .dat im), (12, .int .i64 (im.len : Int)), (13, .int .i64 j), (22, o)] 0 25)) [] []
noncomputable def rcL (d : D) (o : SV) (j : Int) : Conf := Conf.mk (SFrm.mk 80 none none [Item.inLoop (cAt Try.prog 80 [1, 1, 0, 1, 0, 0]), Item.inBlock 0, Item.code (cAt Try.prog 80 [1, 1, 1])] (mkJ 0 [(0, .dat d), (3, o), (4, .int .i64 j)] 0 22)) [] []
section
variable (im d : D) (j : Int) (o : Value)
theorem mcc_go : goM Try.prog [] [] [] 300 (mcC im (.raw o) j) =
 Tree.leaf
 (Conf.mk
 (SFrm.mk 86 none none
 [Item.inLoop (cAt Try.prog 86 [1, 1, 0, 1, 0, 0]), Item.inBlock 0, Item.code (cAt Try.prog 86 [1, 1, 1])]
 (mkJ 0
 [(1, SV.fn 67 [] []), (5, SV.raw o), (11, .dat im), (12, .int .i64 (↑(D.len im) : Int)),
 (13, .int .i64 (IntKind.wrap .i64 (j + 1)))]
 0 25))
 [] []) := by kernel_rfl


end
end Go.Proofs.Ytdiekahpofifeaa
end
section
open Go Go.Proofs Sx
namespace Go.Proofs.Ytdiekahpofifeaa
set_option maxRecDepth 100000
set_option maxHeartbeats 0
noncomputable def cpA (im : D) : Conf := Conf.mk (SFrm.mk 77 none none [Item.code (cAt Try.prog 77 [0]), Item.code (cAt Try.prog 77 [1])] (mkJ 0 [(0, .dat im)] 0 5)) [] []
noncomputable def cpB (o : SV) : Conf := Conf.mk (SFrm.mk 77 (some (opsAt Try.prog 77 [1, 0], [2])) none [Item.code (cAt Try.prog 77 [1, 1])] (mkJ 0 [(4, o)] 0 5)) [] []
noncomputable def apE (o l : D) : Conf := Conf.mk (SFrm.mk 59 (some (opsAt Try.prog 59 [1, 1, 0], [2])) none [Item.code (cAt Try.prog 59 [1, 1, 1])] (mkJ 0 [(1, .dat l), (18, .dat o)] 0 46)) [] []
section
variable (im o l : D) (j : Int) (v : Value)
theorem cpa_go : goM Try.prog [] [] [] 300 (cpA im) =
 Tree.need
 ((0 : Int) ≤ 0 ∧
 0 ≤ (↑(D.len im) : Int) ∧
 (↑24 : Int) * (↑(D.len im) : Int) ≤ 281474976710656 ∧ (↑(D.len im) : Int) ≤ 9223372036854775807)
 (.all fun hs =>
 .leaf
 (Conf.mk
 (SFrm.mk 86 none none
 [Item.inLoop (cAt Try.prog 86 [1, 1, 0, 1, 0, 0]), Item.inBlock 0, Item.code (cAt Try.prog 86 [1, 1, 1])]
 (mkJ 1
 [(1, SV.fn 67 [] []), (5, .vec 0), (11, .dat im), (12, .int .i64 (↑(D.len im) : Int)),
 (13, .int .i64 0)]
 0 25))
 [SFrm.mk 77 (some (opsAt Try.prog 77 [1, 0], [2])) (some 4) [Item.code (cAt Try.prog 77 [1, 1])]
 (mkJ 0 [(0, .dat im), (2, .nils), (3, .dat im)] 0 5)]
 [(0, OBlk.arr 53 (D.slc (D.hd (hs 0 0)) 1 (List.replicate 0 [D.slc none 0 []])))])) := by kernel_rfl

theorem cpb_go : goM Try.prog [] [] [] 300 (cpB (.raw v)) =
 Tree.ret (SV.raw v) := by kernel_rfl

theorem ape_go : goM Try.prog [] [] [] 300 (apE o l) =
 Tree.leaf
 (Conf.mk
 (SFrm.mk 59 none none
 [Item.inLoop (cAt Try.prog 59 [1, 1, 1, 0, 1, 0, 0]), Item.inBlock 0, Item.code (cAt Try.prog 59 [1, 1, 1, 1])]
 (mkJ 0 [(8, .dat o), (19, .dat l), (20, .int .i64 (↑(D.len l) : Int)), (21, .int .i64 0)] 0
 46))
 [] []) := by kernel_rfl

end
end Go.Proofs.Ytdiekahpofifeaa
end
section
open Go Go.Proofs Sx
namespace Go.Proofs.Ytdiekahpofifeaa
set_option maxRecDepth 100000
set_option maxHeartbeats 0
noncomputable def apB (o l : D) (j : Int) : Conf := Conf.mk (SFrm.mk 59 (some (opsAt Try.prog 59 [1, 1, 1, 0, 1, 0, 0, 1, 1, 0, 0, 1, 1], [])) none [Item.inBlock 1, Item.code (cAt Try.prog 59 [1, 1, 1, 0, 1, 0, 0, 1, 1, 1]), Item.inLoop (cAt Try.prog 59 [1, 1, 1, 0, 1, 0, 0]), Item.inBlock 0, Item.code (cAt Try.prog 59 [1, 1, 1, 1])] (mkJ 0 [(8, .dat o), (19, .dat l), (20, .int .i64 (l.len : Int)), (21, .int .i64 j)] 0 46)) [] []
section
variable (o l : D) (j : Int)
theorem apb_go : goM Try.prog ctAp [] [] 300 (apB o l j) =
 Tree.leaf
 (Conf.mk
 (SFrm.mk 59 none none
 [Item.inLoop (cAt Try.prog 59 [1, 1, 1, 0, 1, 0, 0]), Item.inBlock 0, Item.code (cAt Try.prog 59 [1, 1, 1, 1])]
 (mkJ 0
 [(8, .dat o), (19, .dat l), (20, .int .i64 (↑(D.len l) : Int)),
 (21, .int .i64 (IntKind.wrap .i64 (j + 1)))]
 0 46))
 [] []) := by kernel_rfl

end
end Go.Proofs.Ytdiekahpofifeaa
end
section
open Go
namespace Sx
structure TlOrd (i : Int) (t : Tl) : Prop where
  lt : ∀ w : Nat, w < t.issued.length → t.issued.getD w 0 < i
  inc : ∀ a b : Nat, a < b → b < t.issued.length → t.issued.getD a 0 < t.issued.getD b 0
  aft : ∀ w : Nat, w < t.issued.length → 0 ≤ t.acked.getD w 0 → t.issued.getD w 0 < t.acked.getD w 0
  len : t.acked.length = t.issued.length
theorem getD_app1 {l : List Int} {x : Int} {w : Nat} (h : w < l.length) : (l ++ [x]).getD w 0 = l.getD w 0 := by
  simp [List.getElem?_append_left h]
theorem getD_app2' {l : List Int} {x : Int} {w : Nat} (h : w = l.length) : (l ++ [x]).getD w 0 = x := by subst h; simp
theorem getD_set1 {l : List Int} {x : Int} {k w : Nat} (h : k ≠ w) : (l.set k x).getD w 0 = l.getD w 0 := by
  simp [h]
theorem getD_set2 {l : List Int} {x : Int} {k : Nat} (h : k < l.length) : (l.set k x).getD k 0 = x := by simp [h]
theorem evStep_ord {n : Nat} {i : Int} {t : Tl} {e : Ev} (hi : 0 ≤ i) (h : TlOrd i t) (h0 : (evStep n i t e).1 = 0) : TlOrd (i + 1) (evStep n i t e).2 := by
  unfold evStep at h0 ⊢
  split at h0
  · rename_i hk
    rw [if_pos hk]
    split at h0
    · exact absurd h0 (by simp)
    · rename_i hc
      rw [if_neg hc]
      refine ⟨fun w hw => ?_, fun a b hab hb => ?_, fun w hw ha => ?_, by simp [h.len]⟩
      · simp only [List.length_append, List.length_singleton] at hw ⊢
        by_cases e : w < t.issued.length
        · rw [getD_app1 e]; have := h.lt w e; omega
        · rw [getD_app2' (by omega)]; omega
      · simp only [List.length_append, List.length_singleton] at hb ⊢
        by_cases e : b < t.issued.length
        · rw [getD_app1 e, getD_app1 (by omega)]; exact h.inc a b hab e
        · rw [getD_app2' (w := b) (by omega), getD_app1 (by omega)]; exact h.lt a (by omega)
      · simp only [List.length_append, List.length_singleton] at hw ha ⊢
        by_cases e : w < t.issued.length
        · have e' : w < t.acked.length := by rw [h.len]; exact e
          rw [getD_app1 (l := t.acked) e'] at ha ⊢
          rw [getD_app1 (l := t.issued) e]; exact h.aft w e ha
        · rw [getD_app2' (by rw [h.len]; omega)] at ha; omega
  · rename_i hk
    rw [if_neg hk]
    split at h0
    · rename_i hk1
      rw [if_pos hk1]
      split at h0
      · exact absurd h0 (by simp)
      · rename_i hc
        rw [if_neg hc]
        split at h0
        · exact absurd h0 (by simp)
        · rename_i hd
          rw [if_neg hd]
          refine ⟨fun w hw => ?_, fun a b hab hb => h.inc a b hab hb, fun w hw ha => ?_, by simp [h.len]⟩
          · have := h.lt w hw; simp only; omega
          · simp only at hw ha ⊢
            by_cases e : e.write.toNat = w
            · subst e
              rw [getD_set2 (by rw [h.len]; omega)]
              exact h.lt _ hw
            · rw [getD_set1 e] at ha ⊢
              exact h.aft w hw ha
    · exact absurd h0 (by simp)
theorem runEv_ord {n : Nat} {l : List Ev} : ∀ j, j ≤ l.length → (runEv n l j).1 = 0 → TlOrd j (runEv n l j).2
  | 0, _, _ => ⟨fun w hw => absurd hw (by simp [runEv]), fun a b _ hb => absurd hb (by simp [runEv]), fun w hw => absurd hw (by simp [runEv]), by simp [runEv]⟩
  | j + 1, hj, h0 => by
    unfold runEv at h0 ⊢
    split at h0
    · rename_i h1; exact absurd h0 h1
    · rename_i h1
      rw [if_neg h1]
      have e : l[j]? = some l[j] := by simp [show j < l.length by omega]
      rw [e] at h0 ⊢
      simp only at h0 ⊢
      have := evStep_ord (n := n) (e := l[j]) (by omega) (runEv_ord j (by omega) (by simpa using h1)) h0
      simpa using this
theorem checkH_run {h : Hist} (hc : (checkH h).1 = 0) : (runEv h.writes.length h.events h.events.length).1 = 0 ∧ (checkH h).2 = (runEv h.writes.length h.events h.events.length).2 := by
  unfold checkH at hc ⊢
  split at hc
  · rename_i h1; exact absurd hc h1
  · rename_i h1
    rw [if_neg h1]
    split at hc
    · exact absurd hc (by simp)
    · rename_i h2
      rw [if_neg h2]
      split at hc
      · rename_i h3; exact absurd hc h3
      · rename_i h3
        rw [if_neg h3]
        split at hc
        · rename_i h4; exact absurd hc h4
        · rename_i h4
          rw [if_neg h4]
          split at hc
          · exact absurd hc (by simp)
          · rename_i h5
            rw [if_neg h5]
            exact ⟨by simpa using h4, rfl⟩
theorem places {h : Hist} (hc : (checkH h).1 = 0) :
    (∀ a b : Int, a < b → 0 ≤ a → b < h.writes.length → atEv h.events ⟨0, a⟩ < atEv h.events ⟨0, b⟩) ∧
    (∀ a : Int, 0 ≤ atEv h.events ⟨1, a⟩ → 0 ≤ a ∧ a < h.writes.length ∧ atEv h.events ⟨0, a⟩ < atEv h.events ⟨1, a⟩) ∧
    ∀ a : Int, 0 ≤ atEv h.events ⟨0, a⟩ ↔ 0 ≤ a ∧ a < h.writes.length := by
  obtain ⟨htl, hlen, _⟩ := checkH_ok hc
  obtain ⟨h0, h2⟩ := checkH_run hc
  have ho := runEv_ord _ (Nat.le_refl _) h0
  rw [← h2] at ho
  have hI : ∀ w : Nat, w < h.writes.length → (checkH h).2.issued.getD w 0 = atEv h.events ⟨0, w⟩ ∧ 0 ≤ atEv h.events ⟨0, w⟩ := fun w hw => by
    have := htl.iss w (by omega)
    rw [← this.1]
    exact ⟨getD_lt (by omega), this.2⟩
  have hA : ∀ w : Nat, w < h.writes.length → (checkH h).2.acked.getD w 0 = atEv h.events ⟨1, w⟩ := fun w hw => by
    rw [← htl.ack w (by have := htl.len; omega)]
    exact getD_lt (by have := htl.len; omega)
  have hout : ∀ a : Int, ¬(0 ≤ a ∧ a < h.writes.length) → atEv h.events ⟨0, a⟩ = -1 ∧ atEv h.events ⟨1, a⟩ = -1 := fun a ha => htl.not a (by omega)
  refine ⟨fun a b hab h1 h2 => ?_, fun a ha => ?_, fun a => ⟨fun ha => ?_, fun ha => ?_⟩⟩
  · obtain ⟨x, rfl⟩ := Int.eq_ofNat_of_zero_le h1
    obtain ⟨y, rfl⟩ := Int.eq_ofNat_of_zero_le (show 0 ≤ b by omega)
    rw [← (hI x (by omega)).1, ← (hI y (by omega)).1]
    exact ho.inc x y (by omega) (by omega)
  · have hr : 0 ≤ a ∧ a < h.writes.length := by
      rcases Classical.em (0 ≤ a ∧ a < h.writes.length) with h | h
      · exact h
      · rw [(hout a h).2] at ha; exact absurd ha (by decide)
    obtain ⟨x, rfl⟩ := Int.eq_ofNat_of_zero_le hr.1
    refine ⟨hr.1, hr.2, ?_⟩
    rw [← hA x (by omega)] at ha ⊢
    rw [← (hI x (by omega)).1]
    exact ho.aft x (by omega) ha
  · rcases Classical.em (0 ≤ a ∧ a < h.writes.length) with h | h
    · exact h
    · rw [(hout a h).1] at ha; exact absurd ha (by decide)
  · obtain ⟨x, rfl⟩ := Int.eq_ofNat_of_zero_le ha.1
    exact (hI x (by omega)).2
end Sx
end
section
open Go
namespace Sx
theorem setUp_of {l : List Int} {n : Int} (h1 : l.Pairwise (· < ·)) (h2 : ∀ x, x ∈ l → 0 ≤ x ∧ x < n) : ∀ m, m ≤ l.length → setUp l n m = true
  | 0, _ => rfl
  | m + 1, hm => by
    have hlt : m < l.length := by omega
    have h3 := h2 _ (List.getElem_mem hlt)
    simp only [setUp, Bool.and_eq_true, Bool.or_eq_true, decide_eq_true_eq]
    rw [getD_lt hlt]
    refine ⟨setUp_of h1 h2 m (by omega), h3.1, h3.2, ?_⟩
    rcases Nat.eq_zero_or_pos m with e | e
    · left; omega
    · right
      rw [getD_lt (show m - 1 < l.length by omega)]
      exact (List.pairwise_iff_getElem.1 h1) (m - 1) m (by omega) hlt (by omega)
def filtN (n : Nat) (p : Int → Bool) : List Int := ((List.range n).map fun (a : Nat) => (a : Int)).filter p
theorem filtN_mem {n : Nat} {p : Int → Bool} {x : Int} : x ∈ filtN n p ↔ 0 ≤ x ∧ x < n ∧ p x = true := by
  unfold filtN
  rw [List.mem_filter, List.mem_map]
  constructor
  · rintro ⟨⟨a, ha, rfl⟩, h⟩
    have := List.mem_range.1 ha
    exact ⟨by omega, by omega, h⟩
  · rintro ⟨h1, h2, h3⟩
    exact ⟨⟨x.toNat, List.mem_range.2 (by omega), by omega⟩, h3⟩
theorem filtN_set {n : Nat} {p : Int → Bool} : setH (filtN n p) n = true := by
  refine setUp_of ?_ (fun x hx => ⟨(filtN_mem.1 hx).1, (filtN_mem.1 hx).2.1⟩) _ (Nat.le_refl _)
  refine List.Pairwise.filter _ ?_
  rw [List.pairwise_map]
  exact List.pairwise_lt_range.imp (by intro a b h; omega)
theorem filtN_succ {n : Nat} {p : Int → Bool} : filtN (n + 1) p = if p n = true then filtN n p ++ [(n : Int)] else filtN n p := by
  unfold filtN
  rw [List.range_succ, List.map_append, List.filter_append]
  simp only [List.map_cons, List.map_nil, List.filter_cons, List.filter_nil]
  split <;> simp
theorem firstN_filt {n i : Nat} (hi : i ≤ n) : firstN (i : Int) = filtN n fun x => decide (x < (i : Int)) := by
  unfold firstN
  rw [Int.toNat_natCast]
  induction n with
  | zero => have : i = 0 := by omega
            subst this; rfl
  | succ n ih =>
    rw [filtN_succ]
    by_cases e : i ≤ n
    · rw [if_neg (by simp; omega)]; exact ih e
    · have : i = n + 1 := by omega
      subst this
      rw [if_pos (by simp; omega), List.range_succ, List.map_append]
      congr 1
      unfold filtN
      rw [List.filter_eq_self.2]
      intro x hx
      obtain ⟨k, hk, rfl⟩ := List.mem_map.1 hx
      have := List.mem_range.1 hk
      simp; omega
end Sx
end
section
open Go
namespace Sx
structure Gr where
  hist : Hist
  waiting : List Int
  held : List Int
  frozen : Bool
deriving DecidableEq
structure GrD where
  h : HiD
  wt : D
  hd : D
  fz : Bool
def GrD.gr (x : GrD) : Gr := ⟨x.h.hist, x.wt.to Int, x.hd.to Int, x.fz⟩
def GrD.Right (x : GrD) : Prop := x.h.Right ∧ x.wt.Is Int ∧ x.hd.Is Int ∧ x.wt.len ≤ 1048576 ∧ x.hd.len ≤ 1048576

def ackStep (a : List Bool) (x : Ev) : List Bool := if x.kind = 1 then a.set x.write.toNat true else a
def ackd (n : Nat) (l : List Ev) : List Bool := l.foldl ackStep (List.replicate n false)
theorem ackStep_len (a : List Bool) (x : Ev) : (ackStep a x).length = a.length := by
  unfold ackStep; split <;> simp
theorem ackd_len (n : Nat) (l : List Ev) : (ackd n l).length = n := by
  unfold ackd
  have : ∀ (l : List Ev) (a : List Bool), (l.foldl ackStep a).length = a.length := by
    intro l
    induction l with
    | nil => intro a; rfl
    | cons x r ih => intro a; rw [List.foldl_cons, ih, ackStep_len]
  rw [this, List.length_replicate]
def markAll : List Int → List Bool → Option (List Bool)
  | [], s => some s
  | w :: l, s => if w < 0 ∨ w ≥ s.length then none else if s.getD w.toNat false = true then none else markAll l (s.set w.toNat true)
def divided (g : Gr) : Bool := asc g.waiting && match markAll (g.waiting ++ g.held) (ackd g.hist.writes.length g.hist.events) with
  | some s => !s.any fun y => decide (false = y)
  | none => false
def openErr (g : Gr) : Int :=
  if (checkH g.hist).1 ≠ 0 then (checkH g.hist).1
  else if divided g = false then 3
  else if g.held.length > 0 ∧ g.frozen = false then 12 else 0

theorem mark_out {w : Int} {l : List Int} {s : List Bool} (h : w < 0 ∨ w ≥ s.length) : markAll (w :: l) s = none := by
  unfold markAll; rw [if_pos h]
theorem mark_hit {w : Int} {l : List Int} {s : List Bool} (h : s.getD w.toNat false = true) : markAll (w :: l) s = none := by
  unfold markAll; rw [h]; simp
theorem mark_go {w : Int} {l : List Int} {s : List Bool} (h : ¬(w < 0 ∨ w ≥ s.length)) (h2 : s.getD w.toNat false = false) : markAll (w :: l) s = markAll l (s.set w.toNat true) := by
  conv => lhs; unfold markAll
  rw [if_neg h, h2]; simp
theorem set_data {d : D} (hd : d.Is Wt) {i : Nat} (hi : i < (d.to Wt).length) (a : Hd) :
    (d.setCells i 2 [D.slc a 8 (D.rows (d.cell i 2))]).Is Wt ∧ (d.setCells i 2 [D.slc a 8 (D.rows (d.cell i 2))]).to Wt = d.to Wt := by
  obtain ⟨r, h1, ⟨v, s, x, rfl, hx⟩, h3⟩ := hd.row hi
  have e2 : d.cell i 2 = x := by simp [D.cell, D.cellAt, h1]
  have hz := hd.size hi
  have hr := rows_of hd
  have hl' := rows_len hr
  have hgi : d.rows.getD i [] = [.int .i64 v, .int .i64 s, x] := by rw [List.getD_eq_getElem?_getD, h1]; rfl
  have ec : cutIn (d.rows.getD i []) 2 [D.slc a 8 (D.rows (d.cell i 2))] = [.int .i64 v, .int .i64 s, D.slc a 8 x.rows] := by
    rw [hgi, e2]; rfl
  have hxs : (D.slc a 8 x.rows).Is Sec ∧ (D.slc a 8 x.rows).to Sec = x.to Sec := is_of rfl (rows_of hx)
  have hok : Codec.ok Wt [.int .i64 v, .int .i64 s, D.slc a 8 x.rows] := ⟨v, s, _, rfl, hxs.1⟩
  have hdec : (Codec.dec [.int .i64 v, .int .i64 s, D.slc a 8 x.rows] : Wt) = (d.to Wt)[i] := by
    rw [h3]
    show (⟨v, s, (D.slc a 8 x.rows).to Sec⟩ : Wt) = ⟨v, s, x.to Sec⟩
    rw [hxs.2]
  have := is_of (α := Wt) (h := d.hd) (s := d.sz) (rows := d.rows.set i [.int .i64 v, .int .i64 s, D.slc a 8 x.rows]) (xs := d.to Wt) hz ⟨fun r hr' => by
    rcases List.mem_or_eq_of_mem_set hr' with h | h
    · exact hr.1 r h
    · rw [h]; exact hok, by rw [List.map_set, hr.2, hdec, List.set_getElem_self]⟩
  unfold D.setCells
  rw [ec]
  exact this
end Sx
end
section
open Go
namespace Sx
def rdGr : Rd1 GrD where
  read x := match x with
    | .agg [s, w, e, wt, hd, fz] => match rdD.read s, rdD.read w, rdD.read e, rdD.read wt, rdD.read hd, rdBool.read fz with
      | some s, some w, some e, some wt, some hd, some fz => some ⟨⟨s, w, e⟩, wt, hd, fz⟩
      | _, _, _, _, _, _ => none
    | _ => none
  canon g := .agg [.dat g.h.s, .dat g.h.w, .dat g.h.e, .dat g.wt, .dat g.hd, .bool g.fz]
  right H E x b h hok := by
    split at h
    · split at h
      · rename_i h1 h2 h3 h4 h5 h6
        cases h
        obtain ⟨a1, a2, a3, a4, a5, a6, _⟩ := hok
        obtain ⟨i1, i2⟩ := rdD.right H E _ _ h1 a1
        obtain ⟨j1, j2⟩ := rdD.right H E _ _ h2 a2
        obtain ⟨k1, k2⟩ := rdD.right H E _ _ h3 a3
        obtain ⟨l1, l2⟩ := rdD.right H E _ _ h4 a4
        obtain ⟨m1, m2⟩ := rdD.right H E _ _ h5 a5
        obtain ⟨n1, n2⟩ := rdBool.right H E _ _ h6 a6
        refine ⟨?_, i2, j2, k2, l2, m2, n2, trivial⟩
        simp only [SV.den, SV.denL, i1, j1, k1, l1, m1, n1]
        rfl
      · cases h
    · cases h
def spCkG (g : GrD) : SpecR := .scalar [g.Right] (.int .i64 (openErr g.gr))
end Sx
end
section
open Go
namespace Sx
noncomputable def grSV (ds : Nat → D) (g : Gr) : SV := .agg [.dat ((ds 0).like g.hist.sizes), .dat ((ds 1).like g.hist.writes), .dat ((ds 2).like g.hist.events), .dat ((ds 3).like g.waiting), .dat ((ds 4).like g.held), .bool g.frozen]
structure StandsG (X : SV) (g : Gr) : Prop where
  ex : ∃ ds : Nat → D, (∀ E, X.den E = (grSV ds g).den E) ∧ ∀ H, X.Ok H → (grSV ds g).Ok H
section
variable {P : Program} {w : World} {H : HV}
end
def zGr : Gr := ⟨zHist, [], [], false⟩
def freezeG (g : Gr) : Gr × Int × Int :=
  if openErr g ≠ 0 then (zGr, 0, openErr g) else if g.frozen then (zGr, 0, 26) else (⟨g.hist, g.waiting, g.held, true⟩, g.hist.writes.length, 0)
noncomputable def spFrzG (x : GrD) : SpecR := .data [x.Right] fun ds => .tup [grSV ds (freezeG x.gr).1, .int .i64 (freezeG x.gr).2.1, .int .i64 (freezeG x.gr).2.2]
def newG (s : List Int) : Gr × Int := if sizesErr s ≠ 0 then (zGr, sizesErr s) else (⟨⟨s, [], []⟩, [], [], false⟩, 0)
noncomputable def spNewG (x : D) : SpecR := .data [x.Is Int ∧ x.len ≤ 1048576] fun ds => .tup [grSV ds (newG (x.to Int)).1, .int .i64 (newG (x.to Int)).2]
end Sx
end
section
open Go
namespace Sx
def issueG (g : Gr) (w : Wt) : Gr × Int × Int :=
  if openErr g ≠ 0 then (zGr, 0, openErr g) else if (issueH g.hist w).2.2 ≠ 0 then (zGr, 0, (issueH g.hist w).2.2)
  else (⟨(issueH g.hist w).1, g.waiting ++ [(issueH g.hist w).2.1], g.held, g.frozen⟩, (issueH g.hist w).2.1, 0)
noncomputable def spIssueG (x : GrD × WtD) : SpecR := .data [x.1.Right ∧ x.1.h.e.len ≤ 1000000 ∧ x.2.Ok] fun ds => .tup [grSV ds (issueG x.1.gr x.2.wt).1, .int .i64 (issueG x.1.gr x.2.wt).2.1, .int .i64 (issueG x.1.gr x.2.wt).2.2]
end Sx
end
section
open Go
namespace Sx
section
variable {P : Program} {w : World} {H : HV}
end
def thawG (g : Gr) : Gr × List Int × Int :=
  if openErr g ≠ 0 then (zGr, [], openErr g) else if g.frozen = false then (zGr, [], 12)
  else (⟨⟨g.hist.sizes, g.hist.writes, g.hist.events ++ g.held.map (Ev.mk 1)⟩, g.waiting, [], false⟩, g.held, 0)
noncomputable def spThawG (x : GrD) : SpecR := .data [x.Right] fun ds => .tup [grSV ds (thawG x.gr).1, .dat ((ds 5).like (thawG x.gr).2.1), .int .i64 (thawG x.gr).2.2]
end Sx
end
section
open Go
namespace Sx
theorem idxG_range {α : Type} {l : List α} {p : α → Bool} (h : ¬idxG l p < 0) : ∃ j : Nat, idxG l p = j ∧ ∃ hj : j < l.length, p l[j] = true := by
  unfold idxG at h ⊢
  cases hf : l.findIdx? p with
  | none => rw [hf] at h; simp at h
  | some i =>
    rw [List.findIdx?_eq_some_iff_getElem] at hf
    obtain ⟨h1, h2, _⟩ := hf
    exact ⟨i, rfl, h1, h2⟩
def durG (g : Gr) (n : Int) : Gr × List Int × Int :=
  if openErr g ≠ 0 then (zGr, [], openErr g)
  else if (idxG g.waiting fun y => decide (n = y)) < 0 then (zGr, [], 7)
  else if g.frozen = true then (⟨g.hist, g.waiting.take (idxG g.waiting fun y => decide (n = y)).toNat ++ g.waiting.drop ((idxG g.waiting fun y => decide (n = y)).toNat + 1), g.held ++ [n], true⟩, [], 0)
  else (⟨⟨g.hist.sizes, g.hist.writes, g.hist.events ++ [⟨1, n⟩]⟩, g.waiting.take (idxG g.waiting fun y => decide (n = y)).toNat ++ g.waiting.drop ((idxG g.waiting fun y => decide (n = y)).toNat + 1), g.held, false⟩, [n], 0)
noncomputable def spDurG (x : GrD × Int) : SpecR := .data [x.1.Right] fun ds => .tup [grSV ds (durG x.1.gr x.2).1, .dat ((ds 5).like (durG x.1.gr x.2).2.1), .int .i64 (durG x.1.gr x.2).2.2]
end Sx
end
section
open Go
namespace Sx
def cntI (l : List Int) (n : Int) : Nat := l.foldl (fun k x => if x = n then k + 1 else k) 0
def spCnt (x : D × Int) : SpecR := .scalar [x.1.Is Int ∧ x.1.len ≤ 1048576] (.int .i64 (cntI (x.1.to Int) x.2))
def spAckd (x : HiD × Int) : SpecR := .scalar [x.1.e.Is Ev ∧ x.1.e.len ≤ 1048576] (.bool (decide (atEv (x.1.e.to Ev) ⟨1, x.2⟩ ≥ 0)))
end Sx
end
section
namespace Sx
open Go RowKit
def cellOk (m : Mem) : SV → Bool
  | .int .. => true
  | .bool _ => true
  | .lb _ => true
  | .str _ => true
  | .nils => true
  | .dat _ => true
  | .vec j => match m.get j with
    | some (.arr ..) => true
    | some (.pub _) => true
    | _ => false
  | _ => false

def cellsOk (m : Mem) : List SV → Bool
  | [] => true
  | c :: r => cellOk m c && cellsOk m r
abbrev PSpec := List SV → List SV → Option (List Prop × ((Nat → D) → SV))
def rowD (b : Nat) (row : List D) : D := .slc (some (⟨b, 0, none⟩, 1)) row.length [row]

def PLaw (P : Program) (f : FuncId) (spec : PSpec) : Prop :=
  Bodied P f = true ∧ ∀ (H : HV) (E : Env) (b : Nat) (row : List D) (cs args : List SV), (rowD b row).Ok H → (∀ o, row.length ≤ o → H b o = none) → SV.denL E cs = row.map D.val → SV.OkL H args →
    match spec cs args with
    | some (ps, g) => (∀ p, p ∈ ps → p) → PCall P f H (SV.denL E (.elt (rowD b row) 0 0 :: args)) fun H' u =>
        ∃ hs, u = (g hs).den E ∧ ∀ H2, (∀ b' o v, b' ≠ b → H' b' o = some v → H2 b' o = some v) → (g hs).Ok H2
    | none => True

def pCtr (spec : PSpec) : Ctr := fun args _ m =>
  match args with
  | .ptr k 0 :: rest => match m.get k with
    | some (.cells _ cs) => match cellsOk m cs with
      | true => match spec cs (closeL (pubsR (leavesL rest) m) rest) with
        | some (ps, g) => .all ps fun hs => (g hs, pubsR (leavesL rest) m)
        | none => .bad
      | false => .bad
    | _ => .bad
  | _ => .bad






end Sx
end
section
namespace Sx
open Go RowKit Go.Sort
def Deletes (P : Program) (f : FuncId) : Prop := ∀ (blk cap i j : Nat) (zs : List Int) (w : World), Holds (Value.int .i64) w blk 0 zs.toArray → zs.length ≤ cap → cap ≤ 9223372036854775807 → i ≤ j → j ≤ zs.length →
  Calls P f #[.slice (some ⟨blk, 0, none⟩) zs.length cap, .int .i64 i, .int .i64 j] w fun e w' => e = .returned (.slice (some ⟨blk, 0, none⟩) (zs.length - (j - i)) cap) ∧ ∃ q, w' = putRow (Value.int .i64) (Sort.ahead w q) blk 0 (zs.take i ++ zs.drop j ++ List.replicate (j - i) 0).toArray

def dCtr (e : TypeId) : Ctr := fun args key m => match args with
  | [.vec k, .int .i64 i, .int .i64 j] => match m.get k with
    | some (.arr e' d) => if e' = e then .all [d.Is Int ∧ 0 ≤ i ∧ i < j ∧ j ≤ (d.len : Int)] fun _ => (.vec key, (key, .arr e (.slc d.hd d.sz (d.rows.take i.toNat ++ d.rows.drop j.toNat))) :: m.del k) else .bad
    | _ => .bad
  | _ => .bad








end Sx
end
section
namespace Sx
open Go RowKit

def vCtr (spec : List SV → SpecR) : Ctr := fun args _ m => match args with
  | [.view k s lo n, x] => match m.get k with
    | some (.arr _ d) => match spec [.dat (d.sub lo (lo + n)), x] with
      | .scalar ps v => match v.flat && x.flat with
        | true => .val ((d.sz = s ∧ lo + n ≤ d.len) :: ps) v m
        | false => .bad
      | _ => .bad
    | _ => .bad
  | _ => .bad
def lCtr (spec : OSpec) : Ctr := fun args key m =>
  match spec (closeL (pubsR (leavesL args) m) args) with
  | some (ps, e, mk) => .all ps fun hs => (.vec key, (key, .arr e (mk (hs 0))) :: m)
  | none => .bad
def shK (B k : Nat) : Nat := match Nat.ble PIN k with
  | true => k
  | false => k + B
def shiftC (B : Nat) (c : Conf) : Option Conf := match c.allKeys.all fun k => Nat.ble PIN k || Nat.blt (k + B) PIN with
  | true => some (renWith (shK B) c)
  | false => none
def spOwnI {β : Type} (r : Rd β) (e : TypeId) (ps : β → List Prop) (l : β → List Int) : OSpec := fun args => match r.read args with
  | some b => some (ps b, e, fun h => .slc h.hd 1 ((l b).map fun n => [.int .i64 n]))
  | none => none
end Sx
end
section
open Go
namespace Sx
def rdAk : Rd1 D where
  read x := match x with
    | .agg [a] => rdD.read a
    | _ => none
  canon d := .agg [.dat d]
  right H E x b h hok := by
    split at h
    · obtain ⟨i1, i2⟩ := rdD.right H E _ _ h hok.1
      refine ⟨?_, i2, trivial⟩
      simp only [SV.den, SV.denL, i1]
      rfl
    · cases h
def unackN (l : List Bool) (p : Nat) : List Int := filtN p fun i => !l.getD i.toNat false
noncomputable def spUna (e : TypeId) : OSpec := spOwnI (rdAk.two rdInt) e (fun x => [x.1.Is Bool ∧ 0 ≤ x.2 ∧ x.2 ≤ (x.1.len : Int) ∧ x.1.len ≤ 1048576]) fun x => unackN (x.1.to Bool) x.2.toNat
end Sx
end
section
open Go
namespace Sx
def recoverG (g : Gr) (du : List Int) : Gr × List Int × Int :=
  if openErr g ≠ 0 then (zGr, [], openErr g)
  else if du.length > g.hist.writes.length then (zGr, [], 27)
  else if ((ackd g.hist.writes.length g.hist.events).drop du.length).any (fun y => decide (true = y)) = true then (zGr, [], 27)
  else if du ≠ firstN du.length then (zGr, [], 27)
  else (⟨⟨g.hist.sizes, g.hist.writes.take du.length, g.hist.events.filter (fun x => !decide (x.write ≥ (du.length : Int))) ++ (unackN (ackd g.hist.writes.length g.hist.events) du.length).map (Ev.mk 1)⟩, [], [], false⟩, unackN (ackd g.hist.writes.length g.hist.events) du.length, 0)
noncomputable def spRecG (x : GrD × D) : SpecR := .data [x.1.Right ∧ x.2.Is Int ∧ x.2.len ≤ 1048576] fun ds => .tup [grSV ds (recoverG x.1.gr (x.2.to Int)).1, .dat ((ds 5).like (recoverG x.1.gr (x.2.to Int)).2.1), .int .i64 (recoverG x.1.gr (x.2.to Int)).2.2]
end Sx
end
section
open Go
namespace Sx
theorem cntI_from (n : Int) : ∀ (l : List Int) (k : Nat), l.foldl (fun k x => if x = n then k + 1 else k) k = k + cntI l n := by
  intro l
  unfold cntI
  induction l with
  | nil => intro k; rfl
  | cons x r ih =>
    intro k
    simp only [List.foldl_cons]
    by_cases h : x = n
    · simp only [if_pos h]; rw [ih (k + 1), ih (0 + 1)]; omega
    · simp only [if_neg h]; rw [ih k]
theorem cntI_cons (x : Int) (l : List Int) (n : Int) : cntI (x :: l) n = (if x = n then 1 else 0) + cntI l n := by
  have := cntI_from n (x :: l) 0
  rw [List.foldl_cons, cntI_from] at this
  by_cases h : x = n
  · rw [if_pos h] at this ⊢; omega
  · rw [if_neg h] at this ⊢; omega
theorem cntI_app (a b : List Int) (n : Int) : cntI (a ++ b) n = cntI a n + cntI b n := by
  have := cntI_from n (a ++ b) 0
  rw [List.foldl_append, cntI_from, cntI_from] at this
  omega
theorem cntI_pos {l : List Int} {n : Int} : 0 < cntI l n ↔ n ∈ l := by
  induction l with
  | nil => simp [cntI]
  | cons x r ih =>
    rw [cntI_cons, List.mem_cons]
    by_cases h : x = n
    · rw [if_pos h]; exact ⟨fun _ => .inl h.symm, fun _ => by omega⟩
    · rw [if_neg h]
      have h' : ¬n = x := fun e => h e.symm
      simp only [h', false_or, ← ih]; omega
theorem any_false {s : List Bool} : (s.any fun y => decide (false = y)) = false ↔ ∀ i : Nat, i < s.length → s.getD i false = true := by
  rw [List.any_eq_false]
  constructor
  · intro h i hi
    have := h s[i] (List.getElem_mem hi)
    rw [List.getD_eq_getElem?_getD, List.getElem?_eq_getElem hi]
    cases hs : s[i] with
    | true => rfl
    | false => rw [hs] at this; simp at this
  · intro h y hy
    obtain ⟨i, hi, rfl⟩ := List.getElem_of_mem hy
    have := h i hi
    rw [List.getD_eq_getElem?_getD, List.getElem?_eq_getElem hi] at this
    simp only [Option.getD_some] at this
    rw [this]; simp
theorem getD_setB {s : List Bool} {w i : Nat} (hw : w < s.length) : (s.set w true).getD i false = if w = i then true else s.getD i false := by
  rw [List.getD_eq_getElem?_getD, List.getD_eq_getElem?_getD, List.getElem?_set]
  by_cases h : w = i
  · subst h; simp [hw]
  · rw [if_neg h, if_neg h]
theorem mark_iff : ∀ (l : List Int) (s : List Bool), (∃ s', markAll l s = some s' ∧ (s'.any fun y => decide (false = y)) = false) ↔
    (∀ w, w ∈ l → 0 ≤ w ∧ w < (s.length : Int)) ∧ ∀ i : Nat, i < s.length → cntI l (i : Int) + (if s.getD i false = true then 1 else 0) = 1
  | [], s => by
    simp only [markAll, Option.some.injEq, exists_eq_left', any_false, List.not_mem_nil, false_implies, implies_true, true_and]
    constructor
    · intro h i hi; rw [if_pos (h i hi)]; rfl
    · intro h i hi
      have := h i hi
      split at this
      · assumption
      · exact absurd this (by simp [cntI])
  | w :: l, s => by
    by_cases h1 : w < 0 ∨ w ≥ s.length
    · rw [mark_out h1]
      constructor
      · rintro ⟨_, h, _⟩; cases h
      · rintro ⟨h, _⟩; have := h w List.mem_cons_self; omega
    · obtain ⟨x, rfl⟩ := Int.eq_ofNat_of_zero_le (show 0 ≤ w by omega)
      have hx : x < s.length := by omega
      cases h2 : s.getD x false with
      | true =>
        rw [mark_hit (by simpa using h2)]
        constructor
        · rintro ⟨_, h, _⟩; cases h
        · rintro ⟨_, h⟩
          have := h x hx
          rw [cntI_cons, if_pos rfl, if_pos h2] at this; omega
      | false =>
        rw [mark_go h1 (by simpa using h2), mark_iff l]
        simp only [Int.toNat_natCast, List.length_set, List.mem_cons]
        constructor
        · rintro ⟨h, h'⟩
          refine ⟨fun w hw => ?_, fun i hi => ?_⟩
          · rcases hw with rfl | hw
            · omega
            · exact h w hw
          · have := h' i hi
            simp only [getD_setB hx] at this
            rw [cntI_cons]
            by_cases e : x = i
            · subst e; simp only [if_pos] at this; rw [if_pos rfl, h2]; simp; simpa using this
            · simp only [if_neg e] at this
              rw [if_neg (by omega), Nat.zero_add]; exact this
        · rintro ⟨h, h'⟩
          refine ⟨fun w hw => h w (.inr hw), fun i hi => ?_⟩
          have := h' i hi
          simp only [getD_setB hx]
          rw [cntI_cons] at this
          by_cases e : x = i
          · subst e; rw [if_pos rfl, h2] at this; simp at this; simp [this]
          · simp only [if_neg e]
            rw [if_neg (by omega), Nat.zero_add] at this; exact this
theorem divided_iff (g : Gr) : divided g = true ↔ asc g.waiting = true ∧ (∀ w, w ∈ g.waiting ++ g.held → 0 ≤ w ∧ w < (g.hist.writes.length : Int)) ∧
    ∀ i : Nat, i < g.hist.writes.length → cntI (g.waiting ++ g.held) (i : Int) + (if (ackd g.hist.writes.length g.hist.events).getD i false = true then 1 else 0) = 1 := by
  have h := mark_iff (g.waiting ++ g.held) (ackd g.hist.writes.length g.hist.events)
  rw [ackd_len] at h
  rw [← h]
  unfold divided
  rw [Bool.and_eq_true]
  refine and_congr Iff.rfl ?_
  cases markAll (g.waiting ++ g.held) (ackd g.hist.writes.length g.hist.events) with
  | none => simp
  | some s => simp
theorem ackd_from : ∀ (l : List Ev) (a : List Bool), (∀ e, e ∈ l → 0 ≤ e.write) → ∀ i : Nat, i < a.length → ((l.foldl ackStep a).getD i false = true ↔ a.getD i false = true ∨ (⟨1, (i : Int)⟩ : Ev) ∈ l)
  | [], a, _, i, _ => by simp
  | e :: l, a, h, i, hi => by
    have he := h e List.mem_cons_self
    rw [List.foldl_cons, ackd_from l _ (fun x hx => h x (List.mem_cons_of_mem _ hx)) i (by rw [ackStep_len]; exact hi), List.mem_cons]
    unfold ackStep
    obtain ⟨k, w⟩ := e
    simp only at he ⊢
    by_cases hk : k = 1
    · subst hk
      rw [if_pos rfl]
      by_cases hw : w.toNat < a.length
      · rw [getD_setB hw]
        by_cases hi : w.toNat = i
        · rw [if_pos hi]
          have : w = (i : Int) := by omega
          subst this; simp
        · rw [if_neg hi]
          have : ¬((⟨1, (i : Int)⟩ : Ev) = ⟨1, w⟩) := by intro e; injection e with _ e; omega
          simp [this]
      · rw [List.set_eq_of_length_le (by omega)]
        have : ¬((⟨1, (i : Int)⟩ : Ev) = ⟨1, w⟩) := by intro e; injection e with _ e; omega
        simp [this]
    · rw [if_neg hk]
      have : ¬((⟨1, (i : Int)⟩ : Ev) = ⟨k, w⟩) := by intro e; injection e with e _; exact hk e.symm
      simp [this]
theorem ackd_mem {n : Nat} {l : List Ev} (h : ∀ e, e ∈ l → 0 ≤ e.write) {i : Nat} (hi : i < n) : (ackd n l).getD i false = true ↔ (⟨1, (i : Int)⟩ : Ev) ∈ l := by
  unfold ackd
  rw [ackd_from l _ h i (by simpa using hi)]
  have : (List.replicate n false).getD i false = false := by
    rw [List.getD_eq_getElem?_getD]; simp [List.getElem?_replicate, hi]
  rw [this]; simp
theorem atEv_mem {l : List Ev} {e : Ev} : atEv l e ≥ 0 ↔ e ∈ l := by
  rcases atEv_cases l e with ⟨h1, h2⟩ | ⟨h1, h2, h3⟩
  · rw [h1]; simp [h2]
  · simp [h3]; exact h1
theorem checkH_in {h : Hist} (hc : (checkH h).1 = 0) : ∀ e, e ∈ h.events → (e.kind = 0 ∨ e.kind = 1) ∧ 0 ≤ e.write ∧ e.write < (h.writes.length : Int) := fun e he => by
  obtain ⟨t, hl, _⟩ := checkH_ok hc
  have := t.kind e he
  rwa [hl] at this
theorem asc_pair {l : List Int} (h : asc l = true) : l.Pairwise (· < ·) := by
  rw [List.pairwise_iff_getElem]
  intro i j hi hj hij
  obtain ⟨d, rfl⟩ := Nat.exists_eq_add_of_lt hij
  clear hij
  have h := (asc_iff l).1 h
  induction d with
  | zero => have := h i hj; rwa [getD_lt hi, getD_lt hj] at this
  | succ d ih =>
    have h1 := ih (by omega)
    have h2 := h (i + d + 1) (by omega)
    rw [getD_lt (show i + d + 1 < l.length by omega), getD_lt (show i + d + 1 + 1 < l.length by omega)] at h2
    have e : i + (d + 1) + 1 = i + d + 1 + 1 := by omega
    simp only [e]; omega
theorem setH_iff {l : List Int} {n : Int} : setH l n = true ↔ asc l = true ∧ ∀ w, w ∈ l → 0 ≤ w ∧ w < n := by
  constructor
  · intro h
    refine ⟨(asc_iff l).2 fun i hi => setUp_lt h (Nat.lt_succ_self i) hi, fun w hw => ?_⟩
    obtain ⟨k, hk, rfl⟩ := List.getElem_of_mem hw
    exact setH_in h hk
  · rintro ⟨h1, h2⟩
    exact setUp_of (asc_pair h1) h2 _ (Nat.le_refl _)
def refErrG (g : Gr) : Int :=
  if (checkH g.hist).1 ≠ 0 then (checkH g.hist).1
  else if setH g.waiting g.hist.writes.length = false then 3
  else if (g.held.all fun w => decide (0 ≤ w) && decide (w < (g.hist.writes.length : Int))) = false then 3
  else if ((List.range g.hist.writes.length).all fun i => decide (cntI g.waiting (i : Int) + cntI g.held (i : Int) = if atEv g.hist.events ⟨1, (i : Int)⟩ ≥ 0 then 0 else 1)) = false then 3
  else if g.held.length > 0 ∧ g.frozen = false then 12 else 0
end Sx
end
section
open Go
namespace Sx
theorem runEv_more {n m : Nat} {l : List Ev} : ∀ j, (runEv n l j).1 = 0 → (runEv n l j).2.issued.length ≤ m → runEv m l j = runEv n l j
  | 0, _, _ => rfl
  | j + 1, h0, hm => by
    unfold runEv at h0 hm ⊢
    split at h0
    · rename_i h1; exact absurd h0 h1
    · rename_i h1
      rw [if_neg h1] at hm
      have h1' : (runEv n l j).1 = 0 := by simpa using h1
      cases e : l[j]? with
      | none =>
        rw [e] at h0 hm
        simp only at h0 hm
        have ih := runEv_more j h1' hm
        rw [ih, if_neg h1]
      | some x =>
        rw [e] at h0 hm
        simp only at h0 hm
        have hle := evStep_len h0
        have ih := runEv_more (m := m) j h1' (by omega)
        rw [ih, if_neg h1, if_neg h1]
        simp only
        unfold evStep at h0 hm hle ⊢
        split at h0
        · rename_i hk
          simp only [if_pos hk] at hm hle ⊢
          split at h0
          · exact absurd h0 (by simp)
          · rename_i hc
            rw [if_neg hc] at hm ⊢
            simp only [List.length_append, List.length_singleton] at hm
            rw [if_neg (by omega)]
        · rename_i hk
          simp only [if_neg hk]
theorem runEv_take {n : Nat} {l : List Ev} {k : Nat} (hk : k ≤ l.length) : ∀ j, j ≤ k → runEv n (l.take k) j = runEv n l j
  | 0, _ => rfl
  | j + 1, hj => by
    unfold runEv
    rw [runEv_take hk j (by omega)]
    rw [List.getElem?_take_of_lt (by omega)]
theorem runEv_app {n : Nat} {l : List Ev} {e : Ev} (h0 : (runEv n l l.length).1 = 0) : runEv n (l ++ [e]) (l ++ [e]).length = evStep n l.length (runEv n l l.length).2 e := by
  have h1 := runEv_take (n := n) (l := l ++ [e]) (k := l.length) (by simp) l.length (Nat.le_refl _)
  rw [List.take_left'  rfl] at h1
  rw [List.length_append, List.length_singleton]
  conv => lhs; unfold runEv
  rw [← h1, if_neg (by simp [h0])]
  simp
theorem checkH_of {h : Hist} (h1 : sizesErr h.sizes = 0) (h2 : h.writes.length ≤ 4096) (h3 : firstErr h.sizes h.writes = 0) (h4 : (runEv h.writes.length h.events h.events.length).1 = 0)
    (h5 : h.writes.length ≤ (runEv h.writes.length h.events h.events.length).2.issued.length) : (checkH h).1 = 0 := by
  unfold checkH
  rw [if_neg (by simp [h1]), if_neg (by omega), if_neg (by simp [h3]), if_neg (by simp [h4]), if_neg (by omega)]
theorem newH_check {s : List Int} (h : (newH s).2 = 0) : (checkH (newH s).1).1 = 0 := by
  unfold newH at h ⊢
  split at h
  · rename_i h1; exact absurd h h1
  · rename_i h1
    rw [if_neg h1]
    exact checkH_of (by simpa using h1) (by simp) rfl rfl (by simp)
theorem ackH_inv {h : Hist} {n : Int} (h0 : (ackH h n).2 = 0) : (checkH h).1 = 0 ∧ 0 ≤ n ∧ n < h.writes.length ∧ atEv h.events ⟨1, n⟩ < 0 ∧ (ackH h n).1 = ⟨h.sizes, h.writes, h.events ++ [⟨1, n⟩]⟩ := by
  unfold ackH at h0 ⊢
  split at h0
  · rename_i h1; exact absurd h0 h1
  · rename_i h1
    rw [if_neg h1]
    split at h0
    · exact absurd h0 (by simp)
    · rename_i h2
      rw [if_neg h2]
      split at h0
      · exact absurd h0 (by simp)
      · rename_i h3
        rw [if_neg h3]
        exact ⟨by simpa using h1, by omega, by omega, by omega, rfl⟩
theorem issueH_inv {h : Hist} {w : Wt} (h0 : (issueH h w).2.2 = 0) : (checkH h).1 = 0 ∧ h.writes.length < 4096 ∧ fitsErr h.sizes w = 0 ∧ (issueH h w).1 = ⟨h.sizes, h.writes ++ [w], h.events ++ [⟨0, h.writes.length⟩]⟩ := by
  unfold issueH at h0 ⊢
  split at h0
  · rename_i h1; exact absurd h0 h1
  · rename_i h1
    rw [if_neg h1]
    split at h0
    · exact absurd h0 (by simp)
    · rename_i h2
      rw [if_neg h2]
      split at h0
      · rename_i h3; exact absurd h0 h3
      · rename_i h3
        rw [if_neg h3]
        exact ⟨by simpa using h1, by omega, by simpa using h3, rfl⟩
theorem ackH_check {h : Hist} {n : Int} (h0 : (ackH h n).2 = 0) : (checkH (ackH h n).1).1 = 0 := by
  obtain ⟨hc, h1, h2, h3, e⟩ := ackH_inv h0
  rw [e]
  obtain ⟨htl, hlen, k1, k2, k3⟩ := checkH_ok hc
  obtain ⟨r1, r2⟩ := checkH_run hc
  rw [r2] at htl hlen
  have ha := runEv_app (n := h.writes.length) (e := ⟨1, n⟩) r1
  have hs : evStep h.writes.length h.events.length (runEv h.writes.length h.events h.events.length).2 ⟨1, n⟩ = (0, ⟨(runEv h.writes.length h.events h.events.length).2.issued, (runEv h.writes.length h.events h.events.length).2.acked.set n.toNat h.events.length⟩) := by
    obtain ⟨y, rfl⟩ := Int.eq_ofNat_of_zero_le h1
    have hy : y < (runEv h.writes.length h.events h.events.length).2.acked.length := by have := htl.len; omega
    have e2 : (runEv h.writes.length h.events h.events.length).2.acked.getD (Int.toNat (y : Int)) 0 = atEv h.events ⟨1, y⟩ := by rw [← htl.ack y hy, Int.toNat_natCast]; exact getD_lt hy
    unfold evStep
    simp only
    rw [if_neg (by decide), if_pos trivial, if_neg (by omega), e2, if_neg (by omega)]
  rw [hs] at ha
  exact checkH_of k1 k2 k3 (by simp only [ha]) (by simp only [ha]; omega)
theorem issueH_check {h : Hist} {w : Wt} (h0 : (issueH h w).2.2 = 0) : (checkH (issueH h w).1).1 = 0 := by
  obtain ⟨hc, h1, h2, e⟩ := issueH_inv h0
  rw [e]
  obtain ⟨htl, hlen, k1, k2, k3⟩ := checkH_ok hc
  obtain ⟨r1, r2⟩ := checkH_run hc
  rw [r2] at hlen
  have hm := runEv_more (m := h.writes.length + 1) h.events.length r1 (by omega)
  have ha := runEv_app (n := h.writes.length + 1) (l := h.events) (e := ⟨0, h.writes.length⟩) (by rw [hm]; exact r1)
  rw [hm] at ha
  have hs : evStep (h.writes.length + 1) h.events.length (runEv h.writes.length h.events h.events.length).2 ⟨0, h.writes.length⟩ = (0, ⟨(runEv h.writes.length h.events h.events.length).2.issued ++ [(h.events.length : Int)], (runEv h.writes.length h.events h.events.length).2.acked ++ [-1]⟩) := by
    unfold evStep
    simp only
    rw [if_pos trivial, if_neg (by omega)]
  rw [hs] at ha
  refine checkH_of k1 (by simp; omega) ?_ ?_ ?_
  · simp only [firstErr_append, k3]; simp [firstErr, h2]
  · simp only [List.length_append, List.length_singleton] at ha ⊢; rw [ha]
  · simp only [List.length_append, List.length_singleton] at ha ⊢; rw [ha]; simp; omega
theorem stepE_check {ws : List Wt} {st : Hist × Nat} {e : Ev} (h : (checkH st.1).1 = 0) : (checkH (stepE ws st e).1).1 = 0 := by
  unfold stepE
  split
  · split
    · rename_i h1; exact ackH_check h1
    · exact h
  · split
    · split
      · rename_i h1; exact issueH_check h1
      · exact h
    · exact h
theorem runE_check {ws : List Wt} {h0 : Hist} {evs : List Ev} (h : (checkH h0).1 = 0) : ∀ j, j ≤ evs.length → (checkH (runE ws h0 evs j).1).1 = 0
  | 0, _ => by simp only [runE, List.take_zero, List.foldl_nil]; exact h
  | j + 1, hj => by rw [runE_succ (by omega)]; exact stepE_check (runE_check h j (by omega))
theorem replayH_check {s : List Int} {ws : List Wt} {evs : List Ev} (h : (replayH s ws evs).2 = true) : (checkH (replayH s ws evs).1).1 = 0 := by
  unfold replayH at h ⊢
  split at h
  · cases h
  · rename_i h1
    rw [if_neg h1]
    exact runE_check (newH_check (by simpa using h1)) _ (Nat.le_refl _)
theorem stepsH_check {h : Hist} (h0 : (stepsH h).2 = true) : (checkH (stepsH h).1).1 = 0 := by
  unfold stepsH at h0 ⊢
  split at h0
  · rename_i h1; rw [if_pos h1]; exact replayH_check h0
  · cases h0
theorem newH_sizes {s : List Int} (h : sizesErr s = 0) : newH s = (⟨s, [], []⟩, 0) := by
  unfold newH; rw [if_neg (by simp [h])]
theorem replay_upto {h : Hist} (hc : (checkH h).1 = 0) : ∀ j, j ≤ h.events.length →
    runE h.writes (newH h.sizes).1 h.events j = (⟨h.sizes, h.writes.take (runEv h.writes.length h.events j).2.issued.length, h.events.take j⟩, (runEv h.writes.length h.events j).2.issued.length) ∧ (runEv h.writes.length h.events j).1 = 0
  | 0, _ => by
    obtain ⟨_, _, k1, _, _⟩ := checkH_ok hc
    simp only [runE, List.take_zero, List.foldl_nil, newH_sizes k1, runEv, List.length_nil, and_self]
  | j + 1, hj => by
    obtain ⟨ih, i0⟩ := replay_upto hc j (by omega)
    obtain ⟨htl, hlen, k1, k2, k3⟩ := checkH_ok hc
    obtain ⟨r1, r2⟩ := checkH_run hc
    -- up to here the history is correct
    have hcj := runE_check (ws := h.writes) (evs := h.events) (newH_check (s := h.sizes) (by rw [newH_sizes k1])) j (by omega)
    rw [ih] at hcj
    have tj := runEv_ok (n := h.writes.length) (l := h.events) j (by omega) i0
    -- the next one is correct
    have s1 : (runEv h.writes.length h.events (j + 1)).1 = 0 := by
      have mono : ∀ d, (runEv h.writes.length h.events (j + 1 + d)).1 = 0 → (runEv h.writes.length h.events (j + 1)).1 = 0 := by
        intro d
        induction d with
        | zero => exact id
        | succ d ihd =>
          intro hz
          have hz : (runEv h.writes.length h.events (j + 1 + d + 1)).1 = 0 := hz
          apply ihd
          unfold runEv at hz
          split at hz
          · rename_i hn; exact absurd hz hn
          · rename_i hn; simpa using hn
      have := mono (h.events.length - (j + 1)) (by rw [show j + 1 + (h.events.length - (j + 1)) = h.events.length by omega]; exact r1)
      exact this
    have hjl : j < h.events.length := by omega
    have e1 : runEv h.writes.length h.events (j + 1) = evStep h.writes.length j (runEv h.writes.length h.events j).2 h.events[j] := by
      conv => lhs; unfold runEv
      rw [if_neg (by simp [i0])]
      simp [hjl]
    refine ⟨?_, s1⟩
    rw [runE_succ hjl, ih, List.take_succ_eq_append_getElem hjl]
    rw [e1] at s1 ⊢
    generalize hT : (runEv h.writes.length h.events j).2 = T at *
    generalize hE : h.events[j] = e at *
    obtain ⟨k, x⟩ := e
    have hTl := tj.le
    unfold stepE
    unfold evStep at s1 ⊢
    simp only at s1 ⊢
    by_cases hk : k = 0
    · subst hk
      rw [if_pos rfl] at s1 ⊢
      rw [if_neg (show ¬((0 : Int) = 1) by decide)]
      by_cases hq : x ≠ T.issued.length ∨ x ≥ h.writes.length
      · rw [if_pos hq] at s1; exact absurd s1 (by simp)
      · rw [if_neg hq]
        have hlt : T.issued.length < h.writes.length := by omega
        have hx : x = T.issued.length := by omega
        subst hx
        rw [if_pos hlt]
        have hw : h.writes.getD T.issued.length zWt = h.writes[T.issued.length] := by simp [hlt]
        rw [hw]
        have hf : fitsErr h.sizes h.writes[T.issued.length] = 0 := by
          have := firstErr_take (s := h.sizes) hlt
          have t1 : firstErr h.sizes (h.writes.take (T.issued.length + 1)) = 0 := by
            rcases Classical.em (firstErr h.sizes (h.writes.take (T.issued.length + 1)) = 0) with h' | h'
            · exact h'
            · have := firstErr_of_take h'; rw [k3] at this; exact this.symm
          have t2 : firstErr h.sizes (h.writes.take T.issued.length) = 0 := by
            rcases Classical.em (firstErr h.sizes (h.writes.take T.issued.length) = 0) with h' | h'
            · exact h'
            · have := firstErr_of_take h'; rw [k3] at this; exact this.symm
          rw [t1, t2] at this
          simpa using this.symm
        have hl : (h.writes.take T.issued.length).length = T.issued.length := by rw [List.length_take]; omega
        have hi : issueH ⟨h.sizes, h.writes.take T.issued.length, h.events.take j⟩ h.writes[T.issued.length] = (⟨h.sizes, h.writes.take T.issued.length ++ [h.writes[T.issued.length]], h.events.take j ++ [⟨0, (h.writes.take T.issued.length).length⟩]⟩, ((h.writes.take T.issued.length).length : Int), (0 : Int)) := by
          unfold issueH
          rw [if_neg (by simp only [hcj]; simp), if_neg (by simp only [hl]; omega), if_neg (by simp only [hf]; simp)]
        rw [hi]
        simp only [if_pos, List.length_append, List.length_singleton, hl]
        rw [List.take_succ_eq_append_getElem hlt]
    · rw [if_neg hk] at s1 ⊢
      by_cases hk1 : k = 1
      · subst hk1
        rw [if_pos rfl] at s1 ⊢
        rw [if_pos rfl]
        by_cases hq : x < 0 ∨ x ≥ T.issued.length
        · rw [if_pos hq] at s1; exact absurd s1 (by simp)
        · rw [if_neg hq] at s1 ⊢
          by_cases hd : T.acked.getD x.toNat 0 ≥ 0
          · rw [if_pos hd] at s1; exact absurd s1 (by simp)
          · rw [if_neg hd]
            obtain ⟨y, rfl⟩ := Int.eq_ofNat_of_zero_le (show 0 ≤ x by omega)
            have hy : y < T.acked.length := by have := tj.len; omega
            have e2 : T.acked.getD (Int.toNat (y : Int)) 0 = atEv (h.events.take j) ⟨1, y⟩ := by rw [← tj.ack y hy, Int.toNat_natCast]; exact getD_lt hy
            have hl : (h.writes.take T.issued.length).length = T.issued.length := by rw [List.length_take]; omega
            have hi : ackH ⟨h.sizes, h.writes.take T.issued.length, h.events.take j⟩ (y : Int) = (⟨h.sizes, h.writes.take T.issued.length, h.events.take j ++ [⟨1, y⟩]⟩, (0 : Int)) := by
              unfold ackH
              rw [if_neg (by simp only [hcj]; simp), if_neg (by simp only [hl]; omega), if_neg (by simp only; rw [← e2]; exact hd)]
            rw [hi]
            simp only [if_pos]
      · rw [if_neg hk1] at s1; exact absurd s1 (by simp)
end Sx
end
section
open Go
namespace Sx
def iss (l : List Ev) : Nat := l.countP fun e => decide (e.kind = 0)
theorem iss_app (a b : List Ev) : iss (a ++ b) = iss a + iss b := List.countP_append ..
theorem iss_one (e : Ev) : iss [e] = if e.kind = 0 then 1 else 0 := by
  unfold iss; rw [List.countP_cons]; by_cases h : e.kind = 0 <;> simp [h]
def stepOk (n : Nat) (p : List Ev) (e : Ev) : Prop := (e.kind = 0 ∧ e.write = (iss p : Int) ∧ e.write < n) ∨ (e.kind = 1 ∧ 0 ≤ e.write ∧ e.write < (iss p : Int) ∧ (⟨1, e.write⟩ : Ev) ∉ p)
inductive EvOk (n : Nat) : List Ev → Prop
  | nil : EvOk n []
  | snoc (l : List Ev) (e : Ev) : EvOk n l → stepOk n l e → EvOk n (l ++ [e])
theorem step_iff {n : Nat} {p : List Ev} {t : Tl} {i : Int} {e : Ev} (h : TlOk n p t) (hi : t.issued.length = iss p) : (evStep n i t e).1 = 0 ↔ stepOk n p e := by
  unfold evStep stepOk
  by_cases hk : e.kind = 0
  · rw [if_pos hk]
    by_cases hc : e.write ≠ t.issued.length ∨ e.write ≥ n
    · rw [if_pos hc]
      constructor
      · intro h; exact absurd h (by simp)
      · rintro (⟨_, h1, h2⟩ | ⟨h1, _⟩)
        · omega
        · omega
    · rw [if_neg hc]
      exact ⟨fun _ => .inl ⟨hk, by omega, by omega⟩, fun _ => rfl⟩
  · rw [if_neg hk]
    by_cases hk1 : e.kind = 1
    · rw [if_pos hk1]
      by_cases hc : e.write < 0 ∨ e.write ≥ t.issued.length
      · rw [if_pos hc]
        constructor
        · intro h; exact absurd h (by simp)
        · rintro (⟨h1, _⟩ | ⟨_, h1, h2, _⟩)
          · exact absurd h1 hk
          · omega
      · rw [if_neg hc]
        obtain ⟨y, hy⟩ := Int.eq_ofNat_of_zero_le (show 0 ≤ e.write by omega)
        have hy2 : y < t.acked.length := by have := h.len; omega
        have e2 : t.acked.getD e.write.toNat 0 = atEv p ⟨1, e.write⟩ := by rw [hy, ← h.ack y hy2]; simp [hy2]
        rw [e2]
        by_cases ha : atEv p ⟨1, e.write⟩ ≥ 0
        · rw [if_pos ha]
          constructor
          · intro h; exact absurd h (by simp)
          · rintro (⟨h1, _⟩ | ⟨_, _, _, h1⟩)
            · exact absurd h1 hk
            · exact absurd (atEv_mem.1 ha) h1
        · rw [if_neg ha]
          exact ⟨fun _ => .inr ⟨hk1, by omega, by omega, fun hm => ha (atEv_mem.2 hm)⟩, fun _ => rfl⟩
    · rw [if_neg hk1]
      constructor
      · intro h; exact absurd h (by simp)
      · rintro (⟨h1, _⟩ | ⟨h1, _⟩)
        · exact absurd h1 hk
        · exact absurd h1 hk1
theorem evOk_run {n : Nat} {l : List Ev} : ∀ j, j ≤ l.length → (runEv n l j).1 = 0 → EvOk n (l.take j) ∧ (runEv n l j).2.issued.length = iss (l.take j)
  | 0, _, _ => ⟨by rw [List.take_zero]; exact .nil, rfl⟩
  | j + 1, hj, h0 => by
    have h1 : (runEv n l j).1 = 0 := by
      apply Classical.byContradiction
      intro hne
      have := runEv_stop hne 1
      rw [this] at h0; exact hne h0
    obtain ⟨i1, i2⟩ := evOk_run j (by omega) h1
    rw [runEv_step (by omega) h1] at h0 ⊢
    have ht := runEv_ok (n := n) (l := l) j (by omega) h1
    have hs := (step_iff (i := (j : Int)) (e := l[j]) ht i2).1 h0
    have hlen := evStep_len h0
    rw [List.take_succ_eq_append_getElem (by omega : j < l.length)]
    refine ⟨.snoc _ _ i1 hs, ?_⟩
    rw [iss_app, iss_one]
    by_cases hk : l[j].kind = 0
    · rw [if_pos hk] at hlen ⊢; omega
    · rw [if_neg hk] at hlen ⊢; omega
theorem run_evOk {n : Nat} {l : List Ev} (h : EvOk n l) : (runEv n l l.length).1 = 0 ∧ (runEv n l l.length).2.issued.length = iss l := by
  induction h with
  | nil => exact ⟨rfl, rfl⟩
  | snoc l e hl hs ih =>
    obtain ⟨i1, i2⟩ := ih
    rw [runEv_app i1]
    have ht := runEv_ok (n := n) (l := l) l.length (Nat.le_refl _) i1
    rw [List.take_length] at ht
    have h0 := (step_iff (i := (l.length : Int)) (e := e) ht i2).2 hs
    have hlen := evStep_len h0
    refine ⟨h0, ?_⟩
    rw [iss_app, iss_one]
    by_cases hk : e.kind = 0
    · rw [if_pos hk] at hlen ⊢; omega
    · rw [if_neg hk] at hlen ⊢; omega
theorem firstErr_zero {s : List Int} : ∀ {l : List Wt}, firstErr s l = 0 ↔ ∀ w, w ∈ l → fitsErr s w = 0
  | [] => by simp [firstErr]
  | w :: r => by
    rw [firstErr_cons]
    by_cases h : fitsErr s w ≠ 0
    · rw [if_pos h]
      exact ⟨fun e => absurd e h, fun e => e w List.mem_cons_self⟩
    · rw [if_neg h, firstErr_zero (l := r)]
      have h : fitsErr s w = 0 := by simpa using h
      simp [h]
theorem checkH_iff {h : Hist} : (checkH h).1 = 0 ↔ sizesErr h.sizes = 0 ∧ h.writes.length ≤ 4096 ∧ (∀ w, w ∈ h.writes → fitsErr h.sizes w = 0) ∧ EvOk h.writes.length h.events ∧ iss h.events = h.writes.length := by
  constructor
  · intro hc
    obtain ⟨htl, hlen, k1, k2, k3⟩ := checkH_ok hc
    obtain ⟨r1, r2⟩ := checkH_run hc
    obtain ⟨e1, e2⟩ := evOk_run _ (Nat.le_refl _) r1
    rw [List.take_length] at e1 e2
    rw [r2] at hlen
    exact ⟨k1, k2, firstErr_zero.1 k3, e1, by omega⟩
  · rintro ⟨k1, k2, k3, k4, k5⟩
    obtain ⟨e1, e2⟩ := run_evOk k4
    exact checkH_of k1 k2 (firstErr_zero.2 k3) e1 (by omega)

/-! Restricted. -/
def cntB (s : List Int) (m : Int) : Nat := s.countP fun x => decide (x < m)
theorem cntB_zero {s : List Int} {m : Int} (h : ∀ x, x ∈ s → m ≤ x) : cntB s m = 0 := by
  unfold cntB
  rw [List.countP_eq_zero]
  intro x hx; have := h x hx; simp; omega
theorem cntB_all {s : List Int} {m : Int} (h : ∀ x, x ∈ s → x < m) : cntB s m = s.length := by
  unfold cntB
  rw [List.countP_eq_length]
  intro x hx; have := h x hx; simp; omega
theorem cntB_idx : ∀ {s : List Int}, s.Pairwise (· < ·) → ∀ {k : Nat} (hk : k < s.length), cntB s s[k] = k
  | x :: r, h, 0, _ => by
    rw [List.pairwise_cons] at h
    refine cntB_zero fun y hy => ?_
    rcases List.mem_cons.1 hy with rfl | hy
    · exact Int.le_refl _
    · have := h.1 y hy; simp only [List.getElem_cons_zero]; omega
  | x :: r, h, k + 1, hk => by
    rw [List.pairwise_cons] at h
    have hk' : k < r.length := by simpa using hk
    have ih := cntB_idx h.2 (k := k) hk'
    have hx := h.1 r[k] (List.getElem_mem hk')
    simp only [List.getElem_cons_succ]
    unfold cntB at ih ⊢
    rw [List.countP_cons, ih]; simp [hx]
theorem cntB_succ {m : Int} : ∀ {s : List Int}, s.Pairwise (· < ·) → cntB s (m + 1) = cntB s m + if m ∈ s then 1 else 0
  | [], _ => by simp [cntB]
  | x :: r, h => by
    rw [List.pairwise_cons] at h
    have ih := cntB_succ (m := m) h.2
    unfold cntB at ih ⊢
    rw [List.countP_cons, List.countP_cons, ih]
    by_cases hx : x = m
    · subst hx
      have : x ∉ r := fun hm => by have := h.1 x hm; omega
      rw [if_neg this, if_pos List.mem_cons_self]
      simp; omega
    · have e1 : decide (x < m + 1) = decide (x < m) := by rw [decide_eq_decide]; omega
      have e2 : m ∈ x :: r ↔ m ∈ r := by rw [List.mem_cons]; constructor
                                         · rintro (h | h)
                                           · exact absurd h.symm hx
                                           · exact h
                                         · exact .inr
      simp only [e1, e2]; omega
theorem evR_cases {s : List Int} {n : Int} (h : setH s n = true) (x : Ev) : (x.write ∉ s ∧ evR s x = []) ∨ ∃ k : Nat, ∃ hk : k < s.length, s[k] = x.write ∧ evR s x = [⟨x.kind, (k : Int)⟩] := by
  rw [evR_idx h]
  by_cases hi : idxG s (fun y => decide (x.write = y)) ≥ 0
  · right
    obtain ⟨j, hj, hj1, hj2⟩ := idxG_range (show ¬idxG s (fun y => decide (x.write = y)) < 0 by omega)
    rw [if_pos hi, hj]
    exact ⟨j, hj1, (of_decide_eq_true hj2).symm, rfl⟩
  · left
    rw [if_neg hi]
    refine ⟨fun hm => hi ?_, rfl⟩
    have := idxG_any s (fun y => decide (x.write = y))
    have h2 : s.any (fun y => decide (x.write = y)) = true := List.any_eq_true.2 ⟨_, hm, by simp⟩
    rw [h2] at this
    exact of_decide_eq_true this
theorem restE_app {s : List Int} (a b : List Ev) : restE s (a ++ b) = restE s a ++ restE s b := List.flatMap_append ..
theorem restE_one {s : List Int} (e : Ev) : restE s [e] = evR s e := by simp [restE]
theorem restE_mem {s : List Int} {l : List Ev} {c : Int} {k : Nat} (hk : k < s.length) : (⟨c, (k : Int)⟩ : Ev) ∈ restE s l ↔ (⟨c, s[k]⟩ : Ev) ∈ l := by
  unfold restE evR
  simp only [List.mem_flatMap, List.mem_map, List.mem_filter, List.mem_range, decide_eq_true_eq]
  constructor
  · rintro ⟨x, hx, j, ⟨hj, e⟩, he⟩
    injection he with e1 e2
    have e2 : j = k := by omega
    subst e2
    rw [getD_lt hj] at e
    obtain ⟨a, b⟩ := x
    simp only at e e1
    subst e1; rw [e]; exact hx
  · intro h
    exact ⟨_, h, k, ⟨hk, getD_lt hk⟩, rfl⟩
theorem rest_evOk {s : List Int} {n : Nat} (hs : setH s n = true) {l : List Ev} (h : EvOk n l) : EvOk s.length (restE s l) ∧ iss (restE s l) = cntB s (iss l) := by
  have hp := asc_pair (setH_iff.1 hs).1
  induction h with
  | nil => exact ⟨.nil, (cntB_zero fun x hx => by have := (setH_iff.1 hs).2 x hx; simp [iss]; omega).symm⟩
  | snoc l e hl hst ih =>
    obtain ⟨i1, i2⟩ := ih
    rw [restE_app, restE_one, iss_app, iss_app, iss_one]
    rcases hst with ⟨k1, k2, k3⟩ | ⟨k1, k2, k3, k4⟩
    · rw [if_pos k1]
      have sc := cntB_succ (m := (iss l : Int)) hp
      rcases evR_cases hs e with ⟨hm, he⟩ | ⟨k, hk, hsk, he⟩
      · rw [he, List.append_nil]
        refine ⟨i1, ?_⟩
        rw [k2] at hm
        rw [if_neg hm] at sc
        have : ((iss l + 1 : Nat) : Int) = (iss l : Int) + 1 := by omega
        rw [this, sc, i2]; simp [iss]
      · have ck := cntB_idx hp hk
        rw [hsk, k2] at ck
        have hm : (iss l : Int) ∈ s := by rw [← k2, ← hsk]; exact List.getElem_mem hk
        rw [if_pos hm] at sc
        rw [he]
        refine ⟨.snoc _ _ i1 (.inl ⟨k1, ?_, ?_⟩), ?_⟩
        · simp only; rw [i2, ck]
        · simp only; omega
        · rw [iss_one, if_pos k1]
          have : ((iss l + 1 : Nat) : Int) = (iss l : Int) + 1 := by omega
          rw [this, sc, i2]
    · have hk0 : ¬e.kind = 0 := by omega
      rw [if_neg hk0, Nat.add_zero]
      rcases evR_cases hs e with ⟨hm, he⟩ | ⟨k, hk, hsk, he⟩
      · rw [he, List.append_nil]; exact ⟨i1, by rw [i2]; simp [iss]⟩
      · rw [he]
        refine ⟨.snoc _ _ i1 (.inr ⟨k1, ?_, ?_, ?_⟩), ?_⟩
        · simp only; omega
        · simp only
          rw [i2]
          have ck := cntB_idx hp hk
          rw [hsk] at ck
          have hle : cntB s (e.write + 1) ≤ cntB s (iss l) := by
            unfold cntB
            apply List.countP_mono_left
            intro x _ h
            simp only [decide_eq_true_eq] at h ⊢; omega
          have sc := cntB_succ (m := e.write) hp
          rw [if_pos (by rw [← hsk]; exact List.getElem_mem hk)] at sc
          omega
        · simp only
          rw [restE_mem hk, hsk]; exact k4
        · rw [iss_one, if_neg hk0]; simpa using i2
theorem pickW_mem {ws : List Wt} {s : List Int} (h : ∀ x, x ∈ s → 0 ≤ x ∧ x < (ws.length : Int)) {w : Wt} (hw : w ∈ pickW ws s) : w ∈ ws := by
  unfold pickW at hw
  obtain ⟨x, hx, rfl⟩ := List.mem_map.1 hw
  have := h x hx
  have hl : x.toNat < ws.length := by omega
  rw [List.getD_eq_getElem?_getD, List.getElem?_eq_getElem hl]
  exact List.getElem_mem hl
theorem setH_len {s : List Int} {n : Nat} (h : setH s n = true) : s.length ≤ n := by
  have hp := asc_pair (setH_iff.1 h).1
  have h2 := (setH_iff.1 h).2
  rcases Nat.eq_zero_or_pos s.length with h0 | h0
  · omega
  · have hk : s.length - 1 < s.length := by omega
    have : ∀ k, (hk : k < s.length) → (k : Int) ≤ s[k] := by
      intro k
      induction k with
      | zero => intro hk; have := h2 _ (List.getElem_mem hk); omega
      | succ k ih =>
        intro hk
        have := ih (by omega)
        have := (List.pairwise_iff_getElem.1 hp) k (k + 1) (by omega) hk (by omega)
        omega
    have h3 := this _ hk
    have h4 := h2 _ (List.getElem_mem hk)
    omega
theorem restrict_ok {h : Hist} {s : List Int} (hc : (checkH h).1 = 0) (hs : setH s h.writes.length = true) : (checkH ⟨h.sizes, pickW h.writes s, restE s h.events⟩).1 = 0 := by
  obtain ⟨k1, k2, k3, k4, k5⟩ := checkH_iff.1 hc
  obtain ⟨e1, e2⟩ := rest_evOk hs k4
  have h2 := (setH_iff.1 hs).2
  have hl := setH_len hs
  refine checkH_iff.2 ⟨k1, by simp only [pickW_len]; omega, fun w hw => k3 w (pickW_mem h2 hw), by simp only [pickW_len]; exact e1, ?_⟩
  simp only [pickW_len]
  rw [e2, k5]
  exact cntB_all fun x hx => (h2 x hx).2
end Sx
end
