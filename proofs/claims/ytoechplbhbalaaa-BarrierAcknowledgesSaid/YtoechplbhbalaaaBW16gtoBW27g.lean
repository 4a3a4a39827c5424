/- Layer 21: Durable, Release, walked. -/
import Derived.KernelRfl
import Derived.Test.YtoechplbhbalaaaBW8gtoBW15
import Derived.Test.YtoechplbhbalaaaCdtoBW7g
set_option linter.all false
section
open Go Go.Proofs Sx
namespace Go.Proofs.Ytoechplbhbalaaa
set_option maxRecDepth 100000
set_option maxHeartbeats 0
section
variable (n j now write : Int) (a b d s wt hd : D) (frozen : Bool) (mr mp mt mi mu : Int)
theorem rel1_in : exec Try.prog ctD 600 (entry Try.prog 42 [.agg [.int .i64 mr, .int .i64 mp, .int .i64 mt, .int .i64 mi, .bool frozen, .int .i64 mu, .dat wt, .dat hd], .int .i64 now]) =
 Tree.need (MbD.Right (MbD.mk mr mp mt mi frozen mu wt hd))
 (.br (checkMb (MbD.mb (MbD.mk mr mp mt mi frozen mu wt hd)) != 0)
 (.ret
 (SV.tup
 [.agg
 [.int .i64 mr, .int .i64 mp, .int .i64 mt, .int .i64 mi, .bool frozen,
 .int .i64 mu, .dat wt, .dat hd],
 .nils]))
 (.br (!frozen)
 (.ret
 (SV.tup
 [.agg
 [.int .i64 mr, .int .i64 mp, .int .i64 mt, .int .i64 mi,
 .bool frozen, .int .i64 mu, .dat wt, .dat hd],
 .nils]))
 (.br (decide (mu > now))
 (.ret
 (SV.tup
 [.agg
 [.int .i64 mr, .int .i64 mp, .int .i64 mt, .int .i64 mi,
 .bool frozen, .int .i64 mu, .dat wt, .dat hd],
 .nils]))
 (.need (D.Is Int hd ∧ D.len hd ≤ 1048576)
 (.all fun hs =>
 .all fun hs_1 =>
 .ret
 (SV.tup
 [.agg
 [.int .i64 mr, .int .i64 mp, .int .i64 mt, .int .i64 mi,
 .lb false, .int .i64 mu, .dat wt, .nils],
 .dat (D.slc (D.hd (hs 0 0)) 1 (D.rows hd))])))))) := by kernel_rfl

theorem rel2_in : exec Try.prog ctD 600 (entry Try.prog 43 [.agg [.int .i64 mr, .int .i64 mp, .int .i64 mt, .int .i64 mi, .bool frozen, .int .i64 mu, .dat wt, .dat hd], .int .i64 now]) =
 Tree.need (MbD.Right (MbD.mk mr mp mt mi frozen mu wt hd))
 (.br (checkMb (MbD.mb (MbD.mk mr mp mt mi frozen mu wt hd)) != 0)
 (.ret
 (SV.tup
 [.agg
 [.int .i64 mr, .int .i64 mp, .int .i64 mt, .int .i64 mi, .bool frozen,
 .int .i64 mu, .dat wt, .dat hd],
 .nils]))
 (.br (!frozen)
 (.ret
 (SV.tup
 [.agg
 [.int .i64 mr, .int .i64 mp, .int .i64 mt, .int .i64 mi,
 .bool frozen, .int .i64 mu, .dat wt, .dat hd],
 .nils]))
 (.br (decide (mu > now))
 (.ret
 (SV.tup
 [.agg
 [.int .i64 mr, .int .i64 mp, .int .i64 mt, .int .i64 mi,
 .bool frozen, .int .i64 mu, .dat wt, .dat hd],
 .nils]))
 (.need (MbD.Right (MbD.mk mr mp mt mi frozen mu wt hd))
 (.all fun hs =>
 .ret
 (SV.tup
 [.agg
 [.int .i64 mr, .int .i64 mp, .int .i64 mt, .int .i64 mi,
 .bool false, .int .i64 mu, .dat (D.like (hs 0 0) (D.to Int wt)),
 .dat (D.like (hs 0 1) ([] : List Int))],
 .dat (D.like (hs 0 2) (D.to Int hd))])))))) := by kernel_rfl

theorem dur1_in : exec Try.prog ctD 600 (entry Try.prog 40 [.agg [.int .i64 mr, .int .i64 mp, .int .i64 mt, .int .i64 mi, .bool frozen, .int .i64 mu, .dat wt, .dat hd], .int .i64 write]) =
 Tree.need (MbD.Right (MbD.mk mr mp mt mi frozen mu wt hd))
 (.br (checkMb (MbD.mb (MbD.mk mr mp mt mi frozen mu wt hd)) != 0)
 (.ret
 (SV.tup
 [.agg
 [.int .i64 0, .int .i64 0, .int .i64 0, .int .i64 0, .lb false,
 .int .i64 0, .nils, .nils],
 .nils, .int .i64 (checkMb (MbD.mb (MbD.mk mr mp mt mi frozen mu wt hd)))]))
 (.need (D.Is Int wt ∧ D.len wt ≤ 1048576)
 (.br (decide ((idxP (D.to Int wt) fun y => decide (write = y)) < 0))
 (.ret
 (SV.tup
 [.agg
 [.int .i64 0, .int .i64 0, .int .i64 0, .int .i64 0, .lb false,
 .int .i64 0, .nils, .nils],
 .nils, .int .i64 7]))
 (.need (D.Is Int wt ∧ D.len wt ≤ 1048576)
 (.all fun hs =>
 .need
 (D.Is Int (D.slc (D.hd (hs 0 0)) 1 (D.rows wt)) ∧
 (0 ≤ idxP (D.to Int wt) fun y => decide (write = y)) ∧
 (idxP (D.to Int wt) fun y => decide (write = y)) <
 IntKind.wrap .i64 ((idxP (D.to Int wt) fun y => decide (write = y)) + 1) ∧
 IntKind.wrap .i64 ((idxP (D.to Int wt) fun y => decide (write = y)) + 1) ≤
 (↑(D.len (D.slc (D.hd (hs 0 0)) 1 (D.rows wt))) : Int))
 (.all fun hs_1 =>
 .br (!frozen)
 (.all fun hs_2 =>
 .ret
 (SV.tup
 [.agg
 [.int .i64 mr, .int .i64 mp, .int .i64 mt, .int .i64 mi,
 .bool frozen, .int .i64 mu,
 .dat
 (D.slc (D.hd (D.slc (D.hd (hs 0 0)) 1 (D.rows wt)))
 (D.sz (D.slc (D.hd (hs 0 0)) 1 (D.rows wt)))
 (List.append
 (List.take (Int.toNat (idxP (D.to Int wt) fun y => decide (write = y)))
 (D.rows (D.slc (D.hd (hs 0 0)) 1 (D.rows wt))))
 (List.drop
 (Int.toNat
 (IntKind.wrap .i64
 ((idxP (D.to Int wt) fun y => decide (write = y)) + 1)))
 (D.rows (D.slc (D.hd (hs 0 0)) 1 (D.rows wt)))))),
 .dat hd],
 .dat (D.slc (D.hd (hs_2 0 0)) 1 [[D.int .i64 write]]), .int .i64 0]))
 (.need (D.Is Int hd ∧ D.len hd ≤ 1048576)
 (.all fun hs_2 =>
 .all fun hs_3 =>
 .need
 (D.sz (D.slc (D.hd (hs_2 0 0)) 1 (D.rows hd)) = 1 ∧
 D.Fits (D.slc (D.hd (hs_3 0 0)) 1 [[D.int .i64 write]]) 1 ∧
 (D.len (D.slc (D.hd (hs_2 0 0)) 1 (D.rows hd)) +
 D.len (D.slc (D.hd (hs_3 0 0)) 1 [[D.int .i64 write]])) *
 8 ≤
 140737488355328 ∧
 D.len (D.slc (D.hd (hs_2 0 0)) 1 (D.rows hd)) +
 D.len (D.slc (D.hd (hs_3 0 0)) 1 [[D.int .i64 write]]) ≤
 9223372036854775807)
 (.all fun hs_4 =>
 .ret
 (SV.tup
 [.agg
 [.int .i64 mr, .int .i64 mp, .int .i64 mt,
 .int .i64 mi, .bool frozen, .int .i64 mu,
 .dat
 (D.slc (D.hd (D.slc (D.hd (hs 0 0)) 1 (D.rows wt)))
 (D.sz (D.slc (D.hd (hs 0 0)) 1 (D.rows wt)))
 (List.append
 (List.take (Int.toNat (idxP (D.to Int wt) fun y => decide (write = y)))
 (D.rows (D.slc (D.hd (hs 0 0)) 1 (D.rows wt))))
 (List.drop
 (Int.toNat
 (IntKind.wrap .i64
 ((idxP (D.to Int wt) fun y => decide (write = y)) + 1)))
 (D.rows (D.slc (D.hd (hs 0 0)) 1 (D.rows wt)))))),
 .dat
 (D.slc (D.hd (hs_4 0 0)) 1
 (List.append (D.rows (D.slc (D.hd (hs_2 0 0)) 1 (D.rows hd)))
 (D.rows (D.slc (D.hd (hs_3 0 0)) 1 [[D.int .i64 write]]))))],
 .nils, .int .i64 0])))))))))) := by kernel_rfl

theorem dur2_in : exec Try.prog ctD 600 (entry Try.prog 41 [.agg [.int .i64 mr, .int .i64 mp, .int .i64 mt, .int .i64 mi, .bool frozen, .int .i64 mu, .dat wt, .dat hd], .int .i64 write]) =
 Tree.need (MbD.Right (MbD.mk mr mp mt mi frozen mu wt hd))
 (.br (checkMb (MbD.mb (MbD.mk mr mp mt mi frozen mu wt hd)) != 0)
 (.ret
 (SV.tup
 [.agg
 [.int .i64 0, .int .i64 0, .int .i64 0, .int .i64 0, .lb false,
 .int .i64 0, .nils, .nils],
 .nils, .int .i64 3]))
 (.need (D.Is Int wt ∧ D.len wt ≤ 1048576)
 (.br (!List.contains (D.to Int wt) write)
 (.ret
 (SV.tup
 [.agg
 [.int .i64 0, .int .i64 0, .int .i64 0, .int .i64 0, .lb false,
 .int .i64 0, .nils, .nils],
 .nils, .int .i64 7]))
 (.leaf
 (Conf.mk
 (SFrm.mk 41 none none
 [Item.inLoop (cAt Try.prog 41 [1, 1, 1, 1, 0, 1, 0, 0]), Item.inBlock 0,
 Item.code (cAt Try.prog 41 [1, 1, 1, 1, 1])]
 (mkJ 0
 [(1, .int .i64 write), (2, .ptr 0 0), (4, .ptr 1 0), (7, .nils),
 (8, .int .i64 0)]
 0 57))
 []
 [(0,
 OBlk.cells 28
 [.int .i64 mr, .int .i64 mp, .int .i64 mt, .int .i64 mi,
 .bool frozen, .int .i64 mu, .dat wt, .dat hd]),
 (1,
 OBlk.cells 28
 [.int .i64 0, .int .i64 0, .int .i64 0, .int .i64 0, .lb false,
 .int .i64 0, .nils, .nils])]))))) := by kernel_rfl

end
end Go.Proofs.Ytoechplbhbalaaa
end
section
/- Layer 21: the loop of the reference's Durable, walked. -/
open Go Go.Proofs Sx
namespace Go.Proofs.Ytoechplbhbalaaa
set_option maxRecDepth 100000
set_option maxHeartbeats 0
noncomputable def durL (mr mp mt mi mu : Int) (frozen : Bool) (wt hd : D) (write : Int) (out : D) (j : Int) : Conf :=
 Conf.mk (SFrm.mk 41 none none [Item.inLoop (cAt Try.prog 41 [1, 1, 1, 1, 0, 1, 0, 0]), Item.inBlock 0, Item.code (cAt Try.prog 41 [1, 1, 1, 1, 1])]
 (mkJ 0 [(1, .int .i64 write), (2, .ptr 0 0), (4, .ptr 1 0), (7, .vec 2), (8, .int .i64 j)] 0 57)) []
 [(0, OBlk.cells 28 [.int .i64 mr, .int .i64 mp, .int .i64 mt, .int .i64 mi, .bool frozen, .int .i64 mu, .dat wt, .dat hd]),
 (1, OBlk.cells 28 [.int .i64 0, .int .i64 0, .int .i64 0, .int .i64 0, .lb false, .int .i64 0, .nils, .nils]), (2, OBlk.arr 3 out)]
section
variable (n j now write : Int) (a b d s wt hd out : D) (frozen : Bool) (mr mp mt mi mu : Int)
theorem durl_go : 
 let z1 := (SFrm.mk 41 none none [Item.inLoop (cAt Try.prog 41 [1, 1, 1, 1, 0, 1, 0, 0]), Item.inBlock 0, Item.code (cAt Try.prog 41 [1, 1, 1, 1, 1])] (mkJ 0 [(1, .int .i64 write), (2, .ptr 0 0), (4, .ptr 1 0), (7, .vec 2), (8, .int .i64 (IntKind.wrap .i64 (j + 1)))] 0 57))
 exec Try.prog ctD 600 (unroll (durL mr mp mt mi mu frozen wt hd write out j)) =
 Tree.br (decide (j < (↑(D.len wt) : Int))) (.need (0 ≤ j ∧ j < (↑(D.len wt) : Int) ∧ D.sz wt = 1) (.need (D.HasCell wt (Int.toNat j) 0 (FT.int .i64)) (.br (D.getInt wt (Int.toNat j) 0 != write) (.need
 (0 ≤ j ∧ j < (↑(D.len wt) : Int) ∧ D.sz wt = 1) (.need (D.HasCell wt (Int.toNat j) 0 (FT.int .i64)) (.all fun hs => .need (D.sz out = 1 ∧ D.Fits (D.slc (D.hd (hs 0 0)) 1 [[D.int .i64 (D.getInt wt (Int.toNat j) 0)]]) 1 ∧
 (D.len out + D.len (D.slc (D.hd (hs 0 0)) 1 [[D.int .i64 (D.getInt wt (Int.toNat j) 0)]])) * 8 ≤ 140737488355328 ∧ D.len out + D.len (D.slc (D.hd (hs 0 0)) 1 [[D.int .i64 (D.getInt wt (Int.toNat j) 0)]]) ≤ 9223372036854775807)
 (.all fun hs_1 => .leaf (Conf.mk z1 [] [(0, OBlk.cells 28 [.int .i64 mr, .int .i64 mp, .int .i64 mt, .int .i64 mi, .bool frozen, .int .i64 mu, .dat wt, .dat hd]), (1, OBlk.cells 28 [.int .i64 0, .int .i64 0, .int .i64 0, .int .i64 0, .lb false, .int .i64 0, .nils, .nils]),
 (2, OBlk.arr 3 (D.slc (D.hd (hs_1 0 0)) 1 (List.append (D.rows out) (D.rows (D.slc (D.hd (hs 0 0)) 1 [[D.int .i64 (D.getInt wt (Int.toNat j) 0)]])))))]))))) (.leaf (Conf.mk z1 [] [(0, OBlk.cells 28 [.int .i64 mr, .int .i64 mp, .int .i64 mt, .int .i64 mi, .bool frozen, .int .i64 mu, .dat wt, .dat hd]),
 (1, OBlk.cells 28 [.int .i64 0, .int .i64 0, .int .i64 0, .int .i64 0, .lb false, .int .i64 0, .nils, .nils]), (2, OBlk.arr 3 out)]))))) (.br frozen (.all fun hs => .need (D.sz (D.slc (D.hd (hs 0 0)) 1 []) = 1 ∧ D.Fits hd 1 ∧
 (D.len (D.slc (D.hd (hs 0 0)) 1 []) + D.len hd) * 8 ≤ 140737488355328 ∧ D.len (D.slc (D.hd (hs 0 0)) 1 []) + D.len hd ≤ 9223372036854775807) (.all fun hs_1 => .all fun hs_2 => .need (D.sz (D.slc (D.hd
 (hs_1 0 0)) 1 (List.append (D.rows (D.slc (D.hd (hs 0 0)) 1 [])) (D.rows hd))) = 1 ∧ D.Fits (D.slc (D.hd (hs_2 0 0)) 1 [[D.int .i64 write]]) 1 ∧ (D.len (D.slc (D.hd (hs_1 0 0)) 1 (List.append (D.rows (D.slc
 (D.hd (hs 0 0)) 1 [])) (D.rows hd))) + D.len (D.slc (D.hd (hs_2 0 0)) 1 [[D.int .i64 write]])) * 8 ≤ 140737488355328 ∧ D.len (D.slc (D.hd (hs_1 0 0)) 1 (List.append (D.rows (D.slc (D.hd (hs 0 0)) 1 []))
 (D.rows hd))) + D.len (D.slc (D.hd (hs_2 0 0)) 1 [[D.int .i64 write]]) ≤ 9223372036854775807) (.all fun hs_3 => .ret (SV.tup [.agg [.int .i64 mr, .int .i64 mp, .int .i64 mt, .int .i64 mi, .bool frozen, .int .i64 mu, .dat out, .dat
 (D.slc (D.hd (hs_3 0 0)) 1 (List.append (D.rows (D.slc (D.hd (hs_1 0 0)) 1 (List.append (D.rows (D.slc (D.hd (hs 0 0)) 1 [])) (D.rows hd)))) (D.rows (D.slc (D.hd (hs_2 0 0)) 1 [[D.int .i64 write]]))))], .nils, .int .i64 0]))))
 (.all fun hs => .ret (SV.tup [.agg [.int .i64 mr, .int .i64 mp, .int .i64 mt, .int .i64 mi, .bool frozen, .int .i64 mu, .dat out, .dat hd], .dat (D.slc (D.hd (hs 0 0)) 1 [[D.int .i64 write]]), .int .i64 0]))) := by
 intros; kernel_rfl

end
end Go.Proofs.Ytoechplbhbalaaa
end
section
/- Layer 21: the laws of Durable and Release. -/
open Go Go.Proofs Sx
namespace Sx

theorem checkMb_or (m : Mb) : checkMb m = 0 ∨ checkMb m = 3 := by
  unfold checkMb
  repeat' split
  all_goals simp

theorem checkMb_up {m : Mb} (h : checkMb m = 0) : ∀ i, (hi : i + 1 < m.waiting.length) → m.waiting[i] < m.waiting[i + 1] := by
  unfold checkMb at h
  split at h
  · cases h
  · split at h
    · cases h
    · rename_i hh
      simp only [Bool.not_eq_true, List.any_eq_false, List.mem_range, badW, Bool.or_eq_true, not_or, Bool.and_eq_true, decide_eq_true_eq, not_and] at hh
      intro i hi
      have := (hh (i + 1) hi).2 (by omega)
      simp [hi, show i < m.waiting.length by omega] at this
      omega

theorem up_lt {l : List Int} (h : ∀ i, (hi : i + 1 < l.length) → l[i] < l[i + 1]) : ∀ k i, (hk : i + k + 1 < l.length) → l[i] < l[i + k + 1]
  | 0, i, hk => h i hk
  | k + 1, i, hk => by
    have h1 := up_lt h k i (by omega)
    have h2 := h (i + k + 1) (by omega)
    have e : i + (k + 1) + 1 = i + k + 1 + 1 := by omega
    simp only [e]
    omega

theorem filter_up {l : List Int} (h : ∀ i, (hi : i + 1 < l.length) → l[i] < l[i + 1]) {i : Nat} (hi : i < l.length) : l.filter (fun y => y != l[i]) = l.take i ++ l.drop (i + 1) := by
  have e : l = l.take i ++ (l[i] :: l.drop (i + 1)) := by rw [List.getElem_cons_drop, List.take_append_drop]
  have e2 : ∀ p : Int → Bool, l.filter p = (l.take i ++ (l[i] :: l.drop (i + 1))).filter p := fun p => congrArg (List.filter p) e
  rw [e2, List.filter_append, List.filter_cons]
  simp only [bne_self_eq_false, Bool.false_eq_true, if_false]
  rw [List.filter_eq_self.2, List.filter_eq_self.2]
  · intro y hy
    obtain ⟨k, hk, rfl⟩ := List.mem_iff_getElem.1 hy
    simp only [List.length_drop] at hk
    rw [List.getElem_drop]
    have h1 := up_lt h k i (by omega)
    have e : i + 1 + k = i + k + 1 := by omega
    simp only [e, bne_iff_ne]
    omega
  · intro y hy
    obtain ⟨k, hk, rfl⟩ := List.mem_iff_getElem.1 hy
    simp only [List.length_take] at hk
    rw [List.getElem_take]
    have h1 := up_lt h (i - k - 1) k (by omega)
    have e : k + (i - k - 1) + 1 = i := by omega
    simp only [e] at h1
    simp only [bne_iff_ne]
    omega

theorem idxP_cases (l : List Int) (x : Int) : (idxP l (fun y => decide (x = y)) = -1 ∧ l.contains x = false) ∨ ∃ i : Nat, idxP l (fun y => decide (x = y)) = i ∧ ∃ h : i < l.length, l[i] = x := by
  unfold idxP
  cases hf : l.findIdx? (fun y => decide (x = y)) with
  | none =>
    refine .inl ⟨rfl, ?_⟩
    rw [List.findIdx?_eq_none_iff] at hf
    rw [Bool.eq_false_iff]
    intro hc
    have := hf x (List.contains_iff_mem.1 hc)
    simp at this
  | some i =>
    rw [List.findIdx?_eq_some_iff_getElem] at hf
    obtain ⟨h1, h2, _⟩ := hf
    exact .inr ⟨i, rfl, h1, by simpa using (of_decide_eq_true h2).symm⟩

theorem dur_bad {m : Mb} {x : Int} (h : ¬checkMb m = 0) : durMb m x = (noMb, [], 3) := by rw [durMb, if_pos h]
theorem dur_none {m : Mb} {x : Int} (h : checkMb m = 0) (h2 : m.waiting.contains x = false) : durMb m x = (noMb, [], 7) := by rw [durMb, if_neg (not_not_intro h), if_pos h2]
theorem dur_held {m : Mb} {x : Int} (h : checkMb m = 0) (h2 : m.waiting.contains x = true) (h3 : m.frozen = true) : durMb m x = ({ m with waiting := m.waiting.filter fun y => y != x, held := m.held ++ [x] }, [], 0) := by
  rw [durMb, if_neg (not_not_intro h), if_neg (by rw [h2]; decide), if_pos h3]
theorem dur_free {m : Mb} {x : Int} (h : checkMb m = 0) (h2 : m.waiting.contains x = true) (h3 : m.frozen = false) : durMb m x = ({ m with waiting := m.waiting.filter fun y => y != x }, [x], 0) := by
  rw [durMb, if_neg (not_not_intro h), if_neg (by rw [h2]; decide), if_neg (by simp [h3])]

section
variable {P : Program} {w : World} {H : HV}
theorem ret_mb2I {r p t i u k : Int} {F W Hd X : SV} {f : Bool} {ws hs av : List Int} {res : Mb × List Int × Int} (hf : ∀ E, F.den E = (SV.bool f).den E) (hw : Stands Int W ws) (hh : Stands Int Hd hs) (hx : Stands Int X av)
    (hr : res = (⟨r, p, t, i, f, u, ws, hs⟩, av, k)) :
    (Tree.ret (.tup [.agg [.int .i64 r, .int .i64 p, .int .i64 t, .int .i64 i, F, .int .i64 u, W, Hd], X, .int .i64 k])).holds P ⟨w, H⟩ (RetD w H fun ds => .tup [mbSV (ds 0) (ds 1) res.1, .dat ((ds 2).like res.2.1), .int .i64 res.2.2]) := by
  subst hr
  obtain ⟨d, h1, h2, h3, h4⟩ := hw
  obtain ⟨d', h1', h2', h3', h4'⟩ := hh
  obtain ⟨d'', h1'', h2'', h3'', h4''⟩ := hx
  refine ret_D (fun i => match i with | 0 => d | 1 => d' | _ => d'') (fun E E' => ?_) (fun H' ho => ?_)
  · have : F.den E = (SV.bool f).den E' := by rw [hf]; rfl
    simp only [SV.den, SV.denL, mbSV, D.like_self h2 h3, D.like_self h2' h3', D.like_self h2'' h3'', h1, h1', h1'', this]
  · simp only [SV.Ok, SV.OkL, mbSV, D.like_self h2 h3, D.like_self h2' h3', D.like_self h2'' h3''] at ho ⊢
    exact ⟨⟨trivial, trivial, trivial, trivial, trivial, trivial, ⟨h4 _ ho.1.2.2.2.2.2.2.1, h2.slc⟩, ⟨h4' _ ho.1.2.2.2.2.2.2.2.1, h2'.slc⟩, trivial⟩, ⟨h4'' _ ho.2.1, h2''.slc⟩, trivial, trivial⟩
end

theorem int_one (x : Int) : SRows Int [[.int .i64 x]] [x] := rows_one ⟨_, rfl⟩ rfl
end Sx

namespace Go.Proofs.Ytoechplbhbalaaa
set_option maxRecDepth 100000
set_option maxHeartbeats 0

theorem ctDOk : Ctrs.Ok Try.prog ctD := by
  intro x hx
  simp only [ctD, List.mem_cons] at hx
  rcases hx with rfl | rfl | hx
  · exact ctr74
  · exact ctrOf_ok lawIx
  · exact ctMOk _ hx

theorem lawRel1 : Law Try.prog 42 ((rdMb.two rdInt).sp spRls) := by
  refine law_in _ (by kernel_rfl) fun H w ⟨⟨r, p, t, i, f, u, wt, hd⟩, now⟩ hok hp => ?_
  have hR := hp _ (List.mem_singleton.2 rfl)
  have hR' := hR
  obtain ⟨hw, hh, lw, lh⟩ := hR
  simp only at hw hh lw lh
  clear hp hok
  apply exec_sound ctDOk 600
  rw [show (rdMb.two rdInt).canon (⟨r, p, t, i, f, u, wt, hd⟩, now) = [.agg [.int .i64 r, .int .i64 p, .int .i64 t, .int .i64 i, .bool f, .int .i64 u, .dat wt, .dat hd], .int .i64 now] from rfl, rel1_in]
  have bad : (¬checkMb ⟨r, p, t, i, f, u, wt.to Int, hd.to Int⟩ = 0 ∨ f = false ∨ u > now) → relMb ⟨r, p, t, i, f, u, wt.to Int, hd.to Int⟩ now = (⟨r, p, t, i, f, u, wt.to Int, hd.to Int⟩, []) := fun h => by rw [relMb, if_pos h]
  refine ⟨hR', fun hc => ?_, fun hc => ⟨fun h1 => ?_, fun h1 => ⟨fun h2 => ?_, fun h2 => ⟨⟨hh, by omega⟩, fun hs hs1 => ?_⟩⟩⟩⟩
  · simp only [bne_iff_ne, ne_eq] at hc
    exact ret_mb2 (fun _ => rfl) (stands_self hw) (stands_self hh) stands_nils (bad (.inl hc))
  · simp only [Bool.not_eq_true'] at h1
    exact ret_mb2 (fun _ => rfl) (stands_self hw) (stands_self hh) stands_nils (bad (.inr (.inl h1)))
  · simp only [decide_eq_true_eq] at h2
    exact ret_mb2 (fun _ => rfl) (stands_self hw) (stands_self hh) stands_nils (bad (.inr (.inr h2)))
  · simp only [bne_eq_false_iff_eq] at hc
    simp only [Bool.not_eq_false'] at h1
    simp only [decide_eq_false_iff_not] at h2
    have hc : checkMb ⟨r, p, t, i, f, u, wt.to Int, hd.to Int⟩ = 0 := hc
    refine ret_mb2 lb_den (stands_self hw) stands_nils (stands_rows rfl (rows_of hh)) ?_
    show relMb ⟨r, p, t, i, f, u, wt.to Int, hd.to Int⟩ now = _
    rw [relMb, if_neg (by rintro (h | h | h); exact h hc; exact absurd (h1.symm.trans h) (by decide); exact h2 h)]
    rfl

theorem lawRel2 : Law Try.prog 43 ((rdMb.two rdInt).sp spRls) := by
  refine law_in _ (by kernel_rfl) fun H w ⟨⟨r, p, t, i, f, u, wt, hd⟩, now⟩ hok hp => ?_
  have hR := hp _ (List.mem_singleton.2 rfl)
  have hR' := hR
  obtain ⟨hw, hh, lw, lh⟩ := hR
  simp only at hw hh lw lh
  clear hp hok
  apply exec_sound ctDOk 600
  rw [show (rdMb.two rdInt).canon (⟨r, p, t, i, f, u, wt, hd⟩, now) = [.agg [.int .i64 r, .int .i64 p, .int .i64 t, .int .i64 i, .bool f, .int .i64 u, .dat wt, .dat hd], .int .i64 now] from rfl, rel2_in]
  have bad : (¬checkMb ⟨r, p, t, i, f, u, wt.to Int, hd.to Int⟩ = 0 ∨ f = false ∨ u > now) → relMb ⟨r, p, t, i, f, u, wt.to Int, hd.to Int⟩ now = (⟨r, p, t, i, f, u, wt.to Int, hd.to Int⟩, []) := fun h => by rw [relMb, if_pos h]
  refine ⟨hR', fun hc => ?_, fun hc => ⟨fun h1 => ?_, fun h1 => ⟨fun h2 => ?_, fun h2 => ⟨hR', fun hs => ?_⟩⟩⟩⟩
  · simp only [bne_iff_ne, ne_eq] at hc
    exact ret_mb2 (fun _ => rfl) (stands_self hw) (stands_self hh) stands_nils (bad (.inl hc))
  · simp only [Bool.not_eq_true'] at h1
    exact ret_mb2 (fun _ => rfl) (stands_self hw) (stands_self hh) stands_nils (bad (.inr (.inl h1)))
  · simp only [decide_eq_true_eq] at h2
    exact ret_mb2 (fun _ => rfl) (stands_self hw) (stands_self hh) stands_nils (bad (.inr (.inr h2)))
  · simp only [bne_eq_false_iff_eq] at hc
    simp only [Bool.not_eq_false'] at h1
    simp only [decide_eq_false_iff_not] at h2
    have hc : checkMb ⟨r, p, t, i, f, u, wt.to Int, hd.to Int⟩ = 0 := hc
    refine ret_mb2 (fun _ => rfl) stands_like stands_like stands_like ?_
    show relMb ⟨r, p, t, i, f, u, wt.to Int, hd.to Int⟩ now = _
    rw [relMb, if_neg (by rintro (h | h | h); exact h hc; exact absurd (h1.symm.trans h) (by decide); exact h2 h)]
    rfl

theorem lawDur1 : Law Try.prog 40 ((rdMb.two rdInt).sp spDur) := by
  refine law_in _ (by kernel_rfl) fun H w ⟨⟨r, p, t, i, f, u, wt, hd⟩, x⟩ hok hp => ?_
  have hR := hp _ (List.mem_singleton.2 rfl)
  have hR' := hR
  obtain ⟨hw, hh, lw, lh⟩ := hR
  simp only at hw hh lw lh
  have l1 := D.Is.length (α := Int) wt
  have l2 := rows_len (rows_of hw)
  have l3 := D.Is.length (α := Int) hd
  have l4 := rows_len (rows_of hh)
  clear hp hok
  apply exec_sound ctDOk 600
  rw [show (rdMb.two rdInt).canon (⟨r, p, t, i, f, u, wt, hd⟩, x) = [.agg [.int .i64 r, .int .i64 p, .int .i64 t, .int .i64 i, .bool f, .int .i64 u, .dat wt, .dat hd], .int .i64 x] from rfl, dur1_in]
  have hq : MbD.mb ⟨r, p, t, i, f, u, wt, hd⟩ = ⟨r, p, t, i, f, u, wt.to Int, hd.to Int⟩ := rfl
  simp only [hq]
  refine ⟨hR', fun hc => ?_, fun hc => ⟨⟨hw, by omega⟩, ?_⟩⟩
  · simp only [bne_iff_ne, ne_eq] at hc
    have h3 : checkMb ⟨r, p, t, i, f, u, wt.to Int, hd.to Int⟩ = 3 := (checkMb_or _).resolve_left hc
    rw [h3]
    exact ret_mb2I lb_den stands_nils stands_nils stands_nils (dur_bad hc)
  · simp only [bne_eq_false_iff_eq] at hc
    rcases idxP_cases (wt.to Int) x with ⟨e1, e2⟩ | ⟨k, e1, hk, e2⟩
    · simp only [e1]
      refine ⟨fun _ => ?_, fun h => (by cases h)⟩
      exact ret_mb2I lb_den stands_nils stands_nils stands_nils (dur_none hc e2)
    · simp only [e1]
      have hwr : IntKind.i64.wrap ((k : Int) + 1) = ((k + 1 : Nat) : Int) := by rw [wrap64 (by omega) (by omega)]; omega
      have hmem : (wt.to Int).contains x = true := List.contains_iff_mem.2 (by rw [← e2]; exact List.getElem_mem hk)
      have hfil : (wt.to Int).filter (fun y => y != x) = (wt.to Int).take k ++ (wt.to Int).drop (k + 1) := by
        have := filter_up (checkMb_up hc) hk
        simp only [e2] at this
        exact this
      simp only [hwr, Int.toNat_natCast]
      have hrw : ∀ h, Stands Int (.dat (.slc h 1 (List.append (List.take k (D.rows wt)) (List.drop (k + 1) (D.rows wt))))) ((wt.to Int).filter fun y => y != x) := fun h => by
        rw [hfil]; exact stands_rows rfl (rows_app (rows_take (rows_of hw) k) (rows_drop (rows_of hw) (k + 1)))
      refine ⟨fun h => ?_, fun _ => ⟨⟨hw, by omega⟩, fun hs => ⟨⟨(is_of rfl (rows_of hw)).1, by omega, by omega, by simp only [len_slc]; omega⟩, fun hs1 => ⟨fun h1 hs2 => ?_, fun h1 => ⟨⟨hh, by omega⟩, fun hs2 hs3 => ⟨⟨rfl, .inr rfl, ?_, ?_⟩, fun hs4 => ?_⟩⟩⟩⟩⟩⟩
      · have := of_decide_eq_true h; omega
      · simp only [Bool.not_eq_true'] at h1
        exact ret_mb2I (fun _ => rfl) (hrw _) (stands_self hh) (stands_rows rfl (int_one x)) (dur_free hc hmem h1)
      · simp only [len_slc, List.length_cons, List.length_nil]; omega
      · simp only [len_slc, List.length_cons, List.length_nil]; omega
      · simp only [Bool.not_eq_false'] at h1
        have hra : SRows Int (List.append (D.rows hd) [[.int .i64 x]]) (hd.to Int ++ [x]) := rows_app (rows_of hh) (int_one x)
        exact ret_mb2I (fun _ => rfl) (hrw _) (stands_rows rfl hra) stands_nils (dur_held hc hmem h1)

theorem lawDur2 : Law Try.prog 41 ((rdMb.two rdInt).sp spDur) := by
  refine law_in _ (by kernel_rfl) fun H w ⟨⟨r, p, t, i, f, u, wt, hd⟩, x⟩ hok hp => ?_
  have hR := hp _ (List.mem_singleton.2 rfl)
  have hR' := hR
  obtain ⟨hw, hh, lw, lh⟩ := hR
  simp only at hw hh lw lh
  have l1 := D.Is.length (α := Int) wt
  have l2 := rows_len (rows_of hw)
  have l3 := D.Is.length (α := Int) hd
  have l4 := rows_len (rows_of hh)
  clear hp hok
  apply exec_sound ctDOk 600
  rw [show (rdMb.two rdInt).canon (⟨r, p, t, i, f, u, wt, hd⟩, x) = [.agg [.int .i64 r, .int .i64 p, .int .i64 t, .int .i64 i, .bool f, .int .i64 u, .dat wt, .dat hd], .int .i64 x] from rfl, dur2_in]
  have hq : MbD.mb ⟨r, p, t, i, f, u, wt, hd⟩ = ⟨r, p, t, i, f, u, wt.to Int, hd.to Int⟩ := rfl
  simp only [hq]
  refine ⟨hR', fun hc => ?_, fun hc => ⟨⟨hw, by omega⟩, fun h1 => ?_, fun h1 => ?_⟩⟩
  · simp only [bne_iff_ne, ne_eq] at hc
    exact ret_mb2I lb_den stands_nils stands_nils stands_nils (dur_bad hc)
  · simp only [bne_eq_false_iff_eq] at hc
    simp only [Bool.not_eq_true'] at h1
    exact ret_mb2I lb_den stands_nils stands_nils stands_nils (dur_none hc h1)
  · simp only [bne_eq_false_iff_eq] at hc
    simp only [Bool.not_eq_false'] at h1
    refine vecTo 2 3 1 none 7 (durL r p t i u f wt hd x (.slc none 1 []) 0) (by kernel_rfl) ?_
    refine runs_loop (fun q : D × Nat => durL r p t i u f wt hd x q.1 q.2) (fun q => q.2 ≤ (wt.to Int).length ∧ q.1.Is Int ∧ q.1.sz = 1 ∧ q.1.to Int = ((wt.to Int).take q.2).filter fun y => y != x)
      (fun q => (wt.to Int).length - q.2) (fun _ => rfl) ?_ (.slc none 1 [], 0) ⟨Nat.zero_le _, is_nil _ _, rfl, rfl⟩
    intro ⟨out, j⟩ ⟨hj, ho, hs, hto⟩ ih
    simp only at hj ho hs hto
    have lo := D.Is.length (α := Int) out
    have lo2 := rows_len (rows_of ho)
    have lo3 : (out.to Int).length ≤ j := by
      rw [hto]
      exact Nat.le_trans (List.length_filter_le _ _) (by rw [List.length_take]; exact Nat.min_le_left _ _)
    apply exec_sound ctDOk 600
    rw [durl_go]
    refine ⟨fun hcj => ?_, fun hcj => ?_⟩
    · simp [l1] at hcj
      obtain ⟨c1, c2, c3⟩ := int_at hw hcj
      rw [c3]
      refine ⟨c1, c2, fun hb => ⟨c1, c2, fun hs1 => ⟨⟨hs, .inr rfl, by simp only [len_slc, List.length_cons, List.length_nil]; omega, by simp only [len_slc, List.length_cons, List.length_nil]; omega⟩, fun hs2 => ?_⟩⟩, fun hb => ?_⟩
      · have hra : SRows Int (List.append (D.rows out) [[.int .i64 (wt.to Int)[j]]]) (out.to Int ++ [(wt.to Int)[j]]) := rows_app (rows_of ho) (int_one _)
        obtain ⟨i1, i2⟩ := is_of (h := D.hd (hs2 0 0)) (s := 1) rfl hra
        have := ih (.slc (D.hd (hs2 0 0)) 1 (List.append (D.rows out) [[.int .i64 (wt.to Int)[j]]]), j + 1) ⟨hcj, i1, rfl, i2.trans (by rw [hto, List.take_succ_eq_append_getElem hcj, List.filter_append, List.filter_cons]; simp [hb])⟩ (by simp only; omega)
        simp only at this
        rw [← wrap_succ hcj (by omega)] at this
        exact this
      · have := ih (out, j + 1) ⟨hcj, ho, hs, by simp only; rw [hto, List.take_succ_eq_append_getElem hcj, List.filter_append, List.filter_cons]; simp [hb]⟩ (by simp only; omega)
        simp only at this
        rw [← wrap_succ hcj (by omega)] at this
        exact this
    · simp [l1] at hcj
      have : j = (wt.to Int).length := by omega
      subst this
      rw [List.take_length] at hto
      refine ⟨fun hf hs1 => ⟨⟨rfl, hh.fits, by simp only [len_slc, List.length_nil]; omega, by simp only [len_slc, List.length_nil]; omega⟩, fun hs2 hs3 => ⟨⟨rfl, .inr rfl, ?_, ?_⟩, fun hs4 => ?_⟩⟩, fun hf hs1 => ?_⟩
      · have e : (List.append (D.rows (D.slc (D.hd (hs1 0 0)) 1 [])) (D.rows hd)).length = hd.rows.length := rfl
        simp only [len_slc, e, List.length_cons, List.length_nil]; omega
      · have e : (List.append (D.rows (D.slc (D.hd (hs1 0 0)) 1 [])) (D.rows hd)).length = hd.rows.length := rfl
        simp only [len_slc, e, List.length_cons, List.length_nil]; omega
      · have hra : SRows Int (List.append (D.rows hd) [[.int .i64 x]]) (hd.to Int ++ [x]) := rows_app (rows_of hh) (int_one x)
        exact ret_mb2I (fun _ => rfl) (stands_dat ho hto) (stands_rows rfl hra) stands_nils (dur_held hc h1 hf)
      · exact ret_mb2I (fun _ => rfl) (stands_dat ho hto) (stands_self hh) (stands_rows rfl (int_one x)) (dur_free hc h1 hf)
end Go.Proofs.Ytoechplbhbalaaa
end
section
/- Layer 21: all contracts. -/
open Go Go.Proofs Sx
namespace Go.Proofs.Ytoechplbhbalaaa
noncomputable def ctN : Ctrs := (40, ctrOf ((rdMb.two rdInt).sp spDur)) :: (41, ctrOf ((rdMb.two rdInt).sp spDur)) :: (42, ctrOf ((rdMb.two rdInt).sp spRls)) :: (43, ctrOf ((rdMb.two rdInt).sp spRls)) :: ctL
theorem ctNOk : Ctrs.Ok Try.prog ctN := by
  intro x hx
  simp only [ctN, List.mem_cons] at hx
  rcases hx with rfl | rfl | rfl | rfl | hx
  · exact ctrOf_ok lawDur1
  · exact ctrOf_ok lawDur2
  · exact ctrOf_ok lawRel1
  · exact ctrOf_ok lawRel2
  · exact ctLOk _ hx
end Go.Proofs.Ytoechplbhbalaaa
end
section
/- Layer 21: the contracts for the group's functions. -/
open Go Go.Proofs Sx
namespace Go.Proofs.Ytoechplbhbalaaa
noncomputable def ctG : Ctrs := (77, ctrOf (((rdCells grK).two rdD).sp spSend)) :: (78, ctrOf (((rdCells grK).three rdInt rdD).sp spAck)) :: ctN
theorem ctGOk : Ctrs.Ok Try.prog ctG := by
  intro x hx
  rcases List.mem_cons.1 hx with rfl | hx
  · exact ctrOf_ok lawSend
  rcases List.mem_cons.1 hx with rfl | hx
  · exact ctrOf_ok lawAck
  · exact ctNOk _ hx
end Go.Proofs.Ytoechplbhbalaaa
end
section
/- Layer 21: BarrierCounts, walked. -/
open Go Go.Proofs Sx
namespace Go.Proofs.Ytoechplbhbalaaa
set_option maxRecDepth 100000
set_option maxHeartbeats 0
section
variable (now write : Int) (wt hd : D) (frozen : Bool) (mr mp mt mi mu : Int)

end
end Go.Proofs.Ytoechplbhbalaaa
end
section
/- Layer 21: BarrierCounts. -/
open Go Go.Proofs Sx
namespace Sx
theorem durMb_len (m : Mb) (x : Int) : (durMb m x).1.waiting.length ≤ m.waiting.length ∧ (durMb m x).1.held.length ≤ m.held.length + 1 ∧ (durMb m x).2.1.length ≤ 1 := by
  have := List.length_filter_le (fun y => y != x) m.waiting
  unfold durMb
  repeat' split
  all_goals simp [noMb]
  all_goals omega
theorem relMb_len (m : Mb) (x : Int) : (relMb m x).1.waiting.length ≤ m.waiting.length ∧ (relMb m x).1.held.length ≤ m.held.length ∧ (relMb m x).2.length ≤ m.held.length := by
  unfold relMb
  split
  · simp
  · simp [thawMb]
end Sx
namespace Go.Proofs.Ytoechplbhbalaaa
set_option maxRecDepth 100000
set_option maxHeartbeats 0
def spB4 (x : MbD × Int × Int) : SpecR := .scalar [x.1.w.Is Int ∧ x.1.h.Is Int] (.lb true)

end Go.Proofs.Ytoechplbhbalaaa
end
section
/- Layer 21: the contracts of the group's functions. -/
open Go
namespace Sx
/-- A small number. -/
def rdU8 : Rd1 Int where
  read x := match x with | .int .u8 n => some n | _ => none
  canon n := .int .u8 n
  right H E x b h hok := by
    split at h
    · cases h; exact ⟨rfl, trivial⟩
    · cases h
/-- An event. -/
def rdEv : Rd1 (Int × Int × Int) where
  read x := match x with | .agg [.int .u8 a, .int .u8 b, .int .u8 c] => some (a, b, c) | _ => none
  canon x := .agg [.int .u8 x.1, .int .u8 x.2.1, .int .u8 x.2.2]
  right H E x b h hok := by
    split at h
    · cases h; exact ⟨rfl, trivial, trivial, trivial, trivial⟩
    · cases h

def U8 (n : Int) : Prop := 0 ≤ n ∧ n ≤ 255
noncomputable def grSp (l : List CV) (p : Prop) (g : Gr) : SpecR := .data [GrRight l ∧ p ∧ g.right = true] fun ds => .agg (svOf ds 0 g.cls)
noncomputable def spRecv (x : GrX × MsgD) : SpecR := grSp x.1.1 True (recvG (grOf x.1.1) x.2.msg)
noncomputable def spTick (x : GrX × Int × Int × Int) : SpecR := grSp x.1.1 ((U8 x.2.2.1 ∧ U8 x.2.2.2) ∧ (grOf x.1.1).flight.length ≤ 999000) (tickG (grOf x.1.1) x.2.2.1 x.2.2.2)
noncomputable def spFlight (x : GrX × Int × Int × Int) : SpecR := grSp x.1.1 (U8 x.2.1 ∧ U8 x.2.2.2) (flightG (grOf x.1.1) x.2.1 x.2.2.2)
noncomputable def spDurG (x : GrX × Int × Int) : SpecR := match x.2.1 with
  | .ofNat n => match n with
    | 0 => grSp x.1.1 (U8 x.2.2) (durG (grOf x.1.1) 0 x.2.2)
    | 1 => grSp x.1.1 (U8 x.2.2) (durG (grOf x.1.1) 1 x.2.2)
    | 2 => grSp x.1.1 (U8 x.2.2) (durG (grOf x.1.1) 2 x.2.2)
    | _ => .no
  | _ => .no
def nodeOf (n : Int) : Fin 3 := if Int.tmod n 3 = 0 then 0 else if Int.tmod n 3 = 1 then 1 else 2
noncomputable def spStep (x : GrX × Int × Int × Int) : SpecR := grSp x.1.1 ((U8 x.2.1 ∧ U8 x.2.2.1 ∧ U8 x.2.2.2) ∧ (grOf x.1.1).flight.length ≤ 999000) (stepG (grOf x.1.1) x.2.1 (nodeOf x.2.2.1) x.2.2.1 x.2.2.2)
end Sx
end
section
/- Layer 21: tools for the group's laws. -/
open Go Go.Proofs Sx
namespace Sx
theorem right_like_of {a b c e g : Int} {x y : D} {p q : List Int} {v : Bool} (h1 : p.length ≤ 1048575) (h2 : q.length ≤ 1048575) : (MbD.mk a b c e v g (x.like p) (y.like q)).Right := (right_like ..).2 ⟨h1, h2⟩
theorem lst_ok {α : Type} {c : Codec α} {v : SV} {l : List α} (h : Stands α v l) : CellOk v (.lst c l) := h
theorem bool_ok {b c : Bool} (h : c = b) : CellOk (.bool b) (.bool c) := fun E => by rw [h]

/-- Three. -/
def tri {α : Type} (a b c : α) : Fin 3 → α := fun i => match i with | 0 => a | 1 => b | 2 => c
theorem tri_0 {α : Type} (a b c : α) : tri a b c 0 = a := rfl
theorem tri_1 {α : Type} (a b c : α) : tri a b c 1 = b := rfl
theorem tri_2 {α : Type} (a b c : α) : tri a b c 2 = c := rfl
theorem tri_upd0 {α : Type} (a b c v : α) : upd (tri a b c) 0 v = tri v b c := by funext i; match i with | 0 => rfl | 1 => rfl | 2 => rfl
theorem tri_upd1 {α : Type} (a b c v : α) : upd (tri a b c) 1 v = tri a v c := by funext i; match i with | 0 => rfl | 1 => rfl | 2 => rfl
theorem tri_upd2 {α : Type} (a b c v : α) : upd (tri a b c) 2 v = tri a b v := by funext i; match i with | 0 => rfl | 1 => rfl | 2 => rfl

theorem grOf_eq {cn cr cp cdl : Int} {cps css : D} {cv : Bool} {p1 p2 p3 p4 : Int} {pf : Bool} {p6 : Int} {pw ph : D} {q1 q2 q3 q4 : Int} {qf : Bool} {q6 : Int} {qw qh : D} {r1 r2 r3 r4 : Int} {rf : Bool} {r6 : Int} {rw rh : D} {fl wa wb wc : D} {now clk : Int} {rt : Bool} {st : Int} : grOf (CV.int cn :: CV.int cr :: CV.int cp :: CV.int cdl :: CV.dat cps :: CV.dat css :: CV.bool cv :: CV.int p1 :: CV.int p2 :: CV.int p3 :: CV.int p4 :: CV.bool pf :: CV.int p6 :: CV.dat pw :: CV.dat ph :: CV.int q1 :: CV.int q2 :: CV.int q3 :: CV.int q4 :: CV.bool qf :: CV.int q6 :: CV.dat qw :: CV.dat qh :: CV.int r1 :: CV.int r2 :: CV.int r3 :: CV.int r4 :: CV.bool rf :: CV.int r6 :: CV.dat rw :: CV.dat rh :: CV.dat fl :: CV.dat wa :: CV.dat wb :: CV.dat wc :: CV.int now :: CV.int clk :: CV.bool rt :: CV.int st :: []) = ⟨⟨cn, cr, cp, cdl, cps.to Int, css.to Bool, cv⟩, tri ⟨p1, p2, p3, p4, pf, p6, pw.to Int, ph.to Int⟩ ⟨q1, q2, q3, q4, qf, q6, qw.to Int, qh.to Int⟩ ⟨r1, r2, r3, r4, rf, r6, rw.to Int, rh.to Int⟩, fl.to Msg, tri (wa.to Wr) (wb.to Wr) (wc.to Wr), now, clk, rt, st⟩ := by kernel_rfl
theorem grRight_eq {cn cr cp cdl : Int} {cps css : D} {cv : Bool} {p1 p2 p3 p4 : Int} {pf : Bool} {p6 : Int} {pw ph : D} {q1 q2 q3 q4 : Int} {qf : Bool} {q6 : Int} {qw qh : D} {r1 r2 r3 r4 : Int} {rf : Bool} {r6 : Int} {rw rh : D} {fl wa wb wc : D} {now clk : Int} {rt : Bool} {st : Int} : GrRight (CV.int cn :: CV.int cr :: CV.int cp :: CV.int cdl :: CV.dat cps :: CV.dat css :: CV.bool cv :: CV.int p1 :: CV.int p2 :: CV.int p3 :: CV.int p4 :: CV.bool pf :: CV.int p6 :: CV.dat pw :: CV.dat ph :: CV.int q1 :: CV.int q2 :: CV.int q3 :: CV.int q4 :: CV.bool qf :: CV.int q6 :: CV.dat qw :: CV.dat qh :: CV.int r1 :: CV.int r2 :: CV.int r3 :: CV.int r4 :: CV.bool rf :: CV.int r6 :: CV.dat rw :: CV.dat rh :: CV.dat fl :: CV.dat wa :: CV.dat wb :: CV.dat wc :: CV.int now :: CV.int clk :: CV.bool rt :: CV.int st :: []) = ((cps.Is Int ∧ css.Is Bool) ∧ (MbD.mk p1 p2 p3 p4 pf p6 pw ph).Right ∧ (MbD.mk q1 q2 q3 q4 qf q6 qw qh).Right ∧ (MbD.mk r1 r2 r3 r4 rf r6 rw rh).Right ∧ (fl.Is Msg ∧ fl.len ≤ 1000000) ∧ (wa.Is Wr ∧ wa.len ≤ 1000000) ∧ (wb.Is Wr ∧ wb.len ≤ 1000000) ∧ (wc.Is Wr ∧ wc.len ≤ 1000000)) := by kernel_rfl
theorem cls_tri {c : Co} {a b d : Mb} {f : List Msg} {x y z : List Wr} {now clk st : Int} {rt : Bool} : Gr.cls ⟨c, tri a b d, f, tri x y z, now, clk, rt, st⟩ =
  (.int c.nodes :: .int c.round :: .int c.phase :: .int c.deadline :: .lst inferInstance c.positions :: .lst inferInstance c.seen :: .bool c.valid ::
   .int a.round :: .int a.position :: .int a.thawed :: .int a.issued :: .bool a.frozen :: .int a.upto :: .lst inferInstance a.waiting :: .lst inferInstance a.held :: .int b.round :: .int b.position :: .int b.thawed :: .int b.issued :: .bool b.frozen :: .int b.upto :: .lst inferInstance b.waiting :: .lst inferInstance b.held :: .int d.round :: .int d.position :: .int d.thawed :: .int d.issued :: .bool d.frozen :: .int d.upto :: .lst inferInstance d.waiting :: .lst inferInstance d.held ::
   .lst inferInstance f :: .lst inferInstance x :: .lst inferInstance y :: .lst inferInstance z :: .int now :: .int clk :: .bool rt :: .int st :: []) := by kernel_rfl

theorem ackW_len (c : Int) (f : Bool) : ∀ (l : List Int) (w : List Wr), (ackW c f l w).1.length = w.length
  | [], w => rfl
  | x :: l, w => by
    unfold ackW
    split
    · rfl
    · simp only [ackW_len c f l, List.length_set]
theorem relG_right {g : Gr} {i : Fin 3} (h : (relG g i).right = true) : g.right = true ∧ (ackW g.clock (relMb (g.node i) g.now).1.frozen (relMb (g.node i) g.now).2 (g.wr i)).2 = true := by
  simp only [relG, ackG, Bool.and_eq_true] at h
  refine ⟨h.1, ?_⟩
  have e : upd g.node i (relMb (g.node i) g.now).1 i = (relMb (g.node i) g.now).1 := if_pos rfl
  rw [e] at h
  exact h.2
end Sx
end
section
/- Layer 21: the group, walked. -/
open Go Go.Proofs Sx
namespace Go.Proofs.Ytoechplbhbalaaa
set_option maxRecDepth 100000
set_option maxHeartbeats 0
noncomputable def tickL (cn cr cp cdl : Int) (cps css : D) (cv : Bool) (p1 p2 p3 p4 : Int) (pf : Bool) (p6 : Int) (pw ph : D) (q1 q2 q3 q4 : Int) (qf : Bool) (q6 : Int) (qw qh : D) (r1 r2 r3 r4 : Int) (rf : Bool) (r6 : Int) (rw rh : D) (fl wa wb wc : D) (now clk : Int) (rt : Bool) (st : Int) (ek en ew i : Int) : Conf := Conf.mk (SFrm.mk 47 none none [Item.inLoop (cAt Try.prog 47 [1, 1, 1, 1, 1, 0, 1, 0, 0]), Item.inBlock 0, Item.code (cAt Try.prog 47 [1, 1, 1, 1, 1, 1])]
 (mkJ 0 [(2, .ptr 0 0), (3, .ptr 1 0), (4, .ptr 2 0), (7, .int .i64 i)] 0 61)) [] [(0, .cells 97 [.int .i64 cn, .int .i64 cr, .int .i64 cp, .int .i64 cdl, .dat cps, .dat css, .bool cv, .int .i64 p1, .int .i64 p2, .int .i64 p3, .int .i64 p4, .bool pf, .int .i64 p6, .dat pw, .dat ph, .int .i64 q1, .int .i64 q2, .int .i64 q3, .int .i64 q4, .bool qf, .int .i64 q6, .dat qw, .dat qh, .int .i64 r1, .int .i64 r2, .int .i64 r3, .int .i64 r4, .bool rf, .int .i64 r6, .dat rw, .dat rh, .dat fl, .dat wa, .dat wb, .dat wc, .int .i64 now, .int .i64 clk, .bool rt, .int .i64 st]), (1, .cells 101 [.int .u8 ek, .int .u8 en, .int .u8 ew]), (2, .cells 97 grZero)]
section
variable (cn cr cp cdl : Int) (cps css : D) (cv : Bool) (p1 p2 p3 p4 : Int) (pf : Bool) (p6 : Int) (pw ph : D) (q1 q2 q3 q4 : Int) (qf : Bool) (q6 : Int) (qw qh : D) (r1 r2 r3 r4 : Int) (rf : Bool) (r6 : Int) (rw rh : D) (fl wa wb wc : D) (now clk : Int) (rt : Bool) (st : Int) (ek en ew : Int)
theorem tick_in : 
 let z1 := (expireCo (CoD.co (CoD.mk cn cr cp cdl cps css cv)) (IntKind.wrap .i64 (now + IntKind.wrap .i64 (1 + Int.tmod (IntKind.wrap .i64 ew) 5))))
 exec Try.prog ctG 900 (entry Try.prog 47 [.agg [.int .i64 cn, .int .i64 cr, .int .i64 cp, .int .i64 cdl, .dat cps, .dat css, .bool cv, .int .i64 p1, .int .i64 p2, .int .i64 p3, .int .i64 p4, .bool pf, .int .i64 p6, .dat pw, .dat ph, .int .i64 q1, .int .i64 q2, .int .i64 q3, .int .i64 q4, .bool qf, .int .i64 q6, .dat qw, .dat qh, .int .i64 r1, .int .i64 r2, .int .i64 r3, .int .i64 r4, .bool rf, .int .i64 r6, .dat rw, .dat rh, .dat fl, .dat wa, .dat wb, .dat wc, .int .i64 now, .int .i64 clk, .bool rt, .int .i64 st], .agg [.int .u8 ek, .int .u8 en, .int .u8 ew]]) =
 Tree.need ((5 : Int) ≠ 0) (.need (D.Is Int cps ∧ D.Is Bool css) (.all fun hs => .need (D.Is Msg fl ∧ D.len fl ≤ 1048576 ∧ D.Is Msg (D.like (hs 0 2) (Prod.snd z1)) ∧ D.len (D.like (hs 0 2) (Prod.snd z1)) ≤ 1048576)
 (.all fun hs_1 => .leaf (Conf.mk (SFrm.mk 47 none none [Item.inLoop (cAt Try.prog 47 [1, 1, 1, 1, 1, 0, 1, 0, 0]), Item.inBlock 0, Item.code (cAt Try.prog 47 [1, 1, 1, 1, 1, 1])] (mkJ 0 [(2, .ptr 0 0),
 (3, .ptr 1 0), (4, .ptr 2 0), (7, .int .i64 0)] 0 61)) [] [(0, OBlk.cells 97 [.int .i64 (Co.nodes (Prod.fst z1)), .int .i64 (Co.round (Prod.fst z1)), .int .i64 (Co.phase (Prod.fst z1)), .int .i64 (Co.deadline
 (Prod.fst z1)), .dat (D.like (hs 0 0) (Co.positions (Prod.fst z1))), .dat (D.like (hs 0 1) (Co.seen (Prod.fst z1))), .bool (Co.valid (Prod.fst z1)), .int .i64 p1, .int .i64 p2, .int .i64 p3, .int .i64 p4, .bool pf, .int .i64 p6, .dat pw, .dat ph, .int .i64 q1, .int .i64 q2, .int .i64 q3, .int .i64 q4, .bool qf, .int .i64 q6, .dat qw, .dat qh, .int .i64 r1, .int .i64 r2, .int .i64 r3, .int .i64 r4, .bool rf, .int .i64 r6, .dat rw, .dat rh, .dat
 (D.like (hs_1 0 0) (List.append (D.to Msg fl) (D.to Msg (D.like (hs 0 2) (Prod.snd z1))))), .dat wa, .dat wb, .dat wc, .int .i64 (IntKind.wrap .i64 (now + IntKind.wrap .i64 (1 + Int.tmod (IntKind.wrap .i64 ew) 5))), .int .i64 clk, .bool rt, .int .i64 st]),
 (1, OBlk.cells 101 [.int .u8 ek, .int .u8 en, .int .u8 ew]), (2, OBlk.cells 97 [.int .i64 0, .int .i64 0, .int .i64 0, .int .i64 0, .nils, .nils, .lb false, .int .i64 0, .int .i64 0, .int .i64 0, .int .i64 0, .lb false, .int .i64 0, .nils, .nils, .int .i64 0, .int .i64 0, .int .i64 0, .int .i64 0, .lb false, .int .i64 0, .nils, .nils, .int .i64 0, .int .i64 0, .int .i64 0, .int .i64 0, .lb false, .int .i64 0, .nils, .nils, .nils, .nils, .nils, .nils, .int .i64 0, .int .i64 0, .lb false, .int .i64 0])])))) := by
 intros; kernel_rfl

theorem tick0_go : 
 let z1 := (Prod.fst (relMb (MbD.mb (MbD.mk p1 p2 p3 p4 pf p6 pw ph)) now))
 let z2 : Tree := (.ret (.agg [.int .i64 cn, .int .i64 cr, .int .i64 cp, .int .i64 cdl, .dat cps, .dat css, .bool cv, .int .i64 p1, .int .i64 p2, .int .i64 p3, .int .i64 p4, .bool pf, .int .i64 p6, .dat pw, .dat ph, .int .i64 q1, .int .i64 q2, .int .i64 q3, .int .i64 q4, .bool qf, .int .i64 q6, .dat qw, .dat qh, .int .i64 r1, .int .i64 r2, .int .i64 r3, .int .i64 r4, .bool rf, .int .i64 r6, .dat rw, .dat rh, .dat fl, .dat wa, .dat wb, .dat wc, .int .i64 now, .int .i64 clk, .bool rt, .int .i64 st]))
 let z3 := (Prod.snd (relMb (MbD.mb (MbD.mk p1 p2 p3 p4 pf p6 pw ph)) now))
 exec Try.prog ctG 900 (unroll (tickL cn cr cp cdl cps css cv p1 p2 p3 p4 pf p6 pw ph q1 q2 q3 q4 qf q6 qw qh r1 r2 r3 r4 rf r6 rw rh fl wa wb wc now clk rt st ek en ew 0)) =
 Tree.br true (.need ((2 : Int) ≠ 0) (.br (decide (Int.tmod en 2 = 1)) (.all fun hs => .need ((0 : Int) ≤ 0 ∧ 0 < (↑3 : Int)) (.need (MbD.Right (MbD.mk p1 p2 p3 p4 pf p6 pw ph)) (.need ((0 : Int) ≤ 0 ∧ 0 <
 (↑3 : Int)) (.need (D.Is Wr wa ∧ D.len wa ≤ 1048576 ∧ D.Is Int (D.like (hs 6 2) z3) ∧ D.len (D.like (hs 6 2) z3) ≤ 1048575 ∧ Prod.snd (ackW clk (Mb.frozen z1) (D.to Int (D.like (hs 6 2) z3)) (D.to Wr wa)) = true)
 (.all fun hs_1 => .leaf (Conf.mk (SFrm.mk 47 none none [Item.inLoop (cAt Try.prog 47 [1, 1, 1, 1, 1, 0, 1, 0, 0]), Item.inBlock 0, Item.code (cAt Try.prog 47 [1, 1, 1, 1, 1, 1])] (mkJ 0 [(2, .ptr 0 0),
 (3, .ptr 1 0), (4, .ptr 2 0), (7, .int .i64 (IntKind.wrap .i64 (0 + 1)))] 0 61)) [] [(0, OBlk.cells 97 [.int .i64 cn, .int .i64 cr, .int .i64 cp, .int .i64 cdl, .dat cps, .dat css, .bool cv, .int .i64
 (Mb.round z1), .int .i64 (Mb.position z1), .int .i64 (Mb.thawed z1), .int .i64 (Mb.issued z1), .bool (Mb.frozen z1), .int .i64 (Mb.upto z1), .dat (D.like (hs 6 0) (Mb.waiting z1)), .dat (D.like (hs 6 1)
 (Mb.held z1)), .int .i64 q1, .int .i64 q2, .int .i64 q3, .int .i64 q4, .bool qf, .int .i64 q6, .dat qw, .dat qh, .int .i64 r1, .int .i64 r2, .int .i64 r3, .int .i64 r4, .bool rf, .int .i64 r6, .dat rw, .dat rh, .dat fl, .dat
 (D.like (hs_1 0 0) (Prod.fst (ackW clk (Mb.frozen z1) (D.to Int (D.like (hs 6 2) z3)) (D.to Wr wa)))), .dat wb, .dat wc, .int .i64 now, .int .i64 clk, .bool rt, .int .i64 st]), (1, OBlk.cells 101 [.int .u8 ek, .int .u8 en, .int .u8 ew]),
 (2, OBlk.cells 97 [.int .i64 0, .int .i64 0, .int .i64 0, .int .i64 0, .nils, .nils, .lb false, .int .i64 0, .int .i64 0, .int .i64 0, .int .i64 0, .lb false, .int .i64 0, .nils, .nils, .int .i64 0, .int .i64 0, .int .i64 0, .int .i64 0, .lb false, .int .i64 0, .nils, .nils, .int .i64 0, .int .i64 0, .int .i64 0, .int .i64 0, .lb false, .int .i64 0, .nils, .nils, .nils, .nils, .nils, .nils, .int .i64 0, .int .i64 0, .lb false, .int .i64 0])])))))) z2)) z2 := by
 intros; kernel_rfl

theorem tick1_go : 
 let z1 := (Prod.fst (relMb (MbD.mb (MbD.mk q1 q2 q3 q4 qf q6 qw qh)) now))
 let z2 : Tree := (.ret (.agg [.int .i64 cn, .int .i64 cr, .int .i64 cp, .int .i64 cdl, .dat cps, .dat css, .bool cv, .int .i64 p1, .int .i64 p2, .int .i64 p3, .int .i64 p4, .bool pf, .int .i64 p6, .dat pw, .dat ph, .int .i64 q1, .int .i64 q2, .int .i64 q3, .int .i64 q4, .bool qf, .int .i64 q6, .dat qw, .dat qh, .int .i64 r1, .int .i64 r2, .int .i64 r3, .int .i64 r4, .bool rf, .int .i64 r6, .dat rw, .dat rh, .dat fl, .dat wa, .dat wb, .dat wc, .int .i64 now, .int .i64 clk, .bool rt, .int .i64 st]))
 let z3 := (Prod.snd (relMb (MbD.mb (MbD.mk q1 q2 q3 q4 qf q6 qw qh)) now))
 exec Try.prog ctG 900 (unroll (tickL cn cr cp cdl cps css cv p1 p2 p3 p4 pf p6 pw ph q1 q2 q3 q4 qf q6 qw qh r1 r2 r3 r4 rf r6 rw rh fl wa wb wc now clk rt st ek en ew 1)) =
 Tree.br true (.need ((2 : Int) ≠ 0) (.br (decide (Int.tmod en 2 = 1)) (.all fun hs => .need ((0 : Int) ≤ 1 ∧ 1 < (↑3 : Int)) (.need (MbD.Right (MbD.mk q1 q2 q3 q4 qf q6 qw qh)) (.need ((0 : Int) ≤ 1 ∧ 1 <
 (↑3 : Int)) (.need (D.Is Wr wb ∧ D.len wb ≤ 1048576 ∧ D.Is Int (D.like (hs 6 2) z3) ∧ D.len (D.like (hs 6 2) z3) ≤ 1048575 ∧ Prod.snd (ackW clk (Mb.frozen z1) (D.to Int (D.like (hs 6 2) z3)) (D.to Wr wb)) = true)
 (.all fun hs_1 => .leaf (Conf.mk (SFrm.mk 47 none none [Item.inLoop (cAt Try.prog 47 [1, 1, 1, 1, 1, 0, 1, 0, 0]), Item.inBlock 0, Item.code (cAt Try.prog 47 [1, 1, 1, 1, 1, 1])] (mkJ 0 [(2, .ptr 0 0),
 (3, .ptr 1 0), (4, .ptr 2 0), (7, .int .i64 (IntKind.wrap .i64 (1 + 1)))] 0 61)) [] [(0, OBlk.cells 97 [.int .i64 cn, .int .i64 cr, .int .i64 cp, .int .i64 cdl, .dat cps, .dat css, .bool cv, .int .i64 p1, .int .i64 p2, .int .i64 p3, .int .i64 p4, .bool pf, .int .i64 p6, .dat pw, .dat ph, .int .i64
 (Mb.round z1), .int .i64 (Mb.position z1), .int .i64 (Mb.thawed z1), .int .i64 (Mb.issued z1), .bool (Mb.frozen z1), .int .i64 (Mb.upto z1), .dat (D.like (hs 6 0) (Mb.waiting z1)), .dat (D.like (hs 6 1)
 (Mb.held z1)), .int .i64 r1, .int .i64 r2, .int .i64 r3, .int .i64 r4, .bool rf, .int .i64 r6, .dat rw, .dat rh, .dat fl, .dat wa, .dat (D.like (hs_1 0 0) (Prod.fst (ackW clk (Mb.frozen z1) (D.to Int (D.like
 (hs 6 2) z3)) (D.to Wr wb)))), .dat wc, .int .i64 now, .int .i64 clk, .bool rt, .int .i64 st]), (1, OBlk.cells 101 [.int .u8 ek, .int .u8 en, .int .u8 ew]), (2, OBlk.cells 97 [.int .i64 0, .int .i64 0, .int .i64 0, .int .i64 0, .nils, .nils, .lb false, .int .i64 0, .int .i64 0, .int .i64 0, .int .i64 0, .lb false, .int .i64 0, .nils, .nils, .int .i64 0, .int .i64 0, .int .i64 0, .int .i64 0, .lb false, .int .i64 0, .nils, .nils, .int .i64 0, .int .i64 0, .int .i64 0, .int .i64 0, .lb false, .int .i64 0, .nils, .nils, .nils, .nils, .nils, .nils, .int .i64 0, .int .i64 0, .lb false, .int .i64 0])])))))) z2)) z2 := by
 intros; kernel_rfl

theorem tick2_go : 
 let z1 := (Prod.fst (relMb (MbD.mb (MbD.mk r1 r2 r3 r4 rf r6 rw rh)) now))
 let z2 : Tree := (.ret (.agg [.int .i64 cn, .int .i64 cr, .int .i64 cp, .int .i64 cdl, .dat cps, .dat css, .bool cv, .int .i64 p1, .int .i64 p2, .int .i64 p3, .int .i64 p4, .bool pf, .int .i64 p6, .dat pw, .dat ph, .int .i64 q1, .int .i64 q2, .int .i64 q3, .int .i64 q4, .bool qf, .int .i64 q6, .dat qw, .dat qh, .int .i64 r1, .int .i64 r2, .int .i64 r3, .int .i64 r4, .bool rf, .int .i64 r6, .dat rw, .dat rh, .dat fl, .dat wa, .dat wb, .dat wc, .int .i64 now, .int .i64 clk, .bool rt, .int .i64 st]))
 let z3 := (Prod.snd (relMb (MbD.mb (MbD.mk r1 r2 r3 r4 rf r6 rw rh)) now))
 exec Try.prog ctG 900 (unroll (tickL cn cr cp cdl cps css cv p1 p2 p3 p4 pf p6 pw ph q1 q2 q3 q4 qf q6 qw qh r1 r2 r3 r4 rf r6 rw rh fl wa wb wc now clk rt st ek en ew 2)) =
 Tree.br true (.need ((2 : Int) ≠ 0) (.br (decide (Int.tmod en 2 = 1)) (.all fun hs => .need ((0 : Int) ≤ 2 ∧ 2 < (↑3 : Int)) (.need (MbD.Right (MbD.mk r1 r2 r3 r4 rf r6 rw rh)) (.need ((0 : Int) ≤ 2 ∧ 2 <
 (↑3 : Int)) (.need (D.Is Wr wc ∧ D.len wc ≤ 1048576 ∧ D.Is Int (D.like (hs 6 2) z3) ∧ D.len (D.like (hs 6 2) z3) ≤ 1048575 ∧ Prod.snd (ackW clk (Mb.frozen z1) (D.to Int (D.like (hs 6 2) z3)) (D.to Wr wc)) = true)
 (.all fun hs_1 => .leaf (Conf.mk (SFrm.mk 47 none none [Item.inLoop (cAt Try.prog 47 [1, 1, 1, 1, 1, 0, 1, 0, 0]), Item.inBlock 0, Item.code (cAt Try.prog 47 [1, 1, 1, 1, 1, 1])] (mkJ 0 [(2, .ptr 0 0),
 (3, .ptr 1 0), (4, .ptr 2 0), (7, .int .i64 (IntKind.wrap .i64 (2 + 1)))] 0 61)) [] [(0, OBlk.cells 97 [.int .i64 cn, .int .i64 cr, .int .i64 cp, .int .i64 cdl, .dat cps, .dat css, .bool cv, .int .i64 p1, .int .i64 p2, .int .i64 p3, .int .i64 p4, .bool pf, .int .i64 p6, .dat pw, .dat ph, .int .i64 q1, .int .i64 q2, .int .i64 q3, .int .i64 q4, .bool qf, .int .i64 q6, .dat qw, .dat qh, .int .i64
 (Mb.round z1), .int .i64 (Mb.position z1), .int .i64 (Mb.thawed z1), .int .i64 (Mb.issued z1), .bool (Mb.frozen z1), .int .i64 (Mb.upto z1), .dat (D.like (hs 6 0) (Mb.waiting z1)), .dat (D.like (hs 6 1)
 (Mb.held z1)), .dat fl, .dat wa, .dat wb, .dat (D.like (hs_1 0 0) (Prod.fst (ackW clk (Mb.frozen z1) (D.to Int (D.like (hs 6 2) z3)) (D.to Wr wc)))), .int .i64 now, .int .i64 clk, .bool rt, .int .i64 st]),
 (1, OBlk.cells 101 [.int .u8 ek, .int .u8 en, .int .u8 ew]), (2, OBlk.cells 97 [.int .i64 0, .int .i64 0, .int .i64 0, .int .i64 0, .nils, .nils, .lb false, .int .i64 0, .int .i64 0, .int .i64 0, .int .i64 0, .lb false, .int .i64 0, .nils, .nils, .int .i64 0, .int .i64 0, .int .i64 0, .int .i64 0, .lb false, .int .i64 0, .nils, .nils, .int .i64 0, .int .i64 0, .int .i64 0, .int .i64 0, .lb false, .int .i64 0, .nils, .nils, .nils, .nils, .nils, .nils, .int .i64 0, .int .i64 0, .lb false, .int .i64 0])])))))) z2)) z2 := by
 intros; kernel_rfl

theorem tick3_go : exec Try.prog ctG 900 (unroll (tickL cn cr cp cdl cps css cv p1 p2 p3 p4 pf p6 pw ph q1 q2 q3 q4 qf q6 qw qh r1 r2 r3 r4 rf r6 rw rh fl wa wb wc now clk rt st ek en ew 3)) =
 Tree.br false
 (.need ((2 : Int) ≠ 0)
 (.br (decide (Int.tmod en 2 = 1)) (.all fun hs => Tree.stuck)
 (.ret
 (.agg
 [.int .i64 cn, .int .i64 cr, .int .i64 cp, .int .i64 cdl, .dat cps,
 .dat css, .bool cv, .int .i64 p1, .int .i64 p2, .int .i64 p3,
 .int .i64 p4, .bool pf, .int .i64 p6, .dat pw, .dat ph, .int .i64 q1,
 .int .i64 q2, .int .i64 q3, .int .i64 q4, .bool qf, .int .i64 q6,
 .dat qw, .dat qh, .int .i64 r1, .int .i64 r2, .int .i64 r3,
 .int .i64 r4, .bool rf, .int .i64 r6, .dat rw, .dat rh, .dat fl, .dat wa,
 .dat wb, .dat wc, .int .i64 now, .int .i64 clk, .bool rt, .int .i64 st]))))
 (.ret
 (.agg
 [.int .i64 cn, .int .i64 cr, .int .i64 cp, .int .i64 cdl, .dat cps,
 .dat css, .bool cv, .int .i64 p1, .int .i64 p2, .int .i64 p3,
 .int .i64 p4, .bool pf, .int .i64 p6, .dat pw, .dat ph, .int .i64 q1,
 .int .i64 q2, .int .i64 q3, .int .i64 q4, .bool qf, .int .i64 q6,
 .dat qw, .dat qh, .int .i64 r1, .int .i64 r2, .int .i64 r3,
 .int .i64 r4, .bool rf, .int .i64 r6, .dat rw, .dat rh, .dat fl, .dat wa, .dat wb,
 .dat wc, .int .i64 now, .int .i64 clk, .bool rt, .int .i64 st])) := by kernel_rfl

theorem durg0_in : 
 let z2 := (Int.toNat (Int.tmod (IntKind.wrap .i64 ew) (↑(D.len pw) : Int)))
 let z1 := (durMb (MbD.mb (MbD.mk p1 p2 p3 p4 pf p6 pw ph)) (D.getInt pw z2 0))
 let z3 : Tree := (.ret (.agg [.int .i64 cn, .int .i64 cr, .int .i64 cp, .int .i64 cdl, .dat cps, .dat css, .bool cv, .int .i64 p1, .int .i64 p2, .int .i64 p3, .int .i64 p4, .bool pf, .int .i64 p6, .dat pw, .dat ph, .int .i64 q1, .int .i64 q2, .int .i64 q3, .int .i64 q4, .bool qf, .int .i64 q6, .dat qw, .dat qh, .int .i64 r1, .int .i64 r2, .int .i64 r3, .int .i64 r4, .bool rf, .int .i64 r6, .dat rw, .dat rh, .dat fl, .dat wa, .dat wb, .dat wc, .int .i64 now, .int .i64 clk, .lb false, .int .i64 st]))
 exec Try.prog ctG 900 (entry Try.prog 76 [.agg [.int .i64 cn, .int .i64 cr, .int .i64 cp, .int .i64 cdl, .dat cps, .dat css, .bool cv, .int .i64 p1, .int .i64 p2, .int .i64 p3, .int .i64 p4, .bool pf, .int .i64 p6, .dat pw, .dat ph, .int .i64 q1, .int .i64 q2, .int .i64 q3, .int .i64 q4, .bool qf, .int .i64 q6, .dat qw, .dat qh, .int .i64 r1, .int .i64 r2, .int .i64 r3, .int .i64 r4, .bool rf, .int .i64 r6, .dat rw, .dat rh, .dat fl, .dat wa, .dat wb, .dat wc, .int .i64 now, .int .i64 clk, .bool rt, .int .i64 st], .int .i64 0, .int .u8 ew]) =
 Tree.need ((0 : Int) ≤ 0 ∧ 0 < (↑3 : Int)) (.br (decide ((↑(D.len pw) : Int) = 0)) (.ret (.agg [.int .i64 cn, .int .i64 cr, .int .i64 cp, .int .i64 cdl, .dat cps, .dat css, .bool cv, .int .i64 p1, .int .i64 p2, .int .i64 p3, .int .i64 p4, .bool pf, .int .i64 p6, .dat pw, .dat ph, .int .i64 q1, .int .i64 q2, .int .i64 q3, .int .i64 q4, .bool qf, .int .i64 q6, .dat qw, .dat qh, .int .i64 r1, .int .i64 r2, .int .i64 r3, .int .i64 r4, .bool rf, .int .i64 r6, .dat rw, .dat rh, .dat fl, .dat wa, .dat wb, .dat wc, .int .i64 now, .int .i64 clk, .bool rt, .int .i64 st]))
 (.all fun hs => .need ((0 : Int) ≤ 0 ∧ 0 < (↑3 : Int)) (.need ((0 : Int) ≤ 0 ∧ 0 < (↑3 : Int)) (.need ((↑(D.len pw) : Int) ≠ 0) (.need (0 ≤ Int.tmod (IntKind.wrap .i64 ew) (↑(D.len pw) : Int) ∧ Int.tmod
 (IntKind.wrap .i64 ew) (↑(D.len pw) : Int) < (↑(D.len pw) : Int) ∧ D.sz pw = 1) (.need (D.HasCell pw z2 0 (FT.int .i64)) (.br (decide (D.getInt pw z2 0 < 0)) z3 (.need ((0 : Int) ≤ 0 ∧ 0 < (↑3 : Int))
 (.br (decide (D.getInt pw z2 0 ≥ (↑(D.len wa) : Int))) z3 (.all fun hs => .need ((0 : Int) ≤ 0 ∧ 0 < (↑3 : Int)) (.need (D.sz (D.slc (D.hd (hs 0 0)) 4 []) = 4 ∧ D.Fits wa 4 ∧ (D.len (D.slc (D.hd (hs 0 0)) 4 []) + D.len wa) * 32 ≤ 140737488355328 ∧ D.len
 (D.slc (D.hd (hs 0 0)) 4 []) + D.len wa ≤ 9223372036854775807) (.all fun hs_1 => .need ((0 : Int) ≤ 0 ∧ 0 < (↑3 : Int)) (.all fun hs_2 => .need ((0 : Int) ≤ 0 ∧ 0 < (↑3 : Int)) (.need (0 ≤ D.getInt pw z2 0 ∧ D.getInt pw z2 0 <
 (↑(D.len (D.slc (D.hd (hs_1 0 0)) 4 (List.append (D.rows (D.slc (D.hd (hs 0 0)) 4 [])) (D.rows wa)))) : Int) ∧ D.sz (D.slc (D.hd (hs_1 0 0)) 4 (List.append (D.rows (D.slc (D.hd (hs 0 0)) 4 [])) (D.rows wa))) = 4)
 (.need (Int.toNat (D.getInt pw z2 0) < D.len (D.slc (D.hd (hs_1 0 0)) 4 (List.append (D.rows (D.slc (D.hd (hs 0 0)) 4 [])) (D.rows wa))) ∧ 3 ≤ D.sz (D.slc (D.hd (hs_1 0 0)) 4 (List.append (D.rows (D.slc
 (D.hd (hs 0 0)) 4 [])) (D.rows wa))) ∧ D.sz (D.slc (D.hd (hs_1 0 0)) 4 (List.append (D.rows (D.slc (D.hd (hs 0 0)) 4 [])) (D.rows wa))) = 4) (.need ((0 : Int) ≤ 0 ∧ 0 < (↑3 : Int)) (.need (MbD.Right (MbD.mk p1 p2 p3 p4 pf p6 pw ph))
 (.all fun hs_3 => .br rt (.need ((0 : Int) ≤ 0 ∧ 0 < (↑3 : Int)) (.need (D.Is Wr (D.setCells (D.slc (D.hd (hs_1 0 0)) 4 (List.append (D.rows (D.slc (D.hd (hs 0 0)) 4 [])) (D.rows wa))) (Int.toNat (D.getInt pw z2 0)) 2 [D.int .i64 clk]) ∧ D.len
 (D.setCells (D.slc (D.hd (hs_1 0 0)) 4 (List.append (D.rows (D.slc (D.hd (hs 0 0)) 4 [])) (D.rows wa))) (Int.toNat (D.getInt pw z2 0)) 2 [D.int .i64 clk]) ≤ 1048576 ∧ D.Is Int (D.like (hs_3 0 2) (Prod.fst
 (Prod.snd z1))) ∧ D.len (D.like (hs_3 0 2) (Prod.fst (Prod.snd z1))) ≤ 1048575 ∧ Prod.snd (ackW clk (Mb.frozen (Prod.fst z1)) (D.to Int (D.like (hs_3 0 2) (Prod.fst (Prod.snd z1)))) (D.to Wr (D.setCells
 (D.slc (D.hd (hs_1 0 0)) 4 (List.append (D.rows (D.slc (D.hd (hs 0 0)) 4 [])) (D.rows wa))) (Int.toNat (D.getInt pw z2 0)) 2 [D.int .i64 clk]))) = true) (.all fun hs_4 => .ret (.agg [.int .i64 cn, .int .i64 cr, .int .i64 cp, .int .i64 cdl, .dat cps, .dat css, .bool cv, .int .i64
 (Mb.round (Prod.fst z1)), .int .i64 (Mb.position (Prod.fst z1)), .int .i64 (Mb.thawed (Prod.fst z1)), .int .i64 (Mb.issued (Prod.fst z1)), .bool (Mb.frozen (Prod.fst z1)), .int .i64 (Mb.upto (Prod.fst z1)), .dat
 (D.like (hs_3 0 0) (Mb.waiting (Prod.fst z1))), .dat (D.like (hs_3 0 1) (Mb.held (Prod.fst z1))), .int .i64 q1, .int .i64 q2, .int .i64 q3, .int .i64 q4, .bool qf, .int .i64 q6, .dat qw, .dat qh, .int .i64 r1, .int .i64 r2, .int .i64 r3, .int .i64 r4, .bool rf, .int .i64 r6, .dat rw, .dat rh, .dat fl, .dat
 (D.like (hs_4 0 0) (Prod.fst (ackW clk (Mb.frozen (Prod.fst z1)) (D.to Int (D.like (hs_3 0 2) (Prod.fst (Prod.snd z1)))) (D.to Wr (D.setCells (D.slc (D.hd (hs_1 0 0)) 4 (List.append (D.rows (D.slc (D.hd
 (hs 0 0)) 4 [])) (D.rows wa))) (Int.toNat (D.getInt pw z2 0)) 2 [D.int .i64 clk]))))), .dat wb, .dat wc, .int .i64 now, .int .i64 clk, .bool (decide (Prod.snd (Prod.snd z1) = 0)), .int .i64 st])))) (.need
 ((0 : Int) ≤ 0 ∧ 0 < (↑3 : Int)) (.need (D.Is Wr (D.setCells (D.slc (D.hd (hs_1 0 0)) 4 (List.append (D.rows (D.slc (D.hd (hs 0 0)) 4 [])) (D.rows wa))) (Int.toNat (D.getInt pw z2 0)) 2 [D.int .i64 clk]) ∧ D.len
 (D.setCells (D.slc (D.hd (hs_1 0 0)) 4 (List.append (D.rows (D.slc (D.hd (hs 0 0)) 4 [])) (D.rows wa))) (Int.toNat (D.getInt pw z2 0)) 2 [D.int .i64 clk]) ≤ 1048576 ∧ D.Is Int (D.like (hs_3 0 2) (Prod.fst
 (Prod.snd z1))) ∧ D.len (D.like (hs_3 0 2) (Prod.fst (Prod.snd z1))) ≤ 1048575 ∧ Prod.snd (ackW clk (Mb.frozen (Prod.fst z1)) (D.to Int (D.like (hs_3 0 2) (Prod.fst (Prod.snd z1)))) (D.to Wr (D.setCells
 (D.slc (D.hd (hs_1 0 0)) 4 (List.append (D.rows (D.slc (D.hd (hs 0 0)) 4 [])) (D.rows wa))) (Int.toNat (D.getInt pw z2 0)) 2 [D.int .i64 clk]))) = true) (.all fun hs_4 => .ret (.agg [.int .i64 cn, .int .i64 cr, .int .i64 cp, .int .i64 cdl, .dat cps, .dat css, .bool cv, .int .i64
 (Mb.round (Prod.fst z1)), .int .i64 (Mb.position (Prod.fst z1)), .int .i64 (Mb.thawed (Prod.fst z1)), .int .i64 (Mb.issued (Prod.fst z1)), .bool (Mb.frozen (Prod.fst z1)), .int .i64 (Mb.upto (Prod.fst z1)), .dat
 (D.like (hs_3 0 0) (Mb.waiting (Prod.fst z1))), .dat (D.like (hs_3 0 1) (Mb.held (Prod.fst z1))), .int .i64 q1, .int .i64 q2, .int .i64 q3, .int .i64 q4, .bool qf, .int .i64 q6, .dat qw, .dat qh, .int .i64 r1, .int .i64 r2, .int .i64 r3, .int .i64 r4, .bool rf, .int .i64 r6, .dat rw, .dat rh, .dat fl, .dat
 (D.like (hs_4 0 0) (Prod.fst (ackW clk (Mb.frozen (Prod.fst z1)) (D.to Int (D.like (hs_3 0 2) (Prod.fst (Prod.snd z1)))) (D.to Wr (D.setCells (D.slc (D.hd (hs_1 0 0)) 4 (List.append (D.rows (D.slc (D.hd
 (hs 0 0)) 4 [])) (D.rows wa))) (Int.toNat (D.getInt pw z2 0)) 2 [D.int .i64 clk]))))), .dat wb, .dat wc, .int .i64 now, .int .i64 clk, .bool false, .int .i64 st])))))))))))))))))))))) := by
 intros; kernel_rfl

theorem durg1_in : 
 let z2 := (Int.toNat (Int.tmod (IntKind.wrap .i64 ew) (↑(D.len qw) : Int)))
 let z1 := (durMb (MbD.mb (MbD.mk q1 q2 q3 q4 qf q6 qw qh)) (D.getInt qw z2 0))
 let z3 : Tree := (.ret (.agg [.int .i64 cn, .int .i64 cr, .int .i64 cp, .int .i64 cdl, .dat cps, .dat css, .bool cv, .int .i64 p1, .int .i64 p2, .int .i64 p3, .int .i64 p4, .bool pf, .int .i64 p6, .dat pw, .dat ph, .int .i64 q1, .int .i64 q2, .int .i64 q3, .int .i64 q4, .bool qf, .int .i64 q6, .dat qw, .dat qh, .int .i64 r1, .int .i64 r2, .int .i64 r3, .int .i64 r4, .bool rf, .int .i64 r6, .dat rw, .dat rh, .dat fl, .dat wa, .dat wb, .dat wc, .int .i64 now, .int .i64 clk, .lb false, .int .i64 st]))
 exec Try.prog ctG 900 (entry Try.prog 76 [.agg [.int .i64 cn, .int .i64 cr, .int .i64 cp, .int .i64 cdl, .dat cps, .dat css, .bool cv, .int .i64 p1, .int .i64 p2, .int .i64 p3, .int .i64 p4, .bool pf, .int .i64 p6, .dat pw, .dat ph, .int .i64 q1, .int .i64 q2, .int .i64 q3, .int .i64 q4, .bool qf, .int .i64 q6, .dat qw, .dat qh, .int .i64 r1, .int .i64 r2, .int .i64 r3, .int .i64 r4, .bool rf, .int .i64 r6, .dat rw, .dat rh, .dat fl, .dat wa, .dat wb, .dat wc, .int .i64 now, .int .i64 clk, .bool rt, .int .i64 st], .int .i64 1, .int .u8 ew]) =
 Tree.need ((0 : Int) ≤ 1 ∧ 1 < (↑3 : Int)) (.br (decide ((↑(D.len qw) : Int) = 0)) (.ret (.agg [.int .i64 cn, .int .i64 cr, .int .i64 cp, .int .i64 cdl, .dat cps, .dat css, .bool cv, .int .i64 p1, .int .i64 p2, .int .i64 p3, .int .i64 p4, .bool pf, .int .i64 p6, .dat pw, .dat ph, .int .i64 q1, .int .i64 q2, .int .i64 q3, .int .i64 q4, .bool qf, .int .i64 q6, .dat qw, .dat qh, .int .i64 r1, .int .i64 r2, .int .i64 r3, .int .i64 r4, .bool rf, .int .i64 r6, .dat rw, .dat rh, .dat fl, .dat wa, .dat wb, .dat wc, .int .i64 now, .int .i64 clk, .bool rt, .int .i64 st]))
 (.all fun hs => .need ((0 : Int) ≤ 1 ∧ 1 < (↑3 : Int)) (.need ((0 : Int) ≤ 1 ∧ 1 < (↑3 : Int)) (.need ((↑(D.len qw) : Int) ≠ 0) (.need (0 ≤ Int.tmod (IntKind.wrap .i64 ew) (↑(D.len qw) : Int) ∧ Int.tmod
 (IntKind.wrap .i64 ew) (↑(D.len qw) : Int) < (↑(D.len qw) : Int) ∧ D.sz qw = 1) (.need (D.HasCell qw z2 0 (FT.int .i64)) (.br (decide (D.getInt qw z2 0 < 0)) z3 (.need ((0 : Int) ≤ 1 ∧ 1 < (↑3 : Int))
 (.br (decide (D.getInt qw z2 0 ≥ (↑(D.len wb) : Int))) z3 (.all fun hs => .need ((0 : Int) ≤ 1 ∧ 1 < (↑3 : Int)) (.need (D.sz (D.slc (D.hd (hs 0 0)) 4 []) = 4 ∧ D.Fits wb 4 ∧ (D.len (D.slc (D.hd (hs 0 0)) 4 []) + D.len wb) * 32 ≤ 140737488355328 ∧ D.len
 (D.slc (D.hd (hs 0 0)) 4 []) + D.len wb ≤ 9223372036854775807) (.all fun hs_1 => .need ((0 : Int) ≤ 1 ∧ 1 < (↑3 : Int)) (.all fun hs_2 => .need ((0 : Int) ≤ 1 ∧ 1 < (↑3 : Int)) (.need (0 ≤ D.getInt qw z2 0 ∧ D.getInt qw z2 0 <
 (↑(D.len (D.slc (D.hd (hs_1 0 0)) 4 (List.append (D.rows (D.slc (D.hd (hs 0 0)) 4 [])) (D.rows wb)))) : Int) ∧ D.sz (D.slc (D.hd (hs_1 0 0)) 4 (List.append (D.rows (D.slc (D.hd (hs 0 0)) 4 [])) (D.rows wb))) = 4)
 (.need (Int.toNat (D.getInt qw z2 0) < D.len (D.slc (D.hd (hs_1 0 0)) 4 (List.append (D.rows (D.slc (D.hd (hs 0 0)) 4 [])) (D.rows wb))) ∧ 3 ≤ D.sz (D.slc (D.hd (hs_1 0 0)) 4 (List.append (D.rows (D.slc
 (D.hd (hs 0 0)) 4 [])) (D.rows wb))) ∧ D.sz (D.slc (D.hd (hs_1 0 0)) 4 (List.append (D.rows (D.slc (D.hd (hs 0 0)) 4 [])) (D.rows wb))) = 4) (.need ((0 : Int) ≤ 1 ∧ 1 < (↑3 : Int)) (.need (MbD.Right (MbD.mk q1 q2 q3 q4 qf q6 qw qh))
 (.all fun hs_3 => .br rt (.need ((0 : Int) ≤ 1 ∧ 1 < (↑3 : Int)) (.need (D.Is Wr (D.setCells (D.slc (D.hd (hs_1 0 0)) 4 (List.append (D.rows (D.slc (D.hd (hs 0 0)) 4 [])) (D.rows wb))) (Int.toNat (D.getInt qw z2 0)) 2 [D.int .i64 clk]) ∧ D.len
 (D.setCells (D.slc (D.hd (hs_1 0 0)) 4 (List.append (D.rows (D.slc (D.hd (hs 0 0)) 4 [])) (D.rows wb))) (Int.toNat (D.getInt qw z2 0)) 2 [D.int .i64 clk]) ≤ 1048576 ∧ D.Is Int (D.like (hs_3 0 2) (Prod.fst
 (Prod.snd z1))) ∧ D.len (D.like (hs_3 0 2) (Prod.fst (Prod.snd z1))) ≤ 1048575 ∧ Prod.snd (ackW clk (Mb.frozen (Prod.fst z1)) (D.to Int (D.like (hs_3 0 2) (Prod.fst (Prod.snd z1)))) (D.to Wr (D.setCells
 (D.slc (D.hd (hs_1 0 0)) 4 (List.append (D.rows (D.slc (D.hd (hs 0 0)) 4 [])) (D.rows wb))) (Int.toNat (D.getInt qw z2 0)) 2 [D.int .i64 clk]))) = true) (.all fun hs_4 => .ret (.agg [.int .i64 cn, .int .i64 cr, .int .i64 cp, .int .i64 cdl, .dat cps, .dat css, .bool cv, .int .i64 p1, .int .i64 p2, .int .i64 p3, .int .i64 p4, .bool pf, .int .i64 p6, .dat pw, .dat ph, .int .i64
 (Mb.round (Prod.fst z1)), .int .i64 (Mb.position (Prod.fst z1)), .int .i64 (Mb.thawed (Prod.fst z1)), .int .i64 (Mb.issued (Prod.fst z1)), .bool (Mb.frozen (Prod.fst z1)), .int .i64 (Mb.upto (Prod.fst z1)), .dat
 (D.like (hs_3 0 0) (Mb.waiting (Prod.fst z1))), .dat (D.like (hs_3 0 1) (Mb.held (Prod.fst z1))), .int .i64 r1, .int .i64 r2, .int .i64 r3, .int .i64 r4, .bool rf, .int .i64 r6, .dat rw, .dat rh, .dat fl, .dat wa, .dat
 (D.like (hs_4 0 0) (Prod.fst (ackW clk (Mb.frozen (Prod.fst z1)) (D.to Int (D.like (hs_3 0 2) (Prod.fst (Prod.snd z1)))) (D.to Wr (D.setCells (D.slc (D.hd (hs_1 0 0)) 4 (List.append (D.rows (D.slc (D.hd
 (hs 0 0)) 4 [])) (D.rows wb))) (Int.toNat (D.getInt qw z2 0)) 2 [D.int .i64 clk]))))), .dat wc, .int .i64 now, .int .i64 clk, .bool (decide (Prod.snd (Prod.snd z1) = 0)), .int .i64 st])))) (.need ((0 : Int) ≤ 1 ∧ 1 <
 (↑3 : Int)) (.need (D.Is Wr (D.setCells (D.slc (D.hd (hs_1 0 0)) 4 (List.append (D.rows (D.slc (D.hd (hs 0 0)) 4 [])) (D.rows wb))) (Int.toNat (D.getInt qw z2 0)) 2 [D.int .i64 clk]) ∧ D.len (D.setCells
 (D.slc (D.hd (hs_1 0 0)) 4 (List.append (D.rows (D.slc (D.hd (hs 0 0)) 4 [])) (D.rows wb))) (Int.toNat (D.getInt qw z2 0)) 2 [D.int .i64 clk]) ≤ 1048576 ∧ D.Is Int (D.like (hs_3 0 2) (Prod.fst (Prod.snd z1))) ∧ D.len
 (D.like (hs_3 0 2) (Prod.fst (Prod.snd z1))) ≤ 1048575 ∧ Prod.snd (ackW clk (Mb.frozen (Prod.fst z1)) (D.to Int (D.like (hs_3 0 2) (Prod.fst (Prod.snd z1)))) (D.to Wr (D.setCells (D.slc (D.hd (hs_1 0 0)) 4
 (List.append (D.rows (D.slc (D.hd (hs 0 0)) 4 [])) (D.rows wb))) (Int.toNat (D.getInt qw z2 0)) 2 [D.int .i64 clk]))) = true) (.all fun hs_4 => .ret (.agg [.int .i64 cn, .int .i64 cr, .int .i64 cp, .int .i64 cdl, .dat cps, .dat css, .bool cv, .int .i64 p1, .int .i64 p2, .int .i64 p3, .int .i64 p4, .bool pf, .int .i64 p6, .dat pw, .dat ph, .int .i64
 (Mb.round (Prod.fst z1)), .int .i64 (Mb.position (Prod.fst z1)), .int .i64 (Mb.thawed (Prod.fst z1)), .int .i64 (Mb.issued (Prod.fst z1)), .bool (Mb.frozen (Prod.fst z1)), .int .i64 (Mb.upto (Prod.fst z1)), .dat
 (D.like (hs_3 0 0) (Mb.waiting (Prod.fst z1))), .dat (D.like (hs_3 0 1) (Mb.held (Prod.fst z1))), .int .i64 r1, .int .i64 r2, .int .i64 r3, .int .i64 r4, .bool rf, .int .i64 r6, .dat rw, .dat rh, .dat fl, .dat wa, .dat
 (D.like (hs_4 0 0) (Prod.fst (ackW clk (Mb.frozen (Prod.fst z1)) (D.to Int (D.like (hs_3 0 2) (Prod.fst (Prod.snd z1)))) (D.to Wr (D.setCells (D.slc (D.hd (hs_1 0 0)) 4 (List.append (D.rows (D.slc (D.hd
 (hs 0 0)) 4 [])) (D.rows wb))) (Int.toNat (D.getInt qw z2 0)) 2 [D.int .i64 clk]))))), .dat wc, .int .i64 now, .int .i64 clk, .bool false, .int .i64 st])))))))))))))))))))))) := by
 intros; kernel_rfl

theorem durg2_in : 
 let z2 := (Int.toNat (Int.tmod (IntKind.wrap .i64 ew) (↑(D.len rw) : Int)))
 let z1 := (durMb (MbD.mb (MbD.mk r1 r2 r3 r4 rf r6 rw rh)) (D.getInt rw z2 0))
 let z3 : Tree := (.ret (.agg [.int .i64 cn, .int .i64 cr, .int .i64 cp, .int .i64 cdl, .dat cps, .dat css, .bool cv, .int .i64 p1, .int .i64 p2, .int .i64 p3, .int .i64 p4, .bool pf, .int .i64 p6, .dat pw, .dat ph, .int .i64 q1, .int .i64 q2, .int .i64 q3, .int .i64 q4, .bool qf, .int .i64 q6, .dat qw, .dat qh, .int .i64 r1, .int .i64 r2, .int .i64 r3, .int .i64 r4, .bool rf, .int .i64 r6, .dat rw, .dat rh, .dat fl, .dat wa, .dat wb, .dat wc, .int .i64 now, .int .i64 clk, .lb false, .int .i64 st]))
 exec Try.prog ctG 900 (entry Try.prog 76 [.agg [.int .i64 cn, .int .i64 cr, .int .i64 cp, .int .i64 cdl, .dat cps, .dat css, .bool cv, .int .i64 p1, .int .i64 p2, .int .i64 p3, .int .i64 p4, .bool pf, .int .i64 p6, .dat pw, .dat ph, .int .i64 q1, .int .i64 q2, .int .i64 q3, .int .i64 q4, .bool qf, .int .i64 q6, .dat qw, .dat qh, .int .i64 r1, .int .i64 r2, .int .i64 r3, .int .i64 r4, .bool rf, .int .i64 r6, .dat rw, .dat rh, .dat fl, .dat wa, .dat wb, .dat wc, .int .i64 now, .int .i64 clk, .bool rt, .int .i64 st], .int .i64 2, .int .u8 ew]) =
 Tree.need ((0 : Int) ≤ 2 ∧ 2 < (↑3 : Int)) (.br (decide ((↑(D.len rw) : Int) = 0)) (.ret (.agg [.int .i64 cn, .int .i64 cr, .int .i64 cp, .int .i64 cdl, .dat cps, .dat css, .bool cv, .int .i64 p1, .int .i64 p2, .int .i64 p3, .int .i64 p4, .bool pf, .int .i64 p6, .dat pw, .dat ph, .int .i64 q1, .int .i64 q2, .int .i64 q3, .int .i64 q4, .bool qf, .int .i64 q6, .dat qw, .dat qh, .int .i64 r1, .int .i64 r2, .int .i64 r3, .int .i64 r4, .bool rf, .int .i64 r6, .dat rw, .dat rh, .dat fl, .dat wa, .dat wb, .dat wc, .int .i64 now, .int .i64 clk, .bool rt, .int .i64 st]))
 (.all fun hs => .need ((0 : Int) ≤ 2 ∧ 2 < (↑3 : Int)) (.need ((0 : Int) ≤ 2 ∧ 2 < (↑3 : Int)) (.need ((↑(D.len rw) : Int) ≠ 0) (.need (0 ≤ Int.tmod (IntKind.wrap .i64 ew) (↑(D.len rw) : Int) ∧ Int.tmod
 (IntKind.wrap .i64 ew) (↑(D.len rw) : Int) < (↑(D.len rw) : Int) ∧ D.sz rw = 1) (.need (D.HasCell rw z2 0 (FT.int .i64)) (.br (decide (D.getInt rw z2 0 < 0)) z3 (.need ((0 : Int) ≤ 2 ∧ 2 < (↑3 : Int))
 (.br (decide (D.getInt rw z2 0 ≥ (↑(D.len wc) : Int))) z3 (.all fun hs => .need ((0 : Int) ≤ 2 ∧ 2 < (↑3 : Int)) (.need (D.sz (D.slc (D.hd (hs 0 0)) 4 []) = 4 ∧ D.Fits wc 4 ∧ (D.len (D.slc (D.hd (hs 0 0)) 4 []) + D.len wc) * 32 ≤ 140737488355328 ∧ D.len
 (D.slc (D.hd (hs 0 0)) 4 []) + D.len wc ≤ 9223372036854775807) (.all fun hs_1 => .need ((0 : Int) ≤ 2 ∧ 2 < (↑3 : Int)) (.all fun hs_2 => .need ((0 : Int) ≤ 2 ∧ 2 < (↑3 : Int)) (.need (0 ≤ D.getInt rw z2 0 ∧ D.getInt rw z2 0 <
 (↑(D.len (D.slc (D.hd (hs_1 0 0)) 4 (List.append (D.rows (D.slc (D.hd (hs 0 0)) 4 [])) (D.rows wc)))) : Int) ∧ D.sz (D.slc (D.hd (hs_1 0 0)) 4 (List.append (D.rows (D.slc (D.hd (hs 0 0)) 4 [])) (D.rows wc))) = 4)
 (.need (Int.toNat (D.getInt rw z2 0) < D.len (D.slc (D.hd (hs_1 0 0)) 4 (List.append (D.rows (D.slc (D.hd (hs 0 0)) 4 [])) (D.rows wc))) ∧ 3 ≤ D.sz (D.slc (D.hd (hs_1 0 0)) 4 (List.append (D.rows (D.slc
 (D.hd (hs 0 0)) 4 [])) (D.rows wc))) ∧ D.sz (D.slc (D.hd (hs_1 0 0)) 4 (List.append (D.rows (D.slc (D.hd (hs 0 0)) 4 [])) (D.rows wc))) = 4) (.need ((0 : Int) ≤ 2 ∧ 2 < (↑3 : Int)) (.need (MbD.Right (MbD.mk r1 r2 r3 r4 rf r6 rw rh))
 (.all fun hs_3 => .br rt (.need ((0 : Int) ≤ 2 ∧ 2 < (↑3 : Int)) (.need (D.Is Wr (D.setCells (D.slc (D.hd (hs_1 0 0)) 4 (List.append (D.rows (D.slc (D.hd (hs 0 0)) 4 [])) (D.rows wc))) (Int.toNat (D.getInt rw z2 0)) 2 [D.int .i64 clk]) ∧ D.len
 (D.setCells (D.slc (D.hd (hs_1 0 0)) 4 (List.append (D.rows (D.slc (D.hd (hs 0 0)) 4 [])) (D.rows wc))) (Int.toNat (D.getInt rw z2 0)) 2 [D.int .i64 clk]) ≤ 1048576 ∧ D.Is Int (D.like (hs_3 0 2) (Prod.fst
 (Prod.snd z1))) ∧ D.len (D.like (hs_3 0 2) (Prod.fst (Prod.snd z1))) ≤ 1048575 ∧ Prod.snd (ackW clk (Mb.frozen (Prod.fst z1)) (D.to Int (D.like (hs_3 0 2) (Prod.fst (Prod.snd z1)))) (D.to Wr (D.setCells
 (D.slc (D.hd (hs_1 0 0)) 4 (List.append (D.rows (D.slc (D.hd (hs 0 0)) 4 [])) (D.rows wc))) (Int.toNat (D.getInt rw z2 0)) 2 [D.int .i64 clk]))) = true) (.all fun hs_4 => .ret (.agg [.int .i64 cn, .int .i64 cr, .int .i64 cp, .int .i64 cdl, .dat cps, .dat css, .bool cv, .int .i64 p1, .int .i64 p2, .int .i64 p3, .int .i64 p4, .bool pf, .int .i64 p6, .dat pw, .dat ph, .int .i64 q1, .int .i64 q2, .int .i64 q3, .int .i64 q4, .bool qf, .int .i64 q6, .dat qw, .dat qh, .int .i64
 (Mb.round (Prod.fst z1)), .int .i64 (Mb.position (Prod.fst z1)), .int .i64 (Mb.thawed (Prod.fst z1)), .int .i64 (Mb.issued (Prod.fst z1)), .bool (Mb.frozen (Prod.fst z1)), .int .i64 (Mb.upto (Prod.fst z1)), .dat
 (D.like (hs_3 0 0) (Mb.waiting (Prod.fst z1))), .dat (D.like (hs_3 0 1) (Mb.held (Prod.fst z1))), .dat fl, .dat wa, .dat wb, .dat (D.like (hs_4 0 0) (Prod.fst (ackW clk (Mb.frozen (Prod.fst z1)) (D.to Int
 (D.like (hs_3 0 2) (Prod.fst (Prod.snd z1)))) (D.to Wr (D.setCells (D.slc (D.hd (hs_1 0 0)) 4 (List.append (D.rows (D.slc (D.hd (hs 0 0)) 4 [])) (D.rows wc))) (Int.toNat (D.getInt rw z2 0)) 2 [D.int .i64 clk]))))), .int .i64 now, .int .i64 clk, .bool
 (decide (Prod.snd (Prod.snd z1) = 0)), .int .i64 st])))) (.need ((0 : Int) ≤ 2 ∧ 2 < (↑3 : Int)) (.need (D.Is Wr (D.setCells (D.slc (D.hd (hs_1 0 0)) 4 (List.append (D.rows (D.slc (D.hd (hs 0 0)) 4 []))
 (D.rows wc))) (Int.toNat (D.getInt rw z2 0)) 2 [D.int .i64 clk]) ∧ D.len (D.setCells (D.slc (D.hd (hs_1 0 0)) 4 (List.append (D.rows (D.slc (D.hd (hs 0 0)) 4 [])) (D.rows wc))) (Int.toNat (D.getInt rw z2 0)) 2 [D.int .i64 clk]) ≤ 1048576 ∧ D.Is Int
 (D.like (hs_3 0 2) (Prod.fst (Prod.snd z1))) ∧ D.len (D.like (hs_3 0 2) (Prod.fst (Prod.snd z1))) ≤ 1048575 ∧ Prod.snd (ackW clk (Mb.frozen (Prod.fst z1)) (D.to Int (D.like (hs_3 0 2) (Prod.fst (Prod.snd z1))))
 (D.to Wr (D.setCells (D.slc (D.hd (hs_1 0 0)) 4 (List.append (D.rows (D.slc (D.hd (hs 0 0)) 4 [])) (D.rows wc))) (Int.toNat (D.getInt rw z2 0)) 2 [D.int .i64 clk]))) = true) (.all fun hs_4 => .ret (.agg [.int .i64 cn, .int .i64 cr, .int .i64 cp, .int .i64 cdl, .dat cps, .dat css, .bool cv, .int .i64 p1, .int .i64 p2, .int .i64 p3, .int .i64 p4, .bool pf, .int .i64 p6, .dat pw, .dat ph, .int .i64 q1, .int .i64 q2, .int .i64 q3, .int .i64 q4, .bool qf, .int .i64 q6, .dat qw, .dat qh, .int .i64
 (Mb.round (Prod.fst z1)), .int .i64 (Mb.position (Prod.fst z1)), .int .i64 (Mb.thawed (Prod.fst z1)), .int .i64 (Mb.issued (Prod.fst z1)), .bool (Mb.frozen (Prod.fst z1)), .int .i64 (Mb.upto (Prod.fst z1)), .dat
 (D.like (hs_3 0 0) (Mb.waiting (Prod.fst z1))), .dat (D.like (hs_3 0 1) (Mb.held (Prod.fst z1))), .dat fl, .dat wa, .dat wb, .dat (D.like (hs_4 0 0) (Prod.fst (ackW clk (Mb.frozen (Prod.fst z1)) (D.to Int
 (D.like (hs_3 0 2) (Prod.fst (Prod.snd z1)))) (D.to Wr (D.setCells (D.slc (D.hd (hs_1 0 0)) 4 (List.append (D.rows (D.slc (D.hd (hs 0 0)) 4 [])) (D.rows wc))) (Int.toNat (D.getInt rw z2 0)) 2 [D.int .i64 clk]))))), .int .i64 now, .int .i64 clk, .bool false, .int .i64 st])))))))))))))))))))))) := by
 intros; kernel_rfl

end
end Go.Proofs.Ytoechplbhbalaaa
end
section
/- Layer 21: the law of tick. -/
open Go Go.Proofs Sx
namespace Go.Proofs.Ytoechplbhbalaaa
set_option maxRecDepth 100000
set_option maxHeartbeats 0

theorem tick3_run {w : World} {H : HV} {cn cr cp cdl : Int} {cps css : D} {cv : Bool} {p1 p2 p3 p4 : Int} {pf : Bool} {p6 : Int} {pw ph : D} {q1 q2 q3 q4 : Int} {qf : Bool} {q6 : Int} {qw qh : D} {r1 r2 r3 r4 : Int} {rf : Bool} {r6 : Int} {rw rh : D} {fl wa wb wc : D} {now clk : Int} {rt : Bool} {st : Int} {ek en ew : Int} (hR : GrRight (CV.int cn :: CV.int cr :: CV.int cp :: CV.int cdl :: CV.dat cps :: CV.dat css :: CV.bool cv :: CV.int p1 :: CV.int p2 :: CV.int p3 :: CV.int p4 :: CV.bool pf :: CV.int p6 :: CV.dat pw :: CV.dat ph :: CV.int q1 :: CV.int q2 :: CV.int q3 :: CV.int q4 :: CV.bool qf :: CV.int q6 :: CV.dat qw :: CV.dat qh :: CV.int r1 :: CV.int r2 :: CV.int r3 :: CV.int r4 :: CV.bool rf :: CV.int r6 :: CV.dat rw :: CV.dat rh :: CV.dat fl :: CV.dat wa :: CV.dat wb :: CV.dat wc :: CV.int now :: CV.int clk :: CV.bool rt :: CV.int st :: [])) :
    Runs Try.prog ⟨w, H⟩ (tickL cn cr cp cdl cps css cv p1 p2 p3 p4 pf p6 pw ph q1 q2 q3 q4 qf q6 qw qh r1 r2 r3 r4 rf r6 rw rh fl wa wb wc now clk rt st ek en ew 3) (RetD w H fun ds => .agg (svOf ds 0 (grOf (CV.int cn :: CV.int cr :: CV.int cp :: CV.int cdl :: CV.dat cps :: CV.dat css :: CV.bool cv :: CV.int p1 :: CV.int p2 :: CV.int p3 :: CV.int p4 :: CV.bool pf :: CV.int p6 :: CV.dat pw :: CV.dat ph :: CV.int q1 :: CV.int q2 :: CV.int q3 :: CV.int q4 :: CV.bool qf :: CV.int q6 :: CV.dat qw :: CV.dat qh :: CV.int r1 :: CV.int r2 :: CV.int r3 :: CV.int r4 :: CV.bool rf :: CV.int r6 :: CV.dat rw :: CV.dat rh :: CV.dat fl :: CV.dat wa :: CV.dat wb :: CV.dat wc :: CV.int now :: CV.int clk :: CV.bool rt :: CV.int st :: [])).cls)) := by
  rw [grRight_eq] at hR
  obtain ⟨⟨hc1, hc2⟩, ⟨hpw, hph, _, _⟩, ⟨hqw, hqh, _, _⟩, ⟨hrw, hrh, _, _⟩, ⟨hf, hfl⟩, ⟨ha, hal⟩, ⟨hb, hbl⟩, ⟨hcc, hcl⟩⟩ := hR
  simp only at hpw hph hqw hqh hrw hrh
  have hr : True ∧ True := ⟨trivial, trivial⟩
  refine unroll_sound rfl ?_
  apply exec_sound ctGOk 900
  rw [tick3_go, grOf_eq, cls_tri]
  refine ⟨fun h => (by cases h), fun _ => ret_cells ?_⟩
  repeat' first
  | exact .nil
  | refine .cons ?_ ?_
  | exact rfl
  | exact fun _ => rfl
  | exact lst_ok stands_like
  | exact lst_ok (stands_self (by assumption))
  | exact lst_ok (by rw [D.like_to]; exact stands_like)
  | exact bool_ok (by rw [hr.2, Bool.and_true])
  | fail

theorem tickz_run {w : World} {H : HV} {cn cr cp cdl : Int} {cps css : D} {cv : Bool} {p1 p2 p3 p4 : Int} {pf : Bool} {p6 : Int} {pw ph : D} {q1 q2 q3 q4 : Int} {qf : Bool} {q6 : Int} {qw qh : D} {r1 r2 r3 r4 : Int} {rf : Bool} {r6 : Int} {rw rh : D} {fl wa wb wc : D} {now clk : Int} {rt : Bool} {st : Int} {ek en ew : Int} (hen : ¬Int.tmod en 2 = 1) (hR : GrRight (CV.int cn :: CV.int cr :: CV.int cp :: CV.int cdl :: CV.dat cps :: CV.dat css :: CV.bool cv :: CV.int p1 :: CV.int p2 :: CV.int p3 :: CV.int p4 :: CV.bool pf :: CV.int p6 :: CV.dat pw :: CV.dat ph :: CV.int q1 :: CV.int q2 :: CV.int q3 :: CV.int q4 :: CV.bool qf :: CV.int q6 :: CV.dat qw :: CV.dat qh :: CV.int r1 :: CV.int r2 :: CV.int r3 :: CV.int r4 :: CV.bool rf :: CV.int r6 :: CV.dat rw :: CV.dat rh :: CV.dat fl :: CV.dat wa :: CV.dat wb :: CV.dat wc :: CV.int now :: CV.int clk :: CV.bool rt :: CV.int st :: [])) :
    Runs Try.prog ⟨w, H⟩ (tickL cn cr cp cdl cps css cv p1 p2 p3 p4 pf p6 pw ph q1 q2 q3 q4 qf q6 qw qh r1 r2 r3 r4 rf r6 rw rh fl wa wb wc now clk rt st ek en ew 0) (RetD w H fun ds => .agg (svOf ds 0 (grOf (CV.int cn :: CV.int cr :: CV.int cp :: CV.int cdl :: CV.dat cps :: CV.dat css :: CV.bool cv :: CV.int p1 :: CV.int p2 :: CV.int p3 :: CV.int p4 :: CV.bool pf :: CV.int p6 :: CV.dat pw :: CV.dat ph :: CV.int q1 :: CV.int q2 :: CV.int q3 :: CV.int q4 :: CV.bool qf :: CV.int q6 :: CV.dat qw :: CV.dat qh :: CV.int r1 :: CV.int r2 :: CV.int r3 :: CV.int r4 :: CV.bool rf :: CV.int r6 :: CV.dat rw :: CV.dat rh :: CV.dat fl :: CV.dat wa :: CV.dat wb :: CV.dat wc :: CV.int now :: CV.int clk :: CV.bool rt :: CV.int st :: [])).cls)) := by
  rw [grRight_eq] at hR
  obtain ⟨⟨hc1, hc2⟩, ⟨hpw, hph, _, _⟩, ⟨hqw, hqh, _, _⟩, ⟨hrw, hrh, _, _⟩, ⟨hf, hfl⟩, ⟨ha, hal⟩, ⟨hb, hbl⟩, ⟨hcc, hcl⟩⟩ := hR
  simp only at hpw hph hqw hqh hrw hrh
  have hr : True ∧ True := ⟨trivial, trivial⟩
  refine unroll_sound rfl ?_
  apply exec_sound ctGOk 900
  have hen' : decide (Int.tmod en 2 = 1) = false := decide_eq_false hen
  rw [tick0_go, grOf_eq, cls_tri]
  refine ⟨fun _ => ⟨(by decide : (2 : Int) ≠ 0), fun h => absurd (hen'.symm.trans h) (by decide), fun _ => ret_cells ?_⟩, fun h => (by cases h)⟩
  repeat' first
  | exact .nil
  | refine .cons ?_ ?_
  | exact rfl
  | exact fun _ => rfl
  | exact lst_ok stands_like
  | exact lst_ok (stands_self (by assumption))
  | exact lst_ok (by rw [D.like_to]; exact stands_like)
  | exact bool_ok (by rw [hr.2, Bool.and_true])
  | fail

theorem tick2_run {w : World} {H : HV} {cn cr cp cdl : Int} {cps css : D} {cv : Bool} {p1 p2 p3 p4 : Int} {pf : Bool} {p6 : Int} {pw ph : D} {q1 q2 q3 q4 : Int} {qf : Bool} {q6 : Int} {qw qh : D} {r1 r2 r3 r4 : Int} {rf : Bool} {r6 : Int} {rw rh : D} {fl wa wb wc : D} {now clk : Int} {rt : Bool} {st : Int} {ek en ew : Int} (hen : Int.tmod en 2 = 1) (hR : GrRight (CV.int cn :: CV.int cr :: CV.int cp :: CV.int cdl :: CV.dat cps :: CV.dat css :: CV.bool cv :: CV.int p1 :: CV.int p2 :: CV.int p3 :: CV.int p4 :: CV.bool pf :: CV.int p6 :: CV.dat pw :: CV.dat ph :: CV.int q1 :: CV.int q2 :: CV.int q3 :: CV.int q4 :: CV.bool qf :: CV.int q6 :: CV.dat qw :: CV.dat qh :: CV.int r1 :: CV.int r2 :: CV.int r3 :: CV.int r4 :: CV.bool rf :: CV.int r6 :: CV.dat rw :: CV.dat rh :: CV.dat fl :: CV.dat wa :: CV.dat wb :: CV.dat wc :: CV.int now :: CV.int clk :: CV.bool rt :: CV.int st :: [])) (hr : (relG (grOf (CV.int cn :: CV.int cr :: CV.int cp :: CV.int cdl :: CV.dat cps :: CV.dat css :: CV.bool cv :: CV.int p1 :: CV.int p2 :: CV.int p3 :: CV.int p4 :: CV.bool pf :: CV.int p6 :: CV.dat pw :: CV.dat ph :: CV.int q1 :: CV.int q2 :: CV.int q3 :: CV.int q4 :: CV.bool qf :: CV.int q6 :: CV.dat qw :: CV.dat qh :: CV.int r1 :: CV.int r2 :: CV.int r3 :: CV.int r4 :: CV.bool rf :: CV.int r6 :: CV.dat rw :: CV.dat rh :: CV.dat fl :: CV.dat wa :: CV.dat wb :: CV.dat wc :: CV.int now :: CV.int clk :: CV.bool rt :: CV.int st :: [])) 2).right = true) :
    Runs Try.prog ⟨w, H⟩ (tickL cn cr cp cdl cps css cv p1 p2 p3 p4 pf p6 pw ph q1 q2 q3 q4 qf q6 qw qh r1 r2 r3 r4 rf r6 rw rh fl wa wb wc now clk rt st ek en ew 2) (RetD w H fun ds => .agg (svOf ds 0 (relG (grOf (CV.int cn :: CV.int cr :: CV.int cp :: CV.int cdl :: CV.dat cps :: CV.dat css :: CV.bool cv :: CV.int p1 :: CV.int p2 :: CV.int p3 :: CV.int p4 :: CV.bool pf :: CV.int p6 :: CV.dat pw :: CV.dat ph :: CV.int q1 :: CV.int q2 :: CV.int q3 :: CV.int q4 :: CV.bool qf :: CV.int q6 :: CV.dat qw :: CV.dat qh :: CV.int r1 :: CV.int r2 :: CV.int r3 :: CV.int r4 :: CV.bool rf :: CV.int r6 :: CV.dat rw :: CV.dat rh :: CV.dat fl :: CV.dat wa :: CV.dat wb :: CV.dat wc :: CV.int now :: CV.int clk :: CV.bool rt :: CV.int st :: [])) 2).cls)) := by
  have hR0 := hR
  rw [grRight_eq] at hR
  obtain ⟨⟨hc1, hc2⟩, hp, hq, hr', ⟨hf, hfl⟩, ⟨ha, hal⟩, ⟨hb, hbl⟩, ⟨hcc, hcl⟩⟩ := hR
  have hx : (relG (grOf (CV.int cn :: CV.int cr :: CV.int cp :: CV.int cdl :: CV.dat cps :: CV.dat css :: CV.bool cv :: CV.int p1 :: CV.int p2 :: CV.int p3 :: CV.int p4 :: CV.bool pf :: CV.int p6 :: CV.dat pw :: CV.dat ph :: CV.int q1 :: CV.int q2 :: CV.int q3 :: CV.int q4 :: CV.bool qf :: CV.int q6 :: CV.dat qw :: CV.dat qh :: CV.int r1 :: CV.int r2 :: CV.int r3 :: CV.int r4 :: CV.bool rf :: CV.int r6 :: CV.dat rw :: CV.dat rh :: CV.dat fl :: CV.dat wa :: CV.dat wb :: CV.dat wc :: CV.int now :: CV.int clk :: CV.bool rt :: CV.int st :: [])) 2).right = true := hr
  have hx := (relG_right hx).2
  rw [grOf_eq] at hx
  simp only [tri_0, tri_1, tri_2] at hx
  have hx0 := hr'
  obtain ⟨hxw, hxh, hxl, hxm⟩ := hx0
  simp only at hxw hxh hxl hxm
  obtain ⟨r1', r2', r3'⟩ := relMb_len ⟨r1, r2, r3, r4, rf, r6, rw.to Int, rh.to Int⟩ now
  simp only at r1' r2' r3'
  have k1 := D.Is.length (α := Int) rw
  have k2 := D.Is.length (α := Int) rh
  have k3 := D.Is.length (α := Wr) wc
  refine unroll_sound rfl ?_
  apply exec_sound ctGOk 900
  rw [tick2_go]
  have hen' : decide (Int.tmod en 2 = 1) = true := decide_eq_true hen
  have n3 : (2 : Int) ≠ 0 := by decide
  have nn : (0 : Int) ≤ 2 ∧ (2 : Int) < ((3 : Nat) : Int) := by omega
  refine ⟨fun _ => ⟨n3, fun _ hs => ⟨nn, hr', nn, ⟨hcc, by omega, D.like_is _ _, ?_, ?_⟩, fun hs1 => ?_⟩, fun h => absurd (hen'.symm.trans h) (by decide)⟩, fun h => (by cases h)⟩
  · rw [like_len]; exact Nat.le_trans r3' (by omega)
  · rw [D.like_to]; exact hx
  · have e : grOf (CV.int cn :: CV.int cr :: CV.int cp :: CV.int cdl :: CV.dat cps :: CV.dat css :: CV.bool cv :: CV.int p1 :: CV.int p2 :: CV.int p3 :: CV.int p4 :: CV.bool pf :: CV.int p6 :: CV.dat pw :: CV.dat ph :: CV.int q1 :: CV.int q2 :: CV.int q3 :: CV.int q4 :: CV.bool qf :: CV.int q6 :: CV.dat qw :: CV.dat qh :: CV.int (relMb ⟨r1, r2, r3, r4, rf, r6, rw.to Int, rh.to Int⟩ now).1.round :: CV.int (relMb ⟨r1, r2, r3, r4, rf, r6, rw.to Int, rh.to Int⟩ now).1.position :: CV.int (relMb ⟨r1, r2, r3, r4, rf, r6, rw.to Int, rh.to Int⟩ now).1.thawed :: CV.int (relMb ⟨r1, r2, r3, r4, rf, r6, rw.to Int, rh.to Int⟩ now).1.issued :: CV.bool (relMb ⟨r1, r2, r3, r4, rf, r6, rw.to Int, rh.to Int⟩ now).1.frozen :: CV.int (relMb ⟨r1, r2, r3, r4, rf, r6, rw.to Int, rh.to Int⟩ now).1.upto :: CV.dat ((hs 6 0).like (relMb ⟨r1, r2, r3, r4, rf, r6, rw.to Int, rh.to Int⟩ now).1.waiting) :: CV.dat ((hs 6 1).like (relMb ⟨r1, r2, r3, r4, rf, r6, rw.to Int, rh.to Int⟩ now).1.held) :: CV.dat fl :: CV.dat wa :: CV.dat wb :: CV.dat ((hs1 0 0).like (ackW clk (relMb ⟨r1, r2, r3, r4, rf, r6, rw.to Int, rh.to Int⟩ now).1.frozen (D.to Int ((hs 6 2).like (relMb ⟨r1, r2, r3, r4, rf, r6, rw.to Int, rh.to Int⟩ now).2)) (wc.to Wr)).1) :: CV.int now :: CV.int clk :: CV.bool rt :: CV.int st :: []) = relG (grOf (CV.int cn :: CV.int cr :: CV.int cp :: CV.int cdl :: CV.dat cps :: CV.dat css :: CV.bool cv :: CV.int p1 :: CV.int p2 :: CV.int p3 :: CV.int p4 :: CV.bool pf :: CV.int p6 :: CV.dat pw :: CV.dat ph :: CV.int q1 :: CV.int q2 :: CV.int q3 :: CV.int q4 :: CV.bool qf :: CV.int q6 :: CV.dat qw :: CV.dat qh :: CV.int r1 :: CV.int r2 :: CV.int r3 :: CV.int r4 :: CV.bool rf :: CV.int r6 :: CV.dat rw :: CV.dat rh :: CV.dat fl :: CV.dat wa :: CV.dat wb :: CV.dat wc :: CV.int now :: CV.int clk :: CV.bool rt :: CV.int st :: [])) 2 := by
      rw [grOf_eq, grOf_eq]
      simp only [relG, ackG, tri_0, tri_1, tri_2, tri_upd0, tri_upd1, tri_upd2, D.like_to, hx, Bool.and_true]
    have hR' : GrRight (CV.int cn :: CV.int cr :: CV.int cp :: CV.int cdl :: CV.dat cps :: CV.dat css :: CV.bool cv :: CV.int p1 :: CV.int p2 :: CV.int p3 :: CV.int p4 :: CV.bool pf :: CV.int p6 :: CV.dat pw :: CV.dat ph :: CV.int q1 :: CV.int q2 :: CV.int q3 :: CV.int q4 :: CV.bool qf :: CV.int q6 :: CV.dat qw :: CV.dat qh :: CV.int (relMb ⟨r1, r2, r3, r4, rf, r6, rw.to Int, rh.to Int⟩ now).1.round :: CV.int (relMb ⟨r1, r2, r3, r4, rf, r6, rw.to Int, rh.to Int⟩ now).1.position :: CV.int (relMb ⟨r1, r2, r3, r4, rf, r6, rw.to Int, rh.to Int⟩ now).1.thawed :: CV.int (relMb ⟨r1, r2, r3, r4, rf, r6, rw.to Int, rh.to Int⟩ now).1.issued :: CV.bool (relMb ⟨r1, r2, r3, r4, rf, r6, rw.to Int, rh.to Int⟩ now).1.frozen :: CV.int (relMb ⟨r1, r2, r3, r4, rf, r6, rw.to Int, rh.to Int⟩ now).1.upto :: CV.dat ((hs 6 0).like (relMb ⟨r1, r2, r3, r4, rf, r6, rw.to Int, rh.to Int⟩ now).1.waiting) :: CV.dat ((hs 6 1).like (relMb ⟨r1, r2, r3, r4, rf, r6, rw.to Int, rh.to Int⟩ now).1.held) :: CV.dat fl :: CV.dat wa :: CV.dat wb :: CV.dat ((hs1 0 0).like (ackW clk (relMb ⟨r1, r2, r3, r4, rf, r6, rw.to Int, rh.to Int⟩ now).1.frozen (D.to Int ((hs 6 2).like (relMb ⟨r1, r2, r3, r4, rf, r6, rw.to Int, rh.to Int⟩ now).2)) (wc.to Wr)).1) :: CV.int now :: CV.int clk :: CV.bool rt :: CV.int st :: []) := by
      rw [grRight_eq]
      refine ⟨⟨hc1, hc2⟩, hp, hq, right_like_of (by omega) (by omega), ⟨hf, hfl⟩, ⟨ha, hal⟩, ⟨hb, hbl⟩, ⟨D.like_is _ _, by rw [like_len, ackW_len]; omega⟩⟩
    have := tick3_run (w := w) (H := H) (ek := ek) (en := en) (ew := ew) (cn := cn) (cr := cr) (cp := cp) (cdl := cdl) (cps := cps) (css := css) (cv := cv) (p1 := p1) (p2 := p2) (p3 := p3) (p4 := p4) (pf := pf) (p6 := p6) (pw := pw) (ph := ph) (q1 := q1) (q2 := q2) (q3 := q3) (q4 := q4) (qf := qf) (q6 := q6) (qw := qw) (qh := qh) (r1 := (relMb ⟨r1, r2, r3, r4, rf, r6, rw.to Int, rh.to Int⟩ now).1.round) (r2 := (relMb ⟨r1, r2, r3, r4, rf, r6, rw.to Int, rh.to Int⟩ now).1.position) (r3 := (relMb ⟨r1, r2, r3, r4, rf, r6, rw.to Int, rh.to Int⟩ now).1.thawed) (r4 := (relMb ⟨r1, r2, r3, r4, rf, r6, rw.to Int, rh.to Int⟩ now).1.issued) (rf := (relMb ⟨r1, r2, r3, r4, rf, r6, rw.to Int, rh.to Int⟩ now).1.frozen) (r6 := (relMb ⟨r1, r2, r3, r4, rf, r6, rw.to Int, rh.to Int⟩ now).1.upto) (rw := ((hs 6 0).like (relMb ⟨r1, r2, r3, r4, rf, r6, rw.to Int, rh.to Int⟩ now).1.waiting)) (rh := ((hs 6 1).like (relMb ⟨r1, r2, r3, r4, rf, r6, rw.to Int, rh.to Int⟩ now).1.held)) (fl := fl) (wa := wa) (wb := wb) (wc := ((hs1 0 0).like (ackW clk (relMb ⟨r1, r2, r3, r4, rf, r6, rw.to Int, rh.to Int⟩ now).1.frozen (D.to Int ((hs 6 2).like (relMb ⟨r1, r2, r3, r4, rf, r6, rw.to Int, rh.to Int⟩ now).2)) (wc.to Wr)).1)) (now := now) (clk := clk) (rt := rt) (st := st) hR'
    rw [e] at this
    exact this

theorem tick1_run {w : World} {H : HV} {cn cr cp cdl : Int} {cps css : D} {cv : Bool} {p1 p2 p3 p4 : Int} {pf : Bool} {p6 : Int} {pw ph : D} {q1 q2 q3 q4 : Int} {qf : Bool} {q6 : Int} {qw qh : D} {r1 r2 r3 r4 : Int} {rf : Bool} {r6 : Int} {rw rh : D} {fl wa wb wc : D} {now clk : Int} {rt : Bool} {st : Int} {ek en ew : Int} (hen : Int.tmod en 2 = 1) (hR : GrRight (CV.int cn :: CV.int cr :: CV.int cp :: CV.int cdl :: CV.dat cps :: CV.dat css :: CV.bool cv :: CV.int p1 :: CV.int p2 :: CV.int p3 :: CV.int p4 :: CV.bool pf :: CV.int p6 :: CV.dat pw :: CV.dat ph :: CV.int q1 :: CV.int q2 :: CV.int q3 :: CV.int q4 :: CV.bool qf :: CV.int q6 :: CV.dat qw :: CV.dat qh :: CV.int r1 :: CV.int r2 :: CV.int r3 :: CV.int r4 :: CV.bool rf :: CV.int r6 :: CV.dat rw :: CV.dat rh :: CV.dat fl :: CV.dat wa :: CV.dat wb :: CV.dat wc :: CV.int now :: CV.int clk :: CV.bool rt :: CV.int st :: [])) (hr : (relG (relG (grOf (CV.int cn :: CV.int cr :: CV.int cp :: CV.int cdl :: CV.dat cps :: CV.dat css :: CV.bool cv :: CV.int p1 :: CV.int p2 :: CV.int p3 :: CV.int p4 :: CV.bool pf :: CV.int p6 :: CV.dat pw :: CV.dat ph :: CV.int q1 :: CV.int q2 :: CV.int q3 :: CV.int q4 :: CV.bool qf :: CV.int q6 :: CV.dat qw :: CV.dat qh :: CV.int r1 :: CV.int r2 :: CV.int r3 :: CV.int r4 :: CV.bool rf :: CV.int r6 :: CV.dat rw :: CV.dat rh :: CV.dat fl :: CV.dat wa :: CV.dat wb :: CV.dat wc :: CV.int now :: CV.int clk :: CV.bool rt :: CV.int st :: [])) 1) 2).right = true) :
    Runs Try.prog ⟨w, H⟩ (tickL cn cr cp cdl cps css cv p1 p2 p3 p4 pf p6 pw ph q1 q2 q3 q4 qf q6 qw qh r1 r2 r3 r4 rf r6 rw rh fl wa wb wc now clk rt st ek en ew 1) (RetD w H fun ds => .agg (svOf ds 0 (relG (relG (grOf (CV.int cn :: CV.int cr :: CV.int cp :: CV.int cdl :: CV.dat cps :: CV.dat css :: CV.bool cv :: CV.int p1 :: CV.int p2 :: CV.int p3 :: CV.int p4 :: CV.bool pf :: CV.int p6 :: CV.dat pw :: CV.dat ph :: CV.int q1 :: CV.int q2 :: CV.int q3 :: CV.int q4 :: CV.bool qf :: CV.int q6 :: CV.dat qw :: CV.dat qh :: CV.int r1 :: CV.int r2 :: CV.int r3 :: CV.int r4 :: CV.bool rf :: CV.int r6 :: CV.dat rw :: CV.dat rh :: CV.dat fl :: CV.dat wa :: CV.dat wb :: CV.dat wc :: CV.int now :: CV.int clk :: CV.bool rt :: CV.int st :: [])) 1) 2).cls)) := by
  have hR0 := hR
  rw [grRight_eq] at hR
  obtain ⟨⟨hc1, hc2⟩, hp, hq, hr', ⟨hf, hfl⟩, ⟨ha, hal⟩, ⟨hb, hbl⟩, ⟨hcc, hcl⟩⟩ := hR
  have hx : (relG (grOf (CV.int cn :: CV.int cr :: CV.int cp :: CV.int cdl :: CV.dat cps :: CV.dat css :: CV.bool cv :: CV.int p1 :: CV.int p2 :: CV.int p3 :: CV.int p4 :: CV.bool pf :: CV.int p6 :: CV.dat pw :: CV.dat ph :: CV.int q1 :: CV.int q2 :: CV.int q3 :: CV.int q4 :: CV.bool qf :: CV.int q6 :: CV.dat qw :: CV.dat qh :: CV.int r1 :: CV.int r2 :: CV.int r3 :: CV.int r4 :: CV.bool rf :: CV.int r6 :: CV.dat rw :: CV.dat rh :: CV.dat fl :: CV.dat wa :: CV.dat wb :: CV.dat wc :: CV.int now :: CV.int clk :: CV.bool rt :: CV.int st :: [])) 1).right = true := (relG_right hr).1
  have hx := (relG_right hx).2
  rw [grOf_eq] at hx
  simp only [tri_0, tri_1, tri_2] at hx
  have hx0 := hq
  obtain ⟨hxw, hxh, hxl, hxm⟩ := hx0
  simp only at hxw hxh hxl hxm
  obtain ⟨r1', r2', r3'⟩ := relMb_len ⟨q1, q2, q3, q4, qf, q6, qw.to Int, qh.to Int⟩ now
  simp only at r1' r2' r3'
  have k1 := D.Is.length (α := Int) qw
  have k2 := D.Is.length (α := Int) qh
  have k3 := D.Is.length (α := Wr) wb
  refine unroll_sound rfl ?_
  apply exec_sound ctGOk 900
  rw [tick1_go]
  have hen' : decide (Int.tmod en 2 = 1) = true := decide_eq_true hen
  have n3 : (2 : Int) ≠ 0 := by decide
  have nn : (0 : Int) ≤ 1 ∧ (1 : Int) < ((3 : Nat) : Int) := by omega
  refine ⟨fun _ => ⟨n3, fun _ hs => ⟨nn, hq, nn, ⟨hb, by omega, D.like_is _ _, ?_, ?_⟩, fun hs1 => ?_⟩, fun h => absurd (hen'.symm.trans h) (by decide)⟩, fun h => (by cases h)⟩
  · rw [like_len]; exact Nat.le_trans r3' (by omega)
  · rw [D.like_to]; exact hx
  · have e : grOf (CV.int cn :: CV.int cr :: CV.int cp :: CV.int cdl :: CV.dat cps :: CV.dat css :: CV.bool cv :: CV.int p1 :: CV.int p2 :: CV.int p3 :: CV.int p4 :: CV.bool pf :: CV.int p6 :: CV.dat pw :: CV.dat ph :: CV.int (relMb ⟨q1, q2, q3, q4, qf, q6, qw.to Int, qh.to Int⟩ now).1.round :: CV.int (relMb ⟨q1, q2, q3, q4, qf, q6, qw.to Int, qh.to Int⟩ now).1.position :: CV.int (relMb ⟨q1, q2, q3, q4, qf, q6, qw.to Int, qh.to Int⟩ now).1.thawed :: CV.int (relMb ⟨q1, q2, q3, q4, qf, q6, qw.to Int, qh.to Int⟩ now).1.issued :: CV.bool (relMb ⟨q1, q2, q3, q4, qf, q6, qw.to Int, qh.to Int⟩ now).1.frozen :: CV.int (relMb ⟨q1, q2, q3, q4, qf, q6, qw.to Int, qh.to Int⟩ now).1.upto :: CV.dat ((hs 6 0).like (relMb ⟨q1, q2, q3, q4, qf, q6, qw.to Int, qh.to Int⟩ now).1.waiting) :: CV.dat ((hs 6 1).like (relMb ⟨q1, q2, q3, q4, qf, q6, qw.to Int, qh.to Int⟩ now).1.held) :: CV.int r1 :: CV.int r2 :: CV.int r3 :: CV.int r4 :: CV.bool rf :: CV.int r6 :: CV.dat rw :: CV.dat rh :: CV.dat fl :: CV.dat wa :: CV.dat ((hs1 0 0).like (ackW clk (relMb ⟨q1, q2, q3, q4, qf, q6, qw.to Int, qh.to Int⟩ now).1.frozen (D.to Int ((hs 6 2).like (relMb ⟨q1, q2, q3, q4, qf, q6, qw.to Int, qh.to Int⟩ now).2)) (wb.to Wr)).1) :: CV.dat wc :: CV.int now :: CV.int clk :: CV.bool rt :: CV.int st :: []) = relG (grOf (CV.int cn :: CV.int cr :: CV.int cp :: CV.int cdl :: CV.dat cps :: CV.dat css :: CV.bool cv :: CV.int p1 :: CV.int p2 :: CV.int p3 :: CV.int p4 :: CV.bool pf :: CV.int p6 :: CV.dat pw :: CV.dat ph :: CV.int q1 :: CV.int q2 :: CV.int q3 :: CV.int q4 :: CV.bool qf :: CV.int q6 :: CV.dat qw :: CV.dat qh :: CV.int r1 :: CV.int r2 :: CV.int r3 :: CV.int r4 :: CV.bool rf :: CV.int r6 :: CV.dat rw :: CV.dat rh :: CV.dat fl :: CV.dat wa :: CV.dat wb :: CV.dat wc :: CV.int now :: CV.int clk :: CV.bool rt :: CV.int st :: [])) 1 := by
      rw [grOf_eq, grOf_eq]
      simp only [relG, ackG, tri_0, tri_1, tri_2, tri_upd0, tri_upd1, tri_upd2, D.like_to, hx, Bool.and_true]
    have hR' : GrRight (CV.int cn :: CV.int cr :: CV.int cp :: CV.int cdl :: CV.dat cps :: CV.dat css :: CV.bool cv :: CV.int p1 :: CV.int p2 :: CV.int p3 :: CV.int p4 :: CV.bool pf :: CV.int p6 :: CV.dat pw :: CV.dat ph :: CV.int (relMb ⟨q1, q2, q3, q4, qf, q6, qw.to Int, qh.to Int⟩ now).1.round :: CV.int (relMb ⟨q1, q2, q3, q4, qf, q6, qw.to Int, qh.to Int⟩ now).1.position :: CV.int (relMb ⟨q1, q2, q3, q4, qf, q6, qw.to Int, qh.to Int⟩ now).1.thawed :: CV.int (relMb ⟨q1, q2, q3, q4, qf, q6, qw.to Int, qh.to Int⟩ now).1.issued :: CV.bool (relMb ⟨q1, q2, q3, q4, qf, q6, qw.to Int, qh.to Int⟩ now).1.frozen :: CV.int (relMb ⟨q1, q2, q3, q4, qf, q6, qw.to Int, qh.to Int⟩ now).1.upto :: CV.dat ((hs 6 0).like (relMb ⟨q1, q2, q3, q4, qf, q6, qw.to Int, qh.to Int⟩ now).1.waiting) :: CV.dat ((hs 6 1).like (relMb ⟨q1, q2, q3, q4, qf, q6, qw.to Int, qh.to Int⟩ now).1.held) :: CV.int r1 :: CV.int r2 :: CV.int r3 :: CV.int r4 :: CV.bool rf :: CV.int r6 :: CV.dat rw :: CV.dat rh :: CV.dat fl :: CV.dat wa :: CV.dat ((hs1 0 0).like (ackW clk (relMb ⟨q1, q2, q3, q4, qf, q6, qw.to Int, qh.to Int⟩ now).1.frozen (D.to Int ((hs 6 2).like (relMb ⟨q1, q2, q3, q4, qf, q6, qw.to Int, qh.to Int⟩ now).2)) (wb.to Wr)).1) :: CV.dat wc :: CV.int now :: CV.int clk :: CV.bool rt :: CV.int st :: []) := by
      rw [grRight_eq]
      refine ⟨⟨hc1, hc2⟩, hp, right_like_of (by omega) (by omega), hr', ⟨hf, hfl⟩, ⟨ha, hal⟩, ⟨D.like_is _ _, by rw [like_len, ackW_len]; omega⟩, ⟨hcc, hcl⟩⟩
    have := tick2_run (w := w) (H := H) (ek := ek) (en := en) (ew := ew) (cn := cn) (cr := cr) (cp := cp) (cdl := cdl) (cps := cps) (css := css) (cv := cv) (p1 := p1) (p2 := p2) (p3 := p3) (p4 := p4) (pf := pf) (p6 := p6) (pw := pw) (ph := ph) (q1 := (relMb ⟨q1, q2, q3, q4, qf, q6, qw.to Int, qh.to Int⟩ now).1.round) (q2 := (relMb ⟨q1, q2, q3, q4, qf, q6, qw.to Int, qh.to Int⟩ now).1.position) (q3 := (relMb ⟨q1, q2, q3, q4, qf, q6, qw.to Int, qh.to Int⟩ now).1.thawed) (q4 := (relMb ⟨q1, q2, q3, q4, qf, q6, qw.to Int, qh.to Int⟩ now).1.issued) (qf := (relMb ⟨q1, q2, q3, q4, qf, q6, qw.to Int, qh.to Int⟩ now).1.frozen) (q6 := (relMb ⟨q1, q2, q3, q4, qf, q6, qw.to Int, qh.to Int⟩ now).1.upto) (qw := ((hs 6 0).like (relMb ⟨q1, q2, q3, q4, qf, q6, qw.to Int, qh.to Int⟩ now).1.waiting)) (qh := ((hs 6 1).like (relMb ⟨q1, q2, q3, q4, qf, q6, qw.to Int, qh.to Int⟩ now).1.held)) (r1 := r1) (r2 := r2) (r3 := r3) (r4 := r4) (rf := rf) (r6 := r6) (rw := rw) (rh := rh) (fl := fl) (wa := wa) (wb := ((hs1 0 0).like (ackW clk (relMb ⟨q1, q2, q3, q4, qf, q6, qw.to Int, qh.to Int⟩ now).1.frozen (D.to Int ((hs 6 2).like (relMb ⟨q1, q2, q3, q4, qf, q6, qw.to Int, qh.to Int⟩ now).2)) (wb.to Wr)).1)) (wc := wc) (now := now) (clk := clk) (rt := rt) (st := st) hen hR' (by rw [e]; exact hr)
    rw [e] at this
    exact this

theorem tick0_run {w : World} {H : HV} {cn cr cp cdl : Int} {cps css : D} {cv : Bool} {p1 p2 p3 p4 : Int} {pf : Bool} {p6 : Int} {pw ph : D} {q1 q2 q3 q4 : Int} {qf : Bool} {q6 : Int} {qw qh : D} {r1 r2 r3 r4 : Int} {rf : Bool} {r6 : Int} {rw rh : D} {fl wa wb wc : D} {now clk : Int} {rt : Bool} {st : Int} {ek en ew : Int} (hen : Int.tmod en 2 = 1) (hR : GrRight (CV.int cn :: CV.int cr :: CV.int cp :: CV.int cdl :: CV.dat cps :: CV.dat css :: CV.bool cv :: CV.int p1 :: CV.int p2 :: CV.int p3 :: CV.int p4 :: CV.bool pf :: CV.int p6 :: CV.dat pw :: CV.dat ph :: CV.int q1 :: CV.int q2 :: CV.int q3 :: CV.int q4 :: CV.bool qf :: CV.int q6 :: CV.dat qw :: CV.dat qh :: CV.int r1 :: CV.int r2 :: CV.int r3 :: CV.int r4 :: CV.bool rf :: CV.int r6 :: CV.dat rw :: CV.dat rh :: CV.dat fl :: CV.dat wa :: CV.dat wb :: CV.dat wc :: CV.int now :: CV.int clk :: CV.bool rt :: CV.int st :: [])) (hr : (relG (relG (relG (grOf (CV.int cn :: CV.int cr :: CV.int cp :: CV.int cdl :: CV.dat cps :: CV.dat css :: CV.bool cv :: CV.int p1 :: CV.int p2 :: CV.int p3 :: CV.int p4 :: CV.bool pf :: CV.int p6 :: CV.dat pw :: CV.dat ph :: CV.int q1 :: CV.int q2 :: CV.int q3 :: CV.int q4 :: CV.bool qf :: CV.int q6 :: CV.dat qw :: CV.dat qh :: CV.int r1 :: CV.int r2 :: CV.int r3 :: CV.int r4 :: CV.bool rf :: CV.int r6 :: CV.dat rw :: CV.dat rh :: CV.dat fl :: CV.dat wa :: CV.dat wb :: CV.dat wc :: CV.int now :: CV.int clk :: CV.bool rt :: CV.int st :: [])) 0) 1) 2).right = true) :
    Runs Try.prog ⟨w, H⟩ (tickL cn cr cp cdl cps css cv p1 p2 p3 p4 pf p6 pw ph q1 q2 q3 q4 qf q6 qw qh r1 r2 r3 r4 rf r6 rw rh fl wa wb wc now clk rt st ek en ew 0) (RetD w H fun ds => .agg (svOf ds 0 (relG (relG (relG (grOf (CV.int cn :: CV.int cr :: CV.int cp :: CV.int cdl :: CV.dat cps :: CV.dat css :: CV.bool cv :: CV.int p1 :: CV.int p2 :: CV.int p3 :: CV.int p4 :: CV.bool pf :: CV.int p6 :: CV.dat pw :: CV.dat ph :: CV.int q1 :: CV.int q2 :: CV.int q3 :: CV.int q4 :: CV.bool qf :: CV.int q6 :: CV.dat qw :: CV.dat qh :: CV.int r1 :: CV.int r2 :: CV.int r3 :: CV.int r4 :: CV.bool rf :: CV.int r6 :: CV.dat rw :: CV.dat rh :: CV.dat fl :: CV.dat wa :: CV.dat wb :: CV.dat wc :: CV.int now :: CV.int clk :: CV.bool rt :: CV.int st :: [])) 0) 1) 2).cls)) := by
  have hR0 := hR
  rw [grRight_eq] at hR
  obtain ⟨⟨hc1, hc2⟩, hp, hq, hr', ⟨hf, hfl⟩, ⟨ha, hal⟩, ⟨hb, hbl⟩, ⟨hcc, hcl⟩⟩ := hR
  have hx : (relG (grOf (CV.int cn :: CV.int cr :: CV.int cp :: CV.int cdl :: CV.dat cps :: CV.dat css :: CV.bool cv :: CV.int p1 :: CV.int p2 :: CV.int p3 :: CV.int p4 :: CV.bool pf :: CV.int p6 :: CV.dat pw :: CV.dat ph :: CV.int q1 :: CV.int q2 :: CV.int q3 :: CV.int q4 :: CV.bool qf :: CV.int q6 :: CV.dat qw :: CV.dat qh :: CV.int r1 :: CV.int r2 :: CV.int r3 :: CV.int r4 :: CV.bool rf :: CV.int r6 :: CV.dat rw :: CV.dat rh :: CV.dat fl :: CV.dat wa :: CV.dat wb :: CV.dat wc :: CV.int now :: CV.int clk :: CV.bool rt :: CV.int st :: [])) 0).right = true := (relG_right (relG_right hr).1).1
  have hx := (relG_right hx).2
  rw [grOf_eq] at hx
  simp only [tri_0, tri_1, tri_2] at hx
  have hx0 := hp
  obtain ⟨hxw, hxh, hxl, hxm⟩ := hx0
  simp only at hxw hxh hxl hxm
  obtain ⟨r1', r2', r3'⟩ := relMb_len ⟨p1, p2, p3, p4, pf, p6, pw.to Int, ph.to Int⟩ now
  simp only at r1' r2' r3'
  have k1 := D.Is.length (α := Int) pw
  have k2 := D.Is.length (α := Int) ph
  have k3 := D.Is.length (α := Wr) wa
  refine unroll_sound rfl ?_
  apply exec_sound ctGOk 900
  rw [tick0_go]
  have hen' : decide (Int.tmod en 2 = 1) = true := decide_eq_true hen
  have n3 : (2 : Int) ≠ 0 := by decide
  have nn : (0 : Int) ≤ 0 ∧ (0 : Int) < ((3 : Nat) : Int) := by omega
  refine ⟨fun _ => ⟨n3, fun _ hs => ⟨nn, hp, nn, ⟨ha, by omega, D.like_is _ _, ?_, ?_⟩, fun hs1 => ?_⟩, fun h => absurd (hen'.symm.trans h) (by decide)⟩, fun h => (by cases h)⟩
  · rw [like_len]; exact Nat.le_trans r3' (by omega)
  · rw [D.like_to]; exact hx
  · have e : grOf (CV.int cn :: CV.int cr :: CV.int cp :: CV.int cdl :: CV.dat cps :: CV.dat css :: CV.bool cv :: CV.int (relMb ⟨p1, p2, p3, p4, pf, p6, pw.to Int, ph.to Int⟩ now).1.round :: CV.int (relMb ⟨p1, p2, p3, p4, pf, p6, pw.to Int, ph.to Int⟩ now).1.position :: CV.int (relMb ⟨p1, p2, p3, p4, pf, p6, pw.to Int, ph.to Int⟩ now).1.thawed :: CV.int (relMb ⟨p1, p2, p3, p4, pf, p6, pw.to Int, ph.to Int⟩ now).1.issued :: CV.bool (relMb ⟨p1, p2, p3, p4, pf, p6, pw.to Int, ph.to Int⟩ now).1.frozen :: CV.int (relMb ⟨p1, p2, p3, p4, pf, p6, pw.to Int, ph.to Int⟩ now).1.upto :: CV.dat ((hs 6 0).like (relMb ⟨p1, p2, p3, p4, pf, p6, pw.to Int, ph.to Int⟩ now).1.waiting) :: CV.dat ((hs 6 1).like (relMb ⟨p1, p2, p3, p4, pf, p6, pw.to Int, ph.to Int⟩ now).1.held) :: CV.int q1 :: CV.int q2 :: CV.int q3 :: CV.int q4 :: CV.bool qf :: CV.int q6 :: CV.dat qw :: CV.dat qh :: CV.int r1 :: CV.int r2 :: CV.int r3 :: CV.int r4 :: CV.bool rf :: CV.int r6 :: CV.dat rw :: CV.dat rh :: CV.dat fl :: CV.dat ((hs1 0 0).like (ackW clk (relMb ⟨p1, p2, p3, p4, pf, p6, pw.to Int, ph.to Int⟩ now).1.frozen (D.to Int ((hs 6 2).like (relMb ⟨p1, p2, p3, p4, pf, p6, pw.to Int, ph.to Int⟩ now).2)) (wa.to Wr)).1) :: CV.dat wb :: CV.dat wc :: CV.int now :: CV.int clk :: CV.bool rt :: CV.int st :: []) = relG (grOf (CV.int cn :: CV.int cr :: CV.int cp :: CV.int cdl :: CV.dat cps :: CV.dat css :: CV.bool cv :: CV.int p1 :: CV.int p2 :: CV.int p3 :: CV.int p4 :: CV.bool pf :: CV.int p6 :: CV.dat pw :: CV.dat ph :: CV.int q1 :: CV.int q2 :: CV.int q3 :: CV.int q4 :: CV.bool qf :: CV.int q6 :: CV.dat qw :: CV.dat qh :: CV.int r1 :: CV.int r2 :: CV.int r3 :: CV.int r4 :: CV.bool rf :: CV.int r6 :: CV.dat rw :: CV.dat rh :: CV.dat fl :: CV.dat wa :: CV.dat wb :: CV.dat wc :: CV.int now :: CV.int clk :: CV.bool rt :: CV.int st :: [])) 0 := by
      rw [grOf_eq, grOf_eq]
      simp only [relG, ackG, tri_0, tri_1, tri_2, tri_upd0, tri_upd1, tri_upd2, D.like_to, hx, Bool.and_true]
    have hR' : GrRight (CV.int cn :: CV.int cr :: CV.int cp :: CV.int cdl :: CV.dat cps :: CV.dat css :: CV.bool cv :: CV.int (relMb ⟨p1, p2, p3, p4, pf, p6, pw.to Int, ph.to Int⟩ now).1.round :: CV.int (relMb ⟨p1, p2, p3, p4, pf, p6, pw.to Int, ph.to Int⟩ now).1.position :: CV.int (relMb ⟨p1, p2, p3, p4, pf, p6, pw.to Int, ph.to Int⟩ now).1.thawed :: CV.int (relMb ⟨p1, p2, p3, p4, pf, p6, pw.to Int, ph.to Int⟩ now).1.issued :: CV.bool (relMb ⟨p1, p2, p3, p4, pf, p6, pw.to Int, ph.to Int⟩ now).1.frozen :: CV.int (relMb ⟨p1, p2, p3, p4, pf, p6, pw.to Int, ph.to Int⟩ now).1.upto :: CV.dat ((hs 6 0).like (relMb ⟨p1, p2, p3, p4, pf, p6, pw.to Int, ph.to Int⟩ now).1.waiting) :: CV.dat ((hs 6 1).like (relMb ⟨p1, p2, p3, p4, pf, p6, pw.to Int, ph.to Int⟩ now).1.held) :: CV.int q1 :: CV.int q2 :: CV.int q3 :: CV.int q4 :: CV.bool qf :: CV.int q6 :: CV.dat qw :: CV.dat qh :: CV.int r1 :: CV.int r2 :: CV.int r3 :: CV.int r4 :: CV.bool rf :: CV.int r6 :: CV.dat rw :: CV.dat rh :: CV.dat fl :: CV.dat ((hs1 0 0).like (ackW clk (relMb ⟨p1, p2, p3, p4, pf, p6, pw.to Int, ph.to Int⟩ now).1.frozen (D.to Int ((hs 6 2).like (relMb ⟨p1, p2, p3, p4, pf, p6, pw.to Int, ph.to Int⟩ now).2)) (wa.to Wr)).1) :: CV.dat wb :: CV.dat wc :: CV.int now :: CV.int clk :: CV.bool rt :: CV.int st :: []) := by
      rw [grRight_eq]
      refine ⟨⟨hc1, hc2⟩, right_like_of (by omega) (by omega), hq, hr', ⟨hf, hfl⟩, ⟨D.like_is _ _, by rw [like_len, ackW_len]; omega⟩, ⟨hb, hbl⟩, ⟨hcc, hcl⟩⟩
    have := tick1_run (w := w) (H := H) (ek := ek) (en := en) (ew := ew) (cn := cn) (cr := cr) (cp := cp) (cdl := cdl) (cps := cps) (css := css) (cv := cv) (p1 := (relMb ⟨p1, p2, p3, p4, pf, p6, pw.to Int, ph.to Int⟩ now).1.round) (p2 := (relMb ⟨p1, p2, p3, p4, pf, p6, pw.to Int, ph.to Int⟩ now).1.position) (p3 := (relMb ⟨p1, p2, p3, p4, pf, p6, pw.to Int, ph.to Int⟩ now).1.thawed) (p4 := (relMb ⟨p1, p2, p3, p4, pf, p6, pw.to Int, ph.to Int⟩ now).1.issued) (pf := (relMb ⟨p1, p2, p3, p4, pf, p6, pw.to Int, ph.to Int⟩ now).1.frozen) (p6 := (relMb ⟨p1, p2, p3, p4, pf, p6, pw.to Int, ph.to Int⟩ now).1.upto) (pw := ((hs 6 0).like (relMb ⟨p1, p2, p3, p4, pf, p6, pw.to Int, ph.to Int⟩ now).1.waiting)) (ph := ((hs 6 1).like (relMb ⟨p1, p2, p3, p4, pf, p6, pw.to Int, ph.to Int⟩ now).1.held)) (q1 := q1) (q2 := q2) (q3 := q3) (q4 := q4) (qf := qf) (q6 := q6) (qw := qw) (qh := qh) (r1 := r1) (r2 := r2) (r3 := r3) (r4 := r4) (rf := rf) (r6 := r6) (rw := rw) (rh := rh) (fl := fl) (wa := ((hs1 0 0).like (ackW clk (relMb ⟨p1, p2, p3, p4, pf, p6, pw.to Int, ph.to Int⟩ now).1.frozen (D.to Int ((hs 6 2).like (relMb ⟨p1, p2, p3, p4, pf, p6, pw.to Int, ph.to Int⟩ now).2)) (wa.to Wr)).1)) (wb := wb) (wc := wc) (now := now) (clk := clk) (rt := rt) (st := st) hen hR' (by rw [e]; exact hr)
    rw [e] at this
    exact this

theorem tick_ent {w : World} {H : HV} {cn cr cp cdl : Int} {cps css : D} {cv : Bool} {p1 p2 p3 p4 : Int} {pf : Bool} {p6 : Int} {pw ph : D} {q1 q2 q3 q4 : Int} {qf : Bool} {q6 : Int} {qw qh : D} {r1 r2 r3 r4 : Int} {rf : Bool} {r6 : Int} {rw rh : D} {fl wa wb wc : D} {now clk : Int} {rt : Bool} {st : Int} {ek en ew : Int} (hn : U8 en) (hw : U8 ew) (hfl2 : (grOf (CV.int cn :: CV.int cr :: CV.int cp :: CV.int cdl :: CV.dat cps :: CV.dat css :: CV.bool cv :: CV.int p1 :: CV.int p2 :: CV.int p3 :: CV.int p4 :: CV.bool pf :: CV.int p6 :: CV.dat pw :: CV.dat ph :: CV.int q1 :: CV.int q2 :: CV.int q3 :: CV.int q4 :: CV.bool qf :: CV.int q6 :: CV.dat qw :: CV.dat qh :: CV.int r1 :: CV.int r2 :: CV.int r3 :: CV.int r4 :: CV.bool rf :: CV.int r6 :: CV.dat rw :: CV.dat rh :: CV.dat fl :: CV.dat wa :: CV.dat wb :: CV.dat wc :: CV.int now :: CV.int clk :: CV.bool rt :: CV.int st :: [])).flight.length ≤ 999000) (hR : GrRight (CV.int cn :: CV.int cr :: CV.int cp :: CV.int cdl :: CV.dat cps :: CV.dat css :: CV.bool cv :: CV.int p1 :: CV.int p2 :: CV.int p3 :: CV.int p4 :: CV.bool pf :: CV.int p6 :: CV.dat pw :: CV.dat ph :: CV.int q1 :: CV.int q2 :: CV.int q3 :: CV.int q4 :: CV.bool qf :: CV.int q6 :: CV.dat qw :: CV.dat qh :: CV.int r1 :: CV.int r2 :: CV.int r3 :: CV.int r4 :: CV.bool rf :: CV.int r6 :: CV.dat rw :: CV.dat rh :: CV.dat fl :: CV.dat wa :: CV.dat wb :: CV.dat wc :: CV.int now :: CV.int clk :: CV.bool rt :: CV.int st :: [])) (hr : (tickG (grOf (CV.int cn :: CV.int cr :: CV.int cp :: CV.int cdl :: CV.dat cps :: CV.dat css :: CV.bool cv :: CV.int p1 :: CV.int p2 :: CV.int p3 :: CV.int p4 :: CV.bool pf :: CV.int p6 :: CV.dat pw :: CV.dat ph :: CV.int q1 :: CV.int q2 :: CV.int q3 :: CV.int q4 :: CV.bool qf :: CV.int q6 :: CV.dat qw :: CV.dat qh :: CV.int r1 :: CV.int r2 :: CV.int r3 :: CV.int r4 :: CV.bool rf :: CV.int r6 :: CV.dat rw :: CV.dat rh :: CV.dat fl :: CV.dat wa :: CV.dat wb :: CV.dat wc :: CV.int now :: CV.int clk :: CV.bool rt :: CV.int st :: [])) en ew).right = true) :
    Runs Try.prog ⟨w, H⟩ (entry Try.prog 47 [.agg [.int .i64 cn, .int .i64 cr, .int .i64 cp, .int .i64 cdl, .dat cps, .dat css, .bool cv, .int .i64 p1, .int .i64 p2, .int .i64 p3, .int .i64 p4, .bool pf, .int .i64 p6, .dat pw, .dat ph, .int .i64 q1, .int .i64 q2, .int .i64 q3, .int .i64 q4, .bool qf, .int .i64 q6, .dat qw, .dat qh, .int .i64 r1, .int .i64 r2, .int .i64 r3, .int .i64 r4, .bool rf, .int .i64 r6, .dat rw, .dat rh, .dat fl, .dat wa, .dat wb, .dat wc, .int .i64 now, .int .i64 clk, .bool rt, .int .i64 st], .agg [.int .u8 ek, .int .u8 en, .int .u8 ew]]) (RetD w H fun ds => .agg (svOf ds 0 (tickG (grOf (CV.int cn :: CV.int cr :: CV.int cp :: CV.int cdl :: CV.dat cps :: CV.dat css :: CV.bool cv :: CV.int p1 :: CV.int p2 :: CV.int p3 :: CV.int p4 :: CV.bool pf :: CV.int p6 :: CV.dat pw :: CV.dat ph :: CV.int q1 :: CV.int q2 :: CV.int q3 :: CV.int q4 :: CV.bool qf :: CV.int q6 :: CV.dat qw :: CV.dat qh :: CV.int r1 :: CV.int r2 :: CV.int r3 :: CV.int r4 :: CV.bool rf :: CV.int r6 :: CV.dat rw :: CV.dat rh :: CV.dat fl :: CV.dat wa :: CV.dat wb :: CV.dat wc :: CV.int now :: CV.int clk :: CV.bool rt :: CV.int st :: [])) en ew).cls)) := by
  have hR0 := hR
  rw [grRight_eq] at hR
  obtain ⟨⟨hc1, hc2⟩, hp, hq, hr', ⟨hf, hfl⟩, ⟨ha, hal⟩, ⟨hb, hbl⟩, ⟨hcc, hcl⟩⟩ := hR
  have kf := D.Is.length (α := Msg) fl
  rw [grOf_eq] at hfl2
  simp only at hfl2
  apply exec_sound ctGOk 900
  rw [tick_in]
  have e1 : IntKind.i64.wrap ew = ew := wrap64 (by have := hw.1; omega) (by have := hw.2; omega)
  have e2 : IntKind.i64.wrap (1 + Int.tmod ew 5) = 1 + Int.tmod ew 5 := by
    have h0 : 0 ≤ Int.tmod ew 5 := Int.tmod_nonneg _ hw.1
    have h1 : Int.tmod ew 5 < 5 := Int.tmod_lt_of_pos _ (by decide)
    exact wrap64 (by omega) (by omega)
  simp only [e1, e2]
  obtain ⟨x1, x2, x3, x4⟩ := expireCo_len ⟨cn, cr, cp, cdl, cps.to Int, css.to Bool, cv⟩ (IntKind.i64.wrap (now + (1 + Int.tmod ew 5)))
  simp only at x1 x2 x3
  refine ⟨(by decide : (5 : Int) ≠ 0), ⟨hc1, hc2⟩, fun hs => ⟨⟨hf, by omega, D.like_is _ _, ?_⟩, fun hs1 => ?_⟩⟩
  · rw [like_len]; exact Nat.le_trans x3 (by omega)
  · have e : grOf (CV.int (expireCo ⟨cn, cr, cp, cdl, cps.to Int, css.to Bool, cv⟩ (IntKind.i64.wrap (now + (1 + Int.tmod ew 5)))).1.nodes :: CV.int (expireCo ⟨cn, cr, cp, cdl, cps.to Int, css.to Bool, cv⟩ (IntKind.i64.wrap (now + (1 + Int.tmod ew 5)))).1.round :: CV.int (expireCo ⟨cn, cr, cp, cdl, cps.to Int, css.to Bool, cv⟩ (IntKind.i64.wrap (now + (1 + Int.tmod ew 5)))).1.phase :: CV.int (expireCo ⟨cn, cr, cp, cdl, cps.to Int, css.to Bool, cv⟩ (IntKind.i64.wrap (now + (1 + Int.tmod ew 5)))).1.deadline :: CV.dat ((hs 0 0).like (expireCo ⟨cn, cr, cp, cdl, cps.to Int, css.to Bool, cv⟩ (IntKind.i64.wrap (now + (1 + Int.tmod ew 5)))).1.positions) :: CV.dat ((hs 0 1).like (expireCo ⟨cn, cr, cp, cdl, cps.to Int, css.to Bool, cv⟩ (IntKind.i64.wrap (now + (1 + Int.tmod ew 5)))).1.seen) :: CV.bool (expireCo ⟨cn, cr, cp, cdl, cps.to Int, css.to Bool, cv⟩ (IntKind.i64.wrap (now + (1 + Int.tmod ew 5)))).1.valid :: CV.int p1 :: CV.int p2 :: CV.int p3 :: CV.int p4 :: CV.bool pf :: CV.int p6 :: CV.dat pw :: CV.dat ph :: CV.int q1 :: CV.int q2 :: CV.int q3 :: CV.int q4 :: CV.bool qf :: CV.int q6 :: CV.dat qw :: CV.dat qh :: CV.int r1 :: CV.int r2 :: CV.int r3 :: CV.int r4 :: CV.bool rf :: CV.int r6 :: CV.dat rw :: CV.dat rh :: CV.dat ((hs1 0 0).like (fl.to Msg ++ D.to Msg ((hs 0 2).like (expireCo ⟨cn, cr, cp, cdl, cps.to Int, css.to Bool, cv⟩ (IntKind.i64.wrap (now + (1 + Int.tmod ew 5)))).2))) :: CV.dat wa :: CV.dat wb :: CV.dat wc :: CV.int (IntKind.i64.wrap (now + (1 + Int.tmod ew 5))) :: CV.int clk :: CV.bool rt :: CV.int st :: []) = sendG { (grOf (CV.int cn :: CV.int cr :: CV.int cp :: CV.int cdl :: CV.dat cps :: CV.dat css :: CV.bool cv :: CV.int p1 :: CV.int p2 :: CV.int p3 :: CV.int p4 :: CV.bool pf :: CV.int p6 :: CV.dat pw :: CV.dat ph :: CV.int q1 :: CV.int q2 :: CV.int q3 :: CV.int q4 :: CV.bool qf :: CV.int q6 :: CV.dat qw :: CV.dat qh :: CV.int r1 :: CV.int r2 :: CV.int r3 :: CV.int r4 :: CV.bool rf :: CV.int r6 :: CV.dat rw :: CV.dat rh :: CV.dat fl :: CV.dat wa :: CV.dat wb :: CV.dat wc :: CV.int now :: CV.int clk :: CV.bool rt :: CV.int st :: [])) with now := (IntKind.i64.wrap (now + (1 + Int.tmod ew 5))), c := (expireCo (grOf (CV.int cn :: CV.int cr :: CV.int cp :: CV.int cdl :: CV.dat cps :: CV.dat css :: CV.bool cv :: CV.int p1 :: CV.int p2 :: CV.int p3 :: CV.int p4 :: CV.bool pf :: CV.int p6 :: CV.dat pw :: CV.dat ph :: CV.int q1 :: CV.int q2 :: CV.int q3 :: CV.int q4 :: CV.bool qf :: CV.int q6 :: CV.dat qw :: CV.dat qh :: CV.int r1 :: CV.int r2 :: CV.int r3 :: CV.int r4 :: CV.bool rf :: CV.int r6 :: CV.dat rw :: CV.dat rh :: CV.dat fl :: CV.dat wa :: CV.dat wb :: CV.dat wc :: CV.int now :: CV.int clk :: CV.bool rt :: CV.int st :: [])).c (IntKind.i64.wrap (now + (1 + Int.tmod ew 5)))).1 } (expireCo (grOf (CV.int cn :: CV.int cr :: CV.int cp :: CV.int cdl :: CV.dat cps :: CV.dat css :: CV.bool cv :: CV.int p1 :: CV.int p2 :: CV.int p3 :: CV.int p4 :: CV.bool pf :: CV.int p6 :: CV.dat pw :: CV.dat ph :: CV.int q1 :: CV.int q2 :: CV.int q3 :: CV.int q4 :: CV.bool qf :: CV.int q6 :: CV.dat qw :: CV.dat qh :: CV.int r1 :: CV.int r2 :: CV.int r3 :: CV.int r4 :: CV.bool rf :: CV.int r6 :: CV.dat rw :: CV.dat rh :: CV.dat fl :: CV.dat wa :: CV.dat wb :: CV.dat wc :: CV.int now :: CV.int clk :: CV.bool rt :: CV.int st :: [])).c (IntKind.i64.wrap (now + (1 + Int.tmod ew 5)))).2 := by
      rw [grOf_eq, grOf_eq]
      simp only [sendG, D.like_to]
    have hR' : GrRight (CV.int (expireCo ⟨cn, cr, cp, cdl, cps.to Int, css.to Bool, cv⟩ (IntKind.i64.wrap (now + (1 + Int.tmod ew 5)))).1.nodes :: CV.int (expireCo ⟨cn, cr, cp, cdl, cps.to Int, css.to Bool, cv⟩ (IntKind.i64.wrap (now + (1 + Int.tmod ew 5)))).1.round :: CV.int (expireCo ⟨cn, cr, cp, cdl, cps.to Int, css.to Bool, cv⟩ (IntKind.i64.wrap (now + (1 + Int.tmod ew 5)))).1.phase :: CV.int (expireCo ⟨cn, cr, cp, cdl, cps.to Int, css.to Bool, cv⟩ (IntKind.i64.wrap (now + (1 + Int.tmod ew 5)))).1.deadline :: CV.dat ((hs 0 0).like (expireCo ⟨cn, cr, cp, cdl, cps.to Int, css.to Bool, cv⟩ (IntKind.i64.wrap (now + (1 + Int.tmod ew 5)))).1.positions) :: CV.dat ((hs 0 1).like (expireCo ⟨cn, cr, cp, cdl, cps.to Int, css.to Bool, cv⟩ (IntKind.i64.wrap (now + (1 + Int.tmod ew 5)))).1.seen) :: CV.bool (expireCo ⟨cn, cr, cp, cdl, cps.to Int, css.to Bool, cv⟩ (IntKind.i64.wrap (now + (1 + Int.tmod ew 5)))).1.valid :: CV.int p1 :: CV.int p2 :: CV.int p3 :: CV.int p4 :: CV.bool pf :: CV.int p6 :: CV.dat pw :: CV.dat ph :: CV.int q1 :: CV.int q2 :: CV.int q3 :: CV.int q4 :: CV.bool qf :: CV.int q6 :: CV.dat qw :: CV.dat qh :: CV.int r1 :: CV.int r2 :: CV.int r3 :: CV.int r4 :: CV.bool rf :: CV.int r6 :: CV.dat rw :: CV.dat rh :: CV.dat ((hs1 0 0).like (fl.to Msg ++ D.to Msg ((hs 0 2).like (expireCo ⟨cn, cr, cp, cdl, cps.to Int, css.to Bool, cv⟩ (IntKind.i64.wrap (now + (1 + Int.tmod ew 5)))).2))) :: CV.dat wa :: CV.dat wb :: CV.dat wc :: CV.int (IntKind.i64.wrap (now + (1 + Int.tmod ew 5))) :: CV.int clk :: CV.bool rt :: CV.int st :: []) := by
      rw [grRight_eq]
      refine ⟨⟨D.like_is _ _, D.like_is _ _⟩, hp, hq, hr', ⟨D.like_is _ _, ?_⟩, ⟨ha, hal⟩, ⟨hb, hbl⟩, ⟨hcc, hcl⟩⟩
      rw [like_len, List.length_append, D.like_to]; omega
    by_cases hen : Int.tmod en 2 = 1
    · have et : tickG (grOf (CV.int cn :: CV.int cr :: CV.int cp :: CV.int cdl :: CV.dat cps :: CV.dat css :: CV.bool cv :: CV.int p1 :: CV.int p2 :: CV.int p3 :: CV.int p4 :: CV.bool pf :: CV.int p6 :: CV.dat pw :: CV.dat ph :: CV.int q1 :: CV.int q2 :: CV.int q3 :: CV.int q4 :: CV.bool qf :: CV.int q6 :: CV.dat qw :: CV.dat qh :: CV.int r1 :: CV.int r2 :: CV.int r3 :: CV.int r4 :: CV.bool rf :: CV.int r6 :: CV.dat rw :: CV.dat rh :: CV.dat fl :: CV.dat wa :: CV.dat wb :: CV.dat wc :: CV.int now :: CV.int clk :: CV.bool rt :: CV.int st :: [])) en ew = (relG (relG (relG (grOf (CV.int (expireCo ⟨cn, cr, cp, cdl, cps.to Int, css.to Bool, cv⟩ (IntKind.i64.wrap (now + (1 + Int.tmod ew 5)))).1.nodes :: CV.int (expireCo ⟨cn, cr, cp, cdl, cps.to Int, css.to Bool, cv⟩ (IntKind.i64.wrap (now + (1 + Int.tmod ew 5)))).1.round :: CV.int (expireCo ⟨cn, cr, cp, cdl, cps.to Int, css.to Bool, cv⟩ (IntKind.i64.wrap (now + (1 + Int.tmod ew 5)))).1.phase :: CV.int (expireCo ⟨cn, cr, cp, cdl, cps.to Int, css.to Bool, cv⟩ (IntKind.i64.wrap (now + (1 + Int.tmod ew 5)))).1.deadline :: CV.dat ((hs 0 0).like (expireCo ⟨cn, cr, cp, cdl, cps.to Int, css.to Bool, cv⟩ (IntKind.i64.wrap (now + (1 + Int.tmod ew 5)))).1.positions) :: CV.dat ((hs 0 1).like (expireCo ⟨cn, cr, cp, cdl, cps.to Int, css.to Bool, cv⟩ (IntKind.i64.wrap (now + (1 + Int.tmod ew 5)))).1.seen) :: CV.bool (expireCo ⟨cn, cr, cp, cdl, cps.to Int, css.to Bool, cv⟩ (IntKind.i64.wrap (now + (1 + Int.tmod ew 5)))).1.valid :: CV.int p1 :: CV.int p2 :: CV.int p3 :: CV.int p4 :: CV.bool pf :: CV.int p6 :: CV.dat pw :: CV.dat ph :: CV.int q1 :: CV.int q2 :: CV.int q3 :: CV.int q4 :: CV.bool qf :: CV.int q6 :: CV.dat qw :: CV.dat qh :: CV.int r1 :: CV.int r2 :: CV.int r3 :: CV.int r4 :: CV.bool rf :: CV.int r6 :: CV.dat rw :: CV.dat rh :: CV.dat ((hs1 0 0).like (fl.to Msg ++ D.to Msg ((hs 0 2).like (expireCo ⟨cn, cr, cp, cdl, cps.to Int, css.to Bool, cv⟩ (IntKind.i64.wrap (now + (1 + Int.tmod ew 5)))).2))) :: CV.dat wa :: CV.dat wb :: CV.dat wc :: CV.int (IntKind.i64.wrap (now + (1 + Int.tmod ew 5))) :: CV.int clk :: CV.bool rt :: CV.int st :: [])) 0) 1) 2) := by
        rw [e, tickG]; simp only [hen, if_true]; rfl
      rw [et] at hr ⊢
      have := tick0_run (w := w) (H := H) (ek := ek) (en := en) (ew := ew) (cn := (expireCo ⟨cn, cr, cp, cdl, cps.to Int, css.to Bool, cv⟩ (IntKind.i64.wrap (now + (1 + Int.tmod ew 5)))).1.nodes) (cr := (expireCo ⟨cn, cr, cp, cdl, cps.to Int, css.to Bool, cv⟩ (IntKind.i64.wrap (now + (1 + Int.tmod ew 5)))).1.round) (cp := (expireCo ⟨cn, cr, cp, cdl, cps.to Int, css.to Bool, cv⟩ (IntKind.i64.wrap (now + (1 + Int.tmod ew 5)))).1.phase) (cdl := (expireCo ⟨cn, cr, cp, cdl, cps.to Int, css.to Bool, cv⟩ (IntKind.i64.wrap (now + (1 + Int.tmod ew 5)))).1.deadline) (cps := ((hs 0 0).like (expireCo ⟨cn, cr, cp, cdl, cps.to Int, css.to Bool, cv⟩ (IntKind.i64.wrap (now + (1 + Int.tmod ew 5)))).1.positions)) (css := ((hs 0 1).like (expireCo ⟨cn, cr, cp, cdl, cps.to Int, css.to Bool, cv⟩ (IntKind.i64.wrap (now + (1 + Int.tmod ew 5)))).1.seen)) (cv := (expireCo ⟨cn, cr, cp, cdl, cps.to Int, css.to Bool, cv⟩ (IntKind.i64.wrap (now + (1 + Int.tmod ew 5)))).1.valid) (p1 := p1) (p2 := p2) (p3 := p3) (p4 := p4) (pf := pf) (p6 := p6) (pw := pw) (ph := ph) (q1 := q1) (q2 := q2) (q3 := q3) (q4 := q4) (qf := qf) (q6 := q6) (qw := qw) (qh := qh) (r1 := r1) (r2 := r2) (r3 := r3) (r4 := r4) (rf := rf) (r6 := r6) (rw := rw) (rh := rh) (fl := ((hs1 0 0).like (fl.to Msg ++ D.to Msg ((hs 0 2).like (expireCo ⟨cn, cr, cp, cdl, cps.to Int, css.to Bool, cv⟩ (IntKind.i64.wrap (now + (1 + Int.tmod ew 5)))).2)))) (wa := wa) (wb := wb) (wc := wc) (now := (IntKind.i64.wrap (now + (1 + Int.tmod ew 5)))) (clk := clk) (rt := rt) (st := st) hen hR' hr
      exact this
    · have et : tickG (grOf (CV.int cn :: CV.int cr :: CV.int cp :: CV.int cdl :: CV.dat cps :: CV.dat css :: CV.bool cv :: CV.int p1 :: CV.int p2 :: CV.int p3 :: CV.int p4 :: CV.bool pf :: CV.int p6 :: CV.dat pw :: CV.dat ph :: CV.int q1 :: CV.int q2 :: CV.int q3 :: CV.int q4 :: CV.bool qf :: CV.int q6 :: CV.dat qw :: CV.dat qh :: CV.int r1 :: CV.int r2 :: CV.int r3 :: CV.int r4 :: CV.bool rf :: CV.int r6 :: CV.dat rw :: CV.dat rh :: CV.dat fl :: CV.dat wa :: CV.dat wb :: CV.dat wc :: CV.int now :: CV.int clk :: CV.bool rt :: CV.int st :: [])) en ew = grOf (CV.int (expireCo ⟨cn, cr, cp, cdl, cps.to Int, css.to Bool, cv⟩ (IntKind.i64.wrap (now + (1 + Int.tmod ew 5)))).1.nodes :: CV.int (expireCo ⟨cn, cr, cp, cdl, cps.to Int, css.to Bool, cv⟩ (IntKind.i64.wrap (now + (1 + Int.tmod ew 5)))).1.round :: CV.int (expireCo ⟨cn, cr, cp, cdl, cps.to Int, css.to Bool, cv⟩ (IntKind.i64.wrap (now + (1 + Int.tmod ew 5)))).1.phase :: CV.int (expireCo ⟨cn, cr, cp, cdl, cps.to Int, css.to Bool, cv⟩ (IntKind.i64.wrap (now + (1 + Int.tmod ew 5)))).1.deadline :: CV.dat ((hs 0 0).like (expireCo ⟨cn, cr, cp, cdl, cps.to Int, css.to Bool, cv⟩ (IntKind.i64.wrap (now + (1 + Int.tmod ew 5)))).1.positions) :: CV.dat ((hs 0 1).like (expireCo ⟨cn, cr, cp, cdl, cps.to Int, css.to Bool, cv⟩ (IntKind.i64.wrap (now + (1 + Int.tmod ew 5)))).1.seen) :: CV.bool (expireCo ⟨cn, cr, cp, cdl, cps.to Int, css.to Bool, cv⟩ (IntKind.i64.wrap (now + (1 + Int.tmod ew 5)))).1.valid :: CV.int p1 :: CV.int p2 :: CV.int p3 :: CV.int p4 :: CV.bool pf :: CV.int p6 :: CV.dat pw :: CV.dat ph :: CV.int q1 :: CV.int q2 :: CV.int q3 :: CV.int q4 :: CV.bool qf :: CV.int q6 :: CV.dat qw :: CV.dat qh :: CV.int r1 :: CV.int r2 :: CV.int r3 :: CV.int r4 :: CV.bool rf :: CV.int r6 :: CV.dat rw :: CV.dat rh :: CV.dat ((hs1 0 0).like (fl.to Msg ++ D.to Msg ((hs 0 2).like (expireCo ⟨cn, cr, cp, cdl, cps.to Int, css.to Bool, cv⟩ (IntKind.i64.wrap (now + (1 + Int.tmod ew 5)))).2))) :: CV.dat wa :: CV.dat wb :: CV.dat wc :: CV.int (IntKind.i64.wrap (now + (1 + Int.tmod ew 5))) :: CV.int clk :: CV.bool rt :: CV.int st :: []) := by
        rw [e, tickG]; simp only [hen, if_false]; rfl
      rw [et]
      have := tickz_run (w := w) (H := H) (ek := ek) (en := en) (ew := ew) (cn := (expireCo ⟨cn, cr, cp, cdl, cps.to Int, css.to Bool, cv⟩ (IntKind.i64.wrap (now + (1 + Int.tmod ew 5)))).1.nodes) (cr := (expireCo ⟨cn, cr, cp, cdl, cps.to Int, css.to Bool, cv⟩ (IntKind.i64.wrap (now + (1 + Int.tmod ew 5)))).1.round) (cp := (expireCo ⟨cn, cr, cp, cdl, cps.to Int, css.to Bool, cv⟩ (IntKind.i64.wrap (now + (1 + Int.tmod ew 5)))).1.phase) (cdl := (expireCo ⟨cn, cr, cp, cdl, cps.to Int, css.to Bool, cv⟩ (IntKind.i64.wrap (now + (1 + Int.tmod ew 5)))).1.deadline) (cps := ((hs 0 0).like (expireCo ⟨cn, cr, cp, cdl, cps.to Int, css.to Bool, cv⟩ (IntKind.i64.wrap (now + (1 + Int.tmod ew 5)))).1.positions)) (css := ((hs 0 1).like (expireCo ⟨cn, cr, cp, cdl, cps.to Int, css.to Bool, cv⟩ (IntKind.i64.wrap (now + (1 + Int.tmod ew 5)))).1.seen)) (cv := (expireCo ⟨cn, cr, cp, cdl, cps.to Int, css.to Bool, cv⟩ (IntKind.i64.wrap (now + (1 + Int.tmod ew 5)))).1.valid) (p1 := p1) (p2 := p2) (p3 := p3) (p4 := p4) (pf := pf) (p6 := p6) (pw := pw) (ph := ph) (q1 := q1) (q2 := q2) (q3 := q3) (q4 := q4) (qf := qf) (q6 := q6) (qw := qw) (qh := qh) (r1 := r1) (r2 := r2) (r3 := r3) (r4 := r4) (rf := rf) (r6 := r6) (rw := rw) (rh := rh) (fl := ((hs1 0 0).like (fl.to Msg ++ D.to Msg ((hs 0 2).like (expireCo ⟨cn, cr, cp, cdl, cps.to Int, css.to Bool, cv⟩ (IntKind.i64.wrap (now + (1 + Int.tmod ew 5)))).2)))) (wa := wa) (wb := wb) (wc := wc) (now := (IntKind.i64.wrap (now + (1 + Int.tmod ew 5)))) (clk := clk) (rt := rt) (st := st) hen hR'
      exact this

theorem lawTick : Law Try.prog 47 (((rdCells grK).two rdEv).sp spTick) := by
  refine law_in _ (by kernel_rfl) fun H w ⟨⟨cs, hsh⟩, ek, en, ew⟩ hok => ?_
  obtain ⟨cn, cr, cp, cdl, cps, css, cv, p1, p2, p3, p4, pf, p6, pw, ph, q1, q2, q3, q4, qf, q6, qw, qh, r1, r2, r3, r4, rf, r6, rw, rh, fl, wa, wb, wc, now, clk, rt, st, rfl⟩ := gr_shape hsh
  intro hp
  obtain ⟨h1, ⟨⟨h2, h3⟩, h4⟩, h5⟩ := hp _ (List.mem_singleton.2 rfl)
  exact tick_ent h2 h3 h4 h1 h5
end Go.Proofs.Ytoechplbhbalaaa
end
section
/- Layer 21: the group, walked. -/
open Go Go.Proofs Sx
namespace Go.Proofs.Ytoechplbhbalaaa
set_option maxRecDepth 100000
set_option maxHeartbeats 0
noncomputable def recvL (cn cr cp cdl : Int) (cps css : D) (cv : Bool) (p1 p2 p3 p4 : Int) (pf : Bool) (p6 : Int) (pw ph : D) (q1 q2 q3 q4 : Int) (qf : Bool) (q6 : Int) (qw qh : D) (r1 r2 r3 r4 : Int) (rf : Bool) (r6 : Int) (rw rh : D) (fl wa wb wc : D) (now clk : Int) (rt : Bool) (st : Int) (mk mf mto mn mv me : Int) (ml mb : D) : Conf := Conf.mk (SFrm.mk 79 none none [Item.code (cAt Try.prog 79 [1, 1, 1, 0]), Item.code (cAt Try.prog 79 [1, 1, 1, 1])] (mkJ 0 [(2, .ptr 0 0), (3, .ptr 1 0), (4, .ptr 2 0)] 0 62)) []
 [(0, .cells 97 [.int .i64 cn, .int .i64 cr, .int .i64 cp, .int .i64 cdl, .dat cps, .dat css, .bool cv, .int .i64 p1, .int .i64 p2, .int .i64 p3, .int .i64 p4, .bool pf, .int .i64 p6, .dat pw, .dat ph, .int .i64 q1, .int .i64 q2, .int .i64 q3, .int .i64 q4, .bool qf, .int .i64 q6, .dat qw, .dat qh, .int .i64 r1, .int .i64 r2, .int .i64 r3, .int .i64 r4, .bool rf, .int .i64 r6, .dat rw, .dat rh, .dat fl, .dat wa, .dat wb, .dat wc, .int .i64 now, .int .i64 clk, .bool rt, .int .i64 st]), (1, .cells 50 [.int .i64 mk, .int .i64 mf, .int .i64 mto, .int .i64 mn, .int .i64 mv, .int .i64 me, .dat ml, .dat mb]), (2, .cells 97 grZero)]
section
variable (cn cr cp cdl : Int) (cps css : D) (cv : Bool) (p1 p2 p3 p4 : Int) (pf : Bool) (p6 : Int) (pw ph : D) (q1 q2 q3 q4 : Int) (qf : Bool) (q6 : Int) (qw qh : D) (r1 r2 r3 r4 : Int) (rf : Bool) (r6 : Int) (rw rh : D) (fl wa wb wc : D) (now clk : Int) (rt : Bool) (st : Int) (mk mf mto mn mv me : Int) (ml mb : D)
theorem recv_in : 
 let z1 := (collectCo (CoD.co (CoD.mk cn cr cp cdl cps css cv)) now (MsgD.msg (MsgD.mk mk mf mto mn mv me ml mb)))
 let z2 : Tree := (.ret (.agg [.int .i64 cn, .int .i64 cr, .int .i64 cp, .int .i64 cdl, .dat cps, .dat css, .bool cv, .int .i64 p1, .int .i64 p2, .int .i64 p3, .int .i64 p4, .bool pf, .int .i64 p6, .dat pw, .dat ph, .int .i64 q1, .int .i64 q2, .int .i64 q3, .int .i64 q4, .bool qf, .int .i64 q6, .dat qw, .dat qh, .int .i64 r1, .int .i64 r2, .int .i64 r3, .int .i64 r4, .bool rf, .int .i64 r6, .dat rw, .dat rh, .dat fl, .dat wa, .dat wb, .dat wc, .int .i64 now, .int .i64 clk, .lb false, .int .i64 st]))
 goS Try.prog ctG (fun _ => false) [(79, 38)] 900 (entry Try.prog 79 [.agg [.int .i64 cn, .int .i64 cr, .int .i64 cp, .int .i64 cdl, .dat cps, .dat css, .bool cv, .int .i64 p1, .int .i64 p2, .int .i64 p3, .int .i64 p4, .bool pf, .int .i64 p6, .dat pw, .dat ph, .int .i64 q1, .int .i64 q2, .int .i64 q3, .int .i64 q4, .bool qf, .int .i64 q6, .dat qw, .dat qh, .int .i64 r1, .int .i64 r2, .int .i64 r3, .int .i64 r4, .bool rf, .int .i64 r6, .dat rw, .dat rh, .dat fl, .dat wa, .dat wb, .dat wc, .int .i64 now, .int .i64 clk, .bool rt, .int .i64 st], .agg [.int .i64 mk, .int .i64 mf, .int .i64 mto, .int .i64 mn, .int .i64 mv, .int .i64 me, .dat ml, .dat mb]]) =
 Tree.br (decide (mto = 3)) (.need (D.Is Int cps ∧ D.Is Bool css) (.all fun hs => .need (D.Is Msg fl ∧ D.len fl ≤ 1048576 ∧ D.Is Msg (D.like (hs 0 2) (Prod.snd z1)) ∧ D.len (D.like (hs 0 2) (Prod.snd z1)) ≤ 1048576)
 (.all fun hs_1 => .ret (.agg [.int .i64 (Co.nodes (Prod.fst z1)), .int .i64 (Co.round (Prod.fst z1)), .int .i64 (Co.phase (Prod.fst z1)), .int .i64 (Co.deadline (Prod.fst z1)), .dat (D.like (hs 0 0) (Co.positions
 (Prod.fst z1))), .dat (D.like (hs 0 1) (Co.seen (Prod.fst z1))), .bool (Co.valid (Prod.fst z1)), .int .i64 p1, .int .i64 p2, .int .i64 p3, .int .i64 p4, .bool pf, .int .i64 p6, .dat pw, .dat ph, .int .i64 q1, .int .i64 q2, .int .i64 q3, .int .i64 q4, .bool qf, .int .i64 q6, .dat qw, .dat qh, .int .i64 r1, .int .i64 r2, .int .i64 r3, .int .i64 r4, .bool rf, .int .i64 r6, .dat rw, .dat rh, .dat
 (D.like (hs_1 0 0) (List.append (D.to Msg fl) (D.to Msg (D.like (hs 0 2) (Prod.snd z1))))), .dat wa, .dat wb, .dat wc, .int .i64 now, .int .i64 clk, .bool rt, .int .i64 st])))) (.br (decide (mto < 0)) z2
 (.br (decide (mto > 3)) z2 (.leaf (Conf.mk (SFrm.mk 79 none none [Item.code (cAt Try.prog 79 [1, 1, 1, 0]), Item.code (cAt Try.prog 79 [1, 1, 1, 1])] (mkJ 0 [(2, .ptr 0 0), (3, .ptr 1 0), (4, .ptr 2 0)] 0 62)) [] [(0, OBlk.cells 97 [.int .i64 cn, .int .i64 cr, .int .i64 cp, .int .i64 cdl, .dat cps, .dat css, .bool cv, .int .i64 p1, .int .i64 p2, .int .i64 p3, .int .i64 p4, .bool pf, .int .i64 p6, .dat pw, .dat ph, .int .i64 q1, .int .i64 q2, .int .i64 q3, .int .i64 q4, .bool qf, .int .i64 q6, .dat qw, .dat qh, .int .i64 r1, .int .i64 r2, .int .i64 r3, .int .i64 r4, .bool rf, .int .i64 r6, .dat rw, .dat rh, .dat fl, .dat wa, .dat wb, .dat wc, .int .i64 now, .int .i64 clk, .bool rt, .int .i64 st]),
 (1, OBlk.cells 50 [.int .i64 mk, .int .i64 mf, .int .i64 mto, .int .i64 mn, .int .i64 mv, .int .i64 me, .dat ml, .dat mb]), (2, OBlk.cells 97 [.int .i64 0, .int .i64 0, .int .i64 0, .int .i64 0, .nils, .nils, .lb false, .int .i64 0, .int .i64 0, .int .i64 0, .int .i64 0, .lb false, .int .i64 0, .nils, .nils, .int .i64 0, .int .i64 0, .int .i64 0, .int .i64 0, .lb false, .int .i64 0, .nils, .nils, .int .i64 0, .int .i64 0, .int .i64 0, .int .i64 0, .lb false, .int .i64 0, .nils, .nils, .nils, .nils, .nils, .nils, .int .i64 0, .int .i64 0, .lb false, .int .i64 0])])))) := by
 intros; kernel_rfl

theorem recv0_go : 
 let z1 := (obeyMb (MbD.mb (MbD.mk p1 p2 p3 p4 pf p6 pw ph)) now 12 (MsgD.msg (MsgD.mk mk mf 0 mn mv me ml mb)))
 exec Try.prog ctG 900 (recvL cn cr cp cdl cps css cv p1 p2 p3 p4 pf p6 pw ph q1 q2 q3 q4 qf q6 qw qh r1 r2 r3 r4 rf r6 rw rh fl wa wb wc now clk rt st mk mf 0 mn mv me ml mb) =
 Tree.all fun hs => .need ((0 : Int) ≤ 0 ∧ 0 < (↑3 : Int)) (.need (MbD.Right (MbD.mk p1 p2 p3 p4 pf p6 pw ph)) (.need ((0 : Int) ≤ 0 ∧ 0 < (↑3 : Int)) (.need (D.Is Wr wa ∧ D.len wa ≤ 1048576 ∧ D.Is Int
 (D.like (hs 8 2) (Prod.fst (Prod.snd z1))) ∧ D.len (D.like (hs 8 2) (Prod.fst (Prod.snd z1))) ≤ 1048575 ∧ Prod.snd (ackW clk (Mb.frozen (Prod.fst z1)) (D.to Int (D.like (hs 8 2) (Prod.fst (Prod.snd z1))))
 (D.to Wr wa)) = true) (.all fun hs_1 => .need (D.Is Msg fl ∧ D.len fl ≤ 1048576 ∧ D.Is Msg (D.like (hs 8 3) (Prod.snd (Prod.snd z1))) ∧ D.len (D.like (hs 8 3) (Prod.snd (Prod.snd z1))) ≤ 1048576) (.all fun hs_2 => .ret
 (.agg [.int .i64 cn, .int .i64 cr, .int .i64 cp, .int .i64 cdl, .dat cps, .dat css, .bool cv, .int .i64 (Mb.round (Prod.fst z1)), .int .i64 (Mb.position (Prod.fst z1)), .int .i64 (Mb.thawed (Prod.fst z1)), .int .i64
 (Mb.issued (Prod.fst z1)), .bool (Mb.frozen (Prod.fst z1)), .int .i64 (Mb.upto (Prod.fst z1)), .dat (D.like (hs 8 0) (Mb.waiting (Prod.fst z1))), .dat (D.like (hs 8 1) (Mb.held (Prod.fst z1))), .int .i64 q1, .int .i64 q2, .int .i64 q3, .int .i64 q4, .bool qf, .int .i64 q6, .dat qw, .dat qh, .int .i64 r1, .int .i64 r2, .int .i64 r3, .int .i64 r4, .bool rf, .int .i64 r6, .dat rw, .dat rh, .dat
 (D.like (hs_2 0 0) (List.append (D.to Msg fl) (D.to Msg (D.like (hs 8 3) (Prod.snd (Prod.snd z1)))))), .dat (D.like (hs_1 0 0) (Prod.fst (ackW clk (Mb.frozen (Prod.fst z1)) (D.to Int (D.like (hs 8 2) (Prod.fst
 (Prod.snd z1)))) (D.to Wr wa)))), .dat wb, .dat wc, .int .i64 now, .int .i64 clk, .bool rt, .int .i64 st])))))) := by
 intros; kernel_rfl

theorem recv1_go : 
 let z1 := (obeyMb (MbD.mb (MbD.mk q1 q2 q3 q4 qf q6 qw qh)) now 12 (MsgD.msg (MsgD.mk mk mf 1 mn mv me ml mb)))
 exec Try.prog ctG 900 (recvL cn cr cp cdl cps css cv p1 p2 p3 p4 pf p6 pw ph q1 q2 q3 q4 qf q6 qw qh r1 r2 r3 r4 rf r6 rw rh fl wa wb wc now clk rt st mk mf 1 mn mv me ml mb) =
 Tree.all fun hs => .need ((0 : Int) ≤ 1 ∧ 1 < (↑3 : Int)) (.need (MbD.Right (MbD.mk q1 q2 q3 q4 qf q6 qw qh)) (.need ((0 : Int) ≤ 1 ∧ 1 < (↑3 : Int)) (.need (D.Is Wr wb ∧ D.len wb ≤ 1048576 ∧ D.Is Int
 (D.like (hs 8 2) (Prod.fst (Prod.snd z1))) ∧ D.len (D.like (hs 8 2) (Prod.fst (Prod.snd z1))) ≤ 1048575 ∧ Prod.snd (ackW clk (Mb.frozen (Prod.fst z1)) (D.to Int (D.like (hs 8 2) (Prod.fst (Prod.snd z1))))
 (D.to Wr wb)) = true) (.all fun hs_1 => .need (D.Is Msg fl ∧ D.len fl ≤ 1048576 ∧ D.Is Msg (D.like (hs 8 3) (Prod.snd (Prod.snd z1))) ∧ D.len (D.like (hs 8 3) (Prod.snd (Prod.snd z1))) ≤ 1048576) (.all fun hs_2 => .ret
 (.agg [.int .i64 cn, .int .i64 cr, .int .i64 cp, .int .i64 cdl, .dat cps, .dat css, .bool cv, .int .i64 p1, .int .i64 p2, .int .i64 p3, .int .i64 p4, .bool pf, .int .i64 p6, .dat pw, .dat ph, .int .i64
 (Mb.round (Prod.fst z1)), .int .i64 (Mb.position (Prod.fst z1)), .int .i64 (Mb.thawed (Prod.fst z1)), .int .i64 (Mb.issued (Prod.fst z1)), .bool (Mb.frozen (Prod.fst z1)), .int .i64 (Mb.upto (Prod.fst z1)), .dat
 (D.like (hs 8 0) (Mb.waiting (Prod.fst z1))), .dat (D.like (hs 8 1) (Mb.held (Prod.fst z1))), .int .i64 r1, .int .i64 r2, .int .i64 r3, .int .i64 r4, .bool rf, .int .i64 r6, .dat rw, .dat rh, .dat (D.like
 (hs_2 0 0) (List.append (D.to Msg fl) (D.to Msg (D.like (hs 8 3) (Prod.snd (Prod.snd z1)))))), .dat wa, .dat (D.like (hs_1 0 0) (Prod.fst (ackW clk (Mb.frozen (Prod.fst z1)) (D.to Int (D.like (hs 8 2)
 (Prod.fst (Prod.snd z1)))) (D.to Wr wb)))), .dat wc, .int .i64 now, .int .i64 clk, .bool rt, .int .i64 st])))))) := by
 intros; kernel_rfl

theorem recv2_go : 
 let z1 := (obeyMb (MbD.mb (MbD.mk r1 r2 r3 r4 rf r6 rw rh)) now 12 (MsgD.msg (MsgD.mk mk mf 2 mn mv me ml mb)))
 exec Try.prog ctG 900 (recvL cn cr cp cdl cps css cv p1 p2 p3 p4 pf p6 pw ph q1 q2 q3 q4 qf q6 qw qh r1 r2 r3 r4 rf r6 rw rh fl wa wb wc now clk rt st mk mf 2 mn mv me ml mb) =
 Tree.all fun hs => .need ((0 : Int) ≤ 2 ∧ 2 < (↑3 : Int)) (.need (MbD.Right (MbD.mk r1 r2 r3 r4 rf r6 rw rh)) (.need ((0 : Int) ≤ 2 ∧ 2 < (↑3 : Int)) (.need (D.Is Wr wc ∧ D.len wc ≤ 1048576 ∧ D.Is Int
 (D.like (hs 8 2) (Prod.fst (Prod.snd z1))) ∧ D.len (D.like (hs 8 2) (Prod.fst (Prod.snd z1))) ≤ 1048575 ∧ Prod.snd (ackW clk (Mb.frozen (Prod.fst z1)) (D.to Int (D.like (hs 8 2) (Prod.fst (Prod.snd z1))))
 (D.to Wr wc)) = true) (.all fun hs_1 => .need (D.Is Msg fl ∧ D.len fl ≤ 1048576 ∧ D.Is Msg (D.like (hs 8 3) (Prod.snd (Prod.snd z1))) ∧ D.len (D.like (hs 8 3) (Prod.snd (Prod.snd z1))) ≤ 1048576) (.all fun hs_2 => .ret
 (.agg [.int .i64 cn, .int .i64 cr, .int .i64 cp, .int .i64 cdl, .dat cps, .dat css, .bool cv, .int .i64 p1, .int .i64 p2, .int .i64 p3, .int .i64 p4, .bool pf, .int .i64 p6, .dat pw, .dat ph, .int .i64 q1, .int .i64 q2, .int .i64 q3, .int .i64 q4, .bool qf, .int .i64 q6, .dat qw, .dat qh, .int .i64
 (Mb.round (Prod.fst z1)), .int .i64 (Mb.position (Prod.fst z1)), .int .i64 (Mb.thawed (Prod.fst z1)), .int .i64 (Mb.issued (Prod.fst z1)), .bool (Mb.frozen (Prod.fst z1)), .int .i64 (Mb.upto (Prod.fst z1)), .dat
 (D.like (hs 8 0) (Mb.waiting (Prod.fst z1))), .dat (D.like (hs 8 1) (Mb.held (Prod.fst z1))), .dat (D.like (hs_2 0 0) (List.append (D.to Msg fl) (D.to Msg (D.like (hs 8 3) (Prod.snd (Prod.snd z1)))))), .dat wa, .dat wb, .dat
 (D.like (hs_1 0 0) (Prod.fst (ackW clk (Mb.frozen (Prod.fst z1)) (D.to Int (D.like (hs 8 2) (Prod.fst (Prod.snd z1)))) (D.to Wr wc)))), .int .i64 now, .int .i64 clk, .bool rt, .int .i64 st])))))) := by
 intros; kernel_rfl

end
end Go.Proofs.Ytoechplbhbalaaa
end
section
/- Layer 21: the law of receive. -/
open Go Go.Proofs Sx
namespace Go.Proofs.Ytoechplbhbalaaa
set_option maxRecDepth 100000
set_option maxHeartbeats 0

theorem recv0_run {w : World} {H : HV} {cn cr cp cdl : Int} {cps css : D} {cv : Bool} {p1 p2 p3 p4 : Int} {pf : Bool} {p6 : Int} {pw ph : D} {q1 q2 q3 q4 : Int} {qf : Bool} {q6 : Int} {qw qh : D} {r1 r2 r3 r4 : Int} {rf : Bool} {r6 : Int} {rw rh : D} {fl wa wb wc : D} {now clk : Int} {rt : Bool} {st : Int} {mk mf mn mv me : Int} {ml mb : D} (hR : GrRight (CV.int cn :: CV.int cr :: CV.int cp :: CV.int cdl :: CV.dat cps :: CV.dat css :: CV.bool cv :: CV.int p1 :: CV.int p2 :: CV.int p3 :: CV.int p4 :: CV.bool pf :: CV.int p6 :: CV.dat pw :: CV.dat ph :: CV.int q1 :: CV.int q2 :: CV.int q3 :: CV.int q4 :: CV.bool qf :: CV.int q6 :: CV.dat qw :: CV.dat qh :: CV.int r1 :: CV.int r2 :: CV.int r3 :: CV.int r4 :: CV.bool rf :: CV.int r6 :: CV.dat rw :: CV.dat rh :: CV.dat fl :: CV.dat wa :: CV.dat wb :: CV.dat wc :: CV.int now :: CV.int clk :: CV.bool rt :: CV.int st :: [])) (hr : (obeyG (grOf (CV.int cn :: CV.int cr :: CV.int cp :: CV.int cdl :: CV.dat cps :: CV.dat css :: CV.bool cv :: CV.int p1 :: CV.int p2 :: CV.int p3 :: CV.int p4 :: CV.bool pf :: CV.int p6 :: CV.dat pw :: CV.dat ph :: CV.int q1 :: CV.int q2 :: CV.int q3 :: CV.int q4 :: CV.bool qf :: CV.int q6 :: CV.dat qw :: CV.dat qh :: CV.int r1 :: CV.int r2 :: CV.int r3 :: CV.int r4 :: CV.bool rf :: CV.int r6 :: CV.dat rw :: CV.dat rh :: CV.dat fl :: CV.dat wa :: CV.dat wb :: CV.dat wc :: CV.int now :: CV.int clk :: CV.bool rt :: CV.int st :: [])) ⟨mk, mf, 0, mn, mv, me, ml.to Int, mb.to Byte⟩ 0).right = true) :
    Runs Try.prog ⟨w, H⟩ (recvL cn cr cp cdl cps css cv p1 p2 p3 p4 pf p6 pw ph q1 q2 q3 q4 qf q6 qw qh r1 r2 r3 r4 rf r6 rw rh fl wa wb wc now clk rt st mk mf 0 mn mv me ml mb) (RetD w H fun ds => .agg (svOf ds 0 (obeyG (grOf (CV.int cn :: CV.int cr :: CV.int cp :: CV.int cdl :: CV.dat cps :: CV.dat css :: CV.bool cv :: CV.int p1 :: CV.int p2 :: CV.int p3 :: CV.int p4 :: CV.bool pf :: CV.int p6 :: CV.dat pw :: CV.dat ph :: CV.int q1 :: CV.int q2 :: CV.int q3 :: CV.int q4 :: CV.bool qf :: CV.int q6 :: CV.dat qw :: CV.dat qh :: CV.int r1 :: CV.int r2 :: CV.int r3 :: CV.int r4 :: CV.bool rf :: CV.int r6 :: CV.dat rw :: CV.dat rh :: CV.dat fl :: CV.dat wa :: CV.dat wb :: CV.dat wc :: CV.int now :: CV.int clk :: CV.bool rt :: CV.int st :: [])) ⟨mk, mf, 0, mn, mv, me, ml.to Int, mb.to Byte⟩ 0).cls)) := by
  rw [grRight_eq] at hR
  rw [grOf_eq] at hr ⊢
  obtain ⟨⟨hc1, hc2⟩, hp, hq, hr', ⟨hf, hfl⟩, ⟨ha, hal⟩, ⟨hb, hbl⟩, ⟨hcc, hcl⟩⟩ := hR
  have hp' := hp; have hq' := hq; have hr2 := hr'
  obtain ⟨hpw, hph, hpl, hpm⟩ := hp'
  obtain ⟨hqw, hqh, hql, hqm⟩ := hq'
  obtain ⟨hrw, hrh, hrl, hrm⟩ := hr2
  simp only at hpw hph hpl hpm hqw hqh hql hqm hrw hrh hrl hrm
  simp only [obeyG, sendG, ackG, tri_0, tri_1, tri_2, tri_upd0, tri_upd1, tri_upd2, Bool.and_eq_true] at hr
  simp only [obeyG, sendG, ackG, tri_0, tri_1, tri_2, tri_upd0, tri_upd1, tri_upd2, cls_tri]
  have hob := obeyMb_len ⟨p1, p2, p3, p4, pf, p6, pw.to Int, ph.to Int⟩ now 12 ⟨mk, mf, 0, mn, mv, me, ml.to Int, mb.to Byte⟩
  obtain ⟨o1, o2, o3, o4, o5⟩ := hob
  simp only at o1 o2 o3 o4
  have hhl := D.Is.length (α := Int) ph
  apply exec_sound ctGOk 900
  rw [recv0_go]
  refine fun hs => ⟨⟨by omega, by omega⟩, hp, ⟨by omega, by omega⟩, ⟨ha, by omega, D.like_is _ _, ?_, ?_⟩, fun hs1 => ⟨⟨hf, by omega, D.like_is _ _, ?_⟩, fun hs2 => ?_⟩⟩
  · rw [like_len]; exact Nat.le_trans o3 (by omega)
  · rw [D.like_to]; exact hr.2
  · rw [like_len]; exact Nat.le_trans o4 (by omega)
  · refine ret_cells ?_
    repeat' first
    | exact .nil
    | refine .cons ?_ ?_
    | exact rfl
    | exact fun _ => rfl
    | exact lst_ok stands_like
    | exact lst_ok (stands_self (by assumption))
    | exact lst_ok (by rw [D.like_to]; exact stands_like)
    | exact bool_ok (by rw [hr.2, Bool.and_true])
    | fail

theorem recv1_run {w : World} {H : HV} {cn cr cp cdl : Int} {cps css : D} {cv : Bool} {p1 p2 p3 p4 : Int} {pf : Bool} {p6 : Int} {pw ph : D} {q1 q2 q3 q4 : Int} {qf : Bool} {q6 : Int} {qw qh : D} {r1 r2 r3 r4 : Int} {rf : Bool} {r6 : Int} {rw rh : D} {fl wa wb wc : D} {now clk : Int} {rt : Bool} {st : Int} {mk mf mn mv me : Int} {ml mb : D} (hR : GrRight (CV.int cn :: CV.int cr :: CV.int cp :: CV.int cdl :: CV.dat cps :: CV.dat css :: CV.bool cv :: CV.int p1 :: CV.int p2 :: CV.int p3 :: CV.int p4 :: CV.bool pf :: CV.int p6 :: CV.dat pw :: CV.dat ph :: CV.int q1 :: CV.int q2 :: CV.int q3 :: CV.int q4 :: CV.bool qf :: CV.int q6 :: CV.dat qw :: CV.dat qh :: CV.int r1 :: CV.int r2 :: CV.int r3 :: CV.int r4 :: CV.bool rf :: CV.int r6 :: CV.dat rw :: CV.dat rh :: CV.dat fl :: CV.dat wa :: CV.dat wb :: CV.dat wc :: CV.int now :: CV.int clk :: CV.bool rt :: CV.int st :: [])) (hr : (obeyG (grOf (CV.int cn :: CV.int cr :: CV.int cp :: CV.int cdl :: CV.dat cps :: CV.dat css :: CV.bool cv :: CV.int p1 :: CV.int p2 :: CV.int p3 :: CV.int p4 :: CV.bool pf :: CV.int p6 :: CV.dat pw :: CV.dat ph :: CV.int q1 :: CV.int q2 :: CV.int q3 :: CV.int q4 :: CV.bool qf :: CV.int q6 :: CV.dat qw :: CV.dat qh :: CV.int r1 :: CV.int r2 :: CV.int r3 :: CV.int r4 :: CV.bool rf :: CV.int r6 :: CV.dat rw :: CV.dat rh :: CV.dat fl :: CV.dat wa :: CV.dat wb :: CV.dat wc :: CV.int now :: CV.int clk :: CV.bool rt :: CV.int st :: [])) ⟨mk, mf, 1, mn, mv, me, ml.to Int, mb.to Byte⟩ 1).right = true) :
    Runs Try.prog ⟨w, H⟩ (recvL cn cr cp cdl cps css cv p1 p2 p3 p4 pf p6 pw ph q1 q2 q3 q4 qf q6 qw qh r1 r2 r3 r4 rf r6 rw rh fl wa wb wc now clk rt st mk mf 1 mn mv me ml mb) (RetD w H fun ds => .agg (svOf ds 0 (obeyG (grOf (CV.int cn :: CV.int cr :: CV.int cp :: CV.int cdl :: CV.dat cps :: CV.dat css :: CV.bool cv :: CV.int p1 :: CV.int p2 :: CV.int p3 :: CV.int p4 :: CV.bool pf :: CV.int p6 :: CV.dat pw :: CV.dat ph :: CV.int q1 :: CV.int q2 :: CV.int q3 :: CV.int q4 :: CV.bool qf :: CV.int q6 :: CV.dat qw :: CV.dat qh :: CV.int r1 :: CV.int r2 :: CV.int r3 :: CV.int r4 :: CV.bool rf :: CV.int r6 :: CV.dat rw :: CV.dat rh :: CV.dat fl :: CV.dat wa :: CV.dat wb :: CV.dat wc :: CV.int now :: CV.int clk :: CV.bool rt :: CV.int st :: [])) ⟨mk, mf, 1, mn, mv, me, ml.to Int, mb.to Byte⟩ 1).cls)) := by
  rw [grRight_eq] at hR
  rw [grOf_eq] at hr ⊢
  obtain ⟨⟨hc1, hc2⟩, hp, hq, hr', ⟨hf, hfl⟩, ⟨ha, hal⟩, ⟨hb, hbl⟩, ⟨hcc, hcl⟩⟩ := hR
  have hp' := hp; have hq' := hq; have hr2 := hr'
  obtain ⟨hpw, hph, hpl, hpm⟩ := hp'
  obtain ⟨hqw, hqh, hql, hqm⟩ := hq'
  obtain ⟨hrw, hrh, hrl, hrm⟩ := hr2
  simp only at hpw hph hpl hpm hqw hqh hql hqm hrw hrh hrl hrm
  simp only [obeyG, sendG, ackG, tri_0, tri_1, tri_2, tri_upd0, tri_upd1, tri_upd2, Bool.and_eq_true] at hr
  simp only [obeyG, sendG, ackG, tri_0, tri_1, tri_2, tri_upd0, tri_upd1, tri_upd2, cls_tri]
  have hob := obeyMb_len ⟨q1, q2, q3, q4, qf, q6, qw.to Int, qh.to Int⟩ now 12 ⟨mk, mf, 1, mn, mv, me, ml.to Int, mb.to Byte⟩
  obtain ⟨o1, o2, o3, o4, o5⟩ := hob
  simp only at o1 o2 o3 o4
  have hhl := D.Is.length (α := Int) qh
  apply exec_sound ctGOk 900
  rw [recv1_go]
  refine fun hs => ⟨⟨by omega, by omega⟩, hq, ⟨by omega, by omega⟩, ⟨hb, by omega, D.like_is _ _, ?_, ?_⟩, fun hs1 => ⟨⟨hf, by omega, D.like_is _ _, ?_⟩, fun hs2 => ?_⟩⟩
  · rw [like_len]; exact Nat.le_trans o3 (by omega)
  · rw [D.like_to]; exact hr.2
  · rw [like_len]; exact Nat.le_trans o4 (by omega)
  · refine ret_cells ?_
    repeat' first
    | exact .nil
    | refine .cons ?_ ?_
    | exact rfl
    | exact fun _ => rfl
    | exact lst_ok stands_like
    | exact lst_ok (stands_self (by assumption))
    | exact lst_ok (by rw [D.like_to]; exact stands_like)
    | exact bool_ok (by rw [hr.2, Bool.and_true])
    | fail

theorem recv2_run {w : World} {H : HV} {cn cr cp cdl : Int} {cps css : D} {cv : Bool} {p1 p2 p3 p4 : Int} {pf : Bool} {p6 : Int} {pw ph : D} {q1 q2 q3 q4 : Int} {qf : Bool} {q6 : Int} {qw qh : D} {r1 r2 r3 r4 : Int} {rf : Bool} {r6 : Int} {rw rh : D} {fl wa wb wc : D} {now clk : Int} {rt : Bool} {st : Int} {mk mf mn mv me : Int} {ml mb : D} (hR : GrRight (CV.int cn :: CV.int cr :: CV.int cp :: CV.int cdl :: CV.dat cps :: CV.dat css :: CV.bool cv :: CV.int p1 :: CV.int p2 :: CV.int p3 :: CV.int p4 :: CV.bool pf :: CV.int p6 :: CV.dat pw :: CV.dat ph :: CV.int q1 :: CV.int q2 :: CV.int q3 :: CV.int q4 :: CV.bool qf :: CV.int q6 :: CV.dat qw :: CV.dat qh :: CV.int r1 :: CV.int r2 :: CV.int r3 :: CV.int r4 :: CV.bool rf :: CV.int r6 :: CV.dat rw :: CV.dat rh :: CV.dat fl :: CV.dat wa :: CV.dat wb :: CV.dat wc :: CV.int now :: CV.int clk :: CV.bool rt :: CV.int st :: [])) (hr : (obeyG (grOf (CV.int cn :: CV.int cr :: CV.int cp :: CV.int cdl :: CV.dat cps :: CV.dat css :: CV.bool cv :: CV.int p1 :: CV.int p2 :: CV.int p3 :: CV.int p4 :: CV.bool pf :: CV.int p6 :: CV.dat pw :: CV.dat ph :: CV.int q1 :: CV.int q2 :: CV.int q3 :: CV.int q4 :: CV.bool qf :: CV.int q6 :: CV.dat qw :: CV.dat qh :: CV.int r1 :: CV.int r2 :: CV.int r3 :: CV.int r4 :: CV.bool rf :: CV.int r6 :: CV.dat rw :: CV.dat rh :: CV.dat fl :: CV.dat wa :: CV.dat wb :: CV.dat wc :: CV.int now :: CV.int clk :: CV.bool rt :: CV.int st :: [])) ⟨mk, mf, 2, mn, mv, me, ml.to Int, mb.to Byte⟩ 2).right = true) :
    Runs Try.prog ⟨w, H⟩ (recvL cn cr cp cdl cps css cv p1 p2 p3 p4 pf p6 pw ph q1 q2 q3 q4 qf q6 qw qh r1 r2 r3 r4 rf r6 rw rh fl wa wb wc now clk rt st mk mf 2 mn mv me ml mb) (RetD w H fun ds => .agg (svOf ds 0 (obeyG (grOf (CV.int cn :: CV.int cr :: CV.int cp :: CV.int cdl :: CV.dat cps :: CV.dat css :: CV.bool cv :: CV.int p1 :: CV.int p2 :: CV.int p3 :: CV.int p4 :: CV.bool pf :: CV.int p6 :: CV.dat pw :: CV.dat ph :: CV.int q1 :: CV.int q2 :: CV.int q3 :: CV.int q4 :: CV.bool qf :: CV.int q6 :: CV.dat qw :: CV.dat qh :: CV.int r1 :: CV.int r2 :: CV.int r3 :: CV.int r4 :: CV.bool rf :: CV.int r6 :: CV.dat rw :: CV.dat rh :: CV.dat fl :: CV.dat wa :: CV.dat wb :: CV.dat wc :: CV.int now :: CV.int clk :: CV.bool rt :: CV.int st :: [])) ⟨mk, mf, 2, mn, mv, me, ml.to Int, mb.to Byte⟩ 2).cls)) := by
  rw [grRight_eq] at hR
  rw [grOf_eq] at hr ⊢
  obtain ⟨⟨hc1, hc2⟩, hp, hq, hr', ⟨hf, hfl⟩, ⟨ha, hal⟩, ⟨hb, hbl⟩, ⟨hcc, hcl⟩⟩ := hR
  have hp' := hp; have hq' := hq; have hr2 := hr'
  obtain ⟨hpw, hph, hpl, hpm⟩ := hp'
  obtain ⟨hqw, hqh, hql, hqm⟩ := hq'
  obtain ⟨hrw, hrh, hrl, hrm⟩ := hr2
  simp only at hpw hph hpl hpm hqw hqh hql hqm hrw hrh hrl hrm
  simp only [obeyG, sendG, ackG, tri_0, tri_1, tri_2, tri_upd0, tri_upd1, tri_upd2, Bool.and_eq_true] at hr
  simp only [obeyG, sendG, ackG, tri_0, tri_1, tri_2, tri_upd0, tri_upd1, tri_upd2, cls_tri]
  have hob := obeyMb_len ⟨r1, r2, r3, r4, rf, r6, rw.to Int, rh.to Int⟩ now 12 ⟨mk, mf, 2, mn, mv, me, ml.to Int, mb.to Byte⟩
  obtain ⟨o1, o2, o3, o4, o5⟩ := hob
  simp only at o1 o2 o3 o4
  have hhl := D.Is.length (α := Int) rh
  apply exec_sound ctGOk 900
  rw [recv2_go]
  refine fun hs => ⟨⟨by omega, by omega⟩, hr', ⟨by omega, by omega⟩, ⟨hcc, by omega, D.like_is _ _, ?_, ?_⟩, fun hs1 => ⟨⟨hf, by omega, D.like_is _ _, ?_⟩, fun hs2 => ?_⟩⟩
  · rw [like_len]; exact Nat.le_trans o3 (by omega)
  · rw [D.like_to]; exact hr.2
  · rw [like_len]; exact Nat.le_trans o4 (by omega)
  · refine ret_cells ?_
    repeat' first
    | exact .nil
    | refine .cons ?_ ?_
    | exact rfl
    | exact fun _ => rfl
    | exact lst_ok stands_like
    | exact lst_ok (stands_self (by assumption))
    | exact lst_ok (by rw [D.like_to]; exact stands_like)
    | exact bool_ok (by rw [hr.2, Bool.and_true])
    | fail

theorem recv_ent {w : World} {H : HV} {cn cr cp cdl : Int} {cps css : D} {cv : Bool} {p1 p2 p3 p4 : Int} {pf : Bool} {p6 : Int} {pw ph : D} {q1 q2 q3 q4 : Int} {qf : Bool} {q6 : Int} {qw qh : D} {r1 r2 r3 r4 : Int} {rf : Bool} {r6 : Int} {rw rh : D} {fl wa wb wc : D} {now clk : Int} {rt : Bool} {st : Int} {mk mf mto mn mv me : Int} {ml mb : D} (hR : GrRight (CV.int cn :: CV.int cr :: CV.int cp :: CV.int cdl :: CV.dat cps :: CV.dat css :: CV.bool cv :: CV.int p1 :: CV.int p2 :: CV.int p3 :: CV.int p4 :: CV.bool pf :: CV.int p6 :: CV.dat pw :: CV.dat ph :: CV.int q1 :: CV.int q2 :: CV.int q3 :: CV.int q4 :: CV.bool qf :: CV.int q6 :: CV.dat qw :: CV.dat qh :: CV.int r1 :: CV.int r2 :: CV.int r3 :: CV.int r4 :: CV.bool rf :: CV.int r6 :: CV.dat rw :: CV.dat rh :: CV.dat fl :: CV.dat wa :: CV.dat wb :: CV.dat wc :: CV.int now :: CV.int clk :: CV.bool rt :: CV.int st :: [])) (hr : (recvG (grOf (CV.int cn :: CV.int cr :: CV.int cp :: CV.int cdl :: CV.dat cps :: CV.dat css :: CV.bool cv :: CV.int p1 :: CV.int p2 :: CV.int p3 :: CV.int p4 :: CV.bool pf :: CV.int p6 :: CV.dat pw :: CV.dat ph :: CV.int q1 :: CV.int q2 :: CV.int q3 :: CV.int q4 :: CV.bool qf :: CV.int q6 :: CV.dat qw :: CV.dat qh :: CV.int r1 :: CV.int r2 :: CV.int r3 :: CV.int r4 :: CV.bool rf :: CV.int r6 :: CV.dat rw :: CV.dat rh :: CV.dat fl :: CV.dat wa :: CV.dat wb :: CV.dat wc :: CV.int now :: CV.int clk :: CV.bool rt :: CV.int st :: [])) ⟨mk, mf, mto, mn, mv, me, ml.to Int, mb.to Byte⟩).right = true) :
    Runs Try.prog ⟨w, H⟩ (entry Try.prog 79 [.agg [.int .i64 cn, .int .i64 cr, .int .i64 cp, .int .i64 cdl, .dat cps, .dat css, .bool cv, .int .i64 p1, .int .i64 p2, .int .i64 p3, .int .i64 p4, .bool pf, .int .i64 p6, .dat pw, .dat ph, .int .i64 q1, .int .i64 q2, .int .i64 q3, .int .i64 q4, .bool qf, .int .i64 q6, .dat qw, .dat qh, .int .i64 r1, .int .i64 r2, .int .i64 r3, .int .i64 r4, .bool rf, .int .i64 r6, .dat rw, .dat rh, .dat fl, .dat wa, .dat wb, .dat wc, .int .i64 now, .int .i64 clk, .bool rt, .int .i64 st], .agg [.int .i64 mk, .int .i64 mf, .int .i64 mto, .int .i64 mn, .int .i64 mv, .int .i64 me, .dat ml, .dat mb]]) (RetD w H fun ds => .agg (svOf ds 0 (recvG (grOf (CV.int cn :: CV.int cr :: CV.int cp :: CV.int cdl :: CV.dat cps :: CV.dat css :: CV.bool cv :: CV.int p1 :: CV.int p2 :: CV.int p3 :: CV.int p4 :: CV.bool pf :: CV.int p6 :: CV.dat pw :: CV.dat ph :: CV.int q1 :: CV.int q2 :: CV.int q3 :: CV.int q4 :: CV.bool qf :: CV.int q6 :: CV.dat qw :: CV.dat qh :: CV.int r1 :: CV.int r2 :: CV.int r3 :: CV.int r4 :: CV.bool rf :: CV.int r6 :: CV.dat rw :: CV.dat rh :: CV.dat fl :: CV.dat wa :: CV.dat wb :: CV.dat wc :: CV.int now :: CV.int clk :: CV.bool rt :: CV.int st :: [])) ⟨mk, mf, mto, mn, mv, me, ml.to Int, mb.to Byte⟩).cls)) := by
  have hR0 := hR
  rw [grRight_eq] at hR
  obtain ⟨⟨hc1, hc2⟩, ⟨hpw, hph, _, _⟩, ⟨hqw, hqh, _, _⟩, ⟨hrw, hrh, _, _⟩, ⟨hf, hfl⟩, ⟨ha, hal⟩, ⟨hb, hbl⟩, ⟨hcc, hcl⟩⟩ := hR
  simp only at hpw hph hqw hqh hrw hrh
  apply goS_sound ctGOk (fun _ => false) [(79, 38)] 900
  rw [recv_in]
  refine ⟨fun h3 => ?_, fun h3 => ⟨fun h0 => ?_, fun h0 => ⟨fun h4 => ?_, fun h4 => ?_⟩⟩⟩
  · have h3 : mto = 3 := of_decide_eq_true h3
    have e : recvG (grOf (CV.int cn :: CV.int cr :: CV.int cp :: CV.int cdl :: CV.dat cps :: CV.dat css :: CV.bool cv :: CV.int p1 :: CV.int p2 :: CV.int p3 :: CV.int p4 :: CV.bool pf :: CV.int p6 :: CV.dat pw :: CV.dat ph :: CV.int q1 :: CV.int q2 :: CV.int q3 :: CV.int q4 :: CV.bool qf :: CV.int q6 :: CV.dat qw :: CV.dat qh :: CV.int r1 :: CV.int r2 :: CV.int r3 :: CV.int r4 :: CV.bool rf :: CV.int r6 :: CV.dat rw :: CV.dat rh :: CV.dat fl :: CV.dat wa :: CV.dat wb :: CV.dat wc :: CV.int now :: CV.int clk :: CV.bool rt :: CV.int st :: [])) ⟨mk, mf, mto, mn, mv, me, ml.to Int, mb.to Byte⟩ = sendG { grOf (CV.int cn :: CV.int cr :: CV.int cp :: CV.int cdl :: CV.dat cps :: CV.dat css :: CV.bool cv :: CV.int p1 :: CV.int p2 :: CV.int p3 :: CV.int p4 :: CV.bool pf :: CV.int p6 :: CV.dat pw :: CV.dat ph :: CV.int q1 :: CV.int q2 :: CV.int q3 :: CV.int q4 :: CV.bool qf :: CV.int q6 :: CV.dat qw :: CV.dat qh :: CV.int r1 :: CV.int r2 :: CV.int r3 :: CV.int r4 :: CV.bool rf :: CV.int r6 :: CV.dat rw :: CV.dat rh :: CV.dat fl :: CV.dat wa :: CV.dat wb :: CV.dat wc :: CV.int now :: CV.int clk :: CV.bool rt :: CV.int st :: []) with c := (collectCo (grOf (CV.int cn :: CV.int cr :: CV.int cp :: CV.int cdl :: CV.dat cps :: CV.dat css :: CV.bool cv :: CV.int p1 :: CV.int p2 :: CV.int p3 :: CV.int p4 :: CV.bool pf :: CV.int p6 :: CV.dat pw :: CV.dat ph :: CV.int q1 :: CV.int q2 :: CV.int q3 :: CV.int q4 :: CV.bool qf :: CV.int q6 :: CV.dat qw :: CV.dat qh :: CV.int r1 :: CV.int r2 :: CV.int r3 :: CV.int r4 :: CV.bool rf :: CV.int r6 :: CV.dat rw :: CV.dat rh :: CV.dat fl :: CV.dat wa :: CV.dat wb :: CV.dat wc :: CV.int now :: CV.int clk :: CV.bool rt :: CV.int st :: [])).c (grOf (CV.int cn :: CV.int cr :: CV.int cp :: CV.int cdl :: CV.dat cps :: CV.dat css :: CV.bool cv :: CV.int p1 :: CV.int p2 :: CV.int p3 :: CV.int p4 :: CV.bool pf :: CV.int p6 :: CV.dat pw :: CV.dat ph :: CV.int q1 :: CV.int q2 :: CV.int q3 :: CV.int q4 :: CV.bool qf :: CV.int q6 :: CV.dat qw :: CV.dat qh :: CV.int r1 :: CV.int r2 :: CV.int r3 :: CV.int r4 :: CV.bool rf :: CV.int r6 :: CV.dat rw :: CV.dat rh :: CV.dat fl :: CV.dat wa :: CV.dat wb :: CV.dat wc :: CV.int now :: CV.int clk :: CV.bool rt :: CV.int st :: [])).now ⟨mk, mf, mto, mn, mv, me, ml.to Int, mb.to Byte⟩).1 } (collectCo (grOf (CV.int cn :: CV.int cr :: CV.int cp :: CV.int cdl :: CV.dat cps :: CV.dat css :: CV.bool cv :: CV.int p1 :: CV.int p2 :: CV.int p3 :: CV.int p4 :: CV.bool pf :: CV.int p6 :: CV.dat pw :: CV.dat ph :: CV.int q1 :: CV.int q2 :: CV.int q3 :: CV.int q4 :: CV.bool qf :: CV.int q6 :: CV.dat qw :: CV.dat qh :: CV.int r1 :: CV.int r2 :: CV.int r3 :: CV.int r4 :: CV.bool rf :: CV.int r6 :: CV.dat rw :: CV.dat rh :: CV.dat fl :: CV.dat wa :: CV.dat wb :: CV.dat wc :: CV.int now :: CV.int clk :: CV.bool rt :: CV.int st :: [])).c (grOf (CV.int cn :: CV.int cr :: CV.int cp :: CV.int cdl :: CV.dat cps :: CV.dat css :: CV.bool cv :: CV.int p1 :: CV.int p2 :: CV.int p3 :: CV.int p4 :: CV.bool pf :: CV.int p6 :: CV.dat pw :: CV.dat ph :: CV.int q1 :: CV.int q2 :: CV.int q3 :: CV.int q4 :: CV.bool qf :: CV.int q6 :: CV.dat qw :: CV.dat qh :: CV.int r1 :: CV.int r2 :: CV.int r3 :: CV.int r4 :: CV.bool rf :: CV.int r6 :: CV.dat rw :: CV.dat rh :: CV.dat fl :: CV.dat wa :: CV.dat wb :: CV.dat wc :: CV.int now :: CV.int clk :: CV.bool rt :: CV.int st :: [])).now ⟨mk, mf, mto, mn, mv, me, ml.to Int, mb.to Byte⟩).2 := by rw [recvG, if_pos h3]
    rw [e] at hr ⊢
    rw [grOf_eq] at hr ⊢
    simp only [sendG, cls_tri]
    obtain ⟨l1, l2, l3, l4⟩ := collectCo_len ⟨cn, cr, cp, cdl, cps.to Int, css.to Bool, cv⟩ now ⟨mk, mf, mto, mn, mv, me, ml.to Int, mb.to Byte⟩
    refine ⟨⟨hc1, hc2⟩, fun hs => ⟨⟨hf, by omega, D.like_is _ _, ?_⟩, fun hs1 => ?_⟩⟩
    · rw [like_len]; exact Nat.le_trans l3 (by omega)
    · refine ret_cells ?_
      repeat' first
      | exact .nil
      | refine .cons ?_ ?_
      | exact rfl
      | exact fun _ => rfl
      | exact lst_ok stands_like
      | exact lst_ok (stands_self (by assumption))
      | exact lst_ok (by rw [D.like_to]; exact stands_like)
      | exact bool_ok (by rw [hr.2, Bool.and_true])
      | fail
  · have h0 : mto < 0 := of_decide_eq_true h0
    have e : recvG (grOf (CV.int cn :: CV.int cr :: CV.int cp :: CV.int cdl :: CV.dat cps :: CV.dat css :: CV.bool cv :: CV.int p1 :: CV.int p2 :: CV.int p3 :: CV.int p4 :: CV.bool pf :: CV.int p6 :: CV.dat pw :: CV.dat ph :: CV.int q1 :: CV.int q2 :: CV.int q3 :: CV.int q4 :: CV.bool qf :: CV.int q6 :: CV.dat qw :: CV.dat qh :: CV.int r1 :: CV.int r2 :: CV.int r3 :: CV.int r4 :: CV.bool rf :: CV.int r6 :: CV.dat rw :: CV.dat rh :: CV.dat fl :: CV.dat wa :: CV.dat wb :: CV.dat wc :: CV.int now :: CV.int clk :: CV.bool rt :: CV.int st :: [])) ⟨mk, mf, mto, mn, mv, me, ml.to Int, mb.to Byte⟩ = { grOf (CV.int cn :: CV.int cr :: CV.int cp :: CV.int cdl :: CV.dat cps :: CV.dat css :: CV.bool cv :: CV.int p1 :: CV.int p2 :: CV.int p3 :: CV.int p4 :: CV.bool pf :: CV.int p6 :: CV.dat pw :: CV.dat ph :: CV.int q1 :: CV.int q2 :: CV.int q3 :: CV.int q4 :: CV.bool qf :: CV.int q6 :: CV.dat qw :: CV.dat qh :: CV.int r1 :: CV.int r2 :: CV.int r3 :: CV.int r4 :: CV.bool rf :: CV.int r6 :: CV.dat rw :: CV.dat rh :: CV.dat fl :: CV.dat wa :: CV.dat wb :: CV.dat wc :: CV.int now :: CV.int clk :: CV.bool rt :: CV.int st :: []) with right := false } := by rw [recvG, if_neg (by simp only; omega), if_neg (by simp only; omega), if_neg (by simp only; omega), if_neg (by simp only; omega)]
    rw [e] at hr
    cases hr
  · have h4 : mto > 3 := of_decide_eq_true h4
    have e : recvG (grOf (CV.int cn :: CV.int cr :: CV.int cp :: CV.int cdl :: CV.dat cps :: CV.dat css :: CV.bool cv :: CV.int p1 :: CV.int p2 :: CV.int p3 :: CV.int p4 :: CV.bool pf :: CV.int p6 :: CV.dat pw :: CV.dat ph :: CV.int q1 :: CV.int q2 :: CV.int q3 :: CV.int q4 :: CV.bool qf :: CV.int q6 :: CV.dat qw :: CV.dat qh :: CV.int r1 :: CV.int r2 :: CV.int r3 :: CV.int r4 :: CV.bool rf :: CV.int r6 :: CV.dat rw :: CV.dat rh :: CV.dat fl :: CV.dat wa :: CV.dat wb :: CV.dat wc :: CV.int now :: CV.int clk :: CV.bool rt :: CV.int st :: [])) ⟨mk, mf, mto, mn, mv, me, ml.to Int, mb.to Byte⟩ = { grOf (CV.int cn :: CV.int cr :: CV.int cp :: CV.int cdl :: CV.dat cps :: CV.dat css :: CV.bool cv :: CV.int p1 :: CV.int p2 :: CV.int p3 :: CV.int p4 :: CV.bool pf :: CV.int p6 :: CV.dat pw :: CV.dat ph :: CV.int q1 :: CV.int q2 :: CV.int q3 :: CV.int q4 :: CV.bool qf :: CV.int q6 :: CV.dat qw :: CV.dat qh :: CV.int r1 :: CV.int r2 :: CV.int r3 :: CV.int r4 :: CV.bool rf :: CV.int r6 :: CV.dat rw :: CV.dat rh :: CV.dat fl :: CV.dat wa :: CV.dat wb :: CV.dat wc :: CV.int now :: CV.int clk :: CV.bool rt :: CV.int st :: []) with right := false } := by rw [recvG, if_neg (by simp only; omega), if_neg (by simp only; omega), if_neg (by simp only; omega), if_neg (by simp only; omega)]
    rw [e] at hr
    cases hr
  · have h3 : ¬mto = 3 := of_decide_eq_false h3
    have h0 : ¬mto < 0 := of_decide_eq_false h0
    have h4 : ¬mto > 3 := of_decide_eq_false h4
    have hm : mto = 0 ∨ mto = 1 ∨ mto = 2 := by omega
    rcases hm with rfl | rfl | rfl
    · exact recv0_run hR0 hr
    · exact recv1_run hR0 hr
    · exact recv2_run hR0 hr

theorem lawRecv : Law Try.prog 79 (((rdCells grK).two rdMsg).sp spRecv) := by
  refine law_in _ (by kernel_rfl) fun H w ⟨⟨cs, hsh⟩, ⟨mk, mf, mto, mn, mv, me, ml, mb⟩⟩ hok => ?_
  obtain ⟨cn, cr, cp, cdl, cps, css, cv, p1, p2, p3, p4, pf, p6, pw, ph, q1, q2, q3, q4, qf, q6, qw, qh, r1, r2, r3, r4, rf, r6, rw, rh, fl, wa, wb, wc, now, clk, rt, st, rfl⟩ := gr_shape hsh
  intro hp
  obtain ⟨h1, _, h2⟩ := hp _ (List.mem_singleton.2 rfl)
  exact recv_ent h1 h2
end Go.Proofs.Ytoechplbhbalaaa
end
section
/- Layer 21: the law of durable. -/
open Go Go.Proofs Sx
namespace Sx
theorem durG_nil {g : Gr} {i : Fin 3} {w : Int} (h : (g.node i).waiting.length = 0) : durG g i w = g := by
  unfold durG
  exact if_pos h
theorem durG_go {g : Gr} {i : Fin 3} {w : Int} {k : Nat} {x : Int} (h : ¬(g.node i).waiting.length = 0) (hk : (Int.tmod w (g.node i).waiting.length).toNat = k) (hx : (g.node i).waiting.getD k 0 = x) :
    durG g i w = if x < 0 ∨ x ≥ (g.wr i).length then { g with right := false } else
      ackG { g with wr := upd g.wr i ((g.wr i).set x.toNat { (g.wr i).getD x.toNat noWr with durable := g.clock }), node := upd g.node i (durMb (g.node i) x).1, right := g.right && decide ((durMb (g.node i) x).2.2 = 0) } i (durMb (g.node i) x).2.1 := by
  subst hk; subst hx
  unfold durG
  exact if_neg h
theorem wr_set2 {d : D} (hd : d.Is Wr) {i : Nat} (hi : i < (d.to Wr).length) (v : Int) :
    (d.setCells i 2 [.int .i64 v]).Is Wr ∧ (d.setCells i 2 [.int .i64 v]).to Wr = (d.to Wr).set i { (d.to Wr)[i] with durable := v } := by
  have hz := hd.size hi
  have hr := rows_of hd
  have hl := rows_len hr
  obtain ⟨r, h1, ⟨a, b, c, e, rfl⟩, h3⟩ := hd.row hi
  have hg : d.rows.getD i [] = [.int .i64 a, .int .i64 b, .int .i64 c, .int .i64 e] := by simp [h1]
  have hcut : cutIn (d.rows.getD i []) 2 [.int .i64 v] = [.int .i64 a, .int .i64 b, .int .i64 v, .int .i64 e] := by rw [hg]; rfl
  have := is_of (α := Wr) (h := d.hd) (s := d.sz) (rows := d.rows.set i [.int .i64 a, .int .i64 b, .int .i64 v, .int .i64 e]) (xs := (d.to Wr).set i ⟨a, b, v, e⟩) hz ⟨fun r hr' => by
    rcases List.mem_or_eq_of_mem_set hr' with h | h
    · exact hr.1 r h
    · rw [h]; exact ⟨_, _, _, _, rfl⟩, by rw [List.map_set, hr.2]; rfl⟩
  unfold D.setCells
  rw [hcut, h3]
  exact this
end Sx
namespace Go.Proofs.Ytoechplbhbalaaa
set_option maxRecDepth 100000
set_option maxHeartbeats 0

theorem dur0_ent {w : World} {H : HV} {cn cr cp cdl : Int} {cps css : D} {cv : Bool} {p1 p2 p3 p4 : Int} {pf : Bool} {p6 : Int} {pw ph : D} {q1 q2 q3 q4 : Int} {qf : Bool} {q6 : Int} {qw qh : D} {r1 r2 r3 r4 : Int} {rf : Bool} {r6 : Int} {rw rh : D} {fl wa wb wc : D} {now clk : Int} {rt : Bool} {st : Int} {ew : Int} (hew : U8 ew) (hR : GrRight (CV.int cn :: CV.int cr :: CV.int cp :: CV.int cdl :: CV.dat cps :: CV.dat css :: CV.bool cv :: CV.int p1 :: CV.int p2 :: CV.int p3 :: CV.int p4 :: CV.bool pf :: CV.int p6 :: CV.dat pw :: CV.dat ph :: CV.int q1 :: CV.int q2 :: CV.int q3 :: CV.int q4 :: CV.bool qf :: CV.int q6 :: CV.dat qw :: CV.dat qh :: CV.int r1 :: CV.int r2 :: CV.int r3 :: CV.int r4 :: CV.bool rf :: CV.int r6 :: CV.dat rw :: CV.dat rh :: CV.dat fl :: CV.dat wa :: CV.dat wb :: CV.dat wc :: CV.int now :: CV.int clk :: CV.bool rt :: CV.int st :: [])) (hr : (durG (grOf (CV.int cn :: CV.int cr :: CV.int cp :: CV.int cdl :: CV.dat cps :: CV.dat css :: CV.bool cv :: CV.int p1 :: CV.int p2 :: CV.int p3 :: CV.int p4 :: CV.bool pf :: CV.int p6 :: CV.dat pw :: CV.dat ph :: CV.int q1 :: CV.int q2 :: CV.int q3 :: CV.int q4 :: CV.bool qf :: CV.int q6 :: CV.dat qw :: CV.dat qh :: CV.int r1 :: CV.int r2 :: CV.int r3 :: CV.int r4 :: CV.bool rf :: CV.int r6 :: CV.dat rw :: CV.dat rh :: CV.dat fl :: CV.dat wa :: CV.dat wb :: CV.dat wc :: CV.int now :: CV.int clk :: CV.bool rt :: CV.int st :: [])) 0 ew).right = true) :
    Runs Try.prog ⟨w, H⟩ (entry Try.prog 76 [.agg [.int .i64 cn, .int .i64 cr, .int .i64 cp, .int .i64 cdl, .dat cps, .dat css, .bool cv, .int .i64 p1, .int .i64 p2, .int .i64 p3, .int .i64 p4, .bool pf, .int .i64 p6, .dat pw, .dat ph, .int .i64 q1, .int .i64 q2, .int .i64 q3, .int .i64 q4, .bool qf, .int .i64 q6, .dat qw, .dat qh, .int .i64 r1, .int .i64 r2, .int .i64 r3, .int .i64 r4, .bool rf, .int .i64 r6, .dat rw, .dat rh, .dat fl, .dat wa, .dat wb, .dat wc, .int .i64 now, .int .i64 clk, .bool rt, .int .i64 st], .int .i64 0, .int .u8 ew]) (RetD w H fun ds => .agg (svOf ds 0 (durG (grOf (CV.int cn :: CV.int cr :: CV.int cp :: CV.int cdl :: CV.dat cps :: CV.dat css :: CV.bool cv :: CV.int p1 :: CV.int p2 :: CV.int p3 :: CV.int p4 :: CV.bool pf :: CV.int p6 :: CV.dat pw :: CV.dat ph :: CV.int q1 :: CV.int q2 :: CV.int q3 :: CV.int q4 :: CV.bool qf :: CV.int q6 :: CV.dat qw :: CV.dat qh :: CV.int r1 :: CV.int r2 :: CV.int r3 :: CV.int r4 :: CV.bool rf :: CV.int r6 :: CV.dat rw :: CV.dat rh :: CV.dat fl :: CV.dat wa :: CV.dat wb :: CV.dat wc :: CV.int now :: CV.int clk :: CV.bool rt :: CV.int st :: [])) 0 ew).cls)) := by
  have hR0 := hR
  rw [grRight_eq] at hR
  obtain ⟨⟨hc1, hc2⟩, hp, hq, hr', ⟨hf, hfl⟩, ⟨ha, hal⟩, ⟨hb, hbl⟩, ⟨hcc, hcl⟩⟩ := hR
  have hx0 := hp
  have hp' := hp; have hq' := hq; have hr2 := hr'
  obtain ⟨hpw, hph, hpl, hpm⟩ := hp'
  obtain ⟨hqw, hqh, hql, hqm⟩ := hq'
  obtain ⟨hrw, hrh, hrl, hrm⟩ := hr2
  simp only at hpw hph hpl hpm hqw hqh hql hqm hrw hrh hrl hrm
  have hwi : wa.Is Wr := ha
  have l1 := D.Is.length (α := Int) pw
  have l2 := D.Is.length (α := Wr) wa
  have l3 := D.Is.length (α := Int) ph
  apply exec_sound ctGOk 900
  rw [durg0_in]
  have nn : (0 : Int) ≤ 0 ∧ (0 : Int) < ((3 : Nat) : Int) := by omega
  have e1 : IntKind.i64.wrap ew = ew := wrap64 (by have := hew.1; omega) (by have := hew.2; omega)
  rw [e1]
  refine ⟨nn, fun h0 => ?_, fun h0 hs => ?_⟩
  · have h0 : (((pw.len : Nat)) : Int) = 0 := of_decide_eq_true h0
    have e : durG (grOf (CV.int cn :: CV.int cr :: CV.int cp :: CV.int cdl :: CV.dat cps :: CV.dat css :: CV.bool cv :: CV.int p1 :: CV.int p2 :: CV.int p3 :: CV.int p4 :: CV.bool pf :: CV.int p6 :: CV.dat pw :: CV.dat ph :: CV.int q1 :: CV.int q2 :: CV.int q3 :: CV.int q4 :: CV.bool qf :: CV.int q6 :: CV.dat qw :: CV.dat qh :: CV.int r1 :: CV.int r2 :: CV.int r3 :: CV.int r4 :: CV.bool rf :: CV.int r6 :: CV.dat rw :: CV.dat rh :: CV.dat fl :: CV.dat wa :: CV.dat wb :: CV.dat wc :: CV.int now :: CV.int clk :: CV.bool rt :: CV.int st :: [])) 0 ew = (grOf (CV.int cn :: CV.int cr :: CV.int cp :: CV.int cdl :: CV.dat cps :: CV.dat css :: CV.bool cv :: CV.int p1 :: CV.int p2 :: CV.int p3 :: CV.int p4 :: CV.bool pf :: CV.int p6 :: CV.dat pw :: CV.dat ph :: CV.int q1 :: CV.int q2 :: CV.int q3 :: CV.int q4 :: CV.bool qf :: CV.int q6 :: CV.dat qw :: CV.dat qh :: CV.int r1 :: CV.int r2 :: CV.int r3 :: CV.int r4 :: CV.bool rf :: CV.int r6 :: CV.dat rw :: CV.dat rh :: CV.dat fl :: CV.dat wa :: CV.dat wb :: CV.dat wc :: CV.int now :: CV.int clk :: CV.bool rt :: CV.int st :: [])) := durG_nil (by rw [grOf_eq]; simp only [tri_0, tri_1, tri_2]; omega)
    rw [e, grOf_eq, cls_tri]
    have hr : True ∧ True := ⟨trivial, trivial⟩
    refine ret_cells ?_
    repeat' first
    | exact .nil
    | refine .cons ?_ ?_
    | exact rfl
    | exact fun _ => rfl
    | exact lst_ok stands_like
    | exact lst_ok (stands_self (by assumption))
    | exact lst_ok (by rw [D.like_to]; exact stands_like)
    | exact bool_ok (by rw [hr.2, Bool.and_true])
    | fail
  · have h0 : ¬(((pw.len : Nat)) : Int) = 0 := of_decide_eq_false h0
    have hlp : 0 < (pw.to Int).length := by omega
    have t0 : 0 ≤ Int.tmod ew pw.len := Int.tmod_nonneg _ hew.1
    have t1 : Int.tmod ew pw.len < pw.len := Int.tmod_lt_of_pos _ (by omega)
    obtain ⟨k, hk⟩ : ∃ k : Nat, Int.tmod ew pw.len = k := ⟨(Int.tmod ew pw.len).toNat, by omega⟩
    have hkl : k < (pw.to Int).length := by omega
    obtain ⟨c1, c2, c3⟩ := int_at hpw hkl
    rw [hk, c3]
    obtain ⟨x, hx⟩ : ∃ x, (pw.to Int)[k] = x := ⟨_, rfl⟩
    rw [hx]
    have hk2 : (Int.tmod ew ((pw.to Int).length : Int)).toNat = k := by rw [← l1, hk]; rfl
    have hg : (pw.to Int).getD k 0 = x := by rw [← hx]; simp [hkl]
    have hd : durG (grOf (CV.int cn :: CV.int cr :: CV.int cp :: CV.int cdl :: CV.dat cps :: CV.dat css :: CV.bool cv :: CV.int p1 :: CV.int p2 :: CV.int p3 :: CV.int p4 :: CV.bool pf :: CV.int p6 :: CV.dat pw :: CV.dat ph :: CV.int q1 :: CV.int q2 :: CV.int q3 :: CV.int q4 :: CV.bool qf :: CV.int q6 :: CV.dat qw :: CV.dat qh :: CV.int r1 :: CV.int r2 :: CV.int r3 :: CV.int r4 :: CV.bool rf :: CV.int r6 :: CV.dat rw :: CV.dat rh :: CV.dat fl :: CV.dat wa :: CV.dat wb :: CV.dat wc :: CV.int now :: CV.int clk :: CV.bool rt :: CV.int st :: [])) 0 ew = if x < 0 ∨ x ≥ (((grOf (CV.int cn :: CV.int cr :: CV.int cp :: CV.int cdl :: CV.dat cps :: CV.dat css :: CV.bool cv :: CV.int p1 :: CV.int p2 :: CV.int p3 :: CV.int p4 :: CV.bool pf :: CV.int p6 :: CV.dat pw :: CV.dat ph :: CV.int q1 :: CV.int q2 :: CV.int q3 :: CV.int q4 :: CV.bool qf :: CV.int q6 :: CV.dat qw :: CV.dat qh :: CV.int r1 :: CV.int r2 :: CV.int r3 :: CV.int r4 :: CV.bool rf :: CV.int r6 :: CV.dat rw :: CV.dat rh :: CV.dat fl :: CV.dat wa :: CV.dat wb :: CV.dat wc :: CV.int now :: CV.int clk :: CV.bool rt :: CV.int st :: [])).wr 0).length : Int) then { (grOf (CV.int cn :: CV.int cr :: CV.int cp :: CV.int cdl :: CV.dat cps :: CV.dat css :: CV.bool cv :: CV.int p1 :: CV.int p2 :: CV.int p3 :: CV.int p4 :: CV.bool pf :: CV.int p6 :: CV.dat pw :: CV.dat ph :: CV.int q1 :: CV.int q2 :: CV.int q3 :: CV.int q4 :: CV.bool qf :: CV.int q6 :: CV.dat qw :: CV.dat qh :: CV.int r1 :: CV.int r2 :: CV.int r3 :: CV.int r4 :: CV.bool rf :: CV.int r6 :: CV.dat rw :: CV.dat rh :: CV.dat fl :: CV.dat wa :: CV.dat wb :: CV.dat wc :: CV.int now :: CV.int clk :: CV.bool rt :: CV.int st :: [])) with right := false } else
        ackG { (grOf (CV.int cn :: CV.int cr :: CV.int cp :: CV.int cdl :: CV.dat cps :: CV.dat css :: CV.bool cv :: CV.int p1 :: CV.int p2 :: CV.int p3 :: CV.int p4 :: CV.bool pf :: CV.int p6 :: CV.dat pw :: CV.dat ph :: CV.int q1 :: CV.int q2 :: CV.int q3 :: CV.int q4 :: CV.bool qf :: CV.int q6 :: CV.dat qw :: CV.dat qh :: CV.int r1 :: CV.int r2 :: CV.int r3 :: CV.int r4 :: CV.bool rf :: CV.int r6 :: CV.dat rw :: CV.dat rh :: CV.dat fl :: CV.dat wa :: CV.dat wb :: CV.dat wc :: CV.int now :: CV.int clk :: CV.bool rt :: CV.int st :: [])) with wr := upd ((grOf (CV.int cn :: CV.int cr :: CV.int cp :: CV.int cdl :: CV.dat cps :: CV.dat css :: CV.bool cv :: CV.int p1 :: CV.int p2 :: CV.int p3 :: CV.int p4 :: CV.bool pf :: CV.int p6 :: CV.dat pw :: CV.dat ph :: CV.int q1 :: CV.int q2 :: CV.int q3 :: CV.int q4 :: CV.bool qf :: CV.int q6 :: CV.dat qw :: CV.dat qh :: CV.int r1 :: CV.int r2 :: CV.int r3 :: CV.int r4 :: CV.bool rf :: CV.int r6 :: CV.dat rw :: CV.dat rh :: CV.dat fl :: CV.dat wa :: CV.dat wb :: CV.dat wc :: CV.int now :: CV.int clk :: CV.bool rt :: CV.int st :: []))).wr 0 (((grOf (CV.int cn :: CV.int cr :: CV.int cp :: CV.int cdl :: CV.dat cps :: CV.dat css :: CV.bool cv :: CV.int p1 :: CV.int p2 :: CV.int p3 :: CV.int p4 :: CV.bool pf :: CV.int p6 :: CV.dat pw :: CV.dat ph :: CV.int q1 :: CV.int q2 :: CV.int q3 :: CV.int q4 :: CV.bool qf :: CV.int q6 :: CV.dat qw :: CV.dat qh :: CV.int r1 :: CV.int r2 :: CV.int r3 :: CV.int r4 :: CV.bool rf :: CV.int r6 :: CV.dat rw :: CV.dat rh :: CV.dat fl :: CV.dat wa :: CV.dat wb :: CV.dat wc :: CV.int now :: CV.int clk :: CV.bool rt :: CV.int st :: [])).wr 0).set x.toNat { ((grOf (CV.int cn :: CV.int cr :: CV.int cp :: CV.int cdl :: CV.dat cps :: CV.dat css :: CV.bool cv :: CV.int p1 :: CV.int p2 :: CV.int p3 :: CV.int p4 :: CV.bool pf :: CV.int p6 :: CV.dat pw :: CV.dat ph :: CV.int q1 :: CV.int q2 :: CV.int q3 :: CV.int q4 :: CV.bool qf :: CV.int q6 :: CV.dat qw :: CV.dat qh :: CV.int r1 :: CV.int r2 :: CV.int r3 :: CV.int r4 :: CV.bool rf :: CV.int r6 :: CV.dat rw :: CV.dat rh :: CV.dat fl :: CV.dat wa :: CV.dat wb :: CV.dat wc :: CV.int now :: CV.int clk :: CV.bool rt :: CV.int st :: [])).wr 0).getD x.toNat noWr with durable := (grOf (CV.int cn :: CV.int cr :: CV.int cp :: CV.int cdl :: CV.dat cps :: CV.dat css :: CV.bool cv :: CV.int p1 :: CV.int p2 :: CV.int p3 :: CV.int p4 :: CV.bool pf :: CV.int p6 :: CV.dat pw :: CV.dat ph :: CV.int q1 :: CV.int q2 :: CV.int q3 :: CV.int q4 :: CV.bool qf :: CV.int q6 :: CV.dat qw :: CV.dat qh :: CV.int r1 :: CV.int r2 :: CV.int r3 :: CV.int r4 :: CV.bool rf :: CV.int r6 :: CV.dat rw :: CV.dat rh :: CV.dat fl :: CV.dat wa :: CV.dat wb :: CV.dat wc :: CV.int now :: CV.int clk :: CV.bool rt :: CV.int st :: [])).clock }), node := upd ((grOf (CV.int cn :: CV.int cr :: CV.int cp :: CV.int cdl :: CV.dat cps :: CV.dat css :: CV.bool cv :: CV.int p1 :: CV.int p2 :: CV.int p3 :: CV.int p4 :: CV.bool pf :: CV.int p6 :: CV.dat pw :: CV.dat ph :: CV.int q1 :: CV.int q2 :: CV.int q3 :: CV.int q4 :: CV.bool qf :: CV.int q6 :: CV.dat qw :: CV.dat qh :: CV.int r1 :: CV.int r2 :: CV.int r3 :: CV.int r4 :: CV.bool rf :: CV.int r6 :: CV.dat rw :: CV.dat rh :: CV.dat fl :: CV.dat wa :: CV.dat wb :: CV.dat wc :: CV.int now :: CV.int clk :: CV.bool rt :: CV.int st :: []))).node 0 (durMb ((grOf (CV.int cn :: CV.int cr :: CV.int cp :: CV.int cdl :: CV.dat cps :: CV.dat css :: CV.bool cv :: CV.int p1 :: CV.int p2 :: CV.int p3 :: CV.int p4 :: CV.bool pf :: CV.int p6 :: CV.dat pw :: CV.dat ph :: CV.int q1 :: CV.int q2 :: CV.int q3 :: CV.int q4 :: CV.bool qf :: CV.int q6 :: CV.dat qw :: CV.dat qh :: CV.int r1 :: CV.int r2 :: CV.int r3 :: CV.int r4 :: CV.bool rf :: CV.int r6 :: CV.dat rw :: CV.dat rh :: CV.dat fl :: CV.dat wa :: CV.dat wb :: CV.dat wc :: CV.int now :: CV.int clk :: CV.bool rt :: CV.int st :: [])).node 0) x).1, right := (grOf (CV.int cn :: CV.int cr :: CV.int cp :: CV.int cdl :: CV.dat cps :: CV.dat css :: CV.bool cv :: CV.int p1 :: CV.int p2 :: CV.int p3 :: CV.int p4 :: CV.bool pf :: CV.int p6 :: CV.dat pw :: CV.dat ph :: CV.int q1 :: CV.int q2 :: CV.int q3 :: CV.int q4 :: CV.bool qf :: CV.int q6 :: CV.dat qw :: CV.dat qh :: CV.int r1 :: CV.int r2 :: CV.int r3 :: CV.int r4 :: CV.bool rf :: CV.int r6 :: CV.dat rw :: CV.dat rh :: CV.dat fl :: CV.dat wa :: CV.dat wb :: CV.dat wc :: CV.int now :: CV.int clk :: CV.bool rt :: CV.int st :: [])).right && decide ((durMb ((grOf (CV.int cn :: CV.int cr :: CV.int cp :: CV.int cdl :: CV.dat cps :: CV.dat css :: CV.bool cv :: CV.int p1 :: CV.int p2 :: CV.int p3 :: CV.int p4 :: CV.bool pf :: CV.int p6 :: CV.dat pw :: CV.dat ph :: CV.int q1 :: CV.int q2 :: CV.int q3 :: CV.int q4 :: CV.bool qf :: CV.int q6 :: CV.dat qw :: CV.dat qh :: CV.int r1 :: CV.int r2 :: CV.int r3 :: CV.int r4 :: CV.bool rf :: CV.int r6 :: CV.dat rw :: CV.dat rh :: CV.dat fl :: CV.dat wa :: CV.dat wb :: CV.dat wc :: CV.int now :: CV.int clk :: CV.bool rt :: CV.int st :: [])).node 0) x).2.2 = 0) } 0 (durMb ((grOf (CV.int cn :: CV.int cr :: CV.int cp :: CV.int cdl :: CV.dat cps :: CV.dat css :: CV.bool cv :: CV.int p1 :: CV.int p2 :: CV.int p3 :: CV.int p4 :: CV.bool pf :: CV.int p6 :: CV.dat pw :: CV.dat ph :: CV.int q1 :: CV.int q2 :: CV.int q3 :: CV.int q4 :: CV.bool qf :: CV.int q6 :: CV.dat qw :: CV.dat qh :: CV.int r1 :: CV.int r2 :: CV.int r3 :: CV.int r4 :: CV.bool rf :: CV.int r6 :: CV.dat rw :: CV.dat rh :: CV.dat fl :: CV.dat wa :: CV.dat wb :: CV.dat wc :: CV.int now :: CV.int clk :: CV.bool rt :: CV.int st :: [])).node 0) x).2.1 :=
      durG_go (k := k) (by rw [grOf_eq]; simp only [tri_0, tri_1, tri_2]; omega) (by rw [grOf_eq]; exact hk2) (by rw [grOf_eq]; exact hg)
    have hwn : (grOf (CV.int cn :: CV.int cr :: CV.int cp :: CV.int cdl :: CV.dat cps :: CV.dat css :: CV.bool cv :: CV.int p1 :: CV.int p2 :: CV.int p3 :: CV.int p4 :: CV.bool pf :: CV.int p6 :: CV.dat pw :: CV.dat ph :: CV.int q1 :: CV.int q2 :: CV.int q3 :: CV.int q4 :: CV.bool qf :: CV.int q6 :: CV.dat qw :: CV.dat qh :: CV.int r1 :: CV.int r2 :: CV.int r3 :: CV.int r4 :: CV.bool rf :: CV.int r6 :: CV.dat rw :: CV.dat rh :: CV.dat fl :: CV.dat wa :: CV.dat wb :: CV.dat wc :: CV.int now :: CV.int clk :: CV.bool rt :: CV.int st :: [])).wr 0 = wa.to Wr := by rw [grOf_eq]; rfl
    rw [hwn] at hd
    have hxr : 0 ≤ x ∧ x < ((wa.to Wr).length : Int) := by
      rw [hd] at hr
      split at hr
      · cases hr
      · omega
    rw [if_neg (by omega)] at hd
    rw [hd] at hr ⊢
    rw [grOf_eq] at hr ⊢
    simp only [ackG, tri_0, tri_1, tri_2, tri_upd0, tri_upd1, tri_upd2, Bool.and_eq_true] at hr
    simp only [ackG, tri_0, tri_1, tri_2, tri_upd0, tri_upd1, tri_upd2, cls_tri]
    obtain ⟨⟨hrt, he⟩, hX⟩ := hr
    have hkx : x.toNat < (wa.to Wr).length := by omega
    have hgw : (wa.to Wr).getD x.toNat noWr = (wa.to Wr)[x.toNat] := by simp [hkx]
    rw [hgw] at hX ⊢
    obtain ⟨o1, o2, o3⟩ := durMb_len ⟨p1, p2, p3, p4, pf, p6, pw.to Int, ph.to Int⟩ x
    simp only at o1 o2 o3
    have cpy := fun a b => copy_at (α := Wr) (s := 4) rfl hwi a b
    have cl : ∀ a b, (D.slc a 4 (List.append (D.rows (D.slc b 4 [])) (D.rows wa))).len = wa.len := fun a b => by rw [D.Is.length (α := Wr), (cpy a b).2, l2]
    have cs := fun a b => wr_set2 (cpy a b).1 (i := x.toNat) (by rw [(cpy a b).2]; exact hkx) clk
    have b1 : decide (x < 0) = false := decide_eq_false (by omega)
    have b2 : decide (x ≥ (wa.len : Int)) = false := decide_eq_false (by omega)
    rw [b1, b2]
    have cto : ∀ a b, D.to Wr (D.setCells (D.slc a 4 (List.append (D.rows (D.slc b 4 [])) (D.rows wa))) x.toNat 2 [D.int .i64 clk]) = (wa.to Wr).set x.toNat ⟨((wa.to Wr)[x.toNat]).issued, ((wa.to Wr)[x.toNat]).acked, clk, ((wa.to Wr)[x.toNat]).times⟩ := fun a b => by
      rw [(cs a b).2]; simp only [(cpy a b).2]
    refine ⟨nn, nn, h0, ⟨by omega, by omega, c1.2.2⟩, c2, fun h => absurd h (by decide), fun _ => ⟨nn, fun h => absurd h (by decide), fun _ hs1 => ⟨nn, ⟨rfl, hwi.fits, by simp only [len_slc, List.length_nil]; omega, by simp only [len_slc, List.length_nil]; omega⟩, fun hs2 => ⟨nn, fun hs3 => ⟨nn, ⟨hxr.1, by rw [cl]; omega, rfl⟩, ⟨by rw [cl]; omega, (by decide : 3 ≤ 4), rfl⟩, nn, hx0, fun hs4 => ⟨fun _ => ⟨nn, ⟨(cs _ _).1, ?_, D.like_is _ _, ?_, ?_⟩, fun hs5 => ?_⟩, fun h => absurd (hrt.symm.trans h) (by decide)⟩⟩⟩⟩⟩⟩
    · rw [D.Is.length (α := Wr), cto, List.length_set]; omega
    · rw [like_len]; exact Nat.le_trans o3 (by omega)
    · rw [D.like_to, cto]; exact hX
    · have hr := And.intro hrt hX
      refine ret_cells ?_
      repeat' first
      | exact .nil
      | refine .cons ?_ ?_
      | exact rfl
      | exact fun _ => rfl
      | exact lst_ok stands_like
      | exact lst_ok (stands_self (by assumption))
      | exact lst_ok (by rw [D.like_to, cto]; exact stands_like)
      | exact bool_ok (by rw [hX, hrt, Bool.and_true, Bool.true_and]; rfl)
      | fail

theorem dur1_ent {w : World} {H : HV} {cn cr cp cdl : Int} {cps css : D} {cv : Bool} {p1 p2 p3 p4 : Int} {pf : Bool} {p6 : Int} {pw ph : D} {q1 q2 q3 q4 : Int} {qf : Bool} {q6 : Int} {qw qh : D} {r1 r2 r3 r4 : Int} {rf : Bool} {r6 : Int} {rw rh : D} {fl wa wb wc : D} {now clk : Int} {rt : Bool} {st : Int} {ew : Int} (hew : U8 ew) (hR : GrRight (CV.int cn :: CV.int cr :: CV.int cp :: CV.int cdl :: CV.dat cps :: CV.dat css :: CV.bool cv :: CV.int p1 :: CV.int p2 :: CV.int p3 :: CV.int p4 :: CV.bool pf :: CV.int p6 :: CV.dat pw :: CV.dat ph :: CV.int q1 :: CV.int q2 :: CV.int q3 :: CV.int q4 :: CV.bool qf :: CV.int q6 :: CV.dat qw :: CV.dat qh :: CV.int r1 :: CV.int r2 :: CV.int r3 :: CV.int r4 :: CV.bool rf :: CV.int r6 :: CV.dat rw :: CV.dat rh :: CV.dat fl :: CV.dat wa :: CV.dat wb :: CV.dat wc :: CV.int now :: CV.int clk :: CV.bool rt :: CV.int st :: [])) (hr : (durG (grOf (CV.int cn :: CV.int cr :: CV.int cp :: CV.int cdl :: CV.dat cps :: CV.dat css :: CV.bool cv :: CV.int p1 :: CV.int p2 :: CV.int p3 :: CV.int p4 :: CV.bool pf :: CV.int p6 :: CV.dat pw :: CV.dat ph :: CV.int q1 :: CV.int q2 :: CV.int q3 :: CV.int q4 :: CV.bool qf :: CV.int q6 :: CV.dat qw :: CV.dat qh :: CV.int r1 :: CV.int r2 :: CV.int r3 :: CV.int r4 :: CV.bool rf :: CV.int r6 :: CV.dat rw :: CV.dat rh :: CV.dat fl :: CV.dat wa :: CV.dat wb :: CV.dat wc :: CV.int now :: CV.int clk :: CV.bool rt :: CV.int st :: [])) 1 ew).right = true) :
    Runs Try.prog ⟨w, H⟩ (entry Try.prog 76 [.agg [.int .i64 cn, .int .i64 cr, .int .i64 cp, .int .i64 cdl, .dat cps, .dat css, .bool cv, .int .i64 p1, .int .i64 p2, .int .i64 p3, .int .i64 p4, .bool pf, .int .i64 p6, .dat pw, .dat ph, .int .i64 q1, .int .i64 q2, .int .i64 q3, .int .i64 q4, .bool qf, .int .i64 q6, .dat qw, .dat qh, .int .i64 r1, .int .i64 r2, .int .i64 r3, .int .i64 r4, .bool rf, .int .i64 r6, .dat rw, .dat rh, .dat fl, .dat wa, .dat wb, .dat wc, .int .i64 now, .int .i64 clk, .bool rt, .int .i64 st], .int .i64 1, .int .u8 ew]) (RetD w H fun ds => .agg (svOf ds 0 (durG (grOf (CV.int cn :: CV.int cr :: CV.int cp :: CV.int cdl :: CV.dat cps :: CV.dat css :: CV.bool cv :: CV.int p1 :: CV.int p2 :: CV.int p3 :: CV.int p4 :: CV.bool pf :: CV.int p6 :: CV.dat pw :: CV.dat ph :: CV.int q1 :: CV.int q2 :: CV.int q3 :: CV.int q4 :: CV.bool qf :: CV.int q6 :: CV.dat qw :: CV.dat qh :: CV.int r1 :: CV.int r2 :: CV.int r3 :: CV.int r4 :: CV.bool rf :: CV.int r6 :: CV.dat rw :: CV.dat rh :: CV.dat fl :: CV.dat wa :: CV.dat wb :: CV.dat wc :: CV.int now :: CV.int clk :: CV.bool rt :: CV.int st :: [])) 1 ew).cls)) := by
  have hR0 := hR
  rw [grRight_eq] at hR
  obtain ⟨⟨hc1, hc2⟩, hp, hq, hr', ⟨hf, hfl⟩, ⟨ha, hal⟩, ⟨hb, hbl⟩, ⟨hcc, hcl⟩⟩ := hR
  have hx0 := hq
  have hp' := hp; have hq' := hq; have hr2 := hr'
  obtain ⟨hpw, hph, hpl, hpm⟩ := hp'
  obtain ⟨hqw, hqh, hql, hqm⟩ := hq'
  obtain ⟨hrw, hrh, hrl, hrm⟩ := hr2
  simp only at hpw hph hpl hpm hqw hqh hql hqm hrw hrh hrl hrm
  have hwi : wb.Is Wr := hb
  have l1 := D.Is.length (α := Int) qw
  have l2 := D.Is.length (α := Wr) wb
  have l3 := D.Is.length (α := Int) qh
  apply exec_sound ctGOk 900
  rw [durg1_in]
  have nn : (0 : Int) ≤ 1 ∧ (1 : Int) < ((3 : Nat) : Int) := by omega
  have e1 : IntKind.i64.wrap ew = ew := wrap64 (by have := hew.1; omega) (by have := hew.2; omega)
  rw [e1]
  refine ⟨nn, fun h0 => ?_, fun h0 hs => ?_⟩
  · have h0 : (((qw.len : Nat)) : Int) = 0 := of_decide_eq_true h0
    have e : durG (grOf (CV.int cn :: CV.int cr :: CV.int cp :: CV.int cdl :: CV.dat cps :: CV.dat css :: CV.bool cv :: CV.int p1 :: CV.int p2 :: CV.int p3 :: CV.int p4 :: CV.bool pf :: CV.int p6 :: CV.dat pw :: CV.dat ph :: CV.int q1 :: CV.int q2 :: CV.int q3 :: CV.int q4 :: CV.bool qf :: CV.int q6 :: CV.dat qw :: CV.dat qh :: CV.int r1 :: CV.int r2 :: CV.int r3 :: CV.int r4 :: CV.bool rf :: CV.int r6 :: CV.dat rw :: CV.dat rh :: CV.dat fl :: CV.dat wa :: CV.dat wb :: CV.dat wc :: CV.int now :: CV.int clk :: CV.bool rt :: CV.int st :: [])) 1 ew = (grOf (CV.int cn :: CV.int cr :: CV.int cp :: CV.int cdl :: CV.dat cps :: CV.dat css :: CV.bool cv :: CV.int p1 :: CV.int p2 :: CV.int p3 :: CV.int p4 :: CV.bool pf :: CV.int p6 :: CV.dat pw :: CV.dat ph :: CV.int q1 :: CV.int q2 :: CV.int q3 :: CV.int q4 :: CV.bool qf :: CV.int q6 :: CV.dat qw :: CV.dat qh :: CV.int r1 :: CV.int r2 :: CV.int r3 :: CV.int r4 :: CV.bool rf :: CV.int r6 :: CV.dat rw :: CV.dat rh :: CV.dat fl :: CV.dat wa :: CV.dat wb :: CV.dat wc :: CV.int now :: CV.int clk :: CV.bool rt :: CV.int st :: [])) := durG_nil (by rw [grOf_eq]; simp only [tri_0, tri_1, tri_2]; omega)
    rw [e, grOf_eq, cls_tri]
    have hr : True ∧ True := ⟨trivial, trivial⟩
    refine ret_cells ?_
    repeat' first
    | exact .nil
    | refine .cons ?_ ?_
    | exact rfl
    | exact fun _ => rfl
    | exact lst_ok stands_like
    | exact lst_ok (stands_self (by assumption))
    | exact lst_ok (by rw [D.like_to]; exact stands_like)
    | exact bool_ok (by rw [hr.2, Bool.and_true])
    | fail
  · have h0 : ¬(((qw.len : Nat)) : Int) = 0 := of_decide_eq_false h0
    have hlp : 0 < (qw.to Int).length := by omega
    have t0 : 0 ≤ Int.tmod ew qw.len := Int.tmod_nonneg _ hew.1
    have t1 : Int.tmod ew qw.len < qw.len := Int.tmod_lt_of_pos _ (by omega)
    obtain ⟨k, hk⟩ : ∃ k : Nat, Int.tmod ew qw.len = k := ⟨(Int.tmod ew qw.len).toNat, by omega⟩
    have hkl : k < (qw.to Int).length := by omega
    obtain ⟨c1, c2, c3⟩ := int_at hqw hkl
    rw [hk, c3]
    obtain ⟨x, hx⟩ : ∃ x, (qw.to Int)[k] = x := ⟨_, rfl⟩
    rw [hx]
    have hk2 : (Int.tmod ew ((qw.to Int).length : Int)).toNat = k := by rw [← l1, hk]; rfl
    have hg : (qw.to Int).getD k 0 = x := by rw [← hx]; simp [hkl]
    have hd : durG (grOf (CV.int cn :: CV.int cr :: CV.int cp :: CV.int cdl :: CV.dat cps :: CV.dat css :: CV.bool cv :: CV.int p1 :: CV.int p2 :: CV.int p3 :: CV.int p4 :: CV.bool pf :: CV.int p6 :: CV.dat pw :: CV.dat ph :: CV.int q1 :: CV.int q2 :: CV.int q3 :: CV.int q4 :: CV.bool qf :: CV.int q6 :: CV.dat qw :: CV.dat qh :: CV.int r1 :: CV.int r2 :: CV.int r3 :: CV.int r4 :: CV.bool rf :: CV.int r6 :: CV.dat rw :: CV.dat rh :: CV.dat fl :: CV.dat wa :: CV.dat wb :: CV.dat wc :: CV.int now :: CV.int clk :: CV.bool rt :: CV.int st :: [])) 1 ew = if x < 0 ∨ x ≥ (((grOf (CV.int cn :: CV.int cr :: CV.int cp :: CV.int cdl :: CV.dat cps :: CV.dat css :: CV.bool cv :: CV.int p1 :: CV.int p2 :: CV.int p3 :: CV.int p4 :: CV.bool pf :: CV.int p6 :: CV.dat pw :: CV.dat ph :: CV.int q1 :: CV.int q2 :: CV.int q3 :: CV.int q4 :: CV.bool qf :: CV.int q6 :: CV.dat qw :: CV.dat qh :: CV.int r1 :: CV.int r2 :: CV.int r3 :: CV.int r4 :: CV.bool rf :: CV.int r6 :: CV.dat rw :: CV.dat rh :: CV.dat fl :: CV.dat wa :: CV.dat wb :: CV.dat wc :: CV.int now :: CV.int clk :: CV.bool rt :: CV.int st :: [])).wr 1).length : Int) then { (grOf (CV.int cn :: CV.int cr :: CV.int cp :: CV.int cdl :: CV.dat cps :: CV.dat css :: CV.bool cv :: CV.int p1 :: CV.int p2 :: CV.int p3 :: CV.int p4 :: CV.bool pf :: CV.int p6 :: CV.dat pw :: CV.dat ph :: CV.int q1 :: CV.int q2 :: CV.int q3 :: CV.int q4 :: CV.bool qf :: CV.int q6 :: CV.dat qw :: CV.dat qh :: CV.int r1 :: CV.int r2 :: CV.int r3 :: CV.int r4 :: CV.bool rf :: CV.int r6 :: CV.dat rw :: CV.dat rh :: CV.dat fl :: CV.dat wa :: CV.dat wb :: CV.dat wc :: CV.int now :: CV.int clk :: CV.bool rt :: CV.int st :: [])) with right := false } else
        ackG { (grOf (CV.int cn :: CV.int cr :: CV.int cp :: CV.int cdl :: CV.dat cps :: CV.dat css :: CV.bool cv :: CV.int p1 :: CV.int p2 :: CV.int p3 :: CV.int p4 :: CV.bool pf :: CV.int p6 :: CV.dat pw :: CV.dat ph :: CV.int q1 :: CV.int q2 :: CV.int q3 :: CV.int q4 :: CV.bool qf :: CV.int q6 :: CV.dat qw :: CV.dat qh :: CV.int r1 :: CV.int r2 :: CV.int r3 :: CV.int r4 :: CV.bool rf :: CV.int r6 :: CV.dat rw :: CV.dat rh :: CV.dat fl :: CV.dat wa :: CV.dat wb :: CV.dat wc :: CV.int now :: CV.int clk :: CV.bool rt :: CV.int st :: [])) with wr := upd ((grOf (CV.int cn :: CV.int cr :: CV.int cp :: CV.int cdl :: CV.dat cps :: CV.dat css :: CV.bool cv :: CV.int p1 :: CV.int p2 :: CV.int p3 :: CV.int p4 :: CV.bool pf :: CV.int p6 :: CV.dat pw :: CV.dat ph :: CV.int q1 :: CV.int q2 :: CV.int q3 :: CV.int q4 :: CV.bool qf :: CV.int q6 :: CV.dat qw :: CV.dat qh :: CV.int r1 :: CV.int r2 :: CV.int r3 :: CV.int r4 :: CV.bool rf :: CV.int r6 :: CV.dat rw :: CV.dat rh :: CV.dat fl :: CV.dat wa :: CV.dat wb :: CV.dat wc :: CV.int now :: CV.int clk :: CV.bool rt :: CV.int st :: []))).wr 1 (((grOf (CV.int cn :: CV.int cr :: CV.int cp :: CV.int cdl :: CV.dat cps :: CV.dat css :: CV.bool cv :: CV.int p1 :: CV.int p2 :: CV.int p3 :: CV.int p4 :: CV.bool pf :: CV.int p6 :: CV.dat pw :: CV.dat ph :: CV.int q1 :: CV.int q2 :: CV.int q3 :: CV.int q4 :: CV.bool qf :: CV.int q6 :: CV.dat qw :: CV.dat qh :: CV.int r1 :: CV.int r2 :: CV.int r3 :: CV.int r4 :: CV.bool rf :: CV.int r6 :: CV.dat rw :: CV.dat rh :: CV.dat fl :: CV.dat wa :: CV.dat wb :: CV.dat wc :: CV.int now :: CV.int clk :: CV.bool rt :: CV.int st :: [])).wr 1).set x.toNat { ((grOf (CV.int cn :: CV.int cr :: CV.int cp :: CV.int cdl :: CV.dat cps :: CV.dat css :: CV.bool cv :: CV.int p1 :: CV.int p2 :: CV.int p3 :: CV.int p4 :: CV.bool pf :: CV.int p6 :: CV.dat pw :: CV.dat ph :: CV.int q1 :: CV.int q2 :: CV.int q3 :: CV.int q4 :: CV.bool qf :: CV.int q6 :: CV.dat qw :: CV.dat qh :: CV.int r1 :: CV.int r2 :: CV.int r3 :: CV.int r4 :: CV.bool rf :: CV.int r6 :: CV.dat rw :: CV.dat rh :: CV.dat fl :: CV.dat wa :: CV.dat wb :: CV.dat wc :: CV.int now :: CV.int clk :: CV.bool rt :: CV.int st :: [])).wr 1).getD x.toNat noWr with durable := (grOf (CV.int cn :: CV.int cr :: CV.int cp :: CV.int cdl :: CV.dat cps :: CV.dat css :: CV.bool cv :: CV.int p1 :: CV.int p2 :: CV.int p3 :: CV.int p4 :: CV.bool pf :: CV.int p6 :: CV.dat pw :: CV.dat ph :: CV.int q1 :: CV.int q2 :: CV.int q3 :: CV.int q4 :: CV.bool qf :: CV.int q6 :: CV.dat qw :: CV.dat qh :: CV.int r1 :: CV.int r2 :: CV.int r3 :: CV.int r4 :: CV.bool rf :: CV.int r6 :: CV.dat rw :: CV.dat rh :: CV.dat fl :: CV.dat wa :: CV.dat wb :: CV.dat wc :: CV.int now :: CV.int clk :: CV.bool rt :: CV.int st :: [])).clock }), node := upd ((grOf (CV.int cn :: CV.int cr :: CV.int cp :: CV.int cdl :: CV.dat cps :: CV.dat css :: CV.bool cv :: CV.int p1 :: CV.int p2 :: CV.int p3 :: CV.int p4 :: CV.bool pf :: CV.int p6 :: CV.dat pw :: CV.dat ph :: CV.int q1 :: CV.int q2 :: CV.int q3 :: CV.int q4 :: CV.bool qf :: CV.int q6 :: CV.dat qw :: CV.dat qh :: CV.int r1 :: CV.int r2 :: CV.int r3 :: CV.int r4 :: CV.bool rf :: CV.int r6 :: CV.dat rw :: CV.dat rh :: CV.dat fl :: CV.dat wa :: CV.dat wb :: CV.dat wc :: CV.int now :: CV.int clk :: CV.bool rt :: CV.int st :: []))).node 1 (durMb ((grOf (CV.int cn :: CV.int cr :: CV.int cp :: CV.int cdl :: CV.dat cps :: CV.dat css :: CV.bool cv :: CV.int p1 :: CV.int p2 :: CV.int p3 :: CV.int p4 :: CV.bool pf :: CV.int p6 :: CV.dat pw :: CV.dat ph :: CV.int q1 :: CV.int q2 :: CV.int q3 :: CV.int q4 :: CV.bool qf :: CV.int q6 :: CV.dat qw :: CV.dat qh :: CV.int r1 :: CV.int r2 :: CV.int r3 :: CV.int r4 :: CV.bool rf :: CV.int r6 :: CV.dat rw :: CV.dat rh :: CV.dat fl :: CV.dat wa :: CV.dat wb :: CV.dat wc :: CV.int now :: CV.int clk :: CV.bool rt :: CV.int st :: [])).node 1) x).1, right := (grOf (CV.int cn :: CV.int cr :: CV.int cp :: CV.int cdl :: CV.dat cps :: CV.dat css :: CV.bool cv :: CV.int p1 :: CV.int p2 :: CV.int p3 :: CV.int p4 :: CV.bool pf :: CV.int p6 :: CV.dat pw :: CV.dat ph :: CV.int q1 :: CV.int q2 :: CV.int q3 :: CV.int q4 :: CV.bool qf :: CV.int q6 :: CV.dat qw :: CV.dat qh :: CV.int r1 :: CV.int r2 :: CV.int r3 :: CV.int r4 :: CV.bool rf :: CV.int r6 :: CV.dat rw :: CV.dat rh :: CV.dat fl :: CV.dat wa :: CV.dat wb :: CV.dat wc :: CV.int now :: CV.int clk :: CV.bool rt :: CV.int st :: [])).right && decide ((durMb ((grOf (CV.int cn :: CV.int cr :: CV.int cp :: CV.int cdl :: CV.dat cps :: CV.dat css :: CV.bool cv :: CV.int p1 :: CV.int p2 :: CV.int p3 :: CV.int p4 :: CV.bool pf :: CV.int p6 :: CV.dat pw :: CV.dat ph :: CV.int q1 :: CV.int q2 :: CV.int q3 :: CV.int q4 :: CV.bool qf :: CV.int q6 :: CV.dat qw :: CV.dat qh :: CV.int r1 :: CV.int r2 :: CV.int r3 :: CV.int r4 :: CV.bool rf :: CV.int r6 :: CV.dat rw :: CV.dat rh :: CV.dat fl :: CV.dat wa :: CV.dat wb :: CV.dat wc :: CV.int now :: CV.int clk :: CV.bool rt :: CV.int st :: [])).node 1) x).2.2 = 0) } 1 (durMb ((grOf (CV.int cn :: CV.int cr :: CV.int cp :: CV.int cdl :: CV.dat cps :: CV.dat css :: CV.bool cv :: CV.int p1 :: CV.int p2 :: CV.int p3 :: CV.int p4 :: CV.bool pf :: CV.int p6 :: CV.dat pw :: CV.dat ph :: CV.int q1 :: CV.int q2 :: CV.int q3 :: CV.int q4 :: CV.bool qf :: CV.int q6 :: CV.dat qw :: CV.dat qh :: CV.int r1 :: CV.int r2 :: CV.int r3 :: CV.int r4 :: CV.bool rf :: CV.int r6 :: CV.dat rw :: CV.dat rh :: CV.dat fl :: CV.dat wa :: CV.dat wb :: CV.dat wc :: CV.int now :: CV.int clk :: CV.bool rt :: CV.int st :: [])).node 1) x).2.1 :=
      durG_go (k := k) (by rw [grOf_eq]; simp only [tri_0, tri_1, tri_2]; omega) (by rw [grOf_eq]; exact hk2) (by rw [grOf_eq]; exact hg)
    have hwn : (grOf (CV.int cn :: CV.int cr :: CV.int cp :: CV.int cdl :: CV.dat cps :: CV.dat css :: CV.bool cv :: CV.int p1 :: CV.int p2 :: CV.int p3 :: CV.int p4 :: CV.bool pf :: CV.int p6 :: CV.dat pw :: CV.dat ph :: CV.int q1 :: CV.int q2 :: CV.int q3 :: CV.int q4 :: CV.bool qf :: CV.int q6 :: CV.dat qw :: CV.dat qh :: CV.int r1 :: CV.int r2 :: CV.int r3 :: CV.int r4 :: CV.bool rf :: CV.int r6 :: CV.dat rw :: CV.dat rh :: CV.dat fl :: CV.dat wa :: CV.dat wb :: CV.dat wc :: CV.int now :: CV.int clk :: CV.bool rt :: CV.int st :: [])).wr 1 = wb.to Wr := by rw [grOf_eq]; rfl
    rw [hwn] at hd
    have hxr : 0 ≤ x ∧ x < ((wb.to Wr).length : Int) := by
      rw [hd] at hr
      split at hr
      · cases hr
      · omega
    rw [if_neg (by omega)] at hd
    rw [hd] at hr ⊢
    rw [grOf_eq] at hr ⊢
    simp only [ackG, tri_0, tri_1, tri_2, tri_upd0, tri_upd1, tri_upd2, Bool.and_eq_true] at hr
    simp only [ackG, tri_0, tri_1, tri_2, tri_upd0, tri_upd1, tri_upd2, cls_tri]
    obtain ⟨⟨hrt, he⟩, hX⟩ := hr
    have hkx : x.toNat < (wb.to Wr).length := by omega
    have hgw : (wb.to Wr).getD x.toNat noWr = (wb.to Wr)[x.toNat] := by simp [hkx]
    rw [hgw] at hX ⊢
    obtain ⟨o1, o2, o3⟩ := durMb_len ⟨q1, q2, q3, q4, qf, q6, qw.to Int, qh.to Int⟩ x
    simp only at o1 o2 o3
    have cpy := fun a b => copy_at (α := Wr) (s := 4) rfl hwi a b
    have cl : ∀ a b, (D.slc a 4 (List.append (D.rows (D.slc b 4 [])) (D.rows wb))).len = wb.len := fun a b => by rw [D.Is.length (α := Wr), (cpy a b).2, l2]
    have cs := fun a b => wr_set2 (cpy a b).1 (i := x.toNat) (by rw [(cpy a b).2]; exact hkx) clk
    have b1 : decide (x < 0) = false := decide_eq_false (by omega)
    have b2 : decide (x ≥ (wb.len : Int)) = false := decide_eq_false (by omega)
    rw [b1, b2]
    have cto : ∀ a b, D.to Wr (D.setCells (D.slc a 4 (List.append (D.rows (D.slc b 4 [])) (D.rows wb))) x.toNat 2 [D.int .i64 clk]) = (wb.to Wr).set x.toNat ⟨((wb.to Wr)[x.toNat]).issued, ((wb.to Wr)[x.toNat]).acked, clk, ((wb.to Wr)[x.toNat]).times⟩ := fun a b => by
      rw [(cs a b).2]; simp only [(cpy a b).2]
    refine ⟨nn, nn, h0, ⟨by omega, by omega, c1.2.2⟩, c2, fun h => absurd h (by decide), fun _ => ⟨nn, fun h => absurd h (by decide), fun _ hs1 => ⟨nn, ⟨rfl, hwi.fits, by simp only [len_slc, List.length_nil]; omega, by simp only [len_slc, List.length_nil]; omega⟩, fun hs2 => ⟨nn, fun hs3 => ⟨nn, ⟨hxr.1, by rw [cl]; omega, rfl⟩, ⟨by rw [cl]; omega, (by decide : 3 ≤ 4), rfl⟩, nn, hx0, fun hs4 => ⟨fun _ => ⟨nn, ⟨(cs _ _).1, ?_, D.like_is _ _, ?_, ?_⟩, fun hs5 => ?_⟩, fun h => absurd (hrt.symm.trans h) (by decide)⟩⟩⟩⟩⟩⟩
    · rw [D.Is.length (α := Wr), cto, List.length_set]; omega
    · rw [like_len]; exact Nat.le_trans o3 (by omega)
    · rw [D.like_to, cto]; exact hX
    · have hr := And.intro hrt hX
      refine ret_cells ?_
      repeat' first
      | exact .nil
      | refine .cons ?_ ?_
      | exact rfl
      | exact fun _ => rfl
      | exact lst_ok stands_like
      | exact lst_ok (stands_self (by assumption))
      | exact lst_ok (by rw [D.like_to, cto]; exact stands_like)
      | exact bool_ok (by rw [hX, hrt, Bool.and_true, Bool.true_and]; rfl)
      | fail

theorem dur2_ent {w : World} {H : HV} {cn cr cp cdl : Int} {cps css : D} {cv : Bool} {p1 p2 p3 p4 : Int} {pf : Bool} {p6 : Int} {pw ph : D} {q1 q2 q3 q4 : Int} {qf : Bool} {q6 : Int} {qw qh : D} {r1 r2 r3 r4 : Int} {rf : Bool} {r6 : Int} {rw rh : D} {fl wa wb wc : D} {now clk : Int} {rt : Bool} {st : Int} {ew : Int} (hew : U8 ew) (hR : GrRight (CV.int cn :: CV.int cr :: CV.int cp :: CV.int cdl :: CV.dat cps :: CV.dat css :: CV.bool cv :: CV.int p1 :: CV.int p2 :: CV.int p3 :: CV.int p4 :: CV.bool pf :: CV.int p6 :: CV.dat pw :: CV.dat ph :: CV.int q1 :: CV.int q2 :: CV.int q3 :: CV.int q4 :: CV.bool qf :: CV.int q6 :: CV.dat qw :: CV.dat qh :: CV.int r1 :: CV.int r2 :: CV.int r3 :: CV.int r4 :: CV.bool rf :: CV.int r6 :: CV.dat rw :: CV.dat rh :: CV.dat fl :: CV.dat wa :: CV.dat wb :: CV.dat wc :: CV.int now :: CV.int clk :: CV.bool rt :: CV.int st :: [])) (hr : (durG (grOf (CV.int cn :: CV.int cr :: CV.int cp :: CV.int cdl :: CV.dat cps :: CV.dat css :: CV.bool cv :: CV.int p1 :: CV.int p2 :: CV.int p3 :: CV.int p4 :: CV.bool pf :: CV.int p6 :: CV.dat pw :: CV.dat ph :: CV.int q1 :: CV.int q2 :: CV.int q3 :: CV.int q4 :: CV.bool qf :: CV.int q6 :: CV.dat qw :: CV.dat qh :: CV.int r1 :: CV.int r2 :: CV.int r3 :: CV.int r4 :: CV.bool rf :: CV.int r6 :: CV.dat rw :: CV.dat rh :: CV.dat fl :: CV.dat wa :: CV.dat wb :: CV.dat wc :: CV.int now :: CV.int clk :: CV.bool rt :: CV.int st :: [])) 2 ew).right = true) :
    Runs Try.prog ⟨w, H⟩ (entry Try.prog 76 [.agg [.int .i64 cn, .int .i64 cr, .int .i64 cp, .int .i64 cdl, .dat cps, .dat css, .bool cv, .int .i64 p1, .int .i64 p2, .int .i64 p3, .int .i64 p4, .bool pf, .int .i64 p6, .dat pw, .dat ph, .int .i64 q1, .int .i64 q2, .int .i64 q3, .int .i64 q4, .bool qf, .int .i64 q6, .dat qw, .dat qh, .int .i64 r1, .int .i64 r2, .int .i64 r3, .int .i64 r4, .bool rf, .int .i64 r6, .dat rw, .dat rh, .dat fl, .dat wa, .dat wb, .dat wc, .int .i64 now, .int .i64 clk, .bool rt, .int .i64 st], .int .i64 2, .int .u8 ew]) (RetD w H fun ds => .agg (svOf ds 0 (durG (grOf (CV.int cn :: CV.int cr :: CV.int cp :: CV.int cdl :: CV.dat cps :: CV.dat css :: CV.bool cv :: CV.int p1 :: CV.int p2 :: CV.int p3 :: CV.int p4 :: CV.bool pf :: CV.int p6 :: CV.dat pw :: CV.dat ph :: CV.int q1 :: CV.int q2 :: CV.int q3 :: CV.int q4 :: CV.bool qf :: CV.int q6 :: CV.dat qw :: CV.dat qh :: CV.int r1 :: CV.int r2 :: CV.int r3 :: CV.int r4 :: CV.bool rf :: CV.int r6 :: CV.dat rw :: CV.dat rh :: CV.dat fl :: CV.dat wa :: CV.dat wb :: CV.dat wc :: CV.int now :: CV.int clk :: CV.bool rt :: CV.int st :: [])) 2 ew).cls)) := by
  have hR0 := hR
  rw [grRight_eq] at hR
  obtain ⟨⟨hc1, hc2⟩, hp, hq, hr', ⟨hf, hfl⟩, ⟨ha, hal⟩, ⟨hb, hbl⟩, ⟨hcc, hcl⟩⟩ := hR
  have hx0 := hr'
  have hp' := hp; have hq' := hq; have hr2 := hr'
  obtain ⟨hpw, hph, hpl, hpm⟩ := hp'
  obtain ⟨hqw, hqh, hql, hqm⟩ := hq'
  obtain ⟨hrw, hrh, hrl, hrm⟩ := hr2
  simp only at hpw hph hpl hpm hqw hqh hql hqm hrw hrh hrl hrm
  have hwi : wc.Is Wr := hcc
  have l1 := D.Is.length (α := Int) rw
  have l2 := D.Is.length (α := Wr) wc
  have l3 := D.Is.length (α := Int) rh
  apply exec_sound ctGOk 900
  rw [durg2_in]
  have nn : (0 : Int) ≤ 2 ∧ (2 : Int) < ((3 : Nat) : Int) := by omega
  have e1 : IntKind.i64.wrap ew = ew := wrap64 (by have := hew.1; omega) (by have := hew.2; omega)
  rw [e1]
  refine ⟨nn, fun h0 => ?_, fun h0 hs => ?_⟩
  · have h0 : (((rw.len : Nat)) : Int) = 0 := of_decide_eq_true h0
    have e : durG (grOf (CV.int cn :: CV.int cr :: CV.int cp :: CV.int cdl :: CV.dat cps :: CV.dat css :: CV.bool cv :: CV.int p1 :: CV.int p2 :: CV.int p3 :: CV.int p4 :: CV.bool pf :: CV.int p6 :: CV.dat pw :: CV.dat ph :: CV.int q1 :: CV.int q2 :: CV.int q3 :: CV.int q4 :: CV.bool qf :: CV.int q6 :: CV.dat qw :: CV.dat qh :: CV.int r1 :: CV.int r2 :: CV.int r3 :: CV.int r4 :: CV.bool rf :: CV.int r6 :: CV.dat rw :: CV.dat rh :: CV.dat fl :: CV.dat wa :: CV.dat wb :: CV.dat wc :: CV.int now :: CV.int clk :: CV.bool rt :: CV.int st :: [])) 2 ew = (grOf (CV.int cn :: CV.int cr :: CV.int cp :: CV.int cdl :: CV.dat cps :: CV.dat css :: CV.bool cv :: CV.int p1 :: CV.int p2 :: CV.int p3 :: CV.int p4 :: CV.bool pf :: CV.int p6 :: CV.dat pw :: CV.dat ph :: CV.int q1 :: CV.int q2 :: CV.int q3 :: CV.int q4 :: CV.bool qf :: CV.int q6 :: CV.dat qw :: CV.dat qh :: CV.int r1 :: CV.int r2 :: CV.int r3 :: CV.int r4 :: CV.bool rf :: CV.int r6 :: CV.dat rw :: CV.dat rh :: CV.dat fl :: CV.dat wa :: CV.dat wb :: CV.dat wc :: CV.int now :: CV.int clk :: CV.bool rt :: CV.int st :: [])) := durG_nil (by rw [grOf_eq]; simp only [tri_0, tri_1, tri_2]; omega)
    rw [e, grOf_eq, cls_tri]
    have hr : True ∧ True := ⟨trivial, trivial⟩
    refine ret_cells ?_
    repeat' first
    | exact .nil
    | refine .cons ?_ ?_
    | exact rfl
    | exact fun _ => rfl
    | exact lst_ok stands_like
    | exact lst_ok (stands_self (by assumption))
    | exact lst_ok (by rw [D.like_to]; exact stands_like)
    | exact bool_ok (by rw [hr.2, Bool.and_true])
    | fail
  · have h0 : ¬(((rw.len : Nat)) : Int) = 0 := of_decide_eq_false h0
    have hlp : 0 < (rw.to Int).length := by omega
    have t0 : 0 ≤ Int.tmod ew rw.len := Int.tmod_nonneg _ hew.1
    have t1 : Int.tmod ew rw.len < rw.len := Int.tmod_lt_of_pos _ (by omega)
    obtain ⟨k, hk⟩ : ∃ k : Nat, Int.tmod ew rw.len = k := ⟨(Int.tmod ew rw.len).toNat, by omega⟩
    have hkl : k < (rw.to Int).length := by omega
    obtain ⟨c1, c2, c3⟩ := int_at hrw hkl
    rw [hk, c3]
    obtain ⟨x, hx⟩ : ∃ x, (rw.to Int)[k] = x := ⟨_, rfl⟩
    rw [hx]
    have hk2 : (Int.tmod ew ((rw.to Int).length : Int)).toNat = k := by rw [← l1, hk]; rfl
    have hg : (rw.to Int).getD k 0 = x := by rw [← hx]; simp [hkl]
    have hd : durG (grOf (CV.int cn :: CV.int cr :: CV.int cp :: CV.int cdl :: CV.dat cps :: CV.dat css :: CV.bool cv :: CV.int p1 :: CV.int p2 :: CV.int p3 :: CV.int p4 :: CV.bool pf :: CV.int p6 :: CV.dat pw :: CV.dat ph :: CV.int q1 :: CV.int q2 :: CV.int q3 :: CV.int q4 :: CV.bool qf :: CV.int q6 :: CV.dat qw :: CV.dat qh :: CV.int r1 :: CV.int r2 :: CV.int r3 :: CV.int r4 :: CV.bool rf :: CV.int r6 :: CV.dat rw :: CV.dat rh :: CV.dat fl :: CV.dat wa :: CV.dat wb :: CV.dat wc :: CV.int now :: CV.int clk :: CV.bool rt :: CV.int st :: [])) 2 ew = if x < 0 ∨ x ≥ (((grOf (CV.int cn :: CV.int cr :: CV.int cp :: CV.int cdl :: CV.dat cps :: CV.dat css :: CV.bool cv :: CV.int p1 :: CV.int p2 :: CV.int p3 :: CV.int p4 :: CV.bool pf :: CV.int p6 :: CV.dat pw :: CV.dat ph :: CV.int q1 :: CV.int q2 :: CV.int q3 :: CV.int q4 :: CV.bool qf :: CV.int q6 :: CV.dat qw :: CV.dat qh :: CV.int r1 :: CV.int r2 :: CV.int r3 :: CV.int r4 :: CV.bool rf :: CV.int r6 :: CV.dat rw :: CV.dat rh :: CV.dat fl :: CV.dat wa :: CV.dat wb :: CV.dat wc :: CV.int now :: CV.int clk :: CV.bool rt :: CV.int st :: [])).wr 2).length : Int) then { (grOf (CV.int cn :: CV.int cr :: CV.int cp :: CV.int cdl :: CV.dat cps :: CV.dat css :: CV.bool cv :: CV.int p1 :: CV.int p2 :: CV.int p3 :: CV.int p4 :: CV.bool pf :: CV.int p6 :: CV.dat pw :: CV.dat ph :: CV.int q1 :: CV.int q2 :: CV.int q3 :: CV.int q4 :: CV.bool qf :: CV.int q6 :: CV.dat qw :: CV.dat qh :: CV.int r1 :: CV.int r2 :: CV.int r3 :: CV.int r4 :: CV.bool rf :: CV.int r6 :: CV.dat rw :: CV.dat rh :: CV.dat fl :: CV.dat wa :: CV.dat wb :: CV.dat wc :: CV.int now :: CV.int clk :: CV.bool rt :: CV.int st :: [])) with right := false } else
        ackG { (grOf (CV.int cn :: CV.int cr :: CV.int cp :: CV.int cdl :: CV.dat cps :: CV.dat css :: CV.bool cv :: CV.int p1 :: CV.int p2 :: CV.int p3 :: CV.int p4 :: CV.bool pf :: CV.int p6 :: CV.dat pw :: CV.dat ph :: CV.int q1 :: CV.int q2 :: CV.int q3 :: CV.int q4 :: CV.bool qf :: CV.int q6 :: CV.dat qw :: CV.dat qh :: CV.int r1 :: CV.int r2 :: CV.int r3 :: CV.int r4 :: CV.bool rf :: CV.int r6 :: CV.dat rw :: CV.dat rh :: CV.dat fl :: CV.dat wa :: CV.dat wb :: CV.dat wc :: CV.int now :: CV.int clk :: CV.bool rt :: CV.int st :: [])) with wr := upd ((grOf (CV.int cn :: CV.int cr :: CV.int cp :: CV.int cdl :: CV.dat cps :: CV.dat css :: CV.bool cv :: CV.int p1 :: CV.int p2 :: CV.int p3 :: CV.int p4 :: CV.bool pf :: CV.int p6 :: CV.dat pw :: CV.dat ph :: CV.int q1 :: CV.int q2 :: CV.int q3 :: CV.int q4 :: CV.bool qf :: CV.int q6 :: CV.dat qw :: CV.dat qh :: CV.int r1 :: CV.int r2 :: CV.int r3 :: CV.int r4 :: CV.bool rf :: CV.int r6 :: CV.dat rw :: CV.dat rh :: CV.dat fl :: CV.dat wa :: CV.dat wb :: CV.dat wc :: CV.int now :: CV.int clk :: CV.bool rt :: CV.int st :: []))).wr 2 (((grOf (CV.int cn :: CV.int cr :: CV.int cp :: CV.int cdl :: CV.dat cps :: CV.dat css :: CV.bool cv :: CV.int p1 :: CV.int p2 :: CV.int p3 :: CV.int p4 :: CV.bool pf :: CV.int p6 :: CV.dat pw :: CV.dat ph :: CV.int q1 :: CV.int q2 :: CV.int q3 :: CV.int q4 :: CV.bool qf :: CV.int q6 :: CV.dat qw :: CV.dat qh :: CV.int r1 :: CV.int r2 :: CV.int r3 :: CV.int r4 :: CV.bool rf :: CV.int r6 :: CV.dat rw :: CV.dat rh :: CV.dat fl :: CV.dat wa :: CV.dat wb :: CV.dat wc :: CV.int now :: CV.int clk :: CV.bool rt :: CV.int st :: [])).wr 2).set x.toNat { ((grOf (CV.int cn :: CV.int cr :: CV.int cp :: CV.int cdl :: CV.dat cps :: CV.dat css :: CV.bool cv :: CV.int p1 :: CV.int p2 :: CV.int p3 :: CV.int p4 :: CV.bool pf :: CV.int p6 :: CV.dat pw :: CV.dat ph :: CV.int q1 :: CV.int q2 :: CV.int q3 :: CV.int q4 :: CV.bool qf :: CV.int q6 :: CV.dat qw :: CV.dat qh :: CV.int r1 :: CV.int r2 :: CV.int r3 :: CV.int r4 :: CV.bool rf :: CV.int r6 :: CV.dat rw :: CV.dat rh :: CV.dat fl :: CV.dat wa :: CV.dat wb :: CV.dat wc :: CV.int now :: CV.int clk :: CV.bool rt :: CV.int st :: [])).wr 2).getD x.toNat noWr with durable := (grOf (CV.int cn :: CV.int cr :: CV.int cp :: CV.int cdl :: CV.dat cps :: CV.dat css :: CV.bool cv :: CV.int p1 :: CV.int p2 :: CV.int p3 :: CV.int p4 :: CV.bool pf :: CV.int p6 :: CV.dat pw :: CV.dat ph :: CV.int q1 :: CV.int q2 :: CV.int q3 :: CV.int q4 :: CV.bool qf :: CV.int q6 :: CV.dat qw :: CV.dat qh :: CV.int r1 :: CV.int r2 :: CV.int r3 :: CV.int r4 :: CV.bool rf :: CV.int r6 :: CV.dat rw :: CV.dat rh :: CV.dat fl :: CV.dat wa :: CV.dat wb :: CV.dat wc :: CV.int now :: CV.int clk :: CV.bool rt :: CV.int st :: [])).clock }), node := upd ((grOf (CV.int cn :: CV.int cr :: CV.int cp :: CV.int cdl :: CV.dat cps :: CV.dat css :: CV.bool cv :: CV.int p1 :: CV.int p2 :: CV.int p3 :: CV.int p4 :: CV.bool pf :: CV.int p6 :: CV.dat pw :: CV.dat ph :: CV.int q1 :: CV.int q2 :: CV.int q3 :: CV.int q4 :: CV.bool qf :: CV.int q6 :: CV.dat qw :: CV.dat qh :: CV.int r1 :: CV.int r2 :: CV.int r3 :: CV.int r4 :: CV.bool rf :: CV.int r6 :: CV.dat rw :: CV.dat rh :: CV.dat fl :: CV.dat wa :: CV.dat wb :: CV.dat wc :: CV.int now :: CV.int clk :: CV.bool rt :: CV.int st :: []))).node 2 (durMb ((grOf (CV.int cn :: CV.int cr :: CV.int cp :: CV.int cdl :: CV.dat cps :: CV.dat css :: CV.bool cv :: CV.int p1 :: CV.int p2 :: CV.int p3 :: CV.int p4 :: CV.bool pf :: CV.int p6 :: CV.dat pw :: CV.dat ph :: CV.int q1 :: CV.int q2 :: CV.int q3 :: CV.int q4 :: CV.bool qf :: CV.int q6 :: CV.dat qw :: CV.dat qh :: CV.int r1 :: CV.int r2 :: CV.int r3 :: CV.int r4 :: CV.bool rf :: CV.int r6 :: CV.dat rw :: CV.dat rh :: CV.dat fl :: CV.dat wa :: CV.dat wb :: CV.dat wc :: CV.int now :: CV.int clk :: CV.bool rt :: CV.int st :: [])).node 2) x).1, right := (grOf (CV.int cn :: CV.int cr :: CV.int cp :: CV.int cdl :: CV.dat cps :: CV.dat css :: CV.bool cv :: CV.int p1 :: CV.int p2 :: CV.int p3 :: CV.int p4 :: CV.bool pf :: CV.int p6 :: CV.dat pw :: CV.dat ph :: CV.int q1 :: CV.int q2 :: CV.int q3 :: CV.int q4 :: CV.bool qf :: CV.int q6 :: CV.dat qw :: CV.dat qh :: CV.int r1 :: CV.int r2 :: CV.int r3 :: CV.int r4 :: CV.bool rf :: CV.int r6 :: CV.dat rw :: CV.dat rh :: CV.dat fl :: CV.dat wa :: CV.dat wb :: CV.dat wc :: CV.int now :: CV.int clk :: CV.bool rt :: CV.int st :: [])).right && decide ((durMb ((grOf (CV.int cn :: CV.int cr :: CV.int cp :: CV.int cdl :: CV.dat cps :: CV.dat css :: CV.bool cv :: CV.int p1 :: CV.int p2 :: CV.int p3 :: CV.int p4 :: CV.bool pf :: CV.int p6 :: CV.dat pw :: CV.dat ph :: CV.int q1 :: CV.int q2 :: CV.int q3 :: CV.int q4 :: CV.bool qf :: CV.int q6 :: CV.dat qw :: CV.dat qh :: CV.int r1 :: CV.int r2 :: CV.int r3 :: CV.int r4 :: CV.bool rf :: CV.int r6 :: CV.dat rw :: CV.dat rh :: CV.dat fl :: CV.dat wa :: CV.dat wb :: CV.dat wc :: CV.int now :: CV.int clk :: CV.bool rt :: CV.int st :: [])).node 2) x).2.2 = 0) } 2 (durMb ((grOf (CV.int cn :: CV.int cr :: CV.int cp :: CV.int cdl :: CV.dat cps :: CV.dat css :: CV.bool cv :: CV.int p1 :: CV.int p2 :: CV.int p3 :: CV.int p4 :: CV.bool pf :: CV.int p6 :: CV.dat pw :: CV.dat ph :: CV.int q1 :: CV.int q2 :: CV.int q3 :: CV.int q4 :: CV.bool qf :: CV.int q6 :: CV.dat qw :: CV.dat qh :: CV.int r1 :: CV.int r2 :: CV.int r3 :: CV.int r4 :: CV.bool rf :: CV.int r6 :: CV.dat rw :: CV.dat rh :: CV.dat fl :: CV.dat wa :: CV.dat wb :: CV.dat wc :: CV.int now :: CV.int clk :: CV.bool rt :: CV.int st :: [])).node 2) x).2.1 :=
      durG_go (k := k) (by rw [grOf_eq]; simp only [tri_0, tri_1, tri_2]; omega) (by rw [grOf_eq]; exact hk2) (by rw [grOf_eq]; exact hg)
    have hwn : (grOf (CV.int cn :: CV.int cr :: CV.int cp :: CV.int cdl :: CV.dat cps :: CV.dat css :: CV.bool cv :: CV.int p1 :: CV.int p2 :: CV.int p3 :: CV.int p4 :: CV.bool pf :: CV.int p6 :: CV.dat pw :: CV.dat ph :: CV.int q1 :: CV.int q2 :: CV.int q3 :: CV.int q4 :: CV.bool qf :: CV.int q6 :: CV.dat qw :: CV.dat qh :: CV.int r1 :: CV.int r2 :: CV.int r3 :: CV.int r4 :: CV.bool rf :: CV.int r6 :: CV.dat rw :: CV.dat rh :: CV.dat fl :: CV.dat wa :: CV.dat wb :: CV.dat wc :: CV.int now :: CV.int clk :: CV.bool rt :: CV.int st :: [])).wr 2 = wc.to Wr := by rw [grOf_eq]; rfl
    rw [hwn] at hd
    have hxr : 0 ≤ x ∧ x < ((wc.to Wr).length : Int) := by
      rw [hd] at hr
      split at hr
      · cases hr
      · omega
    rw [if_neg (by omega)] at hd
    rw [hd] at hr ⊢
    rw [grOf_eq] at hr ⊢
    simp only [ackG, tri_0, tri_1, tri_2, tri_upd0, tri_upd1, tri_upd2, Bool.and_eq_true] at hr
    simp only [ackG, tri_0, tri_1, tri_2, tri_upd0, tri_upd1, tri_upd2, cls_tri]
    obtain ⟨⟨hrt, he⟩, hX⟩ := hr
    have hkx : x.toNat < (wc.to Wr).length := by omega
    have hgw : (wc.to Wr).getD x.toNat noWr = (wc.to Wr)[x.toNat] := by simp [hkx]
    rw [hgw] at hX ⊢
    obtain ⟨o1, o2, o3⟩ := durMb_len ⟨r1, r2, r3, r4, rf, r6, rw.to Int, rh.to Int⟩ x
    simp only at o1 o2 o3
    have cpy := fun a b => copy_at (α := Wr) (s := 4) rfl hwi a b
    have cl : ∀ a b, (D.slc a 4 (List.append (D.rows (D.slc b 4 [])) (D.rows wc))).len = wc.len := fun a b => by rw [D.Is.length (α := Wr), (cpy a b).2, l2]
    have cs := fun a b => wr_set2 (cpy a b).1 (i := x.toNat) (by rw [(cpy a b).2]; exact hkx) clk
    have b1 : decide (x < 0) = false := decide_eq_false (by omega)
    have b2 : decide (x ≥ (wc.len : Int)) = false := decide_eq_false (by omega)
    rw [b1, b2]
    have cto : ∀ a b, D.to Wr (D.setCells (D.slc a 4 (List.append (D.rows (D.slc b 4 [])) (D.rows wc))) x.toNat 2 [D.int .i64 clk]) = (wc.to Wr).set x.toNat ⟨((wc.to Wr)[x.toNat]).issued, ((wc.to Wr)[x.toNat]).acked, clk, ((wc.to Wr)[x.toNat]).times⟩ := fun a b => by
      rw [(cs a b).2]; simp only [(cpy a b).2]
    refine ⟨nn, nn, h0, ⟨by omega, by omega, c1.2.2⟩, c2, fun h => absurd h (by decide), fun _ => ⟨nn, fun h => absurd h (by decide), fun _ hs1 => ⟨nn, ⟨rfl, hwi.fits, by simp only [len_slc, List.length_nil]; omega, by simp only [len_slc, List.length_nil]; omega⟩, fun hs2 => ⟨nn, fun hs3 => ⟨nn, ⟨hxr.1, by rw [cl]; omega, rfl⟩, ⟨by rw [cl]; omega, (by decide : 3 ≤ 4), rfl⟩, nn, hx0, fun hs4 => ⟨fun _ => ⟨nn, ⟨(cs _ _).1, ?_, D.like_is _ _, ?_, ?_⟩, fun hs5 => ?_⟩, fun h => absurd (hrt.symm.trans h) (by decide)⟩⟩⟩⟩⟩⟩
    · rw [D.Is.length (α := Wr), cto, List.length_set]; omega
    · rw [like_len]; exact Nat.le_trans o3 (by omega)
    · rw [D.like_to, cto]; exact hX
    · have hr := And.intro hrt hX
      refine ret_cells ?_
      repeat' first
      | exact .nil
      | refine .cons ?_ ?_
      | exact rfl
      | exact fun _ => rfl
      | exact lst_ok stands_like
      | exact lst_ok (stands_self (by assumption))
      | exact lst_ok (by rw [D.like_to, cto]; exact stands_like)
      | exact bool_ok (by rw [hX, hrt, Bool.and_true, Bool.true_and]; rfl)
      | fail

theorem spDurG_eq0 {cn cr cp cdl : Int} {cps css : D} {cv : Bool} {p1 p2 p3 p4 : Int} {pf : Bool} {p6 : Int} {pw ph : D} {q1 q2 q3 q4 : Int} {qf : Bool} {q6 : Int} {qw qh : D} {r1 r2 r3 r4 : Int} {rf : Bool} {r6 : Int} {rw rh : D} {fl wa wb wc : D} {now clk : Int} {rt : Bool} {st : Int} {ew : Int} (h : ShapeC grK (CV.int cn :: CV.int cr :: CV.int cp :: CV.int cdl :: CV.dat cps :: CV.dat css :: CV.bool cv :: CV.int p1 :: CV.int p2 :: CV.int p3 :: CV.int p4 :: CV.bool pf :: CV.int p6 :: CV.dat pw :: CV.dat ph :: CV.int q1 :: CV.int q2 :: CV.int q3 :: CV.int q4 :: CV.bool qf :: CV.int q6 :: CV.dat qw :: CV.dat qh :: CV.int r1 :: CV.int r2 :: CV.int r3 :: CV.int r4 :: CV.bool rf :: CV.int r6 :: CV.dat rw :: CV.dat rh :: CV.dat fl :: CV.dat wa :: CV.dat wb :: CV.dat wc :: CV.int now :: CV.int clk :: CV.bool rt :: CV.int st :: [])) : spDurG (⟨(CV.int cn :: CV.int cr :: CV.int cp :: CV.int cdl :: CV.dat cps :: CV.dat css :: CV.bool cv :: CV.int p1 :: CV.int p2 :: CV.int p3 :: CV.int p4 :: CV.bool pf :: CV.int p6 :: CV.dat pw :: CV.dat ph :: CV.int q1 :: CV.int q2 :: CV.int q3 :: CV.int q4 :: CV.bool qf :: CV.int q6 :: CV.dat qw :: CV.dat qh :: CV.int r1 :: CV.int r2 :: CV.int r3 :: CV.int r4 :: CV.bool rf :: CV.int r6 :: CV.dat rw :: CV.dat rh :: CV.dat fl :: CV.dat wa :: CV.dat wb :: CV.dat wc :: CV.int now :: CV.int clk :: CV.bool rt :: CV.int st :: []), h⟩, Int.ofNat 0, ew) = grSp (CV.int cn :: CV.int cr :: CV.int cp :: CV.int cdl :: CV.dat cps :: CV.dat css :: CV.bool cv :: CV.int p1 :: CV.int p2 :: CV.int p3 :: CV.int p4 :: CV.bool pf :: CV.int p6 :: CV.dat pw :: CV.dat ph :: CV.int q1 :: CV.int q2 :: CV.int q3 :: CV.int q4 :: CV.bool qf :: CV.int q6 :: CV.dat qw :: CV.dat qh :: CV.int r1 :: CV.int r2 :: CV.int r3 :: CV.int r4 :: CV.bool rf :: CV.int r6 :: CV.dat rw :: CV.dat rh :: CV.dat fl :: CV.dat wa :: CV.dat wb :: CV.dat wc :: CV.int now :: CV.int clk :: CV.bool rt :: CV.int st :: []) (U8 ew) (durG (grOf (CV.int cn :: CV.int cr :: CV.int cp :: CV.int cdl :: CV.dat cps :: CV.dat css :: CV.bool cv :: CV.int p1 :: CV.int p2 :: CV.int p3 :: CV.int p4 :: CV.bool pf :: CV.int p6 :: CV.dat pw :: CV.dat ph :: CV.int q1 :: CV.int q2 :: CV.int q3 :: CV.int q4 :: CV.bool qf :: CV.int q6 :: CV.dat qw :: CV.dat qh :: CV.int r1 :: CV.int r2 :: CV.int r3 :: CV.int r4 :: CV.bool rf :: CV.int r6 :: CV.dat rw :: CV.dat rh :: CV.dat fl :: CV.dat wa :: CV.dat wb :: CV.dat wc :: CV.int now :: CV.int clk :: CV.bool rt :: CV.int st :: [])) 0 ew) := by kernel_rfl
theorem spDurG_eq1 {cn cr cp cdl : Int} {cps css : D} {cv : Bool} {p1 p2 p3 p4 : Int} {pf : Bool} {p6 : Int} {pw ph : D} {q1 q2 q3 q4 : Int} {qf : Bool} {q6 : Int} {qw qh : D} {r1 r2 r3 r4 : Int} {rf : Bool} {r6 : Int} {rw rh : D} {fl wa wb wc : D} {now clk : Int} {rt : Bool} {st : Int} {ew : Int} (h : ShapeC grK (CV.int cn :: CV.int cr :: CV.int cp :: CV.int cdl :: CV.dat cps :: CV.dat css :: CV.bool cv :: CV.int p1 :: CV.int p2 :: CV.int p3 :: CV.int p4 :: CV.bool pf :: CV.int p6 :: CV.dat pw :: CV.dat ph :: CV.int q1 :: CV.int q2 :: CV.int q3 :: CV.int q4 :: CV.bool qf :: CV.int q6 :: CV.dat qw :: CV.dat qh :: CV.int r1 :: CV.int r2 :: CV.int r3 :: CV.int r4 :: CV.bool rf :: CV.int r6 :: CV.dat rw :: CV.dat rh :: CV.dat fl :: CV.dat wa :: CV.dat wb :: CV.dat wc :: CV.int now :: CV.int clk :: CV.bool rt :: CV.int st :: [])) : spDurG (⟨(CV.int cn :: CV.int cr :: CV.int cp :: CV.int cdl :: CV.dat cps :: CV.dat css :: CV.bool cv :: CV.int p1 :: CV.int p2 :: CV.int p3 :: CV.int p4 :: CV.bool pf :: CV.int p6 :: CV.dat pw :: CV.dat ph :: CV.int q1 :: CV.int q2 :: CV.int q3 :: CV.int q4 :: CV.bool qf :: CV.int q6 :: CV.dat qw :: CV.dat qh :: CV.int r1 :: CV.int r2 :: CV.int r3 :: CV.int r4 :: CV.bool rf :: CV.int r6 :: CV.dat rw :: CV.dat rh :: CV.dat fl :: CV.dat wa :: CV.dat wb :: CV.dat wc :: CV.int now :: CV.int clk :: CV.bool rt :: CV.int st :: []), h⟩, Int.ofNat 1, ew) = grSp (CV.int cn :: CV.int cr :: CV.int cp :: CV.int cdl :: CV.dat cps :: CV.dat css :: CV.bool cv :: CV.int p1 :: CV.int p2 :: CV.int p3 :: CV.int p4 :: CV.bool pf :: CV.int p6 :: CV.dat pw :: CV.dat ph :: CV.int q1 :: CV.int q2 :: CV.int q3 :: CV.int q4 :: CV.bool qf :: CV.int q6 :: CV.dat qw :: CV.dat qh :: CV.int r1 :: CV.int r2 :: CV.int r3 :: CV.int r4 :: CV.bool rf :: CV.int r6 :: CV.dat rw :: CV.dat rh :: CV.dat fl :: CV.dat wa :: CV.dat wb :: CV.dat wc :: CV.int now :: CV.int clk :: CV.bool rt :: CV.int st :: []) (U8 ew) (durG (grOf (CV.int cn :: CV.int cr :: CV.int cp :: CV.int cdl :: CV.dat cps :: CV.dat css :: CV.bool cv :: CV.int p1 :: CV.int p2 :: CV.int p3 :: CV.int p4 :: CV.bool pf :: CV.int p6 :: CV.dat pw :: CV.dat ph :: CV.int q1 :: CV.int q2 :: CV.int q3 :: CV.int q4 :: CV.bool qf :: CV.int q6 :: CV.dat qw :: CV.dat qh :: CV.int r1 :: CV.int r2 :: CV.int r3 :: CV.int r4 :: CV.bool rf :: CV.int r6 :: CV.dat rw :: CV.dat rh :: CV.dat fl :: CV.dat wa :: CV.dat wb :: CV.dat wc :: CV.int now :: CV.int clk :: CV.bool rt :: CV.int st :: [])) 1 ew) := by kernel_rfl
theorem spDurG_eq2 {cn cr cp cdl : Int} {cps css : D} {cv : Bool} {p1 p2 p3 p4 : Int} {pf : Bool} {p6 : Int} {pw ph : D} {q1 q2 q3 q4 : Int} {qf : Bool} {q6 : Int} {qw qh : D} {r1 r2 r3 r4 : Int} {rf : Bool} {r6 : Int} {rw rh : D} {fl wa wb wc : D} {now clk : Int} {rt : Bool} {st : Int} {ew : Int} (h : ShapeC grK (CV.int cn :: CV.int cr :: CV.int cp :: CV.int cdl :: CV.dat cps :: CV.dat css :: CV.bool cv :: CV.int p1 :: CV.int p2 :: CV.int p3 :: CV.int p4 :: CV.bool pf :: CV.int p6 :: CV.dat pw :: CV.dat ph :: CV.int q1 :: CV.int q2 :: CV.int q3 :: CV.int q4 :: CV.bool qf :: CV.int q6 :: CV.dat qw :: CV.dat qh :: CV.int r1 :: CV.int r2 :: CV.int r3 :: CV.int r4 :: CV.bool rf :: CV.int r6 :: CV.dat rw :: CV.dat rh :: CV.dat fl :: CV.dat wa :: CV.dat wb :: CV.dat wc :: CV.int now :: CV.int clk :: CV.bool rt :: CV.int st :: [])) : spDurG (⟨(CV.int cn :: CV.int cr :: CV.int cp :: CV.int cdl :: CV.dat cps :: CV.dat css :: CV.bool cv :: CV.int p1 :: CV.int p2 :: CV.int p3 :: CV.int p4 :: CV.bool pf :: CV.int p6 :: CV.dat pw :: CV.dat ph :: CV.int q1 :: CV.int q2 :: CV.int q3 :: CV.int q4 :: CV.bool qf :: CV.int q6 :: CV.dat qw :: CV.dat qh :: CV.int r1 :: CV.int r2 :: CV.int r3 :: CV.int r4 :: CV.bool rf :: CV.int r6 :: CV.dat rw :: CV.dat rh :: CV.dat fl :: CV.dat wa :: CV.dat wb :: CV.dat wc :: CV.int now :: CV.int clk :: CV.bool rt :: CV.int st :: []), h⟩, Int.ofNat 2, ew) = grSp (CV.int cn :: CV.int cr :: CV.int cp :: CV.int cdl :: CV.dat cps :: CV.dat css :: CV.bool cv :: CV.int p1 :: CV.int p2 :: CV.int p3 :: CV.int p4 :: CV.bool pf :: CV.int p6 :: CV.dat pw :: CV.dat ph :: CV.int q1 :: CV.int q2 :: CV.int q3 :: CV.int q4 :: CV.bool qf :: CV.int q6 :: CV.dat qw :: CV.dat qh :: CV.int r1 :: CV.int r2 :: CV.int r3 :: CV.int r4 :: CV.bool rf :: CV.int r6 :: CV.dat rw :: CV.dat rh :: CV.dat fl :: CV.dat wa :: CV.dat wb :: CV.dat wc :: CV.int now :: CV.int clk :: CV.bool rt :: CV.int st :: []) (U8 ew) (durG (grOf (CV.int cn :: CV.int cr :: CV.int cp :: CV.int cdl :: CV.dat cps :: CV.dat css :: CV.bool cv :: CV.int p1 :: CV.int p2 :: CV.int p3 :: CV.int p4 :: CV.bool pf :: CV.int p6 :: CV.dat pw :: CV.dat ph :: CV.int q1 :: CV.int q2 :: CV.int q3 :: CV.int q4 :: CV.bool qf :: CV.int q6 :: CV.dat qw :: CV.dat qh :: CV.int r1 :: CV.int r2 :: CV.int r3 :: CV.int r4 :: CV.bool rf :: CV.int r6 :: CV.dat rw :: CV.dat rh :: CV.dat fl :: CV.dat wa :: CV.dat wb :: CV.dat wc :: CV.int now :: CV.int clk :: CV.bool rt :: CV.int st :: [])) 2 ew) := by kernel_rfl
theorem spDurG_no {cn cr cp cdl : Int} {cps css : D} {cv : Bool} {p1 p2 p3 p4 : Int} {pf : Bool} {p6 : Int} {pw ph : D} {q1 q2 q3 q4 : Int} {qf : Bool} {q6 : Int} {qw qh : D} {r1 r2 r3 r4 : Int} {rf : Bool} {r6 : Int} {rw rh : D} {fl wa wb wc : D} {now clk : Int} {rt : Bool} {st : Int} {ew n : Int} (h : ShapeC grK (CV.int cn :: CV.int cr :: CV.int cp :: CV.int cdl :: CV.dat cps :: CV.dat css :: CV.bool cv :: CV.int p1 :: CV.int p2 :: CV.int p3 :: CV.int p4 :: CV.bool pf :: CV.int p6 :: CV.dat pw :: CV.dat ph :: CV.int q1 :: CV.int q2 :: CV.int q3 :: CV.int q4 :: CV.bool qf :: CV.int q6 :: CV.dat qw :: CV.dat qh :: CV.int r1 :: CV.int r2 :: CV.int r3 :: CV.int r4 :: CV.bool rf :: CV.int r6 :: CV.dat rw :: CV.dat rh :: CV.dat fl :: CV.dat wa :: CV.dat wb :: CV.dat wc :: CV.int now :: CV.int clk :: CV.bool rt :: CV.int st :: [])) (h0 : n ≠ 0) (h1 : n ≠ 1) (h2 : n ≠ 2) : spDurG (⟨(CV.int cn :: CV.int cr :: CV.int cp :: CV.int cdl :: CV.dat cps :: CV.dat css :: CV.bool cv :: CV.int p1 :: CV.int p2 :: CV.int p3 :: CV.int p4 :: CV.bool pf :: CV.int p6 :: CV.dat pw :: CV.dat ph :: CV.int q1 :: CV.int q2 :: CV.int q3 :: CV.int q4 :: CV.bool qf :: CV.int q6 :: CV.dat qw :: CV.dat qh :: CV.int r1 :: CV.int r2 :: CV.int r3 :: CV.int r4 :: CV.bool rf :: CV.int r6 :: CV.dat rw :: CV.dat rh :: CV.dat fl :: CV.dat wa :: CV.dat wb :: CV.dat wc :: CV.int now :: CV.int clk :: CV.bool rt :: CV.int st :: []), h⟩, n, ew) = .no := by
  match n, h0, h1, h2 with
  | .ofNat 0, h0, _, _ => exact absurd rfl h0
  | .ofNat 1, _, h1, _ => exact absurd rfl h1
  | .ofNat 2, _, _, h2 => exact absurd rfl h2
  | .ofNat (m + 3), _, _, _ => rfl
  | .negSucc _, _, _, _ => rfl

theorem lawDurG : Law Try.prog 76 (((rdCells grK).three rdInt rdU8).sp spDurG) := by
  refine law_in _ (by kernel_rfl) fun H w ⟨⟨cs, hsh⟩, node, ew⟩ hok => ?_
  obtain ⟨cn, cr, cp, cdl, cps, css, cv, p1, p2, p3, p4, pf, p6, pw, ph, q1, q2, q3, q4, qf, q6, qw, qh, r1, r2, r3, r4, rf, r6, rw, rh, fl, wa, wb, wc, now, clk, rt, st, rfl⟩ := gr_shape hsh
  by_cases e0 : node = 0
  · subst e0
    rw [show (0 : Int) = Int.ofNat 0 from rfl, spDurG_eq0]
    intro hp
    obtain ⟨h1, h2, h3⟩ := hp _ (List.mem_singleton.2 rfl)
    exact dur0_ent h2 h1 h3
  by_cases e1 : node = 1
  · subst e1
    rw [show (1 : Int) = Int.ofNat 1 from rfl, spDurG_eq1]
    intro hp
    obtain ⟨h1, h2, h3⟩ := hp _ (List.mem_singleton.2 rfl)
    exact dur1_ent h2 h1 h3
  by_cases e2 : node = 2
  · subst e2
    rw [show (2 : Int) = Int.ofNat 2 from rfl, spDurG_eq2]
    intro hp
    obtain ⟨h1, h2, h3⟩ := hp _ (List.mem_singleton.2 rfl)
    exact dur2_ent h2 h1 h3
  · rw [spDurG_no hsh e0 e1 e2]
    trivial
end Go.Proofs.Ytoechplbhbalaaa
end
section
/- Layer 21: the contracts of the group's inner functions. -/
open Go Go.Proofs Sx
namespace Go.Proofs.Ytoechplbhbalaaa
noncomputable def ctR : Ctrs := (79, ctrOf (((rdCells grK).two rdMsg).sp spRecv)) :: (76, ctrOf (((rdCells grK).three rdInt rdU8).sp spDurG)) :: (47, ctrOf (((rdCells grK).two rdEv).sp spTick)) :: ctG
theorem ctROk : Ctrs.Ok Try.prog ctR := by
  intro x hx
  rcases List.mem_cons.1 hx with rfl | hx
  · exact ctrOf_ok lawRecv
  rcases List.mem_cons.1 hx with rfl | hx
  · exact ctrOf_ok lawDurG
  rcases List.mem_cons.1 hx with rfl | hx
  · exact ctrOf_ok lawTick
  · exact ctGOk _ hx
end Go.Proofs.Ytoechplbhbalaaa
end
section
/- Layer 21: flight and step, walked. -/
open Go Go.Proofs Sx
namespace Go.Proofs.Ytoechplbhbalaaa
set_option maxRecDepth 100000
set_option maxHeartbeats 0
noncomputable def stepL (cn cr cp cdl : Int) (cps css : D) (cv : Bool) (p1 p2 p3 p4 : Int) (pf : Bool) (p6 : Int) (pw ph : D) (q1 q2 q3 q4 : Int) (qf : Bool) (q6 : Int) (qw qh : D) (r1 r2 r3 r4 : Int) (rf : Bool) (r6 : Int) (rw rh : D) (fl wa wb wc : D) (now clk : Int) (rt : Bool) (st : Int) (ek en ew node : Int) : Conf := Conf.mk (SFrm.mk 45 none none [Item.code (cAt Try.prog 45 [1, 1, 0]), Item.code (cAt Try.prog 45 [1, 1, 1])] (mkJ 0 [(2, .ptr 0 0), (3, .ptr 1 0), (4, .ptr 2 0), (5, .int .i64 node)] 0 108)) []
 [(0, .cells 97 [.int .i64 cn, .int .i64 cr, .int .i64 cp, .int .i64 cdl, .dat cps, .dat css, .bool cv, .int .i64 p1, .int .i64 p2, .int .i64 p3, .int .i64 p4, .bool pf, .int .i64 p6, .dat pw, .dat ph, .int .i64 q1, .int .i64 q2, .int .i64 q3, .int .i64 q4, .bool qf, .int .i64 q6, .dat qw, .dat qh, .int .i64 r1, .int .i64 r2, .int .i64 r3, .int .i64 r4, .bool rf, .int .i64 r6, .dat rw, .dat rh, .dat fl, .dat wa, .dat wb, .dat wc, .int .i64 now, .int .i64 clk, .bool rt, .int .i64 st]), (1, .cells 101 [.int .u8 ek, .int .u8 en, .int .u8 ew]), (2, .cells 97 grZero)]
section
variable (cn cr cp cdl : Int) (cps css : D) (cv : Bool) (p1 p2 p3 p4 : Int) (pf : Bool) (p6 : Int) (pw ph : D) (q1 q2 q3 q4 : Int) (qf : Bool) (q6 : Int) (qw qh : D) (r1 r2 r3 r4 : Int) (rf : Bool) (r6 : Int) (rw rh : D) (fl wa wb wc : D) (now clk : Int) (rt : Bool) (st : Int) (ek en ew : Int)
theorem flight_in : 
 let z3 := (D.sub fl (Int.toNat (IntKind.wrap .i64 (Int.tmod (IntKind.wrap .i64 ew) (↑(D.len fl) : Int) + 1))) (Int.toNat (↑(D.len fl) : Int)))
 let z5 : Tree := (.ret (.agg [.int .i64 cn, .int .i64 cr, .int .i64 cp, .int .i64 cdl, .dat cps, .dat css, .bool cv, .int .i64 p1, .int .i64 p2, .int .i64 p3, .int .i64 p4, .bool pf, .int .i64 p6, .dat pw, .dat ph, .int .i64 q1, .int .i64 q2, .int .i64 q3, .int .i64 q4, .bool qf, .int .i64 q6, .dat qw, .dat qh, .int .i64 r1, .int .i64 r2, .int .i64 r3, .int .i64 r4, .bool rf, .int .i64 r6, .dat rw, .dat rh, .dat fl, .dat wa, .dat wb, .dat wc, .int .i64 now, .int .i64 clk, .bool rt, .int .i64 st]))
 let z6 := (Int.toNat (Int.tmod (IntKind.wrap .i64 ew) (↑(D.len fl) : Int)))
 let z1 := (MsgD.msg (MsgD.mk (D.getInt fl z6 0) (D.getInt fl z6 1) (D.getInt fl z6 2) (D.getInt fl z6 3) (D.getInt fl z6 4) (D.getInt fl z6 5) (D.cell fl z6 6) (D.cell fl z6 7)))
 let z4 := (D.rows (D.sub fl 0 z6))
 let z7 : List CV := [.int cn, .int cr, .int cp, .int cdl, .dat cps, .dat css, .bool cv, .int p1, .int p2, .int p3, .int p4, .bool pf, .int p6, .dat pw, .dat ph, .int q1, .int q2, .int q3, .int q4, .bool qf, .int q6, .dat qw, .dat qh, .int r1, .int r2, .int r3, .int r4, .bool rf, .int r6, .dat rw, .dat rh, .dat fl, .dat wa, .dat wb, .dat wc, .int now, .int clk, .bool rt, .int st]
 let z2 := (recvG (grOf z7) z1)
 exec Try.prog ctR 900 (entry Try.prog 48 [.agg [.int .i64 cn, .int .i64 cr, .int .i64 cp, .int .i64 cdl, .dat cps, .dat css, .bool cv, .int .i64 p1, .int .i64 p2, .int .i64 p3, .int .i64 p4, .bool pf, .int .i64 p6, .dat pw, .dat ph, .int .i64 q1, .int .i64 q2, .int .i64 q3, .int .i64 q4, .bool qf, .int .i64 q6, .dat qw, .dat qh, .int .i64 r1, .int .i64 r2, .int .i64 r3, .int .i64 r4, .bool rf, .int .i64 r6, .dat rw, .dat rh, .dat fl, .dat wa, .dat wb, .dat wc, .int .i64 now, .int .i64 clk, .bool rt, .int .i64 st], .agg [.int .u8 ek, .int .u8 en, .int .u8 ew]]) =
 Tree.br (decide ((↑(D.len fl) : Int) = 0)) z5 (.need ((↑(D.len fl) : Int) ≠ 0) (.need (0 ≤ Int.tmod (IntKind.wrap .i64 ew) (↑(D.len fl) : Int) ∧ Int.tmod (IntKind.wrap .i64 ew) (↑(D.len fl) : Int) < (↑(D.len fl) : Int) ∧ D.sz fl = 8)
 (.need (D.HasCells fl z6 0 [FT.int .i64, FT.int .i64, FT.int .i64, FT.int .i64, FT.int .i64, FT.int .i64, FT.slc, FT.slc]) (.need ((7 : Int) ≠ 0) (.br (Int.tmod ek 7 != 4) (.all fun hs => .need (0 ≤ (↑0 : Int) ∧
 (↑0 : Int) ≤ Int.tmod (IntKind.wrap .i64 ew) (↑(D.len fl) : Int) ∧ Int.tmod (IntKind.wrap .i64 ew) (↑(D.len fl) : Int) ≤ (↑(D.len fl) : Int) ∧ D.Fits fl 8) (.need (D.sz (D.slc (D.hd (hs 0 0)) 8 []) = 8 ∧ D.Fits
 (D.sub fl 0 z6) 8 ∧ (D.len (D.slc (D.hd (hs 0 0)) 8 []) + D.len (D.sub fl 0 z6)) * 96 ≤ 140737488355328 ∧ D.len (D.slc (D.hd (hs 0 0)) 8 []) + D.len (D.sub fl 0 z6) ≤ 9223372036854775807) (.need (0 ≤ IntKind.wrap .i64
 (Int.tmod (IntKind.wrap .i64 ew) (↑(D.len fl) : Int) + 1) ∧ IntKind.wrap .i64 (Int.tmod (IntKind.wrap .i64 ew) (↑(D.len fl) : Int) + 1) ≤ (↑(D.len fl) : Int) ∧ (↑(D.len fl) : Int) ≤ (↑(D.len fl) : Int) ∧ D.Fits fl 8)
 (.need (D.sz (D.slc (D.hd (hs 5 0)) 8 (List.append (D.rows (D.slc (D.hd (hs 0 0)) 8 [])) z4)) = 8 ∧ D.Fits z3 8 ∧ (D.len (D.slc (D.hd (hs 5 0)) 8 (List.append (D.rows (D.slc (D.hd (hs 0 0)) 8 [])) z4)) + D.len z3) * 96 ≤ 140737488355328 ∧ D.len
 (D.slc (D.hd (hs 5 0)) 8 (List.append (D.rows (D.slc (D.hd (hs 0 0)) 8 [])) z4)) + D.len z3 ≤ 9223372036854775807) (.need ((7 : Int) ≠ 0) (.br (decide (Int.tmod ek 7 = 5)) (.ret (.agg [.int .i64 cn, .int .i64 cr, .int .i64 cp, .int .i64 cdl, .dat cps, .dat css, .bool cv, .int .i64 p1, .int .i64 p2, .int .i64 p3, .int .i64 p4, .bool pf, .int .i64 p6, .dat pw, .dat ph, .int .i64 q1, .int .i64 q2, .int .i64 q3, .int .i64 q4, .bool qf, .int .i64 q6, .dat qw, .dat qh, .int .i64 r1, .int .i64 r2, .int .i64 r3, .int .i64 r4, .bool rf, .int .i64 r6, .dat rw, .dat rh, .dat
 (D.slc (D.hd (hs 11 0)) 8 (List.append (D.rows (D.slc (D.hd (hs 5 0)) 8 (List.append (D.rows (D.slc (D.hd (hs 0 0)) 8 [])) z4))) (D.rows z3))), .dat wa, .dat wb, .dat wc, .int .i64 now, .int .i64 clk, .bool rt, .int .i64 st]))
 (.need (GrRight [.int cn, .int cr, .int cp, .int cdl, .dat cps, .dat css, .bool cv, .int p1, .int p2, .int p3, .int p4, .bool pf, .int p6, .dat pw, .dat ph, .int q1, .int q2, .int q3, .int q4, .bool qf, .int q6, .dat qw, .dat qh, .int r1, .int r2, .int r3, .int r4, .bool rf, .int r6, .dat rw, .dat rh, .dat
 (D.slc (D.hd (hs 11 0)) 8 (List.append (D.rows (D.slc (D.hd (hs 5 0)) 8 (List.append (D.rows (D.slc (D.hd (hs 0 0)) 8 [])) z4))) (D.rows z3))), .dat wa, .dat wb, .dat wc, .int now, .int clk, .bool rt, .int st] ∧ True ∧ Gr.right
 (recvG (grOf [.int cn, .int cr, .int cp, .int cdl, .dat cps, .dat css, .bool cv, .int p1, .int p2, .int p3, .int p4, .bool pf, .int p6, .dat pw, .dat ph, .int q1, .int q2, .int q3, .int q4, .bool qf, .int q6, .dat qw, .dat qh, .int r1, .int r2, .int r3, .int r4, .bool rf, .int r6, .dat rw, .dat rh, .dat
 (D.slc (D.hd (hs 11 0)) 8 (List.append (D.rows (D.slc (D.hd (hs 5 0)) 8 (List.append (D.rows (D.slc (D.hd (hs 0 0)) 8 [])) z4))) (D.rows z3))), .dat wa, .dat wb, .dat wc, .int now, .int clk, .bool rt, .int st]) z1) = true)
 (.all fun hs_1 => .ret (.agg [.int .i64 (Co.nodes (Gr.c (recvG (grOf [.int cn, .int cr, .int cp, .int cdl, .dat cps, .dat css, .bool cv, .int p1, .int p2, .int p3, .int p4, .bool pf, .int p6, .dat pw, .dat ph, .int q1, .int q2, .int q3, .int q4, .bool qf, .int q6, .dat qw, .dat qh, .int r1, .int r2, .int r3, .int r4, .bool rf, .int r6, .dat rw, .dat rh, .dat
 (D.slc (D.hd (hs 11 0)) 8 (List.append (D.rows (D.slc (D.hd (hs 5 0)) 8 (List.append (D.rows (D.slc (D.hd (hs 0 0)) 8 [])) z4))) (D.rows z3))), .dat wa, .dat wb, .dat wc, .int now, .int clk, .bool rt, .int st]) z1))), .int .i64
 (Co.round (Gr.c (recvG (grOf [.int cn, .int cr, .int cp, .int cdl, .dat cps, .dat css, .bool cv, .int p1, .int p2, .int p3, .int p4, .bool pf, .int p6, .dat pw, .dat ph, .int q1, .int q2, .int q3, .int q4, .bool qf, .int q6, .dat qw, .dat qh, .int r1, .int r2, .int r3, .int r4, .bool rf, .int r6, .dat rw, .dat rh, .dat
 (D.slc (D.hd (hs 11 0)) 8 (List.append (D.rows (D.slc (D.hd (hs 5 0)) 8 (List.append (D.rows (D.slc (D.hd (hs 0 0)) 8 [])) z4))) (D.rows z3))), .dat wa, .dat wb, .dat wc, .int now, .int clk, .bool rt, .int st]) z1))), .int .i64
 (Co.phase (Gr.c (recvG (grOf [.int cn, .int cr, .int cp, .int cdl, .dat cps, .dat css, .bool cv, .int p1, .int p2, .int p3, .int p4, .bool pf, .int p6, .dat pw, .dat ph, .int q1, .int q2, .int q3, .int q4, .bool qf, .int q6, .dat qw, .dat qh, .int r1, .int r2, .int r3, .int r4, .bool rf, .int r6, .dat rw, .dat rh, .dat
 (D.slc (D.hd (hs 11 0)) 8 (List.append (D.rows (D.slc (D.hd (hs 5 0)) 8 (List.append (D.rows (D.slc (D.hd (hs 0 0)) 8 [])) z4))) (D.rows z3))), .dat wa, .dat wb, .dat wc, .int now, .int clk, .bool rt, .int st]) z1))), .int .i64
 (Co.deadline (Gr.c (recvG (grOf [.int cn, .int cr, .int cp, .int cdl, .dat cps, .dat css, .bool cv, .int p1, .int p2, .int p3, .int p4, .bool pf, .int p6, .dat pw, .dat ph, .int q1, .int q2, .int q3, .int q4, .bool qf, .int q6, .dat qw, .dat qh, .int r1, .int r2, .int r3, .int r4, .bool rf, .int r6, .dat rw, .dat rh, .dat
 (D.slc (D.hd (hs 11 0)) 8 (List.append (D.rows (D.slc (D.hd (hs 5 0)) 8 (List.append (D.rows (D.slc (D.hd (hs 0 0)) 8 [])) z4))) (D.rows z3))), .dat wa, .dat wb, .dat wc, .int now, .int clk, .bool rt, .int st]) z1))), .dat
 (D.like (hs_1 0 0) (Co.positions (Gr.c (recvG (grOf [.int cn, .int cr, .int cp, .int cdl, .dat cps, .dat css, .bool cv, .int p1, .int p2, .int p3, .int p4, .bool pf, .int p6, .dat pw, .dat ph, .int q1, .int q2, .int q3, .int q4, .bool qf, .int q6, .dat qw, .dat qh, .int r1, .int r2, .int r3, .int r4, .bool rf, .int r6, .dat rw, .dat rh, .dat
 (D.slc (D.hd (hs 11 0)) 8 (List.append (D.rows (D.slc (D.hd (hs 5 0)) 8 (List.append (D.rows (D.slc (D.hd (hs 0 0)) 8 [])) z4))) (D.rows z3))), .dat wa, .dat wb, .dat wc, .int now, .int clk, .bool rt, .int st]) z1)))), .dat
 (D.like (hs_1 0 1) (Co.seen (Gr.c (recvG (grOf [.int cn, .int cr, .int cp, .int cdl, .dat cps, .dat css, .bool cv, .int p1, .int p2, .int p3, .int p4, .bool pf, .int p6, .dat pw, .dat ph, .int q1, .int q2, .int q3, .int q4, .bool qf, .int q6, .dat qw, .dat qh, .int r1, .int r2, .int r3, .int r4, .bool rf, .int r6, .dat rw, .dat rh, .dat
 (D.slc (D.hd (hs 11 0)) 8 (List.append (D.rows (D.slc (D.hd (hs 5 0)) 8 (List.append (D.rows (D.slc (D.hd (hs 0 0)) 8 [])) z4))) (D.rows z3))), .dat wa, .dat wb, .dat wc, .int now, .int clk, .bool rt, .int st]) z1)))), .bool
 (Co.valid (Gr.c (recvG (grOf [.int cn, .int cr, .int cp, .int cdl, .dat cps, .dat css, .bool cv, .int p1, .int p2, .int p3, .int p4, .bool pf, .int p6, .dat pw, .dat ph, .int q1, .int q2, .int q3, .int q4, .bool qf, .int q6, .dat qw, .dat qh, .int r1, .int r2, .int r3, .int r4, .bool rf, .int r6, .dat rw, .dat rh, .dat
 (D.slc (D.hd (hs 11 0)) 8 (List.append (D.rows (D.slc (D.hd (hs 5 0)) 8 (List.append (D.rows (D.slc (D.hd (hs 0 0)) 8 [])) z4))) (D.rows z3))), .dat wa, .dat wb, .dat wc, .int now, .int clk, .bool rt, .int st]) z1))), .int .i64
 (Mb.round (Gr.node (recvG (grOf [.int cn, .int cr, .int cp, .int cdl, .dat cps, .dat css, .bool cv, .int p1, .int p2, .int p3, .int p4, .bool pf, .int p6, .dat pw, .dat ph, .int q1, .int q2, .int q3, .int q4, .bool qf, .int q6, .dat qw, .dat qh, .int r1, .int r2, .int r3, .int r4, .bool rf, .int r6, .dat rw, .dat rh, .dat
 (D.slc (D.hd (hs 11 0)) 8 (List.append (D.rows (D.slc (D.hd (hs 5 0)) 8 (List.append (D.rows (D.slc (D.hd (hs 0 0)) 8 [])) z4))) (D.rows z3))), .dat wa, .dat wb, .dat wc, .int now, .int clk, .bool rt, .int st]) z1)
 (Fin.ofNat 3 0))), .int .i64 (Mb.position (Gr.node (recvG (grOf [.int cn, .int cr, .int cp, .int cdl, .dat cps, .dat css, .bool cv, .int p1, .int p2, .int p3, .int p4, .bool pf, .int p6, .dat pw, .dat ph, .int q1, .int q2, .int q3, .int q4, .bool qf, .int q6, .dat qw, .dat qh, .int r1, .int r2, .int r3, .int r4, .bool rf, .int r6, .dat rw, .dat rh, .dat
 (D.slc (D.hd (hs 11 0)) 8 (List.append (D.rows (D.slc (D.hd (hs 5 0)) 8 (List.append (D.rows (D.slc (D.hd (hs 0 0)) 8 [])) z4))) (D.rows z3))), .dat wa, .dat wb, .dat wc, .int now, .int clk, .bool rt, .int st]) z1)
 (Fin.ofNat 3 0))), .int .i64 (Mb.thawed (Gr.node (recvG (grOf [.int cn, .int cr, .int cp, .int cdl, .dat cps, .dat css, .bool cv, .int p1, .int p2, .int p3, .int p4, .bool pf, .int p6, .dat pw, .dat ph, .int q1, .int q2, .int q3, .int q4, .bool qf, .int q6, .dat qw, .dat qh, .int r1, .int r2, .int r3, .int r4, .bool rf, .int r6, .dat rw, .dat rh, .dat
 (D.slc (D.hd (hs 11 0)) 8 (List.append (D.rows (D.slc (D.hd (hs 5 0)) 8 (List.append (D.rows (D.slc (D.hd (hs 0 0)) 8 [])) z4))) (D.rows z3))), .dat wa, .dat wb, .dat wc, .int now, .int clk, .bool rt, .int st]) z1)
 (Fin.ofNat 3 0))), .int .i64 (Mb.issued (Gr.node (recvG (grOf [.int cn, .int cr, .int cp, .int cdl, .dat cps, .dat css, .bool cv, .int p1, .int p2, .int p3, .int p4, .bool pf, .int p6, .dat pw, .dat ph, .int q1, .int q2, .int q3, .int q4, .bool qf, .int q6, .dat qw, .dat qh, .int r1, .int r2, .int r3, .int r4, .bool rf, .int r6, .dat rw, .dat rh, .dat
 (D.slc (D.hd (hs 11 0)) 8 (List.append (D.rows (D.slc (D.hd (hs 5 0)) 8 (List.append (D.rows (D.slc (D.hd (hs 0 0)) 8 [])) z4))) (D.rows z3))), .dat wa, .dat wb, .dat wc, .int now, .int clk, .bool rt, .int st]) z1)
 (Fin.ofNat 3 0))), .bool (Mb.frozen (Gr.node (recvG (grOf [.int cn, .int cr, .int cp, .int cdl, .dat cps, .dat css, .bool cv, .int p1, .int p2, .int p3, .int p4, .bool pf, .int p6, .dat pw, .dat ph, .int q1, .int q2, .int q3, .int q4, .bool qf, .int q6, .dat qw, .dat qh, .int r1, .int r2, .int r3, .int r4, .bool rf, .int r6, .dat rw, .dat rh, .dat
 (D.slc (D.hd (hs 11 0)) 8 (List.append (D.rows (D.slc (D.hd (hs 5 0)) 8 (List.append (D.rows (D.slc (D.hd (hs 0 0)) 8 [])) z4))) (D.rows z3))), .dat wa, .dat wb, .dat wc, .int now, .int clk, .bool rt, .int st]) z1)
 (Fin.ofNat 3 0))), .int .i64 (Mb.upto (Gr.node (recvG (grOf [.int cn, .int cr, .int cp, .int cdl, .dat cps, .dat css, .bool cv, .int p1, .int p2, .int p3, .int p4, .bool pf, .int p6, .dat pw, .dat ph, .int q1, .int q2, .int q3, .int q4, .bool qf, .int q6, .dat qw, .dat qh, .int r1, .int r2, .int r3, .int r4, .bool rf, .int r6, .dat rw, .dat rh, .dat
 (D.slc (D.hd (hs 11 0)) 8 (List.append (D.rows (D.slc (D.hd (hs 5 0)) 8 (List.append (D.rows (D.slc (D.hd (hs 0 0)) 8 [])) z4))) (D.rows z3))), .dat wa, .dat wb, .dat wc, .int now, .int clk, .bool rt, .int st]) z1)
 (Fin.ofNat 3 0))), .dat (D.like (hs_1 0 2) (Mb.waiting (Gr.node (recvG (grOf [.int cn, .int cr, .int cp, .int cdl, .dat cps, .dat css, .bool cv, .int p1, .int p2, .int p3, .int p4, .bool pf, .int p6, .dat pw, .dat ph, .int q1, .int q2, .int q3, .int q4, .bool qf, .int q6, .dat qw, .dat qh, .int r1, .int r2, .int r3, .int r4, .bool rf, .int r6, .dat rw, .dat rh, .dat
 (D.slc (D.hd (hs 11 0)) 8 (List.append (D.rows (D.slc (D.hd (hs 5 0)) 8 (List.append (D.rows (D.slc (D.hd (hs 0 0)) 8 [])) z4))) (D.rows z3))), .dat wa, .dat wb, .dat wc, .int now, .int clk, .bool rt, .int st]) z1)
 (Fin.ofNat 3 0)))), .dat (D.like (hs_1 0 3) (Mb.held (Gr.node (recvG (grOf [.int cn, .int cr, .int cp, .int cdl, .dat cps, .dat css, .bool cv, .int p1, .int p2, .int p3, .int p4, .bool pf, .int p6, .dat pw, .dat ph, .int q1, .int q2, .int q3, .int q4, .bool qf, .int q6, .dat qw, .dat qh, .int r1, .int r2, .int r3, .int r4, .bool rf, .int r6, .dat rw, .dat rh, .dat
 (D.slc (D.hd (hs 11 0)) 8 (List.append (D.rows (D.slc (D.hd (hs 5 0)) 8 (List.append (D.rows (D.slc (D.hd (hs 0 0)) 8 [])) z4))) (D.rows z3))), .dat wa, .dat wb, .dat wc, .int now, .int clk, .bool rt, .int st]) z1)
 (Fin.ofNat 3 0)))), .int .i64 (Mb.round (Gr.node (recvG (grOf [.int cn, .int cr, .int cp, .int cdl, .dat cps, .dat css, .bool cv, .int p1, .int p2, .int p3, .int p4, .bool pf, .int p6, .dat pw, .dat ph, .int q1, .int q2, .int q3, .int q4, .bool qf, .int q6, .dat qw, .dat qh, .int r1, .int r2, .int r3, .int r4, .bool rf, .int r6, .dat rw, .dat rh, .dat
 (D.slc (D.hd (hs 11 0)) 8 (List.append (D.rows (D.slc (D.hd (hs 5 0)) 8 (List.append (D.rows (D.slc (D.hd (hs 0 0)) 8 [])) z4))) (D.rows z3))), .dat wa, .dat wb, .dat wc, .int now, .int clk, .bool rt, .int st]) z1)
 (Fin.ofNat 3 1))), .int .i64 (Mb.position (Gr.node (recvG (grOf [.int cn, .int cr, .int cp, .int cdl, .dat cps, .dat css, .bool cv, .int p1, .int p2, .int p3, .int p4, .bool pf, .int p6, .dat pw, .dat ph, .int q1, .int q2, .int q3, .int q4, .bool qf, .int q6, .dat qw, .dat qh, .int r1, .int r2, .int r3, .int r4, .bool rf, .int r6, .dat rw, .dat rh, .dat
 (D.slc (D.hd (hs 11 0)) 8 (List.append (D.rows (D.slc (D.hd (hs 5 0)) 8 (List.append (D.rows (D.slc (D.hd (hs 0 0)) 8 [])) z4))) (D.rows z3))), .dat wa, .dat wb, .dat wc, .int now, .int clk, .bool rt, .int st]) z1)
 (Fin.ofNat 3 1))), .int .i64 (Mb.thawed (Gr.node (recvG (grOf [.int cn, .int cr, .int cp, .int cdl, .dat cps, .dat css, .bool cv, .int p1, .int p2, .int p3, .int p4, .bool pf, .int p6, .dat pw, .dat ph, .int q1, .int q2, .int q3, .int q4, .bool qf, .int q6, .dat qw, .dat qh, .int r1, .int r2, .int r3, .int r4, .bool rf, .int r6, .dat rw, .dat rh, .dat
 (D.slc (D.hd (hs 11 0)) 8 (List.append (D.rows (D.slc (D.hd (hs 5 0)) 8 (List.append (D.rows (D.slc (D.hd (hs 0 0)) 8 [])) z4))) (D.rows z3))), .dat wa, .dat wb, .dat wc, .int now, .int clk, .bool rt, .int st]) z1)
 (Fin.ofNat 3 1))), .int .i64 (Mb.issued (Gr.node (recvG (grOf [.int cn, .int cr, .int cp, .int cdl, .dat cps, .dat css, .bool cv, .int p1, .int p2, .int p3, .int p4, .bool pf, .int p6, .dat pw, .dat ph, .int q1, .int q2, .int q3, .int q4, .bool qf, .int q6, .dat qw, .dat qh, .int r1, .int r2, .int r3, .int r4, .bool rf, .int r6, .dat rw, .dat rh, .dat
 (D.slc (D.hd (hs 11 0)) 8 (List.append (D.rows (D.slc (D.hd (hs 5 0)) 8 (List.append (D.rows (D.slc (D.hd (hs 0 0)) 8 [])) z4))) (D.rows z3))), .dat wa, .dat wb, .dat wc, .int now, .int clk, .bool rt, .int st]) z1)
 (Fin.ofNat 3 1))), .bool (Mb.frozen (Gr.node (recvG (grOf [.int cn, .int cr, .int cp, .int cdl, .dat cps, .dat css, .bool cv, .int p1, .int p2, .int p3, .int p4, .bool pf, .int p6, .dat pw, .dat ph, .int q1, .int q2, .int q3, .int q4, .bool qf, .int q6, .dat qw, .dat qh, .int r1, .int r2, .int r3, .int r4, .bool rf, .int r6, .dat rw, .dat rh, .dat
 (D.slc (D.hd (hs 11 0)) 8 (List.append (D.rows (D.slc (D.hd (hs 5 0)) 8 (List.append (D.rows (D.slc (D.hd (hs 0 0)) 8 [])) z4))) (D.rows z3))), .dat wa, .dat wb, .dat wc, .int now, .int clk, .bool rt, .int st]) z1)
 (Fin.ofNat 3 1))), .int .i64 (Mb.upto (Gr.node (recvG (grOf [.int cn, .int cr, .int cp, .int cdl, .dat cps, .dat css, .bool cv, .int p1, .int p2, .int p3, .int p4, .bool pf, .int p6, .dat pw, .dat ph, .int q1, .int q2, .int q3, .int q4, .bool qf, .int q6, .dat qw, .dat qh, .int r1, .int r2, .int r3, .int r4, .bool rf, .int r6, .dat rw, .dat rh, .dat
 (D.slc (D.hd (hs 11 0)) 8 (List.append (D.rows (D.slc (D.hd (hs 5 0)) 8 (List.append (D.rows (D.slc (D.hd (hs 0 0)) 8 [])) z4))) (D.rows z3))), .dat wa, .dat wb, .dat wc, .int now, .int clk, .bool rt, .int st]) z1)
 (Fin.ofNat 3 1))), .dat (D.like (hs_1 0 4) (Mb.waiting (Gr.node (recvG (grOf [.int cn, .int cr, .int cp, .int cdl, .dat cps, .dat css, .bool cv, .int p1, .int p2, .int p3, .int p4, .bool pf, .int p6, .dat pw, .dat ph, .int q1, .int q2, .int q3, .int q4, .bool qf, .int q6, .dat qw, .dat qh, .int r1, .int r2, .int r3, .int r4, .bool rf, .int r6, .dat rw, .dat rh, .dat
 (D.slc (D.hd (hs 11 0)) 8 (List.append (D.rows (D.slc (D.hd (hs 5 0)) 8 (List.append (D.rows (D.slc (D.hd (hs 0 0)) 8 [])) z4))) (D.rows z3))), .dat wa, .dat wb, .dat wc, .int now, .int clk, .bool rt, .int st]) z1)
 (Fin.ofNat 3 1)))), .dat (D.like (hs_1 0 5) (Mb.held (Gr.node (recvG (grOf [.int cn, .int cr, .int cp, .int cdl, .dat cps, .dat css, .bool cv, .int p1, .int p2, .int p3, .int p4, .bool pf, .int p6, .dat pw, .dat ph, .int q1, .int q2, .int q3, .int q4, .bool qf, .int q6, .dat qw, .dat qh, .int r1, .int r2, .int r3, .int r4, .bool rf, .int r6, .dat rw, .dat rh, .dat
 (D.slc (D.hd (hs 11 0)) 8 (List.append (D.rows (D.slc (D.hd (hs 5 0)) 8 (List.append (D.rows (D.slc (D.hd (hs 0 0)) 8 [])) z4))) (D.rows z3))), .dat wa, .dat wb, .dat wc, .int now, .int clk, .bool rt, .int st]) z1)
 (Fin.ofNat 3 1)))), .int .i64 (Mb.round (Gr.node (recvG (grOf [.int cn, .int cr, .int cp, .int cdl, .dat cps, .dat css, .bool cv, .int p1, .int p2, .int p3, .int p4, .bool pf, .int p6, .dat pw, .dat ph, .int q1, .int q2, .int q3, .int q4, .bool qf, .int q6, .dat qw, .dat qh, .int r1, .int r2, .int r3, .int r4, .bool rf, .int r6, .dat rw, .dat rh, .dat
 (D.slc (D.hd (hs 11 0)) 8 (List.append (D.rows (D.slc (D.hd (hs 5 0)) 8 (List.append (D.rows (D.slc (D.hd (hs 0 0)) 8 [])) z4))) (D.rows z3))), .dat wa, .dat wb, .dat wc, .int now, .int clk, .bool rt, .int st]) z1)
 (Fin.ofNat 3 2))), .int .i64 (Mb.position (Gr.node (recvG (grOf [.int cn, .int cr, .int cp, .int cdl, .dat cps, .dat css, .bool cv, .int p1, .int p2, .int p3, .int p4, .bool pf, .int p6, .dat pw, .dat ph, .int q1, .int q2, .int q3, .int q4, .bool qf, .int q6, .dat qw, .dat qh, .int r1, .int r2, .int r3, .int r4, .bool rf, .int r6, .dat rw, .dat rh, .dat
 (D.slc (D.hd (hs 11 0)) 8 (List.append (D.rows (D.slc (D.hd (hs 5 0)) 8 (List.append (D.rows (D.slc (D.hd (hs 0 0)) 8 [])) z4))) (D.rows z3))), .dat wa, .dat wb, .dat wc, .int now, .int clk, .bool rt, .int st]) z1)
 (Fin.ofNat 3 2))), .int .i64 (Mb.thawed (Gr.node (recvG (grOf [.int cn, .int cr, .int cp, .int cdl, .dat cps, .dat css, .bool cv, .int p1, .int p2, .int p3, .int p4, .bool pf, .int p6, .dat pw, .dat ph, .int q1, .int q2, .int q3, .int q4, .bool qf, .int q6, .dat qw, .dat qh, .int r1, .int r2, .int r3, .int r4, .bool rf, .int r6, .dat rw, .dat rh, .dat
 (D.slc (D.hd (hs 11 0)) 8 (List.append (D.rows (D.slc (D.hd (hs 5 0)) 8 (List.append (D.rows (D.slc (D.hd (hs 0 0)) 8 [])) z4))) (D.rows z3))), .dat wa, .dat wb, .dat wc, .int now, .int clk, .bool rt, .int st]) z1)
 (Fin.ofNat 3 2))), .int .i64 (Mb.issued (Gr.node (recvG (grOf [.int cn, .int cr, .int cp, .int cdl, .dat cps, .dat css, .bool cv, .int p1, .int p2, .int p3, .int p4, .bool pf, .int p6, .dat pw, .dat ph, .int q1, .int q2, .int q3, .int q4, .bool qf, .int q6, .dat qw, .dat qh, .int r1, .int r2, .int r3, .int r4, .bool rf, .int r6, .dat rw, .dat rh, .dat
 (D.slc (D.hd (hs 11 0)) 8 (List.append (D.rows (D.slc (D.hd (hs 5 0)) 8 (List.append (D.rows (D.slc (D.hd (hs 0 0)) 8 [])) z4))) (D.rows z3))), .dat wa, .dat wb, .dat wc, .int now, .int clk, .bool rt, .int st]) z1)
 (Fin.ofNat 3 2))), .bool (Mb.frozen (Gr.node (recvG (grOf [.int cn, .int cr, .int cp, .int cdl, .dat cps, .dat css, .bool cv, .int p1, .int p2, .int p3, .int p4, .bool pf, .int p6, .dat pw, .dat ph, .int q1, .int q2, .int q3, .int q4, .bool qf, .int q6, .dat qw, .dat qh, .int r1, .int r2, .int r3, .int r4, .bool rf, .int r6, .dat rw, .dat rh, .dat
 (D.slc (D.hd (hs 11 0)) 8 (List.append (D.rows (D.slc (D.hd (hs 5 0)) 8 (List.append (D.rows (D.slc (D.hd (hs 0 0)) 8 [])) z4))) (D.rows z3))), .dat wa, .dat wb, .dat wc, .int now, .int clk, .bool rt, .int st]) z1)
 (Fin.ofNat 3 2))), .int .i64 (Mb.upto (Gr.node (recvG (grOf [.int cn, .int cr, .int cp, .int cdl, .dat cps, .dat css, .bool cv, .int p1, .int p2, .int p3, .int p4, .bool pf, .int p6, .dat pw, .dat ph, .int q1, .int q2, .int q3, .int q4, .bool qf, .int q6, .dat qw, .dat qh, .int r1, .int r2, .int r3, .int r4, .bool rf, .int r6, .dat rw, .dat rh, .dat
 (D.slc (D.hd (hs 11 0)) 8 (List.append (D.rows (D.slc (D.hd (hs 5 0)) 8 (List.append (D.rows (D.slc (D.hd (hs 0 0)) 8 [])) z4))) (D.rows z3))), .dat wa, .dat wb, .dat wc, .int now, .int clk, .bool rt, .int st]) z1)
 (Fin.ofNat 3 2))), .dat (D.like (hs_1 0 6) (Mb.waiting (Gr.node (recvG (grOf [.int cn, .int cr, .int cp, .int cdl, .dat cps, .dat css, .bool cv, .int p1, .int p2, .int p3, .int p4, .bool pf, .int p6, .dat pw, .dat ph, .int q1, .int q2, .int q3, .int q4, .bool qf, .int q6, .dat qw, .dat qh, .int r1, .int r2, .int r3, .int r4, .bool rf, .int r6, .dat rw, .dat rh, .dat
 (D.slc (D.hd (hs 11 0)) 8 (List.append (D.rows (D.slc (D.hd (hs 5 0)) 8 (List.append (D.rows (D.slc (D.hd (hs 0 0)) 8 [])) z4))) (D.rows z3))), .dat wa, .dat wb, .dat wc, .int now, .int clk, .bool rt, .int st]) z1)
 (Fin.ofNat 3 2)))), .dat (D.like (hs_1 0 7) (Mb.held (Gr.node (recvG (grOf [.int cn, .int cr, .int cp, .int cdl, .dat cps, .dat css, .bool cv, .int p1, .int p2, .int p3, .int p4, .bool pf, .int p6, .dat pw, .dat ph, .int q1, .int q2, .int q3, .int q4, .bool qf, .int q6, .dat qw, .dat qh, .int r1, .int r2, .int r3, .int r4, .bool rf, .int r6, .dat rw, .dat rh, .dat
 (D.slc (D.hd (hs 11 0)) 8 (List.append (D.rows (D.slc (D.hd (hs 5 0)) 8 (List.append (D.rows (D.slc (D.hd (hs 0 0)) 8 [])) z4))) (D.rows z3))), .dat wa, .dat wb, .dat wc, .int now, .int clk, .bool rt, .int st]) z1)
 (Fin.ofNat 3 2)))), .dat (D.like (hs_1 0 8) (Gr.flight (recvG (grOf [.int cn, .int cr, .int cp, .int cdl, .dat cps, .dat css, .bool cv, .int p1, .int p2, .int p3, .int p4, .bool pf, .int p6, .dat pw, .dat ph, .int q1, .int q2, .int q3, .int q4, .bool qf, .int q6, .dat qw, .dat qh, .int r1, .int r2, .int r3, .int r4, .bool rf, .int r6, .dat rw, .dat rh, .dat
 (D.slc (D.hd (hs 11 0)) 8 (List.append (D.rows (D.slc (D.hd (hs 5 0)) 8 (List.append (D.rows (D.slc (D.hd (hs 0 0)) 8 [])) z4))) (D.rows z3))), .dat wa, .dat wb, .dat wc, .int now, .int clk, .bool rt, .int st]) z1))), .dat
 (D.like (hs_1 0 9) (Gr.wr (recvG (grOf [.int cn, .int cr, .int cp, .int cdl, .dat cps, .dat css, .bool cv, .int p1, .int p2, .int p3, .int p4, .bool pf, .int p6, .dat pw, .dat ph, .int q1, .int q2, .int q3, .int q4, .bool qf, .int q6, .dat qw, .dat qh, .int r1, .int r2, .int r3, .int r4, .bool rf, .int r6, .dat rw, .dat rh, .dat
 (D.slc (D.hd (hs 11 0)) 8 (List.append (D.rows (D.slc (D.hd (hs 5 0)) 8 (List.append (D.rows (D.slc (D.hd (hs 0 0)) 8 [])) z4))) (D.rows z3))), .dat wa, .dat wb, .dat wc, .int now, .int clk, .bool rt, .int st]) z1)
 (Fin.ofNat 3 0))), .dat (D.like (hs_1 0 10) (Gr.wr (recvG (grOf [.int cn, .int cr, .int cp, .int cdl, .dat cps, .dat css, .bool cv, .int p1, .int p2, .int p3, .int p4, .bool pf, .int p6, .dat pw, .dat ph, .int q1, .int q2, .int q3, .int q4, .bool qf, .int q6, .dat qw, .dat qh, .int r1, .int r2, .int r3, .int r4, .bool rf, .int r6, .dat rw, .dat rh, .dat
 (D.slc (D.hd (hs 11 0)) 8 (List.append (D.rows (D.slc (D.hd (hs 5 0)) 8 (List.append (D.rows (D.slc (D.hd (hs 0 0)) 8 [])) z4))) (D.rows z3))), .dat wa, .dat wb, .dat wc, .int now, .int clk, .bool rt, .int st]) z1)
 (Fin.ofNat 3 1))), .dat (D.like (hs_1 0 11) (Gr.wr (recvG (grOf [.int cn, .int cr, .int cp, .int cdl, .dat cps, .dat css, .bool cv, .int p1, .int p2, .int p3, .int p4, .bool pf, .int p6, .dat pw, .dat ph, .int q1, .int q2, .int q3, .int q4, .bool qf, .int q6, .dat qw, .dat qh, .int r1, .int r2, .int r3, .int r4, .bool rf, .int r6, .dat rw, .dat rh, .dat
 (D.slc (D.hd (hs 11 0)) 8 (List.append (D.rows (D.slc (D.hd (hs 5 0)) 8 (List.append (D.rows (D.slc (D.hd (hs 0 0)) 8 [])) z4))) (D.rows z3))), .dat wa, .dat wb, .dat wc, .int now, .int clk, .bool rt, .int st]) z1)
 (Fin.ofNat 3 2))), .int .i64 (Gr.now (recvG (grOf [.int cn, .int cr, .int cp, .int cdl, .dat cps, .dat css, .bool cv, .int p1, .int p2, .int p3, .int p4, .bool pf, .int p6, .dat pw, .dat ph, .int q1, .int q2, .int q3, .int q4, .bool qf, .int q6, .dat qw, .dat qh, .int r1, .int r2, .int r3, .int r4, .bool rf, .int r6, .dat rw, .dat rh, .dat
 (D.slc (D.hd (hs 11 0)) 8 (List.append (D.rows (D.slc (D.hd (hs 5 0)) 8 (List.append (D.rows (D.slc (D.hd (hs 0 0)) 8 [])) z4))) (D.rows z3))), .dat wa, .dat wb, .dat wc, .int now, .int clk, .bool rt, .int st]) z1)), .int .i64
 (Gr.clock (recvG (grOf [.int cn, .int cr, .int cp, .int cdl, .dat cps, .dat css, .bool cv, .int p1, .int p2, .int p3, .int p4, .bool pf, .int p6, .dat pw, .dat ph, .int q1, .int q2, .int q3, .int q4, .bool qf, .int q6, .dat qw, .dat qh, .int r1, .int r2, .int r3, .int r4, .bool rf, .int r6, .dat rw, .dat rh, .dat
 (D.slc (D.hd (hs 11 0)) 8 (List.append (D.rows (D.slc (D.hd (hs 5 0)) 8 (List.append (D.rows (D.slc (D.hd (hs 0 0)) 8 [])) z4))) (D.rows z3))), .dat wa, .dat wb, .dat wc, .int now, .int clk, .bool rt, .int st]) z1)), .bool
 (Gr.right (recvG (grOf [.int cn, .int cr, .int cp, .int cdl, .dat cps, .dat css, .bool cv, .int p1, .int p2, .int p3, .int p4, .bool pf, .int p6, .dat pw, .dat ph, .int q1, .int q2, .int q3, .int q4, .bool qf, .int q6, .dat qw, .dat qh, .int r1, .int r2, .int r3, .int r4, .bool rf, .int r6, .dat rw, .dat rh, .dat
 (D.slc (D.hd (hs 11 0)) 8 (List.append (D.rows (D.slc (D.hd (hs 5 0)) 8 (List.append (D.rows (D.slc (D.hd (hs 0 0)) 8 [])) z4))) (D.rows z3))), .dat wa, .dat wb, .dat wc, .int now, .int clk, .bool rt, .int st]) z1)), .int .i64
 (Gr.started (recvG (grOf [.int cn, .int cr, .int cp, .int cdl, .dat cps, .dat css, .bool cv, .int p1, .int p2, .int p3, .int p4, .bool pf, .int p6, .dat pw, .dat ph, .int q1, .int q2, .int q3, .int q4, .bool qf, .int q6, .dat qw, .dat qh, .int r1, .int r2, .int r3, .int r4, .bool rf, .int r6, .dat rw, .dat rh, .dat
 (D.slc (D.hd (hs 11 0)) 8 (List.append (D.rows (D.slc (D.hd (hs 5 0)) 8 (List.append (D.rows (D.slc (D.hd (hs 0 0)) 8 [])) z4))) (D.rows z3))), .dat wa, .dat wb, .dat wc, .int now, .int clk, .bool rt, .int st]) z1))])))))))))
 (.need ((7 : Int) ≠ 0) (.br (decide (Int.tmod ek 7 = 5)) z5 (.need (GrRight z7 ∧ True ∧ Gr.right z2 = true) (.all fun hs => .ret (.agg [.int .i64 (Co.nodes (Gr.c z2)), .int .i64 (Co.round (Gr.c z2)), .int .i64
 (Co.phase (Gr.c z2)), .int .i64 (Co.deadline (Gr.c z2)), .dat (D.like (hs 0 0) (Co.positions (Gr.c z2))), .dat (D.like (hs 0 1) (Co.seen (Gr.c z2))), .bool (Co.valid (Gr.c z2)), .int .i64 (Mb.round (Gr.node z2
 (Fin.ofNat 3 0))), .int .i64 (Mb.position (Gr.node z2 (Fin.ofNat 3 0))), .int .i64 (Mb.thawed (Gr.node z2 (Fin.ofNat 3 0))), .int .i64 (Mb.issued (Gr.node z2 (Fin.ofNat 3 0))), .bool (Mb.frozen (Gr.node z2
 (Fin.ofNat 3 0))), .int .i64 (Mb.upto (Gr.node z2 (Fin.ofNat 3 0))), .dat (D.like (hs 0 2) (Mb.waiting (Gr.node z2 (Fin.ofNat 3 0)))), .dat (D.like (hs 0 3) (Mb.held (Gr.node z2 (Fin.ofNat 3 0)))), .int .i64
 (Mb.round (Gr.node z2 (Fin.ofNat 3 1))), .int .i64 (Mb.position (Gr.node z2 (Fin.ofNat 3 1))), .int .i64 (Mb.thawed (Gr.node z2 (Fin.ofNat 3 1))), .int .i64 (Mb.issued (Gr.node z2 (Fin.ofNat 3 1))), .bool
 (Mb.frozen (Gr.node z2 (Fin.ofNat 3 1))), .int .i64 (Mb.upto (Gr.node z2 (Fin.ofNat 3 1))), .dat (D.like (hs 0 4) (Mb.waiting (Gr.node z2 (Fin.ofNat 3 1)))), .dat (D.like (hs 0 5) (Mb.held (Gr.node z2
 (Fin.ofNat 3 1)))), .int .i64 (Mb.round (Gr.node z2 (Fin.ofNat 3 2))), .int .i64 (Mb.position (Gr.node z2 (Fin.ofNat 3 2))), .int .i64 (Mb.thawed (Gr.node z2 (Fin.ofNat 3 2))), .int .i64 (Mb.issued (Gr.node z2
 (Fin.ofNat 3 2))), .bool (Mb.frozen (Gr.node z2 (Fin.ofNat 3 2))), .int .i64 (Mb.upto (Gr.node z2 (Fin.ofNat 3 2))), .dat (D.like (hs 0 6) (Mb.waiting (Gr.node z2 (Fin.ofNat 3 2)))), .dat (D.like (hs 0 7)
 (Mb.held (Gr.node z2 (Fin.ofNat 3 2)))), .dat (D.like (hs 0 8) (Gr.flight z2)), .dat (D.like (hs 0 9) (Gr.wr z2 (Fin.ofNat 3 0))), .dat (D.like (hs 0 10) (Gr.wr z2 (Fin.ofNat 3 1))), .dat (D.like (hs 0 11)
 (Gr.wr z2 (Fin.ofNat 3 2))), .int .i64 (Gr.now z2), .int .i64 (Gr.clock z2), .bool (Gr.right z2), .int .i64 (Gr.started z2)])))))))))) := by
 intros; kernel_rfl

end
end Go.Proofs.Ytoechplbhbalaaa
end
