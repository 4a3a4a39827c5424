/- Layer 32: CommitCompletes, the rounds. -/
import Derived.KernelRfl
import Derived.Test.YtnfkkmdbaknnlaaW12gtoW30g
import Derived.Test.YtnfkkmdbaknnlaaW15gtoM33
set_option linter.all false
section
open Go Go.Proofs Sx
namespace Go.Proofs.Ytnfkkmdbaknnlaa
set_option maxRecDepth 100000
set_option maxHeartbeats 0
section
variable (e s st ap te ts tst tap e0 s0 st0 ap0 te0 ts0 tst0 tap0 n i k j h : Int) (d d0 dm da dx dl : D) (h1 h2 : Hd) (r1 r2 : List (List D))
theorem h_10 : goS Try.prog ctL (fun _ => false) [(38, 2), (38, 246)] 400 (unroll (H10 n i k j h dm da dx dl ⟨e0, s0, d0, st0, ap0⟩ ⟨te0, ts0, tst0, tap0⟩ ⟨e, s, d, st, ap⟩ ⟨te, ts, tst, tap⟩ h1 h2 r1 r2)) =
  Tree.br (decide (h < (↑(D.len dl) : Int)))
    (Tree.all fun hs =>
      Tree.need (0 ≤ h ∧ h < (↑(D.len dl) : Int) ∧ D.sz dl = 8)
        (Tree.need
          (D.HasCells dl (Int.toNat h) 0
            [FT.int IntKind.i64, FT.int IntKind.i64, FT.int IntKind.i64, FT.int IntKind.i64, FT.int IntKind.i64,
              FT.int IntKind.i64, FT.slc, FT.slc])
          (Tree.need (D.Is Int d)
            (Tree.leaf
              (Conf.mk
                (SFrm.mk 10 none none
                  [Item.inLoop
                      (cAt Try.prog 10
                        [1, 1, 1, 1, 1, 1, 1, 1, 0, 1, 0, 0, 1, 0, 0, 1, 1, 0, 0, 1, 0, 0, 1, 1, 1, 0, 0, 1, 0, 0, 1, 1,
                          1, 0, 0, 1, 0, 0, 1, 1, 1, 0, 0]),
                    Item.inBlock 10, Item.inBlock 9,
                    Item.code
                      (cAt Try.prog 10
                        [1, 1, 1, 1, 1, 1, 1, 1, 0, 1, 0, 0, 1, 0, 0, 1, 1, 0, 0, 1, 0, 0, 1, 1, 1, 0, 0, 1, 0, 0, 1, 1,
                          1, 0, 0, 1, 1]),
                    Item.inLoop
                      (cAt Try.prog 10
                        [1, 1, 1, 1, 1, 1, 1, 1, 0, 1, 0, 0, 1, 0, 0, 1, 1, 0, 0, 1, 0, 0, 1, 1, 1, 0, 0, 1, 0, 0, 1, 1,
                          1, 0, 0]),
                    Item.inBlock 8, Item.inBlock 7,
                    Item.code
                      (cAt Try.prog 10
                        [1, 1, 1, 1, 1, 1, 1, 1, 0, 1, 0, 0, 1, 0, 0, 1, 1, 0, 0, 1, 0, 0, 1, 1, 1, 0, 0, 1, 1]),
                    Item.inLoop
                      (cAt Try.prog 10 [1, 1, 1, 1, 1, 1, 1, 1, 0, 1, 0, 0, 1, 0, 0, 1, 1, 0, 0, 1, 0, 0, 1, 1, 1, 0, 0]),
                    Item.inBlock 6, Item.inBlock 5,
                    Item.code (cAt Try.prog 10 [1, 1, 1, 1, 1, 1, 1, 1, 0, 1, 0, 0, 1, 0, 0, 1, 1, 0, 0, 1, 1]),
                    Item.inLoop (cAt Try.prog 10 [1, 1, 1, 1, 1, 1, 1, 1, 0, 1, 0, 0, 1, 0, 0, 1, 1, 0, 0]),
                    Item.inBlock 4, Item.inBlock 3,
                    Item.code (cAt Try.prog 10 [1, 1, 1, 1, 1, 1, 1, 1, 0, 1, 0, 0, 1, 1]),
                    Item.inLoop (cAt Try.prog 10 [1, 1, 1, 1, 1, 1, 1, 1, 0, 1, 0, 0]), Item.inBlock 2,
                    Item.code (cAt Try.prog 10 [1, 1, 1, 1, 1, 1, 1, 1, 1])]
                  (mkJ 0
                    [(3, SV.ptr 0 0), (5, SV.ptr 1 0), (6, SV.ptr 2 0), (10, SV.int IntKind.i64 n), (11, SV.dat dm),
                      (12, SV.int IntKind.i64 i), (14, SV.dat da), (15, SV.int IntKind.i64 k), (17, SV.dat dx),
                      (18, SV.int IntKind.i64 j), (20, SV.dat dl),
                      (21, SV.int IntKind.i64 (IntKind.wrap IntKind.i64 (h + 1)))]
                    0 155))
                []
                [(0,
                    OBlk.cells 67
                      [SV.int IntKind.i64 e0, SV.int IntKind.i64 s0, SV.dat d0, SV.int IntKind.i64 st0,
                        SV.int IntKind.i64 ap0, SV.int IntKind.i64 te0, SV.int IntKind.i64 ts0, SV.int IntKind.i64 tst0,
                        SV.int IntKind.i64 tap0, SV.vec 3, SV.vec 4, SV.lb true]),
                  (1,
                    OBlk.cells 24
                      [SV.int IntKind.i64
                          (Src.epoch
                            (Prod.fst
                              (learn (SrcD.src (SrcD.mk e s d st ap))
                                (MsgD.msg
                                  (MsgD.mk (D.getInt dl (Int.toNat h) 0) (D.getInt dl (Int.toNat h) 1)
                                    (D.getInt dl (Int.toNat h) 2) (D.getInt dl (Int.toNat h) 3)
                                    (D.getInt dl (Int.toNat h) 4) (D.getInt dl (Int.toNat h) 5)
                                    (D.cell dl (Int.toNat h) 6) (D.cell dl (Int.toNat h) 7)))))),
                        SV.int IntKind.i64
                          (Src.site
                            (Prod.fst
                              (learn (SrcD.src (SrcD.mk e s d st ap))
                                (MsgD.msg
                                  (MsgD.mk (D.getInt dl (Int.toNat h) 0) (D.getInt dl (Int.toNat h) 1)
                                    (D.getInt dl (Int.toNat h) 2) (D.getInt dl (Int.toNat h) 3)
                                    (D.getInt dl (Int.toNat h) 4) (D.getInt dl (Int.toNat h) 5)
                                    (D.cell dl (Int.toNat h) 6) (D.cell dl (Int.toNat h) 7)))))),
                        SV.dat
                          (D.like (hs 5 0)
                            (Src.offered
                              (Prod.fst
                                (learn (SrcD.src (SrcD.mk e s d st ap))
                                  (MsgD.msg
                                    (MsgD.mk (D.getInt dl (Int.toNat h) 0) (D.getInt dl (Int.toNat h) 1)
                                      (D.getInt dl (Int.toNat h) 2) (D.getInt dl (Int.toNat h) 3)
                                      (D.getInt dl (Int.toNat h) 4) (D.getInt dl (Int.toNat h) 5)
                                      (D.cell dl (Int.toNat h) 6) (D.cell dl (Int.toNat h) 7))))))),
                        SV.int IntKind.i64
                          (Src.stored
                            (Prod.fst
                              (learn (SrcD.src (SrcD.mk e s d st ap))
                                (MsgD.msg
                                  (MsgD.mk (D.getInt dl (Int.toNat h) 0) (D.getInt dl (Int.toNat h) 1)
                                    (D.getInt dl (Int.toNat h) 2) (D.getInt dl (Int.toNat h) 3)
                                    (D.getInt dl (Int.toNat h) 4) (D.getInt dl (Int.toNat h) 5)
                                    (D.cell dl (Int.toNat h) 6) (D.cell dl (Int.toNat h) 7)))))),
                        SV.int IntKind.i64
                          (Src.applied
                            (Prod.fst
                              (learn (SrcD.src (SrcD.mk e s d st ap))
                                (MsgD.msg
                                  (MsgD.mk (D.getInt dl (Int.toNat h) 0) (D.getInt dl (Int.toNat h) 1)
                                    (D.getInt dl (Int.toNat h) 2) (D.getInt dl (Int.toNat h) 3)
                                    (D.getInt dl (Int.toNat h) 4) (D.getInt dl (Int.toNat h) 5)
                                    (D.cell dl (Int.toNat h) 6) (D.cell dl (Int.toNat h) 7))))))]),
                  (2,
                    OBlk.cells 26
                      [SV.int IntKind.i64 te, SV.int IntKind.i64 ts, SV.int IntKind.i64 tst, SV.int IntKind.i64 tap]),
                  (3, OBlk.arr 3 (D.slc h1 1 r1)), (4, OBlk.arr 53 (D.slc h2 8 r2))])))))
    (Tree.leaf
      (Conf.mk
        (SFrm.mk 10 none none
          [Item.inLoop
              (cAt Try.prog 10
                [1, 1, 1, 1, 1, 1, 1, 1, 0, 1, 0, 0, 1, 0, 0, 1, 1, 0, 0, 1, 0, 0, 1, 1, 1, 0, 0, 1, 0, 0, 1, 1, 1, 0,
                  0]),
            Item.inBlock 8, Item.inBlock 7,
            Item.code
              (cAt Try.prog 10 [1, 1, 1, 1, 1, 1, 1, 1, 0, 1, 0, 0, 1, 0, 0, 1, 1, 0, 0, 1, 0, 0, 1, 1, 1, 0, 0, 1, 1]),
            Item.inLoop
              (cAt Try.prog 10 [1, 1, 1, 1, 1, 1, 1, 1, 0, 1, 0, 0, 1, 0, 0, 1, 1, 0, 0, 1, 0, 0, 1, 1, 1, 0, 0]),
            Item.inBlock 6, Item.inBlock 5,
            Item.code (cAt Try.prog 10 [1, 1, 1, 1, 1, 1, 1, 1, 0, 1, 0, 0, 1, 0, 0, 1, 1, 0, 0, 1, 1]),
            Item.inLoop (cAt Try.prog 10 [1, 1, 1, 1, 1, 1, 1, 1, 0, 1, 0, 0, 1, 0, 0, 1, 1, 0, 0]), Item.inBlock 4,
            Item.inBlock 3, Item.code (cAt Try.prog 10 [1, 1, 1, 1, 1, 1, 1, 1, 0, 1, 0, 0, 1, 1]),
            Item.inLoop (cAt Try.prog 10 [1, 1, 1, 1, 1, 1, 1, 1, 0, 1, 0, 0]), Item.inBlock 2,
            Item.code (cAt Try.prog 10 [1, 1, 1, 1, 1, 1, 1, 1, 1])]
          (mkJ 0
            [(3, SV.ptr 0 0), (5, SV.ptr 1 0), (6, SV.ptr 2 0), (10, SV.int IntKind.i64 n), (11, SV.dat dm),
              (12, SV.int IntKind.i64 i), (14, SV.dat da), (15, SV.int IntKind.i64 k), (17, SV.dat dx),
              (18, SV.int IntKind.i64 (IntKind.wrap IntKind.i64 (j + 1)))]
            0 155))
        []
        [(0,
            OBlk.cells 67
              [SV.int IntKind.i64 e0, SV.int IntKind.i64 s0, SV.dat d0, SV.int IntKind.i64 st0, SV.int IntKind.i64 ap0,
                SV.int IntKind.i64 te0, SV.int IntKind.i64 ts0, SV.int IntKind.i64 tst0, SV.int IntKind.i64 tap0,
                SV.vec 3, SV.vec 4, SV.lb true]),
          (1,
            OBlk.cells 24
              [SV.int IntKind.i64 e, SV.int IntKind.i64 s, SV.dat d, SV.int IntKind.i64 st, SV.int IntKind.i64 ap]),
          (2,
            OBlk.cells 26 [SV.int IntKind.i64 te, SV.int IntKind.i64 ts, SV.int IntKind.i64 tst, SV.int IntKind.i64 tap]),
          (3, OBlk.arr 3 (D.slc h1 1 r1)), (4, OBlk.arr 53 (D.slc h2 8 r2))])) := by kernel_rfl

end
end Go.Proofs.Ytnfkkmdbaknnlaa
end
section
/- Layer 32: what is sent again arrives. -/
open Go
namespace Sx

def Inv2 (s : Src) (t : Tgt) : Prop := (s.epoch = t.epoch → t.stored ∈ s.offered ∨ t.stored ≤ s.applied) ∧ (s.epoch ≠ t.epoch → t.applied ∈ s.offered ∨ t.applied ≤ s.applied)

theorem inv2_begin : Inv2 ⟨1, 2, [], 3, 3⟩ ⟨1, 2, 3, 3⟩ := ⟨fun _ => .inr (Int.le_refl _), fun h => absurd rfl h⟩

theorem inv2_step {j : Nat} (hj : j ≤ 60) {s s' : Src} {t t' : Tgt} {sent m : List Msg} (h : Inv j s t sent) (h2 : Inv2 s t) (hs : StepTo s t sent s' t' m) : Inv2 s' t' := by
  obtain ⟨h2a, h2b⟩ := h2
  cases hs with
  | none => exact ⟨h2a, h2b⟩
  | resend => exact ⟨h2a, h2b⟩
  | offer c hc he =>
    unfold offer at he ⊢
    split at he
    · rename_i hcs; exact absurd (checkSource_ok h.sok) hcs
    · rename_i h0
      rw [if_neg h0]
      split at he
      · simp at he
      · rename_i h1
        split at he
        · simp at he
        · rename_i h2
          split at he
          · simp at he
          · rename_i h3
            rw [if_neg h1, if_neg h2, if_neg h3]
            exact ⟨fun e => (h2a e).imp (List.mem_append_left _) id, fun e => (h2b e).imp (List.mem_append_left _) id⟩
  | store c hc h1 h2 =>
    have hcM := (h.sok.low c hc).2
    unfold store
    rw [if_neg (by simp [checkTarget_ok h.tok]), if_neg (by omega), if_neg (by omega)]
    exact ⟨fun _ => .inl hc, fun e => absurd h2 e⟩
  | apply c hc h1 h2 =>
    unfold applyT
    rw [if_neg (by simp [checkTarget_ok h.tok]), if_neg (by omega), if_neg (by omega)]
    exact ⟨h2a, fun _ => .inl hc⟩
  | learn m hm =>
    have hmo := h.ms m hm
    have ep1 := h.ep1
    have ep2 := h.ep2
    unfold learn
    split
    · exact ⟨h2a, h2b⟩
    · rename_i hn
      split
      · exact ⟨h2a, h2b⟩
      · simp only [not_or, Int.not_lt, Decidable.not_not] at hn
        obtain ⟨hn1, hn2, hn3, hn4⟩ := hn
        obtain ⟨_, _, _, hmo⟩ := hmo
        rcases hmo with ⟨_, hf, _⟩ | ⟨hkk, hf, ho, he, hv1, hv2⟩
        · rw [hf, h.sok.site] at hn2; simp at hn2
        · have het : s.epoch = t.epoch := by omega
          rw [if_neg (by omega)]
          split
          · split
            · exact ⟨fun e => h2a e, fun e => h2b e⟩
            · exact ⟨h2a, h2b⟩
          · split
            · split
              · refine ⟨fun e => ?_, fun e => absurd het e⟩
                by_cases hlt : t.stored ≤ m.value
                · exact .inr hlt
                · left
                  rcases h2a het with h3 | h3
                  · exact List.mem_filter.2 ⟨h3, by simp; omega⟩
                  · rename_i hv
                    have := (h.sok.low _ hv).1
                    omega
              · exact ⟨h2a, h2b⟩
            · exact ⟨h2a, h2b⟩
  | answer m hm =>
    have hmo := h.ms m hm
    have ep1 := h.ep1
    have ep2 := h.ep2
    unfold answer
    split
    · exact ⟨h2a, h2b⟩
    · rename_i hn
      simp only [not_or, Decidable.not_not] at hn
      obtain ⟨hn1, hn2, hn3, hn4⟩ := hn
      obtain ⟨_, _, he0, hmo⟩ := hmo
      split
      · exact ⟨h2a, h2b⟩
      · rename_i hlt
        have key : ∀ t1 : Tgt, (t1 = t ∨ (t.epoch < m.epoch ∧ t1 = ⟨m.epoch, t.site, t.applied, t.applied⟩)) → Inv2 s t1 := by
          intro t1 ht1
          rcases ht1 with rfl | ⟨hgt, rfl⟩
          · exact ⟨h2a, h2b⟩
          · have hme : m.epoch ≤ s.epoch := by
              rcases hmo with ⟨_, _, _, he⟩ | ⟨_, _, ho, _⟩
              · exact he
              · rw [ho, h.tok.site] at hn2; simp at hn2
            have hne : s.epoch ≠ t.epoch := by omega
            exact ⟨fun _ => h2b hne, fun e => absurd (show s.epoch = m.epoch by omega) e⟩
        by_cases hgt : m.epoch > t.epoch
        · simp only [if_pos hgt]
          split
          · exact key _ (.inr ⟨hgt, rfl⟩)
          · exact key _ (.inr ⟨hgt, rfl⟩)
        · simp only [if_neg hgt]
          split
          · exact key _ (.inl rfl)
          · exact key _ (.inl rfl)
  | fresh =>
    have := h.tok.e0; have := h.tok.a0; have := h.tok.a1; have := h.tok.s1; have := h.ep3; have := h.ep1
    have hns : newSource (t.epoch + 1) 2 t.applied = (⟨t.epoch + 1, 2, [], t.applied, t.applied⟩, 0) := by
      unfold newSource okRight okTime okSite
      rw [if_pos]
      simp
      omega
    rw [hns]
    exact ⟨fun e => by simp only at e; omega, fun _ => .inr (Int.le_refl _)⟩

/-! The rounds. -/
structure RInv (E V A0 : Int) (s : Src) : Prop where
  ok : SrcOk s
  ep : s.epoch = E
  a : A0 ≤ s.applied
  st : s.stored ≤ V
  goal : V ≤ A0 ∨ s.applied = V ∨ V ∈ s.offered
  len : s.offered.length ≤ 60

def RDone (V A0 : Int) (s : Src) : Prop := V ≤ A0 ∨ s.applied = V
def TMsg (E : Int) (m : Msg) : Prop := (m.kind = 8 ∨ m.kind = 10) ∧ m.to = 2 ∧ m.epoch = E
def AMsg (E V : Int) (m : Msg) : Prop := (m.kind = 9 ∨ m.kind = 11) ∧ m.frm = 2 ∧ m.epoch = E ∧ m.value = V

theorem ans {E V : Int} (ht : TgtOk ⟨E, 2, V, V⟩) {m : Msg} (hm : TMsg E m) : ∃ x, answer ⟨E, 2, V, V⟩ m = (⟨E, 2, V, V⟩, [x]) ∧ AMsg E V x ∧ (m.kind = 10 → x.kind = 11) := by
  obtain ⟨hk, hto, he⟩ := hm
  have h0 : 0 ≤ E := ht.e0
  have h1 : E ≤ 1073741824 := ht.e1
  have hok : okTime m.epoch = true := by simp only [okTime, Bool.and_eq_true, decide_eq_true_eq]; omega
  unfold answer
  rw [if_neg (by rw [checkTarget_ok ht, hok]; simp [hto]; omega), if_neg (by simp only; omega)]
  have hgt : ¬ (m.epoch > E) := by omega
  simp only [if_neg hgt]
  by_cases h8 : m.kind = 8
  · rw [if_pos h8]
    exact ⟨_, rfl, ⟨.inl rfl, rfl, rfl, rfl⟩, fun h => by omega⟩
  · rw [if_neg h8]
    exact ⟨_, rfl, ⟨.inr rfl, rfl, rfl, rfl⟩, fun _ => rfl⟩

theorem lrn {E V A0 : Int} {s : Src} (h : RInv E V A0 s) {x : Msg} (hx : AMsg E V x) :
    RInv E V A0 (learn s x).1 ∧ (∀ y, y ∈ (learn s x).2 → TMsg E y ∧ y.kind = 10) ∧ ((learn s x).2 = [] → RDone V A0 (learn s x).1) ∧ (x.kind = 11 → RDone V A0 (learn s x).1) ∧ (RDone V A0 s → RDone V A0 (learn s x).1) ∧ (learn s x).2.length ≤ 1 := by
  obtain ⟨ok, ep, ha, st, goal, len⟩ := h
  obtain ⟨hk, hf, he, hv⟩ := hx
  have := ok.e1
  unfold learn
  rw [if_neg (by rw [checkSource_ok ok, ok.site]; simp; omega), if_neg (by omega), if_neg (by omega)]
  have hnot : V ∉ s.offered → RDone V A0 s := fun hn => by
    rcases goal with g | g | g
    · exact .inl g
    · exact .inr g
    · exact absurd g hn
  split
  · rename_i h9
    rw [hv]
    split
    · rename_i hc
      refine ⟨⟨⟨ok.e0, ok.e1, ok.site, ok.a0, ok.a1, ok.len, ok.low, ok.up, .inr hc.1⟩, ep, ha, Int.le_refl _, goal, len⟩, ?_, fun h => by simp at h, fun h => by omega, fun h => h, by simp⟩
      intro y hy
      rw [List.mem_singleton.1 hy]
      exact ⟨⟨.inr rfl, ok.site, ep⟩, rfl⟩
    · rename_i hc
      exact ⟨⟨ok, ep, ha, st, goal, len⟩, by simp, fun _ => hnot fun hm => hc ⟨hm, st⟩, fun h => by omega, fun h => h, by simp⟩
  · rename_i h9
    have h11 : x.kind = 11 := by omega
    rw [if_pos h11, hv]
    split
    · rename_i hm
      have hvM := (ok.low _ hm).2
      have hvl := (ok.low _ hm).1
      have := ok.a0
      have hfl := List.length_filter_le (fun x => decide (x > V)) s.offered
      refine ⟨⟨⟨ok.e0, ok.e1, ok.site, by simp only; omega, hvM, ?_, ?_, ok.up.filter _, ?_⟩, ep, by simp only; omega, by simp only; omega, .inr (.inl rfl), by simp only; omega⟩, by simp, fun _ => .inr rfl, fun _ => .inr rfl, fun _ => .inr rfl, by simp⟩
      · have := ok.len; simp only; omega
      · intro y hy
        obtain ⟨h1, h2⟩ := List.mem_filter.1 hy
        exact ⟨by simpa using h2, (ok.low _ h1).2⟩
      · left; simp only; omega
    · rename_i hm
      exact ⟨⟨ok, ep, ha, st, goal, len⟩, by simp, fun _ => hnot hm, fun _ => hnot hm, fun h => h, by simp⟩

theorem rsd {E V A0 : Int} {s : Src} (h : RInv E V A0 s) : (∀ y, y ∈ resend s → TMsg E y) ∧ (resend s = [] → RDone V A0 s) ∧ (resend s).length ≤ 61 := by
  obtain ⟨ok, ep, ha, st, goal, len⟩ := h
  have hfl := List.length_filter_le (fun x => decide (x > s.stored)) s.offered
  unfold resend
  rw [if_neg (by simp [checkSource_ok ok])]
  refine ⟨fun y hy => ?_, fun hn => ?_, ?_⟩
  · rcases List.mem_append.1 hy with hy | hy
    · split at hy
      · rw [List.mem_singleton.1 hy]; exact ⟨.inr rfl, ok.site, ep⟩
      · cases hy
    · obtain ⟨c, _, rfl⟩ := List.mem_map.1 hy
      exact ⟨.inl rfl, ok.site, ep⟩
  · obtain ⟨h1, h2⟩ := List.append_eq_nil_iff.1 hn
    rcases goal with g | g | g
    · exact .inl g
    · exact .inr g
    · exfalso
      have hle : ¬ s.stored > s.applied := by
        intro hgt; rw [if_pos hgt] at h1; simp at h1
      have hVa := (ok.low _ g).1
      have : V ∈ s.offered.filter fun x => decide (x > s.stored) := List.mem_filter.2 ⟨g, by simp; omega⟩
      rw [List.map_eq_nil_iff] at h2
      rw [h2] at this
      cases this
  · rw [List.length_append, List.length_map]
    split
    · simp only [List.length_singleton]; omega
    · simp only [List.length_nil]; omega
end Sx
end
section
/- Layer 32: the rounds of CommitCompletes. -/
open Go Go.Proofs Sx
namespace Sx
/-- A message that is read off a slice. -/
theorem dat_msg {d : D} (h : d.Is Msg) {i : Nat} (hi : i < (d.to Msg).length) :
    (0 ≤ (i : Int) ∧ (i : Int) < (d.len : Int) ∧ d.sz = 8) ∧ d.HasCells (Int.toNat (i : Int)) 0 [.int .i64, .int .i64, .int .i64, .int .i64, .int .i64, .int .i64, .slc, .slc] ∧
    (MsgD.mk (d.getInt (Int.toNat (i : Int)) 0) (d.getInt (Int.toNat (i : Int)) 1) (d.getInt (Int.toNat (i : Int)) 2) (d.getInt (Int.toNat (i : Int)) 3) (d.getInt (Int.toNat (i : Int)) 4) (d.getInt (Int.toNat (i : Int)) 5)
      (d.cell (Int.toNat (i : Int)) 6) (d.cell (Int.toNat (i : Int)) 7)).msg = (d.to Msg)[i] := by
  obtain ⟨a, b, c, e, f, g, g', _, k, _, m⟩ := msg_cell h hi
  rw [Int.toNat_natCast]
  refine ⟨⟨by omega, by rw [D.Is.length (α := Msg)]; omega, h.size hi⟩, a, ?_⟩
  simp only [MsgD.msg, b, c, e, f, g, g', k, m]

/-- A source whose cycles lie somewhere. -/
noncomputable def sd (s : Src) (h : D) : SrcD := ⟨s.epoch, s.site, h.like s.offered, s.stored, s.applied⟩
theorem sd_src (s : Src) (h : D) : (sd s h).src = s := by simp only [sd, src_like]
theorem sd_is (s : Src) (h : D) : (sd s h).d.Is Int := D.like_is _ _

/-- The source in the rounds. -/
def RS (E V A0 : Int) (S : SrcD) : Prop := RInv E V A0 S.src ∧ S.d.Is Int
end Sx
namespace Go.Proofs.Ytnfkkmdbaknnlaa
section
variable {C : Ctx} {R : Value → World → Prop} {E V A0 : Int} {S0 : SrcD} {T0 : Tgt} {h1 h2 : Hd} {r1 r2 : List (List D)} {n i k j : Int} {dm da dx dl : D}

theorem h10 (hl : dl.Is Msg) (hls : ∀ x, x ∈ dl.to Msg → AMsg E V x ∧ x.kind = 11) (hlen : (dl.to Msg).length ≤ 100)
    (next : ∀ S, RS E V A0 S → ((dl.to Msg).length ≥ 1 → RDone V A0 S.src) → Runs Try.prog C (J10 n i k (IntKind.i64.wrap (j + 1)) dm da dx S0 T0 S ⟨E, 2, V, V⟩ h1 h2 r1 r2) R) :
    ∀ σ : Nat × SrcD, (σ.1 ≤ (dl.to Msg).length ∧ RS E V A0 σ.2 ∧ (σ.1 ≥ 1 → RDone V A0 σ.2.src)) → Runs Try.prog C (H10 n i k j σ.1 dm da dx dl S0 T0 σ.2 ⟨E, 2, V, V⟩ h1 h2 r1 r2) R := by
  obtain ⟨e0, s0, d0, st0, ap0⟩ := S0
  refine runs_loop (fun σ : Nat × SrcD => H10 n i k j σ.1 dm da dx dl ⟨e0, s0, d0, st0, ap0⟩ T0 σ.2 ⟨E, 2, V, V⟩ h1 h2 r1 r2) _ (fun σ => (dl.to Msg).length - σ.1) (fun _ => rfl) ?_
  rintro ⟨q, ⟨e, s, d, st, ap⟩⟩ ⟨hq, hrs, hdn⟩ ih
  simp only at hq hrs hdn
  apply goS_sound ctLOk (fun _ => false) [(38, 2), (38, 246)] 400
  rw [h_10]
  refine ⟨fun hlt => fun hs => ?_, fun hge => ?_⟩
  · have hlt' : q < (dl.to Msg).length := by have := of_decide_eq_true hlt; rw [D.Is.length (α := Msg)] at this; omega
    obtain ⟨b1, b2, b3⟩ := dat_msg hl hlt'
    refine ⟨b1, b2, hrs.2, ?_⟩
    rw [b3]
    obtain ⟨hx1, hx2⟩ := hls _ (List.getElem_mem hlt')
    obtain ⟨l1, l2, l3, l4, l5, l6⟩ := lrn hrs.1 hx1
    have hw : IntKind.i64.wrap ((q : Int) + 1) = ((q + 1 : Nat) : Int) := wrap_succ hlt' (by omega)
    rw [hw]
    exact ih (q + 1, sd (learn (SrcD.mk e s d st ap).src (dl.to Msg)[q]).1 (hs 5 0)) ⟨by simp only; omega, ⟨by rw [sd_src]; exact l1, sd_is _ _⟩, fun _ => by rw [sd_src]; exact l4 hx2⟩ (by simp only; omega)
  · have hge' : q = (dl.to Msg).length := by have := of_decide_eq_false hge; rw [D.Is.length (α := Msg)] at this; omega
    exact next ⟨e, s, d, st, ap⟩ hrs fun h => hdn (by omega)

theorem j10 (ht : TgtOk ⟨E, 2, V, V⟩) (hl : dx.Is Msg) (hls : ∀ x, x ∈ dx.to Msg → TMsg E x ∧ x.kind = 10) (hlen : (dx.to Msg).length ≤ 100)
    (next : ∀ S, RS E V A0 S → RDone V A0 S.src → Runs Try.prog C (K10 n i (IntKind.i64.wrap (k + 1)) dm da S0 T0 S ⟨E, 2, V, V⟩ h1 h2 r1 r2) R) :
    ∀ σ : Nat × SrcD, (σ.1 ≤ (dx.to Msg).length ∧ RS E V A0 σ.2 ∧ (σ.1 ≥ 1 ∨ (dx.to Msg).length = 0 → RDone V A0 σ.2.src)) → Runs Try.prog C (J10 n i k σ.1 dm da dx S0 T0 σ.2 ⟨E, 2, V, V⟩ h1 h2 r1 r2) R := by
  obtain ⟨e0, s0, d0, st0, ap0⟩ := S0
  refine runs_loop (fun σ : Nat × SrcD => J10 n i k σ.1 dm da dx ⟨e0, s0, d0, st0, ap0⟩ T0 σ.2 ⟨E, 2, V, V⟩ h1 h2 r1 r2) _ (fun σ => (dx.to Msg).length - σ.1) (fun _ => rfl) ?_
  rintro ⟨q, ⟨e, s, d, st, ap⟩⟩ ⟨hq, hrs, hdn⟩ ih
  simp only at hq hrs hdn
  apply goS_sound ctLOk (fun _ => false) [(38, 2), (38, 246)] 400
  rw [j_10]
  refine ⟨fun hlt => fun hs => ?_, fun hge => ?_⟩
  · have hlt' : q < (dx.to Msg).length := by have := of_decide_eq_true hlt; rw [D.Is.length (α := Msg)] at this; omega
    obtain ⟨b1, b2, b3⟩ := dat_msg hl hlt'
    refine ⟨b1, b2, ?_⟩
    rw [b3]
    obtain ⟨hx1, hx2⟩ := hls _ (List.getElem_mem hlt')
    obtain ⟨x, a1, a2, a3⟩ := ans ht hx1
    rw [a1]
    have hw : IntKind.i64.wrap ((q : Int) + 1) = ((q + 1 : Nat) : Int) := wrap_succ hlt' (by omega)
    refine h10 (A0 := A0) (S0 := ⟨e0, s0, d0, st0, ap0⟩) (T0 := T0) (dl := (hs 5 0).like [x]) (D.like_is _ _) (fun y hy => ?_) (by rw [D.like_to]; exact Nat.le_of_ble_eq_true rfl) (fun S' hS' hd' => ?_) (0, ⟨e, s, d, st, ap⟩) ⟨Nat.zero_le _, hrs, fun h => absurd h (Nat.not_succ_le_zero 0)⟩
    · rw [D.like_to] at hy
      rw [List.mem_singleton.1 hy]
      exact ⟨a2, a3 hx2⟩
    · rw [hw]
      exact ih (q + 1, S') ⟨by simp only; omega, hS', fun _ => hd' (by rw [D.like_to]; simp)⟩ (by simp only; omega)
  · have hge' : q = (dx.to Msg).length := by have := of_decide_eq_false hge; rw [D.Is.length (α := Msg)] at this; omega
    exact next ⟨e, s, d, st, ap⟩ hrs (hdn (by omega))

theorem k10 (ht : TgtOk ⟨E, 2, V, V⟩) (hl : da.Is Msg) (hls : ∀ x, x ∈ da.to Msg → AMsg E V x) (hlen : (da.to Msg).length = 1)
    (next : ∀ S, RS E V A0 S → RDone V A0 S.src → Runs Try.prog C (I10 n (IntKind.i64.wrap (i + 1)) dm S0 T0 S ⟨E, 2, V, V⟩ h1 h2 r1 r2) R) :
    ∀ σ : Nat × SrcD, (σ.1 ≤ (da.to Msg).length ∧ RS E V A0 σ.2 ∧ (σ.1 ≥ 1 → RDone V A0 σ.2.src)) → Runs Try.prog C (K10 n i σ.1 dm da S0 T0 σ.2 ⟨E, 2, V, V⟩ h1 h2 r1 r2) R := by
  obtain ⟨e0, s0, d0, st0, ap0⟩ := S0
  refine runs_loop (fun σ : Nat × SrcD => K10 n i σ.1 dm da ⟨e0, s0, d0, st0, ap0⟩ T0 σ.2 ⟨E, 2, V, V⟩ h1 h2 r1 r2) _ (fun σ => (da.to Msg).length - σ.1) (fun _ => rfl) ?_
  rintro ⟨q, ⟨e, s, d, st, ap⟩⟩ ⟨hq, hrs, hdn⟩ ih
  simp only at hq hrs hdn
  apply goS_sound ctLOk (fun _ => false) [(38, 2), (38, 246)] 400
  rw [k_10]
  refine ⟨fun hlt => fun hs => ?_, fun hge => ?_⟩
  · have hlt' : q < (da.to Msg).length := by have := of_decide_eq_true hlt; rw [D.Is.length (α := Msg)] at this; omega
    obtain ⟨b1, b2, b3⟩ := dat_msg hl hlt'
    refine ⟨b1, b2, hrs.2, ?_⟩
    rw [b3]
    have hx1 := hls _ (List.getElem_mem hlt')
    obtain ⟨l1, l2, l3, l4, l5, l6⟩ := lrn hrs.1 hx1
    have hw : IntKind.i64.wrap ((q : Int) + 1) = ((q + 1 : Nat) : Int) := wrap_succ hlt' (by omega)
    refine j10 (A0 := A0) (S0 := ⟨e0, s0, d0, st0, ap0⟩) (T0 := T0) (dx := (hs 5 1).like (learn (SrcD.mk e s d st ap).src (da.to Msg)[q]).2) ht (D.like_is _ _) (fun y hy => by rw [D.like_to] at hy; exact l2 y hy) (by rw [D.like_to]; omega) (fun S' hS' hd' => ?_) (0, sd (learn (SrcD.mk e s d st ap).src (da.to Msg)[q]).1 (hs 5 0))
      ⟨Nat.zero_le _, ⟨by rw [sd_src]; exact l1, sd_is _ _⟩, fun h => ?_⟩
    · rw [hw]
      exact ih (q + 1, S') ⟨by simp only; omega, hS', fun _ => hd'⟩ (by simp only; omega)
    · simp only [sd_src]
      rcases h with h | h
      · exact absurd h (Nat.not_succ_le_zero 0)
      · rw [D.like_to] at h; exact l3 (List.eq_nil_of_length_eq_zero h)
  · have hge' : q = (da.to Msg).length := by have := of_decide_eq_false hge; rw [D.Is.length (α := Msg)] at this; omega
    exact next ⟨e, s, d, st, ap⟩ hrs (hdn (by omega))

theorem i10 (ht : TgtOk ⟨E, 2, V, V⟩) (hl : dm.Is Msg) (hls : ∀ x, x ∈ dm.to Msg → TMsg E x) (hlen : (dm.to Msg).length ≤ 100)
    (next : ∀ S, RS E V A0 S → RDone V A0 S.src → Runs Try.prog C (N10 (IntKind.i64.wrap (n + 1)) S0 T0 S ⟨E, 2, V, V⟩ h1 h2 r1 r2) R) :
    ∀ σ : Nat × SrcD, (σ.1 ≤ (dm.to Msg).length ∧ RS E V A0 σ.2 ∧ (σ.1 ≥ 1 ∨ (dm.to Msg).length = 0 → RDone V A0 σ.2.src)) → Runs Try.prog C (I10 n σ.1 dm S0 T0 σ.2 ⟨E, 2, V, V⟩ h1 h2 r1 r2) R := by
  obtain ⟨e0, s0, d0, st0, ap0⟩ := S0
  refine runs_loop (fun σ : Nat × SrcD => I10 n σ.1 dm ⟨e0, s0, d0, st0, ap0⟩ T0 σ.2 ⟨E, 2, V, V⟩ h1 h2 r1 r2) _ (fun σ => (dm.to Msg).length - σ.1) (fun _ => rfl) ?_
  rintro ⟨q, ⟨e, s, d, st, ap⟩⟩ ⟨hq, hrs, hdn⟩ ih
  simp only at hq hrs hdn
  apply goS_sound ctLOk (fun _ => false) [(38, 2), (38, 246)] 400
  rw [i_10]
  refine ⟨fun hlt => fun hs => ?_, fun hge => ?_⟩
  · have hlt' : q < (dm.to Msg).length := by have := of_decide_eq_true hlt; rw [D.Is.length (α := Msg)] at this; omega
    obtain ⟨b1, b2, b3⟩ := dat_msg hl hlt'
    refine ⟨b1, b2, ?_⟩
    rw [b3]
    have hx1 := hls _ (List.getElem_mem hlt')
    obtain ⟨x, a1, a2, a3⟩ := ans ht hx1
    rw [a1]
    have hw : IntKind.i64.wrap ((q : Int) + 1) = ((q + 1 : Nat) : Int) := wrap_succ hlt' (by omega)
    refine k10 (A0 := A0) (S0 := ⟨e0, s0, d0, st0, ap0⟩) (T0 := T0) (da := (hs 5 0).like [x]) ht (D.like_is _ _) (fun y hy => ?_) (by rw [D.like_to]; rfl) (fun S' hS' hd' => ?_) (0, ⟨e, s, d, st, ap⟩) ⟨Nat.zero_le _, hrs, fun h => absurd h (Nat.not_succ_le_zero 0)⟩
    · rw [D.like_to] at hy
      rw [List.mem_singleton.1 hy]
      exact a2
    · rw [hw]
      exact ih (q + 1, S') ⟨by simp only; omega, hS', fun _ => hd'⟩ (by simp only; omega)
  · have hge' : q = (dm.to Msg).length := by have := of_decide_eq_false hge; rw [D.Is.length (α := Msg)] at this; omega
    exact next ⟨e, s, d, st, ap⟩ hrs (hdn (by omega))
end
section
variable {w : World} {H : HV} {E V : Int} {S0 : SrcD} {T0 : Tgt} {h1 h2 : Hd} {r1 r2 : List (List D)}

/-- The rounds. -/
theorem n10 (ht : TgtOk ⟨E, 2, V, V⟩) : ∀ σ : Nat × SrcD, (σ.1 ≤ 2 ∧ RS E V S0.ap σ.2 ∧ (σ.1 ≥ 1 → RDone V S0.ap σ.2.src)) →
    Runs Try.prog ⟨w, H⟩ (N10 σ.1 S0 T0 σ.2 ⟨E, 2, V, V⟩ h1 h2 r1 r2) (RetS w H (.lb true)) := by
  obtain ⟨e0, s0, d0, st0, ap0⟩ := S0
  refine runs_loop (fun σ : Nat × SrcD => N10 σ.1 ⟨e0, s0, d0, st0, ap0⟩ T0 σ.2 ⟨E, 2, V, V⟩ h1 h2 r1 r2) _ (fun σ => 2 - σ.1) (fun _ => rfl) ?_
  rintro ⟨q, ⟨e, s, d, st, ap⟩⟩ ⟨hq, hrs, hdn⟩ ih
  simp only at hq hrs hdn
  apply goS_sound ctLOk (fun _ => false) [(38, 2), (38, 246)] 400
  rw [n_10]
  refine ⟨fun hlt => ⟨hrs.2, fun hs => ?_⟩, fun hge => fun hs => ?_⟩
  · have hlt' : q < 2 := by have := of_decide_eq_true hlt; omega
    obtain ⟨g1, g2, g3⟩ := rsd hrs.1
    have hw : IntKind.i64.wrap ((q : Int) + 1) = ((q + 1 : Nat) : Int) := wrap_succ hlt' (by omega)
    refine i10 (A0 := ap0) (S0 := ⟨e0, s0, d0, st0, ap0⟩) (T0 := T0) (dm := (hs 0 0).like (resend (SrcD.mk e s d st ap).src)) ht (D.like_is _ _) (fun y hy => by rw [D.like_to] at hy; exact g1 y hy) (by rw [D.like_to]; omega) (fun S' hS' hd' => ?_) (0, ⟨e, s, d, st, ap⟩) ⟨Nat.zero_le _, hrs, fun h => ?_⟩
    · rw [hw]
      exact ih (q + 1, S') ⟨by simp only; omega, hS', fun _ => hd'⟩ (by simp only; omega)
    · rcases h with h | h
      · exact absurd h (Nat.not_succ_le_zero 0)
      · rw [D.like_to] at h; exact g2 (List.eq_nil_of_length_eq_zero h)
  · have hq1 : q ≥ 1 := by have := of_decide_eq_false hge; omega
    have hrel : releasable (SrcD.mk e s d st ap).src = ap := by unfold releasable; rw [if_neg (by simp [checkSource_ok hrs.1.ok])]; rfl
    have hd := hrs.2
    rw [hrel]
    refine ⟨fun he => ?_, fun he => ?_⟩
    · simp only [holds_need, he, hd, true_and]
      exact ret_lbt
    · simp only [holds_need, he, hd, true_and]
      refine ret_sure (decide_eq_true ?_)
      rcases hdn hq1 with h | h
      · exact h
      · exact absurd h (of_decide_eq_false he)
end
end Go.Proofs.Ytnfkkmdbaknnlaa
end
