/- Layer 20: GroupHolds, its inner loop walked. -/
import Derived.KernelRfl
import Derived.Test.YtodhhmjilnfecaaUL31toUT102
set_option linter.all false
section
open Go Go.Proofs Sx
namespace Go.Proofs.Ytodhhmjilnfecaa
set_option maxRecDepth 100000
set_option maxHeartbeats 0
noncomputable def holN (l q a b c x y a2 b2 c2 x2 y2 : D) (z z2 : Bool) (j i : Int) : Conf := Conf.mk (SFrm.mk 6 none none [Item.inLoop (cAt Try.prog 6 [1, 1, 1, 1, 1, 1, 1, 1, 0, 1, 0, 0, 1, 1, 0, 0, 1, 1, 1, 1, 0, 1, 0, 0]), Item.inBlock 4, Item.code (cAt Try.prog 6 [1, 1, 1, 1, 1, 1, 1, 1, 0, 1, 0, 0, 1, 1, 0, 0, 1, 1, 1, 1, 1]), Item.inBlock 3, Item.code (cAt Try.prog 6 [1, 1, 1, 1, 1, 1, 1, 1, 0, 1, 0, 0, 1, 1, 1]), Item.inLoop (cAt Try.prog 6 [1, 1, 1, 1, 1, 1, 1, 1, 0, 1, 0, 0]), Item.inBlock 2, Item.code (cAt Try.prog 6 [1, 1, 1, 1, 1, 1, 1, 1, 1])] (mkJ 0 [(7, .ptr 0 0), (11, .vec 1), (14, .ptr 2 0), (69, .dat l), (70, .int .i64 (l.len : Int)), (71, .int .i64 j), (93, .dat x), (94, .int .i64 (x.len : Int)), (95, .int .i64 i)] 0 127)) [] [(0, OBlk.cells 28 [.dat a, .dat b, .dat c, .dat x, .dat y, .bool z]), (1, OBlk.arr 3 q), (2, OBlk.cells 28 [.dat a2, .dat b2, .dat c2, .dat x2, .dat y2, .bool z2])]
section
variable (q l a b c x y a2 b2 c2 x2 y2 : D) (z z2 : Bool) (i j : Int)
theorem holn_go : 
 let z1 := (SFrm.mk 6 none none [Item.inLoop (cAt Try.prog 6 [1, 1, 1, 1, 1, 1, 1, 1, 0, 1, 0, 0, 1, 1, 0, 0, 1, 1, 1, 1, 0, 1, 0, 0]), Item.inBlock 4, Item.code (cAt Try.prog 6 [1, 1, 1, 1, 1, 1, 1, 1, 0, 1, 0, 0, 1, 1, 0, 0, 1, 1, 1, 1, 1]), Item.inBlock 3, Item.code (cAt Try.prog 6 [1, 1, 1, 1, 1, 1, 1, 1, 0, 1, 0, 0, 1, 1, 1]), Item.inLoop (cAt Try.prog 6 [1, 1, 1, 1, 1, 1, 1, 1, 0, 1, 0, 0]), Item.inBlock 2, Item.code (cAt Try.prog 6 [1, 1, 1, 1, 1, 1, 1, 1, 1])] (mkJ 0 [(7, .ptr 0 0), (11, .vec 1), (14, .ptr 2 0), (69, .dat l), (70, .int .i64 (↑(D.len l) : Int)), (71, .int .i64 j), (93, .dat x), (94, .int .i64 (↑(D.len x) : Int)), (95, .int .i64 (IntKind.wrap .i64 (i + 1)))] 0 127))
 exec Try.prog ctLS 400 (unroll (holN l q a b c x y a2 b2 c2 x2 y2 z z2 j i)) =
 Tree.br (decide (i < (↑(D.len x) : Int))) (.need (0 ≤ i ∧ i < (↑(D.len x) : Int) ∧ D.sz x = 1) (.need (D.HasCell x (Int.toNat i) 0 (FT.int .i64)) (.need (D.Is Int x2 ∧ D.len x2 ≤ 1048576) (.br (!List.contains
 (D.to Int x2) (D.getInt x (Int.toNat i) 0)) (.all fun hs => .need (D.sz q = 1 ∧ D.Fits (D.slc (D.hd (hs 0 0)) 1 [[D.int .i64 (D.getInt x (Int.toNat i) 0)]]) 1 ∧ (D.len q + D.len (D.slc (D.hd (hs 0 0)) 1 [[D.int .i64
 (D.getInt x (Int.toNat i) 0)]])) * 8 ≤ 140737488355328 ∧ D.len q + D.len (D.slc (D.hd (hs 0 0)) 1 [[D.int .i64 (D.getInt x (Int.toNat i) 0)]]) ≤ 9223372036854775807) (.all fun hs_1 => .leaf (Conf.mk z1 [] [(0, OBlk.cells 28 [.dat a, .dat b, .dat c, .dat x, .dat y, .bool z]),
 (1, OBlk.arr 3 (D.slc (D.hd (hs_1 0 0)) 1 (List.append (D.rows q) (D.rows (D.slc (D.hd (hs 0 0)) 1 [[D.int .i64 (D.getInt x (Int.toNat i) 0)]]))))), (2, OBlk.cells 28 [.dat a2, .dat b2, .dat c2, .dat x2, .dat y2, .bool z2])])))
 (.leaf (Conf.mk z1 [] [(0, OBlk.cells 28 [.dat a, .dat b, .dat c, .dat x, .dat y, .bool z]), (1, OBlk.arr 3 q), (2, OBlk.cells 28 [.dat a2, .dat b2, .dat c2, .dat x2, .dat y2, .bool z2])])))))) (.leaf
 (Conf.mk (SFrm.mk 6 none none [Item.inLoop (cAt Try.prog 6 [1, 1, 1, 1, 1, 1, 1, 1, 0, 1, 0, 0]), Item.inBlock 2, Item.code (cAt Try.prog 6 [1, 1, 1, 1, 1, 1, 1, 1, 1])] (mkJ 0 [(7, .ptr 0 0), (11, .vec 1),
 (69, .dat l), (70, .int .i64 (↑(D.len l) : Int)), (71, .int .i64 (IntKind.wrap .i64 (j + 1)))] 0 127)) [] [(0, OBlk.cells 28 [.dat a2, .dat b2, .dat c2, .dat x2, .dat y2, .bool z2]), (1, OBlk.arr 3 q)])) := by
 intros; kernel_rfl

end
end Go.Proofs.Ytodhhmjilnfecaa
end
section
open Go Go.Proofs Sx
namespace Sx
def spGHol (x : D × D × D) : SpecR := .scalar [x.1.Is Int ∧ x.2.1.Is St ∧ x.2.2.Is St] (.lb true)
theorem filt_take {l : List Int} {f : Int → Bool} {j : Nat} (hj : j < l.length) : (l.take (j + 1)).filter f = if f l[j] = true then (l.take j).filter f ++ [l[j]] else (l.take j).filter f := by
  rw [List.take_succ_eq_append_getElem hj, List.filter_append]
  by_cases h : f l[j] = true
  · rw [if_pos h]; simp [h]
  · rw [if_neg h]; simp [h]
theorem frz_pos {g : Gr} (h : (freezeG g).2.2 = 0) : (freezeG g).2.1 = (g.hist.writes.length : Int) ∧ (freezeG g).1.frozen = true ∧ (freezeG g).1.held = [] ∧ (freezeG g).1.hist = g.hist := by
  rw [(frz_ok h).2.2.2]; exact ⟨rfl, rfl, rfl, rfl⟩
end Sx
namespace Go.Proofs.Ytodhhmjilnfecaa
set_option maxRecDepth 100000
set_option maxHeartbeats 0
theorem hol2 {H : HV} {w : World} {l : D} (hl : l.Is St) (hf : fewS [] (l.to St) = true) (hl40 : (l.to St).length ≤ 40) {s : GrD} {q : D} (hs : GrV s) (hfz : s.fz = true) (hq : q.Is Int ∧ q.sz = 1 ∧ q.to Int = s.hd.to Int) :
    Runs Try.prog ⟨w, H⟩ (holM l q s.h.s s.h.w s.h.e s.wt s.hd s.fz 0) (RetS w H (.lb true)) := by
  have ll := D.Is.length (α := St) l
  refine runs_loop (fun u : Nat × GrD × D => holM l u.2.2 u.2.1.h.s u.2.1.h.w u.2.1.h.e u.2.1.wt u.2.1.hd u.2.1.fz u.1) (fun u => u.1 ≤ (l.to St).length ∧ GrV u.2.1 ∧ u.2.1.fz = true ∧ u.2.2.Is Int ∧ u.2.2.sz = 1 ∧ u.2.2.to Int = u.2.1.hd.to Int) (fun u => (l.to St).length - u.1) (fun _ => rfl) ?_ (0, s, q) ⟨Nat.zero_le _, hs, hfz, hq⟩
  rintro ⟨j, ⟨⟨a, b, c⟩, x, y, z⟩, q⟩ ⟨hj, hV, hz, q1, q2, q3⟩ ih
  obtain ⟨hR, hv, he, hw, hwt, hhd⟩ := id hV
  simp only at hj hz he hw hwt hhd q1 q2 q3 ih ⊢
  have hR : GrD.Right ⟨⟨a, b, c⟩, x, y, z⟩ := hR
  have hv : openErr (GrD.gr ⟨⟨a, b, c⟩, x, y, z⟩) = 0 := hv
  have hfr : (GrD.gr ⟨⟨a, b, c⟩, x, y, z⟩).frozen = true := hz
  apply exec_sound ctLSOk 400
  rw [holm_go]
  refine ⟨fun hc => ?_, fun hc => ⟨hR, fun hs0 => ?_⟩⟩
  · have hcj : j < (l.to St).length := by have := of_decide_eq_true hc; omega
    obtain ⟨c1, _, _, _⟩ := st_cell hl hcj
    have hW := acc_step (s := ⟨⟨a, b, c⟩, x, y, z⟩) hl hf hcj
    have wj : IntKind.i64.wrap ((j : Int) + 1) = ((j + 1 : Nat) : Int) := wrap_succ hcj (by omega)
    rw [wj]
    have skip := ih (j + 1, ⟨⟨a, b, c⟩, x, y, z⟩, q) ⟨hcj, hV, hz, q1, q2, q3⟩ (by simp only; omega)
    refine ⟨⟨by omega, by omega, hl.size hcj⟩, c1, fun _ => skip, fun k0 => ⟨fun _ => skip, fun k1 => ⟨⟨hR, by omega, by omega, hW⟩, fun hs0 => ?_⟩⟩⟩
    show Tree.holds _ _ _ (Tree.br _ _ _)
    have k0 := of_decide_eq_false k0
    have k1 := of_decide_eq_false k1
    have hva := run_valid (s := StD.st (StD.mk (D.getInt l (Int.toNat (j : Int)) 0) (WtD.mk (D.getInt l (Int.toNat (j : Int)) 1) (D.getInt l (Int.toNat (j : Int)) 2) (D.cell l (Int.toNat (j : Int)) 3)) (D.getInt l (Int.toNat (j : Int)) 4))) hv
    have hfz := Sx.run_frozen (s := StD.st (StD.mk (D.getInt l (Int.toNat (j : Int)) 0) (WtD.mk (D.getInt l (Int.toNat (j : Int)) 1) (D.getInt l (Int.toNat (j : Int)) 2) (D.cell l (Int.toNat (j : Int)) 3)) (D.getInt l (Int.toNat (j : Int)) 4))) hv hfr (by
      show D.getInt l (Int.toNat (j : Int)) 0 = 0 ∨ D.getInt l (Int.toNat (j : Int)) 0 = 1
      omega)
    generalize hr : runG (GrD.gr ⟨⟨a, b, c⟩, x, y, z⟩) (StD.st (StD.mk (D.getInt l (Int.toNat (j : Int)) 0) (WtD.mk (D.getInt l (Int.toNat (j : Int)) 1) (D.getInt l (Int.toNat (j : Int)) 2) (D.cell l (Int.toNat (j : Int)) 3)) (D.getInt l (Int.toNat (j : Int)) 4))) = r at hva hfz
    obtain ⟨f1, f2, f3⟩ := hfz
    have f3 : r.1.held = y.to Int ++ (x.to Int).filter (fun w => !r.1.waiting.contains w) := f3
    have hb := valid_b hva
    have hb4 := hb.hd
    have n0 : (D.like (hs0 0 5) r.2).len = 0 := by rw [llen, f1]; rfl
    refine ⟨fun h0 => ?_, fun _ => ?_⟩
    · exfalso; have := of_decide_eq_true h0; omega
    have xl := D.Is.length (α := Int) x
    have yl := D.Is.length (α := Int) y
    have x2i := D.like_is (hs0 0 3) r.1.waiting
    have x2t := D.like_to (hs0 0 3) r.1.waiting
    have x2l : (D.like (hs0 0 3) r.1.waiting).len ≤ 1048576 := by rw [llen]; have := hb.wt; omega
    refine runs_loop (fun u : Nat × D => holN l u.2 a b c x y (likeGD (hs0 0) r.1).h.s (likeGD (hs0 0) r.1).h.w (likeGD (hs0 0) r.1).h.e (likeGD (hs0 0) r.1).wt (likeGD (hs0 0) r.1).hd z (likeGD (hs0 0) r.1).fz j u.1) (fun u => u.1 ≤ (x.to Int).length ∧ u.2.Is Int ∧ u.2.sz = 1 ∧ u.2.to Int = y.to Int ++ ((x.to Int).take u.1).filter (fun w => !r.1.waiting.contains w)) (fun u => (x.to Int).length - u.1) (fun _ => rfl) ?_ (0, q) ⟨Nat.zero_le _, q1, q2, by rw [q3]; simp⟩
    rintro ⟨i, q'⟩ ⟨hi, p1, p2, p3⟩ ihi
    simp only at hi p1 p2 p3 ihi
    have ql : q'.len ≤ 1048576 := by
      rw [D.Is.length (α := Int), p3, List.length_append]
      have := List.length_filter_le (fun w => !r.1.waiting.contains w) ((x.to Int).take i)
      rw [List.length_take] at this; omega
    apply exec_sound ctLSOk 400
    rw [holn_go]
    refine ⟨fun hc => ?_, fun hc => ?_⟩
    · have hci : i < (x.to Int).length := by have := of_decide_eq_true hc; omega
      obtain ⟨d1, d2, d3⟩ := int_at hR.2.1 hci
      have wi : IntKind.i64.wrap ((i : Int) + 1) = ((i + 1 : Nat) : Int) := wrap_succ hci (by omega)
      have sn := filt_take (f := fun w => !r.1.waiting.contains w) hci
      have d3 : D.getInt x (Int.toNat (i : Int)) 0 = (x.to Int)[i] := d3
      rw [wi, d3]
      have x2t : (likeGD (hs0 0) r.1).wt.to Int = r.1.waiting := x2t
      rw [x2t]
      refine ⟨d1, d2, ⟨x2i, x2l⟩, fun hn hs1 => ⟨apq_need p2 ql, fun hs2 => ?_⟩, fun hn => ?_⟩
      · rw [if_pos hn] at sn
        obtain ⟨i1, i2, i3⟩ := apq_is (a := D.hd (hs1 0 0)) (b := D.hd (hs2 0 0)) (z := (x.to Int)[i]) p1 p3
        exact ihi (i + 1, _) ⟨hci, i1, i2, by rw [i3]; simp only; rw [sn, List.append_assoc]⟩ (by simp only; omega)
      · rw [hn, if_neg Bool.false_ne_true] at sn
        exact ihi (i + 1, q') ⟨hci, p1, p2, by simp only; rw [p3, sn]⟩ (by simp only; omega)
    · have hil : i = (x.to Int).length := by have := of_decide_eq_false hc; omega
      subst hil
      rw [List.take_length] at p3
      rw [wj]
      exact ih (j + 1, likeGD (hs0 0) r.1, q') ⟨hcj, likeGD_v hva, f2, p1, p2, by simp only [likeGD, D.like_to]; rw [p3, f3]⟩ (by simp only; omega)
  · have ht := thawG_ok hv hfr
    have ha : (thawG (GrD.gr ⟨⟨a, b, c⟩, x, y, z⟩)).2.1 = y.to Int := by rw [ht]; rfl
    have he0 : (thawG (GrD.gr ⟨⟨a, b, c⟩, x, y, z⟩)).2.2 = 0 := by rw [ht]
    have yl := D.Is.length (α := Int) y
    rw [ha, he0]
    refine ⟨fun _ => ⟨⟨D.like_is _ _, q1, by rw [llen]; omega, by rw [D.like_to, q3]⟩, ret_lbt⟩, fun h => absurd h (by decide)⟩
theorem lawGHol : Law Try.prog 6 ((rdD.three rdD rdD).sp spGHol) := by
  refine law_in _ (by kernel_rfl) fun H w ⟨d, e, l⟩ hok hp => ?_
  obtain ⟨hd, he, hl⟩ := hp _ (List.mem_singleton.2 rfl)
  simp only at hd he hl
  apply exec_sound ctLSOk 400
  rw [show (rdD.three rdD rdD).canon (d, e, l) = [.dat d, .dat e, .dat l] from rfl, hol_in]
  refine ⟨hd, fun hs => ⟨⟨hd, he⟩, fun _ => ret_lbt, fun hf1 => ⟨⟨hd, hl⟩, fun _ => ret_lbt, fun hf2 => ⟨fun _ => ret_lbt, fun h0 => ?_⟩⟩⟩⟩
  have hf1 : fewS (d.to Int) (e.to St) = true := by simpa using hf1
  have hf2 : fewS (d.to Int) (l.to St) = true := by simpa using hf2
  have h0 : (newG (d.to Int)).2 = 0 := by simpa using h0
  have hn : openErr (newG (d.to Int)).1 = 0 := by
    rcases newG_cases (d.to Int) with h | h
    · exact absurd h0 h.2
    · exact h.2.1
  have hfe := few_tail hf1
  have hfl := few_tail hf2
  have el := D.Is.length (α := St) e
  refine runs_loop (fun u : Nat × GrD => holL e l u.2.h.s u.2.h.w u.2.h.e u.2.wt u.2.hd u.2.fz u.1) (fun u => u.1 ≤ (e.to St).length ∧ GrV u.2) (fun u => (e.to St).length - u.1) (fun _ => rfl) ?_ (0, likeGD (hs 0) (newG (d.to Int)).1) ⟨Nat.zero_le _, likeGD_v hn⟩
  rintro ⟨j, ⟨a, b, c⟩, x, y, z⟩ ⟨hj, hV⟩ ih
  obtain ⟨hR, hv, hec, hw, hwt, hhd⟩ := id hV
  simp only at hj hec hw hwt hhd ih ⊢
  have hR : GrD.Right ⟨⟨a, b, c⟩, x, y, z⟩ := hR
  have hv : openErr (GrD.gr ⟨⟨a, b, c⟩, x, y, z⟩) = 0 := hv
  apply exec_sound ctLSOk 400
  rw [hol_go]
  refine ⟨fun hc => ?_, fun hc => ⟨fun hz => ⟨hR, fun hs0 => ⟨?_, fun hs1 => ⟨fun hbad => ?_, fun _ => ?_⟩⟩⟩, fun hz => ⟨hR, fun hs0 => ⟨fun hbad => ?_, fun _ => ?_⟩⟩⟩⟩
  · have hcj : j < (e.to St).length := by have := of_decide_eq_true hc; omega
    obtain ⟨c1, _, _, _⟩ := st_cell he hcj
    have hW := acc_step (s := ⟨⟨a, b, c⟩, x, y, z⟩) he hfe.1 hcj
    have wj : IntKind.i64.wrap ((j : Int) + 1) = ((j + 1 : Nat) : Int) := wrap_succ (n := 40) (by omega) (by omega)
    rw [wj]
    exact ⟨⟨by omega, by omega, he.size hcj⟩, c1, ⟨hR, by omega, by omega, hW⟩, fun hs0 => ih (j + 1, likeGD (hs0 0) _) ⟨hcj, likeGD_v (run_valid hv)⟩ (by simp only; omega)⟩
  · exact likeG_right (thaw_b _)
  · exfalso
    have hoff := frozenOff_ok hv
    unfold frozenOff at hoff
    rw [if_pos (show (GrD.gr ⟨⟨a, b, c⟩, x, y, z⟩).frozen = true from hz)] at hoff
    rw [likeG_gr, hoff.2.2] at hbad
    exact absurd hbad (by decide)
  · have hoff := frozenOff_ok hv
    unfold frozenOff at hoff
    rw [if_pos (show (GrD.gr ⟨⟨a, b, c⟩, x, y, z⟩).frozen = true from hz)] at hoff
    have hfp := frz_pos hoff.2.2
    refine vecIn_to 9 3 1 none 11 (holM l (.slc none 1 []) (likeGD (hs1 0) (freezeG (GrD.gr (likeGD (hs0 0) (thawG (GrD.gr ⟨⟨a, b, c⟩, x, y, z⟩)).1))).1).h.s (likeGD (hs1 0) (freezeG (GrD.gr (likeGD (hs0 0) (thawG (GrD.gr ⟨⟨a, b, c⟩, x, y, z⟩)).1))).1).h.w (likeGD (hs1 0) (freezeG (GrD.gr (likeGD (hs0 0) (thawG (GrD.gr ⟨⟨a, b, c⟩, x, y, z⟩)).1))).1).h.e (likeGD (hs1 0) (freezeG (GrD.gr (likeGD (hs0 0) (thawG (GrD.gr ⟨⟨a, b, c⟩, x, y, z⟩)).1))).1).wt (likeGD (hs1 0) (freezeG (GrD.gr (likeGD (hs0 0) (thawG (GrD.gr ⟨⟨a, b, c⟩, x, y, z⟩)).1))).1).hd (likeGD (hs1 0) (freezeG (GrD.gr (likeGD (hs0 0) (thawG (GrD.gr ⟨⟨a, b, c⟩, x, y, z⟩)).1))).1).fz 0) (by kernel_rfl) ?_
    rw [likeGD_gr]
    refine hol2 hl hfl.1 hfl.2 (likeGD_v (frz_ok hoff.2.2).1) hfp.2.1 ⟨is_nil _ _, rfl, ?_⟩
    simp only [likeGD, D.like_to]; rw [hfp.2.2.1]; rfl
  · exfalso
    have hoff := frozenOff_ok hv
    unfold frozenOff at hoff
    rw [if_neg (show ¬(GrD.gr ⟨⟨a, b, c⟩, x, y, z⟩).frozen = true from fun e => by have e : z = true := e; rw [hz] at e; cases e)] at hoff
    rw [hoff.2.2] at hbad
    exact absurd hbad (by decide)
  · have hoff := frozenOff_ok hv
    unfold frozenOff at hoff
    rw [if_neg (show ¬(GrD.gr ⟨⟨a, b, c⟩, x, y, z⟩).frozen = true from fun e => by have e : z = true := e; rw [hz] at e; cases e)] at hoff
    have hfp := frz_pos hoff.2.2
    refine vecIn_to 9 3 1 none 11 (holM l (.slc none 1 []) (likeGD (hs0 0) (freezeG (GrD.gr ⟨⟨a, b, c⟩, x, y, z⟩)).1).h.s (likeGD (hs0 0) (freezeG (GrD.gr ⟨⟨a, b, c⟩, x, y, z⟩)).1).h.w (likeGD (hs0 0) (freezeG (GrD.gr ⟨⟨a, b, c⟩, x, y, z⟩)).1).h.e (likeGD (hs0 0) (freezeG (GrD.gr ⟨⟨a, b, c⟩, x, y, z⟩)).1).wt (likeGD (hs0 0) (freezeG (GrD.gr ⟨⟨a, b, c⟩, x, y, z⟩)).1).hd (likeGD (hs0 0) (freezeG (GrD.gr ⟨⟨a, b, c⟩, x, y, z⟩)).1).fz 0) (by kernel_rfl) ?_
    refine hol2 hl hfl.1 hfl.2 (likeGD_v (frz_ok hoff.2.2).1) hfp.2.1 ⟨is_nil _ _, rfl, ?_⟩
    simp only [likeGD, D.like_to]; rw [hfp.2.2.1]; rfl
end Go.Proofs.Ytodhhmjilnfecaa
end
