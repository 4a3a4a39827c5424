/- Layer 20: GroupCuts. -/
import Derived.Test.YtodhhmjilnfecaaUL31toUL103
set_option linter.all false
open Go Go.Proofs Sx
namespace Go.Proofs.Ytodhhmjilnfecaa
set_option maxRecDepth 100000
set_option maxHeartbeats 0
theorem cut2 {H : HV} {w : World} {l : D} (hl : l.Is St) (hf : fewS [] (l.to St) = true) (hl40 : (l.to St).length ≤ 40) {s : GrD} {p : Nat} (hs : GrV s) (hp : p ≤ 8192) :
    Runs Try.prog ⟨w, H⟩ (cutM p l s.h.s s.h.w s.h.e s.wt s.hd s.fz 0) (RetS w H (.lb true)) := by
  have ll := D.Is.length (α := St) l
  refine runs_loop (fun u : Nat × GrD => cutM p l u.2.h.s u.2.h.w u.2.h.e u.2.wt u.2.hd u.2.fz u.1) (fun u => u.1 ≤ (l.to St).length ∧ GrV u.2) (fun u => (l.to St).length - u.1) (fun _ => rfl) ?_ (0, s) ⟨Nat.zero_le _, hs⟩
  rintro ⟨j, ⟨a, b, c⟩, x, y, z⟩ ⟨hj, hV⟩ ih
  obtain ⟨hR, hv, he, hw, hwt, hhd⟩ := id hV
  simp only at hj he hw hwt hhd ih ⊢
  have hR : GrD.Right ⟨⟨a, b, c⟩, x, y, z⟩ := hR
  have hv : openErr (GrD.gr ⟨⟨a, b, c⟩, x, y, z⟩) = 0 := hv
  apply exec_sound ctLSOk 400
  rw [cutm_go]
  refine ⟨fun hc => ?_, fun hc => ret_lbt⟩
  have hcj : j < (l.to St).length := by have := of_decide_eq_true hc; omega
  obtain ⟨c1, _, _, _⟩ := st_cell hl hcj
  have hW := acc_step (s := ⟨⟨a, b, c⟩, x, y, z⟩) hl hf hcj
  have wj : IntKind.i64.wrap ((j : Int) + 1) = ((j + 1 : Nat) : Int) := wrap_succ hcj (by omega)
  rw [wj]
  refine ⟨⟨by omega, by omega, hl.size hcj⟩, c1, ⟨hR, by omega, by omega, hW⟩, fun hs0 => ?_⟩
  show Tree.holds _ _ _ (Tree.br _ _ _)
  have hva := run_valid (s := StD.st (StD.mk (D.getInt l (Int.toNat (j : Int)) 0) (WtD.mk (D.getInt l (Int.toNat (j : Int)) 1) (D.getInt l (Int.toNat (j : Int)) 2) (D.cell l (Int.toNat (j : Int)) 3)) (D.getInt l (Int.toNat (j : Int)) 4))) hv
  generalize hr : runG (GrD.gr ⟨⟨a, b, c⟩, x, y, z⟩) (StD.st (StD.mk (D.getInt l (Int.toNat (j : Int)) 0) (WtD.mk (D.getInt l (Int.toNat (j : Int)) 1) (D.getInt l (Int.toNat (j : Int)) 2) (D.cell l (Int.toNat (j : Int)) 3)) (D.getInt l (Int.toNat (j : Int)) 4))) = r at hva
  have n3 : (D.like (hs0 0 1) r.1.hist.writes).len = r.1.hist.writes.length := llen _ _
  refine ⟨fun _ => ret_lbt, fun hlt hs1 => ⟨by omega, ⟨(likeGD_v (ds := hs0 0) hva).r.1, D.like_is _ _, by rw [llen, firstN_len]; omega⟩, fun hbad => ?_, fun _ => ih (j + 1, likeGD (hs0 0) r.1) ⟨hcj, likeGD_v hva⟩ (by simp only; omega)⟩⟩
  exfalso
  have hlt := of_decide_eq_false hlt
  rw [like_hist, D.like_to, closedB_first ((openErr_iff _).1 hva).1 (by omega)] at hbad
  cases hbad
theorem lawGCut : Law Try.prog 9 ((rdD.three rdD rdD).sp spGHol) := by
  refine law_in _ (by kernel_rfl) fun H w ⟨d, e, l⟩ hok hp => ?_
  obtain ⟨hd, he, hl⟩ := hp _ (List.mem_singleton.2 rfl)
  simp only at hd he hl
  apply exec_sound ctLSOk 400
  rw [show (rdD.three rdD rdD).canon (d, e, l) = [.dat d, .dat e, .dat l] from rfl, cut_in]
  refine ⟨hd, fun hs => ⟨⟨hd, he⟩, fun _ => ret_lbt, fun hf1 => ⟨⟨hd, hl⟩, fun _ => ret_lbt, fun hf2 => ⟨fun _ => ret_lbt, fun h0 => ?_⟩⟩⟩⟩
  have hf1 : fewS (d.to Int) (e.to St) = true := by simpa using hf1
  have hf2 : fewS (d.to Int) (l.to St) = true := by simpa using hf2
  have h0 : (newG (d.to Int)).2 = 0 := by simpa using h0
  have hn : openErr (newG (d.to Int)).1 = 0 := by
    rcases newG_cases (d.to Int) with h | h
    · exact absurd h0 h.2
    · exact h.2.1
  have hfe := few_tail hf1
  have hfl := few_tail hf2
  have el := D.Is.length (α := St) e
  refine runs_loop (fun u : Nat × GrD => cutL e l u.2.h.s u.2.h.w u.2.h.e u.2.wt u.2.hd u.2.fz u.1) (fun u => u.1 ≤ (e.to St).length ∧ GrV u.2) (fun u => (e.to St).length - u.1) (fun _ => rfl) ?_ (0, likeGD (hs 0) (newG (d.to Int)).1) ⟨Nat.zero_le _, likeGD_v hn⟩
  rintro ⟨j, ⟨a, b, c⟩, x, y, z⟩ ⟨hj, hV⟩ ih
  obtain ⟨hR, hv, hec, hw, hwt, hhd⟩ := id hV
  simp only at hj hec hw hwt hhd ih ⊢
  have hR : GrD.Right ⟨⟨a, b, c⟩, x, y, z⟩ := hR
  have hv : openErr (GrD.gr ⟨⟨a, b, c⟩, x, y, z⟩) = 0 := hv
  apply exec_sound ctLSOk 400
  rw [cut_go]
  have fin : ∀ (g : Gr) (ds : Nat → D), (freezeG g).2.2 = 0 → (freezeG g).2.1 = ((freezeG g).1.hist.writes.length : Int) ∧ Runs Try.prog ⟨w, H⟩ (cutM (freezeG g).2.1 l (likeGD ds (freezeG g).1).h.s (likeGD ds (freezeG g).1).h.w (likeGD ds (freezeG g).1).h.e (likeGD ds (freezeG g).1).wt (likeGD ds (freezeG g).1).hd (likeGD ds (freezeG g).1).fz 0) (RetS w H (.lb true)) := fun g ds h => by
    have hfp := frz_pos h
    have hok := (frz_ok h).1
    have hb := valid_b hok
    have e1 : (freezeG g).2.1 = ((freezeG g).1.hist.writes.length : Int) := by rw [hfp.1, hfp.2.2.2]
    refine ⟨e1, ?_⟩
    rw [e1]
    exact cut2 hl hfl.1 hfl.2 (likeGD_v hok) hb.w
  refine ⟨fun hc => ?_, fun hc => ⟨fun hz => ⟨hR, fun hs0 => ⟨?_, fun hs1 => ⟨fun hbad => ?_, fun _ => ⟨fun hne => ?_, fun _ => ?_⟩⟩⟩⟩, fun hz => ⟨hR, fun hs0 => ⟨fun hbad => ?_, fun _ => ⟨fun hne => ?_, fun _ => ?_⟩⟩⟩⟩⟩
  · have hcj : j < (e.to St).length := by have := of_decide_eq_true hc; omega
    obtain ⟨c1, _, _, _⟩ := st_cell he hcj
    have hW := acc_step (s := ⟨⟨a, b, c⟩, x, y, z⟩) he hfe.1 hcj
    have wj : IntKind.i64.wrap ((j : Int) + 1) = ((j + 1 : Nat) : Int) := wrap_succ (n := 40) (by omega) (by omega)
    rw [wj]
    exact ⟨⟨by omega, by omega, he.size hcj⟩, c1, ⟨hR, by omega, by omega, hW⟩, fun hs0 => ih (j + 1, likeGD (hs0 0) _) ⟨hcj, likeGD_v (run_valid hv)⟩ (by simp only; omega)⟩
  · exact likeG_right (thaw_b _)
  · exfalso
    have hoff := frozenOff_ok hv
    unfold frozenOff at hoff
    rw [if_pos (show (GrD.gr ⟨⟨a, b, c⟩, x, y, z⟩).frozen = true from hz)] at hoff
    rw [likeG_gr, hoff.2.2] at hbad
    exact absurd hbad (by decide)
  · exfalso
    have hoff := frozenOff_ok hv
    unfold frozenOff at hoff
    rw [if_pos (show (GrD.gr ⟨⟨a, b, c⟩, x, y, z⟩).frozen = true from hz)] at hoff
    rw [likeG_gr, llen, (fin _ (hs1 0) hoff.2.2).1] at hne
    simp at hne
  · have hoff := frozenOff_ok hv
    unfold frozenOff at hoff
    rw [if_pos (show (GrD.gr ⟨⟨a, b, c⟩, x, y, z⟩).frozen = true from hz)] at hoff
    have := (fin _ (hs1 0) hoff.2.2).2
    rw [← likeGD_gr (hs0 0) (thawG (GrD.gr ⟨⟨a, b, c⟩, x, y, z⟩)).1] at this
    exact this
  · exfalso
    have hoff := frozenOff_ok hv
    unfold frozenOff at hoff
    rw [if_neg (show ¬(GrD.gr ⟨⟨a, b, c⟩, x, y, z⟩).frozen = true from fun e => by have e : z = true := e; rw [hz] at e; cases e)] at hoff
    rw [hoff.2.2] at hbad
    exact absurd hbad (by decide)
  · exfalso
    have hoff := frozenOff_ok hv
    unfold frozenOff at hoff
    rw [if_neg (show ¬(GrD.gr ⟨⟨a, b, c⟩, x, y, z⟩).frozen = true from fun e => by have e : z = true := e; rw [hz] at e; cases e)] at hoff
    rw [llen, (fin _ (hs0 0) hoff.2.2).1] at hne
    simp at hne
  · have hoff := frozenOff_ok hv
    unfold frozenOff at hoff
    rw [if_neg (show ¬(GrD.gr ⟨⟨a, b, c⟩, x, y, z⟩).frozen = true from fun e => by have e : z = true := e; rw [hz] at e; cases e)] at hoff
    exact (fin _ (hs0 0) hoff.2.2).2
end Go.Proofs.Ytodhhmjilnfecaa
