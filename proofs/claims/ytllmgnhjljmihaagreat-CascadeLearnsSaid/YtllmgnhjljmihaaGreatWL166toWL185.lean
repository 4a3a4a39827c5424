/- Layer 41: formed, Check: laws. -/
import Derived.Test.YtllmgnhjljmihaaGreatWL5toWT166
import Derived.KernelRfl
import Derived.Test.YtllmgnhjljmihaaGreatOvtoWT5
import Derived.Laws.CopyRow
import Derived.Shelf.Bits.Mul64
import Derived.Test.YtllmgnhjljmihaaGreatProg
import Derived.Laws.CopyOwn
set_option linter.all false
section
open Go Go.Proofs Sx
namespace Sx
def fmRes (r : Rl) : Int := if formedR r = false then 3 else 0
theorem fmRes_bad {r : Rl} (h : formedR r = false) : fmRes r = 3 := by unfold fmRes; rw [if_pos h]
theorem fmRes_ok {r : Rl} (h : formedR r = true) : fmRes r = 0 := by unfold fmRes; rw [h]; rfl
def spFmR (x : RlD) : SpecR := .scalar [x.Ok] (.bool (formedR x.rl))
end Sx
namespace Go.Proofs.YtllmgnhjljmihaaGreat
set_option maxRecDepth 100000
section
variable {H : HV} {w : World} {a1 a2 a3 a4 b1 b2 b3 b4 e si st ap : Int} {o k : D}
theorem fmE_runs (hx : RlD.Ok ⟨⟨a1, a2, a3, a4⟩, ⟨b1, b2, b3, b4⟩, ⟨e, si, o, st, ap⟩, k⟩) (hcs : Ctrs.Ok Tryz.prog ctFm)
    (h : formedR (RlD.rl ⟨⟨a1, a2, a3, a4⟩, ⟨b1, b2, b3, b4⟩, ⟨e, si, o, st, ap⟩, k⟩) = ((leadsI (k.to Cy) ap).2 && decide ((leadsI (k.to Cy) ap).1 ≤ a4))) :
    Runs Tryz.prog ⟨w, H⟩ (fmE ⟨⟨a1, a2, a3, a4⟩, ⟨b1, b2, b3, b4⟩, ⟨e, si, o, st, ap⟩, k⟩) (RetS w H (.int .i64 (fmRes (RlD.rl ⟨⟨a1, a2, a3, a4⟩, ⟨b1, b2, b3, b4⟩, ⟨e, si, o, st, ap⟩, k⟩)))) := by
  obtain ⟨h1, h2, h3, h4, h5⟩ := hx
  apply exec_sound hcs 300
  rw [fmE_go]
  refine fun hs => ⟨⟨h2, h4⟩, fun c1 => ⟨fun c2 => ret_int (fmRes_bad ?_).symm, fun c2 => ret_int (fmRes_ok ?_).symm⟩, fun c1 => ret_int (fmRes_bad ?_).symm⟩
  · rw [h, c1]; simpa using c2
  · rw [h, c1]; simpa using c2
  · rw [h, c1]; rfl
theorem fmD_runs {s : D} (hx : RlD.Ok ⟨⟨a1, a2, a3, a4⟩, ⟨b1, b2, b3, b4⟩, ⟨e, si, o, st, ap⟩, k⟩) (hcs : Ctrs.Ok Tryz.prog ctFm) (hs : s.Is Int) (hto : s.to Int = most)
    (h : formedR (RlD.rl ⟨⟨a1, a2, a3, a4⟩, ⟨b1, b2, b3, b4⟩, ⟨e, si, o, st, ap⟩, k⟩) = (!anyCy most (k.to Cy) && decide ((k.to Cy).map Cy.number = o.to Int) && (leadsI (k.to Cy) ap).2 && decide ((leadsI (k.to Cy) ap).1 ≤ a4))) :
    Runs Tryz.prog ⟨w, H⟩ (fmD ⟨⟨a1, a2, a3, a4⟩, ⟨b1, b2, b3, b4⟩, ⟨e, si, o, st, ap⟩, k⟩ s) (RetS w H (.int .i64 (fmRes (RlD.rl ⟨⟨a1, a2, a3, a4⟩, ⟨b1, b2, b3, b4⟩, ⟨e, si, o, st, ap⟩, k⟩)))) := by
  have hx' := hx
  obtain ⟨h1, h2, h3, h4, h5⟩ := hx
  have sl : s.len ≤ 1048576 := by rw [D.Is.length (α := Int), hto]; decide
  apply goS_sound hcs (fun _ => false) fmS 300
  rw [fmD_go, hto]
  have kl := D.Is.length (α := Cy) k
  have n1 : k.Is Cy ∧ k.len ≤ 1048576 ∧ (∀ c, List.Mem c (k.to Cy) → CyOk c) ∧ s.Is Int ∧ s.len ≤ 1048576 := ⟨h2, h4, fun c hc => h5 c hc, hs, sl⟩
  have n2 : k.Is Cy ∧ k.len ≤ 1048576 := ⟨h2, h4⟩
  refine fun hs => ⟨fun c1 => ?_, fun c1 => ?_⟩
  · repeat refine holds_need.2 ⟨by assumption, ?_⟩
    exact ret_int (fmRes_bad (by rw [h, c1]; rfl)).symm
  · have n3 : (D.like (hs 13 0) ((k.to Cy).map Cy.number)).Is Int ∧ o.Is Int ∧ (D.like (hs 13 0) ((k.to Cy).map Cy.number)).len ≤ 1048576 := ⟨D.like_is _ _, h1, by rw [D.Is.length (α := Int), D.like_to, List.length_map]; omega⟩
    repeat refine holds_need.2 ⟨by assumption, ?_⟩
    rw [D.like_to]
    refine ⟨fun c2 => ret_int (fmRes_bad ?_).symm, fun c2 => fmE_runs hx' hcs ?_⟩
    · have c2 : ¬((k.to Cy).map Cy.number = o.to Int) := by simpa using c2
      rw [h, c1, decide_eq_false c2]; rfl
    · have c2 : (k.to Cy).map Cy.number = o.to Int := by simpa using c2
      rw [h, c1, decide_eq_true c2]; rfl
theorem fmC_runs (hx : RlD.Ok ⟨⟨a1, a2, a3, a4⟩, ⟨b1, b2, b3, b4⟩, ⟨e, si, o, st, ap⟩, k⟩) (hcs : Ctrs.Ok Tryz.prog ctFm)
    (h : formedR (RlD.rl ⟨⟨a1, a2, a3, a4⟩, ⟨b1, b2, b3, b4⟩, ⟨e, si, o, st, ap⟩, k⟩) = (!anyCy most (k.to Cy) && decide ((k.to Cy).map Cy.number = o.to Int) && (leadsI (k.to Cy) ap).2 && decide ((leadsI (k.to Cy) ap).1 ≤ a4))) :
    Runs Tryz.prog ⟨w, H⟩ (fmC ⟨⟨a1, a2, a3, a4⟩, ⟨b1, b2, b3, b4⟩, ⟨e, si, o, st, ap⟩, k⟩) (RetS w H (.int .i64 (fmRes (RlD.rl ⟨⟨a1, a2, a3, a4⟩, ⟨b1, b2, b3, b4⟩, ⟨e, si, o, st, ap⟩, k⟩)))) := by
  apply goS_sound hcs (fun _ => false) fmS 300
  rw [fmC_go]
  exact fun hs => fmD_runs hx hcs (D.like_is (hs 0 0) most) (D.like_to _ _) h
theorem fmB_runs (hx : RlD.Ok ⟨⟨a1, a2, a3, a4⟩, ⟨b1, b2, b3, b4⟩, ⟨e, si, o, st, ap⟩, k⟩) (hcs : Ctrs.Ok Tryz.prog ctFm)
    (h : formedR (RlD.rl ⟨⟨a1, a2, a3, a4⟩, ⟨b1, b2, b3, b4⟩, ⟨e, si, o, st, ap⟩, k⟩) = (!(decide (a3 ≠ a4) || decide (b3 ≠ st) || decide (b4 ≠ ap)) && (!anyCy most (k.to Cy) && decide ((k.to Cy).map Cy.number = o.to Int) && (leadsI (k.to Cy) ap).2 && decide ((leadsI (k.to Cy) ap).1 ≤ a4)))) :
    Runs Tryz.prog ⟨w, H⟩ (fmB ⟨⟨a1, a2, a3, a4⟩, ⟨b1, b2, b3, b4⟩, ⟨e, si, o, st, ap⟩, k⟩) (RetS w H (.int .i64 (fmRes (RlD.rl ⟨⟨a1, a2, a3, a4⟩, ⟨b1, b2, b3, b4⟩, ⟨e, si, o, st, ap⟩, k⟩)))) := by
  apply goS_sound hcs (fun _ => false) fmS 300
  rw [fmB_go]
  refine fun hs => ⟨fun c1 => ?_, fun c1 => ⟨fun c2 => ?_, fun c2 => ?_⟩⟩
  · repeat refine holds_need.2 ⟨by assumption, ?_⟩
    have c1 : a3 ≠ a4 := by simpa using c1
    exact ret_int (fmRes_bad (by rw [h, decide_eq_true c1]; rfl)).symm
  · repeat refine holds_need.2 ⟨by assumption, ?_⟩
    have c2 : b3 ≠ st := by simpa using c2
    exact ret_int (fmRes_bad (by rw [h, decide_eq_true c2, Bool.or_true]; rfl)).symm
  · repeat refine holds_need.2 ⟨by assumption, ?_⟩
    have c1 : ¬a3 ≠ a4 := by simpa using c1
    have c2 : ¬b3 ≠ st := by simpa using c2
    refine ⟨fun c3 => ?_, fun c3 => fmC_runs hx hcs ?_⟩
    · have c3 : b4 ≠ ap := by simpa using c3
      exact ret_int (fmRes_bad (by rw [h, decide_eq_true c3, Bool.or_true]; rfl)).symm
    · have c3 : ¬b4 ≠ ap := by simpa using c3
      rw [h, decide_eq_false c1, decide_eq_false c2, decide_eq_false c3]; rfl
theorem formed_eq : formedR (RlD.rl ⟨⟨a1, a2, a3, a4⟩, ⟨b1, b2, b3, b4⟩, ⟨e, si, o, st, ap⟩, k⟩) = (!(decide (a2 = b2) || decide (si ≠ b2) || decide (a1 ≠ b1) || decide (a1 ≠ e)) && (!(decide (a3 ≠ a4) || decide (b3 ≠ st) || decide (b4 ≠ ap)) && (!anyCy most (k.to Cy) && decide ((k.to Cy).map Cy.number = o.to Int) && (leadsI (k.to Cy) ap).2 && decide ((leadsI (k.to Cy) ap).1 ≤ a4)))) := by
  have e : (!anyCy most (k.to Cy)) = ((k.to Cy).all fun c => decide (cyErr c most = 0)) := by
    unfold anyCy
    rw [List.not_any_eq_all_not]
    congr 1; funext c
    by_cases h : cyErr c most = 0 <;> simp [h]
  rw [e]
  simp only [formedR, RlD.rl, SrcD.src, Bool.and_assoc]
  rfl
theorem fmA_runs (hx : RlD.Ok ⟨⟨a1, a2, a3, a4⟩, ⟨b1, b2, b3, b4⟩, ⟨e, si, o, st, ap⟩, k⟩) (hcs : Ctrs.Ok Tryz.prog ctFm) :
    Runs Tryz.prog ⟨w, H⟩ (fmA ⟨⟨a1, a2, a3, a4⟩, ⟨b1, b2, b3, b4⟩, ⟨e, si, o, st, ap⟩, k⟩) (RetS w H (.int .i64 (fmRes (RlD.rl ⟨⟨a1, a2, a3, a4⟩, ⟨b1, b2, b3, b4⟩, ⟨e, si, o, st, ap⟩, k⟩)))) := by
  have h := formed_eq (a1 := a1) (a2 := a2) (a3 := a3) (a4 := a4) (b1 := b1) (b2 := b2) (b3 := b3) (b4 := b4) (e := e) (si := si) (st := st) (ap := ap) (o := o) (k := k)
  apply goS_sound hcs (fun _ => false) fmS 300
  rw [fmA_go]
  refine fun hs => ⟨fun c1 => ?_, fun c1 => ⟨fun c2 => ?_, fun c2 => ⟨fun c3 => ?_, fun c3 => ?_⟩⟩⟩
  · repeat refine holds_need.2 ⟨by assumption, ?_⟩
    exact ret_int (fmRes_bad (by rw [h, c1]; rfl)).symm
  · repeat refine holds_need.2 ⟨by assumption, ?_⟩
    have c2 : si ≠ b2 := by simpa using c2
    exact ret_int (fmRes_bad (by rw [h, decide_eq_true c2, Bool.or_true]; rfl)).symm
  · repeat refine holds_need.2 ⟨by assumption, ?_⟩
    have c3 : a1 ≠ b1 := by simpa using c3
    exact ret_int (fmRes_bad (by rw [h, decide_eq_true c3, Bool.or_true]; rfl)).symm
  · repeat refine holds_need.2 ⟨by assumption, ?_⟩
    have c2 : ¬si ≠ b2 := by simpa using c2
    have c3 : ¬a1 ≠ b1 := by simpa using c3
    refine ⟨fun c4 => ?_, fun c4 => fmB_runs hx hcs ?_⟩
    · have c4 : a1 ≠ e := by simpa using c4
      exact ret_int (fmRes_bad (by rw [h, decide_eq_true c4, Bool.or_true]; rfl)).symm
    · have c4 : ¬a1 ≠ e := by simpa using c4
      rw [h, c1, decide_eq_false c2, decide_eq_false c3, decide_eq_false c4]; rfl
theorem rfm_false {j : Nat} (hk : k.Is Cy) (ho : o.Is Int) (hj : j < (k.to Cy).length) (hl : (k.to Cy).length = (o.to Int).length) {a : Int} (hpre : leadsI ((k.to Cy).take j) ap = (a, true))
    (hbad : cyErr (k.to Cy)[j] most ≠ 0 ∨ ((k.to Cy)[j]).number ≠ (o.to Int)[j] ∨ ((k.to Cy)[j]).base > a) :
    (!anyCy most (k.to Cy) && decide ((k.to Cy).map Cy.number = o.to Int) && (leadsI (k.to Cy) ap).2 && decide ((leadsI (k.to Cy) ap).1 ≤ a4)) = false := by
  rcases hbad with h | h | h
  · rw [anyCy_cut hj h]; rfl
  · have : ¬((k.to Cy).map Cy.number = o.to Int) := fun e => h (by
      have := congrArg (fun l => l[j]?) e
      simp only [List.getElem?_map, List.getElem?_eq_getElem hj, List.getElem?_eq_getElem (hl ▸ hj), Option.map_some, Option.some.injEq] at this
      exact this)
    rw [decide_eq_false this, Bool.and_false]; rfl
  · have sn : leadsI ((k.to Cy).take (j + 1)) ap = (((k.to Cy)[j]).number, false) := by
      rw [List.take_succ_eq_append_getElem hj, leads_snoc, hpre, if_pos rfl]
      simp [h]
    have : (leadsI (k.to Cy) ap).2 = false := by rw [leads_cut (j := j + 1) (by rw [sn]), sn]
    rw [this, Bool.and_false]; rfl
end
theorem ctFmROk : Ctrs.Ok Tryz.prog ctFmR := by
  intro x hx
  simp only [ctFmR, List.mem_cons, List.not_mem_nil, or_false] at hx
  rcases hx with rfl | rfl
  · exact ctrOf_ok lawMostR
  · exact ctrOf_ok lawCyCkR
theorem lawFmR : Law Tryz.prog 68 (rdRl.one.sp spFmR) := by
  refine law_in _ (by kernel_rfl) fun H w ⟨⟨a1, a2, a3, a4⟩, ⟨b1, b2, b3, b4⟩, ⟨e, si, o, st, ap⟩, k⟩ hok hp => ?_
  obtain ⟨h1, h2, h3, h4, h5⟩ := hp _ (List.mem_singleton.2 rfl)
  simp only at h1 h2 h3 h4 h5
  have h := formed_eq (a1 := a1) (a2 := a2) (a3 := a3) (a4 := a4) (b1 := b1) (b2 := b2) (b3 := b3) (b4 := b4) (e := e) (si := si) (st := st) (ap := ap) (o := o) (k := k)
  have kl := D.Is.length (α := Cy) k
  have ol := D.Is.length (α := Int) o
  apply exec_sound ctFmROk 300
  rw [show rdRl.one.canon ⟨⟨a1, a2, a3, a4⟩, ⟨b1, b2, b3, b4⟩, ⟨e, si, o, st, ap⟩, k⟩ = [.agg [.int .i64 a1, .int .i64 a2, .int .i64 a3, .int .i64 a4, .int .i64 b1, .int .i64 b2, .int .i64 b3, .int .i64 b4, .int .i64 e, .int .i64 si, .dat o, .int .i64 st, .int .i64 ap, .dat k]] from rfl, rfm_in]
  refine ⟨fun c1 => ret_lb (by rw [h, c1]; rfl), fun c1 => ⟨fun c2 => ret_lb ?_, fun c2 => ⟨fun c3 => ret_lb ?_, fun c3 => ⟨fun c4 => ret_lb ?_, fun c4 => ⟨fun c5 => ret_lb ?_, fun c5 => ⟨fun c6 => ret_lb ?_, fun c6 => ⟨fun c7 => ret_lb ?_, fun c7 => ⟨fun c8 => ret_lb ?_, fun c8 => ?_⟩⟩⟩⟩⟩⟩⟩⟩
  · have c2 : si ≠ b2 := by simpa using c2
    rw [h, decide_eq_true c2, Bool.or_true]; rfl
  · have c3 : a1 ≠ b1 := by simpa using c3
    rw [h, decide_eq_true c3, Bool.or_true]; rfl
  · have c4 : a1 ≠ e := by simpa using c4
    rw [h, decide_eq_true c4, Bool.or_true]; rfl
  · have c5 : a3 ≠ a4 := by simpa using c5
    rw [h, decide_eq_true c5, Bool.true_or, Bool.true_or, Bool.not_true, Bool.false_and, Bool.and_false]
  · have c6 : b3 ≠ st := by simpa using c6
    rw [h, decide_eq_true c6, Bool.or_true, Bool.true_or, Bool.not_true, Bool.false_and, Bool.and_false]
  · have c7 : b4 ≠ ap := by simpa using c7
    rw [h, decide_eq_true c7, Bool.or_true, Bool.not_true, Bool.false_and, Bool.and_false]
  · have c8 : (k.len : Int) ≠ (o.len : Int) := by simpa using c8
    have : ¬((k.to Cy).map Cy.number = o.to Int) := fun e => c8 (by rw [kl, ol, ← e, List.length_map])
    rw [h, decide_eq_false this, Bool.and_false, Bool.false_and, Bool.false_and, Bool.and_false, Bool.and_false]
  have c2 : ¬si ≠ b2 := by simpa using c2
  have c3 : ¬a1 ≠ b1 := by simpa using c3
  have c4 : ¬a1 ≠ e := by simpa using c4
  have c5 : ¬a3 ≠ a4 := by simpa using c5
  have c6 : ¬b3 ≠ st := by simpa using c6
  have c7 : ¬b4 ≠ ap := by simpa using c7
  have c8 : (k.to Cy).length = (o.to Int).length := by
    have : (k.len : Int) = (o.len : Int) := by simpa using c8
    omega
  have h : formedR (RlD.rl ⟨⟨a1, a2, a3, a4⟩, ⟨b1, b2, b3, b4⟩, ⟨e, si, o, st, ap⟩, k⟩) = (!anyCy most (k.to Cy) && decide ((k.to Cy).map Cy.number = o.to Int) && (leadsI (k.to Cy) ap).2 && decide ((leadsI (k.to Cy) ap).1 ≤ a4)) := by
    rw [h, c1, decide_eq_false c2, decide_eq_false c3, decide_eq_false c4, decide_eq_false c5, decide_eq_false c6, decide_eq_false c7]; rfl
  show Runs Tryz.prog ⟨w, H⟩ (rfmL ⟨⟨a1, a2, a3, a4⟩, ⟨b1, b2, b3, b4⟩, ⟨e, si, o, st, ap⟩, k⟩ ap ((0 : Nat) : Int)) (RetS w H (.bool (formedR (RlD.rl ⟨⟨a1, a2, a3, a4⟩, ⟨b1, b2, b3, b4⟩, ⟨e, si, o, st, ap⟩, k⟩))))
  rw [h]
  refine runs_loop (fun p : Int × Nat => rfmL ⟨⟨a1, a2, a3, a4⟩, ⟨b1, b2, b3, b4⟩, ⟨e, si, o, st, ap⟩, k⟩ p.1 (p.2 : Int)) (fun p => p.2 ≤ (k.to Cy).length ∧ leadsI ((k.to Cy).take p.2) ap = (p.1, true) ∧ anyCy most ((k.to Cy).take p.2) = false ∧ ((k.to Cy).take p.2).map Cy.number = (o.to Int).take p.2) (fun p => (k.to Cy).length - p.2) (fun _ => rfl) ?_ (ap, 0) ⟨Nat.zero_le _, rfl, rfl, rfl⟩
  rintro ⟨a, j⟩ ⟨hj, p1, p2, p3⟩ ih
  simp only at hj p1 p2 p3
  apply exec_sound ctFmROk 300
  rw [rfm_go]
  refine ⟨fun hc => ?_, fun hc => ret_bool ?_⟩
  · have hc : j < (k.to Cy).length := by have := of_decide_eq_true hc; omega
    obtain ⟨q1, q2, q3, q4⟩ := cy_cell h2 hc
    obtain ⟨r1, r2, r3⟩ := int_at h1 (c8 ▸ hc)
    have n0 : 0 ≤ (j : Int) ∧ (j : Int) < (k.len : Int) ∧ k.sz = 5 := ⟨by omega, by omega, h2.size hc⟩
    refine ⟨n0, q1, fun hs => ?_⟩
    have n1 : CyD.Ok (CyD.mk (k.getInt (Int.toNat (j : Int)) 0) (k.getInt (Int.toNat (j : Int)) 1) (k.getInt (Int.toNat (j : Int)) 2) (k.cell (Int.toNat (j : Int)) 3) (k.cell (Int.toNat (j : Int)) 4)) ∧ (D.like (hs 1 0) most).Is Int ∧ (D.like (hs 1 0) most).len ≤ 1048576 :=
      ⟨cyD_ok h2 h5 hc, D.like_is _ _, by rw [D.Is.length (α := Int), D.like_to]; decide⟩
    have en : k.getInt (Int.toNat (j : Int)) 1 = ((k.to Cy)[j]).number := by rw [q4]; rfl
    have eb : k.getInt (Int.toNat (j : Int)) 0 = ((k.to Cy)[j]).base := by rw [q4]; rfl
    have eo : o.getInt (Int.toNat (j : Int)) 0 = (o.to Int)[j]'(c8 ▸ hc) := r3
    have ec : CyD.cy (CyD.mk (k.getInt (Int.toNat (j : Int)) 0) (k.getInt (Int.toNat (j : Int)) 1) (k.getInt (Int.toNat (j : Int)) 2) (k.cell (Int.toNat (j : Int)) 3) (k.cell (Int.toNat (j : Int)) 4)) = (k.to Cy)[j] := q4.symm
    have tk : (k.to Cy).take (j + 1) = (k.to Cy).take j ++ [(k.to Cy)[j]] := List.take_succ_eq_append_getElem hc
    simp only [D.like_to, ec]
    refine ⟨fun x1 => ?_, fun x1 => ⟨fun x2 => ?_, fun x2 => ?_⟩⟩
    · repeat refine holds_need.2 ⟨by assumption, ?_⟩
      have x1 : cyErr (k.to Cy)[j] most ≠ 0 := by simpa using x1
      exact ret_lb (rfm_false h2 h1 hc c8 p1 (.inl x1)).symm
    · repeat refine holds_need.2 ⟨by assumption, ?_⟩
      rw [en, eo] at x2
      have x2 : ((k.to Cy)[j]).number ≠ (o.to Int)[j]'(c8 ▸ hc) := by simpa using x2
      exact ret_lb (rfm_false h2 h1 hc c8 p1 (.inr (.inl x2))).symm
    · repeat refine holds_need.2 ⟨by first | assumption | exact ⟨r1, r2⟩ | exact r1 | exact r2, ?_⟩
      rw [en, eo] at x2
      have x1 : cyErr (k.to Cy)[j] most = 0 := by simpa using x1
      have x2 : ((k.to Cy)[j]).number = (o.to Int)[j]'(c8 ▸ hc) := by simpa using x2
      rw [eb]
      refine ⟨fun x3 => ret_lb ?_, fun x3 => ?_⟩
      · have x3 : ((k.to Cy)[j]).base > a := of_decide_eq_true x3
        exact (rfm_false h2 h1 hc c8 p1 (.inr (.inr x3))).symm
      · have x3 : ¬((k.to Cy)[j]).base > a := of_decide_eq_false x3
        have := ih (((k.to Cy)[j]).number, j + 1) ⟨hc, ?_, ?_, ?_⟩ (by simp only; omega)
        · simp only at this
          rw [← wrap_succ hc (by omega), ← en] at this
          exact this
        · rw [tk, leads_snoc, p1, if_pos rfl, decide_eq_false x3]; rfl
        · rw [tk, anyCy_snoc, p2, x1]; rfl
        · rw [tk, List.map_append, p3, List.take_succ_eq_append_getElem (c8 ▸ hc), ← x2]; rfl
  · have : j = (k.to Cy).length := by have := of_decide_eq_false hc; omega
    subst this
    rw [List.take_length] at p1 p2 p3
    rw [c8, List.take_length] at p3
    rw [p1, p2, decide_eq_true p3]; rfl
end Go.Proofs.YtllmgnhjljmihaaGreat
end
section
open Go Go.Proofs Sx
namespace Go.Proofs.YtllmgnhjljmihaaGreat
set_option maxRecDepth 100000
set_option maxHeartbeats 0
noncomputable def ctCkR : Ctrs := [(66, ctrOf (rdTgt.one.sp spCT)), (67, ctrOf (rdSrc.one.sp spCS)), (68, ctrOf (rdRl.one.sp spFmR))]
noncomputable def ctNw : Ctrs := [(50, ctrOf ((rdInt.three rdInt rdInt).sp spNewT32)), (51, ctrOf ((rdInt.three rdInt rdInt).sp spNewS))
 ]
noncomputable def ctLg : Ctrs := [(24, ctrOf (rdRl.one.sp spCkRl)), (31, ctrOf (rdRl.one.sp spCkRl))]
section
variable (d s o k : D) (b : Nat) (j a a1 a2 a3 a4 b1 b2 b3 b4 e si st ap : Int)
theorem ckR_in : exec Tryz.prog ctCkR 300 (entry Tryz.prog 31 [.agg [.int .i64 a1, .int .i64 a2, .int .i64 a3, .int .i64 a4, .int .i64 b1, .int .i64 b2, .int .i64 b3, .int .i64 b4, .int .i64 e, .int .i64 si, .dat o, .int .i64 st, .int .i64 ap, .dat k]]) =
 Tree.br (checkTarget (Tgt.mk a1 a2 a3 a4) != 0) (.ret (.int .i64 (checkTarget (Tgt.mk a1 a2 a3 a4))))
 (.br (checkTarget (Tgt.mk b1 b2 b3 b4) != 0) (.ret (.int .i64 (checkTarget (Tgt.mk b1 b2 b3 b4))))
 (.need (D.Is Int o)
 (.br (checkSource (SrcD.src (SrcD.mk e si o st ap)) != 0)
 (.ret (.int .i64 (checkSource (SrcD.src (SrcD.mk e si o st ap)))))
 (.need (RlD.Ok (RlD.mk (Tgt.mk a1 a2 a3 a4) (Tgt.mk b1 b2 b3 b4) (SrcD.mk e si o st ap) k))
 (.br (!formedR (RlD.rl (RlD.mk (Tgt.mk a1 a2 a3 a4) (Tgt.mk b1 b2 b3 b4) (SrcD.mk e si o st ap) k)))
 (.ret (.int .i64 3)) (.ret (.int .i64 0))))))) := by kernel_rfl

theorem nw_in : exec Tryz.prog ctNw 300 (entry Tryz.prog 18 [.int .i64 a1, .int .i64 a2, .int .i64 a3, .int .i64 a4]) =
 Tree.all fun hs =>
 .br (Prod.snd (newTarget a1 a2 a4) != 0)
 (.ret
 (SV.tup
 [.agg
 [.int .i64 0, .int .i64 0, .int .i64 0, .int .i64 0,
 .int .i64 0, .int .i64 0, .int .i64 0, .int .i64 0,
 .int .i64 0, .int .i64 0, .nils, .int .i64 0, .int .i64 0, .nils],
 .int .i64 (Prod.snd (newTarget a1 a2 a4))]))
 (.all fun hs =>
 .br (Prod.snd (newTarget a1 a3 a4) != 0)
 (.ret
 (SV.tup
 [.agg
 [.int .i64 0, .int .i64 0, .int .i64 0, .int .i64 0,
 .int .i64 0, .int .i64 0, .int .i64 0, .int .i64 0,
 .int .i64 0, .int .i64 0, .nils, .int .i64 0, .int .i64 0,
 .nils],
 .int .i64 (Prod.snd (newTarget a1 a3 a4))]))
 (.br (decide (a2 = a3))
 (.ret
 (SV.tup
 [.agg
 [.int .i64 0, .int .i64 0, .int .i64 0, .int .i64 0,
 .int .i64 0, .int .i64 0, .int .i64 0, .int .i64 0,
 .int .i64 0, .int .i64 0, .nils, .int .i64 0, .int .i64 0,
 .nils],
 .int .i64 1]))
 (.all fun hs =>
 .ret
 (SV.tup
 [.agg
 [.int .i64 (Tgt.epoch (Prod.fst (newTarget a1 a2 a4))),
 .int .i64 (Tgt.site (Prod.fst (newTarget a1 a2 a4))),
 .int .i64 (Tgt.stored (Prod.fst (newTarget a1 a2 a4))),
 .int .i64 (Tgt.applied (Prod.fst (newTarget a1 a2 a4))),
 .int .i64 (Tgt.epoch (Prod.fst (newTarget a1 a3 a4))),
 .int .i64 (Tgt.site (Prod.fst (newTarget a1 a3 a4))),
 .int .i64 (Tgt.stored (Prod.fst (newTarget a1 a3 a4))),
 .int .i64 (Tgt.applied (Prod.fst (newTarget a1 a3 a4))),
 .int .i64 (Src.epoch (Prod.fst (newSource a1 a3 a4))),
 .int .i64 (Src.site (Prod.fst (newSource a1 a3 a4))),
 .dat (D.like (hs 0 0) (Src.offered (Prod.fst (newSource a1 a3 a4)))),
 .int .i64 (Src.stored (Prod.fst (newSource a1 a3 a4))),
 .int .i64 (Src.applied (Prod.fst (newSource a1 a3 a4))), .nils],
 .int .i64 (Prod.snd (newSource a1 a3 a4))])))) := by kernel_rfl

theorem lg_in : exec Tryz.prog ctLg 300 (entry Tryz.prog 22 [.agg [.int .i64 a1, .int .i64 a2, .int .i64 a3, .int .i64 a4, .int .i64 b1, .int .i64 b2, .int .i64 b3, .int .i64 b4, .int .i64 e, .int .i64 si, .dat o, .int .i64 st, .int .i64 ap, .dat k]]) =
 Tree.need (RlD.Ok (RlD.mk (Tgt.mk a1 a2 a3 a4) (Tgt.mk b1 b2 b3 b4) (SrcD.mk e si o st ap) k))
 (.br (ckRl (RlD.rl (RlD.mk (Tgt.mk a1 a2 a3 a4) (Tgt.mk b1 b2 b3 b4) (SrcD.mk e si o st ap) k)) != 0)
 (.ret (.int .i64 0)) (.ret (.int .i64 (IntKind.wrap .i64 (a4 - b4))))) := by kernel_rfl

end
end Go.Proofs.YtllmgnhjljmihaaGreat
end
section
namespace Sx
open Go RowKit
inductive MidK where
  | copy
  | append
  | store
  | build
deriving DecidableEq
def opMid (o : Op) (k : MidK) : Bool :=
  match k with
  | .copy => match o with | .call cl => (match cl.callee with | .builtin .copy => true | _ => false) | _ => false
  | .append => match o with | .call cl => (match cl.callee with | .builtin .append => true | _ => false) | _ => false
  | .store => match o with | .store .. => true | _ => false
  | .build => match o with | .buildSlice .. => true | _ => false
def restsMid (M : List (FuncId × MidK)) (c : Conf) : Bool :=
  match c.top.ri with
  | some (ops, i :: _) => match ops[i]? with
    | some o => M.any fun x => x.1 == c.top.fn && opMid o.op x.2
    | none => false
  | _ => false
noncomputable def execM (P : Program) (cs : Ctrs) (S : List (FuncId × Nat)) (M : List (FuncId × MidK)) (n : Nat) : Conf → Tree :=
  Nat.rec (motive := fun _ => Conf → Tree) (fun _ => .stuck) (fun _ ih c => match restsMid M c with
    | true => leafR c
    | false => match restsAt S c with
      | true => restC P c
      | false => stepC P cs (fun _ => false) ih c) n
noncomputable def goM (P : Program) (cs : Ctrs) (S : List (FuncId × Nat)) (M : List (FuncId × MidK)) (n : Nat) (c : Conf) : Tree := stepC P cs (fun _ => false) (execM P cs S M n) c
section
variable {P : Program} {C : Ctx} {R : Value → World → Prop} {cs : Ctrs}
theorem execM_sound (hcs : cs.Ok P) (S : List (FuncId × Nat)) (M : List (FuncId × MidK)) : ∀ (n : Nat) (c : Conf), (execM P cs S M n c).holds P C R → Runs P C c R
  | 0, _, h => h.elim
  | n + 1, c, h => by
    have e : execM P cs S M (n + 1) c = match restsMid M c with
      | true => leafR c
      | false => match restsAt S c with
        | true => restC P c
        | false => stepC P cs (fun _ => false) (execM P cs S M n) c := rfl
    rw [e] at h
    cases hr : restsMid M c with
    | true => rw [hr, leafR_eq] at h; exact h
    | false =>
      rw [hr] at h
      simp only at h
      cases hs : restsAt S c with
      | true => rw [hs] at h; exact fgtR_sound (headR_sound h)
      | false => rw [hs] at h; exact step_sound (U := fun _ => false) hcs (fun c h => execM_sound hcs S M n c h) c h
theorem goM_sound (hcs : cs.Ok P) (S : List (FuncId × Nat)) (M : List (FuncId × MidK)) (n : Nat) (c : Conf) (h : (goM P cs S M n c).holds P C R) : Runs P C c R :=
  step_sound (U := fun _ => false) hcs (fun c h => execM_sound hcs S M n c h) c h
end
end Sx
end
section
namespace Sx
open Go RowKit
section
variable {P : Program}
def At (P : Program) (c : Conf) (H : HV) (w : World) (R : Value → World → Prop) : Prop :=
  ∀ E, c.Ok H → InMem H w → StkRun P ctxPlain (c.top.den E) (c.rest.map (SFrm.den E)) w R
theorem at_of_runs {c : Conf} {H : HV} {w : World} {R : Value → World → Prop} (hm : c.mem = []) (h : Runs P ⟨w, H⟩ c R) : At P c H w R :=
  fun E ok hin => h E H w (by rw [hm]; exact good_start hin E) ok
theorem After.trans {w w1 w2 : World} {H H1 H2 : HV} (a : After w H w1 H1) (b : After w1 H1 w2 H2) : After w H w2 H2 :=
  ⟨a.below.trans (b.below.mono a.below.size), a.le.trans b.le, fun x o v h => by
    rcases b.fresh x o v h with h | h
    · exact a.fresh x o v h
    · exact .inr (Nat.le_trans a.below.size h), b.cell⟩
def callAt (ops : Array Oper) (i : Nat) : Option (Builtin × List Operand × List TypeId × Option Tmp) :=
  match ops[i]? with
  | some ⟨dst, .call ⟨.builtin b, args, tys⟩, _, _, _, none⟩ => some (b, args.toList, tys.toList, dst)
  | _ => none
def storeAt (ops : Array Oper) (i : Nat) : Option (TypeId × Operand × Operand × Option Tmp) :=
  match ops[i]? with
  | some ⟨dst, .store t a x, _, _, _, none⟩ => some (t, a, x, dst)
  | _ => none
theorem wanted_none {o : Oper} (h : o.guard = none) (y : Nat → Option Bool) : Region.wanted o y = true := by unfold Region.wanted; rw [h]
theorem stk_builtin {f : FuncId} {ops : Array Oper} {i : Nat} {l : List Nat} {aw dst : Option Tmp} {k : List Item} {tmps : List SV} {rest : List SFrm} {b : Builtin} {args : List Operand} {tys : List TypeId} {E E' : Env} {w w' : World} {R : Value → World → Prop} {u : Value}
    (ho : callAt ops i = some (b, args, tys, dst))
    (hr : ∀ ty, (builtin b tys.toArray ty #[] (args.map fun x => (evS tmps x).den E).toArray).run P w = .ok (.value u) w')
    (hcst : ∀ (ty : TypeId) (c : Array Bool) (xs : Array Value), builtin b tys.toArray ty c xs = builtin b tys.toArray ty #[] xs)
    (h : StkRun P ctxPlain ⟨f, some (ops, l), aw, k, (⟨(SV.denL E tmps).toArray, []⟩ : Act).put dst u, none⟩ (rest.map (SFrm.den E')) w' R) :
    StkRun P ctxPlain (SFrm.den E ⟨f, some (ops, i :: l), aw, k, tmps⟩) (rest.map (SFrm.den E')) w R := by
  unfold callAt at ho
  split at ho
  · rename_i dst' b' args' tys' ty pos after hops
    cases ho
    have hro : RunsTo P ⟨(SV.denL E tmps).toArray, []⟩ ⟨dst, .call ⟨.builtin b, args', tys'⟩, ty, pos, after, none⟩ w u w' := by
      left
      have := hr ty
      simp only [Array.toArray_toList] at this
      have ev : args'.toList.map (fun x => (evS tmps x).den E) = (args'.map (Act.eval ⟨(SV.denL E tmps).toArray, []⟩)).toList := by
        rw [Array.toList_map]
        exact List.map_congr_left fun x _ => (den_evS E tmps [] x).symm
      rw [ev, Array.toArray_toList] at this
      simp only [execOp, resolve, invoke, Sem.run_bind, Sem.run_pure, Result.andThen_ok]
      rw [← Array.toArray_toList (xs := tys'), hcst, Array.toArray_toList]
      exact this
    cases rest with
    | nil =>
      refine frm_op (a := ⟨(SV.denL E tmps).toArray, []⟩) (ro := none) hops (wanted_none rfl _) hro ?_
      cases dst <;> exact h
    | cons g r => exact frm_op hops (wanted_none rfl _) hro h
  · cases ho
theorem run_copy_sz (w : World) (dT sT ty elem : TypeId) (g o dLen dCap : Nat) (a : Addr) (sLen sCap s : Nat) (cur : Array Value) (t : TypeId) (cs : List Value)
    (hu : P.underlying dT = some (.slice elem)) (hs : (P.info? elem).map (·.size) = some s)
    (hg : w.heap[g]? = some (.cells cur t (0, 0))) (hn : cs.length = Nat.min sLen dLen * s)
    (hsrc : ∀ j v, cs[j]? = some v → w.cell? (a.add j) = some v) (hfit : o + cs.length ≤ cur.size) (h1 : ∀ v ∈ cs, v.oneCell' = true) :
    (Builtin.copy_ #[dT, sT] ty #[.slice (some ⟨g, o, none⟩) dLen dCap, .slice (some a) sLen sCap]).run P w =
      .ok (goInt (Nat.min sLen dLen)) (w.setRow g (cur.toList.take o ++ cs ++ cur.toList.drop (o + cs.length)).toArray) := by
  have hl := run_loadCells_list (P := P) w a cs hsrc
  have hst := run_storeCells_at P g o t cs 0 cur w hg (by simpa using hfit) h1
  cases hq : P.info? elem with
  | none => simp [hq] at hs
  | some i =>
    have hi : i.size = s := by simpa [hq] using hs
    simp [Builtin.copy_, run_underlying hu, Builtin.lenOf, Builtin.firstCells, Go.sizeOf, typeInfo, hq, hi, ← hn, hl, hst]
end
theorem prefix_of {F L : List Value} (h : ∀ (x : Nat) (v : Value), F[x]? = some v → L[x]? = some v) : L = F ++ L.drop F.length := by
  apply List.ext_getElem?
  intro x
  by_cases hx : x < F.length
  · rw [List.getElem?_append_left hx, List.getElem?_eq_getElem hx]
    exact h x _ (List.getElem?_eq_getElem hx)
  · rw [List.getElem?_append_right (by omega), List.getElem?_drop]
    congr 1; omega
def blk (o : D) (v : Nat) : Nat := (o.cell v 0).addr.block
structure ImgW (n : Nat) (H : HV) (w : World) (o : D) : Prop where
  is : o.Is Vol
  sz : o.sz = 1
  ok : o.Ok H
  ne : ∀ v, v < o.len → (o.cell v 0).rows ≠ []
  hd : ∀ v, v < o.len → ∃ c, (o.cell v 0).hd = some (⟨blk o v, 0, none⟩, c)
  low : ∀ v, v < o.len → n ≤ blk o v
  dis : ∀ v v', v < o.len → v' < o.len → blk o v = blk o v' → v = v'
  out : ∀ v, v < o.len → o.addr.block ≠ blk o v
  live : ∀ v, v < o.len → ∃ cur t, w.heap[blk o v]? = some (.cells cur t (0, 0))
theorem vol_row {o : D} (h : o.Is Vol) {v : Nat} (hv : v < o.len) : o.rows[v]? = some [o.cell v 0] ∧ (o.cell v 0).Is Sec ∧ (o.to Vol)[v]? = some ⟨(o.cell v 0).to Sec⟩ := by
  have hv' : v < (o.to Vol).length := by rw [← D.Is.length (α := Vol)]; exact hv
  obtain ⟨r, h1, ⟨d, rfl, hd⟩, h3⟩ := h.row hv'
  have e : o.cell v 0 = d := by simp [D.cell, D.cellAt, h1]
  rw [e]
  exact ⟨h1, hd, by rw [List.getElem?_eq_getElem hv', h3]; rfl⟩
def D.putSec (o : D) (v s : Nat) (rs : List (List D)) : D := .slc o.hd 1 (o.rows.set v [.slc (o.cell v 0).hd 8 ((o.cell v 0).rows.take s ++ rs ++ (o.cell v 0).rows.drop (s + rs.length))])
section
variable {n : Nat} {H : HV} {w : World} {o : D} (h : ImgW n H w o) {v s : Nat} {rs : List (List D)} (hv : v < o.len) (hrs : ∀ r, r ∈ rs → Codec.ok Sec r) (hs : s + rs.length ≤ (o.cell v 0).len)
include h hv hrs hs
theorem put_cell {v' : Nat} (hv' : v' < o.len) : (o.putSec v s rs).cell v' 0 = if v' = v then .slc (o.cell v 0).hd 8 ((o.cell v 0).rows.take s ++ rs ++ (o.cell v 0).rows.drop (s + rs.length)) else o.cell v' 0 := by
  have hl : v' < o.rows.length := hv'
  have e0 : ∀ (a : Hd) (z : Nat) (rows : List (List D)), (D.slc a z rows).cell v' 0 = ((rows[v']?).bind (·[0]?)).getD (.slc none 0 []) := fun _ _ _ => rfl
  unfold D.putSec
  rw [e0]
  by_cases e : v' = v
  · subst e
    rw [if_pos rfl, List.getElem?_set_self hl]; rfl
  · rw [if_neg e, List.getElem?_set_ne (Ne.symm e)]; rfl
theorem put_blk {v' : Nat} (hv' : v' < o.len) : blk (o.putSec v s rs) v' = blk o v' := by
  unfold blk
  rw [put_cell h hv hrs hs hv']
  split
  · rename_i e; subst e; rfl
  · rfl
theorem put_len : (o.putSec v s rs).len = o.len := by simp [D.putSec, D.len, D.rows]
theorem put_rows_ok : ∀ r, r ∈ (o.cell v 0).rows.take s ++ rs ++ (o.cell v 0).rows.drop (s + rs.length) → Codec.ok Sec r := by
  have hi := (rows_of (vol_row h.is hv).2.1).1
  intro r hr
  rcases List.mem_append.1 hr with hr | hr
  · rcases List.mem_append.1 hr with hr | hr
    · exact hi r (List.mem_of_mem_take hr)
    · exact hrs r hr
  · exact hi r (List.mem_of_mem_drop hr)
theorem put_rows_len : ((o.cell v 0).rows.take s ++ rs ++ (o.cell v 0).rows.drop (s + rs.length)).length = (o.cell v 0).rows.length := by
  have : s + rs.length ≤ (o.cell v 0).rows.length := hs
  simp only [List.length_append, List.length_take, List.length_drop]; omega
theorem put_is : (o.putSec v s rs).Is Vol := by
  refine is_rows rfl fun r hr => ?_
  rcases List.mem_or_eq_of_mem_set hr with hr | rfl
  · exact (rows_of h.is).1 r hr
  · exact ⟨_, rfl, is_rows rfl (put_rows_ok h hv hrs hs)⟩
theorem sec_plain {r : List D} (hr : Codec.ok Sec r) : r.length = 8 ∧ ∀ x, x ∈ r → ∀ H, x.Ok H := by
  obtain ⟨a, b, c, d, e, f, g, i, rfl⟩ := hr
  refine ⟨rfl, fun x hx H => ?_⟩
  simp only [List.mem_cons, List.not_mem_nil, or_false] at hx
  rcases hx with rfl | rfl | rfl | rfl | rfl | rfl | rfl | rfl <;> exact .int _ _
theorem ImgW.put (hin : InMem H w) {w' : World} {cur : Array Value} {t : TypeId} (hg : w.heap[blk o v]? = some (.cells cur t (0, 0)))
    (hw : w' = w.setRow (blk o v) (cur.toList.take (s * 8) ++ flat rs ++ cur.toList.drop (s * 8 + (flat rs).length)).toArray) :
    ∃ H', InMem H' w' ∧ ImgW n H' w' (o.putSec v s rs) ∧ (∀ H0 : HV, HLe H0 H → (∀ x, H0 (blk o v) x = none) → HLe H0 H') ∧ (∀ b x u, H' b x = some u → H b x = some u ∨ b = blk o v) ∧ s * 8 + (flat rs).length ≤ cur.size ∧ (∀ b, b ≠ blk o v → w'.heap[b]? = w.heap[b]?) := by
  obtain ⟨hrow, hsec, _⟩ := vol_row h.is hv
  obtain ⟨c, hhd⟩ := h.hd v hv
  have hne := h.ne v hv
  have hi := rows_of hsec
  have hl8 : ∀ r, r ∈ (o.cell v 0).rows → r.length = 8 := fun r hr => (sec_plain h hv hrs hs (hi.1 r hr)).1
  have hr8 : ∀ r, r ∈ rs → r.length = 8 := fun r hr => (sec_plain h hv hrs hs (hrs r hr)).1
  have hnl := put_rows_len h hv hrs hs
  have hno := put_rows_ok h hv hrs hs
  generalize hrows' : (o.cell v 0).rows.take s ++ rs ++ (o.cell v 0).rows.drop (s + rs.length) = rows' at hnl hno
  have hr' : ∀ r, r ∈ rows' → r.length = 8 := fun r hr => (sec_plain h hv hrs hs (hno r hr)).1
  -- the inner slice lies in memory
  have hiok : (o.cell v 0).Ok H := by
    have hok := h.ok
    cases hok with
    | slc a c sz rows hsp hc hlen hcell hk =>
      have hm : rows[v]? = some [(D.slc (some (a, c)) sz rows).cell v 0] := hrow
      exact hk _ (List.mem_of_getElem? hm) _ (by simp)
    | nil sz => simp [D.len, D.rows] at hv
    | int _ _ => obtain ⟨_, _, _, e, _⟩ := h.is; cases e
    | bool _ => obtain ⟨_, _, _, e, _⟩ := h.is; cases e
    | str _ => obtain ⟨_, _, _, e, _⟩ := h.is; cases e
  have hcells : ∀ i j r x, (o.cell v 0).rows[i]? = some r → r[j]? = some x → H (blk o v) (i * 8 + j) = some x.val := by
    intro i j r x h1 h2
    have hz : (o.cell v 0).sz = 8 := hsec.size (by
      rw [← D.Is.length (α := Sec)]
      have := (List.getElem?_eq_some_iff.1 h1).1
      exact (Nat.lt_of_le_of_lt (Nat.zero_le _) this : 0 < (o.cell v 0).rows.length))
    revert hhd hz h1
    generalize o.cell v 0 = q at hiok
    intro hhd h1 hz
    cases hiok with
    | slc a c sz rows hsp hc hlen hcell hk =>
      simp only [D.hd, Option.some.injEq, Prod.mk.injEq] at hhd
      obtain ⟨rfl, _⟩ := hhd
      simp only [D.sz] at hz
      subst hz
      have := hcell i j r x h1 h2
      simpa using this
    | nil sz => simp [D.hd] at hhd
    | int _ _ => simp [D.hd] at hhd
    | bool _ => simp [D.hd] at hhd
    | str _ => simp [D.hd] at hhd
  have hpre : ∀ (x : Nat) (u : Value), (flat (o.cell v 0).rows)[x]? = some u → cur.toList[x]? = some u := by
    intro x u hx
    have hlen := flat_len hl8
    have hxl : x < (o.cell v 0).rows.length * 8 := by rw [← hlen]; exact (List.getElem?_eq_some_iff.1 hx).1
    have hi1 : x / 8 < (o.cell v 0).rows.length := by omega
    have hr1 : (o.cell v 0).rows[x / 8]? = some (o.cell v 0).rows[x / 8] := List.getElem?_eq_getElem hi1
    have hrl := hl8 _ (List.getElem_mem hi1)
    have hj1 : x % 8 < ((o.cell v 0).rows[x / 8]).length := by rw [hrl]; exact Nat.mod_lt _ (by decide)
    have hr2 : ((o.cell v 0).rows[x / 8])[x % 8]? = some ((o.cell v 0).rows[x / 8])[x % 8] := List.getElem?_eq_getElem hj1
    have e1 := flat_get hl8 _ _ _ _ hr1 hr2
    have e2 := hcells _ _ _ _ hr1 hr2
    have ex : x / 8 * 8 + x % 8 = x := by omega
    rw [ex] at e1 e2
    rw [hx] at e1
    cases e1
    have e3 := hin _ _ _ e2
    simp only [World.cell?, hg, Option.isSome_none, Bool.false_eq_true, if_false] at e3
    simpa using e3
  have hL := prefix_of hpre
  have hFl : (flat (o.cell v 0).rows).length = (o.cell v 0).rows.length * 8 := flat_len hl8
  have hMl : (flat rs).length = rs.length * 8 := flat_len hr8
  have hsr : s + rs.length ≤ (o.cell v 0).rows.length := hs
  have hfit : s * 8 + (flat rs).length ≤ (flat (o.cell v 0).rows).length := by rw [hFl, hMl, ← Nat.add_mul]; exact Nat.mul_le_mul_right _ hsr
  have hcsz : (flat (o.cell v 0).rows).length ≤ cur.size := by
    have := congrArg List.length hL
    simp only [List.length_append, Array.length_toList, List.length_drop] at this
    omega
  have hF' : flat rows' = (flat (o.cell v 0).rows).take (s * 8) ++ flat rs ++ (flat (o.cell v 0).rows).drop (s * 8 + (flat rs).length) := by
    rw [← hrows', flat_append, flat_append]
    have tk : ∀ k, k ≤ (o.cell v 0).rows.length → flat ((o.cell v 0).rows.take k) = (flat (o.cell v 0).rows).take (k * 8) ∧ flat ((o.cell v 0).rows.drop k) = (flat (o.cell v 0).rows).drop (k * 8) := fun k hk => by
      have e := flat_append ((o.cell v 0).rows.take k) ((o.cell v 0).rows.drop k)
      rw [List.take_append_drop] at e
      have e2 : (flat ((o.cell v 0).rows.take k)).length = k * 8 := by
        rw [flat_len (sz := 8) fun r hr => hl8 r (List.mem_of_mem_take hr), List.length_take, Nat.min_eq_left hk]
      rw [e]
      exact ⟨by rw [← e2, List.take_left], by rw [← e2, List.drop_left]⟩
    rw [(tk s (by omega)).1, (tk (s + rs.length) hsr).2, hMl, Nat.add_mul]
  have hL' : cur.toList.take (s * 8) ++ flat rs ++ cur.toList.drop (s * 8 + (flat rs).length) = flat rows' ++ cur.toList.drop (flat (o.cell v 0).rows).length := by
    rw [hF']
    have e1 : cur.toList.take (s * 8) = (flat (o.cell v 0).rows).take (s * 8) := by
      rw [hL, List.take_append_of_le_length (by omega)]
    have e2 : cur.toList.drop (s * 8 + (flat rs).length) = (flat (o.cell v 0).rows).drop (s * 8 + (flat rs).length) ++ cur.toList.drop (flat (o.cell v 0).rows).length := by
      conv => lhs; rw [hL]
      rw [List.drop_append_of_le_length hfit]
    rw [e1, e2, List.append_assoc, List.append_assoc, List.append_assoc]
  rw [hL'] at hw
  have hoth : ∀ b, b ≠ blk o v → w'.heap[b]? = w.heap[b]? := fun b hb => by rw [hw]; exact setRow_other w _ _ _ hb
  have hnew : w'.heap[blk o v]? = some (.cells (flat rows' ++ cur.toList.drop (flat (o.cell v 0).rows).length).toArray t (0, 0)) := by
    rw [hw]; exact setRow_heap w _ cur _ t _ hg
  refine ⟨H.row (blk o v) (flat rows'), ?_, ?_, ?_, ?_, by omega, hoth⟩
  · intro b x u hb
    unfold HV.row at hb
    split at hb
    · rename_i e
      subst e
      simp only [World.cell?, hnew, Option.isSome_none, Bool.false_eq_true, if_false]
      have := (List.getElem?_eq_some_iff.1 hb).1
      simp only [List.getElem?_toArray]
      rw [List.getElem?_append_left this]; exact hb
    · rename_i e
      have := hin b x u hb
      simpa [World.cell?, hoth b e] using this
  · -- the image
    have hrowne : rows' ≠ [] := fun e => hne (List.length_eq_zero_iff.1 (by rw [← hnl, e]; rfl))
    have pc := @put_cell n H w o h v s rs hv hrs hs
    have pb := @put_blk n H w o h v s rs hv hrs hs
    have pl := put_len h hv hrs hs
    refine ⟨put_is h hv hrs hs, rfl, ?_, fun v' hv' => ?_, fun v' hv' => ?_, fun v' hv' => ?_, fun v1 v2 h1 h2 e => ?_, fun v' hv' => ?_, fun v' hv' => ?_⟩
    · -- in memory
      have key : ∀ v', (hv' : v' < o.len) → ((o.putSec v s rs).cell v' 0).Ok (H.row (blk o v) (flat rows')) := by
        intro v' hv'
        rw [pc hv']
        by_cases e : v' = v
        · rw [if_pos e, hhd, hrows']
          refine .slc _ _ _ _ (fun _ => rfl) ?_ hr' (fun i j r x h1 h2 => ?_) (fun r hr x hx => (sec_plain h hv hrs hs (hno r hr)).2 x hx _)
          · rw [hnl]
            revert hhd
            generalize o.cell v 0 = q at hiok
            intro hhd
            cases hiok with
            | slc a c' sz rows hsp hc hlen hcell hk => simp only [D.hd, Option.some.injEq, Prod.mk.injEq] at hhd; rw [← hhd.2]; exact hc
            | nil sz => simp [D.hd] at hhd
            | int _ _ => simp [D.hd] at hhd
            | bool _ => simp [D.hd] at hhd
            | str _ => simp [D.hd] at hhd
          · simp only [HV.row, if_true, Nat.zero_add]
            exact flat_get hr' i j r x h1 h2
        · rw [if_neg e]
          obtain ⟨hrow', hsec', _⟩ := vol_row h.is hv'
          obtain ⟨c', hhd'⟩ := h.hd v' hv'
          have hbne : blk o v' ≠ blk o v := fun e' => e (h.dis v' v hv' hv e')
          have hok' : (o.cell v' 0).Ok H := by
            have hok := h.ok
            cases hok with
            | slc a c sz rows hsp hc hlen hcell hk =>
              have hm : rows[v']? = some [(D.slc (some (a, c)) sz rows).cell v' 0] := hrow'
              exact hk _ (List.mem_of_getElem? hm) _ (by simp)
            | nil sz => simp [D.len, D.rows] at hv'
            | int _ _ => obtain ⟨_, _, _, e, _⟩ := h.is; cases e
            | bool _ => obtain ⟨_, _, _, e, _⟩ := h.is; cases e
            | str _ => obtain ⟨_, _, _, e, _⟩ := h.is; cases e
          have hsr' := (rows_of hsec').1
          revert hhd' hsr'
          generalize o.cell v' 0 = q at hok'
          intro hhd' hsr'
          cases hok' with
          | slc a c2 sz rows hsp hc hlen hcell hk =>
            simp only [D.hd, Option.some.injEq, Prod.mk.injEq] at hhd'
            obtain ⟨rfl, rfl⟩ := hhd'
            refine .slc _ _ _ _ hsp hc hlen (fun i j r x h1 h2 => ?_) (fun r hr x hx => (sec_plain h hv hrs hs (hsr' r hr)).2 x hx _)
            have := hcell i j r x h1 h2
            simp only [HV.row]
            rw [if_neg hbne]; exact this
          | nil sz => simp [D.hd] at hhd'
          | int _ _ => simp [D.hd] at hhd'
          | bool _ => simp [D.hd] at hhd'
          | str _ => simp [D.hd] at hhd'
      have hok := h.ok
      have hout := h.out v hv
      have hsz := h.sz
      have hlen' : (o.putSec v s rs).rows.length = o.rows.length := pl
      have hrl' : ∀ r, r ∈ (o.putSec v s rs).rows → ∃ v', v' < o.len ∧ r = [(o.putSec v s rs).cell v' 0] := fun r hr => by
        obtain ⟨i, hi', rfl⟩ := List.getElem_of_mem hr
        have hi2 : i < o.len := by rw [hlen'] at hi'; exact hi'
        have := (vol_row (put_is h hv hrs hs) (v := i) (by rw [pl]; exact hi2)).1
        rw [List.getElem?_eq_getElem hi'] at this
        exact ⟨i, hi2, Option.some.inj this⟩
      have hvals : ∀ i, i < o.len → ((o.putSec v s rs).cell i 0).val = (o.cell i 0).val := fun i hi' => by
        rw [pc hi']
        split
        · rename_i e; subst e
          obtain ⟨a, b, cc, e', _⟩ := hsec
          rw [hrows']
          rw [e'] at hnl ⊢
          simp only [D.val, D.hd, D.rows] at hnl ⊢
          rw [hnl]
        · rfl
      have hput : o.putSec v s rs = .slc o.hd 1 (o.putSec v s rs).rows := rfl
      rw [hput]
      have hc1 : ∀ i, i < o.len → o.rows[i]? = some [o.cell i 0] := fun i hi' => (vol_row h.is hi').1
      have hc2 : ∀ i, i < o.len → (o.putSec v s rs).rows[i]? = some [(o.putSec v s rs).cell i 0] := fun i hi' => (vol_row (put_is h hv hrs hs) (by rw [pl]; exact hi')).1
      generalize (o.putSec v s rs).rows = R at hlen' hrl' hc2
      generalize hcell' : (fun i => (o.putSec v s rs).cell i 0) = cf at *
      have cfe : ∀ i, (o.putSec v s rs).cell i 0 = cf i := fun i => congrFun hcell' i
      simp only [cfe] at hrl' hvals hc2 key
      clear cfe hcell' pc pb hput
      cases hok with
      | slc a c' sz rows hsp hc hlen hcell hk =>
        simp only [D.sz] at hsz
        subst hsz
        simp only [D.hd]
        refine .slc _ _ _ _ (fun _ => hsp (fun e => by rw [e] at hv; simp [D.len, D.rows] at hv)) (by rw [hlen']; exact hc) (fun r hr => by obtain ⟨v', _, rfl⟩ := hrl' r hr; rfl) (fun i j r x h1 h2 => ?_) (fun r hr x hx => ?_)
        · have hi' : i < R.length := (List.getElem?_eq_some_iff.1 h1).1
          have hi2 : i < rows.length := by rw [hlen'] at hi'; exact hi'
          have e1 := hc2 i hi2
          rw [h1] at e1
          cases e1
          have hj : j = 0 := by
            have := (List.getElem?_eq_some_iff.1 h2).1
            simp at this; exact this
          subst hj
          simp only [List.getElem?_cons_zero, Option.some.injEq] at h2
          subst h2
          have e2 := hcell i 0 _ _ (hc1 i hi2) rfl
          have e3 := hvals i hi2
          rw [e3]
          simp only [HV.row]
          rw [if_neg (show ¬a.block = _ from hout)]; exact e2
        · obtain ⟨v', hv', rfl⟩ := hrl' r hr
          rw [List.mem_singleton.1 hx]
          exact key v' hv'
      | nil sz => simp [D.len, D.rows] at hv
      | int _ _ => obtain ⟨_, _, _, e, _⟩ := h.is; cases e
      | bool _ => obtain ⟨_, _, _, e, _⟩ := h.is; cases e
      | str _ => obtain ⟨_, _, _, e, _⟩ := h.is; cases e
    · rw [pl] at hv'
      rw [pc hv']
      split
      · rw [hrows']; exact hrowne
      · exact h.ne v' hv'
    · rw [pl] at hv'
      rw [pb hv', pc hv']
      split
      · rename_i e; subst e; exact ⟨c, hhd⟩
      · exact h.hd v' hv'
    · rw [pl] at hv'; rw [pb hv']; exact h.low v' hv'
    · rw [pl] at h1 h2; rw [pb h1, pb h2] at e; exact h.dis v1 v2 h1 h2 e
    · rw [pl] at hv'; rw [pb hv']; exact h.out v' hv'
    · rw [pl] at hv'; rw [pb hv']
      by_cases e : blk o v' = blk o v
      · rw [e]; exact ⟨_, _, hnew⟩
      · rw [hoth _ e]; exact h.live v' hv'
  · intro H0 hle hn b x u hb
    unfold HV.row
    split
    · rename_i e; subst e; rw [hn] at hb; cases hb
    · exact hle b x u hb
  · intro b x u hb
    unfold HV.row at hb
    split at hb
    · rename_i e; exact .inr e
    · exact .inl hb
end
theorem ImgW.mono {n : Nat} {H H' : HV} {w w' : World} {o : D} (h : ImgW n H w o) (a : After w H w' H') : ImgW n H' w' o :=
  ⟨h.is, h.sz, h.ok.mono a.le, h.ne, h.hd, h.low, h.dis, h.out, fun v hv => by
    obtain ⟨cur, t, hg⟩ := h.live v hv
    exact ⟨cur, t, by rw [a.below.block _ (Array.getElem?_eq_some_iff.1 hg).1]; exact hg⟩⟩
/-! A frame's slots, from this very world on. -/
def envJ (E : Env) (T : Array Value) : Env := ⟨E.b, E.v, fun i => T.getD i Go.undef⟩
theorem slotS_cases (l : List (Nat × SV)) (t : Nat) (d : SV) : slotS l t d = d ∨ ∃ p, p ∈ l ∧ p.1 = t ∧ slotS l t d = p.2 := by
  induction l with
  | nil => exact .inl rfl
  | cons p r ih =>
    obtain ⟨u, v⟩ := p
    unfold slotS
    by_cases h : u = t
    · subst h; right; exact ⟨(u, v), List.mem_cons_self, rfl, by simp⟩
    · have hb : (u == t) = false := by simpa using h
      rw [hb]
      simp only [Bool.false_eq_true, if_false]
      rcases ih with h | ⟨p, h1, h2, h3⟩
      · exact .inl h
      · exact .inr ⟨p, List.mem_cons_of_mem _ h1, h2, h3⟩
theorem den_mkJ {E : Env} {T : Array Value} {sl : List (Nat × SV)} (hs : ∀ p, p ∈ sl → p.2.den (envJ E T) = T.getD p.1 Go.undef) : ∀ (m t : Nat), t + m = T.size → SV.denL (envJ E T) (mkJ 0 sl t m) = T.toList.drop t
  | 0, t, h => by
    simp only [mkJ, SV.denL]
    rw [List.drop_eq_nil_of_le (by rw [Array.length_toList]; omega)]
  | m + 1, t, h => by
    have ht : t < T.toList.length := by rw [Array.length_toList]; omega
    have e : (slotS sl t (.junk (1000 * 0 + t))).den (envJ E T) = T.toList[t] := by
      have e2 : T.getD t Go.undef = T.toList[t] := by
        have : t < T.size := by omega
        simp [this]
      rcases slotS_cases sl t (.junk (1000 * 0 + t)) with h1 | ⟨p, h1, h2, h3⟩
      · rw [h1, ← e2]; simp [SV.den, envJ]
      · rw [h3, hs p h1, h2, e2]
    simp only [mkJ, SV.denL]
    rw [den_mkJ hs m (t + 1) (by omega), e, ← List.drop_eq_getElem_cons ht]
theorem ok_mkJ {H : HV} {sl : List (Nat × SV)} (hs : ∀ p, p ∈ sl → p.2.Ok H) (m t : Nat) : SV.OkL H (mkJ 0 sl t m) := by
  rw [SV.OkL_iff]
  intro x hx
  have : ∀ (m t : Nat), x ∈ mkJ 0 sl t m → ∃ t, x = slotS sl t (.junk (1000 * 0 + t)) := by
    intro m
    induction m with
    | zero => intro t h; simp [mkJ] at h
    | succ m ih =>
      intro t h
      simp only [mkJ, List.mem_cons] at h
      rcases h with h | h
      · exact ⟨t, h⟩
      · exact ih _ h
  obtain ⟨t, rfl⟩ := this m t hx
  rcases slotS_cases sl t (.junk (1000 * 0 + t)) with h1 | ⟨p, h1, _, h3⟩
  · rw [h1]; simp [SV.Ok]
  · rw [h3]; exact hs p h1
theorem stk_to {P : Program} {f : FuncId} {ri : Option (Array Oper × List Nat)} {aw : Option Tmp} {k : List Item} {T : Array Value} {sl : List (Nat × SV)} {n : Nat} {E : Env} {H : HV} {w : World} {R : Value → World → Prop} (hn : n = T.size)
    (hs : ∀ p, p ∈ sl → p.2.den (envJ E T) = T.getD p.1 Go.undef) (hok : ∀ p, p ∈ sl → p.2.Ok H) (hin : InMem H w) (h : At P ⟨⟨f, ri, aw, k, mkJ 0 sl 0 n⟩, [], []⟩ H w R) : StkRun P ctxPlain ⟨f, ri, aw, k, ⟨T, []⟩, none⟩ [] w R := by
  have := h (envJ E T) ⟨ok_mkJ hok _ _, by simp⟩ hin
  simp only [SFrm.den, List.map_nil] at this
  rw [den_mkJ hs n 0 (by omega), List.drop_zero, Array.toArray_toList] at this
  exact this
end Sx
end
section
namespace Sx
open Go RowKit
def innerOk (n : Nat) (H : HV) (w : World) (d : D) : Prop :=
  d.Is Sec ∧ d.Ok H ∧ d.rows ≠ [] ∧ ∃ B c, d.hd = some (⟨B, 0, none⟩, c) ∧ n ≤ B ∧ ∃ cur t, w.heap[B]? = some (.cells cur t (0, 0))
def blkD (d : D) : Nat := d.addr.block
structure BuildI (n : Nat) (H : HV) (w : World) (e : TypeId) (ov : Value) (ds : List D) : Prop where
  own : w.ownsRow n e 1 ov ds.length (flat (ds.map fun d => [d]))
  noH : ∀ b, ov.ownBlock = some b → ∀ x, H b x = none
  inn : ∀ d, d ∈ ds → innerOk n H w d
  dis : (ds.map blkD).Nodup
theorem blkD_of {d : D} {B c : Nat} (h : d.hd = some (⟨B, 0, none⟩, c)) : blkD d = B := by unfold blkD D.addr; rw [h]
theorem innerOk.mono {n : Nat} {H H' : HV} {w w' : World} {d : D} (h : innerOk n H w d) (a : After w H w' H') : innerOk n H' w' d := by
  obtain ⟨h1, h2, h3, B, c, h4, h5, cur, t, h6⟩ := h
  exact ⟨h1, h2.mono a.le, h3, B, c, h4, h5, cur, t, by rw [a.below.block _ (Array.getElem?_eq_some_iff.1 h6).1]; exact h6⟩
theorem innerOk.cell {n : Nat} {H : HV} {w : World} {d : D} (h : innerOk n H w d) : ∃ u, H (blkD d) 0 = some u := by
  obtain ⟨h1, h2, h3, B, c, h4, _⟩ := h
  rw [blkD_of h4]
  have hr := (rows_of h1).1
  cases h2 with
  | slc a c' sz rows hsp hc hlen hcell hk =>
    simp only [D.hd, Option.some.injEq, Prod.mk.injEq] at h4
    obtain ⟨rfl, rfl⟩ := h4
    cases rows with
    | nil => exact absurd rfl h3
    | cons r rs =>
      have := hr r (by simp [D.rows])
      obtain ⟨x0, x1, x2, x3, x4, x5, x6, x7, rfl⟩ := this
      exact ⟨_, by simpa using hcell 0 0 _ _ rfl rfl⟩
  | nil sz => simp [D.hd] at h4
  | int _ _ => simp [D.hd] at h4
  | bool _ => simp [D.hd] at h4
  | str _ => simp [D.hd] at h4
theorem BuildI.mono {n : Nat} {H H' : HV} {w w' : World} {e : TypeId} {ov : Value} {ds : List D} (h : BuildI n H w e ov ds) (a : After w H w' H') : BuildI n H' w' e ov ds := by
  refine ⟨⟨h.own.1, ?_⟩, fun b hb x => ?_, fun d hd => (h.inn d hd).mono a, h.dis⟩
  · rcases h.own.2 with h1 | ⟨g, cap, cur, h1, h2, h3, h4⟩
    · exact .inl h1
    · exact .inr ⟨g, cap, cur, h1, h2, by rw [a.below.block _ (Array.getElem?_eq_some_iff.1 h3).1]; exact h3, h4⟩
  · have hlt : b < w.heap.size := by
      rcases h.own.2 with ⟨h1, _⟩ | ⟨g, cap, cur, h1, h2, h3, h4⟩
      · rw [h1] at hb; simp [Value.ownBlock] at hb
      · rw [h1] at hb
        simp only [Value.ownBlock, Option.some.injEq] at hb
        subst hb
        exact (Array.getElem?_eq_some_iff.1 h3).1
    cases hx : H' b x with
    | none => rfl
    | some u =>
      rcases a.fresh b x u hx with h1 | h1
      · rw [h.noH b hb x] at h1; cases h1
      · omega
theorem pub_inner {w w1 : World} {H H1 : HV} {m : Mem} {E : Env} {k : Nat} {e : TypeId} {d : D} (g : Good ⟨w, H⟩ m E H1 w1) (hg : m.get k = some (.arr e d)) (hs : d.Is Sec) (hne : d.rows ≠ []) :
    ∃ H2, After w H w1 H2 ∧ HLe H1 H2 ∧ innerOk w.heap.size H2 w1 d ∧ (SV.vec k).den E = d.val := by
  obtain ⟨H2, hle, g2, hok, _⟩ := g.publish hg
  obtain ⟨h, sz, rows, rfl, hv, how, _, _, ha⟩ := g.own k _ (Mem.get_mem hg)
  refine ⟨H2, after_good g2, hle, ⟨hs, hok, hne, ?_⟩, ?_⟩
  · rcases how.2 with ⟨h1, h0⟩ | ⟨gg, cap, cur, h1, h2, h3, _⟩
    · exact absurd (List.length_eq_zero_iff.1 h0) hne
    · cases h with
      | none => simp [D.val, hval] at h1
      | some ac =>
        obtain ⟨a, c⟩ := ac
        simp only [D.val, hval, Value.slice.injEq, Option.some.injEq] at h1
        obtain ⟨rfl, _, rfl⟩ := h1
        exact ⟨gg, c, rfl, h2, cur, _, h3⟩
  · simp only [SV.den, hv]; rfl
theorem build_append {P : Program} {w0 w w1 : World} {H0 H H1 : HV} {m : Mem} {E : Env} {k : Nat} {t ty e : TypeId} {i : TypeInfo} {z ov : Value} {ds : List D} {d : D} {hh : Hd}
    (ht : P.underlying t = some (.slice e)) (hi : P.info? e = some i) (hz : i.zero = some z) (hzs : z.cells.size = i.size) (his : i.size = 1) (hib : i.bytes ≤ 1000)
    (a : After w0 H0 w H) (b : BuildI w0.heap.size H w e ov ds) (hd : innerOk w0.heap.size H w d) (hnew : blkD d ∉ ds.map blkD) (g : Good ⟨w, H⟩ m E H1 w1) (hg : m.get k = some (.arr e (.slc hh 1 [[d]]))) (hlen : ds.length ≤ 1048576) {key : Nat} (hkey : Mem.has key m = false) :
    ∃ w2 ov', (Builtin.append_ #[t, t] ty #[ov, (SV.vec k).den E]).run P w1 = .ok ov' w2 ∧ After w0 H0 w2 H1 ∧ BuildI w0.heap.size H1 w2 e ov' (ds ++ [d]) := by
  have a1 := after_good g
  have b1 := b.mono a1
  have hd1 := hd.mono a1
  have a01 := a.trans a1
  have hmem := Mem.get_mem hg
  obtain ⟨h', sz', rows', he, hv, how, hrl, hro, hb⟩ := g.own k _ hmem
  cases he
  have gd : Good ⟨w0, H1⟩ m E H1 w1 := ⟨a01.below, HLe.refl _, fun _ _ _ h => .inl h, g.cell, fun j o hj => (g.own j o hj).ctx a.below.size, g.keys, g.apart, fixOk_plain _ _ _⟩
  have hxr : Reads w1 ((SV.vec k).den E) i.size [[d]] := by
    rw [his]
    have := reads_own (C := ⟨w, H⟩) (H := H1) (g.own k _ hmem)
    simp only [SV.den]
    exact this
  have hold : ∀ r, r ∈ ds.map (fun d => [d]) → r.length = i.size := fun r hr => by obtain ⟨x, _, rfl⟩ := List.mem_map.1 hr; rw [his]; rfl
  obtain ⟨w2, h2, bb, hrun, g2, hsz, hkeep, hbb, hos⟩ := Good.append t ty e i z ht hi hz hzs gd ov (ds.map fun d => [d]) (by rw [his, List.length_map]; exact b1.own) hold
    (fun r hr x hx => by
      obtain ⟨y, hy, rfl⟩ := List.mem_map.1 hr
      rw [List.mem_singleton.1 hx]; exact (b1.inn y hy).2.1)
    (fun q hq => ⟨b1.noH q hq, fun j p hj hl => by
      have h1 := (g.own j p hj).low hl
      have hlt : q < w.heap.size := by
        rcases b.own.2 with ⟨h1, _⟩ | ⟨g', cap, cur, h1, _, h3, _⟩
        · rw [h1] at hq; simp [Value.ownBlock] at hq
        · rw [h1] at hq
          simp only [Value.ownBlock, Option.some.injEq] at hq
          subst hq
          exact (Array.getElem?_eq_some_iff.1 h3).1
      have h1 : w.heap.size ≤ E.b j := h1
      omega⟩)
    ((SV.vec k).den E) [[d]] hxr (fun r hr x hx => by
      rw [List.mem_singleton.1 hr] at hx
      rw [List.mem_singleton.1 hx]; exact hd1.2.1)
    (by
      have : (ds.length + 1) * i.bytes ≤ 1048577 * 1000 := Nat.mul_le_mul (by omega) hib
      rw [List.length_map]
      show (ds.length + 1) * i.bytes ≤ _
      omega)
    (by rw [List.length_map]; show ds.length + 1 ≤ maxLen; unfold maxLen; omega) key hkey
  have hcell2 : ∀ q x u, H1 q x = some u → w2.cell? ⟨q, x, none⟩ = some u := g2.cell
  have o2 := g2.own key _ List.mem_cons_self
  obtain ⟨hx, szx, rowsx, he2, hv2, how2, _, _, ha2⟩ := o2
  cases he2
  have hap : ds.map (fun d => [d]) ++ [[d]] = (ds ++ [d]).map fun d => [d] := by simp
  refine ⟨w2, _, hrun, ⟨g2.below, a01.le, a01.fresh, hcell2⟩, ⟨?_, fun q hq x => ?_, fun y hy => ?_, ?_⟩⟩
  · rw [hap] at how2
    rw [his] at how2
    have e1 : (D.slc h2 1 ((ds ++ [d]).map fun d => [d])).val = hval h2 ((ds.map fun d => [d]).length + [[d]].length) := by
      simp [D.val]
    rw [e1] at how2
    simpa using how2
  · cases h2 with
    | none => simp [hval, Value.ownBlock] at hq
    | some ac =>
      obtain ⟨a', c'⟩ := ac
      simp only [hval, Value.ownBlock, Option.some.injEq] at hq
      obtain ⟨e1, e2⟩ := ha2 a' c' rfl
      rw [← hq, e1]; exact e2 x
  · have hy1 : innerOk w0.heap.size H1 w1 y := by
      rcases List.mem_append.1 hy with h | h
      · exact b1.inn y h
      · rw [List.mem_singleton.1 h]; exact hd1
    obtain ⟨u, hu⟩ := hy1.cell
    obtain ⟨q1, q2, q3, B, c, q4, q5, cur, tt, q6⟩ := hy1
    refine ⟨q1, q2, q3, B, c, q4, q5, cur, tt, ?_⟩
    rw [hkeep B (Array.getElem?_eq_some_iff.1 q6).1 (fun e' => by
      have := b1.noH B e' 0
      rw [blkD_of q4] at hu
      rw [hu] at this; cases this)]
    exact q6
  · rw [List.map_append, List.nodup_append]
    refine ⟨b1.dis, by simp, fun x hx y hy => ?_⟩
    simp only [List.map_cons, List.map_nil, List.mem_singleton] at hy
    subst hy
    intro e'; subst e'; exact hnew hx
theorem nodup_inj : ∀ {l : List Nat}, l.Nodup → ∀ {i j : Nat} (hi : i < l.length) (hj : j < l.length), l[i] = l[j] → i = j
  | [], _, _, _, hi, _, _ => absurd hi (Nat.not_lt_zero _)
  | x :: r, h, i, j, hi, hj, e => by
    rw [List.nodup_cons] at h
    cases i with
    | zero =>
      cases j with
      | zero => rfl
      | succ j =>
        simp only [List.getElem_cons_zero, List.getElem_cons_succ] at e
        exact absurd (e ▸ List.getElem_mem _) h.1
    | succ i =>
      cases j with
      | zero =>
        simp only [List.getElem_cons_zero, List.getElem_cons_succ] at e
        exact absurd (e ▸ List.getElem_mem _) h.1
      | succ j =>
        simp only [List.getElem_cons_succ] at e
        rw [nodup_inj h.2 _ _ e]
theorem build_done {n : Nat} {H : HV} {w : World} {e : TypeId} {ov : Value} {ds : List D} (b : BuildI n H w e ov ds) (hne : ds ≠ []) (hin : InMem H w) :
    ∃ H' o, HLe H H' ∧ InMem H' w ∧ (∀ q x u, H' q x = some u → H q x = some u ∨ n ≤ q) ∧ ImgW n H' w o ∧ o.val = ov ∧ o.rows = ds.map fun d => [d] := by
  rcases b.own.2 with ⟨_, h0⟩ | ⟨g, cap, cur, rfl, hlow, hg, hnc, hcm, hcs, htake⟩
  · exact absurd (List.length_eq_zero_iff.1 h0) hne
  · have hno : ∀ x, H g x = none := b.noH g rfl
    have hle : HLe H (H.row g (flat (ds.map fun d => [d]))) := HV.row_le hno
    let o : D := .slc (some (⟨g, 0, none⟩, cap)) 1 (ds.map fun d => [d])
    have hcell : ∀ v, (hv : v < ds.length) → o.cell v 0 = ds[v] := fun v hv => by
      simp [o, D.cell, D.cellAt, D.rows, hv]
    have hlen : o.len = ds.length := by simp [o, D.len, D.rows]
    have hbk : ∀ v, (hv : v < ds.length) → blk o v = blkD ds[v] := fun v hv => by unfold blk; rw [hcell v hv]; rfl
    refine ⟨H.row g (flat (ds.map fun d => [d])), o, hle, fun q x u hq => ?_, fun q x u hq => ?_, ⟨?_, rfl, ?_, fun v hv => ?_, fun v hv => ?_, fun v hv => ?_, fun v v' h1 h2 e' => ?_, fun v hv => ?_, fun v hv => ?_⟩, by simp [o, D.val, hval], rfl⟩
    · unfold HV.row at hq
      split at hq
      · rename_i e'; subst e'
        simp only [World.cell?, hg, Option.isSome_none, Bool.false_eq_true, if_false]
        rw [← htake, List.getElem?_take] at hq
        split at hq
        · simpa using hq
        · cases hq
      · exact hin q x u hq
    · unfold HV.row at hq
      split at hq
      · rename_i e'; subst e'; exact .inr hlow
      · exact .inl hq
    · refine is_rows rfl fun r hr => ?_
      obtain ⟨d, hd, rfl⟩ := List.mem_map.1 hr
      exact ⟨d, rfl, (b.inn d hd).1⟩
    · refine .slc _ _ _ _ (fun _ => rfl) (by simpa using hnc) (fun r hr => by obtain ⟨d, _, rfl⟩ := List.mem_map.1 hr; rfl) (fun i j r x h1 h2 => ?_) (fun r hr x hx => ?_)
      · simp only [HV.row, if_true, Nat.zero_add]
        exact flat_get (sz := 1) (fun r hr => by obtain ⟨d, _, rfl⟩ := List.mem_map.1 hr; rfl) i j r x h1 h2
      · obtain ⟨d, hd, rfl⟩ := List.mem_map.1 hr
        rw [List.mem_singleton.1 hx]; exact (b.inn d hd).2.1.mono hle
    all_goals rw [hlen] at *
    · rw [hcell v hv]; exact (b.inn _ (List.getElem_mem hv)).2.2.1
    · rw [hbk v hv, hcell v hv]
      obtain ⟨_, _, _, B, c, h4, _⟩ := b.inn _ (List.getElem_mem hv)
      exact ⟨c, by rw [blkD_of h4]; exact h4⟩
    · rw [hbk v hv]
      obtain ⟨_, _, _, B, c, h4, h5, _⟩ := b.inn _ (List.getElem_mem hv)
      rw [blkD_of h4]; exact h5
    · rw [hbk v h1, hbk v' h2] at e'
      have hn := b.dis
      have l1 : v < (ds.map blkD).length := by rw [List.length_map]; exact h1
      have l2 : v' < (ds.map blkD).length := by rw [List.length_map]; exact h2
      have g1 : (ds.map blkD)[v] = blkD ds[v] := List.getElem_map ..
      have g2 : (ds.map blkD)[v'] = blkD ds[v'] := List.getElem_map ..
      exact nodup_inj hn l1 l2 (by rw [g1, g2, e'])
    · rw [hbk v hv]
      obtain ⟨u, hu⟩ := (b.inn _ (List.getElem_mem hv)).cell
      show g ≠ _
      intro e'
      rw [← e', hno] at hu; cases hu
    · rw [hbk v hv]
      obtain ⟨_, _, _, B, c, h4, h5, cur', t', h6⟩ := b.inn _ (List.getElem_mem hv)
      rw [blkD_of h4]; exact ⟨cur', t', h6⟩
theorem innerOk.low {n n' : Nat} {H : HV} {w : World} {d : D} (h : innerOk n H w d) (hn : n' ≤ n) : innerOk n' H w d := by
  obtain ⟨h1, h2, h3, B, c, h4, h5, h6⟩ := h
  exact ⟨h1, h2, h3, B, c, h4, Nat.le_trans hn h5, h6⟩
theorem innerOk.fresh {n : Nat} {H H' : HV} {w w' : World} {e : TypeId} {ov : Value} {ds : List D} {d : D} (h : innerOk w.heap.size H' w' d) (b : BuildI n H w e ov ds) : blkD d ∉ ds.map blkD := by
  intro hm
  obtain ⟨y, hy, hyd⟩ := List.mem_map.1 hm
  obtain ⟨_, _, _, B, c, h4, h5, _⟩ := h
  obtain ⟨_, _, _, B', c', h4', _, cur, t, h6'⟩ := b.inn y hy
  have := (Array.getElem?_eq_some_iff.1 h6').1
  rw [blkD_of h4, blkD_of h4'] at hyd
  omega
def CpR (w0 : World) (H0 : HV) (vs : List Vol) : Value → World → Prop := fun u w' => ∃ H' o, After w0 H0 w' H' ∧ ImgW w0.heap.size H' w' o ∧ u = o.val ∧ o.to Vol = vs
theorem stk_call {P : Program} {f : FuncId} {ri : Option (Array Oper × List Nat)} {aw : Option Tmp} {k : List Item} {T : Array Value} {sl : List (Nat × SV)} {n : Nat} {E : Env} {H : HV} {w : World} {R1 R : Value → World → Prop} {g : CFrm} {r : List CFrm} (hn : n = T.size)
    (hs : ∀ p, p ∈ sl → p.2.den (envJ E T) = T.getD p.1 Go.undef) (hok : ∀ p, p ∈ sl → p.2.Ok H) (hin : InMem H w) (h : At P ⟨⟨f, ri, aw, k, mkJ 0 sl 0 n⟩, [], []⟩ H w R1)
    (h2 : ∀ u w', R1 u w' → StkRun P ctxPlain { g with act := g.act.put g.await u } r w' R) : StkRun P ctxPlain ⟨f, ri, aw, k, ⟨T, []⟩, none⟩ (g :: r) w R := by
  have hr := stk_to hn hs hok hin h
  exact CFrm.run_mono hr h2
theorem stk_aw {P : Program} {f : FuncId} {ri : Option (Array Oper × List Nat)} {aw aw' : Option Tmp} {k : List Item} {a : Act} {r : List CFrm} {w : World} {R : Value → World → Prop} (h : StkRun P ctxPlain ⟨f, ri, aw, k, a, none⟩ r w R) : StkRun P ctxPlain ⟨f, ri, aw', k, a, none⟩ r w R := by
  cases r <;> exact h
end Sx
end
section
namespace Sx
open Go RowKit
section
variable {α : Type} [Codec α]
def rblk (d : D) : Nat := d.addr.block
structure RowW (α : Type) [Codec α] (n : Nat) (H : HV) (w : World) (d : D) : Prop where
  is : d.Is α
  ok : d.Ok H
  ne : d.rows ≠ []
  hd : ∃ c, d.hd = some (⟨rblk d, 0, none⟩, c)
  low : n ≤ rblk d
  live : ∃ cur t, w.heap[rblk d]? = some (.cells cur t (0, 0))
theorem RowW.mono {n : Nat} {H H' : HV} {w w' : World} {d : D} (h : RowW α n H w d) (a : After w H w' H') : RowW α n H' w' d :=
  ⟨h.is, h.ok.mono a.le, h.ne, h.hd, h.low, by
    obtain ⟨cur, t, hg⟩ := h.live
    exact ⟨cur, t, by rw [a.below.block _ (Array.getElem?_eq_some_iff.1 hg).1]; exact hg⟩⟩
def D.putRow (d : D) (s : Nat) (rs : List (List D)) : D := .slc d.hd d.sz (d.rows.take s ++ rs ++ d.rows.drop (s + rs.length))
theorem pub_row {w w1 : World} {H H1 : HV} {m : Mem} {E : Env} {k : Nat} {e : TypeId} {d : D} (g : Good ⟨w, H⟩ m E H1 w1) (hg : m.get k = some (.arr e d)) (hs : d.Is α) (hne : d.rows ≠ []) :
    ∃ H2, After w H w1 H2 ∧ HLe H1 H2 ∧ RowW α w.heap.size H2 w1 d ∧ (SV.vec k).den E = d.val := by
  obtain ⟨H2, hle, g2, hok, _⟩ := g.publish hg
  obtain ⟨h, sz, rows, rfl, hv, how, _, _, ha⟩ := g.own k _ (Mem.get_mem hg)
  refine ⟨H2, after_good g2, hle, ?_, by simp only [SV.den, hv]; rfl⟩
  rcases how.2 with ⟨h1, h0⟩ | ⟨gg, cap, cur, h1, h2, h3, _⟩
  · exact absurd (List.length_eq_zero_iff.1 h0) hne
  · cases h with
    | none => simp [D.val, hval] at h1
    | some ac =>
      obtain ⟨a, c⟩ := ac
      simp only [D.val, hval, Value.slice.injEq, Option.some.injEq] at h1
      obtain ⟨rfl, _, rfl⟩ := h1
      exact ⟨hs, hok, hne, ⟨c, rfl⟩, h2, cur, _, h3⟩
def Flat (α : Type) [Codec α] : Prop := ∀ r : List D, Codec.ok α r → r.length = Codec.sz α ∧ ∀ x, x ∈ r → ∀ H : HV, x.Ok H
theorem flat_int : Flat Int := by
  rintro r ⟨n, rfl⟩
  exact ⟨rfl, fun x hx H => by rw [List.mem_singleton.1 hx]; exact .int _ _⟩
theorem RowW.put {n : Nat} {H : HV} {w : World} {d : D} (h : RowW α n H w d) (hf : Flat α) {s : Nat} {rs : List (List D)} (hrs : ∀ r, r ∈ rs → Codec.ok α r) (hs : s + rs.length ≤ d.rows.length) (hin : InMem H w) {w' : World} {cur : Array Value} {t : TypeId}
    (hg : w.heap[rblk d]? = some (.cells cur t (0, 0))) (hw : w' = w.setRow (rblk d) (cur.toList.take (s * Codec.sz α) ++ flat rs ++ cur.toList.drop (s * Codec.sz α + (flat rs).length)).toArray) :
    ∃ H', InMem H' w' ∧ RowW α n H' w' (d.putRow s rs) ∧ (∀ H0 : HV, HLe H0 H → (∀ x, H0 (rblk d) x = none) → HLe H0 H') ∧ (∀ b x u, H' b x = some u → H b x = some u ∨ b = rblk d) ∧ s * Codec.sz α + (flat rs).length ≤ cur.size ∧ (∀ b, b ≠ rblk d → w'.heap[b]? = w.heap[b]?) := by
  obtain ⟨c, hhd⟩ := h.hd
  have hne := h.ne
  have hi := rows_of h.is
  have hl8 : ∀ r, r ∈ d.rows → r.length = Codec.sz α := fun r hr => (hf r (hi.1 r hr)).1
  have hr8 : ∀ r, r ∈ rs → r.length = Codec.sz α := fun r hr => (hf r (hrs r hr)).1
  have hnl : (d.rows.take s ++ rs ++ d.rows.drop (s + rs.length)).length = d.rows.length := by
    simp only [List.length_append, List.length_take, List.length_drop]; omega
  have hno : ∀ r, r ∈ d.rows.take s ++ rs ++ d.rows.drop (s + rs.length) → Codec.ok α r := by
    intro r hr
    rcases List.mem_append.1 hr with hr | hr
    · rcases List.mem_append.1 hr with hr | hr
      · exact hi.1 r (List.mem_of_mem_take hr)
      · exact hrs r hr
    · exact hi.1 r (List.mem_of_mem_drop hr)
  have hz : d.sz = Codec.sz α := h.is.size (i := 0) (by
    rw [← D.Is.length (α := α)]
    exact List.length_pos_iff.2 hne)
  have hok := h.ok
  have hcells : ∀ i j r x, d.rows[i]? = some r → r[j]? = some x → H (rblk d) (i * Codec.sz α + j) = some x.val := by
    intro i j r x h1 h2
    revert hhd hz h1
    generalize rblk d = B
    clear hg hw
    cases hok with
    | slc a c sz rows hsp hc hlen hcell hk =>
      intro hhd hz h1
      simp only [D.hd, Option.some.injEq, Prod.mk.injEq] at hhd
      obtain ⟨rfl, _⟩ := hhd
      simp only [D.sz] at hz
      subst hz
      have := hcell i j r x h1 h2
      simpa using this
    | nil sz => intro hhd; simp [D.hd] at hhd
    | int _ _ => intro hhd; simp [D.hd] at hhd
    | bool _ => intro hhd; simp [D.hd] at hhd
    | str _ => intro hhd; simp [D.hd] at hhd
  have hcap : d.rows.length ≤ c := by
    revert hhd
    generalize rblk d = B
    cases hok with
    | slc a c' sz rows hsp hc hlen hcell hk => intro hhd; simp only [D.hd, Option.some.injEq, Prod.mk.injEq] at hhd; rw [← hhd.2]; exact hc
    | nil sz => intro hhd; simp [D.hd] at hhd
    | int _ _ => intro hhd; simp [D.hd] at hhd
    | bool _ => intro hhd; simp [D.hd] at hhd
    | str _ => intro hhd; simp [D.hd] at hhd
  generalize hrows' : d.rows.take s ++ rs ++ d.rows.drop (s + rs.length) = rows' at hnl hno
  have hr' : ∀ r, r ∈ rows' → r.length = Codec.sz α := fun r hr => (hf r (hno r hr)).1
  generalize hZ : Codec.sz α = Z at *
  have hFl : (flat d.rows).length = d.rows.length * Z := flat_len hl8
  have hMl : (flat rs).length = rs.length * Z := flat_len hr8
  have hpre : ∀ (x : Nat) (u : Value), (flat d.rows)[x]? = some u → cur.toList[x]? = some u := by
    intro x u hx
    have hxl : x < d.rows.length * Z := by rw [← hFl]; exact (List.getElem?_eq_some_iff.1 hx).1
    have hZp : 0 < Z := by
      rcases Nat.eq_zero_or_pos Z with h0 | h0
      · rw [h0] at hxl; simp at hxl
      · exact h0
    have hi1 : x / Z < d.rows.length := (Nat.div_lt_iff_lt_mul hZp).2 hxl
    have hr1 : d.rows[x / Z]? = some d.rows[x / Z] := List.getElem?_eq_getElem hi1
    have hrl := hl8 _ (List.getElem_mem hi1)
    have hj1 : x % Z < (d.rows[x / Z]).length := by rw [hrl]; exact Nat.mod_lt _ hZp
    have hr2 : (d.rows[x / Z])[x % Z]? = some (d.rows[x / Z])[x % Z] := List.getElem?_eq_getElem hj1
    have e1 := flat_get hl8 _ _ _ _ hr1 hr2
    have e2 := hcells _ _ _ _ hr1 hr2
    have ex : x / Z * Z + x % Z = x := by rw [Nat.mul_comm]; exact Nat.div_add_mod x Z
    rw [ex] at e1 e2
    rw [hx] at e1
    cases e1
    have e3 := hin _ _ _ e2
    simp only [World.cell?, hg, Option.isSome_none, Bool.false_eq_true, if_false] at e3
    simpa using e3
  have hL := prefix_of hpre
  have hfit : s * Z + (flat rs).length ≤ (flat d.rows).length := by rw [hFl, hMl, ← Nat.add_mul]; exact Nat.mul_le_mul_right _ hs
  have hcsz : (flat d.rows).length ≤ cur.size := by
    have := congrArg List.length hL
    simp only [List.length_append, Array.length_toList, List.length_drop] at this
    omega
  have hF' : flat rows' = (flat d.rows).take (s * Z) ++ flat rs ++ (flat d.rows).drop (s * Z + (flat rs).length) := by
    rw [← hrows', flat_append, flat_append]
    have tk : ∀ k, k ≤ d.rows.length → flat (d.rows.take k) = (flat d.rows).take (k * Z) ∧ flat (d.rows.drop k) = (flat d.rows).drop (k * Z) := fun k hk => by
      have e := flat_append (d.rows.take k) (d.rows.drop k)
      rw [List.take_append_drop] at e
      have e2 : (flat (d.rows.take k)).length = k * Z := by
        rw [flat_len (sz := Z) fun r hr => hl8 r (List.mem_of_mem_take hr), List.length_take, Nat.min_eq_left hk]
      rw [e]
      exact ⟨by rw [← e2, List.take_left], by rw [← e2, List.drop_left]⟩
    rw [(tk s (by omega)).1, (tk (s + rs.length) hs).2, hMl, Nat.add_mul]
  have hL' : cur.toList.take (s * Z) ++ flat rs ++ cur.toList.drop (s * Z + (flat rs).length) = flat rows' ++ cur.toList.drop (flat d.rows).length := by
    rw [hF']
    have e1 : cur.toList.take (s * Z) = (flat d.rows).take (s * Z) := by
      rw [hL, List.take_append_of_le_length (by omega)]
    have e2 : cur.toList.drop (s * Z + (flat rs).length) = (flat d.rows).drop (s * Z + (flat rs).length) ++ cur.toList.drop (flat d.rows).length := by
      conv => lhs; rw [hL]
      rw [List.drop_append_of_le_length hfit]
    rw [e1, e2, List.append_assoc, List.append_assoc, List.append_assoc]
  rw [hL'] at hw
  have hoth : ∀ b, b ≠ rblk d → w'.heap[b]? = w.heap[b]? := fun b hb => by rw [hw]; exact setRow_other w _ _ _ hb
  have hnew : w'.heap[rblk d]? = some (.cells (flat rows' ++ cur.toList.drop (flat d.rows).length).toArray t (0, 0)) := by
    rw [hw]; exact setRow_heap w _ cur _ t _ hg
  have hpd : d.putRow s rs = .slc (some (⟨rblk d, 0, none⟩, c)) Z rows' := by unfold D.putRow; rw [hhd, hz, hrows']
  have hrb : rblk (d.putRow s rs) = rblk d := by rw [hpd]; rfl
  refine ⟨H.row (rblk d) (flat rows'), ?_, ⟨?_, ?_, ?_, ?_, ?_, ?_⟩, ?_, ?_, by omega, hoth⟩
  · intro b x u hb
    unfold HV.row at hb
    split at hb
    · rename_i e
      subst e
      simp only [World.cell?, hnew, Option.isSome_none, Bool.false_eq_true, if_false]
      have := (List.getElem?_eq_some_iff.1 hb).1
      simp only [List.getElem?_toArray]
      rw [List.getElem?_append_left this]; exact hb
    · rename_i e
      have := hin b x u hb
      simpa [World.cell?, hoth b e] using this
  · rw [hpd]; exact is_rows hZ.symm hno
  · rw [hpd]
    refine .slc _ _ _ _ (fun _ => rfl) (by rw [hnl]; exact hcap) hr' (fun i j r x h1 h2 => ?_) (fun r hr x hx => (hf r (hno r hr)).2 x hx _)
    simp only [HV.row, if_true, Nat.zero_add]
    exact flat_get hr' i j r x h1 h2
  · rw [hpd]
    intro e
    have e : rows' = [] := e
    rw [e] at hnl
    exact hne (List.length_eq_zero_iff.1 hnl.symm)
  · rw [hrb, hpd]; exact ⟨c, rfl⟩
  · rw [hrb]; exact h.low
  · rw [hrb]; exact ⟨_, _, hnew⟩
  · intro H0 hle hno0 b x u hb
    unfold HV.row
    split
    · rename_i e; subst e; rw [hno0] at hb; cases hb
    · exact hle b x u hb
  · intro b x u hb
    unfold HV.row at hb
    split at hb
    · rename_i e; exact .inr e
    · exact .inl hb
end
end Sx
end
section
open Go Go.Proofs Go.Shelf Sx
namespace Sx
def rdU64 : Rd1 Int where
  read x := match x with | .int .u64 n => some n | _ => none
  canon n := .int .u64 n
  right H E x b h hok := by
    split at h
    · cases h; exact ⟨rfl, trivial⟩
    · cases h
def spMul (x : Int × Int) : SpecR := .data [(0 ≤ x.1 ∧ x.1 < 18446744073709551616) ∧ 0 ≤ x.2 ∧ x.2 < 18446744073709551616] fun _ => .tup [.int .u64 (x.1 * x.2 / 18446744073709551616), .int .u64 (x.1 * x.2 % 18446744073709551616)]
end Sx
namespace Go.Proofs.YtllmgnhjljmihaaGreat
set_option maxRecDepth 100000
def renMul : Ren := ⟨fun | 212 => 96 | 263 => 106 | 264 => 107 | n => n, fun | 46 => 138 | 51 => 146 | 53 => 149 | 146 => 147 | 148 => 150 | n => n, fun n => n⟩
theorem laysMul : Lays.n212 Tryz.prog renMul where
  mixed := by kernel_rfl
  f212 := by kernel_rfl
  f263 := by kernel_rfl
  f264 := by kernel_rfl
  t46 := by kernel_rfl
  a46 := fun w => by kernel_rfl
  z46 := fun w => by kernel_rfl
  v46 := fun w => by kernel_rfl
  t51 := by kernel_rfl
  a51 := fun w => by kernel_rfl
  z51 := fun w => by kernel_rfl
  v51 := fun w => by kernel_rfl
  t53 := by kernel_rfl
  a53 := fun w => by kernel_rfl
  z53 := fun w => by kernel_rfl
  v53 := fun w => by kernel_rfl
  t146 := by kernel_rfl
  a146 := fun w => by kernel_rfl
  z146 := fun w => by kernel_rfl
  v146 := fun w => by kernel_rfl
  t148 := by kernel_rfl
  a148 := fun w => by kernel_rfl
  z148 := fun w => by kernel_rfl
  v148 := fun w => by kernel_rfl
theorem lawMul : Law Tryz.prog 96 ((rdU64.two rdU64).sp spMul) := by
  refine ⟨by kernel_rfl, fun H E args hargs => ?_⟩
  unfold Rd.sp
  cases hr : (rdU64.two rdU64).read args with
  | none => trivial
  | some b =>
    obtain ⟨x, y⟩ := b
    simp only
    obtain ⟨h1, h2⟩ := (rdU64.two rdU64).right H E args (x, y) hr hargs
    rw [h1]
    intro hp w hin
    obtain ⟨⟨a1, a2⟩, a3, a4⟩ := hp _ (List.mem_singleton.2 rfl)
    simp only at a1 a2 a3 a4
    obtain ⟨X, rfl⟩ := Int.eq_ofNat_of_zero_le a1
    obtain ⟨Y, rfl⟩ := Int.eq_ofNat_of_zero_le a3
    refine (Any.bits_Mul laysMul X Y (by omega) (by omega) w).mono fun e w' ⟨he, hw⟩ => ?_
    subst hw
    refine ⟨_, H, he, after_good (good_start hin ⟨fun _ => 0, fun _ => (none, 0), fun _ => Go.undef⟩), fun _ => .slc none 0 [], ?_, ⟨trivial, trivial, trivial⟩⟩
    simp only [SV.den, SV.denL]
    rfl
end Go.Proofs.YtllmgnhjljmihaaGreat
end
section
open Go Go.Proofs Sx
namespace Go.Proofs.YtllmgnhjljmihaaGreat
set_option maxRecDepth 100000
set_option maxHeartbeats 0
noncomputable def ctMu : Ctrs := [(96, ctrOf ((rdU64.two rdU64).sp spMul))]
theorem csz_in : goM Tryz.prog ctMu [] [(61, MidK.copy)] 600 (entry Tryz.prog 26 []) =
 Tree.all fun hs =>
 .br false Tree.stuck
 (.need
 ((0 ≤ IntKind.wrap .u64 (↑(D.len (D.slc (D.hd (hs 0 0)) 1 [[D.int .i64 4096]])) : Int) ∧
 IntKind.wrap .u64 (↑(D.len (D.slc (D.hd (hs 0 0)) 1 [[D.int .i64 4096]])) : Int) <
 18446744073709551616) ∧
 0 ≤ IntKind.wrap .u64 8 ∧ IntKind.wrap .u64 8 < 18446744073709551616)
 (.all fun hs_1 =>
 .br
 (decide
 (Int.ediv
 (IntKind.wrap .u64 (↑(D.len (D.slc (D.hd (hs 0 0)) 1 [[D.int .i64 4096]])) : Int) *
 IntKind.wrap .u64 8)
 18446744073709551616 >
 0))
 Tree.stuck
 (.br
 (decide
 (Int.emod
 (IntKind.wrap .u64 (↑(D.len (D.slc (D.hd (hs 0 0)) 1 [[D.int .i64 4096]])) : Int) *
 IntKind.wrap .u64 8)
 18446744073709551616 >
 9223372036854775807))
 Tree.stuck
 (.need
 (0 ≤
 IntKind.wrap .i64
 (Int.emod
 (IntKind.wrap .u64 (↑(D.len (D.slc (D.hd (hs 0 0)) 1 [[D.int .i64 4096]])) : Int) *
 IntKind.wrap .u64 8)
 18446744073709551616) ∧
 IntKind.wrap .i64
 (Int.emod
 (IntKind.wrap .u64
 (↑(D.len (D.slc (D.hd (hs 0 0)) 1 [[D.int .i64 4096]])) : Int) *
 IntKind.wrap .u64 8)
 18446744073709551616) =
 IntKind.wrap .i64
 (Int.emod
 (IntKind.wrap .u64
 (↑(D.len (D.slc (D.hd (hs 0 0)) 1 [[D.int .i64 4096]])) : Int) *
 IntKind.wrap .u64 8)
 18446744073709551616) ∧
 (↑8 : Int) *
 IntKind.wrap .i64
 (Int.emod
 (IntKind.wrap .u64
 (↑(D.len (D.slc (D.hd (hs 0 0)) 1 [[D.int .i64 4096]])) : Int) *
 IntKind.wrap .u64 8)
 18446744073709551616) ≤
 281474976710656 ∧
 IntKind.wrap .i64
 (Int.emod
 (IntKind.wrap .u64
 (↑(D.len (D.slc (D.hd (hs 0 0)) 1 [[D.int .i64 4096]])) : Int) *
 IntKind.wrap .u64 8)
 18446744073709551616) ≤
 9223372036854775807)
 (.all fun hs_2 =>
 .leaf
 (Conf.mk
 (SFrm.mk 61 (some (opsAt Tryz.prog 61 [1, 1, 1, 1, 1, 0], [2, 3])) none
 [Item.code (cAt Tryz.prog 61 [1, 1, 1, 1, 1, 1])]
 (mkU
 [(0, .vec 1001), (1, .int .i64 8), (4, .nils),
 (5,
 .int .u64
 (Int.ediv
 (IntKind.wrap .u64
 (↑(D.len (D.slc (D.hd (hs 0 0)) 1 [[D.int .i64 4096]])) : Int) *
 IntKind.wrap .u64 8)
 18446744073709551616)),
 (6,
 .int .u64
 (Int.emod
 (IntKind.wrap .u64
 (↑(D.len (D.slc (D.hd (hs 0 0)) 1 [[D.int .i64 4096]])) : Int) *
 IntKind.wrap .u64 8)
 18446744073709551616)),
 (7, .vec 2030), (9, .int .i64 8), (10, .bool false),
 (12,
 SV.tup
 [.int .u64
 (Int.ediv
 (IntKind.wrap .u64
 (↑(D.len (D.slc (D.hd (hs 0 0)) 1 [[D.int .i64 4096]])) : Int) *
 IntKind.wrap .u64 8)
 18446744073709551616),
 .int .u64
 (Int.emod
 (IntKind.wrap .u64
 (↑(D.len (D.slc (D.hd (hs 0 0)) 1 [[D.int .i64 4096]])) : Int) *
 IntKind.wrap .u64 8)
 18446744073709551616)]),
 (13, .vec 1001),
 (14,
 .int .i64 (↑(D.len (D.slc (D.hd (hs 0 0)) 1 [[D.int .i64 4096]])) : Int)),
 (15,
 .int .u64
 (IntKind.wrap .u64
 (↑(D.len (D.slc (D.hd (hs 0 0)) 1 [[D.int .i64 4096]])) : Int))),
 (16, .int .i64 8), (17, .int .u64 (IntKind.wrap .u64 8)),
 (18,
 SV.tup
 [.int .u64
 (Int.ediv
 (IntKind.wrap .u64
 (↑(D.len (D.slc (D.hd (hs 0 0)) 1 [[D.int .i64 4096]])) : Int) *
 IntKind.wrap .u64 8)
 18446744073709551616),
 .int .u64
 (Int.emod
 (IntKind.wrap .u64
 (↑(D.len (D.slc (D.hd (hs 0 0)) 1 [[D.int .i64 4096]])) : Int) *
 IntKind.wrap .u64 8)
 18446744073709551616)]),
 (19,
 .int .u64
 (Int.ediv
 (IntKind.wrap .u64
 (↑(D.len (D.slc (D.hd (hs 0 0)) 1 [[D.int .i64 4096]])) : Int) *
 IntKind.wrap .u64 8)
 18446744073709551616)),
 (20,
 .int .u64
 (Int.emod
 (IntKind.wrap .u64
 (↑(D.len (D.slc (D.hd (hs 0 0)) 1 [[D.int .i64 4096]])) : Int) *
 IntKind.wrap .u64 8)
 18446744073709551616)),
 (21,
 .int .u64
 (Int.ediv
 (IntKind.wrap .u64
 (↑(D.len (D.slc (D.hd (hs 0 0)) 1 [[D.int .i64 4096]])) : Int) *
 IntKind.wrap .u64 8)
 18446744073709551616)),
 (22,
 .bool
 (decide
 (Int.ediv
 (IntKind.wrap .u64
 (↑(D.len (D.slc (D.hd (hs 0 0)) 1 [[D.int .i64 4096]])) : Int) *
 IntKind.wrap .u64 8)
 18446744073709551616 >
 0))),
 (23, .lb false),
 (24,
 .int .u64
 (Int.emod
 (IntKind.wrap .u64
 (↑(D.len (D.slc (D.hd (hs 0 0)) 1 [[D.int .i64 4096]])) : Int) *
 IntKind.wrap .u64 8)
 18446744073709551616)),
 (25,
 .bool
 (decide
 (Int.emod
 (IntKind.wrap .u64
 (↑(D.len (D.slc (D.hd (hs 0 0)) 1 [[D.int .i64 4096]])) : Int) *
 IntKind.wrap .u64 8)
 18446744073709551616 >
 9223372036854775807))),
 (26,
 .bool
 (decide
 (Int.emod
 (IntKind.wrap .u64
 (↑(D.len (D.slc (D.hd (hs 0 0)) 1 [[D.int .i64 4096]])) : Int) *
 IntKind.wrap .u64 8)
 18446744073709551616 >
 9223372036854775807))),
 (28,
 .int .u64
 (Int.emod
 (IntKind.wrap .u64
 (↑(D.len (D.slc (D.hd (hs 0 0)) 1 [[D.int .i64 4096]])) : Int) *
 IntKind.wrap .u64 8)
 18446744073709551616)),
 (29,
 .int .i64
 (IntKind.wrap .i64
 (Int.emod
 (IntKind.wrap .u64
 (↑(D.len (D.slc (D.hd (hs 0 0)) 1 [[D.int .i64 4096]])) : Int) *
 IntKind.wrap .u64 8)
 18446744073709551616))),
 (30, .vec 2030), (31, .vec 2030), (32, .vec 1001)]
 0 48))
 [SFrm.mk 26 (some (opsAt Tryz.prog 26 [1, 0], [2])) (some 2) [Item.code (cAt Tryz.prog 26 [1, 1])]
 (mkU [(0, .nils), (1, .vec 1001)] 0 3)]
 [(2030,
 OBlk.arr 3
 (D.slc (D.hd (hs_2 0 0)) 1
 (List.replicate
 (Int.toNat
 (IntKind.wrap .i64
 (Int.emod
 (IntKind.wrap .u64
 (↑(D.len (D.slc (D.hd (hs 0 0)) 1 [[D.int .i64 4096]])) : Int) *
 IntKind.wrap .u64 8)
 18446744073709551616)))
 [D.int .i64 0]))),
 (1001, OBlk.arr 3 (D.slc (D.hd (hs 0 0)) 1 [[D.int .i64 4096]]))])))))) := by kernel_rfl

end Go.Proofs.YtllmgnhjljmihaaGreat
end
section
open Go Go.Proofs Sx
namespace Go.Proofs.YtllmgnhjljmihaaGreat
set_option maxRecDepth 100000
set_option maxHeartbeats 0
noncomputable def rpA (d : D) : Conf := Conf.mk (SFrm.mk 61 (some (opsAt Tryz.prog 61 [1, 1, 1, 1, 1, 0], [3])) none [Item.code (cAt Tryz.prog 61 [1, 1, 1, 1, 1, 1])] (mkJ 0 [(7, .dat d), (33, .int .i64 1)] 0 48)) [] []
section
variable (d : D) (n : Int)
theorem rpa_go : goM Tryz.prog [] [] [(61, MidK.copy)] 100 (rpA d) =
 Tree.leaf
 (Conf.mk
 (SFrm.mk 61 none none
 [Item.inLoop (cAt Tryz.prog 61 [1, 1, 1, 1, 1, 1, 0, 0, 0]), Item.inBlock 0,
 Item.code (cAt Tryz.prog 61 [1, 1, 1, 1, 1, 1, 1])]
 (mkJ 0 [(7, .dat d), (8, .int .i64 1)] 0 48))
 [] []) := by kernel_rfl

end
end Go.Proofs.YtllmgnhjljmihaaGreat
end
section
namespace Sx
open Go RowKit
section
variable {P : Program} {ops : Array Oper} {Q : Exit → Act → World → Prop}
structure FInv (dst : Nat → Nat) (vals : Nat → Value) (base : Array Value) (l : List Nat) (T : Array Value) : Prop where
  size : T.size = base.size
  done : ∀ i, i ∈ l → T[dst i]? = some (vals i)
  old : ∀ s, (∀ i, i ∈ l → dst i ≠ s) → T[s]? = base[s]?
theorem FInv.step {dst : Nat → Nat} {vals : Nat → Value} {base : Array Value} {l : List Nat} {T : Array Value} (h : FInv dst vals base l T) {i : Nat} (hd : dst i < base.size) (hne : ∀ j, j ∈ l → dst j ≠ dst i) : FInv dst vals base (l ++ [i]) (T.setIfInBounds (dst i) (vals i)) := by
  refine ⟨by simpa using h.size, fun j hj => ?_, fun s hs => ?_⟩
  · rcases List.mem_append.1 hj with hj | hj
    · rw [Array.getElem?_setIfInBounds_ne (Ne.symm (hne j hj))]; exact h.done j hj
    · rw [List.mem_singleton.1 hj, Array.getElem?_setIfInBounds_self_of_lt (by rw [h.size]; exact hd)]
  · rw [Array.getElem?_setIfInBounds_ne (hs i (by simp))]
    exact h.old s fun j hj => hs j (by simp [hj])
theorem flow_len : ∀ {N : Nat} {l : List Nat}, l.Nodup → (∀ i, i ∈ l → i < N) → l.length ≤ N
  | 0, l, _, h => by
    cases l with
    | nil => simp
    | cons x r => have := h x List.mem_cons_self; omega
  | N + 1, l, hn, h => by
    have h1 := flow_len (N := N) (l := l.erase N) (hn.erase N) fun x hx => by
      have h2 := h x (List.mem_of_mem_erase hx)
      have h3 : x ≠ N := fun e => by subst e; exact (List.Nodup.not_mem_erase hn) hx
      omega
    have h2 : l.length ≤ (l.erase N).length + 1 := by
      by_cases hm : N ∈ l
      · rw [List.length_erase_of_mem hm]; omega
      · rw [List.erase_of_not_mem hm]; omega
    omega
theorem wpAny_flow {dst : Nat → Nat} {vals : Nat → Value} {base : Array Value} {w0 w1 : World} {c : Nat}
    (hlt : ∀ i, i < ops.size → ∀ j, j ∈ predsOf ops i → j < i)
    (hdst : ∀ (i : Nat) (o : Oper), ops[i]? = some o → o.dst = some (dst i) ∧ o.guard = none ∧ dst i < base.size)
    (hinj : ∀ i j, i < ops.size → j < ops.size → dst i = dst j → i = j) (hc : c < ops.size)
    (hex : ∀ (i : Nat) (o : Oper), ops[i]? = some o → ∀ (l : List Nat) (T : Array Value), Begun ops l → i ∉ l → (∀ j, j ∈ predsOf ops i → j ∈ l) → FInv dst vals base l T →
      if i = c then (execOp (Act.eval ⟨T, []⟩) o).run P w0 = .ok (.value (vals i)) w1 else ∀ w, (execOp (Act.eval ⟨T, []⟩) o).run P w = .ok (.value (vals i)) w)
    (hQ : ∀ T l, (∀ i, i < ops.size → i ∈ l) → FInv dst vals base l T → Q .normal ⟨T, []⟩ w1) :
    ∀ (fuel : Nat) (l : List Nat) (listed : Array Bool) (T : Array Value), l.length + fuel = ops.size → Begun ops l → l.Nodup → (∀ j, j ∈ l → j < ops.size) → listed.size = ops.size → (∀ j, j < ops.size → listed[j]? = some (l.contains j)) →
      FInv dst vals base l T → wpAny P .any ops Q fuel listed ⟨T, []⟩ (if c ∈ l then w1 else w0) := by
  have all : ∀ l : List Nat, l.Nodup → (∀ j, j ∈ l → j < ops.size) → l.length = ops.size → ∀ i, i < ops.size → i ∈ l := by
    intro l hn hl he i hi
    by_cases h : i ∈ l
    · exact h
    · have := flow_len (N := ops.size) (l := i :: l) (List.nodup_cons.2 ⟨h, hn⟩) (fun j hj => by
        rcases List.mem_cons.1 hj with hj | hj
        · rw [hj]; exact hi
        · exact hl j hj)
      simp only [List.length_cons] at this; omega
  intro fuel
  induction fuel with
  | zero =>
    intro l listed T hlen hb hn hl hsz hls hI
    have ha := all l hn hl (by omega)
    refine ⟨?_, ?_⟩
    · rw [List.eq_nil_iff_forall_not_mem]
      intro i hi
      obtain ⟨h1, h2, _⟩ := (ready_iff hsz hls hlt).1 hi
      exact h2 (ha i h1)
    · rw [if_pos (ha c hc)]; exact hQ T l ha hI
  | succ fuel ih =>
    intro l listed T hlen hb hn hl hsz hls hI
    refine ⟨fun hnil => ?_, fun i hi => ?_⟩
    · exfalso
      have hex : ∃ m, m < ops.size ∧ m ∉ l := by
        by_cases h : ∃ m, m < ops.size ∧ m ∉ l
        · exact h
        · have h' : ∀ i, i < ops.size → i ∈ l := fun i hi => by
            by_cases hm : i ∈ l
            · exact hm
            · exact absurd ⟨i, hi, hm⟩ h
          have := len_ge ops.size l h'
          omega
      obtain ⟨m, hm1, hm2⟩ := hex
      have key : ∀ m, m < ops.size → m ∉ l → False := by
        intro m
        induction m using Nat.strongRecOn with
        | _ m ihm =>
          intro h1 h2
          have : m ∈ Region.ready .any ops listed := (ready_iff hsz hls hlt).2 ⟨h1, h2, fun j hj => by
            by_cases hjl : j ∈ l
            · exact hjl
            · exact (ihm j (hlt m h1 j hj) (by have := hlt m h1 j hj; omega) hjl).elim⟩
          rw [hnil] at this; cases this
      exact key m hm1 hm2
    · obtain ⟨h1, h2, h3⟩ := (ready_iff hsz hls hlt).1 hi
      have ho : ops[i]? = some ops[i] := by simp [h1]
      obtain ⟨d1, d2, d3⟩ := hdst i _ ho
      obtain ⟨s1, s2⟩ := listed_step hsz hls h1
      have hst := hI.step (i := i) d3 (fun j hj e => h2 (by rw [← hinj j i (hl j hj) h1 e]; exact hj))
      have hnext := ih (l ++ [i]) _ _ (by simp; omega) (.snoc hb h2 h1 h3) (by
        rw [List.nodup_append]
        exact ⟨hn, by simp, fun a ha b hb e => by rw [List.mem_singleton] at hb; subst hb; subst e; exact h2 ha⟩) (fun j hj => by
        rcases List.mem_append.1 hj with hj | hj
        · exact hl j hj
        · rw [List.mem_singleton.1 hj]; exact h1) s1 s2 hst
      unfold wpOp
      rw [ho]
      simp only [wanted_none d2, if_true]
      left
      unfold Oper.wp
      have hx := hex i _ ho l T hb h2 h3 hI
      by_cases hic : i = c
      · rw [if_pos hic] at hx
        rw [if_neg (by rw [← hic]; exact h2), hx]
        rw [if_pos (by simp [hic])] at hnext
        simp only [Oper.upon, d1, Act.put]
        exact hnext
      · rw [if_neg hic] at hx
        rw [hx]
        have e : (c ∈ l ++ [i]) = (c ∈ l) := by
          rw [List.mem_append, List.mem_singleton]
          exact propext ⟨fun h => h.resolve_right (Ne.symm hic), .inl⟩
        simp only [e] at hnext
        simp only [Oper.upon, d1, Act.put]
        exact hnext
theorem at_flow {f : FuncId} {aw : Option Tmp} {id : Nat} {k : List Item} {tmps : List SV} {H : HV} {w : World} {R : Value → World → Prop} {dst : Nat → Nat} {c : Nat} {w1 : World}
    (hm : P.follows .mixedOrders = true) (hcalm : calmOps ops = true) (hlt : ∀ i, i < ops.size → ∀ j, j ∈ predsOf ops i → j < i)
    (hdst : ∀ (i : Nat) (o : Oper), ops[i]? = some o → o.dst = some (dst i) ∧ o.guard = none ∧ dst i < tmps.length)
    (hinj : ∀ i j, i < ops.size → j < ops.size → dst i = dst j → i = j) (hc : c < ops.size)
    (h : ∀ E : Env, ∃ vals : Nat → Value, (∀ (i : Nat) (o : Oper), ops[i]? = some o → ∀ (l : List Nat) (T : Array Value), Begun ops l → i ∉ l → (∀ j, j ∈ predsOf ops i → j ∈ l) → FInv dst vals (SV.denL E tmps).toArray l T →
      if i = c then (execOp (Act.eval ⟨T, []⟩) o).run P w.drew = .ok (.value (vals i)) w1 else ∀ w, (execOp (Act.eval ⟨T, []⟩) o).run P w = .ok (.value (vals i)) w) ∧
      ∀ T l, (∀ i, i < ops.size → i ∈ l) → FInv dst vals (SV.denL E tmps).toArray l T → StkRun P ctxPlain ⟨f, none, aw, k, ⟨T, []⟩, none⟩ [] w1 R) :
    At P ⟨⟨f, none, aw, .code (.region id ops true) :: k, tmps⟩, [], []⟩ H w R := by
  intro E ok hin
  obtain ⟨vals, h1, h2⟩ := h E
  show Go1 P none f (.code (.region id ops true) :: k) ⟨(SV.denL E tmps).toArray, []⟩ w R
  refine Go1.draw hm hcalm ?_
  have := wpAny_flow (P := P) (ops := ops) (Q := Qk P none f k R) (w0 := w.drew) (w1 := w1) hlt (fun i o ho => by
    obtain ⟨a, b, d⟩ := hdst i o ho
    exact ⟨a, b, by simpa [SV.denL_eq] using d⟩) hinj hc h1 (fun T l ha hI => ⟨rfl, h2 T l ha hI⟩) ops.size [] (Array.replicate ops.size false) _ (by simp) .nil (by simp) (by simp) (by simp) (fun j hj => by simp [hj]) ⟨rfl, by simp, fun _ _ => rfl⟩
  simpa using this
end
end Sx
namespace Sx
open Go RowKit
section
variable {P : Program} {ops : Array Oper}
theorem run_sub (w : World) {t e : TypeId} {s : Nat} (ht : P.underlying t = some (.slice e)) (hs : (P.info? e).map (·.size) = some s) {d : D} {a : Addr} {c : Nat} (hds : d.IsSlc) (hd : d.hd = some (a, c)) (hc : d.len ≤ c) {lo hi : Option SV} {E : Env} {l h' : Int}
    (hl : boundR lo 0 = some l) (hh : boundR hi d.len = some h') (p0 : 0 ≤ l) (p1 : l ≤ h') (p2 : h' ≤ d.len) (hsz : d.sz = s) :
    (Instr.sliceAt t d.val (lo.map (SV.den E)) (hi.map (SV.den E)) none).run P w = .ok (d.sub l.toNat h'.toNat).val w := by
  have hlr : ((d.rows.drop l.toNat).take (h'.toNat - l.toNat)).length = h'.toNat - l.toNat := by
    simp only [D.len] at p2; rw [List.length_take, List.length_drop]; omega
  have hv : d.val = hval d.hd d.len := by
    obtain ⟨x, y, z, rfl⟩ := hds; rfl
  rw [hv, hd]
  have hb := run_bounds (P := P) w d.len c lo _ E l h' hl hh p0 p1 p2 hc
  simp only [hval, Instr.sliceAt, Instr.slice, Sem.run_bind, run_underlying ht, Result.andThen_ok, Option.map_none, hb, run_sizeOf hs]
  simp only [D.sub, D.val, hd, Option.map_some, hval, hlr, hsz, Sem.run_pure]
  split <;> rfl
def opK (ops : Array Oper) (i : Nat) : Option (Op × Tmp) :=
  match ops[i]? with
  | some ⟨some d, op, _, _, _, none⟩ => some (op, d)
  | _ => none
theorem opK_spec {i : Nat} {op : Op} {d : Tmp} (h : opK ops i = some (op, d)) {o : Oper} (ho : ops[i]? = some o) : o.dst = some d ∧ o.guard = none ∧ o.op = op := by
  unfold opK at h
  rw [ho] at h
  split at h
  · rename_i heq
    cases heq
    cases h
    exact ⟨rfl, rfl, rfl⟩
  · cases h
theorem run_moveO {o : Oper} {x : Operand} (ho : o.op = .move x) (ev : Operand → Value) (w : World) : (execOp ev o).run P w = .ok (.value (ev x)) w := by
  obtain ⟨a, b, c, d, e, f⟩ := o
  simp only at ho; subst ho
  simp [execOp]
theorem run_assignO {o : Oper} {x : Operand} (ho : o.op = .assign x) (ev : Operand → Value) (w : World) : (execOp ev o).run P w = .ok (.value (ev x)) w := by
  obtain ⟨a, b, c, d, e, f⟩ := o
  simp only at ho; subst ho
  simp [execOp]
theorem run_sliceO {o : Oper} {t : TypeId} {x : Operand} {lo hi mx : Option Operand} (ho : o.op = .slice t x lo hi mx) (ev : Operand → Value) (w : World) {v : Value} (h : (Instr.sliceAt t (ev x) (lo.map ev) (hi.map ev) (mx.map ev)).run P w = .ok v w) : (execOp ev o).run P w = .ok (.value v) w := by
  obtain ⟨a, b, c, d, e, f⟩ := o
  simp only at ho; subst ho
  simp only [execOp, Sem.run_bind, h, Result.andThen_ok, Sem.run_pure]
theorem eval_tmp {T : Array Value} {s : Nat} {v : Value} (h : T[s]? = some v) : Act.eval ⟨T, []⟩ (.tmp s) = v := by
  simp [Act.eval, h]
end
end Sx
end
section
open Go Go.Proofs Sx
namespace Go.Proofs.YtllmgnhjljmihaaGreat
set_option maxRecDepth 100000
set_option maxHeartbeats 0
noncomputable def rpL (d : D) (n : Int) : Conf := Conf.mk (SFrm.mk 61 none none [Item.inLoop (cAt Tryz.prog 61 [1, 1, 1, 1, 1, 1, 0, 0, 0]), Item.inBlock 0, Item.code (cAt Tryz.prog 61 [1, 1, 1, 1, 1, 1, 1])] (mkJ 0 [(7, .dat d), (8, .int .i64 n)] 0 48)) [] []
noncomputable def rpC (d : D) (n : Int) : Conf := Conf.mk (SFrm.mk 61 none none [Item.inBlock 1, Item.inLoop (cAt Tryz.prog 61 [1, 1, 1, 1, 1, 1, 0, 0, 0]), Item.inBlock 0, Item.code (cAt Tryz.prog 61 [1, 1, 1, 1, 1, 1, 1])] (mkJ 0 [(7, .dat d), (8, .int .i64 n)] 0 48)) [] []
noncomputable def szB (d : D) : Conf := Conf.mk (SFrm.mk 26 (some (opsAt Tryz.prog 26 [1, 0], [2])) none [Item.code (cAt Tryz.prog 26 [1, 1])] (mkJ 0 [(2, .dat d)] 0 3)) [] []
section
variable (d : D) (n : Int)
theorem rpl_go : goS Tryz.prog [] (fun _ => false) [(61, 38)] 100 (unroll (rpL d n)) =
 Tree.br (decide (n < (↑(D.len d) : Int)))
 (.leaf
 (Conf.mk
 (SFrm.mk 61 none none
 [Item.code (cAt Tryz.prog 61 [1, 1, 1, 1, 1, 1, 0, 0, 0, 1, 0]), Item.inBlock 1,
 Item.inLoop (cAt Tryz.prog 61 [1, 1, 1, 1, 1, 1, 0, 0, 0]), Item.inBlock 0,
 Item.code (cAt Tryz.prog 61 [1, 1, 1, 1, 1, 1, 1])]
 (mkJ 0 [(7, .dat d), (8, .int .i64 n)] 0 48))
 [] []))
 (.ret (.dat d)) := by kernel_rfl

theorem szb_go : exec Tryz.prog [] 100 (szB d) =
 Tree.ret (.dat d) := by kernel_rfl

theorem rpc_go : exec Tryz.prog [] 100 (rpC d n) =
 Tree.leaf
 (Conf.mk
 (SFrm.mk 61 none none
 [Item.inLoop (cAt Tryz.prog 61 [1, 1, 1, 1, 1, 1, 0, 0, 0]), Item.inBlock 0,
 Item.code (cAt Tryz.prog 61 [1, 1, 1, 1, 1, 1, 1])]
 (mkJ 0 [(7, .dat d), (8, .int .i64 n)] 0 48))
 [] []) := by kernel_rfl

end
end Go.Proofs.YtllmgnhjljmihaaGreat
end
section
open Go Go.Proofs Sx
namespace Go.Proofs.YtllmgnhjljmihaaGreat
set_option maxRecDepth 100000
set_option maxHeartbeats 0
noncomputable def rpO : Array Oper := opsAt Tryz.prog 61 [1, 1, 1, 1, 1, 1, 0, 0, 0, 1, 0]
noncomputable def rpId : Nat := match cAt Tryz.prog 61 [1, 1, 1, 1, 1, 1, 0, 0, 0, 1, 0] with | .region id _ _ => id | _ => 0
theorem rp_reg : cAt Tryz.prog 61 [1, 1, 1, 1, 1, 1, 0, 0, 0, 1, 0] = .region rpId rpO true := by kernel_rfl
theorem rp_size : rpO.size = 10 := by kernel_rfl
theorem rp_k0 : opK rpO 0 = some (.move (.tmp 8), 38) := by kernel_rfl
theorem rp_k1 : opK rpO 1 = some (.move (.tmp 7), 39) := by kernel_rfl
theorem rp_k2 : opK rpO 2 = some (.move (.tmp 8), 40) := by kernel_rfl
theorem rp_k3 : opK rpO 3 = some (.slice 24 (.tmp 39) (some (.tmp 40)) none none, 41) := by kernel_rfl
theorem rp_k4 : opK rpO 4 = some (.move (.tmp 7), 42) := by kernel_rfl
theorem rp_k5 : opK rpO 5 = some (.move (.tmp 8), 43) := by kernel_rfl
theorem rp_k6 : opK rpO 6 = some (.slice 24 (.tmp 42) none (some (.tmp 43)) none, 44) := by kernel_rfl
theorem rp_k7 : opK rpO 7 = some (.call ⟨.builtin .copy, #[.tmp 41, .tmp 44], #[24, 24]⟩, 45) := by kernel_rfl
theorem rp_k8 : opK rpO 8 = some (.binOp .add 3 (.tmp 38) (.tmp 45) 3, 46) := by kernel_rfl
theorem rp_k9 : opK rpO 9 = some (.assign (.tmp 46), 8) := by kernel_rfl
theorem rp_p3 : predsOf rpO 3 = [1, 2] := by kernel_rfl
theorem rp_p6 : predsOf rpO 6 = [4, 5] := by kernel_rfl
theorem rp_p7 : predsOf rpO 7 = [3, 6] := by kernel_rfl
theorem rp_p8 : predsOf rpO 8 = [0, 7] := by kernel_rfl
theorem rp_p9 : predsOf rpO 9 = [8, 7, 0, 1, 2, 3, 4, 5, 6, 7, 8] := by kernel_rfl
theorem rp_lt : ∀ i, i < rpO.size → ∀ j, j ∈ predsOf rpO i → j < i := by
  have h : ((List.range 10).all fun i => (predsOf rpO i).all fun j => decide (j < i)) = true := by kernel_rfl
  intro i hi j hj
  rw [rp_size] at hi
  have := List.all_eq_true.1 h i (List.mem_range.2 hi)
  exact of_decide_eq_true (List.all_eq_true.1 this j hj)
def rpDst (i : Nat) : Nat := match i with | 0 => 38 | 1 => 39 | 2 => 40 | 3 => 41 | 4 => 42 | 5 => 43 | 6 => 44 | 7 => 45 | 8 => 46 | _ => 8
theorem rp_ten {i : Nat} (h : i < 10) : i = 0 ∨ i = 1 ∨ i = 2 ∨ i = 3 ∨ i = 4 ∨ i = 5 ∨ i = 6 ∨ i = 7 ∨ i = 8 ∨ i = 9 := by omega
theorem rp_dst (n : Nat) (hn : n = 48) : ∀ (i : Nat) (o : Oper), rpO[i]? = some o → o.dst = some (rpDst i) ∧ o.guard = none ∧ rpDst i < n := by
  intro i o ho
  have hi : i < 10 := by rw [← rp_size]; exact (Array.getElem?_eq_some_iff.1 ho).1
  subst hn
  rcases rp_ten hi with rfl | rfl | rfl | rfl | rfl | rfl | rfl | rfl | rfl | rfl
  · exact ⟨(opK_spec rp_k0 ho).1, (opK_spec rp_k0 ho).2.1, by decide⟩
  · exact ⟨(opK_spec rp_k1 ho).1, (opK_spec rp_k1 ho).2.1, by decide⟩
  · exact ⟨(opK_spec rp_k2 ho).1, (opK_spec rp_k2 ho).2.1, by decide⟩
  · exact ⟨(opK_spec rp_k3 ho).1, (opK_spec rp_k3 ho).2.1, by decide⟩
  · exact ⟨(opK_spec rp_k4 ho).1, (opK_spec rp_k4 ho).2.1, by decide⟩
  · exact ⟨(opK_spec rp_k5 ho).1, (opK_spec rp_k5 ho).2.1, by decide⟩
  · exact ⟨(opK_spec rp_k6 ho).1, (opK_spec rp_k6 ho).2.1, by decide⟩
  · exact ⟨(opK_spec rp_k7 ho).1, (opK_spec rp_k7 ho).2.1, by decide⟩
  · exact ⟨(opK_spec rp_k8 ho).1, (opK_spec rp_k8 ho).2.1, by decide⟩
  · exact ⟨(opK_spec rp_k9 ho).1, (opK_spec rp_k9 ho).2.1, by decide⟩
theorem rp_inj : ∀ i j, i < rpO.size → j < rpO.size → rpDst i = rpDst j → i = j := by
  have h : ((List.range 10).all fun i => (List.range 10).all fun j => (rpDst i != rpDst j) || i == j) = true := by decide
  intro i j hi hj e
  rw [rp_size] at hi hj
  have h1 := List.all_eq_true.1 h i (List.mem_range.2 hi)
  have h2 := List.all_eq_true.1 h1 j (List.mem_range.2 hj)
  simpa [e] using h2
theorem int_ty : Tryz.prog.underlying 24 = some (.slice 3) := by kernel_rfl
theorem int_sz : (Tryz.prog.info? 3).map (·.size) = some 1 := by kernel_rfl
theorem rp_mixed : Tryz.prog.follows .mixedOrders = true := by kernel_rfl
theorem rp_calm : calmOps rpO = true := by kernel_rfl
theorem int_add (a b : Int) (w : World) (x y : Operand) : (do eqGuard .add 3 x y (.int .i64 a) (.int .i64 b); binOp .add 3 (.int .i64 a) (.int .i64 b) : Sem Value).run Tryz.prog w = .ok (.int .i64 (IntKind.i64.wrap (a + b))) w := by
  have hn : InMem (fun _ _ => none) w := fun b o v (h : none = some v) => by cases h
  have g := good_start hn (Env.mk (fun _ => 0) (fun _ => (none, 0)) fun _ => Go.undef)
  have := (binR_spec (P := Tryz.prog) g (op := .add) (t := 3) (a := .int .i64 a) (b := .int .i64 b) (by simp [SV.Ok]) (ps := []) (v := .int .i64 (IntKind.i64.wrap (a + b))) (by kernel_rfl) (by simp) x y).1
  exact this
theorem run_addO {o : Oper} {x y : Operand} {z : TypeId} (ho : o.op = .binOp .add 3 x y z) (ev : Operand → Value) (w : World) {a b : Int} (hx : ev x = .int .i64 a) (hy : ev y = .int .i64 b) : (execOp ev o).run Tryz.prog w = .ok (.value (.int .i64 (IntKind.i64.wrap (a + b)))) w := by
  obtain ⟨p, q, c, d, e, f⟩ := o
  simp only at ho; subst ho
  have := int_add a b w x y
  simp only [execOp, hx, hy]
  rw [Sem.run_bind, this]; rfl
theorem run_copyO {o : Oper} {x y : Operand} (ho : o.op = .call ⟨.builtin .copy, #[x, y], #[24, 24]⟩) (ev : Operand → Value) (w w' : World) {v : Value} (h : ∀ ty, (Builtin.copy_ #[24, 24] ty #[ev x, ev y]).run Tryz.prog w = .ok v w') : (execOp ev o).run Tryz.prog w = .ok (.value v) w' := by
  obtain ⟨p, q, c, d, e, f⟩ := o
  simp only at ho; subst ho
  simp only [execOp, resolve, invoke, builtin, Sem.run_bind, Sem.run_pure, Result.andThen_ok, List.map_toArray, List.map_cons, List.map_nil, h]
theorem row_cells {H : HV} {w : World} {d : D} {n : Nat} (h : RowW Int n H w d) {m : Nat} (hm : m ≤ d.rows.length) : ∀ (j : Nat) (v : Value), (flat (d.rows.take m))[j]? = some v → H (rblk d) j = some v := by
  intro j v hv
  have hz : d.sz = 1 := h.is.size (i := 0) (by
    rw [← D.Is.length (α := Int)]
    exact List.length_pos_iff.2 h.ne)
  obtain ⟨c, hhd⟩ := h.hd
  have hl1 : ∀ r, r ∈ d.rows.take m → r.length = 1 := fun r hr => (flat_int r ((rows_of h.is).1 r (List.mem_of_mem_take hr))).1
  have hlen : (flat (d.rows.take m)).length = m := by rw [flat_len hl1, List.length_take]; omega
  have hj : j < m := by rw [← hlen]; exact (List.getElem?_eq_some_iff.1 hv).1
  have hjr : j < d.rows.length := by omega
  have hr1 : d.rows[j]? = some d.rows[j] := List.getElem?_eq_getElem hjr
  obtain ⟨x, hx⟩ := (rows_of h.is).1 _ (List.getElem_mem hjr)
  have hr2 : (d.rows[j])[0]? = some (.int .i64 x) := by rw [hx]; rfl
  have e1 := flat_get hl1 j 0 d.rows[j] (.int .i64 x) (by rw [List.getElem?_take, if_pos hj, hr1]) hr2
  rw [Nat.mul_one, Nat.add_zero, hv] at e1
  cases e1
  have hok := h.ok
  revert hhd hz hr1 hr2
  generalize rblk d = B
  cases hok with
  | slc a c' sz rows hsp hc hlen hcell hk =>
    intro hz hhd hr1 hr2
    simp only [D.hd, Option.some.injEq, Prod.mk.injEq] at hhd
    obtain ⟨rfl, _⟩ := hhd
    simp only [D.sz] at hz
    subst hz
    have := hcell j 0 _ _ hr1 hr2
    simpa using this
  | nil sz => intro _ hhd; simp [D.hd] at hhd
  | int _ _ => intro _ hhd; simp [D.hd] at hhd
  | bool _ => intro _ hhd; simp [D.hd] at hhd
  | str _ => intro _ hhd; simp [D.hd] at hhd
theorem row_copy {w0 w : World} {H0 H : HV} (a : After w0 H0 w H) {d : D} (hin0 : ∀ x, H0 (rblk d) x = none) (h : RowW Int w0.heap.size H w d) {s : Nat} {rs : List (List D)} (hrs : ∀ r, r ∈ rs → Codec.ok Int r) (hs : s + rs.length ≤ d.rows.length) {cur : Array Value} {t : TypeId}
    (hg : w.heap[rblk d]? = some (.cells cur t (0, 0))) : s * 1 + (flat rs).length ≤ cur.size ∧ ∃ H', After w0 H0 (w.setRow (rblk d) (cur.toList.take (s * 1) ++ flat rs ++ cur.toList.drop (s * 1 + (flat rs).length)).toArray) H' ∧ RowW Int w0.heap.size H' (w.setRow (rblk d) (cur.toList.take (s * 1) ++ flat rs ++ cur.toList.drop (s * 1 + (flat rs).length)).toArray) (d.putRow s rs) := by
  obtain ⟨H2, p1, p2, p3, p4, p5, p6⟩ := h.put flat_int hrs hs a.cell hg rfl
  refine ⟨p5, H2, ⟨below_setRow a.below h.low _, p3 H0 a.le hin0, fun b x u hb => ?_, p1⟩, p2⟩
  rcases p4 b x u hb with h1 | h1
  · exact a.fresh b x u h1
  · exact .inr (by rw [h1]; exact h.low)
theorem put_row_val {d : D} (h : d.IsSlc) {s : Nat} {rs : List (List D)} (hs : s + rs.length ≤ d.rows.length) : (d.putRow s rs).val = d.val := by
  obtain ⟨a, b, c, rfl⟩ := h
  have : (c.take s ++ rs ++ c.drop (s + rs.length)).length = c.length := by
    simp only [D.rows] at hs
    simp only [List.length_append, List.length_take, List.length_drop]; omega
  show hval a (c.take s ++ rs ++ c.drop (s + rs.length)).length = hval a c.length
  rw [this]
theorem put_row_to {d : D} {s : Nat} {rs : List (List D)} : (d.putRow s rs).to Int = (d.to Int).take s ++ rs.map Codec.dec ++ (d.to Int).drop (s + rs.length) := by
  simp only [D.putRow, D.to, D.rows, List.map_append, List.map_take, List.map_drop]
def szR (w0 : World) (H0 : HV) : Value → World → Prop := RetD w0 H0 fun ds => .dat ((ds 0).like most)
noncomputable def rpVals (d : D) (n : Nat) (i : Nat) : Value := match i with | 0 => goInt n | 1 => d.val | 2 => goInt n | 3 => (d.sub n d.len).val | 4 => d.val | 5 => goInt n | 6 => (d.sub 0 n).val | 7 => goInt n | _ => goInt (2 * n)
theorem rp_base (E : Env) (d : D) (n : Int) : (SV.denL E (mkJ 0 [(7, SV.dat d), (8, .int .i64 n)] 0 48)).toArray[7]? = some d.val ∧ (SV.denL E (mkJ 0 [(7, SV.dat d), (8, .int .i64 n)] 0 48)).toArray[8]? = some (.int .i64 n) := ⟨rfl, rfl⟩
theorem rp_round {w0 w : World} {H0 H : HV} (a : After w0 H0 w H) {d : D} (hin0 : ∀ x, H0 (rblk d) x = none) (h : RowW Int w0.heap.size H w d) (hl : d.len = 8) {n : Nat} (h1 : 1 ≤ n) (h4 : n ≤ 4) {k : List Item} {R : Value → World → Prop}
    (hnext : ∀ H' w', After w0 H0 w' H' → RowW Int w0.heap.size H' w' (d.putRow n (d.rows.take n)) → At Tryz.prog ⟨⟨61, none, none, k, mkJ 0 [(7, .dat (d.putRow n (d.rows.take n))), (8, .int .i64 ((2 * n : Nat) : Int))] 0 48⟩, [], []⟩ H' w' R) :
    At Tryz.prog ⟨⟨61, none, none, .code (.region rpId rpO true) :: k, mkJ 0 [(7, .dat d), (8, .int .i64 (n : Int))] 0 48⟩, [], []⟩ H w R := by
  have hr8 : d.rows.length = 8 := hl
  have hds := h.is.slc
  have hz : d.sz = 1 := h.is.size (i := 0) (by rw [← D.Is.length (α := Int)]; omega)
  obtain ⟨c, hhd⟩ := h.hd
  have hcap : d.len ≤ c := by
    have hok := h.ok
    revert hhd
    generalize rblk d = B
    cases hok with
    | slc a c' sz rows hsp hc hlen hcell hk => intro hhd; simp only [D.hd, Option.some.injEq, Prod.mk.injEq] at hhd; rw [← hhd.2]; exact hc
    | nil sz => intro hhd; simp [D.hd] at hhd
    | int _ _ => intro hhd; simp [D.hd] at hhd
    | bool _ => intro hhd; simp [D.hd] at hhd
    | str _ => intro hhd; simp [D.hd] at hhd
  -- the world behind the copy
  have ad : After w0 H0 w.drew H := a.trans (after_good (Good.drew (good_start a.cell (Env.mk (fun _ => 0) (fun _ => (none, 0)) fun _ => Go.undef))))
  have hd' : RowW Int w0.heap.size H w.drew d := ⟨h.is, h.ok, h.ne, h.hd, h.low, h.live⟩
  obtain ⟨cur, t, hg⟩ := hd'.live
  have hrs : ∀ r, r ∈ d.rows.take n → Codec.ok Int r := fun r hr => (rows_of h.is).1 r (List.mem_of_mem_take hr)
  have hrl : (d.rows.take n).length = n := by rw [List.length_take]; omega
  have hs : n + (d.rows.take n).length ≤ d.rows.length := by omega
  obtain ⟨q0, H', q1, q2⟩ := row_copy ad hin0 hd' hrs hs hg
  have hl1 : ∀ r, r ∈ d.rows.take n → r.length = 1 := fun r hr => (flat_int r (hrs r hr)).1
  have hfl : (flat (d.rows.take n)).length = n := by rw [flat_len hl1]; omega
  generalize hw1 : w.drew.setRow (rblk d) (cur.toList.take (n * 1) ++ flat (d.rows.take n) ++ cur.toList.drop (n * 1 + (flat (d.rows.take n)).length)).toArray = w1 at q1 q2
  have hcell : ∀ (j : Nat) (v : Value), (flat (d.rows.take n))[j]? = some v → w.drew.cell? ((⟨rblk d, 0, none⟩ : Addr).add j) = some v := fun j v hv => by
    have := ad.cell _ _ _ (row_cells hd' (m := n) (by omega) j v hv)
    have e : (⟨rblk d, 0, none⟩ : Addr).add j = ⟨rblk d, j, none⟩ := by
      unfold Addr.add; split <;> simp_all
    rw [e]; exact this
  have hcopy : ∀ ty, (Builtin.copy_ #[24, 24] ty #[(d.sub n d.len).val, (d.sub 0 n).val]).run Tryz.prog w.drew = .ok (goInt n) w1 := fun ty => by
    have e1 : (d.sub n d.len).val = .slice (some ⟨rblk d, n * 1, none⟩) (8 - n) (c - n) := by
      have hll : ((d.rows.drop n).take (d.len - n)).length = 8 - n := by rw [List.length_take, List.length_drop]; omega
      simp only [D.sub, D.val, hhd, Option.map_some, hval, hll, hz]
      have hne : ¬ c = n := by omega
      have hn0 : ¬ n = 0 := by omega
      simp [hne, Addr.add, hn0]
    have e2 : (d.sub 0 n).val = .slice (some ⟨rblk d, 0, none⟩) n c := by
      have hll : ((d.rows.drop 0).take (n - 0)).length = n := by rw [List.length_take, List.length_drop]; omega
      simp only [D.sub, D.val, hhd, Option.map_some, hval, hll]
      simp [Addr.add]
    have hmin : Nat.min n (8 - n) = n := Nat.min_eq_left (by omega)
    rw [e1, e2]
    have := run_copy_sz (P := Tryz.prog) w.drew 24 24 ty 3 (rblk d) (n * 1) (8 - n) (c - n) ⟨rblk d, 0, none⟩ n c 1 cur t (flat (d.rows.take n)) int_ty int_sz hg (by rw [hmin, hfl, Nat.mul_one]) hcell q0 (flat_one _)
    rw [this, hmin, hw1]
  refine at_flow (dst := rpDst) (c := 7) (w1 := w1) rp_mixed rp_calm rp_lt (rp_dst _ rfl) rp_inj (by rw [rp_size]; decide) fun E => ⟨rpVals d n, ?_, ?_⟩
  · intro i o ho l T hb hil hp hI
    have hi : i < 10 := by rw [← rp_size]; exact (Array.getElem?_eq_some_iff.1 ho).1
    obtain ⟨b7, b8⟩ := rp_base E d (n : Int)
    have n9 : i ≠ 9 → 9 ∉ l := fun hne h9 => by
      refine hil (hb.closed 9 h9 i ?_)
      rw [rp_p9]
      rcases rp_ten hi with rfl | rfl | rfl | rfl | rfl | rfl | rfl | rfl | rfl | rfl <;> simp at hne ⊢
    have hsl : ∀ s, (s = 7 ∨ s = 8) → i ≠ 9 → T[s]? = (SV.denL E (mkJ 0 [(7, SV.dat d), (8, .int .i64 (n : Int))] 0 48)).toArray[s]? := fun s hs hne => hI.old s fun j hj e => by
      have hj9 : j ≠ 9 := fun e9 => n9 hne (by rw [← e9]; exact hj)
      have hj10 : j < 10 := by rw [← rp_size]; exact hb.nodup.2 j hj
      have : 38 ≤ rpDst j := by
        rcases rp_ten hj10 with rfl | rfl | rfl | rfl | rfl | rfl | rfl | rfl | rfl | rfl <;> first | decide | exact absurd rfl hj9
      omega
    have t7 : i ≠ 9 → T[7]? = some d.val := fun hne => (hsl 7 (.inl rfl) hne).trans b7
    have t8 : i ≠ 9 → T[8]? = some (goInt n) := fun hne => (hsl 8 (.inr rfl) hne).trans b8
    rcases rp_ten hi with rfl | rfl | rfl | rfl | rfl | rfl | rfl | rfl | rfl | rfl
    · rw [if_neg (by decide)]
      intro w2
      rw [run_moveO (opK_spec rp_k0 ho).2.2, eval_tmp (t8 (by decide))]; rfl
    · rw [if_neg (by decide)]
      intro w2
      rw [run_moveO (opK_spec rp_k1 ho).2.2, eval_tmp (t7 (by decide))]; rfl
    · rw [if_neg (by decide)]
      intro w2
      rw [run_moveO (opK_spec rp_k2 ho).2.2, eval_tmp (t8 (by decide))]; rfl
    · rw [if_neg (by decide)]
      intro w2
      rw [rp_p3] at hp
      have m1 : T[39]? = some d.val := hI.done 1 (hp 1 (by simp))
      have m2 : T[40]? = some (goInt n) := hI.done 2 (hp 2 (by simp))
      refine run_sliceO (opK_spec rp_k3 ho).2.2 _ w2 ?_
      simp only [Option.map_some, Option.map_none]
      rw [eval_tmp m1, eval_tmp m2]
      have := run_sub (P := Tryz.prog) w2 int_ty int_sz hds hhd hcap (lo := some (.int .i64 (n : Int))) (hi := none) (E := E) (l := (n : Int)) (h' := (d.len : Int)) rfl rfl (by omega) (by omega) (Int.le_refl _) hz
      rw [Int.toNat_natCast, Int.toNat_natCast] at this
      exact this
    · rw [if_neg (by decide)]
      intro w2
      rw [run_moveO (opK_spec rp_k4 ho).2.2, eval_tmp (t7 (by decide))]; rfl
    · rw [if_neg (by decide)]
      intro w2
      rw [run_moveO (opK_spec rp_k5 ho).2.2, eval_tmp (t8 (by decide))]; rfl
    · rw [if_neg (by decide)]
      intro w2
      rw [rp_p6] at hp
      have m1 : T[42]? = some d.val := hI.done 4 (hp 4 (by simp))
      have m2 : T[43]? = some (goInt n) := hI.done 5 (hp 5 (by simp))
      refine run_sliceO (opK_spec rp_k6 ho).2.2 _ w2 ?_
      simp only [Option.map_some, Option.map_none]
      rw [eval_tmp m1, eval_tmp m2]
      have := run_sub (P := Tryz.prog) w2 int_ty int_sz hds hhd hcap (lo := none) (hi := some (.int .i64 (n : Int))) (E := E) (l := 0) (h' := (n : Int)) rfl rfl (by omega) (by omega) (by omega) hz
      rw [Int.toNat_natCast] at this
      exact this
    · rw [if_pos rfl]
      rw [rp_p7] at hp
      have m1 : T[41]? = some (d.sub n d.len).val := hI.done 3 (hp 3 (by simp))
      have m2 : T[44]? = some (d.sub 0 n).val := hI.done 6 (hp 6 (by simp))
      refine run_copyO (opK_spec rp_k7 ho).2.2 _ _ _ fun ty => ?_
      rw [eval_tmp m1, eval_tmp m2]
      exact hcopy ty
    · rw [if_neg (by decide)]
      intro w2
      rw [rp_p8] at hp
      have m1 : T[38]? = some (.int .i64 (n : Int)) := hI.done 0 (hp 0 (by simp))
      have m2 : T[45]? = some (.int .i64 (n : Int)) := hI.done 7 (hp 7 (by simp))
      rw [run_addO (opK_spec rp_k8 ho).2.2 _ w2 (eval_tmp m1) (eval_tmp m2)]
      have : IntKind.i64.wrap ((n : Int) + n) = ((2 * n : Nat) : Int) := by rw [wrap64 (by omega) (by omega)]; omega
      rw [this]; rfl
    · rw [if_neg (by decide)]
      intro w2
      rw [rp_p9] at hp
      have m1 : T[46]? = some (goInt (2 * n)) := hI.done 8 (hp 8 (by simp))
      rw [run_assignO (opK_spec rp_k9 ho).2.2, eval_tmp m1]; rfl
  · intro T l ha hI
    obtain ⟨b7, b8⟩ := rp_base E d (n : Int)
    have hpv : (d.putRow n (d.rows.take n)).val = d.val := put_row_val hds hs
    have t7 : T[7]? = some d.val := by
      rw [hI.old 7 fun j hj e => ?_]
      · exact b7
      · unfold rpDst at e; split at e <;> omega
    have t8 : T[8]? = some (goInt (2 * n)) := hI.done 9 (ha 9 (by rw [rp_size]; decide))
    refine stk_to (E := E) (sl := [(7, .dat (d.putRow n (d.rows.take n))), (8, .int .i64 ((2 * n : Nat) : Int))]) (n := 48) (by rw [hI.size]; rfl) (fun p hp => ?_) (fun p hp => ?_) q1.cell (hnext H' w1 q1 q2)
    · simp only [List.mem_cons, List.not_mem_nil, or_false] at hp
      rcases hp with rfl | rfl
      · simp only [SV.den, hpv]
        rw [Array.getD_eq_getD_getElem?, t7]; rfl
      · simp only [SV.den]
        rw [Array.getD_eq_getD_getElem?, t8]; rfl
    · simp only [List.mem_cons, List.not_mem_nil, or_false] at hp
      rcases hp with rfl | rfl
      · exact ⟨q2.ok, q2.is.slc⟩
      · trivial
theorem rp_loop {w0 : World} {H0 : HV} {B : Nat} (hin0 : ∀ x, H0 B x = none) : ∀ (k n : Nat) (d : D) (H : HV) (w : World), n * 2 ^ k = 8 → rblk d = B → After w0 H0 w H → RowW Int w0.heap.size H w d → d.to Int = List.replicate n 4096 ++ List.replicate (8 - n) 0 →
    At Tryz.prog (rpL d (n : Int)) H w (szR w0 H0) := by
  intro k
  induction k with
  | zero =>
    intro n d H w hn hB a h hto
    have hn8 : n = 8 := by omega
    subst hn8
    have dl : d.len = 8 := by rw [D.Is.length (α := Int), hto]; rfl
    refine at_of_runs rfl (unroll_sound rfl (goS_sound (noCtr _) (fun _ => false) [(61, 38)] 100 _ ?_))
    rw [rpl_go, dl]
    refine ⟨fun hc => absurd (of_decide_eq_true hc) (by decide), fun _ => ⟨rfl, fun E H' w' g hv => ⟨H', a.trans (after_good g), fun _ => d, fun E' => ?_, ?_⟩⟩⟩
    · have : d.like most = d := D.like_self h.is hto
      simp only [this]; rfl
    · have : d.like most = d := D.like_self h.is hto
      simp only [this]; exact hv
  | succ k ih =>
    intro n d H w hn hB a h hto
    have h2 : 2 * n * 2 ^ k = 8 := by rw [← hn, Nat.pow_succ]; simp only [Nat.mul_assoc, Nat.mul_comm, Nat.mul_left_comm]
    have hpos : 1 ≤ 2 ^ k := Nat.one_le_two_pow
    have h4 : n ≤ 4 := by
      have : 2 * n ≤ 2 * n * 2 ^ k := Nat.le_mul_of_pos_right _ hpos
      omega
    have h1 : 1 ≤ n := by
      rcases Nat.eq_zero_or_pos n with h0 | h0
      · subst h0; simp at hn
      · exact h0
    have dl : d.len = 8 := by rw [D.Is.length (α := Int), hto]; simp; omega
    refine at_of_runs rfl (unroll_sound rfl (goS_sound (noCtr _) (fun _ => false) [(61, 38)] 100 _ ?_))
    rw [rpl_go, dl]
    refine ⟨fun hc => ?_, fun hc => absurd (of_decide_eq_false hc) (by omega)⟩
    intro E1 H1 w1 g1 ok1
    have a1 := after_good g1
    have hE : At Tryz.prog ⟨⟨61, none, none, .code (.region rpId rpO true) :: [Item.inBlock 1, Item.inLoop (cAt Tryz.prog 61 [1, 1, 1, 1, 1, 1, 0, 0, 0]), Item.inBlock 0, Item.code (cAt Tryz.prog 61 [1, 1, 1, 1, 1, 1, 1])], mkJ 0 [(7, .dat d), (8, .int .i64 (n : Int))] 0 48⟩, [], []⟩ H1 w1 (szR w0 H0) := by
      refine rp_round (a.trans a1) (by rw [hB]; exact hin0) (h.mono a1) dl h1 h4 fun H' w' a' h' => ?_
      have hc : At Tryz.prog (rpC (d.putRow n (d.rows.take n)) ((2 * n : Nat) : Int)) H' w' (szR w0 H0) := by
        refine at_of_runs rfl (exec_sound (noCtr _) 100 _ ?_)
        rw [rpc_go]
        intro E2 H2 w2 g2 ok2
        have a2 := after_good g2
        refine ih (2 * n) (d.putRow n (d.rows.take n)) H2 w2 h2 hB (a'.trans a2) (h'.mono a2) ?_ E2 ok2 g2.cell
        have e1 : (d.rows.take n).map (Codec.dec (α := Int)) = (d.to Int).take n := by simp only [D.to, List.map_take]
        have e2 : (d.rows.take n).length = n := by rw [List.length_take]; have : d.rows.length = 8 := dl; omega
        rw [put_row_to, e1, e2, hto]
        have f1 : (List.replicate n (4096 : Int) ++ List.replicate (8 - n) 0).take n = List.replicate n 4096 := by rw [List.take_left' (by simp)]
        rw [f1, ← List.drop_drop, List.drop_left' (by simp), List.drop_replicate, List.replicate_append_replicate, show n + n = 2 * n by omega, show 8 - n - n = 8 - 2 * n by omega]
      exact hc
    rw [← rp_reg] at hE
    exact hE E1 ok1 g1.cell
end Go.Proofs.YtllmgnhjljmihaaGreat
end
section
open Go Go.Proofs Sx
namespace Go.Proofs.YtllmgnhjljmihaaGreat
set_option maxRecDepth 100000
set_option maxHeartbeats 0
theorem ctMuOk : Ctrs.Ok Tryz.prog ctMu := by
  intro x hx
  rw [List.mem_singleton.1 hx]; exact ctrOf_ok lawMul
theorem rp_call : callAt (opsAt Tryz.prog 61 [1, 1, 1, 1, 1, 0]) 2 = some (.copy, [.tmp 31, .tmp 32], [24, 24], some 33) := by kernel_rfl
noncomputable def rpK (d x : D) : Conf := ⟨⟨61, some (opsAt Tryz.prog 61 [1, 1, 1, 1, 1, 0], [2, 3]), none, [Item.code (cAt Tryz.prog 61 [1, 1, 1, 1, 1, 1])], mkJ 0 [(7, .dat d), (31, .dat d), (32, .dat x)] 0 48⟩, [], []⟩
theorem rp_first {w0 w : World} {H0 H : HV} (a : After w0 H0 w H) {d x : D} (hin0 : ∀ x, H0 (rblk d) x = none) (h : RowW Int w0.heap.size H w d) (hto : d.to Int = List.replicate 8 0) (hx : x.Ok H) (hxr : x.rows = [[.int .i64 4096]]) (hxs : x.IsSlc) (hxz : x.sz = 1) :
    At Tryz.prog (rpK d x) H w (szR w0 H0) := by
  have dl : d.len = 8 := by rw [D.Is.length (α := Int), hto]; rfl
  have hr8 : d.rows.length = 8 := dl
  have hds := h.is.slc
  obtain ⟨c, hhd⟩ := h.hd
  obtain ⟨xh, xz, xr, rfl⟩ := hxs
  simp only [D.rows, D.sz] at hxr hxz
  subst hxr; subst hxz
  obtain ⟨xa, xc, hxh, hxsp, hxc, hxcell⟩ : ∃ a c, xh = some (a, c) ∧ a.spot = none ∧ 1 ≤ c ∧ H a.block a.off = some (.int .i64 4096) := by
    cases hx with
    | slc a c sz rows hsp hc hlen hcell hk => exact ⟨a, c, rfl, hsp (by simp), hc, by have := hcell 0 0 _ _ rfl rfl; simpa [D.val] using this⟩
  subst hxh
  obtain ⟨cur, t, hg⟩ := h.live
  have hrs : ∀ r, r ∈ [[D.int .i64 4096]] → Codec.ok Int r := fun r hr => by rw [List.mem_singleton.1 hr]; exact ok_int _
  obtain ⟨q0, H', q1, q2⟩ := row_copy a hin0 h (s := 0) hrs (by rw [hr8]; decide) hg
  generalize hw1 : w.setRow (rblk d) (cur.toList.take (0 * 1) ++ flat [[D.int .i64 4096]] ++ cur.toList.drop (0 * 1 + (flat [[D.int .i64 4096]]).length)).toArray = w1 at q1 q2
  have hpv : (d.putRow 0 [[D.int .i64 4096]]).val = d.val := put_row_val hds (by rw [hr8]; decide)
  have hpt : (d.putRow 0 [[D.int .i64 4096]]).to Int = List.replicate 1 4096 ++ List.replicate (8 - 1) 0 := by rw [put_row_to, hto]; rfl
  intro E ok hin
  refine stk_builtin (rest := []) (u := goInt 1) (w' := w1) (E' := E) rp_call (fun ty => ?_) (fun _ _ _ => rfl) ?_
  · have e1 : d.val = .slice (some ⟨rblk d, 0 * 1, none⟩) 8 c := by
      have hv : d.val = hval d.hd d.len := by obtain ⟨x, y, z, rfl⟩ := hds; rfl
      rw [hv, hhd, dl]; rfl
    have e2 : (D.slc (some (xa, xc)) 1 [[D.int .i64 4096]]).val = .slice (some xa) 1 xc := rfl
    have := run_copy_sz (P := Tryz.prog) w 24 24 ty 3 (rblk d) (0 * 1) 8 c xa 1 xc 1 cur t (flat [[D.int .i64 4096]]) int_ty int_sz hg rfl (fun j v hv => by
      have hj : j = 0 := by
        cases j with
        | zero => rfl
        | succ j => simp [flat] at hv
      subst hj
      have hv : Value.int .i64 4096 = v := by simpa [flat, D.val] using hv
      subst hv
      have hc := hin _ _ _ hxcell
      have e : xa.add 0 = ⟨xa.block, xa.off, none⟩ := by
        obtain ⟨p, q, r⟩ := xa
        simp only at hxsp; subst hxsp
        simp [Addr.add]
      rw [e]; exact hc) q0 (flat_one _)
    show (builtin .copy _ ty #[] #[(SV.dat d).den E, (SV.dat (D.slc (some (xa, xc)) 1 [[D.int .i64 4096]])).den E]).run _ _ = _
    simp only [SV.den]
    rw [e1, e2]
    simp only [builtin, Sem.run_bind, Result.andThen_ok, Sem.run_pure]
    rw [this, hw1]
    rfl
  · have hA : At Tryz.prog (rpA (d.putRow 0 [[D.int .i64 4096]])) H' w1 (szR w0 H0) := by
      refine at_of_runs rfl (goM_sound (noCtr _) [] [(61, MidK.copy)] 100 _ ?_)
      rw [rpa_go]
      intro E2 H2 w2 g2 ok2
      have a2 := after_good g2
      exact rp_loop (B := rblk d) hin0 3 1 (d.putRow 0 [[D.int .i64 4096]]) H2 w2 rfl rfl (q1.trans a2) (q2.mono a2) hpt E2 ok2 g2.cell
    refine stk_to (E := E) (sl := [(7, .dat (d.putRow 0 [[D.int .i64 4096]])), (33, .int .i64 1)]) (n := 48) rfl (fun p hp => ?_) (fun p hp => ?_) q1.cell hA
    · simp only [List.mem_cons, List.not_mem_nil, or_false] at hp
      rcases hp with rfl | rfl
      · simp only [SV.den, hpv]; rfl
      · rfl
    · simp only [List.mem_cons, List.not_mem_nil, or_false] at hp
      rcases hp with rfl | rfl
      · exact ⟨q2.ok, q2.is.slc⟩
      · trivial
theorem lawSz : Law Tryz.prog 26 (rdNone.sp spMost) := by
  refine law_in _ (by kernel_rfl) fun H w _ hok hp => ?_
  apply goM_sound ctMuOk [] [(61, MidK.copy)] 600
  rw [show rdNone.canon () = [] from rfl, csz_in]
  refine holds_all.2 fun hs => ?_
  have hl : ∀ h, ((D.slc h 1 [[D.int .i64 4096]]).len : Int) = 1 := fun _ => rfl
  rw [hl]
  refine ⟨fun h => Bool.noConfusion h, fun _ => ⟨⟨⟨by decide, by decide⟩, by decide, by decide⟩, fun hs1 => ⟨fun h => absurd (of_decide_eq_true h) (by decide), fun _ => ⟨fun h => absurd (of_decide_eq_true h) (by decide), fun _ => ⟨⟨by decide, rfl, by decide, by decide⟩, fun hs2 => ?_⟩⟩⟩⟩⟩
  have hn : Int.toNat (IntKind.i64.wrap (Int.emod (IntKind.u64.wrap 1 * IntKind.u64.wrap 8) 18446744073709551616)) = 8 := by decide
  rw [hn]
  intro E1 H1 w1 g1 ok1
  generalize hxd : D.slc (hs 0 0).hd 1 [[D.int .i64 4096]] = xd at *
  generalize hdd : D.slc (hs2 0 0).hd 1 (List.replicate 8 [D.int .i64 0]) = dd at *
  obtain ⟨H2, le2, g2, xok, _⟩ := g1.publish (k := 1001) (e := 3) (d := xd) rfl
  have hds : dd.Is Int ∧ dd.to Int = List.replicate 8 0 := by
    rw [← hdd]
    exact is_of rfl ⟨fun r hr => by rw [List.eq_of_mem_replicate hr]; exact ok_int 0, by rw [List.map_replicate]; rfl⟩
  obtain ⟨H3, a3, le3, hR, hdv⟩ := pub_row (α := Int) (k := 2030) (e := 3) (d := dd) g2 rfl hds.1 (by rw [← hdd]; exact List.cons_ne_nil _ _)
  have hxv : (SV.vec 1001).den E1 = xd.val := by
    obtain ⟨⟨h, sz, rows, e, h2⟩, _⟩ := g2.own 1001 (.pub xd) (List.mem_cons_of_mem _ List.mem_cons_self)
    rw [e]
    simp only [SV.den, h2]; rfl
  have hno : ∀ x, H (rblk dd) x = none := fun x => by
    obtain ⟨h, sz, rows, e, hv, how, _, _, ha⟩ := g1.own 2030 (.arr 3 dd) List.mem_cons_self
    cases hx : H (rblk dd) x with
    | none => rfl
    | some u =>
      have h1 := g1.ext _ _ _ hx
      obtain ⟨c, hc⟩ := hR.hd
      rw [e] at hc
      simp only [D.hd] at hc
      obtain ⟨e1, e2⟩ := ha _ _ hc
      have e3 : E1.b 2030 = rblk dd := by rw [e]; exact (congrArg Addr.block e1).symm
      have := e2 x
      rw [e3, h1] at this; cases this
  have hE : At Tryz.prog (rpK dd xd) H3 w1 (szR w H) := rp_first a3 hno hR hds.2 (xok.mono le3) (by rw [← hxd]; rfl) (by rw [← hxd]; exact ⟨_, _, _, rfl⟩) (by rw [← hxd]; rfl)
  refine stk_call (E := E1) (sl := [(7, .dat dd), (31, .dat dd), (32, .dat xd)]) (n := 48) rfl (fun p hp => ?_) (fun p hp => ?_) a3.cell (R1 := szR w H) hE ?_
  · simp only [List.mem_cons, List.not_mem_nil, or_false] at hp
    rcases hp with rfl | rfl | rfl
    · simp only [SV.den]; rw [← hdv]; rfl
    · simp only [SV.den]; rw [← hdv]; rfl
    · simp only [SV.den]; rw [← hxv]; rfl
  · simp only [List.mem_cons, List.not_mem_nil, or_false] at hp
    rcases hp with rfl | rfl | rfl
    · exact ⟨hR.ok, hds.1.slc⟩
    · exact ⟨hR.ok, hds.1.slc⟩
    · exact ⟨xok.mono le3, by rw [← hxd]; exact ⟨_, _, _, rfl⟩⟩
  · intro u w2 ⟨H4, a4, ds, hu, hok⟩
    have hE2 : At Tryz.prog (szB ((ds 0).like most)) H4 w2 (szR w H) := by
      refine at_of_runs rfl (exec_sound (noCtr _) 100 _ ?_)
      rw [szb_go]
      exact ⟨rfl, fun E H' w' g hv => ⟨H', a4.trans (after_good g), ds, fun E' => rfl, hv⟩⟩
    refine stk_aw (aw := none) (stk_to (E := E1) (sl := [(2, .dat ((ds 0).like most))]) (n := 3) rfl (fun p hp => ?_) (fun p hp => ?_) a4.cell hE2)
    · rw [List.mem_singleton.1 hp, hu E1]; rfl
    · rw [List.mem_singleton.1 hp]; exact hok
end Go.Proofs.YtllmgnhjljmihaaGreat
end
section
open Go Go.Proofs Sx
namespace Sx
theorem ck_range {r : Rl} (h : ckRl r = 0) : checkTarget r.near = 0 ∧ checkTarget r.far = 0 ∧ checkSource r.src = 0 ∧ formedR r = true := by
  unfold ckRl at h
  by_cases h1 : checkTarget r.near ≠ 0
  · rw [if_pos h1] at h; exact absurd h h1
  rw [if_neg h1] at h
  by_cases h2 : checkTarget r.far ≠ 0
  · rw [if_pos h2] at h; exact absurd h h2
  rw [if_neg h2] at h
  by_cases h3 : checkSource r.src ≠ 0
  · rw [if_pos h3] at h; exact absurd h h3
  rw [if_neg h3] at h
  by_cases h4 : formedR r = false
  · rw [if_pos h4] at h; cases h
  exact ⟨by simpa using h1, by simpa using h2, by simpa using h3, by simpa using h4⟩
theorem tgt_range {t : Tgt} (h : checkTarget t = 0) : 0 ≤ t.applied ∧ t.applied ≤ t.stored ∧ t.stored ≤ 1073741824 ∧ 0 ≤ t.epoch ∧ t.epoch ≤ 1073741824 := by
  unfold checkTarget at h
  split at h
  · cases h
  · rename_i h1
    split at h
    · cases h
    · rename_i h2
      have : okTime t.epoch = true := by
        cases he : okTime t.epoch with
        | true => rfl
        | false => exact absurd (.inl he) h1
      simp only [okTime, Bool.and_eq_true, decide_eq_true_eq] at this
      omega
theorem ret_rl {P : Program} {w : World} {H : HV} {a b c d e f g h i j k l m : Int} {X Y : SV} {os : List Int} {ks : List Cy} {r : Rl × Int} (hx : Stands Int X os) (hy : Stands Cy Y ks) (hr : r = (⟨⟨a, b, c, d⟩, ⟨e, f, g, h⟩, ⟨i, j, os, k, l⟩, ks⟩, m)) :
    (Tree.ret (.tup [.agg [.int .i64 a, .int .i64 b, .int .i64 c, .int .i64 d, .int .i64 e, .int .i64 f, .int .i64 g, .int .i64 h, .int .i64 i, .int .i64 j, X, .int .i64 k, .int .i64 l, Y], .int .i64 m])).holds P ⟨w, H⟩ (RetD w H fun ds => .tup [.agg (rlL (ds 0) (ds 1) r.1), .int .i64 r.2]) := by
  subst hr
  obtain ⟨p, q, hs⟩ := rlL_sel (a := a) (b := b) (c := c) (d := d) (e := e) (f := f) (g := g) (h := h) (i := i) (j := j) (k := k) (l := l) hx hy rfl
  exact ret_se (fun i => match i with | 0 => p | _ => q) (se_tup (.cons (se_agg hs) (.cons (se_int rfl) .nil)))
end Sx
namespace Go.Proofs.YtllmgnhjljmihaaGreat
set_option maxRecDepth 100000
theorem ctCkOk : Ctrs.Ok Tryz.prog ctCk := by
  intro x hx
  simp only [ctCk, List.mem_cons, List.not_mem_nil, or_false] at hx
  rcases hx with rfl | rfl | rfl | rfl | rfl | rfl | rfl
  · exact ctrOf_ok lawCT1
  · exact ctrOf_ok lawCS1
  · exact ctrOf_ok lawSz
  · exact ctrOf_ok lawOff
  · exact ctrOf_ok lawLead
  · exact ctrOf_ok lawCyCk
  · exact ctrOf_ok lawEqI
theorem ctFmOk : Ctrs.Ok Tryz.prog ctFm := by
  intro x hx
  simp only [ctFm, List.mem_cons, List.not_mem_nil, or_false] at hx
  rcases hx with rfl | rfl | rfl | rfl | rfl
  · exact ctrOf_ok lawSz
  · exact ctrOf_ok lawOff
  · exact ctrOf_ok lawLead
  · exact fCtr_ok lawAnyCy
  · exact ctrOf_ok lawEqI
theorem ctCkROk : Ctrs.Ok Tryz.prog ctCkR := by
  intro x hx
  simp only [ctCkR, List.mem_cons, List.not_mem_nil, or_false] at hx
  rcases hx with rfl | rfl | rfl
  · exact ctrOf_ok lawCT2
  · exact ctrOf_ok lawCS2
  · exact ctrOf_ok lawFmR
section
variable {H : HV} {w : World} {a1 a2 a3 a4 b1 b2 b3 b4 e s st ap : Int} {o k : D}
theorem ck_loop (hx : RlD.Ok ⟨⟨a1, a2, a3, a4⟩, ⟨b1, b2, b3, b4⟩, ⟨e, s, o, st, ap⟩, k⟩) (h : Hd) (e1 e2 e3 : Int) :
    Runs Tryz.prog ⟨w, H⟩ (ckL ⟨⟨a1, a2, a3, a4⟩, ⟨b1, b2, b3, b4⟩, ⟨e, s, o, st, ap⟩, k⟩ h e1 e2 e3 0) (RetS w H (.int .i64 (if e1 ≠ 0 then e1 else if e2 ≠ 0 then e2 else if e3 ≠ 0 then e3 else fmRes (RlD.rl ⟨⟨a1, a2, a3, a4⟩, ⟨b1, b2, b3, b4⟩, ⟨e, s, o, st, ap⟩, k⟩)))) := by
  have hc0 : (D.slc h 1 [[D.int .i64 e1], [D.int .i64 e2], [D.int .i64 e3]]).HasCell 0 0 (.int .i64) := ⟨e1, rfl⟩
  have hc1 : (D.slc h 1 [[D.int .i64 e1], [D.int .i64 e2], [D.int .i64 e3]]).HasCell 1 0 (.int .i64) := ⟨e2, rfl⟩
  have hc2 : (D.slc h 1 [[D.int .i64 e1], [D.int .i64 e2], [D.int .i64 e3]]).HasCell 2 0 (.int .i64) := ⟨e3, rfl⟩
  have g0 : (D.slc h 1 [[D.int .i64 e1], [D.int .i64 e2], [D.int .i64 e3]]).getInt 0 0 = e1 := rfl
  have g1 : (D.slc h 1 [[D.int .i64 e1], [D.int .i64 e2], [D.int .i64 e3]]).getInt 1 0 = e2 := rfl
  have g2 : (D.slc h 1 [[D.int .i64 e1], [D.int .i64 e2], [D.int .i64 e3]]).getInt 2 0 = e3 := rfl
  have hl : ((D.slc h 1 [[D.int .i64 e1], [D.int .i64 e2], [D.int .i64 e3]]).len : Int) = 3 := rfl
  refine unroll_sound rfl (goS_sound ctCkOk (fun _ => false) [(56, 2)] 100 _ ?_)
  rw [ck0_go, hl, g0]
  refine ⟨fun _ => ⟨⟨by decide, by decide, rfl⟩, ⟨hc0, rfl⟩, fun c1 => ret_int ?_, fun c1 => ?_⟩, fun h => Bool.noConfusion h⟩
  · have c1 : e1 ≠ 0 := by simpa using c1
    rw [if_pos c1]
  have c1 : ¬e1 ≠ 0 := by simpa using c1
  rw [if_neg c1]
  show Runs _ _ (ckL ⟨⟨a1, a2, a3, a4⟩, ⟨b1, b2, b3, b4⟩, ⟨e, s, o, st, ap⟩, k⟩ h e1 e2 e3 1) _
  refine unroll_sound rfl (goS_sound ctCkOk (fun _ => false) [(56, 2)] 100 _ ?_)
  rw [ck1_go, hl, g1]
  refine ⟨fun _ => ⟨⟨by decide, by decide, rfl⟩, ⟨hc1, rfl⟩, fun c2 => ret_int ?_, fun c2 => ?_⟩, fun h => Bool.noConfusion h⟩
  · have c2 : e2 ≠ 0 := by simpa using c2
    rw [if_pos c2]
  have c2 : ¬e2 ≠ 0 := by simpa using c2
  rw [if_neg c2]
  show Runs _ _ (ckL ⟨⟨a1, a2, a3, a4⟩, ⟨b1, b2, b3, b4⟩, ⟨e, s, o, st, ap⟩, k⟩ h e1 e2 e3 2) _
  refine unroll_sound rfl (goS_sound ctCkOk (fun _ => false) [(56, 2)] 100 _ ?_)
  rw [ck2_go, hl, g2]
  refine ⟨fun _ => ⟨⟨by decide, by decide, rfl⟩, ⟨hc2, rfl⟩, fun c3 => ret_int ?_, fun c3 => ?_⟩, fun h => Bool.noConfusion h⟩
  · have c3 : e3 ≠ 0 := by simpa using c3
    rw [if_pos c3]
  have c3 : ¬e3 ≠ 0 := by simpa using c3
  rw [if_neg c3]
  show Runs _ _ (ckL ⟨⟨a1, a2, a3, a4⟩, ⟨b1, b2, b3, b4⟩, ⟨e, s, o, st, ap⟩, k⟩ h e1 e2 e3 3) _
  refine unroll_sound rfl (goS_sound ctCkOk (fun _ => false) [(56, 2)] 100 _ ?_)
  rw [ck3_go]
  exact ⟨fun h => Bool.noConfusion h, fun _ => fmA_runs hx ctFmOk⟩
end
theorem lawCk : Law Tryz.prog 24 (rdRl.one.sp spCkRl) := by
  refine law_in _ (by kernel_rfl) fun H w ⟨⟨a1, a2, a3, a4⟩, ⟨b1, b2, b3, b4⟩, ⟨e, s, o, st, ap⟩, k⟩ hok hp => ?_
  have hx := hp _ (List.mem_singleton.2 rfl)
  apply exec_sound ctCkOk 300
  rw [show rdRl.one.canon ⟨⟨a1, a2, a3, a4⟩, ⟨b1, b2, b3, b4⟩, ⟨e, s, o, st, ap⟩, k⟩ = [.agg [.int .i64 a1, .int .i64 a2, .int .i64 a3, .int .i64 a4, .int .i64 b1, .int .i64 b2, .int .i64 b3, .int .i64 b4, .int .i64 e, .int .i64 s, .dat o, .int .i64 st, .int .i64 ap, .dat k]] from rfl, ck_in]
  exact fun hs => ⟨hx.1, ck_loop hx (hs 9 0).hd _ _ _⟩
theorem lawCkRf : Law Tryz.prog 31 (rdRl.one.sp spCkRl) := by
  refine law_in _ (by kernel_rfl) fun H w ⟨⟨a1, a2, a3, a4⟩, ⟨b1, b2, b3, b4⟩, ⟨e, s, o, st, ap⟩, k⟩ hok hp => ?_
  have hx := hp _ (List.mem_singleton.2 rfl)
  apply exec_sound ctCkROk 300
  rw [show rdRl.one.canon ⟨⟨a1, a2, a3, a4⟩, ⟨b1, b2, b3, b4⟩, ⟨e, s, o, st, ap⟩, k⟩ = [.agg [.int .i64 a1, .int .i64 a2, .int .i64 a3, .int .i64 a4, .int .i64 b1, .int .i64 b2, .int .i64 b3, .int .i64 b4, .int .i64 e, .int .i64 s, .dat o, .int .i64 st, .int .i64 ap, .dat k]] from rfl, ckR_in]
  have hd : ckRl (RlD.rl ⟨⟨a1, a2, a3, a4⟩, ⟨b1, b2, b3, b4⟩, ⟨e, s, o, st, ap⟩, k⟩) = (if checkTarget ⟨a1, a2, a3, a4⟩ ≠ 0 then checkTarget ⟨a1, a2, a3, a4⟩ else if checkTarget ⟨b1, b2, b3, b4⟩ ≠ 0 then checkTarget ⟨b1, b2, b3, b4⟩ else if checkSource (SrcD.src ⟨e, s, o, st, ap⟩) ≠ 0 then checkSource (SrcD.src ⟨e, s, o, st, ap⟩) else if formedR (RlD.rl ⟨⟨a1, a2, a3, a4⟩, ⟨b1, b2, b3, b4⟩, ⟨e, s, o, st, ap⟩, k⟩) = false then 3 else 0) := rfl
  refine ⟨fun c1 => ret_int ?_, fun c1 => ⟨fun c2 => ret_int ?_, fun c2 => ⟨hx.1, fun c3 => ret_int ?_, fun c3 => ⟨hx, fun c4 => ret_int ?_, fun c4 => ret_int ?_⟩⟩⟩⟩
  all_goals simp only [bne_iff_ne, ne_eq, bne_eq_false_iff_eq, Bool.not_eq_true', Bool.not_eq_false'] at c1
  · rw [hd, if_pos c1]
  all_goals simp only [bne_iff_ne, ne_eq, bne_eq_false_iff_eq] at c2
  · rw [hd, if_neg (by simp [c1]), if_pos c2]
  all_goals simp only [bne_iff_ne, ne_eq, bne_eq_false_iff_eq] at c3
  · rw [hd, if_neg (by simp [c1]), if_neg (by simp [c2]), if_pos c3]
  · have c4 : formedR (RlD.rl ⟨⟨a1, a2, a3, a4⟩, ⟨b1, b2, b3, b4⟩, ⟨e, s, o, st, ap⟩, k⟩) = false := by simpa using c4
    rw [hd, if_neg (by simp [c1]), if_neg (by simp [c2]), if_neg (by simp [c3]), if_pos c4]
  · have c4 : formedR (RlD.rl ⟨⟨a1, a2, a3, a4⟩, ⟨b1, b2, b3, b4⟩, ⟨e, s, o, st, ap⟩, k⟩) = true := by simpa using c4
    rw [hd, if_neg (by simp [c1]), if_neg (by simp [c2]), if_neg (by simp [c3]), if_neg (by simp [c4])]
theorem ctLgOk : Ctrs.Ok Tryz.prog ctLg := by
  intro x hx
  simp only [ctLg, List.mem_cons, List.not_mem_nil, or_false] at hx
  rcases hx with rfl | rfl
  · exact ctrOf_ok lawCk
  · exact ctrOf_ok lawCkRf
theorem ctNwOk : Ctrs.Ok Tryz.prog ctNw := by
  intro x hx
  simp only [ctNw, List.mem_cons, List.not_mem_nil, or_false] at hx
  rcases hx with h1 | h1
  · subst h1; exact ctrOf_ok lawNewT1
  · subst h1; exact ctrOf_ok lawNewS1
theorem lag_wrap {r : Rl} (h : ckRl r = 0) : IntKind.i64.wrap (r.near.applied - r.far.applied) = lagRl r := by
  obtain ⟨h1, h2, _, _⟩ := ck_range h
  obtain ⟨a, b, c, _⟩ := tgt_range h1
  obtain ⟨d, e, f, _⟩ := tgt_range h2
  unfold lagRl
  rw [if_neg (by simp [h]), wrap64 (by omega) (by omega)]
theorem lawLag : Law Tryz.prog 22 (rdRl.one.sp spLagRl) := by
  refine law_in _ (by kernel_rfl) fun H w ⟨⟨a1, a2, a3, a4⟩, ⟨b1, b2, b3, b4⟩, ⟨e, s, o, st, ap⟩, k⟩ hok hp => ?_
  have hx := hp _ (List.mem_singleton.2 rfl)
  apply exec_sound ctLgOk 300
  rw [show rdRl.one.canon ⟨⟨a1, a2, a3, a4⟩, ⟨b1, b2, b3, b4⟩, ⟨e, s, o, st, ap⟩, k⟩ = [.agg [.int .i64 a1, .int .i64 a2, .int .i64 a3, .int .i64 a4, .int .i64 b1, .int .i64 b2, .int .i64 b3, .int .i64 b4, .int .i64 e, .int .i64 s, .dat o, .int .i64 st, .int .i64 ap, .dat k]] from rfl, lg_in]
  refine ⟨hx, fun c => ret_int ?_, fun c => ret_int (lag_wrap (by simpa using c))⟩
  have c : ckRl (RlD.rl ⟨⟨a1, a2, a3, a4⟩, ⟨b1, b2, b3, b4⟩, ⟨e, s, o, st, ap⟩, k⟩) ≠ 0 := by simpa using c
  unfold lagRl; rw [if_pos c]
theorem newS_ok {e f a : Int} (h : (newTarget e f a).2 = 0) : (newSource e f a).2 = 0 ∧ (newSource e f a).1.offered = [] := by
  unfold newTarget at h
  unfold newSource
  split at h
  · rename_i hr; rw [if_pos hr]; exact ⟨rfl, rfl⟩
  · cases h
theorem lawNew : Law Tryz.prog 18 (rdQuad.sp spNewRl) := by
  refine law_in _ (by kernel_rfl) fun H w ⟨a1, a2, a3, a4⟩ hok hp => ?_
  apply exec_sound ctNwOk 300
  rw [show rdQuad.canon (a1, a2, a3, a4) = [.int .i64 a1, .int .i64 a2, .int .i64 a3, .int .i64 a4] from rfl, nw_in]
  have hz : ∀ {m : Int}, newRl a1 a2 a3 a4 = (zRl, m) → newRl a1 a2 a3 a4 = (⟨⟨0, 0, 0, 0⟩, ⟨0, 0, 0, 0⟩, ⟨0, 0, [], 0, 0⟩, []⟩, m) := fun h => h
  refine fun hs => ⟨fun c1 => ret_rl stands_nils stands_nils (hz ?_), fun c1 hs1 => ⟨fun c2 => ret_rl stands_nils stands_nils (hz ?_), fun c2 => ⟨fun c3 => ret_rl stands_nils stands_nils (hz ?_), fun c3 hs2 => ret_rl (r := newRl a1 a2 a3 a4) stands_like stands_nils ?_⟩⟩⟩
  · have c1 : (newTarget a1 a2 a4).2 ≠ 0 := by simpa using c1
    unfold newRl; rw [if_pos c1]
  · have c1 : ¬(newTarget a1 a2 a4).2 ≠ 0 := by simpa using c1
    have c2 : (newTarget a1 a3 a4).2 ≠ 0 := by simpa using c2
    unfold newRl; rw [if_neg c1, if_pos c2]
  · have c1 : ¬(newTarget a1 a2 a4).2 ≠ 0 := by simpa using c1
    have c2 : ¬(newTarget a1 a3 a4).2 ≠ 0 := by simpa using c2
    unfold newRl; rw [if_neg c1, if_neg c2, if_pos (of_decide_eq_true c3)]
  · have c1 : ¬(newTarget a1 a2 a4).2 ≠ 0 := by simpa using c1
    have c2 : (newTarget a1 a3 a4).2 = 0 := by simpa using c2
    unfold newRl; rw [if_neg c1, if_neg (by simp [c2]), if_neg (of_decide_eq_false c3), (newS_ok c2).1]
end Go.Proofs.YtllmgnhjljmihaaGreat
end
section
open Go Go.Proofs Sx
namespace Go.Proofs.YtllmgnhjljmihaaGreat
set_option maxRecDepth 100000
set_option maxHeartbeats 0
noncomputable def ctRs : Ctrs := [(24, ctrOf (rdRl.one.sp spCkRl)), (52, ctrOf ((rdD.two rdInt).sp spLead)), (53, ctrOf (rdD.one.sp spOff)), (30, ctrOf (rdCy.one.sp spCpC))]
noncomputable def bgN (x : RlD) (o q : D) : Mem := [(1517, .arr 3 o), (500, .arr 32 q), (502, OBlk.cells 68 [.int .i64 x.near.epoch, .int .i64 x.near.site, .int .i64 x.near.stored, .int .i64 x.near.applied, .int .i64 x.far.epoch, .int .i64 x.far.site, .int .i64 x.far.stored, .int .i64 x.far.applied,
 .int .i64 x.src.e, .int .i64 x.src.s, .vec 1517, .int .i64 x.src.st, .int .i64 x.src.ap, .vec 500])]
noncomputable def rstA (x : RlD) (o q : D) (ep na : Int) : Conf := Conf.mk (SFrm.mk 21 (some (opsAt Tryz.prog 21 [1, 1, 1, 0], [2])) none [Item.code (cAt Tryz.prog 21 [1, 1, 1, 1])] (putS (mkJ 0 [(1, .int .i64 ep), (2, .int .i64 na), (3, .ptr 0 0), (6, .ptr 1 0)] 0 86) (some 37) (.ptr 502 0))) []
 (bgN x o q ++ [(0, OBlk.cells 29 (rlCs x)), (1, OBlk.cells 29 [.int .i64 0, .int .i64 0, .int .i64 0, .int .i64 0, .int .i64 0, .int .i64 0, .int .i64 0, .int .i64 0, .int .i64 0, .int .i64 0, .nils, .int .i64 0, .int .i64 0, .nils])])
section
variable (d s o k : D) (b : Nat) (j a a1 a2 a3 a4 b1 b2 b3 b4 e si st ap ep na : Int)
theorem rst_in : 
 let z2 : List SV := [.int .i64 0, .int .i64 0, .int .i64 0, .int .i64 0, .int .i64 0, .int .i64 0, .int .i64 0, .int .i64 0, .int .i64 0, .int .i64 0, .nils, .int .i64 0, .int .i64 0, .nils]
 let z3 := (RlD.mk (Tgt.mk a1 a2 a3 a4) (Tgt.mk b1 b2 b3 b4) (SrcD.mk e si o st ap) k)
 let z4 : List SV := [.int .i64 a1, .int .i64 a2, .int .i64 a3, .int .i64 a4, .int .i64 b1, .int .i64 b2, .int .i64 b3, .int .i64 b4, .int .i64 e, .int .i64 si, .dat o, .int .i64 st, .int .i64 ap, .dat k]
 let z1 : Tree := (.leaf (Conf.mk (SFrm.mk 27 none none [Item.code (cAt Tryz.prog 27 [0]), Item.code (cAt Tryz.prog 27 [1])] (mkJ 1 [(0, .agg z4)] 0 23)) [SFrm.mk 21 (some (opsAt Tryz.prog 21 [1, 1, 1, 0], [2])) (some 37) [Item.code (cAt Tryz.prog 21 [1, 1, 1, 1])] (mkJ 0 [(1, .int .i64 ep), (2, .int .i64 na), (3, .ptr 0 0), (6, .ptr 1 0)] 0 86)] [(0, OBlk.cells 29 z4), (1, OBlk.cells 29 z2)]))
 goS Tryz.prog ctRs (fun _ => false) [(27, 1)] 400 (entry Tryz.prog 21 [.agg [.int .i64 a1, .int .i64 a2, .int .i64 a3, .int .i64 a4, .int .i64 b1, .int .i64 b2, .int .i64 b3, .int .i64 b4, .int .i64 e, .int .i64 si, .dat o, .int .i64 st, .int .i64 ap, .dat k], .int .i64 ep, .int .i64 na]) =
 Tree.need (RlD.Ok z3) (.br (ckRl (RlD.rl z3) != 0) (.ret (SV.tup [.agg z2, .int .i64 (ckRl (RlD.rl z3))])) (.br (decide (ep < a1)) (.ret (SV.tup [.agg z2, .int .i64 13])) (.br (decide (ep > 1073741824))
 (.br (decide (ep > 1073741824)) (.ret (SV.tup [.agg z2, .int .i64 2])) z1) (.br (decide (na < 0)) (.br (decide (na < 0)) (.ret (SV.tup [.agg z2, .int .i64 2])) z1) (.br (decide (na > a4)) (.ret (SV.tup [.agg z2, .int .i64 2])) z1))))) := by
 intros; kernel_rfl

theorem rstA_go : goS Tryz.prog ctRs (fun _ => false) [(44, 8)] 400 (rstA ⟨⟨a1, a2, a3, a4⟩, ⟨b1, b2, b3, b4⟩, ⟨e, si, o, st, ap⟩, k⟩ s d ep na) =
 Tree.leaf
 (Conf.mk
 (SFrm.mk 44 none none
 [Item.code (cAt Tryz.prog 44 [1, 1, 0, 0]), Item.code (cAt Tryz.prog 44 [1, 1, 0, 1]),
 Item.code (cAt Tryz.prog 44 [1, 1, 1])]
 (mkJ 1 [(0, .ptr 0 0), (1, .int .i64 na), (5, .nils)] 0 29))
 [SFrm.mk 21 (some (opsAt Tryz.prog 21 [1, 1, 1, 1, 0], [4, 5, 6, 7])) (some 41)
 [Item.code (cAt Tryz.prog 21 [1, 1, 1, 1, 1])]
 (mkJ 0
 [(1, .int .i64 ep), (2, .int .i64 na), (3, .ptr 1 0), (6, .ptr 2 0), (9, .ptr 0 0),
 (38, .ptr 0 0)]
 0 86)]
 [(0,
 OBlk.cells 68
 [.int .i64 a1, .int .i64 a2, .int .i64 a3, .int .i64 a4,
 .int .i64 b1, .int .i64 b2, .int .i64 b3, .int .i64 b4,
 .int .i64 e, .int .i64 si, .vec 3, .int .i64 st, .int .i64 ap,
 .vec 4]),
 (1,
 OBlk.cells 29
 [.int .i64 a1, .int .i64 a2, .int .i64 a3, .int .i64 a4,
 .int .i64 b1, .int .i64 b2, .int .i64 b3, .int .i64 b4,
 .int .i64 e, .int .i64 si, .dat o, .int .i64 st, .int .i64 ap,
 .dat k]),
 (2,
 OBlk.cells 29
 [.int .i64 0, .int .i64 0, .int .i64 0, .int .i64 0, .int .i64 0,
 .int .i64 0, .int .i64 0, .int .i64 0, .int .i64 0,
 .int .i64 0, .nils, .int .i64 0, .int .i64 0, .nils]),
 (3, OBlk.arr 3 s), (4, OBlk.arr 32 d)]) := by kernel_rfl

end
end Go.Proofs.YtllmgnhjljmihaaGreat
end
section
open Go Go.Proofs Sx
namespace Go.Proofs.YtllmgnhjljmihaaGreat
set_option maxRecDepth 100000
set_option maxHeartbeats 0
noncomputable def rlZ : List SV := [.int .i64 0, .int .i64 0, .int .i64 0, .int .i64 0, .int .i64 0, .int .i64 0, .int .i64 0, .int .i64 0, .int .i64 0, .int .i64 0, .nils, .int .i64 0, .int .i64 0, .nils]
noncomputable def rlV (x : RlD) (O K : SV) : List SV := [.int .i64 x.near.epoch, .int .i64 x.near.site, .int .i64 x.near.stored, .int .i64 x.near.applied, .int .i64 x.far.epoch, .int .i64 x.far.site, .int .i64 x.far.stored, .int .i64 x.far.applied, .int .i64 x.src.e, .int .i64 x.src.s, O, .int .i64 x.src.st, .int .i64 x.src.ap, K]
noncomputable def rstB (x : RlD) (o q : D) (ep na : Int) : Conf := Conf.mk (bhTop na) [SFrm.mk 21 (some (opsAt Tryz.prog 21 [1, 1, 1, 1, 0], [4, 5, 6, 7])) (some 41) [Item.code (cAt Tryz.prog 21 [1, 1, 1, 1, 1])] (mkJ 0 [(1, .int .i64 ep), (2, .int .i64 na), (3, .ptr 1 0), (6, .ptr 2 0), (9, .ptr 0 0), (38, .ptr 0 0)] 0 86)]
 [(0, OBlk.cells 68 (rlV x (.vec 3) (.vec 4))), (1, OBlk.cells 29 (rlCs x)), (2, OBlk.cells 29 rlZ), (3, .arr 3 o), (4, .arr 32 q)]
noncomputable def rstL (x : RlD) (o q : D) (ep na : Int) (r : D) (j : Int) : Conf := Conf.mk (bhLop na (.vec 1) (q.len : Int) j) [SFrm.mk 21 (some (opsAt Tryz.prog 21 [1, 1, 1, 1, 0], [4, 5, 6, 7])) (some 41) [Item.code (cAt Tryz.prog 21 [1, 1, 1, 1, 1])] (mkJ 0 [(1, .int .i64 ep), (2, .int .i64 na), (3, .ptr 2 0), (6, .ptr 3 0), (9, .ptr 4 0), (38, .ptr 4 0)] 0 86)]
 [(0, .arr 32 r), (1, .arr 32 q), (2, OBlk.cells 29 (rlCs x)), (3, OBlk.cells 29 rlZ), (4, OBlk.cells 68 (rlV x (.vec 5) (.vec 1))), (5, .arr 3 o)]
section
variable (d s o k q r : D) (b : Nat) (j a a1 a2 a3 a4 b1 b2 b3 b4 e si st ap ep na : Int)
theorem rstB_go : exec Tryz.prog ctRs 400 (rstB ⟨⟨a1, a2, a3, a4⟩, ⟨b1, b2, b3, b4⟩, ⟨e, si, o, st, ap⟩, k⟩ s q ep na) =
 Tree.leaf
 (Conf.mk
 (SFrm.mk 44 none none
 [Item.inLoop (cAt Tryz.prog 44 [1, 1, 0, 1, 0, 0]), Item.inBlock 0, Item.code (cAt Tryz.prog 44 [1, 1, 1])]
 (mkJ 1
 [(1, .int .i64 na), (5, .nils), (12, .vec 0), (13, .int .i64 (↑(D.len q) : Int)),
 (14, .int .i64 0)]
 0 29))
 [SFrm.mk 21 (some (opsAt Tryz.prog 21 [1, 1, 1, 1, 0], [4, 5, 6, 7])) (some 41)
 [Item.code (cAt Tryz.prog 21 [1, 1, 1, 1, 1])]
 (mkJ 0
 [(1, .int .i64 ep), (2, .int .i64 na), (3, .ptr 1 0), (6, .ptr 2 0), (9, .ptr 3 0),
 (38, .ptr 3 0)]
 0 86)]
 [(0, OBlk.arr 32 q),
 (1,
 OBlk.cells 29
 [.int .i64 a1, .int .i64 a2, .int .i64 a3, .int .i64 a4,
 .int .i64 b1, .int .i64 b2, .int .i64 b3, .int .i64 b4,
 .int .i64 e, .int .i64 si, .dat o, .int .i64 st, .int .i64 ap,
 .dat k]),
 (2,
 OBlk.cells 29
 [.int .i64 0, .int .i64 0, .int .i64 0, .int .i64 0, .int .i64 0,
 .int .i64 0, .int .i64 0, .int .i64 0, .int .i64 0,
 .int .i64 0, .nils, .int .i64 0, .int .i64 0, .nils]),
 (3,
 OBlk.cells 68
 [.int .i64 a1, .int .i64 a2, .int .i64 a3, .int .i64 a4,
 .int .i64 b1, .int .i64 b2, .int .i64 b3, .int .i64 b4,
 .int .i64 e, .int .i64 si, .vec 4, .int .i64 st, .int .i64 ap,
 .vec 0]),
 (4, OBlk.arr 3 s)]) := by kernel_rfl

theorem rstL_go : 
 let z1 : List SV := [.int .i64 0, .int .i64 0, .int .i64 0, .int .i64 0, .int .i64 0, .int .i64 0, .int .i64 0, .int .i64 0, .int .i64 0, .int .i64 0, .nils, .int .i64 0, .int .i64 0, .nils]
 let z2 := (SFrm.mk 44 none none [Item.inLoop (cAt Tryz.prog 44 [1, 1, 0, 1, 0, 0]), Item.inBlock 0, Item.code (cAt Tryz.prog 44 [1, 1, 1])] (mkJ 1 [(1, .int .i64 na), (5, .vec 0), (12, .vec 1), (13, .int .i64 (↑(D.len q) : Int)), (14, .int .i64 (IntKind.wrap .i64 (j + 1)))] 0 29))
 let z3 : List SV := [.int .i64 a1, .int .i64 a2, .int .i64 a3, .int .i64 a4, .int .i64 b1, .int .i64 b2, .int .i64 b3, .int .i64 b4, .int .i64 e, .int .i64 si, .vec 5, .int .i64 st, .int .i64 ap, .vec 1]
 let z4 : List SV := [.int .i64 a1, .int .i64 a2, .int .i64 a3, .int .i64 a4, .int .i64 b1, .int .i64 b2, .int .i64 b3, .int .i64 b4, .int .i64 e, .int .i64 si, .dat o, .int .i64 st, .int .i64 ap, .dat k]
 exec Tryz.prog ctRs 600 (unroll (rstL ⟨⟨a1, a2, a3, a4⟩, ⟨b1, b2, b3, b4⟩, ⟨e, si, o, st, ap⟩, k⟩ s q ep na r j)) =
 Tree.br (decide (j < (↑(D.len q) : Int))) (.need (0 ≤ j ∧ j < (↑(D.len q) : Int) ∧ D.sz q = 5) (.need (D.HasCells q (Int.toNat j) 0 [FT.int .i64, FT.int .i64, FT.int .i64, FT.slc, FT.slc] ∧ D.sz q = 5)
 (.br (decide (D.getInt q (Int.toNat j) 1 > na)) (.need (CyD.Ok (CyD.mk (D.getInt q (Int.toNat j) 0) (D.getInt q (Int.toNat j) 1) (D.getInt q (Int.toNat j) 2) (D.cell q (Int.toNat j) 3) (D.cell q (Int.toNat j) 4)))
 (.all fun hs => .all fun hs_1 => .need (D.sz r = 5 ∧ D.Fits (D.slc (D.hd (hs_1 0 0)) 5 [[D.int .i64 (D.getInt q (Int.toNat j) 0), D.int .i64 (D.getInt q (Int.toNat j) 1), D.int .i64 (D.getInt q (Int.toNat j) 2), D.like
 (hs 0 0) (D.to Int (D.cell q (Int.toNat j) 3)), D.like (hs 0 1) (D.to Wt (D.cell q (Int.toNat j) 4))]]) 5 ∧ (D.len r + D.len (D.slc (D.hd (hs_1 0 0)) 5 [[D.int .i64 (D.getInt q (Int.toNat j) 0), D.int .i64
 (D.getInt q (Int.toNat j) 1), D.int .i64 (D.getInt q (Int.toNat j) 2), D.like (hs 0 0) (D.to Int (D.cell q (Int.toNat j) 3)), D.like (hs 0 1) (D.to Wt (D.cell q (Int.toNat j) 4))]])) * 72 ≤ 140737488355328 ∧ D.len r + D.len
 (D.slc (D.hd (hs_1 0 0)) 5 [[D.int .i64 (D.getInt q (Int.toNat j) 0), D.int .i64 (D.getInt q (Int.toNat j) 1), D.int .i64 (D.getInt q (Int.toNat j) 2), D.like (hs 0 0) (D.to Int (D.cell q (Int.toNat j) 3)), D.like
 (hs 0 1) (D.to Wt (D.cell q (Int.toNat j) 4))]]) ≤ 9223372036854775807) (.all fun hs_2 => .leaf (Conf.mk z2 [SFrm.mk 21 (some (opsAt Tryz.prog 21 [1, 1, 1, 1, 0], [4, 5, 6, 7])) (some 41) [Item.code (cAt Tryz.prog 21 [1, 1, 1, 1, 1])]
 (mkJ 0 [(1, .int .i64 ep), (2, .int .i64 na), (3, .ptr 2 0), (6, .ptr 3 0), (9, .ptr 4 0), (38, .ptr 4 0)] 0 86)] [(0, OBlk.arr 32 (D.slc (D.hd (hs_2 0 0)) 5 (List.append (D.rows r) (D.rows (D.slc (D.hd
 (hs_1 0 0)) 5 [[D.int .i64 (D.getInt q (Int.toNat j) 0), D.int .i64 (D.getInt q (Int.toNat j) 1), D.int .i64 (D.getInt q (Int.toNat j) 2), D.like (hs 0 0) (D.to Int (D.cell q (Int.toNat j) 3)), D.like
 (hs 0 1) (D.to Wt (D.cell q (Int.toNat j) 4))]]))))), (1, OBlk.arr 32 q), (2, OBlk.cells 29 z4), (3, OBlk.cells 29 z1), (4, OBlk.cells 68 z3), (5, OBlk.arr 3 s)])))) (.leaf (Conf.mk z2 [SFrm.mk 21 (some
 (opsAt Tryz.prog 21 [1, 1, 1, 1, 0], [4, 5, 6, 7])) (some 41) [Item.code (cAt Tryz.prog 21 [1, 1, 1, 1, 1])] (mkJ 0 [(1, .int .i64 ep), (2, .int .i64 na), (3, .ptr 2 0), (6, .ptr 3 0), (9, .ptr 4 0), (38, .ptr 4 0)] 0 86)] [(0, OBlk.arr 32 r),
 (1, OBlk.arr 32 q), (2, OBlk.cells 29 z4), (3, OBlk.cells 29 z1), (4, OBlk.cells 68 z3), (5, OBlk.arr 3 s)]))))) (.need (D.Is Cy r ∧ D.len r ≤ 1048576) (.all fun hs => .br (!Prod.snd (leadsI (D.to Cy r) na))
 (.ret (SV.tup [.agg z1, .int .i64 15])) (.br (Prod.fst (leadsI (D.to Cy r) na) != a4) (.ret (SV.tup [.agg z1, .int .i64 15])) (.all fun hs => .need (D.Is Cy r ∧ D.len r ≤ 1048576) (.all fun hs_1 => .ret
 (SV.tup [.agg [.int .i64 ep, .int .i64 a2, .int .i64 a3, .int .i64 a4, .int .i64 ep, .int .i64 b2, .int .i64 na, .int .i64 na, .int .i64 ep, .int .i64 si, .dat (D.like (hs 9 0) (List.map Cy.number (D.to Cy r))), .int .i64 na, .int .i64 na, .dat r], .int .i64 0])))))) := by
 intros; kernel_rfl

end
end Go.Proofs.YtllmgnhjljmihaaGreat
end
section
open Go Go.Proofs Sx
namespace Go.Proofs.YtllmgnhjljmihaaGreat
set_option maxRecDepth 100000
theorem ctRsOk : Ctrs.Ok Tryz.prog ctRs := by
  intro x hx
  simp only [ctRs, List.mem_cons, List.not_mem_nil, or_false] at hx
  rcases hx with rfl | rfl | rfl | rfl
  · exact ctrOf_ok lawCk
  · exact ctrOf_ok lawLead
  · exact ctrOf_ok lawOff
  · exact ctrOf_ok lawCpC
theorem rst_bad {P : Program} {w : World} {H : HV} {r : Rl × Int} {m : Int} (h : r = (zRl, m)) : (Tree.ret (.tup [.agg rlZ, .int .i64 m])).holds P ⟨w, H⟩ (RetD w H fun ds => .tup [.agg (rlL (ds 0) (ds 1) r.1), .int .i64 r.2]) :=
  ret_rl stands_nils stands_nils (by rw [h]; rfl)
theorem lawRst : Law Tryz.prog 21 ((rdRl.three rdInt rdInt).sp spRestartRl) := by
  refine law_in _ (by kernel_rfl) fun H w ⟨⟨⟨a1, a2, a3, a4⟩, ⟨b1, b2, b3, b4⟩, ⟨e, s, o, st, ap⟩, k⟩, ep, na⟩ hok hp => ?_
  have hx := hp _ (List.mem_singleton.2 rfl)
  apply goS_sound ctRsOk (fun _ => false) [(27, 1)] 400
  rw [show (rdRl.three rdInt rdInt).canon (⟨⟨a1, a2, a3, a4⟩, ⟨b1, b2, b3, b4⟩, ⟨e, s, o, st, ap⟩, k⟩, ep, na) = [.agg [.int .i64 a1, .int .i64 a2, .int .i64 a3, .int .i64 a4, .int .i64 b1, .int .i64 b2, .int .i64 b3, .int .i64 b4, .int .i64 e, .int .i64 s, .dat o, .int .i64 st, .int .i64 ap, .dat k], .int .i64 ep, .int .i64 na] from rfl, rst_in]
  show Tree.holds _ _ (RetD w H fun ds => .tup [.agg (rlL (ds 0) (ds 1) (restartRl (RlD.rl ⟨⟨a1, a2, a3, a4⟩, ⟨b1, b2, b3, b4⟩, ⟨e, s, o, st, ap⟩, k⟩) ep na).1), .int .i64 (restartRl (RlD.rl ⟨⟨a1, a2, a3, a4⟩, ⟨b1, b2, b3, b4⟩, ⟨e, s, o, st, ap⟩, k⟩) ep na).2]) _
  generalize hxx : (RlD.mk ⟨a1, a2, a3, a4⟩ ⟨b1, b2, b3, b4⟩ ⟨e, s, o, st, ap⟩ k) = x at *
  have x1 : x.rl.near.epoch = a1 := by rw [← hxx]; rfl
  have x4 : x.rl.near.applied = a4 := by rw [← hxx]; rfl
  refine ⟨hx, fun c1 => rst_bad ?_, fun c1 => ⟨fun c2 => rst_bad ?_, fun c2 => ⟨fun c3 => ⟨fun _ => rst_bad ?_, fun c4 => by rw [c3] at c4; cases c4⟩, fun c3 => ⟨fun c4 => ⟨fun _ => rst_bad ?_, fun c5 => by rw [c4] at c5; cases c5⟩, fun c4 => ⟨fun c5 => rst_bad ?_, fun c5 => ?_⟩⟩⟩⟩⟩
  · have c1 : ckRl x.rl ≠ 0 := by simpa using c1
    unfold restartRl; rw [if_pos c1]
  all_goals (have c1' : ¬ckRl x.rl ≠ 0 := by simpa using c1)
  · have c2 : ep < a1 := of_decide_eq_true c2
    unfold restartRl; rw [if_neg c1', if_pos (by rw [x1]; exact c2)]
  all_goals (have c2' : ¬ep < x.rl.near.epoch := by rw [x1]; exact of_decide_eq_false c2)
  · unfold restartRl; rw [if_neg c1', if_neg c2', if_pos (.inl (of_decide_eq_true c3))]
  · unfold restartRl; rw [if_neg c1', if_neg c2', if_pos (.inr (.inl (of_decide_eq_true c4)))]
  · unfold restartRl; rw [if_neg c1', if_neg c2', if_pos (.inr (.inr (by rw [x4]; exact of_decide_eq_true c5)))]
  have c1 : ckRl x.rl = 0 := by simpa using c1'
  have c345 : ¬(ep > 1073741824 ∨ na < 0 ∨ na > x.rl.near.applied) := by
    have := of_decide_eq_false c3; have := of_decide_eq_false c4; have := of_decide_eq_false c5
    rw [x4]; omega
  have hre : restartRl x.rl ep na = if (leadsI (behindL (x.k.to Cy) na) na).2 = false ∨ (leadsI (behindL (x.k.to Cy) na) na).1 ≠ a4 then (zRl, 15)
      else (⟨⟨ep, a2, a3, a4⟩, ⟨ep, b2, na, na⟩, ⟨ep, s, (behindL (x.k.to Cy) na).map Cy.number, na, na⟩, behindL (x.k.to Cy) na⟩, 0) := by
    unfold restartRl; rw [if_neg c1', if_neg c2', if_neg c345]
    rw [← hxx]; rfl
  rw [hre]
  obtain ⟨_, _, _, hf⟩ := ck_range c1
  have hmin : ∀ c, c ∈ x.k.to Cy → c.number > -9223372036854775808 := fun c hc => by
    have := cy_num (ck_cy hf c hc); omega
  obtain ⟨h1, h2, h3, h4, h5⟩ := id hx
  subst hxx
  refine runs_frame (Φ := bgPhi ⟨⟨a1, a2, a3, a4⟩, ⟨b1, b2, b3, b4⟩, ⟨e, s, o, st, ap⟩, k⟩) (top := bgC ⟨⟨a1, a2, a3, a4⟩, ⟨b1, b2, b3, b4⟩, ⟨e, s, o, st, ap⟩, k⟩) bgC_pure (fun kx hk => ?_) (fun H w _ => bgRuns hx hmin) fun v m hv => ?_
  · have h : (SV.keysL (mkJ 0 [(1, .int .i64 ep), (2, .int .i64 na), (3, SV.ptr 0 0), (6, SV.ptr 1 0)] 0 86) ++ ((([] : List SFrm).flatMap fun f => SV.keysL f.tmps) ++ Mem.named [(0, OBlk.cells 29 [.int .i64 a1, .int .i64 a2, .int .i64 a3, .int .i64 a4, .int .i64 b1, .int .i64 b2, .int .i64 b3, .int .i64 b4, .int .i64 e, .int .i64 s, .dat o, .int .i64 st, .int .i64 ap, .dat k]), (1, OBlk.cells 29 rlZ)])).all (fun k => decide (k < 500)) = true := by kernel_rfl
    exact of_decide_eq_true (List.all_eq_true.1 h kx hk)
  · obtain ⟨rfl, p, q, rfl, ⟨p1, p2, p3⟩, q1, q2, q3⟩ := hv
    show Runs _ _ (rstA ⟨⟨a1, a2, a3, a4⟩, ⟨b1, b2, b3, b4⟩, ⟨e, s, o, st, ap⟩, k⟩ p q ep na) _
    apply goS_sound ctRsOk (fun _ => false) [(44, 8)] 400
    rw [rstA_go]
    show Runs _ _ (rstB ⟨⟨a1, a2, a3, a4⟩, ⟨b1, b2, b3, b4⟩, ⟨e, s, o, st, ap⟩, k⟩ p q ep na) _
    apply exec_sound ctRsOk 400
    rw [rstB_go]
    simp only at h1 h2 h3 h4 h5 q3
    have kl := D.Is.length (α := Cy) k
    have ql := D.Is.length (α := Cy) q
    have hql : q.len ≤ 1048576 := by rw [ql, q3]; omega
    refine vecIn_to 9 32 5 none 5 (rstL ⟨⟨a1, a2, a3, a4⟩, ⟨b1, b2, b3, b4⟩, ⟨e, s, o, st, ap⟩, k⟩ p q ep na (.slc none 5 []) 0) (by kernel_rfl) ?_
    apply beh_loop true q1 hql (by rw [q3]; exact h5) na (fun r j => rstL ⟨⟨a1, a2, a3, a4⟩, ⟨b1, b2, b3, b4⟩, ⟨e, s, o, st, ap⟩, k⟩ p q ep na r j)
    · exact fun _ _ => rfl
    · intro r j hh
      apply exec_sound ctRsOk 600
      rw [rstL_go]
      exact hh
    · intro r hr hz hto
      rw [q3] at hto
      have rl := D.Is.length (α := Cy) r
      have hrl : r.len ≤ 1048576 := by
        rw [rl, hto]
        refine Nat.le_trans (List.length_filter_le _ _) ?_
        omega
      simp only [hto]
      refine ⟨⟨hr, hrl⟩, fun _ => ⟨fun d1 => rst_bad ?_, fun d1 => ⟨fun d2 => rst_bad ?_, fun d2 hs => ⟨⟨hr, hrl⟩, fun hs1 => ret_rl stands_like (stands_dat hr hto) ?_⟩⟩⟩⟩
      · have d1 : (leadsI (behindL (k.to Cy) na) na).2 = false := by simpa using d1
        rw [if_pos (.inl d1)]
      · have d2 : (leadsI (behindL (k.to Cy) na) na).1 ≠ a4 := by simpa using d2
        rw [if_pos (.inr d2)]
      · have d1 : (leadsI (behindL (k.to Cy) na) na).2 = true := by simpa using d1
        have d2 : (leadsI (behindL (k.to Cy) na) na).1 = a4 := by simpa using d2
        rw [if_neg (by rw [d1, d2]; simp)]
end Go.Proofs.YtllmgnhjljmihaaGreat
end
section
open Go Go.Proofs Sx
namespace Go.Proofs.YtllmgnhjljmihaaGreat
set_option maxRecDepth 100000
set_option maxHeartbeats 0
noncomputable def ctAp : Ctrs := [(24, ctrOf (rdRl.one.sp spCkRl)), (26, ctrOf (rdNone.sp spMost)), (25, ctrOf ((rdCy.two rdD).sp spCyCk)), (29, ctrOf ((rdSrc.two rdInt).sp spOffer)), (42, ctrOf ((rdSrc.two rdMsg).sp spLearn)), (30, ctrOf (rdCy.one.sp spCpC))]
section
variable (d s o k p q mb ml : D) (b : Nat) (j a a1 a2 a3 a4 b1 b2 b3 b4 e si st ap ep na cb cn ct mk mf mt mn mv me : Int)
theorem apl_in : goS Tryz.prog ctAp (fun _ => false) [(27, 1)] 400 (entry Tryz.prog 8 [.agg [.int .i64 a1, .int .i64 a2, .int .i64 a3, .int .i64 a4, .int .i64 b1, .int .i64 b2, .int .i64 b3, .int .i64 b4, .int .i64 e, .int .i64 si, .dat o, .int .i64 st, .int .i64 ap, .dat k], .agg [.int .i64 cb, .int .i64 cn, .int .i64 ct, .dat p, .dat q]]) =
 Tree.need (RlD.Ok (RlD.mk (Tgt.mk a1 a2 a3 a4) (Tgt.mk b1 b2 b3 b4) (SrcD.mk e si o st ap) k))
 (.br (ckRl (RlD.rl (RlD.mk (Tgt.mk a1 a2 a3 a4) (Tgt.mk b1 b2 b3 b4) (SrcD.mk e si o st ap) k)) != 0)
 (.ret
 (SV.tup
 [.agg
 [.int .i64 0, .int .i64 0, .int .i64 0, .int .i64 0,
 .int .i64 0, .int .i64 0, .int .i64 0, .int .i64 0,
 .int .i64 0, .int .i64 0, .nils, .int .i64 0, .int .i64 0, .nils],
 .nils,
 .int .i64
 (ckRl (RlD.rl (RlD.mk (Tgt.mk a1 a2 a3 a4) (Tgt.mk b1 b2 b3 b4) (SrcD.mk e si o st ap) k)))]))
 (.all fun hs =>
 .need
 (CyD.Ok (CyD.mk cb cn ct p q) ∧ D.Is Int (D.like (hs 1 0) most) ∧ D.len (D.like (hs 1 0) most) ≤ 1048576)
 (.br (cyErr (CyD.cy (CyD.mk cb cn ct p q)) (D.to Int (D.like (hs 1 0) most)) != 0)
 (.ret
 (SV.tup
 [.agg
 [.int .i64 0, .int .i64 0, .int .i64 0, .int .i64 0,
 .int .i64 0, .int .i64 0, .int .i64 0, .int .i64 0,
 .int .i64 0, .int .i64 0, .nils, .int .i64 0, .int .i64 0,
 .nils],
 .nils, .int .i64 (cyErr (CyD.cy (CyD.mk cb cn ct p q)) (D.to Int (D.like (hs 1 0) most)))]))
 (.br (decide (cn ≤ a4))
 (.ret
 (SV.tup
 [.agg
 [.int .i64 0, .int .i64 0, .int .i64 0, .int .i64 0,
 .int .i64 0, .int .i64 0, .int .i64 0, .int .i64 0,
 .int .i64 0, .int .i64 0, .nils, .int .i64 0, .int .i64 0,
 .nils],
 .nils, .int .i64 8]))
 (.br (decide (cb > a4))
 (.ret
 (SV.tup
 [.agg
 [.int .i64 0, .int .i64 0, .int .i64 0, .int .i64 0,
 .int .i64 0, .int .i64 0, .int .i64 0, .int .i64 0,
 .int .i64 0, .int .i64 0, .nils, .int .i64 0, .int .i64 0,
 .nils],
 .nils, .int .i64 15]))
 (.leaf
 (Conf.mk
 (SFrm.mk 27 none none [Item.code (cAt Tryz.prog 27 [0]), Item.code (cAt Tryz.prog 27 [1])]
 (mkJ 1
 [(0,
 .agg
 [.int .i64 a1, .int .i64 a2, .int .i64 a3, .int .i64 a4,
 .int .i64 b1, .int .i64 b2, .int .i64 b3,
 .int .i64 b4, .int .i64 e, .int .i64 si, .dat o,
 .int .i64 st, .int .i64 ap, .dat k])]
 0 23))
 [SFrm.mk 8 (some (opsAt Tryz.prog 8 [1, 1, 1, 1, 0], [2])) (some 43)
 [Item.code (cAt Tryz.prog 8 [1, 1, 1, 1, 1])] (mkJ 0 [(3, .ptr 0 0), (4, .ptr 1 0)] 0 106)]
 [(0,
 OBlk.cells 32
 [.int .i64 cb, .int .i64 cn, .int .i64 ct, .dat p, .dat q]),
 (1,
 OBlk.cells 29
 [.int .i64 0, .int .i64 0, .int .i64 0, .int .i64 0,
 .int .i64 0, .int .i64 0, .int .i64 0, .int .i64 0,
 .int .i64 0, .int .i64 0, .nils, .int .i64 0,
 .int .i64 0, .nils])]))))))) := by kernel_rfl

theorem cln_in : goS Tryz.prog ctAp (fun _ => false) [(27, 1)] 400 (entry Tryz.prog 12 [.agg [.int .i64 a1, .int .i64 a2, .int .i64 a3, .int .i64 a4, .int .i64 b1, .int .i64 b2, .int .i64 b3, .int .i64 b4, .int .i64 e, .int .i64 si, .dat o, .int .i64 st, .int .i64 ap, .dat k], .agg [.int .i64 mk, .int .i64 mf, .int .i64 mt, .int .i64 mn, .int .i64 mv, .int .i64 me, .dat mb, .dat ml]]) =
 Tree.need (RlD.Ok (RlD.mk (Tgt.mk a1 a2 a3 a4) (Tgt.mk b1 b2 b3 b4) (SrcD.mk e si o st ap) k))
 (.br (ckRl (RlD.rl (RlD.mk (Tgt.mk a1 a2 a3 a4) (Tgt.mk b1 b2 b3 b4) (SrcD.mk e si o st ap) k)) != 0)
 (.ret
 (SV.tup
 [.agg
 [.int .i64 a1, .int .i64 a2, .int .i64 a3, .int .i64 a4,
 .int .i64 b1, .int .i64 b2, .int .i64 b3, .int .i64 b4,
 .int .i64 e, .int .i64 si, .dat o, .int .i64 st, .int .i64 ap,
 .dat k],
 .nils]))
 (.leaf
 (Conf.mk
 (SFrm.mk 27 none none [Item.code (cAt Tryz.prog 27 [0]), Item.code (cAt Tryz.prog 27 [1])]
 (mkJ 1
 [(0,
 .agg
 [.int .i64 a1, .int .i64 a2, .int .i64 a3, .int .i64 a4,
 .int .i64 b1, .int .i64 b2, .int .i64 b3, .int .i64 b4,
 .int .i64 e, .int .i64 si, .dat o, .int .i64 st, .int .i64 ap,
 .dat k])]
 0 23))
 [SFrm.mk 12 (some (opsAt Tryz.prog 12 [1, 1, 0], [2])) (some 15) [Item.code (cAt Tryz.prog 12 [1, 1, 1])]
 (mkJ 0 [(3, .ptr 0 0), (4, .ptr 1 0)] 0 60)]
 [(0,
 OBlk.cells 47
 [.int .i64 mk, .int .i64 mf, .int .i64 mt, .int .i64 mn,
 .int .i64 mv, .int .i64 me, .dat mb, .dat ml]),
 (1,
 OBlk.cells 29
 [.int .i64 0, .int .i64 0, .int .i64 0, .int .i64 0,
 .int .i64 0, .int .i64 0, .int .i64 0, .int .i64 0,
 .int .i64 0, .int .i64 0, .nils, .int .i64 0, .int .i64 0,
 .nils])]))) := by kernel_rfl

end
end Go.Proofs.YtllmgnhjljmihaaGreat
end
section
namespace Sx
open Go RowKit
def svD : SV → Option D
  | .int k n => some (.int k n)
  | .bool b => some (.bool b)
  | .lb b => some (.bool b)
  | .str s => some (.str s)
  | .nils => some (.slc none 0 [])
  | .dat d => some d
  | _ => none
def rowOfD : List SV → Option (List D)
  | [] => some []
  | x :: r => match svD x with
    | some d => match rowOfD r with
      | some l => some (d :: l)
      | none => none
    | none => none
theorem svD_spec {E : Env} {H : HV} {x : SV} {d : D} (h : svD x = some d) (hok : x.Ok H) : d.val = x.den E ∧ d.Ok H := by
  cases x <;> simp only [svD, Option.some.injEq, reduceCtorEq] at h <;> subst h
  · exact ⟨rfl, .int _ _⟩
  · exact ⟨rfl, .bool _⟩
  · exact ⟨by simp [D.val, SV.den], .bool _⟩
  · exact ⟨rfl, .str _⟩
  · exact ⟨by simp [D.val, SV.den, hval], .nil 0⟩
  · exact ⟨by simp [SV.den], hok.1⟩
theorem rowOfD_spec {E : Env} {H : HV} : ∀ {l : List SV} {row : List D}, rowOfD l = some row → SV.OkL H l → row.map D.val = SV.denL E l ∧ ∀ d, d ∈ row → d.Ok H
  | [], row, h, _ => by cases h; exact ⟨by simp [SV.denL], by simp⟩
  | x :: r, row, h, hok => by
    unfold rowOfD at h
    split at h
    · rename_i d hd
      split at h
      · rename_i l hl
        cases h
        obtain ⟨a1, a2⟩ := svD_spec (E := E) hd hok.1
        obtain ⟨b1, b2⟩ := rowOfD_spec (E := E) hl hok.2
        refine ⟨by simp [SV.denL, a1, b1], fun y hy => ?_⟩
        rcases List.mem_cons.1 hy with rfl | hy
        · exact a2
        · exact b2 y hy
      · cases h
    · cases h
def qCtr (spec : List D → SpecR) : Ctr := fun args _ m => match args with
  | [.ptr k 0] => match m.get k with
    | some (.cells _ cs) => match rowOfD (closeL (pubsR (leavesL cs) m) cs) with
      | some row => match spec row with
        | .scalar ps v => match v.flat with
          | true => .val ps v m
          | false => .bad
        | _ => .bad
      | none => .bad
    | _ => .bad
  | _ => .bad
def QLaw (P : Program) (f : FuncId) (spec : List D → SpecR) : Prop :=
  Bodied P f = true ∧ ∀ (H : HV) (w : World) (b : Nat) (row : List D), (rowD b row).Ok H → match spec row with
    | .scalar ps v => (∀ p, p ∈ ps → p) → Runs P ⟨w, H⟩ (entry P f [.elt (rowD b row) 0 0]) (RetS w H v)
    | _ => True
end Sx
end
section
open Go Go.Proofs Sx
namespace Sx
def frontI (a : Int) (l : List Cy) : Int := (l.map Cy.number).getLastD a
def spFront (row : List D) : SpecR := match row with
 | [_, _, _, _, _, _, _, _, _, _, _, _, .int .i64 a, .slc h z r] => .scalar [(D.slc h z r).Is Cy ∧ (D.slc h z r).len ≤ 1048576] (.int .i64 (frontI a ((D.slc h z r).to Cy)))
 | _ => .no
end Sx
namespace Go.Proofs.YtllmgnhjljmihaaGreat
set_option maxRecDepth 100000
set_option maxHeartbeats 0
section
variable (c1 c2 c3 c4 c5 c6 c7 c8 c9 c10 c11 c12 k : D) (b : Nat) (a : Int)
theorem frt_in : exec Tryz.prog [] 300 (entry Tryz.prog 28 [.elt (rowD b [c1, c2, c3, c4, c5, c6, c7, c8, c9, c10, c11, c12, .int .i64 a, k]) 0 0]) =
 Tree.need (D.HasCell (rowD b [c1, c2, c3, c4, c5, c6, c7, c8, c9, c10, c11, c12, D.int .i64 a, k]) 0 13 FT.slc)
 (.br
 (decide
 ((↑(D.len (D.cell (rowD b [c1, c2, c3, c4, c5, c6, c7, c8, c9, c10, c11, c12, D.int .i64 a, k]) 0 13)) :
 Int) >
 0))
 (.need
 (D.HasCell (rowD b [c1, c2, c3, c4, c5, c6, c7, c8, c9, c10, c11, c12, D.int .i64 a, k]) 0 13 FT.slc)
 (.need
 (0 ≤
 IntKind.wrap .i64
 ((↑(D.len
 (D.cell (rowD b [c1, c2, c3, c4, c5, c6, c7, c8, c9, c10, c11, c12, D.int .i64 a, k]) 0
 13)) :
 Int) -
 1) ∧
 IntKind.wrap .i64
 ((↑(D.len
 (D.cell (rowD b [c1, c2, c3, c4, c5, c6, c7, c8, c9, c10, c11, c12, D.int .i64 a, k]) 0
 13)) :
 Int) -
 1) <
 (↑(D.len
 (D.cell (rowD b [c1, c2, c3, c4, c5, c6, c7, c8, c9, c10, c11, c12, D.int .i64 a, k]) 0
 13)) :
 Int) ∧
 D.sz (D.cell (rowD b [c1, c2, c3, c4, c5, c6, c7, c8, c9, c10, c11, c12, D.int .i64 a, k]) 0 13) = 5)
 (.need
 (D.HasCell (D.cell (rowD b [c1, c2, c3, c4, c5, c6, c7, c8, c9, c10, c11, c12, D.int .i64 a, k]) 0 13)
 (Int.toNat
 (IntKind.wrap .i64
 ((↑(D.len
 (D.cell (rowD b [c1, c2, c3, c4, c5, c6, c7, c8, c9, c10, c11, c12, D.int .i64 a, k]) 0
 13)) :
 Int) -
 1)))
 1 (FT.int .i64))
 (.ret
 (.int .i64
 (D.getInt
 (D.cell (rowD b [c1, c2, c3, c4, c5, c6, c7, c8, c9, c10, c11, c12, D.int .i64 a, k]) 0 13)
 (Int.toNat
 (IntKind.wrap .i64
 ((↑(D.len
 (D.cell (rowD b [c1, c2, c3, c4, c5, c6, c7, c8, c9, c10, c11, c12, D.int .i64 a, k])
 0 13)) :
 Int) -
 1)))
 1))))))
 (.need
 (D.HasCell (rowD b [c1, c2, c3, c4, c5, c6, c7, c8, c9, c10, c11, c12, D.int .i64 a, k]) 0 12
 (FT.int .i64))
 (.ret
 (.int .i64
 (D.getInt (rowD b [c1, c2, c3, c4, c5, c6, c7, c8, c9, c10, c11, c12, D.int .i64 a, k]) 0 12))))) := by kernel_rfl

end
end Go.Proofs.YtllmgnhjljmihaaGreat
end
section
open Go Go.Proofs Sx
namespace Go.Proofs.YtllmgnhjljmihaaGreat
set_option maxRecDepth 100000
theorem front_get {a : Int} {l : List Cy} (h : 0 < l.length) : frontI a l = (l[l.length - 1]'(by omega)).number := by
  unfold frontI
  rw [List.getLastD_eq_getLast?, List.getLast?_eq_getElem?, List.length_map, List.getElem?_map, List.getElem?_eq_getElem (by omega)]
  rfl
theorem lawFront : QLaw Tryz.prog 28 spFront := by
  refine ⟨by kernel_rfl, fun H w b row hrow => ?_⟩
  split
  · rename_i ps v heq
    intro hp
    unfold spFront at heq
    split at heq
    case h_2 => cases heq
    rename_i c1 c2 c3 c4 c5 c6 c7 c8 c9 c10 c11 c12 a h z r
    cases heq
    obtain ⟨hk, hlen⟩ := hp _ (List.mem_singleton.2 rfl)
    apply exec_sound (noCtr _) 300
    rw [frt_in]
    have ek : (rowD b [c1, c2, c3, c4, c5, c6, c7, c8, c9, c10, c11, c12, .int .i64 a, D.slc h z r]).cell 0 13 = D.slc h z r := rfl
    have ea : (rowD b [c1, c2, c3, c4, c5, c6, c7, c8, c9, c10, c11, c12, .int .i64 a, D.slc h z r]).getInt 0 12 = a := rfl
    have n1 : (rowD b [c1, c2, c3, c4, c5, c6, c7, c8, c9, c10, c11, c12, .int .i64 a, D.slc h z r]).HasCell 0 13 .slc := ⟨h, z, r, rfl⟩
    have n2 : (rowD b [c1, c2, c3, c4, c5, c6, c7, c8, c9, c10, c11, c12, .int .i64 a, D.slc h z r]).HasCell 0 12 (.int .i64) := ⟨a, rfl⟩
    rw [ek, ea]
    generalize D.slc h z r = k at *
    have kl := D.Is.length (α := Cy) k
    refine ⟨n1, fun c => ?_, fun c => ⟨n2, ret_int ?_⟩⟩
    · have c : 0 < (k.to Cy).length := by have := of_decide_eq_true c; omega
      have hlt : (k.to Cy).length - 1 < (k.to Cy).length := by omega
      have ew : IntKind.i64.wrap ((k.len : Int) - 1) = (((k.to Cy).length - 1 : Nat) : Int) := by rw [wrap64 (by omega) (by omega)]; omega
      obtain ⟨q1, _, _, q4⟩ := cy_cell hk hlt
      rw [ew]
      refine ⟨n1, ⟨by omega, by omega, hk.size c⟩, q1.2.1, ret_int ?_⟩
      rw [front_get c, q4]; rfl
    · have c : (k.to Cy) = [] := List.eq_nil_of_length_eq_zero (by have := of_decide_eq_false c; omega)
      rw [c]; rfl
  · trivial
end Go.Proofs.YtllmgnhjljmihaaGreat
end
section
open Go Go.Proofs Sx
namespace Go.Proofs.YtllmgnhjljmihaaGreat
set_option maxRecDepth 100000
set_option maxHeartbeats 0
noncomputable def aplA (x : RlD) (o q : D) (cb cn ct : Int) (cp cw : D) : Conf := Conf.mk (SFrm.mk 8 (some (opsAt Tryz.prog 8 [1, 1, 1, 1, 0], [2])) none [Item.code (cAt Tryz.prog 8 [1, 1, 1, 1, 1])] (putS (mkJ 0 [(3, .ptr 0 0), (4, .ptr 1 0)] 0 106) (some 43) (.ptr 502 0))) []
 (bgN x o q ++ [(0, OBlk.cells 32 [.int .i64 cb, .int .i64 cn, .int .i64 ct, .dat cp, .dat cw]), (1, OBlk.cells 29 rlZ)])
noncomputable def clnA (x : RlD) (o q : D) (mk mf mt mn mv me : Int) (mb ml : D) : Conf := Conf.mk (SFrm.mk 12 (some (opsAt Tryz.prog 12 [1, 1, 0], [2])) none [Item.code (cAt Tryz.prog 12 [1, 1, 1])] (putS (mkJ 0 [(3, .ptr 0 0), (4, .ptr 1 0)] 0 60) (some 15) (.ptr 502 0))) []
 (bgN x o q ++ [(0, OBlk.cells 47 [.int .i64 mk, .int .i64 mf, .int .i64 mt, .int .i64 mn, .int .i64 mv, .int .i64 me, .dat mb, .dat ml]), (1, OBlk.cells 29 rlZ)])
noncomputable def nxA (x : RlD) (n : Int) : Conf := Conf.mk (bhTop n) [SFrm.mk 14 (some (opsAt Tryz.prog 14 [1, 1, 0], [7])) (some 15) [Item.code (cAt Tryz.prog 14 [1, 1, 1])] (mkJ 0 [(2, .ptr 1 0)] 0 23)] [(0, OBlk.cells 68 (rlCs x)), (1, OBlk.cells 32 [.int .i64 0, .int .i64 0, .int .i64 0, .nils, .nils])]
noncomputable def nxL (x : RlD) (n : Int) (r : D) (j : Int) : Conf := Conf.mk (bhLop n (.dat x.k) (x.k.len : Int) j) [SFrm.mk 14 (some (opsAt Tryz.prog 14 [1, 1, 0], [7])) (some 15) [Item.code (cAt Tryz.prog 14 [1, 1, 1])] (mkJ 0 [(2, .ptr 1 0)] 0 23)] [(0, .arr 32 r), (1, OBlk.cells 32 [.int .i64 0, .int .i64 0, .int .i64 0, .nils, .nils])]
section
variable (d s o k p q mb ml cp cw r : D) (b : Nat) (n j a a1 a2 a3 a4 b1 b2 b3 b4 e si st ap ep na cb cn ct mk mf mt mn mv me : Int)
theorem clnA_go : 
 let z1 := (Prod.fst (learn (SrcD.src (SrcD.mk e si p st ap)) (MsgD.msg (MsgD.mk mk mf mt mn mv me mb ml))))
 goS Tryz.prog ctAp (fun _ => false) [(44, 8)] 400 (clnA ⟨⟨a1, a2, a3, a4⟩, ⟨b1, b2, b3, b4⟩, ⟨e, si, o, st, ap⟩, k⟩ p q mk mf mt mn mv me mb ml) =
 Tree.all fun hs => .need (D.Is Int p) (.all fun hs_1 => .all fun hs_2 => .leaf (Conf.mk (SFrm.mk 44 none none [Item.code (cAt Tryz.prog 44 [1, 1, 0, 0]), Item.code (cAt Tryz.prog 44 [1, 1, 0, 1]), Item.code
 (cAt Tryz.prog 44 [1, 1, 1])] (mkJ 1 [(0, .ptr 0 0), (1, .int .i64 (Src.applied z1)), (5, .nils)] 0 29)) [SFrm.mk 12 (some (opsAt Tryz.prog 12 [1, 1, 1, 1, 1, 1, 0], [5, 6, 7, 8])) (some 42) [Item.code
 (cAt Tryz.prog 12 [1, 1, 1, 1, 1, 1, 1])] (mkJ 0 [(4, .ptr 1 0), (6, .ptr 0 0), (7, .ptr 2 0), (8, .dat (D.like (hs 6 1) (Prod.snd (learn (SrcD.src (SrcD.mk e si p st ap)) (MsgD.msg (MsgD.mk mk mf mt mn mv me mb ml)))))),
 (9, .bool (decide (Src.epoch z1 > e))), (38, .ptr 0 0)] 0 60)] [(0, OBlk.cells 68 [.int .i64 a1, .int .i64 a2, .int .i64 a3, .int .i64 a4, .int .i64 b1, .int .i64 b2, .int .i64 (Src.stored z1), .int .i64
 (Src.applied z1), .int .i64 (Src.epoch z1), .int .i64 (Src.site z1), .dat (D.like (hs 6 0) (Src.offered z1)), .int .i64 (Src.stored z1), .int .i64 (Src.applied z1), .vec 3]), (1, OBlk.cells 29 [.int .i64 0, .int .i64 0, .int .i64 0, .int .i64 0, .int .i64 0, .int .i64 0, .int .i64 0, .int .i64 0, .int .i64 0, .int .i64 0, .nils, .int .i64 0, .int .i64 0, .nils]),
 (2, OBlk.cells 26 [.int .i64 (Src.epoch z1), .int .i64 (Src.site z1), .dat (D.like (hs 6 0) (Src.offered z1)), .int .i64 (Src.stored z1), .int .i64 (Src.applied z1)]), (3, OBlk.arr 32 q)])) := by
 intros; kernel_rfl

theorem nxA_go : exec Tryz.prog ctNx 400 (nxA ⟨⟨a1, a2, a3, a4⟩, ⟨b1, b2, b3, b4⟩, ⟨e, si, o, st, ap⟩, k⟩ n) =
 Tree.leaf
 (Conf.mk
 (SFrm.mk 44 none none
 [Item.inLoop (cAt Tryz.prog 44 [1, 1, 0, 1, 0, 0]), Item.inBlock 0, Item.code (cAt Tryz.prog 44 [1, 1, 1])]
 (mkJ 1
 [(1, .int .i64 n), (5, .nils), (12, .dat k), (13, .int .i64 (↑(D.len k) : Int)),
 (14, .int .i64 0)]
 0 29))
 [SFrm.mk 14 (some (opsAt Tryz.prog 14 [1, 1, 0], [7])) (some 15) [Item.code (cAt Tryz.prog 14 [1, 1, 1])]
 (mkJ 0 [(2, .ptr 0 0)] 0 23)]
 [(0, OBlk.cells 32 [.int .i64 0, .int .i64 0, .int .i64 0, .nils, .nils])]) := by kernel_rfl

theorem nxL_go : 
 let z1 := (SFrm.mk 44 none none [Item.inLoop (cAt Tryz.prog 44 [1, 1, 0, 1, 0, 0]), Item.inBlock 0, Item.code (cAt Tryz.prog 44 [1, 1, 1])] (mkJ 1 [(1, .int .i64 n), (5, .vec 0), (12, .dat k), (13, .int .i64 (↑(D.len k) : Int)), (14, .int .i64 (IntKind.wrap .i64 (j + 1)))] 0 29))
 exec Tryz.prog ctNx 400 (unroll (nxL ⟨⟨a1, a2, a3, a4⟩, ⟨b1, b2, b3, b4⟩, ⟨e, si, o, st, ap⟩, k⟩ n r j)) =
 Tree.br (decide (j < (↑(D.len k) : Int))) (.need (0 ≤ j ∧ j < (↑(D.len k) : Int) ∧ D.sz k = 5) (.need (D.HasCells k (Int.toNat j) 0 [FT.int .i64, FT.int .i64, FT.int .i64, FT.slc, FT.slc]) (.br (decide
 (D.getInt k (Int.toNat j) 1 > n)) (.need (CyD.Ok (CyD.mk (D.getInt k (Int.toNat j) 0) (D.getInt k (Int.toNat j) 1) (D.getInt k (Int.toNat j) 2) (D.cell k (Int.toNat j) 3) (D.cell k (Int.toNat j) 4))) (.all fun hs => .all fun hs_1 => .need
 (D.sz r = 5 ∧ D.Fits (D.slc (D.hd (hs_1 0 0)) 5 [[D.int .i64 (D.getInt k (Int.toNat j) 0), D.int .i64 (D.getInt k (Int.toNat j) 1), D.int .i64 (D.getInt k (Int.toNat j) 2), D.like (hs 0 0) (D.to Int (D.cell k
 (Int.toNat j) 3)), D.like (hs 0 1) (D.to Wt (D.cell k (Int.toNat j) 4))]]) 5 ∧ (D.len r + D.len (D.slc (D.hd (hs_1 0 0)) 5 [[D.int .i64 (D.getInt k (Int.toNat j) 0), D.int .i64 (D.getInt k (Int.toNat j) 1), D.int .i64
 (D.getInt k (Int.toNat j) 2), D.like (hs 0 0) (D.to Int (D.cell k (Int.toNat j) 3)), D.like (hs 0 1) (D.to Wt (D.cell k (Int.toNat j) 4))]])) * 72 ≤ 140737488355328 ∧ D.len r + D.len (D.slc (D.hd (hs_1 0 0)) 5 [[D.int .i64
 (D.getInt k (Int.toNat j) 0), D.int .i64 (D.getInt k (Int.toNat j) 1), D.int .i64 (D.getInt k (Int.toNat j) 2), D.like (hs 0 0) (D.to Int (D.cell k (Int.toNat j) 3)), D.like (hs 0 1) (D.to Wt (D.cell k
 (Int.toNat j) 4))]]) ≤ 9223372036854775807) (.all fun hs_2 => .leaf (Conf.mk z1 [SFrm.mk 14 (some (opsAt Tryz.prog 14 [1, 1, 0], [7])) (some 15) [Item.code (cAt Tryz.prog 14 [1, 1, 1])] (mkJ 0 [(2, .ptr 1 0)] 0 23)] [(0, OBlk.arr 32
 (D.slc (D.hd (hs_2 0 0)) 5 (List.append (D.rows r) (D.rows (D.slc (D.hd (hs_1 0 0)) 5 [[D.int .i64 (D.getInt k (Int.toNat j) 0), D.int .i64 (D.getInt k (Int.toNat j) 1), D.int .i64 (D.getInt k (Int.toNat j) 2), D.like
 (hs 0 0) (D.to Int (D.cell k (Int.toNat j) 3)), D.like (hs 0 1) (D.to Wt (D.cell k (Int.toNat j) 4))]]))))), (1, OBlk.cells 32 [.int .i64 0, .int .i64 0, .int .i64 0, .nils, .nils])])))) (.leaf (Conf.mk z1 [SFrm.mk 14
 (some (opsAt Tryz.prog 14 [1, 1, 0], [7])) (some 15) [Item.code (cAt Tryz.prog 14 [1, 1, 1])] (mkJ 0 [(2, .ptr 1 0)] 0 23)] [(0, OBlk.arr 32 r), (1, OBlk.cells 32 [.int .i64 0, .int .i64 0, .int .i64 0, .nils, .nils])])))))
 (.br (decide ((↑(D.len r) : Int) = 0)) (.ret (SV.tup [.agg [.int .i64 0, .int .i64 0, .int .i64 0, .nils, .nils], .lb false])) (.need ((0 : Int) ≤ 0 ∧ 0 < (↑(D.len r) : Int) ∧ D.sz r = 5) (.need (D.HasCells r 0 0 [FT.int .i64, FT.int .i64, FT.int .i64, FT.slc, FT.slc] ∧ D.sz r = 5)
 (.ret (SV.tup [.agg [.int .i64 (D.getInt r 0 0), .int .i64 (D.getInt r 0 1), .int .i64 (D.getInt r 0 2), .dat (D.cell r 0 3), .dat (D.cell r 0 4)], .lb true]))))) := by
 intros; kernel_rfl

end
end Go.Proofs.YtllmgnhjljmihaaGreat
end
section
namespace Sx
open Go RowKit
theorem q_calls {P : Program} {f : FuncId} {spec : List D → SpecR} (h : QLaw P f spec) {C : Ctx} {m : Mem} {E : Env} {H : HV} {w : World} (gd : Good C m E H w) {k : Nat} {t : TypeId} {cs : List SV} {row : List D} {ps : List Prop} {v : SV}
    (hget : m.get k = some (.cells t cs)) (hrow : rowOfD (closeL (pubsR (leavesL cs) m) cs) = some row) (hspec : spec row = .scalar ps v) (hp : ∀ p, p ∈ ps → p) :
    Calls P f #[(SV.ptr k 0).den E] w fun e w' => e = .returned (v.den E) ∧ Good C m E H w' := by
  obtain ⟨d1, d2, d3, d4⟩ := gd.own k _ (Mem.get_mem hget)
  obtain ⟨H1, hle, g1, nw⟩ := pubsR_spec (leavesL cs) gd
  obtain ⟨e1, e2⟩ := closeL_spec g1 cs (SV.OkL.mono hle _ d4)
  obtain ⟨c1, c2, c3, c4⟩ := g1.own k _ (Mem.get_mem (get_pubs_cells (leavesL cs) hget))
  obtain ⟨r1, r2⟩ := rowOfD_spec (E := E) hrow e2
  rw [e1] at r1
  let Hp : HV := fun b o => if b = E.b k then (SV.denL E cs)[o]? else H1 b o
  have hHp : HLe H1 Hp := fun b o u hu => by
    have : b ≠ E.b k := by rintro rfl; rw [c3] at hu; cases hu
    simp only [Hp, this, if_false, hu]
  have hrw : (rowD (E.b k) row).Ok Hp := by
    refine .slc _ 1 _ _ (fun _ => rfl) (by simp) (fun r hr => by rw [List.mem_singleton.1 hr]) (fun i j r x hi hj => ?_) (fun r hr x hx => by rw [List.mem_singleton.1 hr] at hx; exact (r2 x hx).mono hHp)
    have hi0 : i = 0 := by
      cases i with
      | zero => rfl
      | succ i => simp at hi
    subst hi0
    simp only [List.getElem?_cons_zero, Option.some.injEq] at hi
    subst hi
    simp only [Hp, if_true, ← r1]
    simp [hj]
  have hmem : InMem Hp w := fun b o u hu => by
    simp only [Hp] at hu
    split at hu
    · rename_i hb
      subst hb
      simp only [World.cell?, c2]
      simpa using hu
    · exact g1.cell b o u hu
  have hl := h.2 Hp w (E.b k) row hrw
  rw [hspec] at hl
  have hc := calls_of (args := [.elt (rowD (E.b k) row) 0 0]) h.1 ⟨hrw, trivial⟩ E hmem (hl hp)
  have eargs : SV.denL E [.elt (rowD (E.b k) row) 0 0] = SV.denL E [.ptr k 0] := by
    simp only [SV.denL, SV.den, rowD, D.addr, D.hd]
    simp
  rw [eargs] at hc
  refine Calls.mono hc fun e w' ⟨u, he', H', ha', hu⟩ => ?_
  have hcell : ∀ b o u, H b o = some u → w'.cell? ⟨b, o, none⟩ = some u := fun b o u hu => ha'.cell b o u (ha'.le b o u (hHp b o u (hle b o u hu)))
  exact ⟨by rw [he', hu E], gd.call ha'.below (HLe.refl _) (fun _ _ _ h => .inl h) hcell⟩
section
variable {P : Program} {ops : Array Oper} {Q : Exit → Act → World → Prop}
theorem wpAny_quiet {dst : Nat → Nat} {vals : Nat → Value} {base : Array Value} {J : World → Prop}
    (hlt : ∀ i, i < ops.size → ∀ j, j ∈ predsOf ops i → j < i)
    (hdst : ∀ (i : Nat) (o : Oper), ops[i]? = some o → o.dst = some (dst i) ∧ o.guard = none ∧ dst i < base.size)
    (hinj : ∀ i j, i < ops.size → j < ops.size → dst i = dst j → i = j)
    (hex : ∀ (i : Nat) (o : Oper), ops[i]? = some o → ∀ (l : List Nat) (T : Array Value) (w : World), Begun ops l → i ∉ l → (∀ j, j ∈ predsOf ops i → j ∈ l) → FInv dst vals base l T → J w →
      o.wp P ⟨T, []⟩ w (fun a w' => a = ⟨T.setIfInBounds (dst i) (vals i), []⟩ ∧ J w') Q)
    (hQ : ∀ T l w, (∀ i, i < ops.size → i ∈ l) → FInv dst vals base l T → J w → Q .normal ⟨T, []⟩ w) :
    ∀ (fuel : Nat) (l : List Nat) (listed : Array Bool) (T : Array Value) (w : World), l.length + fuel = ops.size → Begun ops l → l.Nodup → (∀ j, j ∈ l → j < ops.size) → listed.size = ops.size → (∀ j, j < ops.size → listed[j]? = some (l.contains j)) →
      FInv dst vals base l T → J w → wpAny P .any ops Q fuel listed ⟨T, []⟩ w := by
  have all : ∀ l : List Nat, l.Nodup → (∀ j, j ∈ l → j < ops.size) → l.length = ops.size → ∀ i, i < ops.size → i ∈ l := by
    intro l hn hl he i hi
    by_cases h : i ∈ l
    · exact h
    · have := flow_len (N := ops.size) (l := i :: l) (List.nodup_cons.2 ⟨h, hn⟩) (fun j hj => by
        rcases List.mem_cons.1 hj with hj | hj
        · rw [hj]; exact hi
        · exact hl j hj)
      simp only [List.length_cons] at this; omega
  intro fuel
  induction fuel with
  | zero =>
    intro l listed T w hlen hb hn hl hsz hls hI hJ
    have ha := all l hn hl (by omega)
    refine ⟨?_, hQ T l w ha hI hJ⟩
    rw [List.eq_nil_iff_forall_not_mem]
    intro i hi
    obtain ⟨h1, h2, _⟩ := (ready_iff hsz hls hlt).1 hi
    exact h2 (ha i h1)
  | succ fuel ih =>
    intro l listed T w hlen hb hn hl hsz hls hI hJ
    refine ⟨fun hnil => ?_, fun i hi => ?_⟩
    · exfalso
      have hex : ∃ m, m < ops.size ∧ m ∉ l := by
        by_cases h : ∃ m, m < ops.size ∧ m ∉ l
        · exact h
        · have h' : ∀ i, i < ops.size → i ∈ l := fun i hi => by
            by_cases hm : i ∈ l
            · exact hm
            · exact absurd ⟨i, hi, hm⟩ h
          have := len_ge ops.size l h'
          omega
      obtain ⟨m, hm1, hm2⟩ := hex
      have key : ∀ m, m < ops.size → m ∉ l → False := by
        intro m
        induction m using Nat.strongRecOn with
        | _ m ihm =>
          intro h1 h2
          have : m ∈ Region.ready .any ops listed := (ready_iff hsz hls hlt).2 ⟨h1, h2, fun j hj => by
            by_cases hjl : j ∈ l
            · exact hjl
            · exact (ihm j (hlt m h1 j hj) (by have := hlt m h1 j hj; omega) hjl).elim⟩
          rw [hnil] at this; cases this
      exact key m hm1 hm2
    · obtain ⟨h1, h2, h3⟩ := (ready_iff hsz hls hlt).1 hi
      have ho : ops[i]? = some ops[i] := by simp [h1]
      obtain ⟨d1, d2, d3⟩ := hdst i _ ho
      obtain ⟨s1, s2⟩ := listed_step hsz hls h1
      have hst := hI.step (i := i) d3 (fun j hj e => h2 (by rw [← hinj j i (hl j hj) h1 e]; exact hj))
      unfold wpOp
      rw [ho]
      simp only [wanted_none d2, if_true]
      left
      refine Oper.wp_mono (fun a' w' hk => ?_) (hex i _ ho l T w hb h2 h3 hI hJ)
      obtain ⟨rfl, hJ'⟩ := hk
      exact ih (l ++ [i]) _ _ w' (by simp; omega) (.snoc hb h2 h1 h3) (by
        rw [List.nodup_append]
        exact ⟨hn, by simp, fun a ha b hb e => by rw [List.mem_singleton] at hb; subst hb; subst e; exact h2 ha⟩) (fun j hj => by
        rcases List.mem_append.1 hj with hj | hj
        · exact hl j hj
        · rw [List.mem_singleton.1 hj]; exact h1) s1 s2 hst hJ'
theorem wp_look {o : Oper} {T : Array Value} {w : World} {d : Nat} {v : Value} {J : World → Prop} (hd : o.dst = some d) (h : (execOp (Act.eval ⟨T, []⟩) o).run P w = .ok (.value v) w) (hJ : J w) :
    o.wp P ⟨T, []⟩ w (fun a w' => a = ⟨T.setIfInBounds d v, []⟩ ∧ J w') Q := by
  unfold Oper.wp
  rw [h]
  simp only [Oper.upon, hd, Act.put]
  exact ⟨trivial, hJ⟩
theorem wp_call {o : Oper} {T : Array Value} {w : World} {d : Nat} {v : Value} {J : World → Prop} {f : FuncId} {args : Array Value} (hd : o.dst = some d) (h : (execOp (Act.eval ⟨T, []⟩) o).run P w = .ok (.enter f args) w) (hc : Calls P f args w fun e w' => e = .returned v ∧ J w') :
    o.wp P ⟨T, []⟩ w (fun a w' => a = ⟨T.setIfInBounds d v, []⟩ ∧ J w') Q := by
  unfold Oper.wp
  rw [h]
  simp only [Oper.upon]
  refine Calls.mono hc fun e w' ⟨he, hJ⟩ => ?_
  subst he
  simp only [hd, Act.put]
  exact ⟨trivial, hJ⟩
end
end Sx
namespace Sx
open Go RowKit
theorem runs_at {P : Program} {C : Ctx} {f : FuncId} {ri : Option (Array Oper × List Nat)} {aw : Option Tmp} {k : List Item} {T : Array Value} {sl : List (Nat × SV)} {n : Nat} {mem : Mem} {E : Env} {H : HV} {w : World} {R : Value → World → Prop} (hx : C.x = ctxPlain) (hn : n = T.size)
    (hj : mem.all (fun x => !x.2.jk 0) = true) (hjs : sl.all (fun x => !x.2.jk 0) = true) (g : Good C mem E H w) (hs : ∀ p, p ∈ sl → p.2.den E = T.getD p.1 Go.undef) (hok : ∀ p, p ∈ sl → p.2.Ok H)
    (h : Runs P C ⟨⟨f, ri, aw, k, mkJ 0 sl 0 n⟩, [], mem⟩ R) : StkRun P ctxPlain ⟨f, ri, aw, k, ⟨T, []⟩, none⟩ [] w R := by
  have hsame : Same 0 E (envJ E T) := ⟨rfl, rfl, fun i hi => absurd hi (Nat.not_lt_zero _)⟩
  have g' := g.same' hsame (fun x hx => by have := List.all_eq_true.1 hj x hx; simpa using this)
  have := h (envJ E T) H w g' ⟨ok_mkJ hok _ _, by simp⟩
  simp only [SFrm.den, List.map_nil] at this
  rw [den_mkJ (fun p hp => by
    have := List.all_eq_true.1 hjs p hp
    rw [den_same hsame p.2 (by simpa using this)]; exact hs p hp) n 0 (by omega), List.drop_zero, Array.toArray_toList, hx] at this
  exact this
end Sx
end
section
open Go Go.Proofs Sx
namespace Go.Proofs.YtllmgnhjljmihaaGreat
set_option maxRecDepth 100000
set_option maxHeartbeats 0

section
variable (d s o k p q mb ml cp cw r : D) (b : Nat) (n j a a1 a2 a3 a4 b1 b2 b3 b4 e si st ap ep na cb cn ct mk mf mt mn mv me : Int)
theorem aplA_go : goS Tryz.prog ctAp (fun _ => false) [(8, 58)] 600 (aplA ⟨⟨a1, a2, a3, a4⟩, ⟨b1, b2, b3, b4⟩, ⟨e, si, o, st, ap⟩, k⟩ p q cb cn ct cp cw) =
 Tree.all fun hs =>
 .leaf
 (Conf.mk
 (SFrm.mk 8 none none
 [Item.code (cAt Tryz.prog 8 [1, 1, 1, 1, 1, 1, 0, 0]), Item.code (cAt Tryz.prog 8 [1, 1, 1, 1, 1, 1, 0, 1]),
 Item.code (cAt Tryz.prog 8 [1, 1, 1, 1, 1, 1, 1])]
 (mkJ 0 [(3, .ptr 0 0), (4, .ptr 1 0), (9, .ptr 2 0)] 0 106))
 []
 [(0, OBlk.cells 32 [.int .i64 cb, .int .i64 cn, .int .i64 ct, .dat cp, .dat cw]),
 (1,
 OBlk.cells 29
 [.int .i64 0, .int .i64 0, .int .i64 0, .int .i64 0,
 .int .i64 0, .int .i64 0, .int .i64 0, .int .i64 0,
 .int .i64 0, .int .i64 0, .nils, .int .i64 0, .int .i64 0,
 .nils]),
 (2,
 OBlk.cells 68
 [.int .i64 a1, .int .i64 a2, .int .i64 cn, .int .i64 cn,
 .int .i64 b1, .int .i64 b2, .int .i64 b3, .int .i64 b4,
 .int .i64 e, .int .i64 si, .vec 3, .int .i64 st, .int .i64 ap,
 .vec 4]),
 (3, OBlk.arr 3 p), (4, OBlk.arr 32 q)]) := by kernel_rfl

end
end Go.Proofs.YtllmgnhjljmihaaGreat
end
section
open Go Go.Proofs Sx
namespace Go.Proofs.YtllmgnhjljmihaaGreat
set_option maxRecDepth 100000
set_option maxHeartbeats 0
noncomputable def aplM (x : RlD) (o q : D) (cb cn ct : Int) (cp cw : D) : Mem := [(0, OBlk.cells 32 [.int .i64 cb, .int .i64 cn, .int .i64 ct, .dat cp, .dat cw]), (1, OBlk.cells 29 rlZ), (2, OBlk.cells 68 (rlV x (.vec 3) (.vec 4))), (3, .arr 3 o), (4, .arr 32 q)]
noncomputable def aplC (x : RlD) (o q : D) (cb cn ct : Int) (cp cw : D) (bb : Bool) : Conf := Conf.mk (SFrm.mk 8 none none [Item.code (cAt Tryz.prog 8 [1, 1, 1, 1, 1, 1, 0, 1]), Item.code (cAt Tryz.prog 8 [1, 1, 1, 1, 1, 1, 1])] (mkJ 0 [(3, .ptr 0 0), (4, .ptr 1 0), (9, .ptr 2 0), (62, .bool bb)] 0 106)) [] (aplM x o q cb cn ct cp cw)
section
variable (d s o k p q mb ml cp cw r : D) (bb : Bool) (n j a a1 a2 a3 a4 b1 b2 b3 b4 e si st ap ep na cb cn ct mk mf mt mn mv me : Int)
theorem aplC_go : exec Tryz.prog ctAp 600 (aplC ⟨⟨a1, a2, a3, a4⟩, ⟨b1, b2, b3, b4⟩, ⟨e, si, o, st, ap⟩, k⟩ p q cb cn ct cp cw bb) =
 Tree.br bb
 (.ret
 (SV.tup
 [.agg
 [.int .i64 a1, .int .i64 a2, .int .i64 a3, .int .i64 a4,
 .int .i64 b1, .int .i64 b2, .int .i64 b3, .int .i64 b4,
 .int .i64 e, .int .i64 si, .dat p, .int .i64 st, .int .i64 ap,
 .dat q],
 .nils, .int .i64 0]))
 (.all fun hs =>
 .need (D.Is Int p)
 (.br (Prod.snd (Prod.snd (offer (SrcD.src (SrcD.mk e si p st ap)) cn)) != 0)
 (.ret
 (SV.tup
 [.agg
 [.int .i64 0, .int .i64 0, .int .i64 0, .int .i64 0,
 .int .i64 0, .int .i64 0, .int .i64 0, .int .i64 0,
 .int .i64 0, .int .i64 0, .nils, .int .i64 0, .int .i64 0,
 .nils],
 .nils, .int .i64 (Prod.snd (Prod.snd (offer (SrcD.src (SrcD.mk e si p st ap)) cn)))]))
 (.all fun hs_1 =>
 .need (CyD.Ok (CyD.mk cb cn ct cp cw))
 (.need
 (D.sz q = 5 ∧
 D.Fits
 (D.slc (D.hd (hs_1 10 0)) 5
 [[D.int .i64 cb, D.int .i64 cn, D.int .i64 ct,
 D.like (hs_1 9 0) (D.to Int cp), D.like (hs_1 9 1) (D.to Wt cw)]])
 5 ∧
 (D.len q +
 D.len
 (D.slc (D.hd (hs_1 10 0)) 5
 [[D.int .i64 cb, D.int .i64 cn, D.int .i64 ct,
 D.like (hs_1 9 0) (D.to Int cp), D.like (hs_1 9 1) (D.to Wt cw)]])) *
 72 ≤
 140737488355328 ∧
 D.len q +
 D.len
 (D.slc (D.hd (hs_1 10 0)) 5
 [[D.int .i64 cb, D.int .i64 cn, D.int .i64 ct,
 D.like (hs_1 9 0) (D.to Int cp), D.like (hs_1 9 1) (D.to Wt cw)]]) ≤
 9223372036854775807)
 (.ret
 (SV.tup
 [.agg
 [.int .i64 a1, .int .i64 a2, .int .i64 a3, .int .i64 a4,
 .int .i64 b1, .int .i64 b2, .int .i64 b3, .int .i64 b4,
 .int .i64 (Src.epoch (Prod.fst (offer (SrcD.src (SrcD.mk e si p st ap)) cn))),
 .int .i64 (Src.site (Prod.fst (offer (SrcD.src (SrcD.mk e si p st ap)) cn))),
 .dat (D.like (hs 7 0) (Src.offered (Prod.fst (offer (SrcD.src (SrcD.mk e si p st ap)) cn)))),
 .int .i64 (Src.stored (Prod.fst (offer (SrcD.src (SrcD.mk e si p st ap)) cn))),
 .int .i64 (Src.applied (Prod.fst (offer (SrcD.src (SrcD.mk e si p st ap)) cn))),
 .dat
 (D.slc (D.hd (hs_1 11 0)) 5
 (List.append (D.rows q)
 (D.rows
 (D.slc (D.hd (hs_1 10 0)) 5
 [[D.int .i64 cb, D.int .i64 cn, D.int .i64 ct,
 D.like (hs_1 9 0) (D.to Int cp), D.like (hs_1 9 1) (D.to Wt cw)]]))))],
 .dat (D.like (hs 7 1) (Prod.fst (Prod.snd (offer (SrcD.src (SrcD.mk e si p st ap)) cn)))),
 .int .i64 0])))))) := by kernel_rfl

end
end Go.Proofs.YtllmgnhjljmihaaGreat
end
section
open Go Go.Proofs Sx
namespace Sx
theorem ret_rl3 {P : Program} {w : World} {H : HV} {a b c d e f g h i j k l m : Int} {X Y Z : SV} {os : List Int} {ks : List Cy} {ms : List Msg} {r : Rl × List Msg × Int} (hx : Stands Int X os) (hy : Stands Cy Y ks) (hz : Stands Msg Z ms) (hr : r = (⟨⟨a, b, c, d⟩, ⟨e, f, g, h⟩, ⟨i, j, os, k, l⟩, ks⟩, ms, m)) :
    (Tree.ret (.tup [.agg [.int .i64 a, .int .i64 b, .int .i64 c, .int .i64 d, .int .i64 e, .int .i64 f, .int .i64 g, .int .i64 h, .int .i64 i, .int .i64 j, X, .int .i64 k, .int .i64 l, Y], Z, .int .i64 m])).holds P ⟨w, H⟩ (RetD w H fun ds => .tup [.agg (rlL (ds 0) (ds 1) r.1), .dat ((ds 2).like r.2.1), .int .i64 r.2.2]) := by
  subst hr
  obtain ⟨p, q, hs⟩ := rlL_sel (a := a) (b := b) (c := c) (d := d) (e := e) (f := f) (g := g) (h := h) (i := i) (j := j) (k := k) (l := l) hx hy rfl
  obtain ⟨z, hz⟩ := hz.se
  exact ret_se (fun i => match i with | 0 => p | 1 => q | _ => z) (se_tup (.cons (se_agg hs) (.cons hz (.cons (se_int rfl) .nil))))
theorem rl3_bad {P : Program} {w : World} {H : HV} {r : Rl × List Msg × Int} {m : Int} (h : r = (zRl, [], m)) : (Tree.ret (.tup [.agg [.int .i64 0, .int .i64 0, .int .i64 0, .int .i64 0, .int .i64 0, .int .i64 0, .int .i64 0, .int .i64 0, .int .i64 0, .int .i64 0, SV.nils, .int .i64 0, .int .i64 0, SV.nils], .nils, .int .i64 m])).holds P ⟨w, H⟩ (RetD w H fun ds => .tup [.agg (rlL (ds 0) (ds 1) r.1), .dat ((ds 2).like r.2.1), .int .i64 r.2.2]) :=
  ret_rl3 stands_nils stands_nils stands_nils (by rw [h]; rfl)
theorem run_fieldO {P : Program} {o : Oper} {t : TypeId} {x : Operand} {f : Nat} (ho : o.op = .fieldAddr t x f) (ev : Operand → Value) (w : World) {E : Env} {H : HV} {X v : SV} (hx : ev x = X.den E) (hX : X.Ok H) (h : fieldR P t X f = some v) : (execOp ev o).run P w = .ok (.value (v.den E)) w := by
  obtain ⟨a, b, c, d, e, g⟩ := o
  simp only at ho; subst ho
  obtain ⟨h1, _⟩ := fieldR_spec (P := P) (E := E) (w := w) h hX
  simp only [execOp, Sem.run_bind, hx, h1]; rfl
theorem run_loadO {P : Program} {o : Oper} {t : TypeId} {x : Operand} (ho : o.op = .load t x) (ev : Operand → Value) {C : Ctx} {m : Mem} {w : World} {E : Env} {H : HV} (g : Good C m E H w) {X v : SV} (hx : ev x = X.den E) (hX : X.Ok H) {ps : List Prop} (h : loadR P m t X = some (ps, v)) (hp : ∀ p, p ∈ ps → p) : (execOp ev o).run P w = .ok (.value (v.den E)) w := by
  obtain ⟨a, b, c, d, e, g'⟩ := o
  simp only at ho; subst ho
  obtain ⟨h1, _⟩ := loadR_spec (P := P) g hX h hp
  simp only [execOp, Sem.run_bind, hx, h1]; rfl
theorem run_binO {P : Program} {o : Oper} {op : BinOp} {t z : TypeId} {x y : Operand} (ho : o.op = .binOp op t x y z) (ev : Operand → Value) {C : Ctx} {m : Mem} {w : World} {E : Env} {H : HV} (g : Good C m E H w) {X Y v : SV} (hx : ev x = X.den E) (hy : ev y = Y.den E) (hX : X.Ok H) {ps : List Prop} (h : binR P m op t X Y = some (ps, v)) (hp : ∀ p, p ∈ ps → p) : (execOp ev o).run P w = .ok (.value (v.den E)) w := by
  obtain ⟨a, b, c, d, e, g'⟩ := o
  simp only at ho; subst ho
  obtain ⟨h1, _⟩ := binR_spec (P := P) g (op := op) (t := t) (a := X) (b := Y) hX h hp x y
  simp only [execOp, hx, hy]
  rw [Sem.run_bind, h1]; rfl
end Sx
namespace Go.Proofs.YtllmgnhjljmihaaGreat
set_option maxRecDepth 100000
noncomputable def apO : Array Oper := opsAt Tryz.prog 8 [1, 1, 1, 1, 1, 1, 0, 0]
noncomputable def apId : Nat := match cAt Tryz.prog 8 [1, 1, 1, 1, 1, 1, 0, 0] with | .region id _ _ => id | _ => 0
theorem ap_reg : cAt Tryz.prog 8 [1, 1, 1, 1, 1, 1, 0, 0] = .region apId apO true := by kernel_rfl
theorem ap_size : apO.size = 5 := by kernel_rfl
theorem ap_k0 : opK apO 0 = some (.fieldAddr 32 (.tmp 3) 0, 58) := by kernel_rfl
theorem ap_k1 : opK apO 1 = some (.load 3 (.tmp 58), 59) := by kernel_rfl
theorem ap_k2 : opK apO 2 = some (.move (.tmp 9), 60) := by kernel_rfl
theorem ap_k3 : opK apO 3 = some (.call ⟨.value (.func 28), #[.tmp 60], #[65]⟩, 61) := by kernel_rfl
theorem ap_k4 : opK apO 4 = some (.binOp .gtr 3 (.tmp 59) (.tmp 61) 3, 62) := by kernel_rfl
theorem ap_p1 : predsOf apO 1 = [0] := by kernel_rfl
theorem ap_p3 : predsOf apO 3 = [2] := by kernel_rfl
theorem ap_p4 : predsOf apO 4 = [1, 3] := by kernel_rfl
theorem ap_lt : ∀ i, i < apO.size → ∀ j, j ∈ predsOf apO i → j < i := by
  have h : ((List.range 5).all fun i => (predsOf apO i).all fun j => decide (j < i)) = true := by kernel_rfl
  intro i hi j hj
  rw [ap_size] at hi
  have := List.all_eq_true.1 h i (List.mem_range.2 hi)
  exact of_decide_eq_true (List.all_eq_true.1 this j hj)
theorem ap_five {i : Nat} (h : i < 5) : i = 0 ∨ i = 1 ∨ i = 2 ∨ i = 3 ∨ i = 4 := by omega
theorem ap_dst (n : Nat) (hn : n = 106) : ∀ (i : Nat) (o : Oper), apO[i]? = some o → o.dst = some (58 + i) ∧ o.guard = none ∧ 58 + i < n := by
  intro i o ho
  have hi : i < 5 := by rw [← ap_size]; exact (Array.getElem?_eq_some_iff.1 ho).1
  subst hn
  rcases ap_five hi with rfl | rfl | rfl | rfl | rfl
  · exact ⟨(opK_spec ap_k0 ho).1, (opK_spec ap_k0 ho).2.1, by decide⟩
  · exact ⟨(opK_spec ap_k1 ho).1, (opK_spec ap_k1 ho).2.1, by decide⟩
  · exact ⟨(opK_spec ap_k2 ho).1, (opK_spec ap_k2 ho).2.1, by decide⟩
  · exact ⟨(opK_spec ap_k3 ho).1, (opK_spec ap_k3 ho).2.1, by decide⟩
  · exact ⟨(opK_spec ap_k4 ho).1, (opK_spec ap_k4 ho).2.1, by decide⟩
theorem ap_mixed : Tryz.prog.follows .mixedOrders = true := by kernel_rfl
theorem ap_calm : calmOps apO = true := by kernel_rfl
theorem ap_calee {o : Oper} (h : o.op = .call ⟨.value (.func 28), #[.tmp 60], #[65]⟩) (T : Array Value) (w : World) : (execOp (Act.eval ⟨T, []⟩) o).run Tryz.prog w = .ok (.enter 28 #[Act.eval ⟨T, []⟩ (.tmp 60)]) w := by
  obtain ⟨fn, hfn, hbs, hnm⟩ := bodied_spec lawFront.1
  let E : Env := ⟨fun _ => 0, fun _ => (none, 0), fun _ => Go.undef⟩
  have hT : (SV.denL E (T.toList.map SV.raw)).toArray = T := by
    rw [SV.denL_eq, List.map_map]
    have : T.toList.map (SV.den E ∘ SV.raw) = T.toList := by
      conv => rhs; rw [← List.map_id T.toList]
      exact List.map_congr_left fun x _ => by simp [SV.den]
    rw [this, Array.toArray_toList]
  have hev : ∀ x, (Act.eval ⟨T, []⟩ x) = (evS (T.toList.map SV.raw) x).den E := fun x => by
    rw [← den_evS E (T.toList.map SV.raw) [] x, hT]
  have := run_call (P := Tryz.prog) (a := ⟨T, []⟩) (E := E) (tmps := T.toList.map SV.raw) hev (f := 28) (first := []) (captured := []) (cl := ⟨.value (.func 28), #[.tmp 60], #[65]⟩) rfl hfn hbs hnm h w
  rw [this, hev (.tmp 60)]
  rfl
noncomputable def aplB (x : RlD) (o q : D) (cb cn ct : Int) (cp cw : D) : Conf := Conf.mk (SFrm.mk 8 none none [Item.code (.region apId apO true), Item.code (cAt Tryz.prog 8 [1, 1, 1, 1, 1, 1, 0, 1]), Item.code (cAt Tryz.prog 8 [1, 1, 1, 1, 1, 1, 1])] (mkJ 0 [(3, SV.ptr 0 0), (4, SV.ptr 1 0), (9, SV.ptr 2 0)] 0 106)) [] (aplM x o q cb cn ct cp cw)
noncomputable def apS (x : RlD) (q : D) (cb : Int) (i : Nat) : SV := match i with | 0 => .ptr 0 0 | 1 => .int .i64 cb | 2 => .ptr 2 0 | 3 => .int .i64 (frontI x.src.ap (q.to Cy)) | _ => .bool (decide (cb > frontI x.src.ap (q.to Cy)))
theorem ap_base (E : Env) : (SV.denL E (mkJ 0 [(3, SV.ptr 0 0), (4, SV.ptr 1 0), (9, SV.ptr 2 0)] 0 106)).toArray[3]? = some ((SV.ptr 0 0).den E) ∧ (SV.denL E (mkJ 0 [(3, SV.ptr 0 0), (4, SV.ptr 1 0), (9, SV.ptr 2 0)] 0 106)).toArray[4]? = some ((SV.ptr 1 0).den E) ∧ (SV.denL E (mkJ 0 [(3, SV.ptr 0 0), (4, SV.ptr 1 0), (9, SV.ptr 2 0)] 0 106)).toArray[9]? = some ((SV.ptr 2 0).den E) := ⟨rfl, rfl, rfl⟩
theorem apl_region {H : HV} {w : World} {R : Value → World → Prop} {x : RlD} {o q : D} {cb cn ct : Int} {cp cw : D} (hq : q.Is Cy) (hql : q.len ≤ 1048576)
    (h : Runs Tryz.prog ⟨w, H⟩ (aplC x o q cb cn ct cp cw (decide (cb > frontI x.src.ap (q.to Cy)))) R) : Runs Tryz.prog ⟨w, H⟩ (aplB x o q cb cn ct cp cw) R := by
  obtain ⟨qh, qz, qr, rfl⟩ := hq.slc
  intro E H1 w1 g1 ok1
  have hb3 := ap_base E
  obtain ⟨b3, b4, b9⟩ := hb3
  show Go1 Tryz.prog none 8 _ _ w1 R
  refine Go1.draw ap_mixed ap_calm ?_
  have old : ∀ {l : List Nat} {T : Array Value} (s : Nat), FInv (fun i => 58 + i) (fun i => (apS x (D.slc qh qz qr) cb i).den E) (SV.denL E (mkJ 0 [(3, SV.ptr 0 0), (4, SV.ptr 1 0), (9, SV.ptr 2 0)] 0 106)).toArray l T → s < 58 → T[s]? = (SV.denL E (mkJ 0 [(3, SV.ptr 0 0), (4, SV.ptr 1 0), (9, SV.ptr 2 0)] 0 106)).toArray[s]? := fun s hI hs => hI.old s fun i _ => by omega
  have := wpAny_quiet (P := Tryz.prog) (ops := apO) (dst := fun i => 58 + i) (vals := fun i => (apS x (D.slc qh qz qr) cb i).den E) (base := (SV.denL E (mkJ 0 [(3, SV.ptr 0 0), (4, SV.ptr 1 0), (9, SV.ptr 2 0)] 0 106)).toArray) (J := fun w' => Sx.Good ⟨w, H⟩ (aplM x o (D.slc qh qz qr) cb cn ct cp cw) E H1 w')
    ap_lt (ap_dst _ rfl) (fun i j _ _ e => by simpa using e) (Q := Qk Tryz.prog none 8 [Item.code (cAt Tryz.prog 8 [1, 1, 1, 1, 1, 1, 0, 1]), Item.code (cAt Tryz.prog 8 [1, 1, 1, 1, 1, 1, 1])] R) ?_ ?_ apO.size [] (Array.replicate apO.size false) _ w1.drew (by simp) .nil (by simp) (by simp) (by simp) (fun j hj => by simp [hj]) ⟨rfl, by simp, fun _ _ => rfl⟩ g1.drew
  · exact this
  · intro i op ho l T w2 hb hil hp hI hJ
    have hi : i < 5 := by rw [← ap_size]; exact (Array.getElem?_eq_some_iff.1 ho).1
    have t3 : T[3]? = some ((SV.ptr 0 0).den E) := (old 3 hI (by decide)).trans b3
    have t9 : T[9]? = some ((SV.ptr 2 0).den E) := (old 9 hI (by decide)).trans b9
    rcases ap_five hi with rfl | rfl | rfl | rfl | rfl
    · exact wp_look (opK_spec ap_k0 ho).1 (run_fieldO (opK_spec ap_k0 ho).2.2 _ w2 (H := H1) (X := .ptr 0 0) (v := .ptr 0 0) (eval_tmp t3) trivial (by kernel_rfl)) hJ
    · rw [ap_p1] at hp
      have m1 : T[58]? = some ((SV.ptr 0 0).den E) := hI.done 0 (hp 0 (by simp))
      exact wp_look (opK_spec ap_k1 ho).1 (run_loadO (opK_spec ap_k1 ho).2.2 _ hJ (X := .ptr 0 0) (v := .int .i64 cb) (ps := []) (eval_tmp m1) trivial (by kernel_rfl) (by simp)) hJ
    · have := run_moveO (P := Tryz.prog) (opK_spec ap_k2 ho).2.2 (Act.eval ⟨T, []⟩) w2
      rw [eval_tmp t9] at this
      exact wp_look (opK_spec ap_k2 ho).1 this hJ
    · rw [ap_p3] at hp
      have m1 : T[60]? = some ((SV.ptr 2 0).den E) := hI.done 2 (hp 2 (by simp))
      have hcall := ap_calee (opK_spec ap_k3 ho).2.2 T w2
      rw [eval_tmp m1] at hcall
      refine wp_call (opK_spec ap_k3 ho).1 hcall ?_
      exact q_calls lawFront hJ (k := 2) (cs := rlV x (.vec 3) (.vec 4)) (row := [.int .i64 x.near.epoch, .int .i64 x.near.site, .int .i64 x.near.stored, .int .i64 x.near.applied, .int .i64 x.far.epoch, .int .i64 x.far.site, .int .i64 x.far.stored, .int .i64 x.far.applied, .int .i64 x.src.e, .int .i64 x.src.s, o, .int .i64 x.src.st, .int .i64 x.src.ap, D.slc qh qz qr]) rfl (by kernel_rfl) rfl (fun p hp => by rw [List.mem_singleton.1 hp]; exact ⟨hq, hql⟩)
    · rw [ap_p4] at hp
      have m1 : T[59]? = some ((SV.int .i64 cb).den E) := hI.done 1 (hp 1 (by simp))
      have m2 : T[61]? = some ((SV.int .i64 (frontI x.src.ap ((D.slc qh qz qr).to Cy))).den E) := hI.done 3 (hp 3 (by simp))
      exact wp_look (opK_spec ap_k4 ho).1 (run_binO (opK_spec ap_k4 ho).2.2 _ hJ (X := .int .i64 cb) (Y := .int .i64 (frontI x.src.ap ((D.slc qh qz qr).to Cy))) (v := .bool (decide (cb > frontI x.src.ap ((D.slc qh qz qr).to Cy)))) (ps := []) (eval_tmp m1) (eval_tmp m2) trivial (by kernel_rfl) (by simp)) hJ
  · intro T l w2 ha hI hJ
    refine ⟨rfl, ?_⟩
    have t62 : T[62]? = some ((SV.bool (decide (cb > frontI x.src.ap ((D.slc qh qz qr).to Cy)))).den E) := hI.done 4 (ha 4 (by rw [ap_size]; decide))
    have := runs_at (aw := none) (T := T) (n := 106) (sl := [(3, SV.ptr 0 0), (4, SV.ptr 1 0), (9, SV.ptr 2 0), (62, .bool (decide (cb > frontI x.src.ap ((D.slc qh qz qr).to Cy))))]) (C := ⟨w, H⟩) rfl (by rw [hI.size]; rfl) (by kernel_rfl) (by kernel_rfl) hJ (fun p hp => ?_) (fun p hp => ?_) h
    · exact this
    · simp only [List.mem_cons, List.not_mem_nil, or_false] at hp
      rw [Array.getD_eq_getD_getElem?]
      rcases hp with rfl | rfl | rfl | rfl
      · rw [old 3 hI (by decide), b3]; rfl
      · rw [old 4 hI (by decide), b4]; rfl
      · rw [old 9 hI (by decide), b9]; rfl
      · rw [t62]; rfl
    · simp only [List.mem_cons, List.not_mem_nil, or_false] at hp
      rcases hp with rfl | rfl | rfl | rfl <;> trivial
end Go.Proofs.YtllmgnhjljmihaaGreat
end
section
open Go Go.Proofs Sx
namespace Go.Proofs.YtllmgnhjljmihaaGreat
set_option maxRecDepth 100000
theorem ctApOk : Ctrs.Ok Tryz.prog ctAp := by
  intro x hx
  simp only [ctAp, List.mem_cons, List.not_mem_nil, or_false] at hx
  rcases hx with rfl | rfl | rfl | rfl | rfl | rfl
  · exact ctrOf_ok lawCk
  · exact ctrOf_ok lawSz
  · exact ctrOf_ok lawCyCk
  · exact ctrOf_ok lawOfr
  · exact ctrOf_ok lawLrn
  · exact ctrOf_ok lawCpC
theorem ctNxOk : Ctrs.Ok Tryz.prog ctNx := by
  intro x hx
  simp only [ctNx, List.mem_cons, List.not_mem_nil, or_false] at hx
  rcases hx with rfl | rfl
  · exact ctrOf_ok lawCk
  · exact ctrOf_ok lawCpC
theorem lawApl : Law Tryz.prog 8 ((rdRl.two rdCy).sp spApplyRl) := by
  refine law_in _ (by kernel_rfl) fun H w ⟨⟨⟨a1, a2, a3, a4⟩, ⟨b1, b2, b3, b4⟩, ⟨e, s, o, st, ap⟩, k⟩, ⟨cb, cn, ct, cp, cw⟩⟩ hok hp => ?_
  obtain ⟨hx, hc⟩ := hp _ (List.mem_singleton.2 rfl)
  apply goS_sound ctApOk (fun _ => false) [(27, 1)] 400
  rw [show (rdRl.two rdCy).canon (⟨⟨a1, a2, a3, a4⟩, ⟨b1, b2, b3, b4⟩, ⟨e, s, o, st, ap⟩, k⟩, ⟨cb, cn, ct, cp, cw⟩) = [.agg [.int .i64 a1, .int .i64 a2, .int .i64 a3, .int .i64 a4, .int .i64 b1, .int .i64 b2, .int .i64 b3, .int .i64 b4, .int .i64 e, .int .i64 s, .dat o, .int .i64 st, .int .i64 ap, .dat k], .agg [.int .i64 cb, .int .i64 cn, .int .i64 ct, .dat cp, .dat cw]] from rfl, apl_in]
  show Tree.holds _ _ (RetD w H fun ds => .tup [.agg (rlL (ds 0) (ds 1) (applyRl (RlD.rl ⟨⟨a1, a2, a3, a4⟩, ⟨b1, b2, b3, b4⟩, ⟨e, s, o, st, ap⟩, k⟩) (CyD.cy ⟨cb, cn, ct, cp, cw⟩)).1), .dat ((ds 2).like (applyRl (RlD.rl ⟨⟨a1, a2, a3, a4⟩, ⟨b1, b2, b3, b4⟩, ⟨e, s, o, st, ap⟩, k⟩) (CyD.cy ⟨cb, cn, ct, cp, cw⟩)).2.1), .int .i64 (applyRl (RlD.rl ⟨⟨a1, a2, a3, a4⟩, ⟨b1, b2, b3, b4⟩, ⟨e, s, o, st, ap⟩, k⟩) (CyD.cy ⟨cb, cn, ct, cp, cw⟩)).2.2]) _
  have hdef : ckRl (RlD.rl ⟨⟨a1, a2, a3, a4⟩, ⟨b1, b2, b3, b4⟩, ⟨e, s, o, st, ap⟩, k⟩) = 0 → applyRl (RlD.rl ⟨⟨a1, a2, a3, a4⟩, ⟨b1, b2, b3, b4⟩, ⟨e, s, o, st, ap⟩, k⟩) (CyD.cy ⟨cb, cn, ct, cp, cw⟩) = (if cyErr (CyD.cy ⟨cb, cn, ct, cp, cw⟩) most ≠ 0 then (zRl, [], cyErr (CyD.cy ⟨cb, cn, ct, cp, cw⟩) most)
      else if cn ≤ a4 then (zRl, [], 8) else if cb > a4 then (zRl, [], 15)
      else if cb > frontI ap (k.to Cy) then (⟨⟨a1, a2, cn, cn⟩, ⟨b1, b2, b3, b4⟩, ⟨e, s, o.to Int, st, ap⟩, k.to Cy⟩, [], 0)
      else if (offer ⟨e, s, o.to Int, st, ap⟩ cn).2.2 ≠ 0 then (zRl, [], (offer ⟨e, s, o.to Int, st, ap⟩ cn).2.2)
      else (⟨⟨a1, a2, cn, cn⟩, ⟨b1, b2, b3, b4⟩, (offer ⟨e, s, o.to Int, st, ap⟩ cn).1, k.to Cy ++ [CyD.cy ⟨cb, cn, ct, cp, cw⟩]⟩, (offer ⟨e, s, o.to Int, st, ap⟩ cn).2.1, 0)) := fun h => by
    unfold applyRl; rw [if_neg (by simp [h])]; rfl
  refine ⟨hx, fun c1 => rl3_bad ?_, fun c1 => ?_⟩
  · have c1 : ckRl (RlD.rl ⟨⟨a1, a2, a3, a4⟩, ⟨b1, b2, b3, b4⟩, ⟨e, s, o, st, ap⟩, k⟩) ≠ 0 := by simpa using c1
    unfold applyRl; rw [if_pos c1]
  have c1 : ckRl (RlD.rl ⟨⟨a1, a2, a3, a4⟩, ⟨b1, b2, b3, b4⟩, ⟨e, s, o, st, ap⟩, k⟩) = 0 := by simpa using c1
  rw [hdef c1]
  obtain ⟨_, _, _, hf⟩ := ck_range c1
  have hmin : ∀ c, c ∈ k.to Cy → c.number > -9223372036854775808 := fun c hc => by
    have := cy_num (ck_cy hf c hc); omega
  obtain ⟨h1, h2, h3, h4, h5⟩ := id hx
  refine holds_all.2 fun hs => holds_need.2 ⟨⟨hc, D.like_is _ _, by rw [D.Is.length (α := Int), D.like_to]; decide⟩, ?_⟩
  rw [D.like_to]
  refine ⟨fun c2 => rl3_bad ?_, fun c2 => ⟨fun c3 => rl3_bad ?_, fun c3 => ⟨fun c4 => rl3_bad ?_, fun c4 => ?_⟩⟩⟩
  · have c2 : cyErr (CyD.cy ⟨cb, cn, ct, cp, cw⟩) most ≠ 0 := by simpa using c2
    rw [if_pos c2]
  all_goals (have c2' : ¬cyErr (CyD.cy ⟨cb, cn, ct, cp, cw⟩) most ≠ 0 := by simpa using c2); rw [if_neg c2']
  · rw [if_pos (of_decide_eq_true c3)]
  all_goals rw [if_neg (of_decide_eq_false c3)]
  · rw [if_pos (of_decide_eq_true c4)]
  rw [if_neg (of_decide_eq_false c4)]
  refine runs_frame (Φ := bgPhi ⟨⟨a1, a2, a3, a4⟩, ⟨b1, b2, b3, b4⟩, ⟨e, s, o, st, ap⟩, k⟩) (top := bgC ⟨⟨a1, a2, a3, a4⟩, ⟨b1, b2, b3, b4⟩, ⟨e, s, o, st, ap⟩, k⟩) bgC_pure (fun kx hk => ?_) (fun H w _ => bgRuns hx hmin) fun v m hv => ?_
  · have h : (SV.keysL (mkJ 0 [(3, SV.ptr 0 0), (4, SV.ptr 1 0)] 0 106) ++ ((([] : List SFrm).flatMap fun f => SV.keysL f.tmps) ++ Mem.named [(0, OBlk.cells 32 [.int .i64 cb, .int .i64 cn, .int .i64 ct, SV.dat cp, SV.dat cw]), (1, OBlk.cells 29 rlZ)])).all (fun k => decide (k < 500)) = true := by kernel_rfl
    exact of_decide_eq_true (List.all_eq_true.1 h kx hk)
  · obtain ⟨rfl, p, q, rfl, ⟨p1, p2, p3⟩, q1, q2, q3⟩ := hv
    show Runs _ _ (aplA ⟨⟨a1, a2, a3, a4⟩, ⟨b1, b2, b3, b4⟩, ⟨e, s, o, st, ap⟩, k⟩ p q cb cn ct cp cw) _
    apply goS_sound ctApOk (fun _ => false) [(8, 58)] 600
    rw [aplA_go]
    simp only at h1 h2 h3 h4 h5 q3 p3
    have kl := D.Is.length (α := Cy) k
    have ql := D.Is.length (α := Cy) q
    have hql : q.len ≤ 1048576 := by rw [ql, q3]; omega
    refine holds_all.2 fun hs => ?_
    have key : Runs Tryz.prog ⟨w, H⟩ (aplB ⟨⟨a1, a2, cn, cn⟩, ⟨b1, b2, b3, b4⟩, ⟨e, s, o, st, ap⟩, k⟩ p q cb cn ct cp cw) (RetD w H fun ds => .tup [.agg (rlL (ds 0) (ds 1) (if cb > frontI ap (k.to Cy) then ((⟨⟨a1, a2, cn, cn⟩, ⟨b1, b2, b3, b4⟩, ⟨e, s, o.to Int, st, ap⟩, k.to Cy⟩ : Rl), ([] : List Msg), (0 : Int))
      else if (offer ⟨e, s, o.to Int, st, ap⟩ cn).2.2 ≠ 0 then (zRl, [], (offer ⟨e, s, o.to Int, st, ap⟩ cn).2.2)
      else (⟨⟨a1, a2, cn, cn⟩, ⟨b1, b2, b3, b4⟩, (offer ⟨e, s, o.to Int, st, ap⟩ cn).1, k.to Cy ++ [CyD.cy ⟨cb, cn, ct, cp, cw⟩]⟩, (offer ⟨e, s, o.to Int, st, ap⟩ cn).2.1, 0)).1), .dat ((ds 2).like (if cb > frontI ap (k.to Cy) then ((⟨⟨a1, a2, cn, cn⟩, ⟨b1, b2, b3, b4⟩, ⟨e, s, o.to Int, st, ap⟩, k.to Cy⟩ : Rl), ([] : List Msg), (0 : Int))
      else if (offer ⟨e, s, o.to Int, st, ap⟩ cn).2.2 ≠ 0 then (zRl, [], (offer ⟨e, s, o.to Int, st, ap⟩ cn).2.2)
      else (⟨⟨a1, a2, cn, cn⟩, ⟨b1, b2, b3, b4⟩, (offer ⟨e, s, o.to Int, st, ap⟩ cn).1, k.to Cy ++ [CyD.cy ⟨cb, cn, ct, cp, cw⟩]⟩, (offer ⟨e, s, o.to Int, st, ap⟩ cn).2.1, 0)).2.1), .int .i64 (if cb > frontI ap (k.to Cy) then ((⟨⟨a1, a2, cn, cn⟩, ⟨b1, b2, b3, b4⟩, ⟨e, s, o.to Int, st, ap⟩, k.to Cy⟩ : Rl), ([] : List Msg), (0 : Int))
      else if (offer ⟨e, s, o.to Int, st, ap⟩ cn).2.2 ≠ 0 then (zRl, [], (offer ⟨e, s, o.to Int, st, ap⟩ cn).2.2)
      else (⟨⟨a1, a2, cn, cn⟩, ⟨b1, b2, b3, b4⟩, (offer ⟨e, s, o.to Int, st, ap⟩ cn).1, k.to Cy ++ [CyD.cy ⟨cb, cn, ct, cp, cw⟩]⟩, (offer ⟨e, s, o.to Int, st, ap⟩ cn).2.1, 0)).2.2]) := by
      refine apl_region q1 hql ?_
      apply exec_sound ctApOk 600
      rw [aplC_go]
      have ef : frontI (RlD.mk ⟨a1, a2, cn, cn⟩ ⟨b1, b2, b3, b4⟩ ⟨e, s, o, st, ap⟩ k).src.ap (q.to Cy) = frontI ap (k.to Cy) := by rw [q3]
      have eo : SrcD.src ⟨e, s, p, st, ap⟩ = ⟨e, s, o.to Int, st, ap⟩ := by rw [← p3]; rfl
      rw [ef, eo]
      refine ⟨fun d1 => ret_rl3 (stands_dat p1 p3) (stands_dat q1 q3) stands_nils ?_, fun d1 => ?_⟩
      · rw [if_pos (of_decide_eq_true d1)]
      rw [if_neg (of_decide_eq_false d1)]
      refine fun hs => ⟨p1, fun d2 => rl3_bad ?_, fun d2 hs1 => ⟨hc, ⟨q2, .inr rfl, ?_, ?_⟩, ?_⟩⟩
      · have d2 : (offer ⟨e, s, o.to Int, st, ap⟩ cn).2.2 ≠ 0 := by simpa using d2
        rw [if_pos d2]
      · simp only [len_slc, List.length_cons, List.length_nil]; omega
      · simp only [len_slc, List.length_cons, List.length_nil]; omega
      · have d2 : ¬(offer ⟨e, s, o.to Int, st, ap⟩ cn).2.2 ≠ 0 := by simpa using d2
        have hrow := rows_app (rows_of q1) (cy_one (b := cb) (n := cn) (t := ct) (D.like_is (hs1 9 0) (cp.to Int)) (D.like_to _ _) (D.like_is (hs1 9 1) (cw.to Wt)) (D.like_to _ _))
        refine ret_rl3 stands_like (stands_rows rfl hrow) stands_like ?_
        rw [if_neg d2, q3]; rfl
    unfold aplB at key
    rw [← ap_reg] at key
    exact key
def nextL (l : List Cy) : Cy × Bool := match l with | [] => (zCy, false) | c :: _ => (c, true)
theorem head_match : ∀ {l : List Cy} (h : 0 < l.length), nextL l = (l[0], true)
  | [], h => by simp at h
  | c :: t, _ => rfl
theorem lawNxt : Law Tryz.prog 14 (rdRl.one.sp spNextRl) := by
  refine law_in _ (by kernel_rfl) fun H w ⟨⟨a1, a2, a3, a4⟩, ⟨b1, b2, b3, b4⟩, ⟨e, s, o, st, ap⟩, k⟩ hok hp => ?_
  have hx := hp _ (List.mem_singleton.2 rfl)
  apply goS_sound ctNxOk (fun _ => false) [(44, 8)] 400
  rw [show rdRl.one.canon ⟨⟨a1, a2, a3, a4⟩, ⟨b1, b2, b3, b4⟩, ⟨e, s, o, st, ap⟩, k⟩ = [.agg [.int .i64 a1, .int .i64 a2, .int .i64 a3, .int .i64 a4, .int .i64 b1, .int .i64 b2, .int .i64 b3, .int .i64 b4, .int .i64 e, .int .i64 s, .dat o, .int .i64 st, .int .i64 ap, .dat k]] from rfl, nxt_in]
  show Tree.holds _ _ (RetD w H fun ds => .tup [.agg (cyL (ds 0) (ds 1) (nextRl (RlD.rl ⟨⟨a1, a2, a3, a4⟩, ⟨b1, b2, b3, b4⟩, ⟨e, s, o, st, ap⟩, k⟩)).1), .bool (nextRl (RlD.rl ⟨⟨a1, a2, a3, a4⟩, ⟨b1, b2, b3, b4⟩, ⟨e, s, o, st, ap⟩, k⟩)).2]) _
  obtain ⟨h1, h2, h3, h4, h5⟩ := id hx
  simp only at h1 h2 h3 h4 h5
  have no : ∀ {r : Cy × Bool}, r = (zCy, false) → (Tree.ret (.tup [.agg [.int .i64 0, .int .i64 0, .int .i64 0, .nils, .nils], .lb false])).holds Tryz.prog ⟨w, H⟩ (RetD w H fun ds => .tup [.agg (cyL (ds 0) (ds 1) r.1), .bool r.2]) := fun h => by
    subst h
    obtain ⟨p, q, hs⟩ := cyL_sel (b := 0) (n := 0) (t := 0) stands_nils stands_nils (c := zCy) rfl
    exact ret_se (fun i => match i with | 0 => p | _ => q) (se_tup (.cons (se_agg hs) (.cons (se_lb rfl) .nil)))
  refine ⟨hx, fun c1 => no ?_, fun c1 => ?_⟩
  · have c1 : ckRl (RlD.rl ⟨⟨a1, a2, a3, a4⟩, ⟨b1, b2, b3, b4⟩, ⟨e, s, o, st, ap⟩, k⟩) ≠ 0 := by simpa using c1
    unfold nextRl; rw [if_pos c1]
  have c1 : ckRl (RlD.rl ⟨⟨a1, a2, a3, a4⟩, ⟨b1, b2, b3, b4⟩, ⟨e, s, o, st, ap⟩, k⟩) = 0 := by simpa using c1
  have hdef : nextRl (RlD.rl ⟨⟨a1, a2, a3, a4⟩, ⟨b1, b2, b3, b4⟩, ⟨e, s, o, st, ap⟩, k⟩) = nextL (behindL (k.to Cy) st) := by
    unfold nextRl; rw [if_neg (by simp [c1])]; rfl
  rw [hdef]
  show Runs _ _ (nxA ⟨⟨a1, a2, a3, a4⟩, ⟨b1, b2, b3, b4⟩, ⟨e, s, o, st, ap⟩, k⟩ st) _
  apply exec_sound ctNxOk 400
  rw [nxA_go]
  refine vecIn_to 9 32 5 none 5 (nxL ⟨⟨a1, a2, a3, a4⟩, ⟨b1, b2, b3, b4⟩, ⟨e, s, o, st, ap⟩, k⟩ st (.slc none 5 []) 0) (by kernel_rfl) ?_
  apply beh_loop false h2 h4 h5 st (fun r j => nxL ⟨⟨a1, a2, a3, a4⟩, ⟨b1, b2, b3, b4⟩, ⟨e, s, o, st, ap⟩, k⟩ st r j)
  · exact fun _ _ => rfl
  · intro r j hh
    apply exec_sound ctNxOk 400
    rw [nxL_go]
    exact hh
  · intro r hr hz hto
    have rl := D.Is.length (α := Cy) r
    rw [← hto]
    refine ⟨fun d1 => no ?_, fun d1 => ?_⟩
    · have d1 : r.to Cy = [] := List.eq_nil_of_length_eq_zero (by have := of_decide_eq_true d1; omega)
      rw [d1]; rfl
    · have d1 : 0 < (r.to Cy).length := by have := of_decide_eq_false d1; omega
      obtain ⟨q1, q2, q3, q4⟩ := cy_cell hr d1
      refine ⟨⟨by omega, by omega, hz⟩, ⟨q1, hz⟩, ?_⟩
      have e0 := head_match (l := r.to Cy) d1
      rw [e0, q4]
      obtain ⟨p, q, hs⟩ := cyL_sel (b := r.getInt 0 0) (n := r.getInt 0 1) (t := r.getInt 0 2) (stands_dat q2 rfl) (stands_dat q3 rfl) (c := CyD.cy ⟨r.getInt 0 0, r.getInt 0 1, r.getInt 0 2, r.cell 0 3, r.cell 0 4⟩) rfl
      exact ret_se (fun i => match i with | 0 => p | _ => q) (se_tup (.cons (se_agg hs) (.cons (se_lb rfl) .nil)))
end Go.Proofs.YtllmgnhjljmihaaGreat
end
section
open Go Go.Proofs Sx
namespace Go.Proofs.YtllmgnhjljmihaaGreat
set_option maxRecDepth 100000
set_option maxHeartbeats 0
noncomputable def lnS (x : RlD) : List SV := [.int .i64 x.src.e, .int .i64 x.src.s, .dat x.src.d, .int .i64 x.src.st, .int .i64 x.src.ap]
noncomputable def clnB (x : RlD) (q md : D) (sup : Bool) (n : Int) : Conf := Conf.mk (bhTop n) [SFrm.mk 12 (some (opsAt Tryz.prog 12 [1, 1, 1, 1, 1, 1, 0], [5, 6, 7, 8])) (some 42) [Item.code (cAt Tryz.prog 12 [1, 1, 1, 1, 1, 1, 1])] (mkJ 0 [(4, .ptr 1 0), (6, .ptr 0 0), (7, .ptr 2 0), (8, .dat md), (9, .bool sup), (38, .ptr 0 0)] 0 60)]
 [(0, OBlk.cells 68 (rlV x (.dat x.src.d) (.vec 3))), (1, OBlk.cells 29 rlZ), (2, OBlk.cells 26 (lnS x)), (3, .arr 32 q)]
noncomputable def clnL (x : RlD) (q md : D) (sup : Bool) (n : Int) (r : D) (j : Int) : Conf := Conf.mk (bhLop n (.vec 1) (q.len : Int) j) [SFrm.mk 12 (some (opsAt Tryz.prog 12 [1, 1, 1, 1, 1, 1, 0], [5, 6, 7, 8])) (some 42) [Item.code (cAt Tryz.prog 12 [1, 1, 1, 1, 1, 1, 1])] (mkJ 0 [(4, .ptr 2 0), (6, .ptr 3 0), (7, .ptr 4 0), (8, .dat md), (9, .bool sup), (38, .ptr 3 0)] 0 60)]
 [(0, .arr 32 r), (1, .arr 32 q), (2, OBlk.cells 29 rlZ), (3, OBlk.cells 68 (rlV x (.dat x.src.d) (.vec 1))), (4, OBlk.cells 26 (lnS x))]
section
variable (d s o k p q md r : D) (b : Nat) (sup : Bool) (n j a a1 a2 a3 a4 b1 b2 b3 b4 e si st ap : Int)
theorem clnB_go : exec Tryz.prog ctAp 400 (clnB ⟨⟨a1, a2, a3, a4⟩, ⟨b1, b2, b3, b4⟩, ⟨e, si, o, st, ap⟩, k⟩ q md sup n) =
 Tree.leaf
 (Conf.mk
 (SFrm.mk 44 none none
 [Item.inLoop (cAt Tryz.prog 44 [1, 1, 0, 1, 0, 0]), Item.inBlock 0, Item.code (cAt Tryz.prog 44 [1, 1, 1])]
 (mkJ 1
 [(1, .int .i64 n), (5, .nils), (12, .vec 0), (13, .int .i64 (↑(D.len q) : Int)),
 (14, .int .i64 0)]
 0 29))
 [SFrm.mk 12 (some (opsAt Tryz.prog 12 [1, 1, 1, 1, 1, 1, 0], [5, 6, 7, 8])) (some 42)
 [Item.code (cAt Tryz.prog 12 [1, 1, 1, 1, 1, 1, 1])]
 (mkJ 0 [(4, .ptr 1 0), (6, .ptr 2 0), (7, .ptr 3 0), (8, .dat md), (9, .bool sup), (38, .ptr 2 0)] 0
 60)]
 [(0, OBlk.arr 32 q),
 (1,
 OBlk.cells 29
 [.int .i64 0, .int .i64 0, .int .i64 0, .int .i64 0, .int .i64 0,
 .int .i64 0, .int .i64 0, .int .i64 0, .int .i64 0,
 .int .i64 0, .nils, .int .i64 0, .int .i64 0, .nils]),
 (2,
 OBlk.cells 68
 [.int .i64 a1, .int .i64 a2, .int .i64 a3, .int .i64 a4,
 .int .i64 b1, .int .i64 b2, .int .i64 b3, .int .i64 b4,
 .int .i64 e, .int .i64 si, .dat o, .int .i64 st, .int .i64 ap,
 .vec 0]),
 (3,
 OBlk.cells 26
 [.int .i64 e, .int .i64 si, .dat o, .int .i64 st, .int .i64 ap])]) := by kernel_rfl

theorem clnL_go : 
 let z1 := (SFrm.mk 44 none none [Item.inLoop (cAt Tryz.prog 44 [1, 1, 0, 1, 0, 0]), Item.inBlock 0, Item.code (cAt Tryz.prog 44 [1, 1, 1])] (mkJ 1 [(1, .int .i64 n), (5, .vec 0), (12, .vec 1), (13, .int .i64 (↑(D.len q) : Int)), (14, .int .i64 (IntKind.wrap .i64 (j + 1)))] 0 29))
 let z2 : List SV := [.int .i64 a1, .int .i64 a2, .int .i64 a3, .int .i64 a4, .int .i64 b1, .int .i64 b2, .int .i64 b3, .int .i64 b4, .int .i64 e, .int .i64 si, .dat o, .int .i64 st, .int .i64 ap, .vec 1]
 let z3 : List SV := [.int .i64 0, .int .i64 0, .int .i64 0, .int .i64 0, .int .i64 0, .int .i64 0, .int .i64 0, .int .i64 0, .int .i64 0, .int .i64 0, .nils, .int .i64 0, .int .i64 0, .nils]
 exec Tryz.prog ctAp 600 (unroll (clnL ⟨⟨a1, a2, a3, a4⟩, ⟨b1, b2, b3, b4⟩, ⟨e, si, o, st, ap⟩, k⟩ q md sup n r j)) =
 Tree.br (decide (j < (↑(D.len q) : Int))) (.need (0 ≤ j ∧ j < (↑(D.len q) : Int) ∧ D.sz q = 5) (.need (D.HasCells q (Int.toNat j) 0 [FT.int .i64, FT.int .i64, FT.int .i64, FT.slc, FT.slc] ∧ D.sz q = 5)
 (.br (decide (D.getInt q (Int.toNat j) 1 > n)) (.need (CyD.Ok (CyD.mk (D.getInt q (Int.toNat j) 0) (D.getInt q (Int.toNat j) 1) (D.getInt q (Int.toNat j) 2) (D.cell q (Int.toNat j) 3) (D.cell q (Int.toNat j) 4)))
 (.all fun hs => .all fun hs_1 => .need (D.sz r = 5 ∧ D.Fits (D.slc (D.hd (hs_1 0 0)) 5 [[D.int .i64 (D.getInt q (Int.toNat j) 0), D.int .i64 (D.getInt q (Int.toNat j) 1), D.int .i64 (D.getInt q (Int.toNat j) 2), D.like
 (hs 0 0) (D.to Int (D.cell q (Int.toNat j) 3)), D.like (hs 0 1) (D.to Wt (D.cell q (Int.toNat j) 4))]]) 5 ∧ (D.len r + D.len (D.slc (D.hd (hs_1 0 0)) 5 [[D.int .i64 (D.getInt q (Int.toNat j) 0), D.int .i64
 (D.getInt q (Int.toNat j) 1), D.int .i64 (D.getInt q (Int.toNat j) 2), D.like (hs 0 0) (D.to Int (D.cell q (Int.toNat j) 3)), D.like (hs 0 1) (D.to Wt (D.cell q (Int.toNat j) 4))]])) * 72 ≤ 140737488355328 ∧ D.len r + D.len
 (D.slc (D.hd (hs_1 0 0)) 5 [[D.int .i64 (D.getInt q (Int.toNat j) 0), D.int .i64 (D.getInt q (Int.toNat j) 1), D.int .i64 (D.getInt q (Int.toNat j) 2), D.like (hs 0 0) (D.to Int (D.cell q (Int.toNat j) 3)), D.like
 (hs 0 1) (D.to Wt (D.cell q (Int.toNat j) 4))]]) ≤ 9223372036854775807) (.all fun hs_2 => .leaf (Conf.mk z1 [SFrm.mk 12 (some (opsAt Tryz.prog 12 [1, 1, 1, 1, 1, 1, 0], [5, 6, 7, 8])) (some 42) [Item.code
 (cAt Tryz.prog 12 [1, 1, 1, 1, 1, 1, 1])] (mkJ 0 [(4, .ptr 2 0), (6, .ptr 3 0), (7, .ptr 4 0), (8, .dat md), (9, .bool sup), (38, .ptr 3 0)] 0 60)] [(0, OBlk.arr 32 (D.slc (D.hd (hs_2 0 0)) 5 (List.append
 (D.rows r) (D.rows (D.slc (D.hd (hs_1 0 0)) 5 [[D.int .i64 (D.getInt q (Int.toNat j) 0), D.int .i64 (D.getInt q (Int.toNat j) 1), D.int .i64 (D.getInt q (Int.toNat j) 2), D.like (hs 0 0) (D.to Int (D.cell q
 (Int.toNat j) 3)), D.like (hs 0 1) (D.to Wt (D.cell q (Int.toNat j) 4))]]))))), (1, OBlk.arr 32 q), (2, OBlk.cells 29 z3), (3, OBlk.cells 68 z2), (4, OBlk.cells 26 [.int .i64 e, .int .i64 si, .dat o, .int .i64 st, .int .i64 ap])]))))
 (.leaf (Conf.mk z1 [SFrm.mk 12 (some (opsAt Tryz.prog 12 [1, 1, 1, 1, 1, 1, 0], [5, 6, 7, 8])) (some 42) [Item.code (cAt Tryz.prog 12 [1, 1, 1, 1, 1, 1, 1])] (mkJ 0 [(4, .ptr 2 0), (6, .ptr 3 0), (7, .ptr 4 0),
 (8, .dat md), (9, .bool sup), (38, .ptr 3 0)] 0 60)] [(0, OBlk.arr 32 r), (1, OBlk.arr 32 q), (2, OBlk.cells 29 z3), (3, OBlk.cells 68 z2), (4, OBlk.cells 26 [.int .i64 e, .int .i64 si, .dat o, .int .i64 st, .int .i64 ap])])))))
 (.br sup (.ret (SV.tup [.agg [.int .i64 e, .int .i64 a2, .int .i64 a3, .int .i64 a4, .int .i64 e, .int .i64 b2, .int .i64 b3, .int .i64 b4, .int .i64 e, .int .i64 si, .dat o, .int .i64 st, .int .i64 ap, .nils], .dat md]))
 (.ret (SV.tup [.agg [.int .i64 a1, .int .i64 a2, .int .i64 a3, .int .i64 a4, .int .i64 b1, .int .i64 b2, .int .i64 b3, .int .i64 b4, .int .i64 e, .int .i64 si, .dat o, .int .i64 st, .int .i64 ap, .dat r], .dat md]))) := by
 intros; kernel_rfl

end
end Go.Proofs.YtllmgnhjljmihaaGreat
end
section
open Go Go.Proofs Sx
namespace Sx
theorem ret_rl2 {P : Program} {w : World} {H : HV} {a b c d e f g h i j k l : Int} {X Y Z : SV} {os : List Int} {ks : List Cy} {ms : List Msg} {r : Rl × List Msg} (hx : Stands Int X os) (hy : Stands Cy Y ks) (hz : Stands Msg Z ms) (hr : r = (⟨⟨a, b, c, d⟩, ⟨e, f, g, h⟩, ⟨i, j, os, k, l⟩, ks⟩, ms)) :
    (Tree.ret (.tup [.agg [.int .i64 a, .int .i64 b, .int .i64 c, .int .i64 d, .int .i64 e, .int .i64 f, .int .i64 g, .int .i64 h, .int .i64 i, .int .i64 j, X, .int .i64 k, .int .i64 l, Y], Z])).holds P ⟨w, H⟩ (RetD w H fun ds => .tup [.agg (rlL (ds 0) (ds 1) r.1), .dat ((ds 2).like r.2)]) := by
  subst hr
  obtain ⟨p, q, hs⟩ := rlL_sel (a := a) (b := b) (c := c) (d := d) (e := e) (f := f) (g := g) (h := h) (i := i) (j := j) (k := k) (l := l) hx hy rfl
  obtain ⟨z, hz⟩ := hz.se
  exact ret_se (fun i => match i with | 0 => p | 1 => q | _ => z) (se_tup (.cons (se_agg hs) (.cons hz .nil)))
end Sx
namespace Go.Proofs.YtllmgnhjljmihaaGreat
set_option maxRecDepth 100000
theorem cln_loop {H : HV} {w : World} {a1 a2 a3 a4 b1 b2 b3 b4 e s st ap n : Int} {o k q md : D} {sup : Bool} {ks : List Cy} {os : List Int} {ms : List Msg} {r : Rl × List Msg} (q1 : q.Is Cy) (q3 : q.to Cy = ks) (hl : ks.length ≤ 1048576) (h5 : ∀ c, c ∈ ks → CyOk c) (ho : Stands Int (.dat o) os) (hm : Stands Msg (.dat md) ms)
    (hr1 : sup = true → r = (⟨⟨e, a2, a3, a4⟩, ⟨e, b2, b3, b4⟩, ⟨e, s, os, st, ap⟩, []⟩, ms)) (hr2 : sup = false → r = (⟨⟨a1, a2, a3, a4⟩, ⟨b1, b2, b3, b4⟩, ⟨e, s, os, st, ap⟩, behindL ks n⟩, ms)) :
    Runs Tryz.prog ⟨w, H⟩ (clnB ⟨⟨a1, a2, a3, a4⟩, ⟨b1, b2, b3, b4⟩, ⟨e, s, o, st, ap⟩, k⟩ q md sup n) (RetD w H fun ds => .tup [.agg (rlL (ds 0) (ds 1) r.1), .dat ((ds 2).like r.2)]) := by
  have ql := D.Is.length (α := Cy) q
  have hql : q.len ≤ 1048576 := by rw [ql, q3]; omega
  apply exec_sound ctApOk 400
  rw [clnB_go]
  refine vecIn_to 9 32 5 none 5 (clnL ⟨⟨a1, a2, a3, a4⟩, ⟨b1, b2, b3, b4⟩, ⟨e, s, o, st, ap⟩, k⟩ q md sup n (.slc none 5 []) 0) (by kernel_rfl) ?_
  apply beh_loop true q1 hql (by rw [q3]; exact h5) n (fun r j => clnL ⟨⟨a1, a2, a3, a4⟩, ⟨b1, b2, b3, b4⟩, ⟨e, s, o, st, ap⟩, k⟩ q md sup n r j)
  · exact fun _ _ => rfl
  · intro r j hh
    apply exec_sound ctApOk 600
    rw [clnL_go]
    exact hh
  · intro y hy hz hto
    rw [q3] at hto
    exact ⟨fun c => ret_rl2 ho stands_nils hm (hr1 c), fun c => ret_rl2 ho (stands_dat hy hto) hm (hr2 c)⟩
theorem lawCln : Law Tryz.prog 12 ((rdRl.two rdMsg).sp spLearnRl) := by
  refine law_in _ (by kernel_rfl) fun H w ⟨⟨⟨a1, a2, a3, a4⟩, ⟨b1, b2, b3, b4⟩, ⟨e, s, o, st, ap⟩, k⟩, ⟨mk, mf, mt, mn, mv, me, mb, ml⟩⟩ hok hp => ?_
  have hx := hp _ (List.mem_singleton.2 rfl)
  apply goS_sound ctApOk (fun _ => false) [(27, 1)] 400
  rw [show (rdRl.two rdMsg).canon (⟨⟨a1, a2, a3, a4⟩, ⟨b1, b2, b3, b4⟩, ⟨e, s, o, st, ap⟩, k⟩, ⟨mk, mf, mt, mn, mv, me, mb, ml⟩) = [.agg [.int .i64 a1, .int .i64 a2, .int .i64 a3, .int .i64 a4, .int .i64 b1, .int .i64 b2, .int .i64 b3, .int .i64 b4, .int .i64 e, .int .i64 s, .dat o, .int .i64 st, .int .i64 ap, .dat k], .agg [.int .i64 mk, .int .i64 mf, .int .i64 mt, .int .i64 mn, .int .i64 mv, .int .i64 me, .dat mb, .dat ml]] from rfl, cln_in]
  show Tree.holds _ _ (RetD w H fun ds => .tup [.agg (rlL (ds 0) (ds 1) (learnRl (RlD.rl ⟨⟨a1, a2, a3, a4⟩, ⟨b1, b2, b3, b4⟩, ⟨e, s, o, st, ap⟩, k⟩) (MsgD.msg ⟨mk, mf, mt, mn, mv, me, mb, ml⟩)).1), .dat ((ds 2).like (learnRl (RlD.rl ⟨⟨a1, a2, a3, a4⟩, ⟨b1, b2, b3, b4⟩, ⟨e, s, o, st, ap⟩, k⟩) (MsgD.msg ⟨mk, mf, mt, mn, mv, me, mb, ml⟩)).2)]) _
  obtain ⟨h1, h2, h3, h4, h5⟩ := id hx
  simp only at h1 h2 h3 h4 h5
  refine ⟨hx, fun c1 => ret_rl2 (stands_self h1) (stands_self h2) stands_nils ?_, fun c1 => ?_⟩
  · have c1 : ckRl (RlD.rl ⟨⟨a1, a2, a3, a4⟩, ⟨b1, b2, b3, b4⟩, ⟨e, s, o, st, ap⟩, k⟩) ≠ 0 := by simpa using c1
    unfold learnRl; rw [if_pos c1]; rfl
  have c1 : ckRl (RlD.rl ⟨⟨a1, a2, a3, a4⟩, ⟨b1, b2, b3, b4⟩, ⟨e, s, o, st, ap⟩, k⟩) = 0 := by simpa using c1
  obtain ⟨_, _, _, hf⟩ := ck_range c1
  have hmin : ∀ c, c ∈ k.to Cy → c.number > -9223372036854775808 := fun c hc => by
    have := cy_num (ck_cy hf c hc); omega
  have kl := D.Is.length (α := Cy) k
  refine runs_frame (Φ := bgPhi ⟨⟨a1, a2, a3, a4⟩, ⟨b1, b2, b3, b4⟩, ⟨e, s, o, st, ap⟩, k⟩) (top := bgC ⟨⟨a1, a2, a3, a4⟩, ⟨b1, b2, b3, b4⟩, ⟨e, s, o, st, ap⟩, k⟩) bgC_pure (fun kx hk => ?_) (fun H w _ => bgRuns hx hmin) fun v m hv => ?_
  · have h : (SV.keysL (mkJ 0 [(3, SV.ptr 0 0), (4, SV.ptr 1 0)] 0 60) ++ ((([] : List SFrm).flatMap fun f => SV.keysL f.tmps) ++ Mem.named [(0, OBlk.cells 47 [.int .i64 mk, .int .i64 mf, .int .i64 mt, .int .i64 mn, .int .i64 mv, .int .i64 me, SV.dat mb, SV.dat ml]), (1, OBlk.cells 29 rlZ)])).all (fun k => decide (k < 500)) = true := by kernel_rfl
    exact of_decide_eq_true (List.all_eq_true.1 h kx hk)
  · obtain ⟨rfl, p, q, rfl, ⟨p1, p2, p3⟩, q1, q2, q3⟩ := hv
    simp only at q3 p3
    show Runs _ _ (clnA ⟨⟨a1, a2, a3, a4⟩, ⟨b1, b2, b3, b4⟩, ⟨e, s, o, st, ap⟩, k⟩ p q mk mf mt mn mv me mb ml) _
    apply goS_sound ctApOk (fun _ => false) [(44, 8)] 400
    rw [clnA_go]
    have eo : SrcD.src ⟨e, s, p, st, ap⟩ = Rl.src (RlD.rl ⟨⟨a1, a2, a3, a4⟩, ⟨b1, b2, b3, b4⟩, ⟨e, s, o, st, ap⟩, k⟩) := by
      show (⟨e, s, p.to Int, st, ap⟩ : Src) = ⟨e, s, o.to Int, st, ap⟩
      rw [p3]
    rw [eo]
    refine fun hs => ⟨p1, fun _ _ => ?_⟩
    generalize hL : learn (Rl.src (RlD.rl ⟨⟨a1, a2, a3, a4⟩, ⟨b1, b2, b3, b4⟩, ⟨e, s, o, st, ap⟩, k⟩)) (MsgD.msg ⟨mk, mf, mt, mn, mv, me, mb, ml⟩) = L
    obtain ⟨⟨le, ls, lo, lst, lap⟩, lm⟩ := L
    have hdef : learnRl (RlD.rl ⟨⟨a1, a2, a3, a4⟩, ⟨b1, b2, b3, b4⟩, ⟨e, s, o, st, ap⟩, k⟩) (MsgD.msg ⟨mk, mf, mt, mn, mv, me, mb, ml⟩) = if le > e then (⟨⟨le, a2, a3, a4⟩, ⟨le, b2, lst, lap⟩, ⟨le, ls, lo, lst, lap⟩, []⟩, lm) else (⟨⟨a1, a2, a3, a4⟩, ⟨b1, b2, lst, lap⟩, ⟨le, ls, lo, lst, lap⟩, behindL (k.to Cy) lap⟩, lm) := by
      unfold learnRl
      rw [if_neg (by simp [c1])]
      simp only [hL]
      rfl
    rw [hdef]
    refine cln_loop (k := k) (n := lap) q1 q3 (by omega) h5 stands_like stands_like (fun c => ?_) (fun c => ?_)
    · rw [if_pos (of_decide_eq_true c)]
    · rw [if_neg (of_decide_eq_false c)]
end Go.Proofs.YtllmgnhjljmihaaGreat
end
section
open Go
namespace Sx
end Sx
end
section
open Go
namespace Sx
structure TlD where
  i : D
  a : D
def TlD.tl (x : TlD) : Tl := ⟨x.i.to Int, x.a.to Int⟩
def rdTl : Rd1 TlD where
  read x := match x with
    | .agg [i, a] => match rdD.read i, rdD.read a with
      | some i, some a => some ⟨i, a⟩
      | _, _ => none
    | _ => none
  canon h := .agg [.dat h.i, .dat h.a]
  right H E x b h hok := by
    split at h
    · split at h
      · rename_i h1 h2
        cases h
        obtain ⟨a1, a2, _⟩ := hok
        obtain ⟨i1, i2⟩ := rdD.right H E _ _ h1 a1
        obtain ⟨j1, j2⟩ := rdD.right H E _ _ h2 a2
        refine ⟨?_, i2, j2, trivial⟩
        simp only [SV.den, SV.denL, i1, j1]
        rfl
      · cases h
    · cases h
def spBefT (x : TlD × Int × Int) : SpecR := .scalar [x.1.i.Is Int ∧ x.1.a.Is Int ∧ 0 ≤ x.2.1 ∧ x.2.1 < (x.1.a.to Int).length ∧ 0 ≤ x.2.2 ∧ x.2.2 < (x.1.i.to Int).length] (.bool (beforeT x.1.tl x.2.1 x.2.2))
end Sx
namespace Sx
noncomputable def wvH (hb : D) (z : Int) : SV := .agg [.int .i64 (hb.getInt (Int.toNat z) 0), .int .i64 (hb.getInt (Int.toNat z) 1), .dat (hb.cell (Int.toNat z) 2)]
end Sx
namespace Sx
def rowOk (t : Tl) (n : Nat) (set : List Int) (b : Int) : Bool := (List.range n).all fun (a : Nat) => set.contains (a : Int) || !beforeT t a b
def closedT (t : Tl) (n : Nat) (set : List Int) : Bool := set.all fun b => rowOk t n set b
def inL (n : Nat) (l : List Int) : List Bool := (List.range n).map fun (x : Nat) => l.contains (x : Int)
theorem setUp_le {l : List Int} {n : Int} : ∀ {i : Nat}, setUp l n i = true → ∀ k, k < i → 0 ≤ l.getD k 0 ∧ l.getD k 0 < n
  | 0, _, k, hk => by omega
  | i + 1, h, k, hk => by
    simp only [setUp, Bool.and_eq_true, decide_eq_true_eq] at h
    by_cases e : k = i
    · subst e; exact ⟨h.2.1, h.2.2.1⟩
    · exact setUp_le h.1 k (by omega)
theorem setH_in {l : List Int} {n : Int} (h : setH l n = true) {k : Nat} (hk : k < l.length) : 0 ≤ l[k] ∧ l[k] < n := by
  have := setUp_le h k hk
  rwa [getD_lt hk] at this
def spIsCl (x : CkD × D) : SpecR := .scalar [x.1.w.Is Wt ∧ x.1.i.Is Int ∧ x.1.a.Is Int ∧ x.2.Is Int ∧ x.1.w.len ≤ 1048576 ∧ x.2.len ≤ 1048576 ∧ (x.1.i.to Int).length = (x.1.w.to Wt).length ∧ (x.1.a.to Int).length = (x.1.w.to Wt).length ∧ setH (x.2.to Int) (x.1.w.to Wt).length = true]
  (.bool (closedT ⟨x.1.i.to Int, x.1.a.to Int⟩ (x.1.w.to Wt).length (x.2.to Int)))
end Sx
namespace Sx
def spBefR (x : HiD × Int × Int) : SpecR := .scalar [x.1.e.Is Ev ∧ x.1.e.len ≤ 1048576] (.bool (beforeR (x.1.e.to Ev) x.2.1 x.2.2))
def rowOkR (l : List Ev) (n : Nat) (set : List Int) (b : Int) : Bool := (List.range n).all fun (a : Nat) => !beforeR l a b || set.contains (a : Int)
def closedS (l : List Ev) (n : Nat) (set : List Int) : Bool := set.all fun b => rowOkR l n set b
def spClR (x : HiD × D) : SpecR := .scalar [x.1.e.Is Ev ∧ x.1.e.len ≤ 1048576 ∧ x.1.w.Is Wt ∧ x.1.w.len ≤ 1048576 ∧ x.2.Is Int ∧ x.2.len ≤ 1048576] (.bool (closedS (x.1.e.to Ev) (x.1.w.to Wt).length (x.2.to Int)))
def closedB (h : Hist) (set : List Int) : Bool := decide ((checkH h).1 = 0) && (setH set h.writes.length && closedS h.events h.writes.length set)
def spBef (x : HiD × Int × Int) : SpecR := .scalar [x.1.Right] (.bool (beforeH x.1.hist x.2.1 x.2.2))
def spCls (x : HiD × D) : SpecR := .scalar [x.1.Right ∧ x.2.Is Int ∧ x.2.len ≤ 1048576] (.bool (closedB x.1.hist (x.2.to Int)))
noncomputable def spAcd (x : HiD × Int) : SpecR := .data [x.1.Right] fun ds => .dat ((ds 0).like (ackedH x.1.hist x.2))
def firstN (n : Int) : List Int := (List.range n.toNat).map fun (a : Nat) => (a : Int)
noncomputable def spFst (n : Int) : SpecR := .data [n ≤ 1000000] fun ds => .dat ((ds 0).like (firstN n))
theorem closed_same {h : Hist} {set : List Int} (hc : (checkH h).1 = 0) (hs : setH set h.writes.length = true) : closedT (checkH h).2 h.writes.length set = closedS h.events h.writes.length set := by
  obtain ⟨htl, hlen, _⟩ := checkH_ok hc
  unfold closedT closedS
  rw [Bool.eq_iff_iff, List.all_eq_true, List.all_eq_true]
  have key : ∀ b, b ∈ set → rowOk (checkH h).2 h.writes.length set b = rowOkR h.events h.writes.length set b := fun b hb => by
    obtain ⟨k, hk, rfl⟩ := List.getElem_of_mem hb
    have hz := setH_in hs hk
    unfold rowOk rowOkR
    rw [Bool.eq_iff_iff, List.all_eq_true, List.all_eq_true]
    have e : ∀ a, a ∈ List.range h.writes.length → beforeT (checkH h).2 (a : Int) set[k] = beforeR h.events a set[k] := fun a ha => by
      have ha := List.mem_range.1 ha
      exact before_same htl ⟨by omega, by omega⟩ ⟨hz.1, by omega⟩
    constructor
    · intro h1 a ha; rw [← e a ha, Bool.or_comm]; exact h1 a ha
    · intro h1 a ha; rw [e a ha, Bool.or_comm]; exact h1 a ha
  constructor
  · intro h1 b hb; rw [← key b hb]; exact h1 b hb
  · intro h1 b hb; rw [key b hb]; exact h1 b hb
end Sx
end
section
open Go
namespace Sx
def evR (set : List Int) (x : Ev) : List Ev := ((List.range set.length).filter fun k => decide (set.getD k 0 = x.write)).map fun (k : Nat) => (⟨x.kind, k⟩ : Ev)
def restE (set : List Int) (l : List Ev) : List Ev := l.flatMap (evR set)
def zWt : Wt := ⟨0, 0, []⟩
def pickW (ws : List Wt) (set : List Int) : List Wt := set.map fun n => ws.getD n.toNat zWt
def restrictH (h : Hist) (set : List Int) : Hist × Int :=
  if (checkH h).1 ≠ 0 then (zHist, (checkH h).1)
  else if setH set h.writes.length = false then (zHist, 2)
  else if closedS h.events h.writes.length set = false then (zHist, 27)
  else (⟨h.sizes, pickW h.writes set, restE set h.events⟩, 0)
noncomputable def spRest (x : HiD × D) : SpecR := .data [x.1.Right ∧ x.2.Is Int ∧ x.2.len ≤ 1048576] fun ds => .tup [hiSV ds (restrictH x.1.hist (x.2.to Int)).1, .int .i64 (restrictH x.1.hist (x.2.to Int)).2]
end Sx
end
section
open Go
namespace Sx
theorem law_tab2 {P : Program} {f : FuncId} {β : Type} {r : Rd β} {sp : β → SpecR} {γ : Type} [DecidableEq γ] (h : Law P f (r.sp sp)) (c : β → Bool) (v : β → γ) (tab : List γ) (k : β → γ → SpecR)
    (hh : ∀ b, c b = true → match k b (v b) with
      | .no => True
      | .data ps' g' => ∃ ps g, sp b = .data ps g ∧ ((∀ p, p ∈ ps' → p) → ∀ p, p ∈ ps → p) ∧ ∀ ds, ∃ ds', g' ds' = g ds
      | .scalar ps' v' => ∃ ps v, sp b = .scalar ps v ∧ ((∀ p, p ∈ ps' → p) → ∀ p, p ∈ ps → p) ∧ v' = v) :
    Law P f (r.sp fun b => iff (c b) (tabD (v b) tab (k b))) :=
  law_alt h fun b => by
    unfold iff
    cases hc : c b with
    | false => trivial
    | true =>
      simp only
      rcases tabD_or (v b) (k b) tab with h1 | h1
      · rw [h1]; trivial
      · rw [h1]; exact hh b hc
def evRows : List (List D) → Bool
  | [] => true
  | r :: rs => match r with
    | [.int .i64 _, .int .i64 _] => evRows rs
    | _ => false
def D.allEv (d : D) : Bool :=
  match d with
  | .slc _ s rows => (match rows with | [] => true | _ :: _ => s == 2) && evRows rows
  | _ => false
def secRows : List (List D) → Bool
  | [] => true
  | r :: rs => match r with
    | [.int .u8 _, .int .u8 _, .int .u8 _, .int .u8 _, .int .u8 _, .int .u8 _, .int .u8 _, .int .u8 _] => secRows rs
    | _ => false
def D.allSec (d : D) : Bool :=
  match d with
  | .slc _ s rows => (match rows with | [] => true | _ :: _ => s == 8) && secRows rows
  | _ => false
def wtRows : List (List D) → Bool
  | [] => true
  | r :: rs => match r with
    | [.int .i64 _, .int .i64 _, d] => d.allSec && wtRows rs
    | _ => false
def D.allWt (d : D) : Bool :=
  match d with
  | .slc _ s rows => (match rows with | [] => true | _ :: _ => s == 3) && wtRows rows
  | _ => false
theorem secRows_ok : ∀ (rows : List (List D)), secRows rows = true → ∀ r, r ∈ rows → Codec.ok Sec r
  | [], _, r, h => by cases h
  | x :: rs, h, r, hr => by
    unfold secRows at h
    split at h
    · rcases List.mem_cons.1 hr with rfl | hr
      · exact ⟨_, _, _, _, _, _, _, _, rfl⟩
      · exact secRows_ok rs h r hr
    · cases h
theorem allSec_is {d : D} (h : d.allSec = true) : d.Is Sec := by
  unfold D.allSec at h
  split at h
  · rename_i a s rows
    simp only [Bool.and_eq_true] at h
    refine ⟨_, _, _, rfl, ?_, secRows_ok _ h.2⟩
    cases rows with
    | nil => exact .inl rfl
    | cons x r => right; exact eq_of_beq h.1
  · cases h
theorem wtRows_ok : ∀ (rows : List (List D)), wtRows rows = true → ∀ r, r ∈ rows → Codec.ok Wt r
  | [], _, r, h => by cases h
  | x :: rs, h, r, hr => by
    unfold wtRows at h
    split at h
    · simp only [Bool.and_eq_true] at h
      rcases List.mem_cons.1 hr with rfl | hr
      · exact ⟨_, _, _, rfl, allSec_is h.1⟩
      · exact wtRows_ok rs h.2 r hr
    · cases h
theorem allWt_is {d : D} (h : d.allWt = true) : d.Is Wt := by
  unfold D.allWt at h
  split at h
  · rename_i a s rows
    simp only [Bool.and_eq_true] at h
    refine ⟨_, _, _, rfl, ?_, wtRows_ok _ h.2⟩
    cases rows with
    | nil => exact .inl rfl
    | cons x r => right; exact eq_of_beq h.1
  · cases h
def hiL (x : HiD) : Bool := x.s.allInt && (x.w.allWt && (x.e.allEv && (decide (x.s.len ≤ 1048576) && (decide (x.w.len ≤ 1048576) && (decide (x.e.len ≤ 1048576) && (x.w.to Wt).all fun w => decide (w.data.length ≤ 1048576))))))
def setL (x : D) : Bool := x.allInt && decide (x.len ≤ 1048576)
def spCkT (x : HiD) : SpecR := iff (hiL x) (tabD (checkH x.hist).1 [0] fun e => .scalar [] (.int .i64 e))
def spBefTT (x : HiD × Int × Int) : SpecR := iff (hiL x.1) (tabD (beforeH x.1.hist x.2.1 x.2.2) [true, false] fun b => .scalar [] (.bool b))
def spClsT (x : HiD × D) : SpecR := iff (hiL x.1 && setL x.2) (tabD (closedB x.1.hist (x.2.to Int)) [true, false] fun b => .scalar [] (.bool b))
noncomputable def spRestT (x : HiD × D) : SpecR := iff (hiL x.1 && setL x.2) (tabD (restrictH x.1.hist (x.2.to Int)).2 [0, 27] fun e => .data [] fun ds => .tup [hiSV ds (restrictH x.1.hist (x.2.to Int)).1, .int .i64 e])
noncomputable def spAcdT (x : HiD × Int) : SpecR := iff (hiL x.1) (tabD () [()] fun _ => .data [] fun ds => .dat ((ds 0).like (ackedH x.1.hist x.2)))
def spIntsS (x : D × D) : SpecR := .scalar [x.1.Is Int ∧ x.2.Is Int ∧ x.1.len ≤ 1048576 ∧ x.1.to Int = x.2.to Int] (.lb true)
def spEvsS (x : D × D) : SpecR := .scalar [x.1.Is Ev ∧ x.2.Is Ev ∧ x.1.len ≤ 1048576 ∧ x.1.to Ev = x.2.to Ev] (.lb true)
def spHasC (x : D × Int) : SpecR := .scalar [x.1.Is Int ∧ x.1.len ≤ 1048576] (.bool ((x.1.to Int).contains x.2))
end Sx
end
section
open Go
namespace Sx
instance : Plain Sec where
  cells _ _ s := [.int .u8 s.b0, .int .u8 s.b1, .int .u8 s.b2, .int .u8 s.b3, .int .u8 s.b4, .int .u8 s.b5, .int .u8 s.b6, .int .u8 s.b7]
  right d i r _ h := by obtain ⟨_, _, _, _, _, _, _, _, rfl⟩ := h; rfl
instance : Plain Ev where
  cells _ _ e := [.int .i64 e.kind, .int .i64 e.write]
  right d i r _ h := by obtain ⟨_, _, rfl⟩ := h; rfl
instance : Plain Wt where
  cells d i w := [.int .i64 w.vol, .int .i64 w.start, (d.cell i 2).plain w.data]
  right d i r h ho := by
    obtain ⟨a, b, v, rfl, hv⟩ := ho
    obtain ⟨p1, p2, p3, rfl⟩ := hv.slc
    have e1 : d.cell i 2 = .slc p1 p2 p3 := by simp [D.cell, D.cellAt, h]
    simp only [Codec.dec, e1, plain_self hv]
def pI (d : D) (l : List Int) : D := d.plain l
def pS (d : D) (l : List Sec) : D := d.plain l
noncomputable def pW (d : D) (l : List Wt) : D := d.plain l
def pE (d : D) (l : List Ev) : D := d.plain l
def oneS : Sec := ⟨1, 0, 0, 0, 0, 0, 0, 0⟩
noncomputable def spEx1 (n : Int) : SpecR := .data [] fun ds => .agg [.int .i64 0, .int .i64 n, .dat (pS (ds 0) [oneS])]
noncomputable def exSV (ds : Nat → D) : SV := .agg [.dat (pI (ds 0) [4]), .dat (pW (ds 1) [⟨0, 0, [oneS]⟩, ⟨0, 1, [oneS]⟩, ⟨0, 2, [oneS]⟩]), .dat (pE (ds 2) [⟨0, 0⟩, ⟨0, 1⟩, ⟨1, 0⟩, ⟨0, 2⟩])]
noncomputable def spEx (_ : Unit) : SpecR := .data [] exSV
def spSameHS (x : HiD × HiD) : SpecR := .scalar [x.1.Right ∧ x.2.s.Is Int ∧ x.2.w.Is Wt ∧ x.2.e.Is Ev ∧ x.1.hist = x.2.hist] (.lb true)
end Sx
end
section
open Go
namespace Sx
instance : Plain Cy where
  cells d i c := [.int .i64 c.base, .int .i64 c.number, .int .i64 c.time, (d.cell i 3).plain c.pos, (d.cell i 4).plain c.wr]
  right d i r h ho := by
    obtain ⟨a, b, t, p, w, rfl, hp, hw⟩ := ho
    obtain ⟨p1, p2, p3, rfl⟩ := hp.slc
    obtain ⟨w1, w2, w3, rfl⟩ := hw.slc
    have e1 : d.cell i 3 = .slc p1 p2 p3 := by simp [D.cell, D.cellAt, h]
    have e2 : d.cell i 4 = .slc w1 w2 w3 := by simp [D.cell, D.cellAt, h]
    simp only [Codec.dec, e1, e2, plain_self hp, plain_self hw]
noncomputable instance : Plain Msg where
  cells d i m := [.int .i64 m.kind, .int .i64 m.frm, .int .i64 m.to, .int .i64 m.number, .int .i64 m.value, .int .i64 m.epoch, (d.cell i 6).plain m.values, (d.cell i 7).plain m.body]
  right d i r h ho := by
    obtain ⟨a, b, c, d', e, f, p, w, rfl, hp, hw⟩ := ho
    obtain ⟨p1, p2, p3, rfl⟩ := hp.slc
    obtain ⟨w1, w2, w3, rfl⟩ := hw.slc
    have e1 : d.cell i 6 = .slc p1 p2 p3 := by simp [D.cell, D.cellAt, h]
    have e2 : d.cell i 7 = .slc w1 w2 w3 := by simp [D.cell, D.cellAt, h]
    simp only [Codec.dec, e1, e2, plain_self hp, plain_self hw]
noncomputable def pC (d : D) (l : List Cy) : D := d.plain l
noncomputable def pMs (d : D) (l : List Msg) : D := d.plain l
def cyRows : List (List D) → Bool
  | [] => true
  | r :: rs => match r with
    | [.int .i64 _, .int .i64 _, .int .i64 _, p, w] => p.allInt && (w.allWt && cyRows rs)
    | _ => false
def D.allCy (d : D) : Bool :=
  match d with
  | .slc _ s rows => (match rows with | [] => true | _ :: _ => s == 5) && cyRows rows
  | _ => false
theorem cyRows_ok : ∀ (rows : List (List D)), cyRows rows = true → ∀ r, r ∈ rows → Codec.ok Cy r
  | [], _, r, h => by cases h
  | x :: rs, h, r, hr => by
    unfold cyRows at h
    split at h
    · simp only [Bool.and_eq_true] at h
      rcases List.mem_cons.1 hr with rfl | hr
      · exact ⟨_, _, _, _, _, rfl, allInt_is h.1, allWt_is h.2.1⟩
      · exact cyRows_ok rs h.2.2 r hr
    · cases h
theorem allCy_is {d : D} (h : d.allCy = true) : d.Is Cy := by
  unfold D.allCy at h
  split at h
  · rename_i a s rows
    simp only [Bool.and_eq_true] at h
    refine ⟨_, _, _, rfl, ?_, cyRows_ok _ h.2⟩
    cases rows with
    | nil => exact .inl rfl
    | cons x r => right; exact eq_of_beq h.1
  · cases h
def cyOkB (c : Cy) : Bool := decide (c.pos.length ≤ 1048576) && (decide (c.wr.length ≤ 1048576) && c.wr.all fun w => decide (w.data.length ≤ 1048576))
theorem cyOkB_is {c : Cy} (h : cyOkB c = true) : CyOk c := by
  simp only [cyOkB, Bool.and_eq_true, decide_eq_true_eq, List.all_eq_true] at h
  exact h
def rlB (x : RlD) : Bool := x.src.d.allInt && (x.k.allCy && (decide (x.src.d.len ≤ 1048576) && (decide (x.k.len ≤ 1048576) && (x.k.to Cy).all cyOkB)))
theorem rlB_is {x : RlD} (h : rlB x = true) : x.Ok := by
  simp only [rlB, Bool.and_eq_true, decide_eq_true_eq, List.all_eq_true] at h
  exact ⟨allInt_is h.1, allCy_is h.2.1, h.2.2.1, h.2.2.2.1, fun c hc => cyOkB_is (h.2.2.2.2 c hc)⟩
def cyB (x : CyD) : Bool := x.p.allInt && (x.w.allWt && (decide (x.p.len ≤ 1048576) && (decide (x.w.len ≤ 1048576) && (x.w.to Wt).all fun w => decide (w.data.length ≤ 1048576))))
theorem cyB_is {x : CyD} (h : cyB x = true) : x.Ok := by
  simp only [cyB, Bool.and_eq_true, decide_eq_true_eq, List.all_eq_true] at h
  exact ⟨allInt_is h.1, allWt_is h.2.1, h.2.2.1, h.2.2.2.1, h.2.2.2.2⟩
noncomputable def rlP (o k : D) (r : Rl) : List SV := [.int .i64 r.near.epoch, .int .i64 r.near.site, .int .i64 r.near.stored, .int .i64 r.near.applied, .int .i64 r.far.epoch, .int .i64 r.far.site, .int .i64 r.far.stored, .int .i64 r.far.applied,
  .int .i64 r.src.epoch, .int .i64 r.src.site, .dat (pI o r.src.offered), .int .i64 r.src.stored, .int .i64 r.src.applied, .dat (pC k r.kept)]
theorem rlP_like (o k : D) (r : Rl) : rlP (o.like r.src.offered) (k.like r.kept) r = rlL o k r := by simp only [rlP, rlL, pI, pC, plain_like]
noncomputable def cyP (p w : D) (c : Cy) : List SV := [.int .i64 c.base, .int .i64 c.number, .int .i64 c.time, .dat (pI p c.pos), .dat (pW w c.wr)]
theorem cyP_like (p w : D) (c : Cy) : cyP (p.like c.pos) (w.like c.wr) c = cyL p w c := by simp only [cyP, cyL, pI, pW, plain_like]
noncomputable def dsR (ds : Nat → D) (r : Rl) (l : List Msg) : Nat → D := fun i => match i with | 0 => (ds 0).like r.src.offered | 1 => (ds 1).like r.kept | _ => (ds 2).like l
/-! The example. -/
def xw (n : Int) (s : Int) : Wt := ⟨0, s, [⟨n, 0, 0, 0, 0, 0, 0, 0⟩]⟩
def xc1 : Cy := ⟨4, 5, 0, [], [xw 5 1]⟩
def xc2 : Cy := ⟨5, 6, 0, [], [xw 6 2]⟩
def xR0 : Rl := ⟨⟨1, 1, 4, 4⟩, ⟨1, 2, 4, 4⟩, ⟨1, 2, [], 4, 4⟩, []⟩
def xR1 : Rl := ⟨⟨1, 1, 5, 5⟩, ⟨1, 2, 4, 4⟩, ⟨1, 2, [5], 4, 4⟩, [xc1]⟩
def xR2 : Rl := ⟨⟨1, 1, 6, 6⟩, ⟨1, 2, 4, 4⟩, ⟨1, 2, [5, 6], 4, 4⟩, [xc1, xc2]⟩
def xR3 : Rl := ⟨⟨1, 1, 6, 6⟩, ⟨1, 2, 5, 4⟩, ⟨1, 2, [5, 6], 5, 4⟩, [xc1, xc2]⟩
def xR4 : Rl := ⟨⟨1, 1, 6, 6⟩, ⟨1, 2, 5, 5⟩, ⟨1, 2, [6], 5, 5⟩, [xc2]⟩
noncomputable def spNewX (x : Int × Int × Int × Int) : SpecR := iff true (tabD (newRl x.1 x.2.1 x.2.2.1 x.2.2.2) [(xR0, 0)] fun r => .data [] fun ds => .tup [.agg (rlP (ds 0) (ds 1) r.1), .int .i64 r.2])
noncomputable def spAplX (x : RlD × CyD) : SpecR := iff (rlB x.1 && cyB x.2) (tabD (applyRl x.1.rl x.2.cy) [(xR1, [⟨8, 0, 2, 5, 0, 1, [], []⟩], 0), (xR2, [⟨8, 0, 2, 6, 0, 1, [], []⟩], 0)] fun r => .data [] fun ds => .tup [.agg (rlP (ds 0) (ds 1) r.1), .dat (pMs (ds 2) r.2.1), .int .i64 r.2.2])
noncomputable def spNxtX (x : RlD) : SpecR := iff (rlB x) (tabD (nextRl x.rl) [(xc1, true), (xc2, true)] fun r => .data [] fun ds => .tup [.agg (cyP (ds 0) (ds 1) r.1), .bool r.2])
noncomputable def spLrnX (x : RlD × MsgD) : SpecR := iff (rlB x.1) (tabD (learnRl x.1.rl x.2.msg) [(xR3, [⟨10, 0, 2, 5, 0, 1, [], []⟩]), (xR4, [])] fun r => .data [] fun ds => .tup [.agg (rlP (ds 0) (ds 1) r.1), .dat (pMs (ds 2) r.2)])
noncomputable def spRstX (x : RlD × Int × Int) : SpecR := iff (rlB x.1) (tabD (restartRl x.1.rl x.2.1 x.2.2) [(xR4, 0), (zRl, 15)] fun r => .data [] fun ds => .tup [.agg (rlP (ds 0) (ds 1) r.1), .int .i64 r.2])
def spLagX (x : RlD) : SpecR := iff (rlB x) (tabD (lagRl x.rl) [1] fun n => .scalar [] (.int .i64 n))
end Sx
end
section
open Go Go.Proofs Sx
namespace Go.Proofs.YtllmgnhjljmihaaGreat
set_option maxRecDepth 100000
theorem lawNewX : Law Tryz.prog 18 (rdQuad.sp spNewX) :=
  law_tab lawNew _ _ _ _ fun b h => ⟨_, _, rfl, (fun _ p hp => by cases hp), fun ds => ⟨dsR ds (newRl b.1 b.2.1 b.2.2.1 b.2.2.2).1 [], by simp only [dsR, rlP_like]⟩⟩
theorem lawAplX : Law Tryz.prog 8 ((rdRl.two rdCy).sp spAplX) :=
  law_tab lawApl _ _ _ _ fun b h => ⟨_, _, rfl, fun _ p hp => by
    rw [List.mem_singleton.1 hp]
    simp only [Bool.and_eq_true] at h
    exact ⟨rlB_is h.1, cyB_is h.2⟩, fun ds => ⟨dsR ds (applyRl b.1.rl b.2.cy).1 (applyRl b.1.rl b.2.cy).2.1, by simp only [dsR, rlP_like, pMs, plain_like]⟩⟩
theorem lawNxtX : Law Tryz.prog 14 (rdRl.one.sp spNxtX) :=
  law_tab lawNxt _ _ _ _ fun b h => ⟨_, _, rfl, fun _ p hp => by rw [List.mem_singleton.1 hp]; exact rlB_is h, fun ds => ⟨fun i => match i with | 0 => (ds 0).like (nextRl b.rl).1.pos | _ => (ds 1).like (nextRl b.rl).1.wr, by simp only [cyP_like]⟩⟩
theorem lawClnX : Law Tryz.prog 12 ((rdRl.two rdMsg).sp spLrnX) :=
  law_tab lawCln _ _ _ _ fun b h => ⟨_, _, rfl, fun _ p hp => by rw [List.mem_singleton.1 hp]; exact rlB_is h, fun ds => ⟨dsR ds (learnRl b.1.rl b.2.msg).1 (learnRl b.1.rl b.2.msg).2, by simp only [dsR, rlP_like, pMs, plain_like]⟩⟩
theorem lawRstX : Law Tryz.prog 21 ((rdRl.three rdInt rdInt).sp spRstX) :=
  law_tab lawRst _ _ _ _ fun b h => ⟨_, _, rfl, fun _ p hp => by rw [List.mem_singleton.1 hp]; exact rlB_is h, fun ds => ⟨dsR ds (restartRl b.1.rl b.2.1 b.2.2).1 [], by simp only [dsR, rlP_like]⟩⟩
theorem lawLagX : Law Tryz.prog 22 (rdRl.one.sp spLagX) :=
  law_tab lawLag _ _ _ _ fun b h => ⟨_, _, rfl, fun _ p hp => by rw [List.mem_singleton.1 hp]; exact rlB_is h, rfl⟩
theorem lawEqIS : Law Tryz.prog 23 ((rdD.two rdD).sp spIntsS) :=
  law_sure lawEqI fun b => ⟨_, _, _, rfl, rfl, fun hp => by
    obtain ⟨h1, h2, h3, h4⟩ := hp _ (List.mem_singleton.2 rfl)
    exact ⟨fun p hp' => by rw [List.mem_singleton.1 hp']; exact ⟨h1, h2, h3⟩, decide_eq_true h4⟩⟩
noncomputable def ctTX : Ctrs := [(18, ctrOf (rdQuad.sp spNewX)), (8, ctrOf ((rdRl.two rdCy).sp spAplX)), (14, ctrOf (rdRl.one.sp spNxtX)), (12, ctrOf ((rdRl.two rdMsg).sp spLrnX)), (21, ctrOf ((rdRl.three rdInt rdInt).sp spRstX)), (22, ctrOf (rdRl.one.sp spLagX)), (23, ctrOf ((rdD.two rdD).sp spIntsS))]
theorem ctTXOk : Ctrs.Ok Tryz.prog ctTX := by
  intro x hx
  simp only [ctTX, List.mem_cons, List.not_mem_nil, or_false] at hx
  rcases hx with rfl | rfl | rfl | rfl | rfl | rfl | rfl
  · exact ctrOf_ok lawNewX
  · exact ctrOf_ok lawAplX
  · exact ctrOf_ok lawNxtX
  · exact ctrOf_ok lawClnX
  · exact ctrOf_ok lawRstX
  · exact ctrOf_ok lawLagX
  · exact ctrOf_ok lawEqIS
end Go.Proofs.YtllmgnhjljmihaaGreat
end
section
open Go Go.Proofs Sx
namespace Go.Proofs.YtllmgnhjljmihaaGreat
set_option maxRecDepth 100000
set_option maxHeartbeats 0
section
variable (b n d k v : Int)
theorem sml_in : exec Tryz.prog [] 300 (entry Tryz.prog 19 [.int .i64 b, .int .i64 n, .int .u8 d]) =
 Tree.need ((4 : Int) ≠ 0)
 (.all fun hs =>
 .all fun hs_1 =>
 .ret
 (.agg
 [.int .i64 b, .int .i64 n, .int .i64 0, .nils,
 .dat
 (D.slc (D.hd (hs_1 0 0)) 3
 [[D.int .i64 0, D.int .i64 (Int.tmod n 4),
 D.slc (D.hd (hs 0 0)) 8
 [[D.int .u8 (IntKind.wrap .u8 n), D.int .u8 d, D.int .u8 0,
 D.int .u8 0, D.int .u8 0, D.int .u8 0, D.int .u8 0,
 D.int .u8 0]]]])])) := by kernel_rfl

theorem asw_in : exec Tryz.prog [] 300 (entry Tryz.prog 20 [.int .i64 k, .int .i64 v]) =
 Tree.ret
 (.agg
 [.int .i64 k, .int .i64 2, .int .i64 0, .int .i64 0, .int .i64 v,
 .int .i64 1, .nils, .nils]) := by kernel_rfl

end
end Go.Proofs.YtllmgnhjljmihaaGreat
end
section
open Go Go.Proofs Sx
namespace Sx
def rdB8 : Rd1 Int where
  read x := match x with | .int .u8 n => some n | _ => none
  canon n := .int .u8 n
  right H E x b h hok := by
    split at h
    · cases h; exact ⟨rfl, trivial⟩
    · cases h
def smallC (b n d : Int) : Cy := ⟨b, n, 0, [], [⟨0, Int.tmod n 4, [⟨IntKind.u8.wrap n, d, 0, 0, 0, 0, 0, 0⟩]⟩]⟩
noncomputable def spSmL (x : Int × Int × Int) : SpecR := .data [] fun ds => .agg (cyL (ds 0) (ds 1) (smallC x.1 x.2.1 x.2.2))
noncomputable def spSmX (x : Int × Int × Int) : SpecR := .data [] fun ds => .agg (cyP (ds 0) (ds 1) (smallC x.1 x.2.1 x.2.2))
def spAsw (x : Int × Int) : SpecR := .data [] fun _ => .agg [.int .i64 x.1, .int .i64 2, .int .i64 0, .int .i64 0, .int .i64 x.2, .int .i64 1, .nils, .nils]
end Sx
namespace Go.Proofs.YtllmgnhjljmihaaGreat
set_option maxRecDepth 100000
theorem lawSml : Law Tryz.prog 19 ((rdInt.three rdInt rdB8).sp spSmL) := by
  refine law_in _ (by kernel_rfl) fun H w ⟨b, n, d⟩ hok hp => ?_
  apply exec_sound (noCtr _) 300
  rw [show (rdInt.three rdInt rdB8).canon (b, n, d) = [.int .i64 b, .int .i64 n, .int .u8 d] from rfl, sml_in]
  refine ⟨by decide, fun hs hs1 => ?_⟩
  have hx : (D.slc (D.hd (hs 0 0)) 8 [[.int .u8 (IntKind.u8.wrap n), .int .u8 d, .int .u8 0, .int .u8 0, .int .u8 0, .int .u8 0, .int .u8 0, .int .u8 0]]).Is Sec := is_rows rfl fun r hr => by
    rw [List.mem_singleton.1 hr]
    exact ⟨_, _, _, _, _, _, _, _, rfl⟩
  exact ret_cy stands_nils (stands_rows (α := Wt) rfl (wt_one 0 (Int.tmod n 4) hx)) rfl
theorem lawSmX : Law Tryz.prog 19 ((rdInt.three rdInt rdB8).sp spSmX) :=
  law_alt lawSml fun b => ⟨_, _, rfl, (fun _ p hp => by cases hp), fun ds => ⟨fun i => match i with | 0 => (ds 0).like (smallC b.1 b.2.1 b.2.2).pos | _ => (ds 1).like (smallC b.1 b.2.1 b.2.2).wr, by simp only [cyP_like]⟩⟩
theorem lawAsw : Law Tryz.prog 20 ((rdInt.two rdInt).sp spAsw) := by
  refine law_in _ (by kernel_rfl) fun H w ⟨k, v⟩ hok hp => ?_
  apply exec_sound (noCtr _) 300
  rw [show (rdInt.two rdInt).canon (k, v) = [.int .i64 k, .int .i64 v] from rfl, asw_in]
  exact ret_D (fun _ => default) (fun _ _ => rfl) (fun _ h => h)
noncomputable def ctTY : Ctrs := (19, ctrOf ((rdInt.three rdInt rdB8).sp spSmX)) :: (20, ctrOf ((rdInt.two rdInt).sp spAsw)) :: ctTX
theorem ctTYOk : Ctrs.Ok Tryz.prog ctTY := by
  intro x hx
  rcases List.mem_cons.1 hx with rfl | hx
  · exact ctrOf_ok lawSmX
  · rcases List.mem_cons.1 hx with rfl | hx
    · exact ctrOf_ok lawAsw
    · exact ctTXOk _ hx
end Go.Proofs.YtllmgnhjljmihaaGreat
end
