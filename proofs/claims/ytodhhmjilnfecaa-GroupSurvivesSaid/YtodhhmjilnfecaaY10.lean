/- GroupSurvives: after Recover all writes are acknowledged, those that were acknowledged remain, and the image is that of the writes that remain; no condition. -/
import Derived.Test.YtodhhmjilnfecaaRows
import Derived.Test.YtodhhmjilnfecaaN41toUT21
import Derived.Test.YtodhhmjilnfecaaUL112toUL124
set_option linter.all false
namespace Go.Proofs.Ytodhhmjilnfecaa.groupSurvivesLaw
open Go Go.ChangeShapes Go.WideShapes Go.ChangeAt Go.RowKit Sx

theorem own : ownKnob Try.prog.godebug = none := by kernel_rfl
theorem laidOut : laidOutB Try.prog = true := by kernel_rfl

set_option maxRecDepth 100000 in
theorem lifted (os : Os) (started : os.Started) (H : Type) (enc : TypeId × Value → H) :
    ReturnsInHanded {} Try.checked os 10 .any (Rows.groupSurvivesSpec.pre6 enc Try.prog Try.f10 Rows.groupSurvivesRow.domain false) (Rows.groupSurvivesSpec.post enc Try.prog Try.f10 false true false false) := by
  refine returnsInHanded_of_change (C := Try.checked) own started (by kernel_rfl) Try.func10
    (ChangeSpec.witness6 (enc := enc) (C := Try.checked) false ⟨#[], #[.slice none 0 0, .slice none 0 0, .int .u8 0], []⟩ 8 (by kernel_rfl) (by kernel_rfl) (by kernel_rfl) (by kernel_rfl)) ?_
  intro W base args ds gs before hval0 hW hcnd _
  have hval : ∀ (j : Nat) t v, Try.f10.params[j]? = some t → args[j]? = some v → Value.okWide Try.prog W .any base t v := hval0
  have hW' := hW
  obtain ⟨p, q, hA0, hV, rfl, hfz, hnd⟩ := hW
  have hA : DataW.TrodAll enc Try.prog W 0 (fun _ => true) true Try.f10.params.toList args.toList ds p := hA0
  rw [Try.params10] at hA hval
  obtain ⟨v0, vs0, d0, ds0, p0, q0, hargs, rfl, rfl, h0, r0⟩ := trodAll_cons hA
  obtain ⟨v1, vs1, d1, ds1, p1, q1, rfl, rfl, rfl, h1, r1⟩ := trodAll_cons r0
  obtain ⟨v2, vs2, d2, ds2, p2, q2, rfl, rfl, rfl, h2, r2⟩ := trodAll_cons r1
  obtain ⟨rfl, rfl, rfl⟩ := trodAll_nil r2
  obtain rfl : args = #[v0, v1, v2] := by cases args; simp_all
  obtain ⟨rfl, rfl⟩ := trodVars_none hV
  have lt0 : ∀ x ∈ p0, x.block < W.heap.size := by obtain ⟨m, hm⟩ := h0; exact DataW.trod_lt m _ _ _ hm
  obtain ⟨a, e0, q_a, s_a, sh0⟩ := arg_slc (e := tsJ) Try.underlying22 (by kernel_rfl) (hval 0 22 v0 rfl rfl) h0
  obtain ⟨ia, _⟩ := shInts sh0
  have lt1 : ∀ x ∈ p1, x.block < W.heap.size := by obtain ⟨m, hm⟩ := h1; exact DataW.trod_lt m _ _ _ hm
  obtain ⟨l, e1, q_l, s_l, sh1⟩ := arg_slc (e := .st tsStp) Try.underlying53 (by kernel_rfl) (hval 1 53 v1 rfl rfl) h1
  obtain ⟨il, _⟩ := shSts sh1
  obtain ⟨k, rfl, rfl, rfl, w2⟩ := open_int Try.underlying5 (hval 2 5 v2 rfl rfl) h2
  clear hA0 hval0
  have hok : SV.OkL (allOf W) [.dat a, .dat l, .int .u8 k] := by simp [SV.OkL, SV.Ok, s_a, q_a, s_l, q_l]
  have hcall := law_calls (w := W) lawGSv (args := [.dat a, .dat l, .int .u8 k]) hok ⟨[(a.Is Int ∧ l.Is St) ∧ 0 ≤ k ∧ k ≤ 255], rfl, fun p hp => by rw [List.mem_singleton.1 hp]; exact ⟨⟨ia, il⟩, by have hw2 := w2; simp [Lit.wf] at hw2; have u1 : IntKind.u8.min = 0 := rfl; have u2 : IntKind.u8.max = 255 := rfl; omega⟩⟩
  have ev : (SV.denL env0 [.dat a, .dat l, .int .u8 k]).toArray = #[v0, v1, .int .u8 k] := by rw [e0]; rw [e1]; rfl
  rw [ev] at hcall
  refine hcall.mono fun e W' ⟨he, bel⟩ => ?_
  subst he
  exact ⟨_, rfl, _, _, _, [], _, [], hW', trodAll_mk1 (shut_bool Try.underlying4 _), (trodAll_cons_mk (Below.trod laidOut (by kernel_rfl) (of_decide_eq_true (by kernel_rfl)) h0 bel lt0) (trodAll_cons_mk (Below.trod laidOut (by kernel_rfl) (of_decide_eq_true (by kernel_rfl)) h1 bel lt1) (trodAll_cons_mk (shut_int Try.underlying5 w2) trodAll_mk0))), rfl, bel.frame _, fun h => by cases h⟩

theorem over : Rows.groupSurvivesRow.holds Try.pinned (OpenSpec.ofChange Rows.groupSurvivesSpec) :=
  OpenClaim.holds_of_wide 10 Try.f10 rfl rfl rfl rfl rfl rfl rfl ⟨rfl, rfl, rfl, rfl, rfl⟩ rfl rfl rfl rfl rfl (by kernel_rfl) Try.func10 (by kernel_rfl)
    (of_decide_eq_true (by kernel_rfl)) (by unfold Func.isWrapper; first | (rw [if_pos (by decide +kernel)]; kernel_rfl) | (rw [if_neg (by decide +kernel)]; exact ⟨rfl, rfl⟩))
    (fun os started H enc _ => lifted os started H enc)
end Go.Proofs.Ytodhhmjilnfecaa.groupSurvivesLaw
namespace Go.Proofs.Ytodhhmjilnfecaa
/-- The statement. -/
theorem groupSurvives_holds : Rows.GroupSurvivesSaid := groupSurvivesLaw.over
end Go.Proofs.Ytodhhmjilnfecaa
