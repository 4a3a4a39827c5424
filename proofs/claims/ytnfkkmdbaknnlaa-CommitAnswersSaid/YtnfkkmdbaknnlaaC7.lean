/- CommitAnswers: for every target and every message Answer returns the specified target and messages; no condition. -/
import Derived.Test.YtnfkkmdbaknnlaaRows
import Derived.Test.YtnfkkmdbaknnlaaNtoW1
import Derived.Test.YtnfkkmdbaknnlaaW12gtoW14
set_option linter.all false
namespace Go.Proofs.Ytnfkkmdbaknnlaa.commitAnswersLaw
open Go Go.ChangeShapes Go.WideShapes Go.ChangeAt Go.RowKit Sx

theorem own : ownKnob Try.prog.godebug = none := by kernel_rfl
theorem laidOut : laidOutB Try.prog = true := by kernel_rfl

set_option maxRecDepth 100000 in
theorem lifted (os : Os) (started : os.Started) (H : Type) (enc : TypeId × Value → H) :
    ReturnsInHanded {} Try.checked os 7 .any (Rows.commitAnswersSpec.pre6 enc Try.prog Try.f7 Rows.commitAnswersRow.domain false) (Rows.commitAnswersSpec.post enc Try.prog Try.f7 false true false false) := by
  refine returnsInHanded_of_change (C := Try.checked) own started (by kernel_rfl) Try.func7
    (ChangeSpec.witness6 (enc := enc) (C := Try.checked) false ⟨#[], #[.agg #[.int .i64 0, .int .i64 0, .int .i64 0, .int .i64 0], .agg #[.int .i64 0, .int .i64 0, .int .i64 0, .int .i64 0, .int .i64 0, .int .i64 0, .slice none 0 0, .slice none 0 0]], []⟩ 8 (by kernel_rfl) (by kernel_rfl) (by kernel_rfl) (by kernel_rfl)) ?_
  intro W base args ds gs before hval0 hW hcnd _
  have hval : ∀ (j : Nat) t v, Try.f7.params[j]? = some t → args[j]? = some v → Value.okWide Try.prog W .any base t v := hval0
  have hW' := hW
  obtain ⟨p, q, hA0, hV, rfl, hfz, hnd⟩ := hW
  have hA : DataW.TrodAll enc Try.prog W 0 (fun _ => true) true Try.f7.params.toList args.toList ds p := hA0
  rw [Try.params7] at hA hval
  obtain ⟨v0, vs0, d0, ds0, p0, q0, hargs, rfl, rfl, h0, r0⟩ := trodAll_cons hA
  obtain ⟨v1, vs1, d1, ds1, p1, q1, rfl, rfl, rfl, h1, r1⟩ := trodAll_cons r0
  obtain ⟨rfl, rfl, rfl⟩ := trodAll_nil r1
  obtain rfl : args = #[v0, v1] := by cases args; simp_all
  obtain ⟨rfl, rfl⟩ := trodVars_none hV
  have lt0 : ∀ x ∈ p0, x.block < W.heap.size := by obtain ⟨m, hm⟩ := h0; exact DataW.trod_lt m _ _ _ hm
  obtain ⟨c0, e0, ok0, sh0⟩ := arg_st (fs := tsTgt) Try.underlying26 (by kernel_rfl) (hval 0 26 v0 rfl rfl) h0
  obtain ⟨te, ts, tst, tap, rfl⟩ := sh_tgt sh0
  have lt1 : ∀ x ∈ p1, x.block < W.heap.size := by obtain ⟨m, hm⟩ := h1; exact DataW.trod_lt m _ _ _ hm
  obtain ⟨c1, e1, ok1, sh1⟩ := arg_st (fs := tsMsg) Try.underlying53 (by kernel_rfl) (hval 1 53 v1 rfl rfl) h1
  obtain ⟨a, b, c, dd, f, g, v, w, rfl, hv, hvs, hw, hws⟩ := sh_msg sh1
  have q_v : v.Ok (allOf W) := ok1 v (by simp)
  have q_w : w.Ok (allOf W) := ok1 w (by simp)
  clear hA0 hval0
  have hok : SV.OkL (allOf W) [.agg [.int .i64 te, .int .i64 ts, .int .i64 tst, .int .i64 tap], .agg [.int .i64 a, .int .i64 b, .int .i64 c, .int .i64 dd, .int .i64 f, .int .i64 g, .dat v, .dat w]] := by simp [SV.OkL, SV.Ok, hvs, q_v, hws, q_w]
  have hcall := law_calls (w := W) lawAnswers (args := [.agg [.int .i64 te, .int .i64 ts, .int .i64 tst, .int .i64 tap], .agg [.int .i64 a, .int .i64 b, .int .i64 c, .int .i64 dd, .int .i64 f, .int .i64 g, .dat v, .dat w]]) hok ⟨[], rfl, by simp⟩
  have ev : (SV.denL env0 [.agg [.int .i64 te, .int .i64 ts, .int .i64 tst, .int .i64 tap], .agg [.int .i64 a, .int .i64 b, .int .i64 c, .int .i64 dd, .int .i64 f, .int .i64 g, .dat v, .dat w]]).toArray = #[v0, v1] := by rw [e0]; rw [e1]; rfl
  rw [ev] at hcall
  refine hcall.mono fun e W' ⟨he, bel⟩ => ?_
  subst he
  exact ⟨_, rfl, _, _, _, [], _, [], hW', trodAll_mk1 (shut_bool Try.underlying4 _), (trodAll_cons_mk (Below.trod laidOut (by kernel_rfl) (of_decide_eq_true (by kernel_rfl)) h0 bel lt0) (trodAll_cons_mk (Below.trod laidOut (by kernel_rfl) (of_decide_eq_true (by kernel_rfl)) h1 bel lt1) trodAll_mk0)), rfl, bel.frame _, fun h => by cases h⟩

theorem over : Rows.commitAnswersRow.holds Try.pinned (OpenSpec.ofChange Rows.commitAnswersSpec) :=
  OpenClaim.holds_of_wide 7 Try.f7 rfl rfl rfl rfl rfl rfl rfl ⟨rfl, rfl, rfl, rfl, rfl⟩ rfl rfl rfl rfl rfl (by kernel_rfl) Try.func7 (by kernel_rfl)
    (of_decide_eq_true (by kernel_rfl)) (by unfold Func.isWrapper; first | (rw [if_pos (by decide +kernel)]; kernel_rfl) | (rw [if_neg (by decide +kernel)]; exact ⟨rfl, rfl⟩))
    (fun os started H enc _ => lifted os started H enc)
end Go.Proofs.Ytnfkkmdbaknnlaa.commitAnswersLaw
namespace Go.Proofs.Ytnfkkmdbaknnlaa
/-- The statement. -/
theorem commitAnswers_holds : Rows.CommitAnswersSaid := commitAnswersLaw.over
end Go.Proofs.Ytnfkkmdbaknnlaa
