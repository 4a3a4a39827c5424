/- BarrierCounts: for every member and all numbers CheckMember, Issue, Durable and Release return the results or errors of the reference; no condition. -/
import Derived.Test.YtoechplbhbalaaaRows
import Derived.Test.YtoechplbhbalaaaBr21toBW5
import Derived.Test.YtoechplbhbalaaaBW18gtoBW19
set_option linter.all false
namespace Go.Proofs.Ytoechplbhbalaaa.barrierCountsLaw
open Go Go.ChangeShapes Go.WideShapes Go.ChangeAt Go.RowKit Sx

theorem own : ownKnob Try.prog.godebug = none := by kernel_rfl
theorem laidOut : laidOutB Try.prog = true := by kernel_rfl

set_option maxRecDepth 100000 in
theorem lifted (os : Os) (started : os.Started) (H : Type) (enc : TypeId × Value → H) :
    ReturnsInHanded {} Try.checked os 7 .any (Rows.barrierCountsSpec.pre6 enc Try.prog Try.f7 Rows.barrierCountsRow.domain false) (Rows.barrierCountsSpec.post enc Try.prog Try.f7 false true false false) := by
  refine returnsInHanded_of_change (C := Try.checked) own started (by kernel_rfl) Try.func7
    (ChangeSpec.witness6 (enc := enc) (C := Try.checked) false ⟨#[], #[.agg #[.int .i64 0, .int .i64 0, .int .i64 0, .int .i64 0, .bool false, .int .i64 0, .slice none 0 0, .slice none 0 0], .int .i64 0, .int .i64 0], []⟩ 8 (by kernel_rfl) (by kernel_rfl) (by kernel_rfl) (by kernel_rfl)) ?_
  intro W base args ds gs before hval0 hW hcnd _
  have hval : ∀ (j : Nat) t v, Try.f7.params[j]? = some t → args[j]? = some v → Value.okWide Try.prog W .any base t v := hval0
  have hW' := hW
  obtain ⟨p, q, hA0, hV, rfl, hfz, hnd⟩ := hW
  have hA : DataW.TrodAll enc Try.prog W 0 (fun _ => true) true Try.f7.params.toList args.toList ds p := hA0
  rw [Try.params7] at hA hval
  obtain ⟨v0, vs0, d0, ds0, p0, q0, hargs, rfl, rfl, h0, r0⟩ := trodAll_cons hA
  obtain ⟨v1, vs1, d1, ds1, p1, q1, rfl, rfl, rfl, h1, r1⟩ := trodAll_cons r0
  obtain ⟨v2, vs2, d2, ds2, p2, q2, rfl, rfl, rfl, h2, r2⟩ := trodAll_cons r1
  obtain ⟨rfl, rfl, rfl⟩ := trodAll_nil r2
  obtain rfl : args = #[v0, v1, v2] := by cases args; simp_all
  obtain ⟨rfl, rfl⟩ := trodVars_none hV
  have lt0 : ∀ x ∈ p0, x.block < W.heap.size := by obtain ⟨m, hm⟩ := h0; exact DataW.trod_lt m _ _ _ hm
  obtain ⟨c0, e0, ok0, sh0⟩ := arg_st (fs := tsMb) Try.underlying28 (by kernel_rfl) (hval 0 28 v0 rfl rfl) h0
  obtain ⟨mr, mp, mt, mi, mf, mu, mw, mh, rfl, hmw, hmws, hmh, hmhs⟩ := sh_mb sh0
  have q_mw : mw.Ok (allOf W) := ok0 mw (by simp)
  have q_mh : mh.Ok (allOf W) := ok0 mh (by simp)
  obtain ⟨write, rfl, rfl, rfl, w1⟩ := open_int Try.underlying3 (hval 1 3 v1 rfl rfl) h1
  obtain ⟨now, rfl, rfl, rfl, w2⟩ := open_int Try.underlying3 (hval 2 3 v2 rfl rfl) h2
  clear hA0 hval0
  have hok : SV.OkL (allOf W) [.agg [.int .i64 mr, .int .i64 mp, .int .i64 mt, .int .i64 mi, .bool mf, .int .i64 mu, .dat mw, .dat mh], .int .i64 write, .int .i64 now] := by simp [SV.OkL, SV.Ok, hmws, q_mw, hmhs, q_mh]
  have hcall := law_calls (w := W) lawCounts (args := [.agg [.int .i64 mr, .int .i64 mp, .int .i64 mt, .int .i64 mi, .bool mf, .int .i64 mu, .dat mw, .dat mh], .int .i64 write, .int .i64 now]) hok ⟨[mw.Is Int ∧ mh.Is Int], rfl, fun p hp => by rw [List.mem_singleton.1 hp]; exact ⟨hmw, hmh⟩⟩
  have ev : (SV.denL env0 [.agg [.int .i64 mr, .int .i64 mp, .int .i64 mt, .int .i64 mi, .bool mf, .int .i64 mu, .dat mw, .dat mh], .int .i64 write, .int .i64 now]).toArray = #[v0, .int .i64 write, .int .i64 now] := by rw [e0]; rfl
  rw [ev] at hcall
  refine hcall.mono fun e W' ⟨he, bel⟩ => ?_
  subst he
  exact ⟨_, rfl, _, _, _, [], _, [], hW', trodAll_mk1 (shut_bool Try.underlying4 _), (trodAll_cons_mk (Below.trod laidOut (by kernel_rfl) (of_decide_eq_true (by kernel_rfl)) h0 bel lt0) (trodAll_cons_mk (shut_int Try.underlying3 w1) (trodAll_cons_mk (shut_int Try.underlying3 w2) trodAll_mk0))), rfl, bel.frame _, fun h => by cases h⟩

theorem over : Rows.barrierCountsRow.holds Try.pinned (OpenSpec.ofChange Rows.barrierCountsSpec) :=
  OpenClaim.holds_of_wide 7 Try.f7 rfl rfl rfl rfl rfl rfl rfl ⟨rfl, rfl, rfl, rfl, rfl⟩ rfl rfl rfl rfl rfl (by kernel_rfl) Try.func7 (by kernel_rfl)
    (of_decide_eq_true (by kernel_rfl)) (by unfold Func.isWrapper; first | (rw [if_pos (by decide +kernel)]; kernel_rfl) | (rw [if_neg (by decide +kernel)]; exact ⟨rfl, rfl⟩))
    (fun os started H enc _ => lifted os started H enc)
end Go.Proofs.Ytoechplbhbalaaa.barrierCountsLaw
namespace Go.Proofs.Ytoechplbhbalaaa
/-- The statement. -/
theorem barrierCounts_holds : Rows.BarrierCountsSaid := barrierCountsLaw.over
end Go.Proofs.Ytoechplbhbalaaa
