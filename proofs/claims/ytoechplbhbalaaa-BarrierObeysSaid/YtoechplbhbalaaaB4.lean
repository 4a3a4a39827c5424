/- BarrierObeys: for every member and every message, at any time, Obey returns the member, the acknowledgements and the answer of the reference; no condition. -/
import Derived.Test.YtoechplbhbalaaaRows
import Derived.Test.YtoechplbhbalaaaBr21toBW5
import Derived.Test.YtoechplbhbalaaaBW15gtoBW15
set_option linter.all false
namespace Go.Proofs.Ytoechplbhbalaaa.barrierObeysLaw
open Go Go.ChangeShapes Go.WideShapes Go.ChangeAt Go.RowKit Sx

theorem own : ownKnob Try.prog.godebug = none := by kernel_rfl
theorem laidOut : laidOutB Try.prog = true := by kernel_rfl

set_option maxRecDepth 100000 in
theorem lifted (os : Os) (started : os.Started) (H : Type) (enc : TypeId × Value → H) :
    ReturnsInHanded {} Try.checked os 4 .any (Rows.barrierObeysSpec.pre6 enc Try.prog Try.f4 Rows.barrierObeysRow.domain false) (Rows.barrierObeysSpec.post enc Try.prog Try.f4 false true false false) := by
  refine returnsInHanded_of_change (C := Try.checked) own started (by kernel_rfl) Try.func4
    (ChangeSpec.witness6 (enc := enc) (C := Try.checked) false ⟨#[], #[.agg #[.int .i64 0, .int .i64 0, .int .i64 0, .int .i64 0, .bool false, .int .i64 0, .slice none 0 0, .slice none 0 0], .agg #[.int .i64 0, .int .i64 0, .int .i64 0, .int .i64 0, .int .i64 0, .int .i64 0, .slice none 0 0, .slice none 0 0, .int .i64 0, .int .i64 0]], []⟩ 8 (by kernel_rfl) (by kernel_rfl) (by kernel_rfl) (by kernel_rfl)) ?_
  intro W base args ds gs before hval0 hW hcnd _
  have hval : ∀ (j : Nat) t v, Try.f4.params[j]? = some t → args[j]? = some v → Value.okWide Try.prog W .any base t v := hval0
  have hW' := hW
  obtain ⟨p, q, hA0, hV, rfl, hfz, hnd⟩ := hW
  have hA : DataW.TrodAll enc Try.prog W 0 (fun _ => true) true Try.f4.params.toList args.toList ds p := hA0
  rw [Try.params4] at hA hval
  obtain ⟨v0, vs0, d0, ds0, p0, q0, hargs, rfl, rfl, h0, r0⟩ := trodAll_cons hA
  obtain ⟨v1, vs1, d1, ds1, p1, q1, rfl, rfl, rfl, h1, r1⟩ := trodAll_cons r0
  obtain ⟨rfl, rfl, rfl⟩ := trodAll_nil r1
  obtain rfl : args = #[v0, v1] := by cases args; simp_all
  obtain ⟨rfl, rfl⟩ := trodVars_none hV
  have lt0 : ∀ x ∈ p0, x.block < W.heap.size := by obtain ⟨m, hm⟩ := h0; exact DataW.trod_lt m _ _ _ hm
  obtain ⟨c0, e0, ok0, sh0⟩ := arg_st (fs := tsMb) Try.underlying28 (by kernel_rfl) (hval 0 28 v0 rfl rfl) h0
  obtain ⟨mr, mp, mt, mi, mf, mu, mw, mh, rfl, hmw, hmws, hmh, hmhs⟩ := sh_mb sh0
  have q_mw : mw.Ok (allOf W) := ok0 mw (by simp)
  have q_mh : mh.Ok (allOf W) := ok0 mh (by simp)
  have lt1 : ∀ x ∈ p1, x.block < W.heap.size := by obtain ⟨m, hm⟩ := h1; exact DataW.trod_lt m _ _ _ hm
  obtain ⟨c1, e1, ok1, sh1⟩ := arg_st (fs := tsCall) Try.underlying52 (by kernel_rfl) (hval 1 52 v1 rfl rfl) h1
  obtain ⟨ga, gb, gc, gd, ge, gf, gv, gw, gn, gp, rfl, hgv, hgvs, hgw, hgws⟩ := sh_call sh1
  have q_gv : gv.Ok (allOf W) := ok1 gv (by simp)
  have q_gw : gw.Ok (allOf W) := ok1 gw (by simp)
  clear hA0 hval0
  have hok : SV.OkL (allOf W) [.agg [.int .i64 mr, .int .i64 mp, .int .i64 mt, .int .i64 mi, .bool mf, .int .i64 mu, .dat mw, .dat mh], .agg [.int .i64 ga, .int .i64 gb, .int .i64 gc, .int .i64 gd, .int .i64 ge, .int .i64 gf, .dat gv, .dat gw, .int .i64 gn, .int .i64 gp]] := by simp [SV.OkL, SV.Ok, hmws, q_mw, hmhs, q_mh, hgvs, q_gv, hgws, q_gw]
  have hcall := law_calls (w := W) lawObeys (args := [.agg [.int .i64 mr, .int .i64 mp, .int .i64 mt, .int .i64 mi, .bool mf, .int .i64 mu, .dat mw, .dat mh], .agg [.int .i64 ga, .int .i64 gb, .int .i64 gc, .int .i64 gd, .int .i64 ge, .int .i64 gf, .dat gv, .dat gw, .int .i64 gn, .int .i64 gp]]) hok ⟨[mw.Is Int ∧ mh.Is Int], rfl, fun p hp => by rw [List.mem_singleton.1 hp]; exact ⟨hmw, hmh⟩⟩
  have ev : (SV.denL env0 [.agg [.int .i64 mr, .int .i64 mp, .int .i64 mt, .int .i64 mi, .bool mf, .int .i64 mu, .dat mw, .dat mh], .agg [.int .i64 ga, .int .i64 gb, .int .i64 gc, .int .i64 gd, .int .i64 ge, .int .i64 gf, .dat gv, .dat gw, .int .i64 gn, .int .i64 gp]]).toArray = #[v0, v1] := by rw [e0]; rw [e1]; rfl
  rw [ev] at hcall
  refine hcall.mono fun e W' ⟨he, bel⟩ => ?_
  subst he
  exact ⟨_, rfl, _, _, _, [], _, [], hW', trodAll_mk1 (shut_bool Try.underlying4 _), (trodAll_cons_mk (Below.trod laidOut (by kernel_rfl) (of_decide_eq_true (by kernel_rfl)) h0 bel lt0) (trodAll_cons_mk (Below.trod laidOut (by kernel_rfl) (of_decide_eq_true (by kernel_rfl)) h1 bel lt1) trodAll_mk0)), rfl, bel.frame _, fun h => by cases h⟩

theorem over : Rows.barrierObeysRow.holds Try.pinned (OpenSpec.ofChange Rows.barrierObeysSpec) :=
  OpenClaim.holds_of_wide 4 Try.f4 rfl rfl rfl rfl rfl rfl rfl ⟨rfl, rfl, rfl, rfl, rfl⟩ rfl rfl rfl rfl rfl (by kernel_rfl) Try.func4 (by kernel_rfl)
    (of_decide_eq_true (by kernel_rfl)) (by unfold Func.isWrapper; first | (rw [if_pos (by decide +kernel)]; kernel_rfl) | (rw [if_neg (by decide +kernel)]; exact ⟨rfl, rfl⟩))
    (fun os started H enc _ => lifted os started H enc)
end Go.Proofs.Ytoechplbhbalaaa.barrierObeysLaw
namespace Go.Proofs.Ytoechplbhbalaaa
/-- The statement. -/
theorem barrierObeys_holds : Rows.BarrierObeysSaid := barrierObeysLaw.over
end Go.Proofs.Ytoechplbhbalaaa
