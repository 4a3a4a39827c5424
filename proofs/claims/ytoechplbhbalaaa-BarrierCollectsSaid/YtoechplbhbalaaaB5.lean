/- BarrierCollects: for every coordinator and every message, at any time, Collect and Expire return the coordinator and the messages of the reference; no condition. -/
import Derived.Test.YtoechplbhbalaaaRows
import Derived.Test.YtoechplbhbalaaaBr21toBW5
import Derived.Test.YtoechplbhbalaaaBW15gtoBW15
set_option linter.all false
namespace Go.Proofs.Ytoechplbhbalaaa.barrierCollectsLaw
open Go Go.ChangeShapes Go.WideShapes Go.ChangeAt Go.RowKit Sx

theorem own : ownKnob Try.prog.godebug = none := by kernel_rfl
theorem laidOut : laidOutB Try.prog = true := by kernel_rfl

set_option maxRecDepth 100000 in
theorem lifted (os : Os) (started : os.Started) (H : Type) (enc : TypeId × Value → H) :
    ReturnsInHanded {} Try.checked os 5 .any (Rows.barrierCollectsSpec.pre6 enc Try.prog Try.f5 Rows.barrierCollectsRow.domain false) (Rows.barrierCollectsSpec.post enc Try.prog Try.f5 false true false false) := by
  refine returnsInHanded_of_change (C := Try.checked) own started (by kernel_rfl) Try.func5
    (ChangeSpec.witness6 (enc := enc) (C := Try.checked) false ⟨#[], #[.agg #[.int .i64 0, .int .i64 0, .int .i64 0, .int .i64 0, .slice none 0 0, .slice none 0 0, .bool false], .int .i64 0, .agg #[.int .i64 0, .int .i64 0, .int .i64 0, .int .i64 0, .int .i64 0, .int .i64 0, .slice none 0 0, .slice none 0 0]], []⟩ 8 (by kernel_rfl) (by kernel_rfl) (by kernel_rfl) (by kernel_rfl)) ?_
  intro W base args ds gs before hval0 hW hcnd _
  have hval : ∀ (j : Nat) t v, Try.f5.params[j]? = some t → args[j]? = some v → Value.okWide Try.prog W .any base t v := hval0
  have hW' := hW
  obtain ⟨p, q, hA0, hV, rfl, hfz, hnd⟩ := hW
  have hA : DataW.TrodAll enc Try.prog W 0 (fun _ => true) true Try.f5.params.toList args.toList ds p := hA0
  rw [Try.params5] at hA hval
  obtain ⟨v0, vs0, d0, ds0, p0, q0, hargs, rfl, rfl, h0, r0⟩ := trodAll_cons hA
  obtain ⟨v1, vs1, d1, ds1, p1, q1, rfl, rfl, rfl, h1, r1⟩ := trodAll_cons r0
  obtain ⟨v2, vs2, d2, ds2, p2, q2, rfl, rfl, rfl, h2, r2⟩ := trodAll_cons r1
  obtain ⟨rfl, rfl, rfl⟩ := trodAll_nil r2
  obtain rfl : args = #[v0, v1, v2] := by cases args; simp_all
  obtain ⟨rfl, rfl⟩ := trodVars_none hV
  have lt0 : ∀ x ∈ p0, x.block < W.heap.size := by obtain ⟨m, hm⟩ := h0; exact DataW.trod_lt m _ _ _ hm
  obtain ⟨c0, e0, ok0, sh0⟩ := arg_st (fs := tsCo) Try.underlying25 (by kernel_rfl) (hval 0 25 v0 rfl rfl) h0
  obtain ⟨cn, cr, cp, cdl, d, s, v, rfl, hd, hds, hs, hss⟩ := sh_co sh0
  have q_d : d.Ok (allOf W) := ok0 d (by simp)
  have q_s : s.Ok (allOf W) := ok0 s (by simp)
  obtain ⟨now, rfl, rfl, rfl, w1⟩ := open_int Try.underlying3 (hval 1 3 v1 rfl rfl) h1
  have lt2 : ∀ x ∈ p2, x.block < W.heap.size := by obtain ⟨m, hm⟩ := h2; exact DataW.trod_lt m _ _ _ hm
  obtain ⟨c2, e2, ok2, sh2⟩ := arg_st (fs := tsMsg) Try.underlying50 (by kernel_rfl) (hval 2 50 v2 rfl rfl) h2
  obtain ⟨ga, gb, gc, gd, ge, gf, gv, gw, rfl, hgv, hgvs, hgw, hgws⟩ := sh_msg sh2
  have q_gv : gv.Ok (allOf W) := ok2 gv (by simp)
  have q_gw : gw.Ok (allOf W) := ok2 gw (by simp)
  clear hA0 hval0
  have hok : SV.OkL (allOf W) [.agg [.int .i64 cn, .int .i64 cr, .int .i64 cp, .int .i64 cdl, .dat d, .dat s, .bool v], .int .i64 now, .agg [.int .i64 ga, .int .i64 gb, .int .i64 gc, .int .i64 gd, .int .i64 ge, .int .i64 gf, .dat gv, .dat gw]] := by simp [SV.OkL, SV.Ok, hds, q_d, hss, q_s, hgvs, q_gv, hgws, q_gw]
  have hcall := law_calls (w := W) lawCollects (args := [.agg [.int .i64 cn, .int .i64 cr, .int .i64 cp, .int .i64 cdl, .dat d, .dat s, .bool v], .int .i64 now, .agg [.int .i64 ga, .int .i64 gb, .int .i64 gc, .int .i64 gd, .int .i64 ge, .int .i64 gf, .dat gv, .dat gw]]) hok ⟨[d.Is Int ∧ s.Is Bool], rfl, fun p hp => by rw [List.mem_singleton.1 hp]; exact ⟨hd, hs⟩⟩
  have ev : (SV.denL env0 [.agg [.int .i64 cn, .int .i64 cr, .int .i64 cp, .int .i64 cdl, .dat d, .dat s, .bool v], .int .i64 now, .agg [.int .i64 ga, .int .i64 gb, .int .i64 gc, .int .i64 gd, .int .i64 ge, .int .i64 gf, .dat gv, .dat gw]]).toArray = #[v0, .int .i64 now, v2] := by rw [e0]; rw [e2]; rfl
  rw [ev] at hcall
  refine hcall.mono fun e W' ⟨he, bel⟩ => ?_
  subst he
  exact ⟨_, rfl, _, _, _, [], _, [], hW', trodAll_mk1 (shut_bool Try.underlying4 _), (trodAll_cons_mk (Below.trod laidOut (by kernel_rfl) (of_decide_eq_true (by kernel_rfl)) h0 bel lt0) (trodAll_cons_mk (shut_int Try.underlying3 w1) (trodAll_cons_mk (Below.trod laidOut (by kernel_rfl) (of_decide_eq_true (by kernel_rfl)) h2 bel lt2) trodAll_mk0))), rfl, bel.frame _, fun h => by cases h⟩

theorem over : Rows.barrierCollectsRow.holds Try.pinned (OpenSpec.ofChange Rows.barrierCollectsSpec) :=
  OpenClaim.holds_of_wide 5 Try.f5 rfl rfl rfl rfl rfl rfl rfl ⟨rfl, rfl, rfl, rfl, rfl⟩ rfl rfl rfl rfl rfl (by kernel_rfl) Try.func5 (by kernel_rfl)
    (of_decide_eq_true (by kernel_rfl)) (by unfold Func.isWrapper; first | (rw [if_pos (by decide +kernel)]; kernel_rfl) | (rw [if_neg (by decide +kernel)]; exact ⟨rfl, rfl⟩))
    (fun os started H enc _ => lifted os started H enc)
end Go.Proofs.Ytoechplbhbalaaa.barrierCollectsLaw
namespace Go.Proofs.Ytoechplbhbalaaa
/-- The statement. -/
theorem barrierCollects_holds : Rows.BarrierCollectsSaid := barrierCollectsLaw.over
end Go.Proofs.Ytoechplbhbalaaa
