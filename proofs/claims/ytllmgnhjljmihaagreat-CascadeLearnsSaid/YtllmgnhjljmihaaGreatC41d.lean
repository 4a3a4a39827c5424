/- CascadeLearns: for every relay and message Learn and Next return the relay, the messages and the cycle of the reference; no condition. -/
import Derived.Test.YtllmgnhjljmihaaGreatRows
import Derived.Test.YtllmgnhjljmihaaGreatOvtoWT5
import Derived.Test.YtllmgnhjljmihaaGreatWT186toWL194
set_option linter.all false
namespace Go.Proofs.YtllmgnhjljmihaaGreat.cascadeLearnsLaw
open Go Go.ChangeShapes Go.WideShapes Go.ChangeAt Go.RowKit Sx

theorem own : ownKnob Tryz.prog.godebug = none := by kernel_rfl
theorem laidOut : laidOutB Tryz.prog = true := by kernel_rfl

set_option maxRecDepth 100000 in
theorem lifted (os : Os) (started : os.Started) (H : Type) (enc : TypeId × Value → H) :
    ReturnsInHanded {} Tryz.checked os 4 .any (Rows.cascadeLearnsSpec.pre6 enc Tryz.prog Tryz.f4 Rows.cascadeLearnsRow.domain false) (Rows.cascadeLearnsSpec.post enc Tryz.prog Tryz.f4 false true false false) := by
  refine returnsInHanded_of_change (C := Tryz.checked) own started (by kernel_rfl) Tryz.func4
    (ChangeSpec.witness6 (enc := enc) (C := Tryz.checked) false ⟨#[], #[.agg #[.int .i64 0, .int .i64 0, .int .i64 0, .int .i64 0, .int .i64 0, .int .i64 0, .int .i64 0, .int .i64 0, .int .i64 0, .int .i64 0, .slice none 0 0, .int .i64 0, .int .i64 0, .slice none 0 0], .agg #[.int .i64 0, .int .i64 0, .int .i64 0, .int .i64 0, .int .i64 0, .int .i64 0, .slice none 0 0, .slice none 0 0]], []⟩ 8 (by kernel_rfl) (by kernel_rfl) (by kernel_rfl) (by kernel_rfl)) ?_
  intro W base args ds gs before hval0 hW hcnd _
  have hval : ∀ (j : Nat) t v, Tryz.f4.params[j]? = some t → args[j]? = some v → Value.okWide Tryz.prog W .any base t v := hval0
  have hW' := hW
  obtain ⟨p, q, hA0, hV, rfl, hfz, hnd⟩ := hW
  have hA : DataW.TrodAll enc Tryz.prog W 0 (fun _ => true) true Tryz.f4.params.toList args.toList ds p := hA0
  rw [Tryz.params4] at hA hval
  obtain ⟨v0, vs0, d0, ds0, p0, q0, hargs, rfl, rfl, h0, r0⟩ := trodAll_cons hA
  obtain ⟨v1, vs1, d1, ds1, p1, q1, rfl, rfl, rfl, h1, r1⟩ := trodAll_cons r0
  obtain ⟨rfl, rfl, rfl⟩ := trodAll_nil r1
  obtain rfl : args = #[v0, v1] := by cases args; simp_all
  obtain ⟨rfl, rfl⟩ := trodVars_none hV
  have lt0 : ∀ x ∈ p0, x.block < W.heap.size := by obtain ⟨m, hm⟩ := h0; exact DataW.trod_lt m _ _ _ hm
  obtain ⟨c0, e0, ok0, sh0⟩ := arg_st (fs := tsRl) Tryz.underlying29 (by kernel_rfl) (hval 0 29 v0 rfl rfl) h0
  obtain ⟨a1, a2, a3, a4, b1, b2, b3, b4, e, s, o, st, ap, k, rfl, io, so, ik, sk⟩ := sh_rl sh0
  have q_o : o.Ok (allOf W) := ok0 o (by simp)
  have q_k : k.Ok (allOf W) := ok0 k (by simp)
  have lt1 : ∀ x ∈ p1, x.block < W.heap.size := by obtain ⟨m, hm⟩ := h1; exact DataW.trod_lt m _ _ _ hm
  obtain ⟨c1, e1, ok1, sh1⟩ := arg_st (fs := tsMsg) Tryz.underlying47 (by kernel_rfl) (hval 1 47 v1 rfl rfl) h1
  obtain ⟨mk, mf, mt, mn, mv, me, mb, ml, rfl, smb, sml⟩ := sh_mg sh1
  have q_mb : mb.Ok (allOf W) := ok1 mb (by simp)
  have q_ml : ml.Ok (allOf W) := ok1 ml (by simp)
  clear hA0 hval0
  have hok : SV.OkL (allOf W) [.agg [.int .i64 a1, .int .i64 a2, .int .i64 a3, .int .i64 a4, .int .i64 b1, .int .i64 b2, .int .i64 b3, .int .i64 b4, .int .i64 e, .int .i64 s, .dat o, .int .i64 st, .int .i64 ap, .dat k], .agg [.int .i64 mk, .int .i64 mf, .int .i64 mt, .int .i64 mn, .int .i64 mv, .int .i64 me, .dat mb, .dat ml]] := by simp [SV.OkL, SV.Ok, so, q_o, sk, q_k, smb, q_mb, sml, q_ml]
  have hcall := law_calls (w := W) lawCLe (args := [.agg [.int .i64 a1, .int .i64 a2, .int .i64 a3, .int .i64 a4, .int .i64 b1, .int .i64 b2, .int .i64 b3, .int .i64 b4, .int .i64 e, .int .i64 s, .dat o, .int .i64 st, .int .i64 ap, .dat k], .agg [.int .i64 mk, .int .i64 mf, .int .i64 mt, .int .i64 mn, .int .i64 mv, .int .i64 me, .dat mb, .dat ml]]) hok ⟨[o.Is Int ∧ k.Is Cy], rfl, fun p hp => by rw [List.mem_singleton.1 hp]; exact ⟨io, ik⟩⟩
  have ev : (SV.denL env0 [.agg [.int .i64 a1, .int .i64 a2, .int .i64 a3, .int .i64 a4, .int .i64 b1, .int .i64 b2, .int .i64 b3, .int .i64 b4, .int .i64 e, .int .i64 s, .dat o, .int .i64 st, .int .i64 ap, .dat k], .agg [.int .i64 mk, .int .i64 mf, .int .i64 mt, .int .i64 mn, .int .i64 mv, .int .i64 me, .dat mb, .dat ml]]).toArray = #[v0, v1] := by rw [e0]; rw [e1]; rfl
  rw [ev] at hcall
  refine hcall.mono fun e W' ⟨he, bel⟩ => ?_
  subst he
  exact ⟨_, rfl, _, _, _, [], _, [], hW', trodAll_mk1 (shut_bool Tryz.underlying4 _), (trodAll_cons_mk (Below.trod laidOut (by kernel_rfl) (of_decide_eq_true (by kernel_rfl)) h0 bel lt0) (trodAll_cons_mk (Below.trod laidOut (by kernel_rfl) (of_decide_eq_true (by kernel_rfl)) h1 bel lt1) trodAll_mk0)), rfl, bel.frame _, fun h => by cases h⟩

theorem over : Rows.cascadeLearnsRow.holds Tryz.pinned (OpenSpec.ofChange Rows.cascadeLearnsSpec) :=
  OpenClaim.holds_of_wide 4 Tryz.f4 rfl rfl rfl rfl rfl rfl rfl ⟨rfl, rfl, rfl, rfl, rfl⟩ rfl rfl rfl rfl rfl (by kernel_rfl) Tryz.func4 (by kernel_rfl)
    (of_decide_eq_true (by kernel_rfl)) (by unfold Func.isWrapper; first | (rw [if_pos (by decide +kernel)]; kernel_rfl) | (rw [if_neg (by decide +kernel)]; exact ⟨rfl, rfl⟩))
    (fun os started H enc _ => lifted os started H enc)
end Go.Proofs.YtllmgnhjljmihaaGreat.cascadeLearnsLaw
namespace Go.Proofs.YtllmgnhjljmihaaGreat
/-- The statement. -/
theorem cascadeLearns_holds : Rows.CascadeLearnsSaid := cascadeLearnsLaw.over
end Go.Proofs.YtllmgnhjljmihaaGreat
