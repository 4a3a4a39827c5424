/- HistoryMakes: for all sizes and every history New and Check return the results or errors of the reference; no condition. -/
import Derived.Test.YtdiekahpofifeaaRows
import Derived.Test.YtdiekahpofifeaaOvtoHT7
import Derived.Test.YtdiekahpofifeaaHT37toHL44
set_option linter.all false
namespace Go.Proofs.Ytdiekahpofifeaa.historyMakesLaw
open Go Go.ChangeShapes Go.WideShapes Go.ChangeAt Go.RowKit Sx

theorem own : ownKnob Try.prog.godebug = none := by kernel_rfl
theorem laidOut : laidOutB Try.prog = true := by kernel_rfl

set_option maxRecDepth 100000 in
theorem lifted (os : Os) (started : os.Started) (H : Type) (enc : TypeId × Value → H) :
    ReturnsInHanded {} Try.checked os 4 .any (Rows.historyMakesSpec.pre6 enc Try.prog Try.f4 Rows.historyMakesRow.domain false) (Rows.historyMakesSpec.post enc Try.prog Try.f4 false true false false) := by
  refine returnsInHanded_of_change (C := Try.checked) own started (by kernel_rfl) Try.func4
    (ChangeSpec.witness6 (enc := enc) (C := Try.checked) false ⟨#[], #[.slice none 0 0, .agg #[.slice none 0 0, .slice none 0 0, .slice none 0 0]], []⟩ 8 (by kernel_rfl) (by kernel_rfl) (by kernel_rfl) (by kernel_rfl)) ?_
  intro W base args ds gs before hval0 hW hcnd _
  have hval : ∀ (j : Nat) t v, Try.f4.params[j]? = some t → args[j]? = some v → Value.okWide Try.prog W .any base t v := hval0
  have hW' := hW
  obtain ⟨p, q, hA0, hV, rfl, hfz, hnd⟩ := hW
  have hA : DataW.TrodAll enc Try.prog W 0 (fun _ => true) true Try.f4.params.toList args.toList ds p := hA0
  rw [Try.params4] at hA hval
  obtain ⟨v0, vs0, d0, ds0, p0, q0, hargs, rfl, rfl, h0, r0⟩ := trodAll_cons hA
  obtain ⟨v1, vs1, d1, ds1, p1, q1, rfl, rfl, rfl, h1, r1⟩ := trodAll_cons r0
  obtain ⟨rfl, rfl, rfl⟩ := trodAll_nil r1
  obtain rfl : args = #[v0, v1] := by cases args; simp_all
  obtain ⟨rfl, rfl⟩ := trodVars_none hV
  have lt0 : ∀ x ∈ p0, x.block < W.heap.size := by obtain ⟨m, hm⟩ := h0; exact DataW.trod_lt m _ _ _ hm
  obtain ⟨a, e0, q_a, s_a, sh0⟩ := arg_slc (e := tsJ) Try.underlying22 (by kernel_rfl) (hval 0 22 v0 rfl rfl) h0
  obtain ⟨ia, _⟩ := shInts sh0
  have lt1 : ∀ x ∈ p1, x.block < W.heap.size := by obtain ⟨m, hm⟩ := h1; exact DataW.trod_lt m _ _ _ hm
  obtain ⟨c1, e1, ok1, sh1⟩ := arg_st (fs := tsHi) Try.underlying26 (by kernel_rfl) (hval 1 26 v1 rfl rfl) h1
  obtain ⟨ha, hb, hc, rfl, iha, sha, ihb, shb, ihc, shc⟩ := sh_hi sh1
  have q_ha : ha.Ok (allOf W) := ok1 ha (by simp)
  have q_hb : hb.Ok (allOf W) := ok1 hb (by simp)
  have q_hc : hc.Ok (allOf W) := ok1 hc (by simp)
  clear hA0 hval0
  have hok : SV.OkL (allOf W) [.dat a, .agg [.dat ha, .dat hb, .dat hc]] := by simp [SV.OkL, SV.Ok, s_a, q_a, sha, q_ha, shb, q_hb, shc, q_hc]
  have hcall := law_calls (w := W) lawMakes (args := [.dat a, .agg [.dat ha, .dat hb, .dat hc]]) hok ⟨[ha.Is Int ∧ hb.Is Wt ∧ hc.Is Ev ∧ a.Is Int], rfl, fun p hp => by rw [List.mem_singleton.1 hp]; exact ⟨iha, ihb, ihc, ia⟩⟩
  have ev : (SV.denL env0 [.dat a, .agg [.dat ha, .dat hb, .dat hc]]).toArray = #[v0, v1] := by rw [e0]; rw [e1]; rfl
  rw [ev] at hcall
  refine hcall.mono fun e W' ⟨he, bel⟩ => ?_
  subst he
  exact ⟨_, rfl, _, _, _, [], _, [], hW', trodAll_mk1 (shut_bool Try.underlying4 _), (trodAll_cons_mk (Below.trod laidOut (by kernel_rfl) (of_decide_eq_true (by kernel_rfl)) h0 bel lt0) (trodAll_cons_mk (Below.trod laidOut (by kernel_rfl) (of_decide_eq_true (by kernel_rfl)) h1 bel lt1) trodAll_mk0)), rfl, bel.frame _, fun h => by cases h⟩

theorem over : Rows.historyMakesRow.holds Try.pinned (OpenSpec.ofChange Rows.historyMakesSpec) :=
  OpenClaim.holds_of_wide 4 Try.f4 rfl rfl rfl rfl rfl rfl rfl ⟨rfl, rfl, rfl, rfl, rfl⟩ rfl rfl rfl rfl rfl (by kernel_rfl) Try.func4 (by kernel_rfl)
    (of_decide_eq_true (by kernel_rfl)) (by unfold Func.isWrapper; first | (rw [if_pos (by decide +kernel)]; kernel_rfl) | (rw [if_neg (by decide +kernel)]; exact ⟨rfl, rfl⟩))
    (fun os started H enc _ => lifted os started H enc)
end Go.Proofs.Ytdiekahpofifeaa.historyMakesLaw
namespace Go.Proofs.Ytdiekahpofifeaa
/-- The statement. -/
theorem historyMakes_holds : Rows.HistoryMakesSaid := historyMakesLaw.over
end Go.Proofs.Ytdiekahpofifeaa
