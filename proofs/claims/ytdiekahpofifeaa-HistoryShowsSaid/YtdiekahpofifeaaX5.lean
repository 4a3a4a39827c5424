/- HistoryShows: for every history and every list Image and Restrict return the results and errors of the reference; no condition. -/
import Derived.Test.YtdiekahpofifeaaRows
import Derived.Test.YtdiekahpofifeaaOvtoN16
import Derived.Test.YtdiekahpofifeaaHL56toHL134
set_option linter.all false
namespace Go.Proofs.Ytdiekahpofifeaa.historyShowsLaw
open Go Go.ChangeShapes Go.WideShapes Go.ChangeAt Go.RowKit Sx

theorem own : ownKnob Try.prog.godebug = none := by kernel_rfl
theorem laidOut : laidOutB Try.prog = true := by kernel_rfl

set_option maxRecDepth 100000 in
theorem lifted (os : Os) (started : os.Started) (H : Type) (enc : TypeId × Value → H) :
    ReturnsInHanded {} Try.checked os 5 .any (Rows.historyShowsSpec.pre6 enc Try.prog Try.f5 Rows.historyShowsRow.domain false) (Rows.historyShowsSpec.post enc Try.prog Try.f5 false true false false) := by
  refine returnsInHanded_of_change (C := Try.checked) own started (by kernel_rfl) Try.func5
    (ChangeSpec.witness6 (enc := enc) (C := Try.checked) false ⟨#[], #[.agg #[.slice none 0 0, .slice none 0 0, .slice none 0 0], .slice none 0 0], []⟩ 8 (by kernel_rfl) (by kernel_rfl) (by kernel_rfl) (by kernel_rfl)) ?_
  intro W base args ds gs before hval0 hW hcnd _
  have hval : ∀ (j : Nat) t v, Try.f5.params[j]? = some t → args[j]? = some v → Value.okWide Try.prog W .any base t v := hval0
  have hW' := hW
  obtain ⟨p, q, hA0, hV, rfl, hfz, hnd⟩ := hW
  have hA : DataW.TrodAll enc Try.prog W 0 (fun _ => true) true Try.f5.params.toList args.toList ds p := hA0
  rw [Try.params5] at hA hval
  obtain ⟨v0, vs0, d0, ds0, p0, q0, hargs, rfl, rfl, h0, r0⟩ := trodAll_cons hA
  obtain ⟨v1, vs1, d1, ds1, p1, q1, rfl, rfl, rfl, h1, r1⟩ := trodAll_cons r0
  obtain ⟨rfl, rfl, rfl⟩ := trodAll_nil r1
  obtain rfl : args = #[v0, v1] := by cases args; simp_all
  obtain ⟨rfl, rfl⟩ := trodVars_none hV
  have lt0 : ∀ x ∈ p0, x.block < W.heap.size := by obtain ⟨m, hm⟩ := h0; exact DataW.trod_lt m _ _ _ hm
  obtain ⟨c0, e0, ok0, sh0⟩ := arg_st (fs := tsHi) Try.underlying26 (by kernel_rfl) (hval 0 26 v0 rfl rfl) h0
  obtain ⟨ha, hb, hc, rfl, iha, sha, ihb, shb, ihc, shc⟩ := sh_hi sh0
  have q_ha : ha.Ok (allOf W) := ok0 ha (by simp)
  have q_hb : hb.Ok (allOf W) := ok0 hb (by simp)
  have q_hc : hc.Ok (allOf W) := ok0 hc (by simp)
  have lt1 : ∀ x ∈ p1, x.block < W.heap.size := by obtain ⟨m, hm⟩ := h1; exact DataW.trod_lt m _ _ _ hm
  obtain ⟨a, e1, q_a, s_a, sh1⟩ := arg_slc (e := tsJ) Try.underlying22 (by kernel_rfl) (hval 1 22 v1 rfl rfl) h1
  obtain ⟨ia, _⟩ := shInts sh1
  clear hA0 hval0
  have hok : SV.OkL (allOf W) [.agg [.dat ha, .dat hb, .dat hc], .dat a] := by simp [SV.OkL, SV.Ok, sha, q_ha, shb, q_hb, shc, q_hc, s_a, q_a]
  have hcall := law_calls (w := W) lawShw (args := [.agg [.dat ha, .dat hb, .dat hc], .dat a]) hok ⟨[(ha.Is Int ∧ hb.Is Wt ∧ hc.Is Ev) ∧ a.Is Int], rfl, fun p hp => by rw [List.mem_singleton.1 hp]; exact ⟨⟨iha, ihb, ihc⟩, ia⟩⟩
  have ev : (SV.denL env0 [.agg [.dat ha, .dat hb, .dat hc], .dat a]).toArray = #[v0, v1] := by rw [e0]; rw [e1]; rfl
  rw [ev] at hcall
  refine hcall.mono fun e W' ⟨he, bel⟩ => ?_
  subst he
  exact ⟨_, rfl, _, _, _, [], _, [], hW', trodAll_mk1 (shut_bool Try.underlying4 _), (trodAll_cons_mk (Below.trod laidOut (by kernel_rfl) (of_decide_eq_true (by kernel_rfl)) h0 bel lt0) (trodAll_cons_mk (Below.trod laidOut (by kernel_rfl) (of_decide_eq_true (by kernel_rfl)) h1 bel lt1) trodAll_mk0)), rfl, bel.frame _, fun h => by cases h⟩

theorem over : Rows.historyShowsRow.holds Try.pinned (OpenSpec.ofChange Rows.historyShowsSpec) :=
  OpenClaim.holds_of_wide 5 Try.f5 rfl rfl rfl rfl rfl rfl rfl ⟨rfl, rfl, rfl, rfl, rfl⟩ rfl rfl rfl rfl rfl (by kernel_rfl) Try.func5 (by kernel_rfl)
    (of_decide_eq_true (by kernel_rfl)) (by unfold Func.isWrapper; first | (rw [if_pos (by decide +kernel)]; kernel_rfl) | (rw [if_neg (by decide +kernel)]; exact ⟨rfl, rfl⟩))
    (fun os started H enc _ => lifted os started H enc)
end Go.Proofs.Ytdiekahpofifeaa.historyShowsLaw
namespace Go.Proofs.Ytdiekahpofifeaa
/-- The statement. -/
theorem historyShows_holds : Rows.HistoryShowsSaid := historyShowsLaw.over
end Go.Proofs.Ytdiekahpofifeaa
