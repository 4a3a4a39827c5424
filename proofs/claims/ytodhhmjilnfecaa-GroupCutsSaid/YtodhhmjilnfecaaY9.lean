/- GroupCuts: whatever follows, the writes up to the position of a Freeze are a closed set; no condition. -/
import Derived.Test.YtodhhmjilnfecaaRows
import Derived.Test.YtodhhmjilnfecaaVwtoUL11
import Derived.Test.YtodhhmjilnfecaaUL104
set_option linter.all false
namespace Go.Proofs.Ytodhhmjilnfecaa.groupCutsLaw
open Go Go.ChangeShapes Go.WideShapes Go.ChangeAt Go.RowKit Sx

theorem own : ownKnob Try.prog.godebug = none := by kernel_rfl
theorem laidOut : laidOutB Try.prog = true := by kernel_rfl

set_option maxRecDepth 100000 in
theorem lifted (os : Os) (started : os.Started) (H : Type) (enc : TypeId × Value → H) :
    ReturnsInHanded {} Try.checked os 9 .any (Rows.groupCutsSpec.pre6 enc Try.prog Try.f9 Rows.groupCutsRow.domain false) (Rows.groupCutsSpec.post enc Try.prog Try.f9 false true false false) := by
  refine returnsInHanded_of_change (C := Try.checked) own started (by kernel_rfl) Try.func9
    (ChangeSpec.witness6 (enc := enc) (C := Try.checked) false ⟨#[], #[.slice none 0 0, .slice none 0 0, .slice none 0 0], []⟩ 8 (by kernel_rfl) (by kernel_rfl) (by kernel_rfl) (by kernel_rfl)) ?_
  intro W base args ds gs before hval0 hW hcnd _
  have hval : ∀ (j : Nat) t v, Try.f9.params[j]? = some t → args[j]? = some v → Value.okWide Try.prog W .any base t v := hval0
  have hW' := hW
  obtain ⟨p, q, hA0, hV, rfl, hfz, hnd⟩ := hW
  have hA : DataW.TrodAll enc Try.prog W 0 (fun _ => true) true Try.f9.params.toList args.toList ds p := hA0
  rw [Try.params9] at hA hval
  obtain ⟨v0, vs0, d0, ds0, p0, q0, hargs, rfl, rfl, h0, r0⟩ := trodAll_cons hA
  obtain ⟨v1, vs1, d1, ds1, p1, q1, rfl, rfl, rfl, h1, r1⟩ := trodAll_cons r0
  obtain ⟨v2, vs2, d2, ds2, p2, q2, rfl, rfl, rfl, h2, r2⟩ := trodAll_cons r1
  obtain ⟨rfl, rfl, rfl⟩ := trodAll_nil r2
  obtain rfl : args = #[v0, v1, v2] := by cases args; simp_all
  obtain ⟨rfl, rfl⟩ := trodVars_none hV
  have lt0 : ∀ x ∈ p0, x.block < W.heap.size := by obtain ⟨m, hm⟩ := h0; exact DataW.trod_lt m _ _ _ hm
  obtain ⟨a, e0, q_a, s_a, sh0⟩ := arg_slc (e := tsJ) Try.underlying22 (by kernel_rfl) (hval 0 22 v0 rfl rfl) h0
  obtain ⟨ia, _⟩ := shInts sh0
  have lt1 : ∀ x ∈ p1, x.block < W.heap.size := by obtain ⟨m, hm⟩ := h1; exact DataW.trod_lt m _ _ _ hm
  obtain ⟨e, e1, q_e, s_e, sh1⟩ := arg_slc (e := .st tsStp) Try.underlying53 (by kernel_rfl) (hval 1 53 v1 rfl rfl) h1
  obtain ⟨ie, _⟩ := shSts sh1
  have lt2 : ∀ x ∈ p2, x.block < W.heap.size := by obtain ⟨m, hm⟩ := h2; exact DataW.trod_lt m _ _ _ hm
  obtain ⟨l, e2, q_l, s_l, sh2⟩ := arg_slc (e := .st tsStp) Try.underlying53 (by kernel_rfl) (hval 2 53 v2 rfl rfl) h2
  obtain ⟨il, _⟩ := shSts sh2
  clear hA0 hval0
  have hok : SV.OkL (allOf W) [.dat a, .dat e, .dat l] := by simp [SV.OkL, SV.Ok, s_a, q_a, s_e, q_e, s_l, q_l]
  have hcall := law_calls (w := W) lawGCut (args := [.dat a, .dat e, .dat l]) hok ⟨[a.Is Int ∧ e.Is St ∧ l.Is St], rfl, fun p hp => by rw [List.mem_singleton.1 hp]; exact ⟨ia, ie, il⟩⟩
  have ev : (SV.denL env0 [.dat a, .dat e, .dat l]).toArray = #[v0, v1, v2] := by rw [e0]; rw [e1]; rw [e2]; rfl
  rw [ev] at hcall
  refine hcall.mono fun e W' ⟨he, bel⟩ => ?_
  subst he
  exact ⟨_, rfl, _, _, _, [], _, [], hW', trodAll_mk1 (shut_bool Try.underlying4 _), (trodAll_cons_mk (Below.trod laidOut (by kernel_rfl) (of_decide_eq_true (by kernel_rfl)) h0 bel lt0) (trodAll_cons_mk (Below.trod laidOut (by kernel_rfl) (of_decide_eq_true (by kernel_rfl)) h1 bel lt1) (trodAll_cons_mk (Below.trod laidOut (by kernel_rfl) (of_decide_eq_true (by kernel_rfl)) h2 bel lt2) trodAll_mk0))), rfl, bel.frame _, fun h => by cases h⟩

theorem over : Rows.groupCutsRow.holds Try.pinned (OpenSpec.ofChange Rows.groupCutsSpec) :=
  OpenClaim.holds_of_wide 9 Try.f9 rfl rfl rfl rfl rfl rfl rfl ⟨rfl, rfl, rfl, rfl, rfl⟩ rfl rfl rfl rfl rfl (by kernel_rfl) Try.func9 (by kernel_rfl)
    (of_decide_eq_true (by kernel_rfl)) (by unfold Func.isWrapper; first | (rw [if_pos (by decide +kernel)]; kernel_rfl) | (rw [if_neg (by decide +kernel)]; exact ⟨rfl, rfl⟩))
    (fun os started H enc _ => lifted os started H enc)
end Go.Proofs.Ytodhhmjilnfecaa.groupCutsLaw
namespace Go.Proofs.Ytodhhmjilnfecaa
/-- The statement. -/
theorem groupCuts_holds : Rows.GroupCutsSaid := groupCutsLaw.over
end Go.Proofs.Ytodhhmjilnfecaa
