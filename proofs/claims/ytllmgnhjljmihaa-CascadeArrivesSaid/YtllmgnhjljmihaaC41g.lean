/- CascadeArrives: for all lists of steps, when what the far site is sent arrives, the relay keeps nothing after some rounds and the far site has what the near site has; no condition. -/
import Derived.Test.YtllmgnhjljmihaaRows
import Derived.Test.YtllmgnhjljmihaaOutoFr
import Derived.Test.YtllmgnhjljmihaaVL223toVL242
set_option linter.all false
namespace Go.Proofs.Ytllmgnhjljmihaa.cascadeArrivesLaw
open Go Go.ChangeShapes Go.WideShapes Go.ChangeAt Go.RowKit Sx Sv

theorem own : ownKnob Try.prog.godebug = none := by kernel_rfl
theorem laidOut : laidOutB Try.prog = true := by kernel_rfl

set_option maxRecDepth 100000 in
theorem lifted (os : Os) (started : os.Started) (H : Type) (enc : TypeId × Value → H) :
    ReturnsInHanded {} Try.checked os 8 .any (Rows.cascadeArrivesSpec.pre6 enc Try.prog Try.f8 Rows.cascadeArrivesRow.domain false) (Rows.cascadeArrivesSpec.post enc Try.prog Try.f8 false true false false) := by
  refine returnsInHanded_of_change (C := Try.checked) own started (by kernel_rfl) Try.func8
    (ChangeSpec.witness6 (enc := enc) (C := Try.checked) false ⟨#[], #[.slice none 0 0], []⟩ 8 (by kernel_rfl) (by kernel_rfl) (by kernel_rfl) (by kernel_rfl)) ?_
  intro W base args ds gs before hval0 hW hcnd _
  have hval : ∀ (j : Nat) t v, Try.f8.params[j]? = some t → args[j]? = some v → Value.okWide Try.prog W .any base t v := hval0
  have hW' := hW
  obtain ⟨p, q, hA0, hV, rfl, hfz, hnd⟩ := hW
  have hA : DataW.TrodAll enc Try.prog W 0 (fun _ => true) true Try.f8.params.toList args.toList ds p := hA0
  rw [Try.params8] at hA hval
  obtain ⟨v0, vs0, d0, ds0, p0, q0, hargs, rfl, rfl, h0, r0⟩ := trodAll_cons hA
  obtain ⟨rfl, rfl, rfl⟩ := trodAll_nil r0
  obtain rfl : args = #[v0] := by cases args; simp_all
  obtain ⟨rfl, rfl⟩ := trodVars_none hV
  have lt0 : ∀ x ∈ p0, x.block < W.heap.size := by obtain ⟨m, hm⟩ := h0; exact DataW.trod_lt m _ _ _ hm
  obtain ⟨l, e0, q_l, s_l, sh0⟩ := arg_slc (e := .st tsHop) Try.underlying52 (by kernel_rfl) (hval 0 52 v0 rfl rfl) h0
  obtain ⟨il, _⟩ := shHops sh0
  clear hA0 hval0
  have hok : SV.OkL (allOf W) [.dat l] := by simp [SV.OkL, SV.Ok, s_l, q_l]
  have hcall := law_calls (w := W) lawArr (args := [.dat l]) hok ⟨[l.Is St3], rfl, fun p hp => by rw [List.mem_singleton.1 hp]; exact il⟩
  have ev : (SV.denL env0 [.dat l]).toArray = #[v0] := by rw [e0]; rfl
  rw [ev] at hcall
  refine hcall.mono fun e W' ⟨he, bel⟩ => ?_
  subst he
  exact ⟨_, rfl, _, _, _, [], _, [], hW', trodAll_mk1 (shut_bool Try.underlying4 _), (trodAll_cons_mk (Below.trod laidOut (by kernel_rfl) (of_decide_eq_true (by kernel_rfl)) h0 bel lt0) trodAll_mk0), rfl, bel.frame _, fun h => by cases h⟩

theorem over : Rows.cascadeArrivesRow.holds Try.pinned (OpenSpec.ofChange Rows.cascadeArrivesSpec) :=
  OpenClaim.holds_of_wide 8 Try.f8 rfl rfl rfl rfl rfl rfl rfl ⟨rfl, rfl, rfl, rfl, rfl⟩ rfl rfl rfl rfl rfl (by kernel_rfl) Try.func8 (by kernel_rfl)
    (of_decide_eq_true (by kernel_rfl)) (by unfold Func.isWrapper; first | (rw [if_pos (by decide +kernel)]; kernel_rfl) | (rw [if_neg (by decide +kernel)]; exact ⟨rfl, rfl⟩))
    (fun os started H enc _ => lifted os started H enc)
end Go.Proofs.Ytllmgnhjljmihaa.cascadeArrivesLaw
namespace Go.Proofs.Ytllmgnhjljmihaa
/-- The statement. -/
theorem cascadeArrives_holds : Rows.CascadeArrivesSaid := cascadeArrivesLaw.over
end Go.Proofs.Ytllmgnhjljmihaa
