/- TopBarrierGrows: for all numbers of nodes, patiences and schedules the cuts of later valid rounds contain those of earlier ones, and what every node has acknowledged are its durable writes that are not held back; no condition. -/
import Derived.Test.YtoechplbhbalaaaRows
import Derived.Test.YtoechplbhbalaaaN17toRW16
import Derived.Test.YtoechplbhbalaaaQL430
set_option linter.all false
namespace Go.Proofs.Ytoechplbhbalaaa.topBarrierGrowsLaw
open Go Go.ChangeShapes Go.WideShapes Go.ChangeAt Go.RowKit Sx Sv

theorem own : ownKnob Try.prog.godebug = none := by kernel_rfl
theorem laidOut : laidOutB Try.prog = true := by kernel_rfl

set_option maxRecDepth 100000 in
theorem lifted (os : Os) (started : os.Started) (H : Type) (enc : TypeId × Value → H) :
    ReturnsInHanded {} Try.checked os 6 .any (Rows.topBarrierGrowsSpec.pre6 enc Try.prog Try.f6 Rows.topBarrierGrowsRow.domain false) (Rows.topBarrierGrowsSpec.post enc Try.prog Try.f6 false true false false) := by
  refine returnsInHanded_of_change (C := Try.checked) own started (by kernel_rfl) Try.func6
    (ChangeSpec.witness6 (enc := enc) (C := Try.checked) false ⟨#[], #[.int .u8 0, .int .u8 0, .slice none 0 0], []⟩ 8 (by kernel_rfl) (by kernel_rfl) (by kernel_rfl) (by kernel_rfl)) ?_
  intro W base args ds gs before hval0 hW hcnd _
  have hval : ∀ (j : Nat) t v, Try.f6.params[j]? = some t → args[j]? = some v → Value.okWide Try.prog W .any base t v := hval0
  have hW' := hW
  obtain ⟨p, q, hA0, hV, rfl, hfz, hnd⟩ := hW
  have hA : DataW.TrodAll enc Try.prog W 0 (fun _ => true) true Try.f6.params.toList args.toList ds p := hA0
  rw [Try.params6] at hA hval
  obtain ⟨v0, vs0, d0, ds0, p0, q0, hargs, rfl, rfl, h0, r0⟩ := trodAll_cons hA
  obtain ⟨v1, vs1, d1, ds1, p1, q1, rfl, rfl, rfl, h1, r1⟩ := trodAll_cons r0
  obtain ⟨v2, vs2, d2, ds2, p2, q2, rfl, rfl, rfl, h2, r2⟩ := trodAll_cons r1
  obtain ⟨rfl, rfl, rfl⟩ := trodAll_nil r2
  obtain rfl : args = #[v0, v1, v2] := by cases args; simp_all
  obtain ⟨rfl, rfl⟩ := trodVars_none hV
  obtain ⟨no, rfl, rfl, rfl, w0⟩ := open_int Try.underlying5 (hval 0 5 v0 rfl rfl) h0
  obtain ⟨pa, rfl, rfl, rfl, w1⟩ := open_int Try.underlying5 (hval 1 5 v1 rfl rfl) h1
  have lt2 : ∀ x ∈ p2, x.block < W.heap.size := by obtain ⟨m, hm⟩ := h2; exact DataW.trod_lt m _ _ _ hm
  obtain ⟨l, e2, q_l, s_l, sh2⟩ := arg_slc (e := .st tsSch) Try.underlying61 (by kernel_rfl) (hval 2 61 v2 rfl rfl) h2
  obtain ⟨il, _⟩ := shSchs sh2
  clear hA0 hval0
  have hok : SV.OkL (allOf W) [.int .u8 no, .int .u8 pa, .dat l] := by simp [SV.OkL, SV.Ok, s_l, q_l]
  have hcall := law_calls (w := W) lawTbg (args := [.int .u8 no, .int .u8 pa, .dat l]) hok ⟨[0 ≤ no ∧ l.Is Sch], rfl, fun p hp => by rw [List.mem_singleton.1 hp]; exact ⟨by have hw0 := w0; simp [Lit.wf] at hw0; have u0 : IntKind.u8.min = 0 := rfl; omega, il⟩⟩
  have ev : (SV.denL env0 [.int .u8 no, .int .u8 pa, .dat l]).toArray = #[.int .u8 no, .int .u8 pa, v2] := by rw [e2]; rfl
  rw [ev] at hcall
  refine hcall.mono fun e W' ⟨he, bel⟩ => ?_
  subst he
  exact ⟨_, rfl, _, _, _, [], _, [], hW', trodAll_mk1 (shut_bool Try.underlying4 _), (trodAll_cons_mk (shut_int Try.underlying5 w0) (trodAll_cons_mk (shut_int Try.underlying5 w1) (trodAll_cons_mk (Below.trod laidOut (by kernel_rfl) (of_decide_eq_true (by kernel_rfl)) h2 bel lt2) trodAll_mk0))), rfl, bel.frame _, fun h => by cases h⟩

theorem over : Rows.topBarrierGrowsRow.holds Try.pinned (OpenSpec.ofChange Rows.topBarrierGrowsSpec) :=
  OpenClaim.holds_of_wide 6 Try.f6 rfl rfl rfl rfl rfl rfl rfl ⟨rfl, rfl, rfl, rfl, rfl⟩ rfl rfl rfl rfl rfl (by kernel_rfl) Try.func6 (by kernel_rfl)
    (of_decide_eq_true (by kernel_rfl)) (by unfold Func.isWrapper; first | (rw [if_pos (by decide +kernel)]; kernel_rfl) | (rw [if_neg (by decide +kernel)]; exact ⟨rfl, rfl⟩))
    (fun os started H enc _ => lifted os started H enc)
end Go.Proofs.Ytoechplbhbalaaa.topBarrierGrowsLaw
namespace Go.Proofs.Ytoechplbhbalaaa
/-- The statement. -/
theorem topBarrierGrows_holds : Rows.TopBarrierGrowsSaid := topBarrierGrowsLaw.over
end Go.Proofs.Ytoechplbhbalaaa
