/- GroupAccounts: whatever happens, the group remains correct, each step appends to the history what it acknowledges and at most the one write that it issues, and each write waits, is held back, or is acknowledged; no condition. -/
import Derived.Test.YtodhhmjilnfecaaRows
import Derived.Test.YtodhhmjilnfecaaVwtoUT12
import Derived.Test.YtodhhmjilnfecaaUT31toUL101
set_option linter.all false
namespace Go.Proofs.Ytodhhmjilnfecaa.groupAccountsLaw
open Go Go.ChangeShapes Go.WideShapes Go.ChangeAt Go.RowKit Sx

theorem own : ownKnob Try.prog.godebug = none := by kernel_rfl
theorem laidOut : laidOutB Try.prog = true := by kernel_rfl

set_option maxRecDepth 100000 in
theorem lifted (os : Os) (started : os.Started) (H : Type) (enc : TypeId × Value → H) :
    ReturnsInHanded {} Try.checked os 8 .any (Rows.groupAccountsSpec.pre6 enc Try.prog Try.f8 Rows.groupAccountsRow.domain false) (Rows.groupAccountsSpec.post enc Try.prog Try.f8 false true false false) := by
  refine returnsInHanded_of_change (C := Try.checked) own started (by kernel_rfl) Try.func8
    (ChangeSpec.witness6 (enc := enc) (C := Try.checked) false ⟨#[], #[.slice none 0 0, .slice none 0 0], []⟩ 8 (by kernel_rfl) (by kernel_rfl) (by kernel_rfl) (by kernel_rfl)) ?_
  intro W base args ds gs before hval0 hW hcnd _
  have hval : ∀ (j : Nat) t v, Try.f8.params[j]? = some t → args[j]? = some v → Value.okWide Try.prog W .any base t v := hval0
  have hW' := hW
  obtain ⟨p, q, hA0, hV, rfl, hfz, hnd⟩ := hW
  have hA : DataW.TrodAll enc Try.prog W 0 (fun _ => true) true Try.f8.params.toList args.toList ds p := hA0
  rw [Try.params8] at hA hval
  obtain ⟨v0, vs0, d0, ds0, p0, q0, hargs, rfl, rfl, h0, r0⟩ := trodAll_cons hA
  obtain ⟨v1, vs1, d1, ds1, p1, q1, rfl, rfl, rfl, h1, r1⟩ := trodAll_cons r0
  obtain ⟨rfl, rfl, rfl⟩ := trodAll_nil r1
  obtain rfl : args = #[v0, v1] := by cases args; simp_all
  obtain ⟨rfl, rfl⟩ := trodVars_none hV
  have lt0 : ∀ x ∈ p0, x.block < W.heap.size := by obtain ⟨m, hm⟩ := h0; exact DataW.trod_lt m _ _ _ hm
  obtain ⟨a, e0, q_a, s_a, sh0⟩ := arg_slc (e := tsJ) Try.underlying22 (by kernel_rfl) (hval 0 22 v0 rfl rfl) h0
  obtain ⟨ia, _⟩ := shInts sh0
  have lt1 : ∀ x ∈ p1, x.block < W.heap.size := by obtain ⟨m, hm⟩ := h1; exact DataW.trod_lt m _ _ _ hm
  obtain ⟨l, e1, q_l, s_l, sh1⟩ := arg_slc (e := .st tsStp) Try.underlying53 (by kernel_rfl) (hval 1 53 v1 rfl rfl) h1
  obtain ⟨il, _⟩ := shSts sh1
  clear hA0 hval0
  have hok : SV.OkL (allOf W) [.dat a, .dat l] := by simp [SV.OkL, SV.Ok, s_a, q_a, s_l, q_l]
  have hcall := law_calls (w := W) lawGAcc (args := [.dat a, .dat l]) hok ⟨[a.Is Int ∧ l.Is St], rfl, fun p hp => by rw [List.mem_singleton.1 hp]; exact ⟨ia, il⟩⟩
  have ev : (SV.denL env0 [.dat a, .dat l]).toArray = #[v0, v1] := by rw [e0]; rw [e1]; rfl
  rw [ev] at hcall
  refine hcall.mono fun e W' ⟨he, bel⟩ => ?_
  subst he
  exact ⟨_, rfl, _, _, _, [], _, [], hW', trodAll_mk1 (shut_bool Try.underlying4 _), (trodAll_cons_mk (Below.trod laidOut (by kernel_rfl) (of_decide_eq_true (by kernel_rfl)) h0 bel lt0) (trodAll_cons_mk (Below.trod laidOut (by kernel_rfl) (of_decide_eq_true (by kernel_rfl)) h1 bel lt1) trodAll_mk0)), rfl, bel.frame _, fun h => by cases h⟩

theorem over : Rows.groupAccountsRow.holds Try.pinned (OpenSpec.ofChange Rows.groupAccountsSpec) :=
  OpenClaim.holds_of_wide 8 Try.f8 rfl rfl rfl rfl rfl rfl rfl ⟨rfl, rfl, rfl, rfl, rfl⟩ rfl rfl rfl rfl rfl (by kernel_rfl) Try.func8 (by kernel_rfl)
    (of_decide_eq_true (by kernel_rfl)) (by unfold Func.isWrapper; first | (rw [if_pos (by decide +kernel)]; kernel_rfl) | (rw [if_neg (by decide +kernel)]; exact ⟨rfl, rfl⟩))
    (fun os started H enc _ => lifted os started H enc)
end Go.Proofs.Ytodhhmjilnfecaa.groupAccountsLaw
namespace Go.Proofs.Ytodhhmjilnfecaa
/-- The statement. -/
theorem groupAccounts_holds : Rows.GroupAccountsSaid := groupAccountsLaw.over
end Go.Proofs.Ytodhhmjilnfecaa
