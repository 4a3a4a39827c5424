/- TopCascadeCatches: for all images and all lists of steps of a cascade, when messages arrive for a while, the far site has everything that the near one has and no cycle is kept; no condition. -/
import Derived.Test.YtllmgnhjljmihaaRows
import Derived.Test.YtllmgnhjljmihaaOutoSp
import Derived.Test.YtllmgnhjljmihaaVT282toVL286
set_option linter.all false
namespace Go.Proofs.Ytllmgnhjljmihaa.topCascadeCatchesLaw
open Go Go.ChangeShapes Go.WideShapes Go.ChangeAt Go.RowKit Sx Sv

theorem own : ownKnob Try.prog.godebug = none := by kernel_rfl
theorem laidOut : laidOutB Try.prog = true := by kernel_rfl

set_option maxRecDepth 100000 in
theorem lifted (os : Os) (started : os.Started) (H : Type) (enc : TypeId × Value → H) :
    ReturnsInHanded {} Try.checked os 10 .any (Rows.topCascadeCatchesSpec.pre6 enc Try.prog Try.f10 Rows.topCascadeCatchesRow.domain false) (Rows.topCascadeCatchesSpec.post enc Try.prog Try.f10 false true false false) := by
  refine returnsInHanded_of_change_sized (C := Try.checked) own started (by kernel_rfl) Try.func10
    (ChangeSpec.witness6 (enc := enc) (C := Try.checked) false ⟨#[], #[.slice none 0 0, .slice none 0 0], []⟩ 8 (by kernel_rfl) (by kernel_rfl) (by kernel_rfl) (by kernel_rfl)) ?_
  intro W base args ds gs before hval0 hW hcnd hsz _
  have hval : ∀ (j : Nat) t v, Try.f10.params[j]? = some t → args[j]? = some v → Value.okWide Try.prog W .any base t v := hval0
  have hW' := hW
  obtain ⟨p, q, hA0, hV, rfl, hfz, hnd⟩ := hW
  have hA : DataW.TrodAll enc Try.prog W 0 (fun _ => true) true Try.f10.params.toList args.toList ds p := hA0
  rw [Try.params10] at hA hval
  obtain ⟨v0, vs0, d0, ds0, p0, q0, hargs, rfl, rfl, h0, r0⟩ := trodAll_cons hA
  obtain ⟨v1, vs1, d1, ds1, p1, q1, rfl, rfl, rfl, h1, r1⟩ := trodAll_cons r0
  obtain ⟨rfl, rfl, rfl⟩ := trodAll_nil r1
  obtain rfl : args = #[v0, v1] := by cases args; simp_all
  obtain ⟨rfl, rfl⟩ := trodVars_none hV
  have lt0 : ∀ x ∈ p0, x.block < W.heap.size := by obtain ⟨m, hm⟩ := h0; exact DataW.trod_lt m _ _ _ hm
  obtain ⟨im, e0, q_im, s_im, sh0⟩ := arg_slc (e := tsImg) Try.underlying23 (by kernel_rfl) (hval 0 23 v0 rfl rfl) h0
  obtain ⟨iim, _⟩ := shImg sh0
  have lt1 : ∀ x ∈ p1, x.block < W.heap.size := by obtain ⟨m, hm⟩ := h1; exact DataW.trod_lt m _ _ _ hm
  obtain ⟨l, e1, q_l, s_l, sh1⟩ := arg_slc (e := .st tsHopC) Try.underlying24 (by kernel_rfl) (hval 1 24 v1 rfl rfl) h1
  obtain ⟨il, _⟩ := shHopsC sh1
  have hb : im.len * 24 ≤ 140737488355328 := by
    have h0' := h0
    rw [e0] at h0'
    rcases trod_len Try.underlying23 s_im q_im h0' with hz | ⟨es, rs, hd, hlen⟩
    · omega
    · have : (es.length + rs.length) * Try.prog.bytesOf 129 ≤ reachBytes := sized_slice hsz (j := 0) (t := 23) (e := 129) rfl (by rw [hd]; rfl) Try.underlying23
      rw [show Try.prog.bytesOf 129 = 24 by kernel_rfl] at this
      simp only [reachBytes] at this
      omega
  clear hA0 hval0
  have hok : SV.OkL (allOf W) [.dat im, .dat l] := by simp [SV.OkL, SV.Ok, s_im, q_im, s_l, q_l]
  have hcall := law_calls (w := W) lawTcc (args := [.dat im, .dat l]) hok ⟨[(im.Is Vol ∧ im.len * 24 ≤ 140737488355328) ∧ l.Is Hop], rfl, fun p hp => by rw [List.mem_singleton.1 hp]; exact ⟨⟨iim, hb⟩, il⟩⟩
  have ev : (SV.denL env0 [.dat im, .dat l]).toArray = #[v0, v1] := by rw [e0]; rw [e1]; rfl
  rw [ev] at hcall
  refine hcall.mono fun e W' ⟨he, bel⟩ => ?_
  subst he
  exact ⟨_, rfl, _, _, _, [], _, [], hW', trodAll_mk1 (shut_bool Try.underlying4 _), (trodAll_cons_mk (Below.trod laidOut (by kernel_rfl) (of_decide_eq_true (by kernel_rfl)) h0 bel lt0) (trodAll_cons_mk (Below.trod laidOut (by kernel_rfl) (of_decide_eq_true (by kernel_rfl)) h1 bel lt1) trodAll_mk0)), rfl, bel.frame _, fun h => by cases h⟩

theorem over : Rows.topCascadeCatchesRow.holds Try.pinned (OpenSpec.ofChange Rows.topCascadeCatchesSpec) :=
  OpenClaim.holds_of_wide 10 Try.f10 rfl rfl rfl rfl rfl rfl rfl ⟨rfl, rfl, rfl, rfl, rfl⟩ rfl rfl rfl rfl rfl (by kernel_rfl) Try.func10 (by kernel_rfl)
    (of_decide_eq_true (by kernel_rfl)) (by unfold Func.isWrapper; first | (rw [if_pos (by decide +kernel)]; kernel_rfl) | (rw [if_neg (by decide +kernel)]; exact ⟨rfl, rfl⟩))
    (fun os started H enc _ => lifted os started H enc)
end Go.Proofs.Ytllmgnhjljmihaa.topCascadeCatchesLaw
namespace Go.Proofs.Ytllmgnhjljmihaa
/-- The statement. -/
theorem topCascadeCatches_holds : Rows.TopCascadeCatchesSaid := topCascadeCatchesLaw.over
end Go.Proofs.Ytllmgnhjljmihaa
