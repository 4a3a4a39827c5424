/- Layer 15: check, walked (3). -/
import Derived.KernelRfl
import Derived.Test.YtodhhmjilnfecaaOvtoUT7
import Derived.Sort.Row
import Derived.Shelf.Slices.Delete
import Derived.Test.YtodhhmjilnfecaaProg
set_option linter.all false
section
open Go Go.Proofs Sx
namespace Go.Proofs.Ytodhhmjilnfecaa
set_option maxRecDepth 100000
set_option maxHeartbeats 0
noncomputable def ckB (ha hb hc t u : D) (j : Int) : Conf := Conf.mk (SFrm.mk 68 none none [Item.inLoop (cAt Try.prog 68 [1, 1, 1, 1, 1, 1, 0, 1, 0, 0]), Item.inBlock 2, Item.code (cAt Try.prog 68 [1, 1, 1, 1, 1, 1, 1])]
 (mkJ 0 [(1, .ptr 0 0), (2, .ptr 1 0), (4, .ptr 2 0), (46, .dat hc), (47, .int .i64 hc.len), (48, .int .i64 j)] 0 71)) [] [(0, .cells 26 [.dat ha, .dat hb, .dat hc]), (1, .cells 121 [.nils, .nils, .nils, .nils, .nils]), (2, .cells 121 [.dat ha, .dat hb, .dat hc, .vec 3, .vec 4]), (3, .arr 3 t), (4, .arr 3 u)]
noncomputable def crB (ha hb hc : D) (n j : Int) : Conf := Conf.mk (SFrm.mk 65 none none [Item.inLoop (cAt Try.prog 65 [1, 1, 1, 1, 1, 0, 1, 0, 0]), Item.inBlock 2, Item.code (cAt Try.prog 65 [1, 1, 1, 1, 1, 1])]
 (mkJ 0 [(1, .ptr 0 0), (6, .int .i64 n), (7, .int .i64 j)] 0 93)) [] [(0, .cells 26 [.dat ha, .dat hb, .dat hc])]
section
variable (n j k w : Int) (ha hb hc t u : D) (v s : Int)
theorem ckB_go : 
 let z2 := (SFrm.mk 68 none none [Item.inLoop (cAt Try.prog 68 [1, 1, 1, 1, 1, 1, 0, 1, 0, 0]), Item.inBlock 2, Item.code (cAt Try.prog 68 [1, 1, 1, 1, 1, 1, 1])] (mkJ 0 [(1, .ptr 0 0), (2, .ptr 1 0), (4, .ptr 2 0), (46, .dat hc), (47, .int .i64 (↑(D.len hc) : Int)), (48, .int .i64 (IntKind.wrap .i64 (j + 1)))] 0 71))
 let z1 : Tree := (.leaf (Conf.mk z2 [] [(0, OBlk.cells 26 [.dat ha, .dat hb, .dat hc]), (1, OBlk.cells 121 [.nils, .nils, .nils, .nils, .nils]), (2, OBlk.cells 121 [.dat ha, .dat hb, .dat hc, .vec 3, .vec 4]), (3, OBlk.arr 3 t), (4, OBlk.arr 3 u)]))
 let z3 : Tree := (.ret (SV.tup [.agg [.nils, .nils, .nils, .nils, .nils], .int .i64 3]))
 exec Try.prog ctC1 600 (unroll (ckB ha hb hc t u j)) =
 Tree.br (decide (j < (↑(D.len hc) : Int))) (.need (0 ≤ j ∧ j < (↑(D.len hc) : Int) ∧ D.sz hc = 2) (.need (D.HasCells hc (Int.toNat j) 0 [FT.int .i64, FT.int .i64]) (.br (decide (D.getInt hc (Int.toNat j) 0 = 0))
 (.all fun hs => .br (D.getInt hc (Int.toNat j) 1 != (↑(D.len t) : Int)) (.need ((D.getInt hc (Int.toNat j) 1 != (↑(D.len t) : Int)) = true) (.need ((D.getInt hc (Int.toNat j) 1 != (↑(D.len t) : Int)) = true)
 (.need ((D.getInt hc (Int.toNat j) 1 != (↑(D.len t) : Int)) = true) (.need ((D.getInt hc (Int.toNat j) 1 != (↑(D.len t) : Int)) = true) (.need ((D.getInt hc (Int.toNat j) 1 != (↑(D.len t) : Int)) = true)
 (.need ((D.getInt hc (Int.toNat j) 1 != (↑(D.len t) : Int)) = true) (.need ((D.getInt hc (Int.toNat j) 1 != (↑(D.len t) : Int)) = true) (.need ((D.getInt hc (Int.toNat j) 1 != (↑(D.len t) : Int)) = true)
 (.need ((D.getInt hc (Int.toNat j) 1 != (↑(D.len t) : Int)) = true) (.need ((D.getInt hc (Int.toNat j) 1 != (↑(D.len t) : Int)) = true) (.br true z3 z1))))))))))) (.need ((D.getInt hc (Int.toNat j) 1 !=
 (↑(D.len t) : Int)) = false) (.need ((D.getInt hc (Int.toNat j) 1 != (↑(D.len t) : Int)) = false) (.need ((D.getInt hc (Int.toNat j) 1 != (↑(D.len t) : Int)) = false) (.need ((D.getInt hc (Int.toNat j) 1 !=
 (↑(D.len t) : Int)) = false) (.need ((D.getInt hc (Int.toNat j) 1 != (↑(D.len t) : Int)) = false) (.need ((D.getInt hc (Int.toNat j) 1 != (↑(D.len t) : Int)) = false) (.need ((D.getInt hc (Int.toNat j) 1 !=
 (↑(D.len t) : Int)) = false) (.need ((D.getInt hc (Int.toNat j) 1 != (↑(D.len t) : Int)) = false) (.need ((D.getInt hc (Int.toNat j) 1 != (↑(D.len t) : Int)) = false) (.need ((D.getInt hc (Int.toNat j) 1 !=
 (↑(D.len t) : Int)) = false) (.br (decide (D.getInt hc (Int.toNat j) 1 ≥ (↑(D.len hb) : Int))) (.br true z3 z1) (.all fun hs => .need (D.sz t = 1 ∧ D.Fits (D.slc (D.hd (hs 8 0)) 1 [[D.int .i64 j]]) 1 ∧
 (D.len t + D.len (D.slc (D.hd (hs 8 0)) 1 [[D.int .i64 j]])) * 8 ≤ 140737488355328 ∧ D.len t + D.len (D.slc (D.hd (hs 8 0)) 1 [[D.int .i64 j]]) ≤ 9223372036854775807) (.need (D.sz u = 1 ∧ D.Fits (D.slc
 (D.hd (hs 15 0)) 1 [[D.int .i64 (Int.neg 1)]]) 1 ∧ (D.len u + D.len (D.slc (D.hd (hs 15 0)) 1 [[D.int .i64 (Int.neg 1)]])) * 8 ≤ 140737488355328 ∧ D.len u + D.len (D.slc (D.hd (hs 15 0)) 1 [[D.int .i64
 (Int.neg 1)]]) ≤ 9223372036854775807) (.br false (.ret (SV.tup [.agg [.nils, .nils, .nils, .nils, .nils], .int .i64 0])) (.leaf (Conf.mk z2 [] [(0, OBlk.cells 26 [.dat ha, .dat hb, .dat hc]), (1, OBlk.cells 121 [.nils, .nils, .nils, .nils, .nils]),
 (2, OBlk.cells 121 [.dat ha, .dat hb, .dat hc, .vec 3, .vec 4]), (3, OBlk.arr 3 (D.slc (D.hd (hs 9 0)) 1 (List.append (D.rows t) (D.rows (D.slc (D.hd (hs 8 0)) 1 [[D.int .i64 j]]))))), (4, OBlk.arr 3 (D.slc
 (D.hd (hs 16 0)) 1 (List.append (D.rows u) (D.rows (D.slc (D.hd (hs 15 0)) 1 [[D.int .i64 (Int.neg 1)]])))))]))))))))))))))))) (.br (decide (D.getInt hc (Int.toNat j) 0 = 1)) (.all fun hs => .br (decide
 (D.getInt hc (Int.toNat j) 1 < 0)) (.need (decide (D.getInt hc (Int.toNat j) 1 < 0) = true) (.need (decide (D.getInt hc (Int.toNat j) 1 < 0) = true) (.need (decide (D.getInt hc (Int.toNat j) 1 < 0) = true)
 (.need (decide (D.getInt hc (Int.toNat j) 1 < 0) = true) (.need (decide (D.getInt hc (Int.toNat j) 1 < 0) = true) (.need (decide (D.getInt hc (Int.toNat j) 1 < 0) = true) (.need (decide (D.getInt hc (Int.toNat j) 1 < 0) = true)
 (.need (decide (D.getInt hc (Int.toNat j) 1 < 0) = true) (.need (decide (D.getInt hc (Int.toNat j) 1 < 0) = true) (.need (decide (D.getInt hc (Int.toNat j) 1 < 0) = true) (.br true (.ret (SV.tup [.agg [.nils, .nils, .nils, .nils, .nils], .int .i64 7])) z1)))))))))))
 (.need (decide (D.getInt hc (Int.toNat j) 1 < 0) = false) (.need (decide (D.getInt hc (Int.toNat j) 1 < 0) = false) (.need (decide (D.getInt hc (Int.toNat j) 1 < 0) = false) (.need (decide (D.getInt hc
 (Int.toNat j) 1 < 0) = false) (.need (decide (D.getInt hc (Int.toNat j) 1 < 0) = false) (.need (decide (D.getInt hc (Int.toNat j) 1 < 0) = false) (.need (decide (D.getInt hc (Int.toNat j) 1 < 0) = false)
 (.need (decide (D.getInt hc (Int.toNat j) 1 < 0) = false) (.need (decide (D.getInt hc (Int.toNat j) 1 < 0) = false) (.need (decide (D.getInt hc (Int.toNat j) 1 < 0) = false) (.br (decide (D.getInt hc (Int.toNat j) 1 ≥
 (↑(D.len t) : Int))) (.br true (.ret (SV.tup [.agg [.nils, .nils, .nils, .nils, .nils], .int .i64 7])) z1) (.all fun hs => .need (0 ≤ D.getInt hc (Int.toNat j) 1 ∧ D.getInt hc (Int.toNat j) 1 < (↑(D.len u) : Int) ∧ D.sz u = 1)
 (.need (D.HasCell u (Int.toNat (D.getInt hc (Int.toNat j) 1)) 0 (FT.int .i64) ∧ D.sz u = 1) (.br (decide (D.getInt u (Int.toNat (D.getInt hc (Int.toNat j) 1)) 0 ≥ 0)) (.br true (.ret (SV.tup [.agg [.nils, .nils, .nils, .nils, .nils], .int .i64 8])) z1)
 (.all fun hs => .need (0 ≤ D.getInt hc (Int.toNat j) 1 ∧ D.getInt hc (Int.toNat j) 1 < (↑(D.len u) : Int) ∧ D.sz u = 1) (.need (Int.toNat (D.getInt hc (Int.toNat j) 1) < D.len u ∧ 1 ≤ D.sz u ∧ D.sz u = 1)
 (.br false (.ret (SV.tup [.agg [.nils, .nils, .nils, .nils, .nils], .int .i64 0])) (.leaf (Conf.mk z2 [] [(0, OBlk.cells 26 [.dat ha, .dat hb, .dat hc]), (1, OBlk.cells 121 [.nils, .nils, .nils, .nils, .nils]),
 (2, OBlk.cells 121 [.dat ha, .dat hb, .dat hc, .vec 3, .vec 4]), (3, OBlk.arr 3 t), (4, OBlk.arr 3 (D.setCells u (Int.toNat (D.getInt hc (Int.toNat j) 1)) 0 [D.int .i64 j]))])))))))))))))))))))) (.br true z3 z1)))))
 (.br (decide ((↑(D.len t) : Int) < (↑(D.len hb) : Int))) z3 (.ret (SV.tup [.agg [.dat ha, .dat hb, .dat hc, .dat t, .dat u], .int .i64 0]))) := by
 intros; kernel_rfl

theorem crB_go : exec Try.prog ctC2 400 (unroll (crB ha hb hc n j)) =
 Tree.br (decide (j < (↑(D.len hc) : Int)))
 (.need (0 ≤ j ∧ j < (↑(D.len hc) : Int) ∧ D.sz hc = 2)
 (.need (D.HasCells hc (Int.toNat j) 0 [FT.int .i64, FT.int .i64])
 (.br (decide (D.getInt hc (Int.toNat j) 0 = 0))
 (.br (D.getInt hc (Int.toNat j) 1 != n) (.ret (.int .i64 3))
 (.br (decide (n ≥ (↑(D.len hb) : Int))) (.ret (.int .i64 3))
 (.leaf
 (Conf.mk
 (SFrm.mk 65 none none
 [Item.inLoop (cAt Try.prog 65 [1, 1, 1, 1, 1, 0, 1, 0, 0]), Item.inBlock 2,
 Item.code (cAt Try.prog 65 [1, 1, 1, 1, 1, 1])]
 (mkJ 0
 [(1, .ptr 0 0), (6, .int .i64 (IntKind.wrap .i64 (n + 1))),
 (7, .int .i64 (IntKind.wrap .i64 (j + 1)))]
 0 93))
 [] [(0, OBlk.cells 26 [.dat ha, .dat hb, .dat hc])]))))
 (.br (D.getInt hc (Int.toNat j) 0 != 1) (.ret (.int .i64 3))
 (.all fun hs =>
 .need (0 ≤ (↑0 : Int) ∧ (↑0 : Int) ≤ j ∧ j ≤ (↑(D.len hc) : Int) ∧ D.Fits hc 2)
 (.need (D.Is Ev (D.sub hc 0 (Int.toNat j)) ∧ D.len (D.sub hc 0 (Int.toNat j)) ≤ 1048576)
 (.br
 (decide
 (atEv (D.to Ev (D.sub hc 0 (Int.toNat j))) (EvD.ev (EvD.mk 0 (D.getInt hc (Int.toNat j) 1))) < 0))
 (.ret (.int .i64 7))
 (.all fun hs =>
 .need (0 ≤ (↑0 : Int) ∧ (↑0 : Int) ≤ j ∧ j ≤ (↑(D.len hc) : Int) ∧ D.Fits hc 2)
 (.need (D.Is Ev (D.sub hc 0 (Int.toNat j)) ∧ D.len (D.sub hc 0 (Int.toNat j)) ≤ 1048576)
 (.br
 (decide
 (atEv (D.to Ev (D.sub hc 0 (Int.toNat j)))
 (EvD.ev (EvD.mk (D.getInt hc (Int.toNat j) 0) (D.getInt hc (Int.toNat j) 1))) ≥
 0))
 (.ret (.int .i64 8))
 (.leaf
 (Conf.mk
 (SFrm.mk 65 none none
 [Item.inLoop (cAt Try.prog 65 [1, 1, 1, 1, 1, 0, 1, 0, 0]), Item.inBlock 2,
 Item.code (cAt Try.prog 65 [1, 1, 1, 1, 1, 1])]
 (mkJ 0
 [(1, .ptr 0 0), (6, .int .i64 n),
 (7, .int .i64 (IntKind.wrap .i64 (j + 1)))]
 0 93))
 [] [(0, OBlk.cells 26 [.dat ha, .dat hb, .dat hc])]))))))))))))
 (.br (decide (n < (↑(D.len hb) : Int))) (.ret (.int .i64 3)) (.ret (.int .i64 0))) := by kernel_rfl

end
end Go.Proofs.Ytodhhmjilnfecaa
end
section
open Go
namespace Sx
theorem runEv_step {n : Nat} {l : List Ev} {i : Nat} (hi : i < l.length) (h0 : (runEv n l i).1 = 0) : runEv n l (i + 1) = evStep n i (runEv n l i).2 l[i] := by
  have hl : l[i]? = some l[i] := List.getElem?_eq_getElem hi
  simp only [runEv, hl]
  rw [if_neg (by simp [h0])]
theorem runEv_stop {n : Nat} {l : List Ev} {i : Nat} (h : (runEv n l i).1 ≠ 0) : ∀ k, runEv n l (i + k) = runEv n l i
  | 0 => rfl
  | k + 1 => by
    have ih := runEv_stop h k
    show runEv n l ((i + k) + 1) = _
    simp only [runEv]
    rw [ih, if_pos h]
theorem checkH_sz {h : Hist} (h1 : sizesErr h.sizes ≠ 0) : checkH h = (sizesErr h.sizes, zTl) := by unfold checkH; rw [if_pos h1]
theorem checkH_many {h : Hist} (h1 : sizesErr h.sizes = 0) (h2 : h.writes.length > 4096) : checkH h = (6, zTl) := by unfold checkH; rw [if_neg (by simp [h1]), if_pos h2]
theorem checkH_fit {h : Hist} (h1 : sizesErr h.sizes = 0) (h2 : ¬h.writes.length > 4096) (h3 : firstErr h.sizes h.writes ≠ 0) : checkH h = (firstErr h.sizes h.writes, zTl) := by
  unfold checkH; rw [if_neg (by simp [h1]), if_neg h2, if_pos h3]
theorem checkH_ev {h : Hist} (h1 : sizesErr h.sizes = 0) (h2 : ¬h.writes.length > 4096) (h3 : firstErr h.sizes h.writes = 0) : checkH h =
    if (runEv h.writes.length h.events h.events.length).1 ≠ 0 then ((runEv h.writes.length h.events h.events.length).1, zTl)
    else if (runEv h.writes.length h.events h.events.length).2.issued.length < h.writes.length then (3, zTl)
    else (0, (runEv h.writes.length h.events h.events.length).2) := by
  unfold checkH; rw [if_neg (by simp [h1]), if_neg h2, if_neg (by simp [h3])]
theorem checkH_evErr {h : Hist} (h1 : sizesErr h.sizes = 0) (h2 : ¬h.writes.length > 4096) (h3 : firstErr h.sizes h.writes = 0) {i : Nat} (hi : i < h.events.length) (h0 : (runEv h.writes.length h.events i).1 = 0) {k : Int}
    (hk : (evStep h.writes.length i (runEv h.writes.length h.events i).2 h.events[i]).1 = k) (hk0 : k ≠ 0) : checkH h = (k, zTl) := by
  have hs := runEv_step (n := h.writes.length) hi h0
  have hne : (runEv h.writes.length h.events (i + 1)).1 ≠ 0 := by rw [hs, hk]; exact hk0
  obtain ⟨d, hd⟩ := Nat.exists_eq_add_of_le (show i + 1 ≤ h.events.length by omega)
  have hst := runEv_stop hne d
  rw [← hd] at hst
  rw [checkH_ev h1 h2 h3, hst, if_pos hne, hs, hk]
def onOk (e : Int) (d : D) : D := if e = 0 then d else .slc none 0 []
theorem onOk_ok (d : D) : onOk 0 d = d := if_pos rfl
theorem onOk_bad {e : Int} (h : e ≠ 0) (d : D) : onOk e d = .slc none 0 [] := if_neg h
noncomputable def ckSV (x : HiD) (ds : Nat → D) : SV := .tup [.agg [.dat (onOk (checkH x.hist).1 x.s), .dat (onOk (checkH x.hist).1 x.w), .dat (onOk (checkH x.hist).1 x.e), .dat ((ds 0).like (checkH x.hist).2.issued), .dat ((ds 1).like (checkH x.hist).2.acked)], .int .i64 (checkH x.hist).1]
noncomputable def spCk (x : HiD) : SpecR := .data [x.Right] (ckSV x)
def spCkI (x : HiD) : SpecR := .scalar [x.Right] (.int .i64 (checkH x.hist).1)

section
variable {P : Program} {w : World} {H : HV}
theorem ret_ck0 {x : HiD} {e : Int} (h : checkH x.hist = (e, zTl)) (he : e ≠ 0) : (Tree.ret (.tup [.agg [.nils, .nils, .nils, .nils, .nils], .int .i64 e])).holds P ⟨w, H⟩ (RetD w H (ckSV x)) := by
  have hn : (D.slc none 0 []).Is Int := is_nil _ _
  have e1 : (D.slc none 0 []).like (zTl.issued) = D.slc none 0 [] := D.like_self hn rfl
  have e2 : (D.slc none 0 []).like (zTl.acked) = D.slc none 0 [] := D.like_self hn rfl
  have hz : ∀ H', (D.slc none 0 []).Ok H' ∧ (D.slc none 0 []).IsSlc := fun H' => ⟨.nil 0, _, _, _, rfl⟩
  refine ret_D (fun _ => .slc none 0 []) (fun E E' => ?_) (fun H' ho => ?_)
  · simp only [ckSV, h, onOk_bad he, e1, e2]; simp [SV.den, SV.denL, D.val, hval]
  · simp only [ckSV, h, onOk_bad he, e1, e2, SV.Ok, SV.OkL]; exact ⟨⟨hz H', hz H', hz H', hz H', hz H', trivial⟩, trivial, trivial⟩
theorem ret_ck1 {x : HiD} {t u : D} (ht : t.Is Int) (hu : u.Is Int) (h : checkH x.hist = (0, ⟨t.to Int, u.to Int⟩)) : (Tree.ret (.tup [.agg [.dat x.s, .dat x.w, .dat x.e, .dat t, .dat u], .int .i64 0])).holds P ⟨w, H⟩ (RetD w H (ckSV x)) := by
  refine ret_D (fun i => match i with | 0 => t | _ => u) (fun E E' => ?_) (fun H' ho => ?_)
  · simp only [ckSV, h, onOk_ok, D.like_self ht rfl, D.like_self hu rfl]; simp [SV.den, SV.denL]
  · simp only [ckSV, h, onOk_ok, D.like_self ht rfl, D.like_self hu rfl]; exact ho
end
end Sx
end
section
open Go Go.Proofs Sx
namespace Go.Proofs.Ytodhhmjilnfecaa
set_option maxRecDepth 100000

theorem ctC1Ok : Ctrs.Ok Try.prog ctC1 := by
  intro x hx
  rcases List.mem_cons.1 hx with rfl | hx
  · exact ctrOf_ok lawNewI
  · rw [List.mem_singleton.1 hx]; exact ctrOf_ok lawFitsI
theorem ctC2Ok : Ctrs.Ok Try.prog ctC2 := by
  intro x hx
  simp only [ctC2, List.mem_cons, List.not_mem_nil, or_false] at hx
  rcases hx with rfl | rfl | rfl | rfl | rfl
  · exact ctrOf_ok lawSizesR
  · exact ctrOf_ok lawFitsR
  · exact ctrOf_ok lawAt
  · exact ctrOf_ok lawIssE
  · exact ctrOf_ok lawAckE

theorem ckB_loop {H : HV} {w : World} {ha hb hc : D} (hR : (HiD.mk ha hb hc).Right) (h1 : sizesErr (ha.to Int) = 0) (h2 : ¬(hb.to Wt).length > 4096) (h3 : firstErr (ha.to Int) (hb.to Wt) = 0) :
    Runs Try.prog ⟨w, H⟩ (ckB ha hb hc (.slc none 1 []) (.slc none 1 []) 0) (RetD w H (ckSV ⟨ha, hb, hc⟩)) := by
  obtain ⟨ra, rb, rc, la, lb, lc, rd⟩ := hR
  simp only at ra rb rc la lb lc rd
  have el := D.Is.length (α := Ev) hc
  have bl := D.Is.length (α := Wt) hb
  have errs : ∀ {i : Nat} (hi : i < (hc.to Ev).length) (h0 : (runEv (hb.to Wt).length (hc.to Ev) i).1 = 0) {k : Int}, (evStep (hb.to Wt).length i (runEv (hb.to Wt).length (hc.to Ev) i).2 (hc.to Ev)[i]).1 = k → k ≠ 0 → checkH (HiD.mk ha hb hc).hist = (k, zTl) :=
    fun hi h0 => fun hk hk0 => checkH_evErr (h := (HiD.mk ha hb hc).hist) h1 h2 h3 hi h0 hk hk0
  refine runs_loop (fun p : (D × D) × Nat => ckB ha hb hc p.1.1 p.1.2 p.2) (fun p => p.2 ≤ (hc.to Ev).length ∧ (runEv (hb.to Wt).length (hc.to Ev) p.2).1 = 0 ∧ (p.1.1.Is Int ∧ p.1.1.sz = 1 ∧ p.1.1.to Int = (runEv (hb.to Wt).length (hc.to Ev) p.2).2.issued) ∧
    (p.1.2.Is Int ∧ p.1.2.sz = 1 ∧ p.1.2.to Int = (runEv (hb.to Wt).length (hc.to Ev) p.2).2.acked)) (fun p => (hc.to Ev).length - p.2) (fun _ => rfl) ?_ ((.slc none 1 [], .slc none 1 []), 0) ⟨Nat.zero_le _, rfl, ⟨is_nil _ _, rfl, rfl⟩, ⟨is_nil _ _, rfl, rfl⟩⟩
  intro ⟨⟨t, u⟩, j⟩ ⟨hj, h0, ⟨ti, ts, tt⟩, ui, us, ut⟩ ih
  simp only at hj h0 ti ts tt ui us ut
  have hto := runEv_ok (n := (hb.to Wt).length) (l := hc.to Ev) j hj h0
  have tl := D.Is.length (α := Int) t
  have ul := D.Is.length (α := Int) u
  rw [tt] at tl
  rw [ut] at ul
  have hlen := hto.len
  have hle := hto.le
  show Runs Try.prog ⟨w, H⟩ (unroll (ckB ha hb hc t u j)) (RetD w H (ckSV ⟨ha, hb, hc⟩))
  apply exec_sound ctC1Ok 600
  rw [ckB_go]
  refine ⟨fun hcj => ?_, fun hcj => ?_⟩
  · have hcj : j < (hc.to Ev).length := by have := of_decide_eq_true hcj; omega
    obtain ⟨c1, c2, c3⟩ := ev_cell rc hcj
    have c0 : 0 ≤ (j : Int) ∧ (j : Int) < (hc.len : Int) ∧ hc.sz = 2 := ⟨by omega, by omega, rc.size hcj⟩
    have hstep := runEv_step (n := (hb.to Wt).length) hcj h0
    generalize hev : (hc.to Ev)[j] = ev at c2 c3 hstep
    obtain ⟨k, x⟩ := ev
    simp only at c2 c3
    have g0 : hc.getInt (Int.toNat (j : Int)) 0 = k := c2
    have g1 : hc.getInt (Int.toNat (j : Int)) 1 = x := c3
    rw [g0, g1]
    generalize hrt : runEv (hb.to Wt).length (hc.to Ev) j = rt at *
    have errs' : ∀ {q : Int}, (evStep (hb.to Wt).length j rt.2 ⟨k, x⟩).1 = q → q ≠ 0 → checkH (HiD.mk ha hb hc).hist = (q, zTl) := fun hq hq0 => errs hcj (by rw [hrt]; exact h0) (by rw [hrt, hev]; exact hq) hq0
    have nxt : ∀ (t' u' : D), t'.Is Int → t'.sz = 1 → u'.Is Int → u'.sz = 1 → (evStep (hb.to Wt).length j rt.2 ⟨k, x⟩) = (0, ⟨t'.to Int, u'.to Int⟩) → Runs Try.prog ⟨w, H⟩ (ckB ha hb hc t' u' (IntKind.i64.wrap ((j : Int) + 1))) (RetD w H (ckSV ⟨ha, hb, hc⟩)) := fun t' u' a1 a2 a3 a4 he => by
      have := ih ((t', u'), j + 1) ⟨hcj, by rw [hstep, he], ⟨a1, a2, by rw [hstep, he]⟩, a3, a4, by rw [hstep, he]⟩ (by simp only; omega)
      simp only at this
      rw [← wrap_succ hcj (by omega)] at this
      exact this
    refine ⟨c0, c1, fun hk => ?_, fun hk => ⟨fun hk1 hs => ?_, fun hk1 => ?_⟩⟩
    · have hk : k = 0 := of_decide_eq_true hk
      subst hk
      refine fun hs => ⟨fun hx => ?_, fun hx => ?_⟩
      · have hx' : x ≠ (t.len : Int) := by simpa using hx
        have fin := ret_ck0 (P := Try.prog) (w := w) (H := H) (errs' (q := 3) (by unfold evStep; rw [if_pos rfl, if_pos (by simp only; omega)]) (by decide)) (by decide)
        repeat' first
        | exact hx
        | exact fin
        | exact fun h => absurd h (by decide)
        | exact fun _ => fin
        | refine ⟨?_, ?_⟩
      · have hx' : x = (t.len : Int) := by simpa using hx
        have issN : decide (x ≥ (hb.len : Int)) = false → ∀ h1 h2 h3 h4 : Hd, Runs Try.prog ⟨w, H⟩ (ckB ha hb hc (.slc h1 1 (List.append t.rows (D.rows (.slc h2 1 [[.int .i64 (j : Int)]])))) (.slc h3 1 (List.append u.rows (D.rows (.slc h4 1 [[.int .i64 (Int.neg 1)]])))) (IntKind.i64.wrap ((j : Int) + 1))) (RetD w H (ckSV ⟨ha, hb, hc⟩)) := fun hy h1 h2 h3 h4 => by
          have hy' := of_decide_eq_false hy
          obtain ⟨p1, p2⟩ := is_of (h := h1) (s := 1) rfl (rows_app (rows_of ti) (int_one (j : Int)))
          obtain ⟨q1, q2⟩ := is_of (h := h3) (s := 1) rfl (rows_app (rows_of ui) (int_one (Int.neg 1)))
          refine nxt _ _ p1 rfl q1 rfl ?_
          unfold evStep
          rw [if_pos rfl, if_neg (by simp only; omega)]
          rw [show (D.rows (.slc h2 1 [[.int .i64 (j : Int)]])) = [[.int .i64 (j : Int)]] from rfl, show (D.rows (.slc h4 1 [[.int .i64 (Int.neg 1)]])) = [[.int .i64 (Int.neg 1)]] from rfl, p2, q2, tt, ut]
          rfl
        repeat' first
        | exact hx
        | exact fun hy => ⟨fun _ => ret_ck0 (errs' (q := 3) (by have := of_decide_eq_true hy; unfold evStep; rw [if_pos rfl, if_pos (by simp only; omega)]) (by decide)) (by decide), fun h => absurd h (by decide)⟩
        | (intro hy hs3; refine ⟨⟨ts, .inr rfl, ?_, ?_⟩, ⟨us, .inr rfl, ?_, ?_⟩, fun h => absurd h (by decide), fun _ => ?_⟩)
        | exact issN hy _ _ _ _
        | (simp only [len_slc, List.length_cons, List.length_nil]; omega)
        | refine ⟨?_, ?_⟩
    · have hk : ¬k = 0 := of_decide_eq_false hk
      have hk1 : k = 1 := of_decide_eq_true hk1
      subst hk1
      refine ⟨fun hx => ?_, fun hx => ?_⟩
      · have hx' : x < 0 := of_decide_eq_true hx
        have fin := ret_ck0 (P := Try.prog) (w := w) (H := H) (errs' (q := 7) (by unfold evStep; rw [if_neg hk, if_pos rfl, if_pos (by simp only; omega)]) (by decide)) (by decide)
        repeat' first
        | exact hx
        | exact fin
        | exact fun h => absurd h (by decide)
        | exact fun _ => fin
        | refine ⟨?_, ?_⟩
      · have hx' : ¬x < 0 := of_decide_eq_false hx
        repeat' first
        | exact hx
        | exact fun hy => ⟨fun _ => ret_ck0 (errs' (q := 7) (by have := of_decide_eq_true hy; unfold evStep; rw [if_neg hk, if_pos rfl, if_pos (by simp only; omega)]) (by decide)) (by decide), fun h => absurd h (by decide)⟩
        | exact fun hy hs3 => by
            have hy' := of_decide_eq_false hy
            obtain ⟨y, rfl⟩ := Int.eq_ofNat_of_zero_le (show 0 ≤ x by omega)
            have hyl : y < (u.to Int).length := by rw [ut]; omega
            obtain ⟨d1, d2, d3⟩ := int_at ui hyl
            have hgd : rt.2.acked.getD (Int.toNat (y : Int)) 0 = u.getInt (Int.toNat (y : Int)) 0 := by rw [← ut, d3, Int.toNat_natCast, getD_lt hyl]
            refine ⟨d1, ⟨d2, us⟩, fun hz => ⟨fun _ => ret_ck0 (errs' (q := 8) ?_ (by decide)) (by decide), fun h => absurd h (by decide)⟩, fun hz hs4 => ⟨d1, ⟨by rw [D.Is.length (α := Int)]; simpa using hyl, by rw [us]; decide, us⟩, fun h => absurd h (by decide), fun _ => ?_⟩⟩
            · have := of_decide_eq_true hz
              unfold evStep; rw [if_neg hk, if_pos rfl, if_neg (by simp only; omega), if_pos (by simp only [hgd]; exact this)]
            · have := of_decide_eq_false hz
              obtain ⟨q1, q2⟩ := set_full ui (i := Int.toNat (y : Int)) (by simpa using hyl) (xs := [D.int IntKind.i64 (j : Int)]) (x := (j : Int)) rfl (ok_int _) rfl
              refine nxt _ _ ti ts q1 us ?_
              unfold evStep; rw [if_neg hk, if_pos rfl, if_neg (by simp only; omega), if_neg (by simp only [hgd]; exact this), q2, tt, ut]
        | refine ⟨?_, ?_⟩
    · have hk : ¬k = 0 := of_decide_eq_false hk
      have hk1 : ¬k = 1 := of_decide_eq_false hk1
      exact ⟨fun _ => ret_ck0 (errs' (q := 3) (by unfold evStep; rw [if_neg hk, if_neg hk1]) (by decide)) (by decide), fun h => absurd h (by decide)⟩
  · have : j = (hc.to Ev).length := by have := of_decide_eq_false hcj; omega
    subst this
    have hall := checkH_ev (h := (HiD.mk ha hb hc).hist) h1 h2 h3
    have h0' : ¬((runEv (HiD.mk ha hb hc).hist.writes.length (HiD.mk ha hb hc).hist.events (HiD.mk ha hb hc).hist.events.length).1 ≠ 0) := by
      show ¬((runEv (hb.to Wt).length (hc.to Ev) (hc.to Ev).length).1 ≠ 0)
      simp [h0]
    rw [if_neg h0'] at hall
    refine ⟨fun hy => ret_ck0 (e := 3) ?_ (by decide), fun hy => ret_ck1 (x := ⟨ha, hb, hc⟩) ti ui ?_⟩
    · have := of_decide_eq_true hy
      rw [hall, if_pos]
      show (runEv (hb.to Wt).length (hc.to Ev) (hc.to Ev).length).2.issued.length < (hb.to Wt).length
      omega
    · have := of_decide_eq_false hy
      rw [hall, if_neg]
      · rw [tt, ut]; rfl
      · show ¬(runEv (hb.to Wt).length (hc.to Ev) (hc.to Ev).length).2.issued.length < (hb.to Wt).length
        omega

theorem lawCk : Law Try.prog 68 (rdHi.one.sp spCk) := by
  refine law_in _ (by kernel_rfl) fun H w ⟨ha, hb, hc⟩ hok hp => ?_
  have hR : (HiD.mk ha hb hc).Right := hp _ (List.mem_singleton.2 rfl)
  obtain ⟨ra, rb, rc, la, lb, lc, rd⟩ := id hR
  simp only at ra rb rc la lb lc rd
  have al := D.Is.length (α := Int) ha
  have bl := D.Is.length (α := Wt) hb
  apply exec_sound ctC1Ok 400
  rw [show rdHi.one.canon ⟨ha, hb, hc⟩ = [.agg [.dat ha, .dat hb, .dat hc]] from rfl, ck_in]
  refine ⟨⟨ra, la⟩, fun hs => ⟨fun h => ?_, fun h => ⟨fun h2 => ?_, fun h2 => ?_⟩⟩⟩
  · have h' : sizesErr (ha.to Int) ≠ 0 := by simpa using h
    exact ret_ck0 (checkH_sz (h := (HiD.mk ha hb hc).hist) h') h'
  · have h' : sizesErr (ha.to Int) = 0 := by simpa using h
    have := of_decide_eq_true h2
    exact ret_ck0 (checkH_many (h := (HiD.mk ha hb hc).hist) h' (by show (hb.to Wt).length > 4096; omega)) (by decide)
  have h1 : sizesErr (ha.to Int) = 0 := by simpa using h
  have h2 : ¬(hb.to Wt).length > 4096 := by have := of_decide_eq_false h2; omega
  have im : ImgOk ((hs 0 0).like (imgOf (ha.to Int))) := by
    refine ⟨D.like_is _ _, ?_, fun v hv => ?_⟩
    · rw [D.Is.length (α := Vol), D.like_to]
      unfold imgOf
      rw [if_neg (by simp [h1])]
      simp only [List.length_map]; omega
    · rw [D.like_to] at hv
      unfold imgOf at hv
      rw [if_neg (by simp [h1])] at hv
      obtain ⟨n, hn, rfl⟩ := List.mem_map.1 hv
      have := (sizesErr_ok h1).2.2 n hn
      simp only [volOf, List.length_replicate]; omega
  generalize hIm : (hs 0 0).like (imgOf (ha.to Int)) = I at im
  have hIt : I.to Vol = imgOf (ha.to Int) := by rw [← hIm, D.like_to]
  refine runs_loop (fun j : Nat => ckA ha hb hc I j) (fun j => j ≤ (hb.to Wt).length ∧ firstErr (ha.to Int) ((hb.to Wt).take j) = 0) (fun j => (hb.to Wt).length - j) (fun _ => rfl) ?_ 0 ⟨Nat.zero_le _, rfl⟩
  intro j ⟨hj, hpre⟩ ih
  apply exec_sound ctC1Ok 400
  rw [ckA_go]
  refine ⟨fun hcj => ?_, fun hcj => ?_⟩
  · have hcj : j < (hb.to Wt).length := by have := of_decide_eq_true hcj; omega
    obtain ⟨c1, c2, c3⟩ := wt_cell rb hcj
    have hw : WtD.wt ⟨hb.getInt (Int.toNat (j : Int)) 0, hb.getInt (Int.toNat (j : Int)) 1, hb.cell (Int.toNat (j : Int)) 2⟩ = (hb.to Wt)[j] := c3.symm
    have hwd := rd _ (List.getElem_mem hcj)
    rw [c3] at hwd
    have hok2 : WtD.Ok ⟨hb.getInt (Int.toNat (j : Int)) 0, hb.getInt (Int.toNat (j : Int)) 1, hb.cell (Int.toNat (j : Int)) 2⟩ := ⟨c2, by rw [D.Is.length (α := Sec)]; exact hwd⟩
    rw [hw, hIt, fitsI_img h1]
    have ft := firstErr_take (s := ha.to Int) hcj
    rw [hpre, if_neg (by simp)] at ft
    refine ⟨⟨by omega, by omega, rb.size hcj⟩, c1, ⟨im, hok2⟩, fun he => ?_, fun he => ?_⟩
    · have he : fitsErr (ha.to Int) (hb.to Wt)[j] ≠ 0 := by simpa using he
      have hf := firstErr_of_take (s := ha.to Int) (l := hb.to Wt) (i := j + 1) (by rw [ft]; exact he)
      rw [ft] at hf
      exact ret_ck0 ((checkH_fit (h := (HiD.mk ha hb hc).hist) h1 h2 (by show firstErr (ha.to Int) (hb.to Wt) ≠ 0; rw [hf]; exact he)).trans (by show (firstErr (ha.to Int) (hb.to Wt), zTl) = _; rw [hf])) he
    · have he : fitsErr (ha.to Int) (hb.to Wt)[j] = 0 := by simpa using he
      have := ih (j + 1) ⟨hcj, by rw [ft, he]⟩ (by omega)
      rw [← wrap_succ hcj (by omega)] at this
      exact this
  · have : j = (hb.to Wt).length := by have := of_decide_eq_false hcj; omega
    subst this
    rw [List.take_length] at hpre
    exact vecIn2_to 9 3 1 (some 2) 3 10 3 1 (some 2) 4 (ckB ha hb hc (.slc none 1 []) (.slc none 1 []) 0) (by kernel_rfl) (ckB_loop hR h1 h2 hpre)
end Go.Proofs.Ytodhhmjilnfecaa
end
section
open Go Go.Proofs Sx
namespace Go.Proofs.Ytodhhmjilnfecaa
set_option maxRecDepth 100000

theorem crB_loop {H : HV} {w : World} {ha hb hc : D} (hR : (HiD.mk ha hb hc).Right) (h1 : sizesErr (ha.to Int) = 0) (h2 : ¬(hb.to Wt).length > 4096) (h3 : firstErr (ha.to Int) (hb.to Wt) = 0) :
    Runs Try.prog ⟨w, H⟩ (crB ha hb hc 0 0) (RetS w H (.int .i64 (checkH (HiD.mk ha hb hc).hist).1)) := by
  obtain ⟨ra, rb, rc, la, lb, lc, rd⟩ := hR
  simp only at ra rb rc la lb lc rd
  have el := D.Is.length (α := Ev) hc
  have bl := D.Is.length (α := Wt) hb
  have errs : ∀ {i : Nat} (hi : i < (hc.to Ev).length) (h0 : (runEv (hb.to Wt).length (hc.to Ev) i).1 = 0) {k : Int}, (evStep (hb.to Wt).length i (runEv (hb.to Wt).length (hc.to Ev) i).2 (hc.to Ev)[i]).1 = k → k ≠ 0 → k = (checkH (HiD.mk ha hb hc).hist).1 :=
    fun hi h0 => fun hk hk0 => by rw [checkH_evErr (h := (HiD.mk ha hb hc).hist) h1 h2 h3 hi h0 hk hk0]
  refine runs_loop (fun p : Nat × Nat => crB ha hb hc p.1 p.2) (fun p => p.2 ≤ (hc.to Ev).length ∧ (runEv (hb.to Wt).length (hc.to Ev) p.2).1 = 0 ∧ p.1 = (runEv (hb.to Wt).length (hc.to Ev) p.2).2.issued.length)
    (fun p => (hc.to Ev).length - p.2) (fun _ => rfl) ?_ (0, 0) ⟨Nat.zero_le _, rfl, rfl⟩
  intro ⟨n, j⟩ ⟨hj, h0, hn⟩ ih
  simp only at hj h0 hn
  have hto := runEv_ok (n := (hb.to Wt).length) (l := hc.to Ev) j hj h0
  have hlen := hto.len
  have hle := hto.le
  show Runs Try.prog ⟨w, H⟩ (unroll (crB ha hb hc n j)) (RetS w H (.int .i64 (checkH (HiD.mk ha hb hc).hist).1))
  apply exec_sound ctC2Ok 400
  rw [crB_go]
  refine ⟨fun hcj => ?_, fun hcj => ?_⟩
  · have hcj : j < (hc.to Ev).length := by have := of_decide_eq_true hcj; omega
    obtain ⟨c1, c2, c3⟩ := ev_cell rc hcj
    have c0 : 0 ≤ (j : Int) ∧ (j : Int) < (hc.len : Int) ∧ hc.sz = 2 := ⟨by omega, by omega, rc.size hcj⟩
    have hstep := runEv_step (n := (hb.to Wt).length) hcj h0
    have hkind := evStep_kind hto (hc.to Ev)[j]
    generalize hev : (hc.to Ev)[j] = ev at c2 c3 hstep hkind
    obtain ⟨k, x⟩ := ev
    simp only at c2 c3
    have g0 : hc.getInt (Int.toNat (j : Int)) 0 = k := c2
    have g1 : hc.getInt (Int.toNat (j : Int)) 1 = x := c3
    rw [g0, g1]
    generalize hrt : runEv (hb.to Wt).length (hc.to Ev) j = rt at *
    have errs' : ∀ {q : Int}, (evStep (hb.to Wt).length j rt.2 ⟨k, x⟩).1 = q → q ≠ 0 → q = (checkH (HiD.mk ha hb hc).hist).1 := fun hq hq0 => errs hcj (by rw [hrt]; exact h0) (by rw [hrt, hev]; exact hq) hq0
    have nxt : (evStep (hb.to Wt).length j rt.2 ⟨k, x⟩).1 = 0 → ∀ m : Nat, (m : Int) = n + (if k = 0 then 1 else 0) → Runs Try.prog ⟨w, H⟩ (crB ha hb hc m (IntKind.i64.wrap ((j : Int) + 1))) (RetS w H (.int .i64 (checkH (HiD.mk ha hb hc).hist).1)) := fun h m hm => by
      have hl := evStep_len h
      have := ih (m, j + 1) ⟨hcj, by rw [hstep]; exact h, by rw [hstep]; simp only at hl ⊢; omega⟩ (by simp only; omega)
      simp only at this
      rw [← wrap_succ hcj (by omega)] at this
      exact this
    simp only at hkind
    have hsub := rc.sub 0 (Int.toNat (j : Int))
    simp only [Int.toNat_natCast, List.drop_zero, Nat.sub_zero] at hsub
    have hsl : (hc.sub 0 j).len ≤ 1048576 := by rw [D.Is.length (α := Ev), hsub.2, List.length_take]; omega
    have i0 : (0 : Int) ≤ 0 ∧ (0 : Int) ≤ (j : Int) ∧ (j : Int) ≤ (hc.len : Int) ∧ hc.Fits 2 := ⟨by omega, by omega, by omega, rc.fits⟩
    refine ⟨c0, c1, fun hk => ?_, fun hk => ⟨fun hk1 => ?_, fun hk1 hs => ?_⟩⟩
    · have hk : k = 0 := of_decide_eq_true hk
      subst hk
      rw [if_pos rfl] at hkind
      refine ⟨fun hx => ret_int (errs' (q := 3) ?_ (by decide)), fun hx => ⟨fun hy => ret_int (errs' (q := 3) ?_ (by decide)), fun hy => ?_⟩⟩
      · have hx' : x ≠ (n : Int) := by simpa using hx
        rw [hkind, if_pos (by omega)]
      · have := of_decide_eq_true hy
        rw [hkind, if_pos (by omega)]
      · have hx' : x = (n : Int) := by simpa using hx
        have hy' := of_decide_eq_false hy
        have := nxt (by rw [hkind, if_neg (by omega)]) (n + 1) (by simp)
        rw [← wrap_succ (n := 4097) (by omega) (by omega)] at this
        exact this
    · have hk : ¬k = 0 := of_decide_eq_false hk
      have hk1 : k ≠ 1 := by simpa using hk1
      exact ret_int (errs' (q := 3) (by rw [hkind, if_neg hk, if_pos hk1]) (by decide))
    · have hk : ¬k = 0 := of_decide_eq_false hk
      have hk1 : ¬(k ≠ 1) := by simpa using hk1
      rw [if_neg hk, if_neg hk1] at hkind
      have ee : ∀ q, EvD.ev ⟨q, x⟩ = ⟨q, x⟩ := fun _ => rfl
      simp only [Int.toNat_natCast, hsub.2, ee]
      refine ⟨i0, ⟨hsub.1, hsl⟩, fun hx => ret_int (errs' (q := 7) ?_ (by decide)), fun hx hs => ⟨i0, ⟨hsub.1, hsl⟩, fun hy => ret_int (errs' (q := 8) ?_ (by decide)), fun hy => ?_⟩⟩
      · have := of_decide_eq_true hx
        rw [hkind, if_pos this]
      · have h7 := of_decide_eq_false hx
        have h8 := of_decide_eq_true hy
        rw [hkind, if_neg h7, if_pos h8]
      · have h7 := of_decide_eq_false hx
        have h8 := of_decide_eq_false hy
        exact nxt (by rw [hkind, if_neg h7, if_neg h8]) n (by rw [if_neg hk]; simp)
  · have : j = (hc.to Ev).length := by have := of_decide_eq_false hcj; omega
    subst this
    have hall := checkH_ev (h := (HiD.mk ha hb hc).hist) h1 h2 h3
    have h0' : ¬((runEv (HiD.mk ha hb hc).hist.writes.length (HiD.mk ha hb hc).hist.events (HiD.mk ha hb hc).hist.events.length).1 ≠ 0) := by
      show ¬((runEv (hb.to Wt).length (hc.to Ev) (hc.to Ev).length).1 ≠ 0)
      simp [h0]
    rw [if_neg h0'] at hall
    refine ⟨fun hy => ret_int ?_, fun hy => ret_int ?_⟩
    · have := of_decide_eq_true hy
      rw [hall, if_pos]
      show (runEv (hb.to Wt).length (hc.to Ev) (hc.to Ev).length).2.issued.length < (hb.to Wt).length
      omega
    · have := of_decide_eq_false hy
      rw [hall, if_neg]
      show ¬(runEv (hb.to Wt).length (hc.to Ev) (hc.to Ev).length).2.issued.length < (hb.to Wt).length
      omega

theorem lawCkR : Law Try.prog 65 (rdHi.one.sp spCkI) := by
  refine law_in _ (by kernel_rfl) fun H w ⟨ha, hb, hc⟩ hok hp => ?_
  have hR : (HiD.mk ha hb hc).Right := hp _ (List.mem_singleton.2 rfl)
  obtain ⟨ra, rb, rc, la, lb, lc, rd⟩ := id hR
  simp only at ra rb rc la lb lc rd
  have al := D.Is.length (α := Int) ha
  have bl := D.Is.length (α := Wt) hb
  apply exec_sound ctC2Ok 400
  rw [show rdHi.one.canon ⟨ha, hb, hc⟩ = [.agg [.dat ha, .dat hb, .dat hc]] from rfl, ck2_in]
  refine ⟨⟨ra, la⟩, fun h => ?_, fun h => ⟨fun h2 => ?_, fun h2 => ?_⟩⟩
  · have h' : sizesErr (ha.to Int) ≠ 0 := by simpa using h
    exact ret_int (by rw [checkH_sz (h := (HiD.mk ha hb hc).hist) h']; rfl)
  · have h' : sizesErr (ha.to Int) = 0 := by simpa using h
    have := of_decide_eq_true h2
    exact ret_int (by rw [checkH_many (h := (HiD.mk ha hb hc).hist) h' (by show (hb.to Wt).length > 4096; omega)])
  have h1 : sizesErr (ha.to Int) = 0 := by simpa using h
  have h2 : ¬(hb.to Wt).length > 4096 := by have := of_decide_eq_false h2; omega
  refine runs_loop (fun j : Nat => crA ha hb hc j) (fun j => j ≤ (hb.to Wt).length ∧ firstErr (ha.to Int) ((hb.to Wt).take j) = 0) (fun j => (hb.to Wt).length - j) (fun _ => rfl) ?_ 0 ⟨Nat.zero_le _, rfl⟩
  intro j ⟨hj, hpre⟩ ih
  apply exec_sound ctC2Ok 400
  rw [crA_go]
  refine ⟨fun hcj hs => ?_, fun hcj => ?_⟩
  · have hcj : j < (hb.to Wt).length := by have := of_decide_eq_true hcj; omega
    obtain ⟨c1, c2, c3⟩ := wt_cell rb hcj
    have hw : WtD.wt ⟨hb.getInt (Int.toNat (j : Int)) 0, hb.getInt (Int.toNat (j : Int)) 1, hb.cell (Int.toNat (j : Int)) 2⟩ = (hb.to Wt)[j] := c3.symm
    have hwd := rd _ (List.getElem_mem hcj)
    rw [c3] at hwd
    have hok2 : WtD.Ok ⟨hb.getInt (Int.toNat (j : Int)) 0, hb.getInt (Int.toNat (j : Int)) 1, hb.cell (Int.toNat (j : Int)) 2⟩ := ⟨c2, by rw [D.Is.length (α := Sec)]; exact hwd⟩
    rw [hw]
    have ft := firstErr_take (s := ha.to Int) hcj
    rw [hpre, if_neg (by simp)] at ft
    refine ⟨⟨by omega, by omega, rb.size hcj⟩, c1, ⟨ra, la, (sizesErr_ok h1).2.2, hok2⟩, fun he => ?_, fun he => ?_⟩
    · have he : fitsErr (ha.to Int) (hb.to Wt)[j] ≠ 0 := by simpa using he
      have hf := firstErr_of_take (s := ha.to Int) (l := hb.to Wt) (i := j + 1) (by rw [ft]; exact he)
      rw [ft] at hf
      exact ret_int (by rw [checkH_fit (h := (HiD.mk ha hb hc).hist) h1 h2 (by show firstErr (ha.to Int) (hb.to Wt) ≠ 0; rw [hf]; exact he)]; exact hf.symm)
    · have he : fitsErr (ha.to Int) (hb.to Wt)[j] = 0 := by simpa using he
      have := ih (j + 1) ⟨hcj, by rw [ft, he]⟩ (by omega)
      rw [← wrap_succ hcj (by omega)] at this
      exact this
  · have : j = (hb.to Wt).length := by have := of_decide_eq_false hcj; omega
    subst this
    rw [List.take_length] at hpre
    exact crB_loop hR h1 h2 hpre

theorem lawFew : Law Try.prog 39 (rdHi.one.sp spFew) := by
  refine law_in _ (by kernel_rfl) fun H w ⟨ha, hb, hc⟩ hok hp => ?_
  obtain ⟨ra, rb, rc⟩ := hp _ (List.mem_singleton.2 rfl)
  simp only at ra rb rc
  have al := D.Is.length (α := Int) ha
  have bl := D.Is.length (α := Wt) hb
  have el := D.Is.length (α := Ev) hc
  have ef : fewH (HiD.mk ha hb hc).hist = (decide ((ha.to Int).length ≤ 9) && (decide ((hb.to Wt).length ≤ 40) && (decide ((hc.to Ev).length ≤ 90) && ((ha.to Int).all (fun n => decide (n ≤ 24)) && (hb.to Wt).all fun w => decide (w.data.length ≤ 30))))) := rfl
  apply exec_sound (noCtr _) 200
  rw [show rdHi.one.canon ⟨ha, hb, hc⟩ = [.agg [.dat ha, .dat hb, .dat hc]] from rfl, few_in]
  refine ⟨fun h => ret_lb ?_, fun h1 => ⟨fun h => ret_lb ?_, fun h2 => ⟨fun h => ret_lb ?_, fun h3 => ?_⟩⟩⟩
  · have := of_decide_eq_true h; rw [ef, decide_eq_false (p := (ha.to Int).length ≤ 9) (by omega)]; rfl
  · have := of_decide_eq_true h; rw [ef, decide_eq_false (p := (hb.to Wt).length ≤ 40) (by omega)]; simp
  · have := of_decide_eq_true h; rw [ef, decide_eq_false (p := (hc.to Ev).length ≤ 90) (by omega)]; simp
  have h1 := of_decide_eq_false h1
  have h2 := of_decide_eq_false h2
  have h3 := of_decide_eq_false h3
  rw [decide_eq_true (p := (ha.to Int).length ≤ 9) (by omega), decide_eq_true (p := (hb.to Wt).length ≤ 40) (by omega), decide_eq_true (p := (hc.to Ev).length ≤ 90) (by omega)] at ef
  simp only [Bool.true_and] at ef
  refine runs_loop (fun j : Nat => fewL ha hb hc j) (fun j => j ≤ (ha.to Int).length ∧ ∀ n, n ∈ (ha.to Int).take j → n ≤ 24) (fun j => (ha.to Int).length - j) (fun _ => rfl) ?_ 0 ⟨Nat.zero_le _, by simp⟩
  intro j ⟨hj, hpre⟩ ih
  apply exec_sound (noCtr _) 200
  rw [few_go]
  refine ⟨fun hcj => ?_, fun hcj => ?_⟩
  · have hcj : j < (ha.to Int).length := by have := of_decide_eq_true hcj; omega
    obtain ⟨c1, c2, c3⟩ := int_at ra hcj
    rw [c3]
    refine ⟨c1, c2, fun h => ret_lb ?_, fun h => ?_⟩
    · have := of_decide_eq_true h
      rw [ef]
      have : (ha.to Int).all (fun n => decide (n ≤ 24)) = false := by
        rw [List.all_eq_false]
        exact ⟨_, List.getElem_mem hcj, by simp; omega⟩
      rw [this]; rfl
    · have h := of_decide_eq_false h
      have := ih (j + 1) ⟨hcj, fun n hn => by
        rw [List.take_succ_eq_append_getElem hcj] at hn
        rcases List.mem_append.1 hn with hn | hn
        · exact hpre n hn
        · rw [List.mem_singleton.1 hn]; omega⟩ (by omega)
      rw [← wrap_succ hcj (by omega)] at this
      exact this
  · have : j = (ha.to Int).length := by have := of_decide_eq_false hcj; omega
    subst this
    rw [List.take_length] at hpre
    have ha24 : (ha.to Int).all (fun n => decide (n ≤ 24)) = true := List.all_eq_true.2 fun n hn => decide_eq_true (hpre n hn)
    rw [ha24, Bool.true_and] at ef
    refine runs_loop (fun j : Nat => few2L ha hb hc j) (fun j => j ≤ (hb.to Wt).length ∧ ∀ n, n ∈ (hb.to Wt).take j → n.data.length ≤ 30) (fun j => (hb.to Wt).length - j) (fun _ => rfl) ?_ 0 ⟨Nat.zero_le _, by simp⟩
    intro j ⟨hj, hpre⟩ ih
    apply exec_sound (noCtr _) 200
    rw [few2_go]
    refine ⟨fun hcj => ?_, fun hcj => ret_lb ?_⟩
    · have hcj : j < (hb.to Wt).length := by have := of_decide_eq_true hcj; omega
      obtain ⟨c1, c2, c3⟩ := wt_cell rb hcj
      have hls := D.Is.length (α := Sec) (hb.cell j 2)
      refine ⟨⟨by omega, by omega, rb.size hcj⟩, c1.2.2.1, fun h => ret_lb ?_, fun h => ?_⟩
      · have h : ((hb.cell j 2).len : Int) > 30 := of_decide_eq_true h
        rw [ef]
        symm
        rw [List.all_eq_false]
        exact ⟨_, List.getElem_mem hcj, by rw [c3]; simp only [decide_eq_true_eq]; omega⟩
      · have h : ¬((hb.cell j 2).len : Int) > 30 := of_decide_eq_false h
        have := ih (j + 1) ⟨hcj, fun n hn => by
          rw [List.take_succ_eq_append_getElem hcj] at hn
          rcases List.mem_append.1 hn with hn | hn
          · exact hpre n hn
          · rw [List.mem_singleton.1 hn, c3]; simp only; omega⟩ (by omega)
        rw [← wrap_succ hcj (by omega)] at this
        exact this
    · have : j = (hb.to Wt).length := by have := of_decide_eq_false hcj; omega
      subst this
      rw [List.take_length] at hpre
      rw [ef]
      exact (List.all_eq_true.2 fun n hn => decide_eq_true (hpre n hn)).symm
end Go.Proofs.Ytodhhmjilnfecaa
end
section
open Go Go.Proofs Sx
namespace Go.Proofs.Ytodhhmjilnfecaa
set_option maxRecDepth 100000
set_option maxHeartbeats 0
noncomputable def ctK : Ctrs := [(78, oCtr (spClone Int 3)), (81, oCtr (spClone Sec 81)), (79, oCtr (spClone Ev 108))]
section
variable (n j k w : Int) (d e a b i o ha hb hc : D) (v s : Int)
theorem cl1_in : execT Try.prog [] (fun _ => false) 19 (entry Try.prog 78 [.dat d]) =
 Tree.br
 (nilOf
 (evS
 (putS [.dat d, SV.undef, .nils, SV.undef, SV.undef, SV.undef, SV.undef, SV.undef] (some 3)
 (evS [.dat d, SV.undef, .nils, SV.undef, SV.undef, SV.undef, SV.undef, SV.undef] (Operand.tmp 0)))
 (Operand.tmp 3))
 d)
 (.ret .nils)
 (.all fun hs =>
 .need
 (D.sz (D.slc (D.hd (hs 0 0)) 1 []) = 1 ∧
 D.Fits d 1 ∧
 (D.len (D.slc (D.hd (hs 0 0)) 1 []) + D.len d) * 8 ≤ 140737488355328 ∧
 D.len (D.slc (D.hd (hs 0 0)) 1 []) + D.len d ≤ 9223372036854775807)
 (.all fun hs_1 =>
 .leaf
 (Conf.mk
 (SFrm.mk 78 none none [Item.code (cAt Try.prog 78 [1, 0, 1, 0, 1])]
 (mkU
 [(0, .dat d), (2, .vec 1007), (3, .dat d),
 (4,
 .bool
 (nilOf
 (evS
 (putS [.dat d, SV.undef, .nils, SV.undef, SV.undef, SV.undef, SV.undef, SV.undef] (some 3)
 (evS [.dat d, SV.undef, .nils, SV.undef, SV.undef, SV.undef, SV.undef, SV.undef]
 (Operand.tmp 0)))
 (Operand.tmp 3))
 d)),
 (5, .vec 1005), (6, .dat d), (7, .vec 1007)]
 0 8))
 []
 [(1007,
 OBlk.arr 3
 (D.slc (D.hd (hs_1 0 0)) 1 (List.append (D.rows (D.slc (D.hd (hs 0 0)) 1 [])) (D.rows d))))]))) := by kernel_rfl

theorem cl2_in : execT Try.prog [] (fun _ => false) 19 (entry Try.prog 81 [.dat d]) =
 Tree.br
 (nilOf
 (evS
 (putS [.dat d, SV.undef, .nils, SV.undef, SV.undef, SV.undef, SV.undef, SV.undef] (some 3)
 (evS [.dat d, SV.undef, .nils, SV.undef, SV.undef, SV.undef, SV.undef, SV.undef] (Operand.tmp 0)))
 (Operand.tmp 3))
 d)
 (.ret .nils)
 (.all fun hs =>
 .need
 (D.sz (D.slc (D.hd (hs 0 0)) 8 []) = 8 ∧
 D.Fits d 8 ∧
 (D.len (D.slc (D.hd (hs 0 0)) 8 []) + D.len d) * 8 ≤ 140737488355328 ∧
 D.len (D.slc (D.hd (hs 0 0)) 8 []) + D.len d ≤ 9223372036854775807)
 (.all fun hs_1 =>
 .leaf
 (Conf.mk
 (SFrm.mk 81 none none [Item.code (cAt Try.prog 81 [1, 0, 1, 0, 1])]
 (mkU
 [(0, .dat d), (2, .vec 1007), (3, .dat d),
 (4,
 .bool
 (nilOf
 (evS
 (putS [.dat d, SV.undef, .nils, SV.undef, SV.undef, SV.undef, SV.undef, SV.undef] (some 3)
 (evS [.dat d, SV.undef, .nils, SV.undef, SV.undef, SV.undef, SV.undef, SV.undef]
 (Operand.tmp 0)))
 (Operand.tmp 3))
 d)),
 (5, .vec 1005), (6, .dat d), (7, .vec 1007)]
 0 8))
 []
 [(1007,
 OBlk.arr 81
 (D.slc (D.hd (hs_1 0 0)) 8 (List.append (D.rows (D.slc (D.hd (hs 0 0)) 8 [])) (D.rows d))))]))) := by kernel_rfl

theorem cl3_in : execT Try.prog [] (fun _ => false) 19 (entry Try.prog 79 [.dat d]) =
 Tree.br
 (nilOf
 (evS
 (putS [.dat d, SV.undef, .nils, SV.undef, SV.undef, SV.undef, SV.undef, SV.undef] (some 3)
 (evS [.dat d, SV.undef, .nils, SV.undef, SV.undef, SV.undef, SV.undef, SV.undef] (Operand.tmp 0)))
 (Operand.tmp 3))
 d)
 (.ret .nils)
 (.all fun hs =>
 .need
 (D.sz (D.slc (D.hd (hs 0 0)) 2 []) = 2 ∧
 D.Fits d 2 ∧
 (D.len (D.slc (D.hd (hs 0 0)) 2 []) + D.len d) * 16 ≤ 140737488355328 ∧
 D.len (D.slc (D.hd (hs 0 0)) 2 []) + D.len d ≤ 9223372036854775807)
 (.all fun hs_1 =>
 .leaf
 (Conf.mk
 (SFrm.mk 79 none none [Item.code (cAt Try.prog 79 [1, 0, 1, 0, 1])]
 (mkU
 [(0, .dat d), (2, .vec 1007), (3, .dat d),
 (4,
 .bool
 (nilOf
 (evS
 (putS [.dat d, SV.undef, .nils, SV.undef, SV.undef, SV.undef, SV.undef, SV.undef] (some 3)
 (evS [.dat d, SV.undef, .nils, SV.undef, SV.undef, SV.undef, SV.undef, SV.undef]
 (Operand.tmp 0)))
 (Operand.tmp 3))
 d)),
 (5, .vec 1005), (6, .dat d), (7, .vec 1007)]
 0 8))
 []
 [(1007,
 OBlk.arr 108
 (D.slc (D.hd (hs_1 0 0)) 2 (List.append (D.rows (D.slc (D.hd (hs 0 0)) 2 [])) (D.rows d))))]))) := by kernel_rfl


theorem copR_in : exec Try.prog [] 400 (entry Try.prog 48 [.agg [.dat ha, .dat hb, .dat hc]]) =
 Tree.leaf
 (Conf.mk
 (SFrm.mk 48 none none
 [Item.inLoop (cAt Try.prog 48 [1, 1, 1, 1, 0, 1, 0, 0]), Item.inBlock 0,
 Item.code (cAt Try.prog 48 [1, 1, 1, 1, 1])]
 (mkJ 0 [(1, .ptr 0 0), (2, .ptr 1 0), (3, .nils), (4, .nils), (5, .nils), (6, .int .i64 0)] 0
 43))
 [] [(0, OBlk.cells 26 [.dat ha, .dat hb, .dat hc]), (1, OBlk.cells 26 [.nils, .nils, .nils])]) := by kernel_rfl

end
end Go.Proofs.Ytodhhmjilnfecaa
end
section
open Go Go.Proofs Sx
namespace Go.Proofs.Ytodhhmjilnfecaa
set_option maxRecDepth 100000
set_option maxHeartbeats 0
noncomputable def cpL (hb p q r : D) (j : Int) : Conf := Conf.mk (SFrm.mk 83 none none [Item.inLoop (cAt Try.prog 83 [1, 1, 0, 1, 0, 0]), Item.inBlock 0, Item.code (cAt Try.prog 83 [1, 1, 1])]
 (mkJ 0 [(2, .ptr 0 0), (3, .ptr 1 0), (14, .dat hb), (15, .int .i64 hb.len), (16, .int .i64 j)] 0 32)) [] [(0, .cells 26 [.nils, .nils, .nils]), (1, .cells 26 [.vec 2, .vec 3, .vec 4]), (2, .arr 3 p), (3, .arr 31 q), (4, .arr 108 r)]
noncomputable def crL (ha hb hc q : D) (j : Int) : Conf := Conf.mk (SFrm.mk 48 none none [Item.inLoop (cAt Try.prog 48 [1, 1, 1, 1, 0, 1, 0, 0]), Item.inBlock 0, Item.code (cAt Try.prog 48 [1, 1, 1, 1, 1])]
 (mkJ 0 [(1, .ptr 0 0), (2, .ptr 1 0), (3, .nils), (4, .vec 2), (5, .nils), (6, .int .i64 j)] 0 43)) [] [(0, .cells 26 [.dat ha, .dat hb, .dat hc]), (1, .cells 26 [.nils, .nils, .nils]), (2, .arr 31 q)]
section
variable (j : Int) (ha hb hc p q r : D)

theorem crL_go : exec Try.prog [] 400 (unroll (crL ha hb hc q j)) =
 Tree.br (decide (j < (↑(D.len hb) : Int)))
 (.need (0 ≤ j ∧ j < (↑(D.len hb) : Int) ∧ D.sz hb = 3)
 (.need (D.HasCells hb (Int.toNat j) 0 [FT.int .i64, FT.int .i64, FT.slc])
 (.all fun hs =>
 .need
 (D.Fits (D.cell hb (Int.toNat j) 2) 8 ∧
 D.len (D.cell hb (Int.toNat j) 2) * 8 ≤ 140737488355328 ∧
 D.len (D.cell hb (Int.toNat j) 2) ≤ 9223372036854775807)
 (.need
 (D.sz q = 3 ∧
 D.Fits
 (D.slc (D.hd (hs 10 0)) 3
 [[D.int .i64 (D.getInt hb (Int.toNat j) 0), D.int .i64 (D.getInt hb (Int.toNat j) 1),
 D.slc (D.hd (hs 8 0)) 8 (D.rows (D.cell hb (Int.toNat j) 2))]])
 3 ∧
 (D.len q +
 D.len
 (D.slc (D.hd (hs 10 0)) 3
 [[D.int .i64 (D.getInt hb (Int.toNat j) 0),
 D.int .i64 (D.getInt hb (Int.toNat j) 1),
 D.slc (D.hd (hs 8 0)) 8 (D.rows (D.cell hb (Int.toNat j) 2))]])) *
 40 ≤
 140737488355328 ∧
 D.len q +
 D.len
 (D.slc (D.hd (hs 10 0)) 3
 [[D.int .i64 (D.getInt hb (Int.toNat j) 0),
 D.int .i64 (D.getInt hb (Int.toNat j) 1),
 D.slc (D.hd (hs 8 0)) 8 (D.rows (D.cell hb (Int.toNat j) 2))]]) ≤
 9223372036854775807)
 (.leaf
 (Conf.mk
 (SFrm.mk 48 none none
 [Item.inLoop (cAt Try.prog 48 [1, 1, 1, 1, 0, 1, 0, 0]), Item.inBlock 0,
 Item.code (cAt Try.prog 48 [1, 1, 1, 1, 1])]
 (mkJ 0
 [(1, .ptr 0 0), (2, .ptr 1 0), (3, .nils), (4, .vec 2), (5, .nils),
 (6, .int .i64 (IntKind.wrap .i64 (j + 1)))]
 0 43))
 []
 [(0, OBlk.cells 26 [.dat ha, .dat hb, .dat hc]), (1, OBlk.cells 26 [.nils, .nils, .nils]),
 (2,
 OBlk.arr 31
 (D.slc (D.hd (hs 11 0)) 3
 (List.append (D.rows q)
 (D.rows
 (D.slc (D.hd (hs 10 0)) 3
 [[D.int .i64 (D.getInt hb (Int.toNat j) 0),
 D.int .i64 (D.getInt hb (Int.toNat j) 1),
 D.slc (D.hd (hs 8 0)) 8 (D.rows (D.cell hb (Int.toNat j) 2))]])))))]))))))
 (.all fun hs =>
 .need (D.Fits ha 1 ∧ D.len ha * 8 ≤ 140737488355328 ∧ D.len ha ≤ 9223372036854775807)
 (.need (D.Fits hc 2 ∧ D.len hc * 16 ≤ 140737488355328 ∧ D.len hc ≤ 9223372036854775807)
 (.ret
 (.agg
 [.dat (D.slc (D.hd (hs 3 0)) 1 (D.rows ha)), .dat q, .dat (D.slc (D.hd (hs 8 0)) 2 (D.rows hc))])))) := by kernel_rfl

end
end Go.Proofs.Ytodhhmjilnfecaa
end
section
open Go
namespace Sx
noncomputable def hiSV (ds : Nat → D) (h : Hist) : SV := .agg [.dat ((ds 0).like h.sizes), .dat ((ds 1).like h.writes), .dat ((ds 2).like h.events)]
noncomputable def spCopy (x : HiD) : SpecR := .data [x.Right] fun ds => hiSV ds x.hist
theorem slc_same {α : Type} [Codec α] {d : D} (h : d.Is α) (hd : Hd) {s : Nat} (hs : s = Codec.sz α) : (D.slc hd s d.rows).Is α ∧ (D.slc hd s d.rows).to α = d.to α := is_of hs (rows_of h)
section
variable {P : Program} {w : World} {H : HV}
theorem ret_hi {X Y Z : SV} {s : List Int} {ws : List Wt} {es : List Ev} {h : Hist} (hx : Stands Int X s) (hy : Stands Wt Y ws) (hz : Stands Ev Z es) (e : h = ⟨s, ws, es⟩) :
    (Tree.ret (.agg [X, Y, Z])).holds P ⟨w, H⟩ (RetD w H fun ds => hiSV ds h) := by
  subst e
  obtain ⟨d, h1, h2, h3, h4⟩ := hx
  obtain ⟨d', h1', h2', h3', h4'⟩ := hy
  obtain ⟨d'', h1'', h2'', h3'', h4''⟩ := hz
  refine ret_D (fun i => match i with | 0 => d | 1 => d' | _ => d'') (fun E E' => ?_) (fun H' ho => ?_)
  · simp only [hiSV, SV.den, SV.denL, D.like_self h2 h3, D.like_self h2' h3', D.like_self h2'' h3'', h1, h1', h1'']
  · simp only [hiSV, SV.Ok, SV.OkL, D.like_self h2 h3, D.like_self h2' h3', D.like_self h2'' h3''] at ho ⊢
    exact ⟨⟨h4 _ ho.1, h2.slc⟩, ⟨h4' _ ho.2.1, h2'.slc⟩, ⟨h4'' _ ho.2.2.1, h2''.slc⟩, trivial⟩
theorem ret_hiI {X Y Z : SV} {s : List Int} {ws : List Wt} {es : List Ev} {h : Hist} {k k' : Int} (hx : Stands Int X s) (hy : Stands Wt Y ws) (hz : Stands Ev Z es) (e : h = ⟨s, ws, es⟩) (hk : k = k') :
    (Tree.ret (.tup [.agg [X, Y, Z], .int .i64 k])).holds P ⟨w, H⟩ (RetD w H fun ds => .tup [hiSV ds h, .int .i64 k']) := by
  subst e; subst hk
  obtain ⟨d, h1, h2, h3, h4⟩ := hx
  obtain ⟨d', h1', h2', h3', h4'⟩ := hy
  obtain ⟨d'', h1'', h2'', h3'', h4''⟩ := hz
  refine ret_D (fun i => match i with | 0 => d | 1 => d' | _ => d'') (fun E E' => ?_) (fun H' ho => ?_)
  · simp only [hiSV, SV.den, SV.denL, D.like_self h2 h3, D.like_self h2' h3', D.like_self h2'' h3'', h1, h1', h1'']
  · simp only [hiSV, SV.Ok, SV.OkL, D.like_self h2 h3, D.like_self h2' h3', D.like_self h2'' h3''] at ho ⊢
    exact ⟨⟨⟨h4 _ ho.1.1, h2.slc⟩, ⟨h4' _ ho.1.2.1, h2'.slc⟩, ⟨h4'' _ ho.1.2.2.1, h2''.slc⟩, trivial⟩, trivial, trivial⟩
theorem ret_hiII {X Y Z : SV} {s : List Int} {ws : List Wt} {es : List Ev} {h : Hist} {k k' m m' : Int} (hx : Stands Int X s) (hy : Stands Wt Y ws) (hz : Stands Ev Z es) (e : h = ⟨s, ws, es⟩) (hk : k = k') (hm : m = m') :
    (Tree.ret (.tup [.agg [X, Y, Z], .int .i64 k, .int .i64 m])).holds P ⟨w, H⟩ (RetD w H fun ds => .tup [hiSV ds h, .int .i64 k', .int .i64 m']) := by
  subst e; subst hk; subst hm
  obtain ⟨d, h1, h2, h3, h4⟩ := hx
  obtain ⟨d', h1', h2', h3', h4'⟩ := hy
  obtain ⟨d'', h1'', h2'', h3'', h4''⟩ := hz
  refine ret_D (fun i => match i with | 0 => d | 1 => d' | _ => d'') (fun E E' => ?_) (fun H' ho => ?_)
  · simp only [hiSV, SV.den, SV.denL, D.like_self h2 h3, D.like_self h2' h3', D.like_self h2'' h3'', h1, h1', h1'']
  · simp only [hiSV, SV.Ok, SV.OkL, D.like_self h2 h3, D.like_self h2' h3', D.like_self h2'' h3''] at ho ⊢
    exact ⟨⟨⟨h4 _ ho.1.1, h2.slc⟩, ⟨h4' _ ho.1.2.1, h2'.slc⟩, ⟨h4'' _ ho.1.2.2.1, h2''.slc⟩, trivial⟩, trivial, trivial, trivial⟩
end
def zHist : Hist := ⟨[], [], []⟩
def newH (s : List Int) : Hist × Int := if sizesErr s ≠ 0 then (zHist, sizesErr s) else (⟨s, [], []⟩, 0)
noncomputable def spNewH (x : D) : SpecR := .data [x.Is Int ∧ x.len ≤ 1048576] fun ds => .tup [hiSV ds (newH (x.to Int)).1, .int .i64 (newH (x.to Int)).2]
def issueH (h : Hist) (w : Wt) : Hist × Int × Int :=
  if (checkH h).1 ≠ 0 then (zHist, 0, (checkH h).1) else if h.writes.length ≥ 4096 then (zHist, 0, 6)
  else if fitsErr h.sizes w ≠ 0 then (zHist, 0, fitsErr h.sizes w) else (⟨h.sizes, h.writes ++ [w], h.events ++ [⟨0, h.writes.length⟩]⟩, h.writes.length, 0)
noncomputable def spIssueH (x : HiD × WtD) : SpecR := .data [x.1.Right ∧ x.1.e.len ≤ 1000000 ∧ x.2.Ok] fun ds => .tup [hiSV ds (issueH x.1.hist x.2.wt).1, .int .i64 (issueH x.1.hist x.2.wt).2.1, .int .i64 (issueH x.1.hist x.2.wt).2.2]
def ackH (h : Hist) (n : Int) : Hist × Int :=
  if (checkH h).1 ≠ 0 then (zHist, (checkH h).1) else if n < 0 ∨ n ≥ h.writes.length then (zHist, 7)
  else if atEv h.events ⟨1, n⟩ ≥ 0 then (zHist, 8) else (⟨h.sizes, h.writes, h.events ++ [⟨1, n⟩]⟩, 0)
noncomputable def spAckH (x : HiD × Int) : SpecR := .data [x.1.Right ∧ x.1.e.len ≤ 1000000] fun ds => .tup [hiSV ds (ackH x.1.hist x.2).1, .int .i64 (ackH x.1.hist x.2).2]
theorem issueH_e1 {h : Hist} {x : Wt} (h1 : (checkH h).1 ≠ 0) : issueH h x = (zHist, 0, (checkH h).1) := by unfold issueH; rw [if_pos h1]
theorem issueH_e2 {h : Hist} {x : Wt} (h1 : ¬((checkH h).1 ≠ 0)) (h2 : h.writes.length ≥ 4096) : issueH h x = (zHist, 0, 6) := by unfold issueH; rw [if_neg h1, if_pos h2]
theorem issueH_e3 {h : Hist} {x : Wt} (h1 : ¬((checkH h).1 ≠ 0)) (h2 : ¬h.writes.length ≥ 4096) (h3 : fitsErr h.sizes x ≠ 0) : issueH h x = (zHist, 0, fitsErr h.sizes x) := by unfold issueH; rw [if_neg h1, if_neg h2, if_pos h3]
theorem issueH_ok {h : Hist} {x : Wt} (h1 : ¬((checkH h).1 ≠ 0)) (h2 : ¬h.writes.length ≥ 4096) (h3 : ¬(fitsErr h.sizes x ≠ 0)) : issueH h x = (Hist.mk h.sizes (h.writes ++ [x]) (h.events ++ [Ev.mk 0 h.writes.length]), (h.writes.length : Int), (0 : Int)) := by
  unfold issueH; rw [if_neg h1, if_neg h2, if_neg h3]
theorem ackH_e1 {h : Hist} {n : Int} (h1 : (checkH h).1 ≠ 0) : ackH h n = (zHist, (checkH h).1) := by unfold ackH; rw [if_pos h1]
theorem ackH_e7 {h : Hist} {n : Int} (h1 : ¬((checkH h).1 ≠ 0)) (h2 : n < 0 ∨ n ≥ h.writes.length) : ackH h n = (zHist, 7) := by unfold ackH; rw [if_neg h1, if_pos h2]
theorem ackH_e8 {h : Hist} {n : Int} (h1 : ¬((checkH h).1 ≠ 0)) (h2 : ¬(n < 0 ∨ n ≥ h.writes.length)) (h3 : atEv h.events ⟨1, n⟩ ≥ 0) : ackH h n = (zHist, 8) := by unfold ackH; rw [if_neg h1, if_neg h2, if_pos h3]
theorem ackH_ok {h : Hist} {n : Int} (h1 : ¬((checkH h).1 ≠ 0)) (h2 : ¬(n < 0 ∨ n ≥ h.writes.length)) (h3 : ¬(atEv h.events ⟨1, n⟩ ≥ 0)) : ackH h n = (Hist.mk h.sizes h.writes (h.events ++ [Ev.mk 1 n]), (0 : Int)) := by
  unfold ackH; rw [if_neg h1, if_neg h2, if_neg h3]
theorem img_ok {l : List Int} (h1 : sizesErr l = 0) (d : D) : ImgOk (d.like (imgOf l)) := by
  refine ⟨D.like_is _ _, ?_, fun v hv => ?_⟩
  · rw [D.Is.length (α := Vol), D.like_to]
    unfold imgOf
    rw [if_neg (by simp [h1])]
    have := sizesErr_ok h1
    simp only [List.length_map]; omega
  · rw [D.like_to] at hv
    unfold imgOf at hv
    rw [if_neg (by simp [h1])] at hv
    obtain ⟨n, hn, rfl⟩ := List.mem_map.1 hv
    have := (sizesErr_ok h1).2.2 n hn
    simp only [volOf, List.length_replicate]; omega
theorem sub3_all {α : Type} [Codec α] {d : D} (h : d.Is α) : (d.sub3 0 (Int.toNat (d.len : Int))).Tight ∧ (d.sub3 0 (Int.toNat (d.len : Int))).Is α ∧ (d.sub3 0 (Int.toNat (d.len : Int))).to α = d.to α ∧ (d.sub3 0 (Int.toNat (d.len : Int))).len = d.len := by
  obtain ⟨h1, h2⟩ := h.sub3 0 (Int.toNat (d.len : Int))
  simp only [Int.toNat_natCast, List.drop_zero, Nat.sub_zero] at h1 h2 ⊢
  have h3 : (d.sub3 0 d.len).to α = d.to α := by rw [h2, D.Is.length (α := α), List.take_length]
  have h4 : (d.sub3 0 d.len).len = d.len := by rw [D.Is.length (α := α) (d.sub3 0 d.len), h3, D.Is.length (α := α) d]
  refine ⟨fun a c hc => ?_, h1, h3, h4⟩
  rw [h4]
  simp only [D.sub3, D.hd] at hc
  cases hd : d.hd with
  | none => simp only [D.hd] at hd; simp [hd] at hc
  | some q => simp only [D.hd] at hd; simp [hd] at hc; omega
def spSameH (x : HiD × HiD) : SpecR := .scalar [x.1.Right ∧ x.2.s.Is Int ∧ x.2.w.Is Wt ∧ x.2.e.Is Ev] (.bool (decide (x.1.hist = x.2.hist)))
end Sx
end
section
open Go Go.Proofs Sx
namespace Go.Proofs.Ytodhhmjilnfecaa
set_option maxRecDepth 100000

theorem lawCl1 : OLaw Try.prog 78 (spClone Int 3) := by
  refine olaw_clone (by kernel_rfl) fun H w d hok hd hlen => ?_
  apply execT_sound (noCtr _) (fun _ => false) 19
  rw [cl1_in]
  refine ⟨fun hc => ?_, fun hc hs => ⟨⟨rfl, hd.fits, by simp only [len_slc, List.length_nil]; omega, by simp only [len_slc, List.length_nil]; omega⟩, fun hs1 => ?_⟩⟩
  · have hc : d.isNil = true := hc
    have := nil_rows hok hc
    exact own_nil (h := .slc none 1 []) (by rw [this]; rfl)
  · exact own_ret (f := Try.f78) (j := 1007) (h := hs1 0 0) (by kernel_rfl) (by kernel_rfl) rfl rfl
theorem lawCl2 : OLaw Try.prog 81 (spClone Sec 81) := by
  refine olaw_clone (by kernel_rfl) fun H w d hok hd hlen => ?_
  apply execT_sound (noCtr _) (fun _ => false) 19
  rw [cl2_in]
  refine ⟨fun hc => ?_, fun hc hs => ⟨⟨rfl, hd.fits, by simp only [len_slc, List.length_nil]; omega, by simp only [len_slc, List.length_nil]; omega⟩, fun hs1 => ?_⟩⟩
  · have hc : d.isNil = true := hc
    have := nil_rows hok hc
    exact own_nil (h := .slc none 8 []) (by rw [this]; rfl)
  · exact own_ret (f := Try.f81) (j := 1007) (h := hs1 0 0) (by kernel_rfl) (by kernel_rfl) rfl rfl
theorem lawCl3 : OLaw Try.prog 79 (spClone Ev 108) := by
  refine olaw_clone (by kernel_rfl) fun H w d hok hd hlen => ?_
  apply execT_sound (noCtr _) (fun _ => false) 19
  rw [cl3_in]
  refine ⟨fun hc => ?_, fun hc hs => ⟨⟨rfl, hd.fits, by simp only [len_slc, List.length_nil]; omega, by simp only [len_slc, List.length_nil]; omega⟩, fun hs1 => ?_⟩⟩
  · have hc : d.isNil = true := hc
    have := nil_rows hok hc
    exact own_nil (h := .slc none 2 []) (by rw [this]; rfl)
  · exact own_ret (f := Try.f79) (j := 1007) (h := hs1 0 0) (by kernel_rfl) (by kernel_rfl) rfl rfl
theorem ctKOk : Ctrs.Ok Try.prog ctK := by
  intro x hx
  simp only [ctK, List.mem_cons, List.not_mem_nil, or_false] at hx
  rcases hx with rfl | rfl | rfl
  · exact oCtr_ok lawCl1
  · exact oCtr_ok lawCl2
  · exact oCtr_ok lawCl3


theorem copR_loop {H : HV} {w : World} {ha hb hc : D} (hR : (HiD.mk ha hb hc).Right) :
    Runs Try.prog ⟨w, H⟩ (crL ha hb hc (.slc none 3 []) 0) (RetD w H fun ds => hiSV ds (HiD.mk ha hb hc).hist) := by
  obtain ⟨ra, rb, rc, la, lb, lc, rd⟩ := id hR
  simp only at ra rb rc la lb lc rd
  have bl := D.Is.length (α := Wt) hb
  refine runs_loop (fun q : D × Nat => crL ha hb hc q.1 q.2) (fun q => q.2 ≤ (hb.to Wt).length ∧ q.1.Is Wt ∧ q.1.sz = 3 ∧ q.1.to Wt = (hb.to Wt).take q.2) (fun q => (hb.to Wt).length - q.2) (fun _ => rfl) ?_ (.slc none 3 [], 0) ⟨Nat.zero_le _, is_nil _ _, rfl, rfl⟩
  intro ⟨q, j⟩ ⟨hj, hq, hz, hto⟩ ih
  simp only at hj hq hz hto
  have ql := D.Is.length (α := Wt) q
  rw [hto, List.length_take] at ql
  show Runs Try.prog ⟨w, H⟩ (unroll (crL ha hb hc q j)) _
  apply exec_sound (noCtr _) 400
  rw [crL_go]
  refine ⟨fun hcj => ?_, fun hcj hs => ?_⟩
  · have hcj : j < (hb.to Wt).length := by have := of_decide_eq_true hcj; omega
    obtain ⟨c1, c2, c3⟩ := wt_cell rb hcj
    have hwd := rd _ (List.getElem_mem hcj)
    rw [c3] at hwd
    have hls : (hb.cell (Int.toNat (j : Int)) 2).len ≤ 1048576 := by rw [D.Is.length (α := Sec)]; exact hwd
    refine ⟨⟨by omega, by omega, rb.size hcj⟩, c1, fun hs => ⟨⟨c2.fits, by omega, by omega⟩, ⟨hz, .inr rfl, by simp only [len_slc, List.length_cons, List.length_nil]; omega, by simp only [len_slc, List.length_cons, List.length_nil]; omega⟩, ?_⟩⟩
    obtain ⟨x1, x2⟩ := slc_same c2 (D.hd (hs 8 0)) (s := 8) rfl
    have hr := rows_app (rows_of hq) (wt_one (hb.getInt j 0) (hb.getInt j 1) x1)
    obtain ⟨i1, i2⟩ := is_of (h := D.hd (hs 11 0)) (s := 3) rfl hr
    have := ih (_, j + 1) ⟨hcj, i1, rfl, i2.trans (by rw [hto, List.take_succ_eq_append_getElem hcj, c3, x2])⟩ (by simp only; omega)
    simp only at this
    rw [← wrap_succ hcj (by omega)] at this
    exact this
  · have : j = (hb.to Wt).length := by have := of_decide_eq_false hcj; omega
    subst this
    rw [List.take_length] at hto
    obtain ⟨p1, p2⟩ := slc_same ra (D.hd (hs 3 0)) (s := 1) rfl
    obtain ⟨r1, r2⟩ := slc_same rc (D.hd (hs 8 0)) (s := 2) rfl
    exact ⟨⟨ra.fits, by omega, by omega⟩, ⟨rc.fits, by omega, by omega⟩, ret_hi (stands_dat p1 p2) (stands_dat hq hto) (stands_dat r1 r2) rfl⟩
theorem lawCopyR : Law Try.prog 48 (rdHi.one.sp spCopy) := by
  refine law_in _ (by kernel_rfl) fun H w ⟨ha, hb, hc⟩ hok hp => ?_
  have hR : (HiD.mk ha hb hc).Right := hp _ (List.mem_singleton.2 rfl)
  apply exec_sound (noCtr _) 400
  rw [show rdHi.one.canon ⟨ha, hb, hc⟩ = [.agg [.dat ha, .dat hb, .dat hc]] from rfl, copR_in]
  exact vecIn_to 9 31 3 none 4 (crL ha hb hc (.slc none 3 []) 0) (by kernel_rfl) (copR_loop hR)
end Go.Proofs.Ytodhhmjilnfecaa
end
section
open Go Go.Proofs Sx
namespace Go.Proofs.Ytodhhmjilnfecaa
set_option maxRecDepth 100000
set_option maxHeartbeats 0
noncomputable def ctM : Ctrs := (68, ctrOf (rdHi.one.sp spCk)) :: (65, ctrOf (rdHi.one.sp spCkI)) :: (48, ctrOf (rdHi.one.sp spCopy)) :: (ctK ++ (ctC1 ++ ctC2))
section
variable (n j k w : Int) (d e a b i o ha hb hc ga gb gc : D) (v s : Int)
theorem nw_in : exec Try.prog ctM 300 (entry Try.prog 60 [.dat d]) =
 Tree.need (D.Is Int d ∧ D.len d ≤ 1048576)
 (.all fun hs =>
 .br (sizesErr (D.to Int d) != 0)
 (.ret (SV.tup [.agg [.nils, .nils, .nils], .int .i64 (sizesErr (D.to Int d))]))
 (.need (D.Is Int d ∧ D.len d ≤ 1048576)
 (.all fun hs =>
 .ret
 (SV.tup [.agg [.dat (D.slc (D.hd (hs 0 0)) 1 (D.rows d)), .nils, .nils], .int .i64 0])))) := by kernel_rfl

theorem nwR_in : exec Try.prog ctM 300 (entry Try.prog 64 [.dat d]) =
 Tree.need (D.Is Int d ∧ D.len d ≤ 1048576)
 (.br (sizesErr (D.to Int d) != 0)
 (.ret (SV.tup [.agg [.nils, .nils, .nils], .int .i64 (sizesErr (D.to Int d))]))
 (.need (D.Fits d 1 ∧ D.len d * 8 ≤ 140737488355328 ∧ D.len d ≤ 9223372036854775807)
 (.all fun hs =>
 .ret
 (SV.tup [.agg [.dat (D.slc (D.hd (hs 0 0)) 1 (D.rows d)), .nils, .nils], .int .i64 0])))) := by kernel_rfl

theorem chk1_in : exec Try.prog ctM 300 (entry Try.prog 76 [.agg [.dat ha, .dat hb, .dat hc]]) =
 Tree.need (HiD.Right (HiD.mk ha hb hc))
 (.all fun hs => .ret (.int .i64 (Prod.fst (checkH (HiD.hist (HiD.mk ha hb hc)))))) := by kernel_rfl


theorem isR_in : exec Try.prog ctM 500 (entry Try.prog 42 [.agg [.dat ha, .dat hb, .dat hc], .agg [.int .i64 v, .int .i64 s, .dat e]]) =
 Tree.need (HiD.Right (HiD.mk ha hb hc))
 (.br (Prod.fst (checkH (HiD.hist (HiD.mk ha hb hc))) != 0)
 (.ret
 (SV.tup
 [.agg [.nils, .nils, .nils], .int .i64 0,
 .int .i64 (Prod.fst (checkH (HiD.hist (HiD.mk ha hb hc))))]))
 (.br (decide ((↑(D.len hb) : Int) ≥ 4096))
 (.ret (SV.tup [.agg [.nils, .nils, .nils], .int .i64 0, .int .i64 6]))
 (.need
 (D.Is Int ha ∧
 D.len ha ≤ 1048576 ∧ (∀ (n : Int), List.Mem n (D.to Int ha) → 1 ≤ n ∧ n ≤ 4096) ∧ WtD.Ok (WtD.mk v s e))
 (.br (fitsErr (D.to Int ha) (WtD.wt (WtD.mk v s e)) != 0)
 (.ret
 (SV.tup
 [.agg [.nils, .nils, .nils], .int .i64 0,
 .int .i64 (fitsErr (D.to Int ha) (WtD.wt (WtD.mk v s e)))]))
 (.all fun hs =>
 .need
 (0 ≤ (↑0 : Int) ∧
 (↑0 : Int) ≤ (↑(D.len hb) : Int) ∧
 (↑(D.len hb) : Int) ≤ (↑(D.len hb) : Int) ∧ (↑(D.len hb) : Int) = (↑(D.len hb) : Int) ∧ D.Fits hb 3)
 (.need
 (D.Tight (D.sub3 hb 0 (Int.toNat (↑(D.len hb) : Int))) ∧
 D.Fits (D.sub3 hb 0 (Int.toNat (↑(D.len hb) : Int))) 3 ∧
 D.Fits (D.slc (D.hd (hs 6 0)) 3 [[D.int .i64 v, D.int .i64 s, e]]) 3 ∧
 0 < D.len (D.slc (D.hd (hs 6 0)) 3 [[D.int .i64 v, D.int .i64 s, e]]) ∧
 (D.len (D.sub3 hb 0 (Int.toNat (↑(D.len hb) : Int))) +
 D.len (D.slc (D.hd (hs 6 0)) 3 [[D.int .i64 v, D.int .i64 s, e]])) *
 40 ≤
 140737488355328 ∧
 D.len (D.sub3 hb 0 (Int.toNat (↑(D.len hb) : Int))) +
 D.len (D.slc (D.hd (hs 6 0)) 3 [[D.int .i64 v, D.int .i64 s, e]]) ≤
 9223372036854775807)
 (.all fun hs_1 =>
 .need
 (0 ≤ (↑0 : Int) ∧
 (↑0 : Int) ≤ (↑(D.len hc) : Int) ∧
 (↑(D.len hc) : Int) ≤ (↑(D.len hc) : Int) ∧
 (↑(D.len hc) : Int) = (↑(D.len hc) : Int) ∧ D.Fits hc 2)
 (.need
 (D.Tight (D.sub3 hc 0 (Int.toNat (↑(D.len hc) : Int))) ∧
 D.Fits (D.sub3 hc 0 (Int.toNat (↑(D.len hc) : Int))) 2 ∧
 D.Fits
 (D.slc (D.hd (hs_1 11 0)) 2
 [[D.int .i64 0, D.int .i64 (↑(D.len hb) : Int)]])
 2 ∧
 0 <
 D.len
 (D.slc (D.hd (hs_1 11 0)) 2
 [[D.int .i64 0, D.int .i64 (↑(D.len hb) : Int)]]) ∧
 (D.len (D.sub3 hc 0 (Int.toNat (↑(D.len hc) : Int))) +
 D.len
 (D.slc (D.hd (hs_1 11 0)) 2
 [[D.int .i64 0, D.int .i64 (↑(D.len hb) : Int)]])) *
 16 ≤
 140737488355328 ∧
 D.len (D.sub3 hc 0 (Int.toNat (↑(D.len hc) : Int))) +
 D.len
 (D.slc (D.hd (hs_1 11 0)) 2
 [[D.int .i64 0, D.int .i64 (↑(D.len hb) : Int)]]) ≤
 9223372036854775807)
 (.need
 (HiD.Right
 (HiD.mk ha
 (D.slc (D.hd (hs 7 0)) 3
 (List.append (D.rows (D.sub3 hb 0 (Int.toNat (↑(D.len hb) : Int))))
 (D.rows (D.slc (D.hd (hs 6 0)) 3 [[D.int .i64 v, D.int .i64 s, e]]))))
 (D.slc (D.hd (hs_1 12 0)) 2
 (List.append (D.rows (D.sub3 hc 0 (Int.toNat (↑(D.len hc) : Int))))
 (D.rows
 (D.slc (D.hd (hs_1 11 0)) 2
 [[D.int .i64 0, D.int .i64 (↑(D.len hb) : Int)]]))))))
 (.all fun hs_2 =>
 .ret
 (SV.tup
 [.agg
 [.dat (D.like (hs_2 0 0) (D.to Int ha)),
 .dat
 (D.like (hs_2 0 1)
 (D.to Wt
 (D.slc (D.hd (hs 7 0)) 3
 (List.append (D.rows (D.sub3 hb 0 (Int.toNat (↑(D.len hb) : Int))))
 (D.rows
 (D.slc (D.hd (hs 6 0)) 3
 [[D.int .i64 v, D.int .i64 s, e]])))))),
 .dat
 (D.like (hs_2 0 2)
 (D.to Ev
 (D.slc (D.hd (hs_1 12 0)) 2
 (List.append (D.rows (D.sub3 hc 0 (Int.toNat (↑(D.len hc) : Int))))
 (D.rows
 (D.slc (D.hd (hs_1 11 0)) 2
 [[D.int .i64 0, D.int .i64 (↑(D.len hb) : Int)]]))))))],
 .int .i64 (↑(D.len hb) : Int), .int .i64 0]))))))))))) := by kernel_rfl

theorem akR_in : exec Try.prog ctM 500 (entry Try.prog 50 [.agg [.dat ha, .dat hb, .dat hc], .int .i64 n]) =
 Tree.need (HiD.Right (HiD.mk ha hb hc))
 (.br (Prod.fst (checkH (HiD.hist (HiD.mk ha hb hc))) != 0)
 (.ret
 (SV.tup
 [.agg [.nils, .nils, .nils], .int .i64 (Prod.fst (checkH (HiD.hist (HiD.mk ha hb hc))))]))
 (.br (decide (n < 0)) (.ret (SV.tup [.agg [.nils, .nils, .nils], .int .i64 7]))
 (.br (decide (n ≥ (↑(D.len hb) : Int)))
 (.ret (SV.tup [.agg [.nils, .nils, .nils], .int .i64 7]))
 (.all fun hs =>
 .need (D.Is Ev hc ∧ D.len hc ≤ 1048576)
 (.br (decide (atEv (D.to Ev hc) (EvD.ev (EvD.mk 1 n)) ≥ 0))
 (.ret (SV.tup [.agg [.nils, .nils, .nils], .int .i64 8]))
 (.all fun hs =>
 .need
 (0 ≤ (↑0 : Int) ∧
 (↑0 : Int) ≤ (↑(D.len hc) : Int) ∧
 (↑(D.len hc) : Int) ≤ (↑(D.len hc) : Int) ∧
 (↑(D.len hc) : Int) = (↑(D.len hc) : Int) ∧ D.Fits hc 2)
 (.need
 (D.Tight (D.sub3 hc 0 (Int.toNat (↑(D.len hc) : Int))) ∧
 D.Fits (D.sub3 hc 0 (Int.toNat (↑(D.len hc) : Int))) 2 ∧
 D.Fits (D.slc (D.hd (hs 11 0)) 2 [[D.int .i64 1, D.int .i64 n]]) 2 ∧
 0 < D.len (D.slc (D.hd (hs 11 0)) 2 [[D.int .i64 1, D.int .i64 n]]) ∧
 (D.len (D.sub3 hc 0 (Int.toNat (↑(D.len hc) : Int))) +
 D.len (D.slc (D.hd (hs 11 0)) 2 [[D.int .i64 1, D.int .i64 n]])) *
 16 ≤
 140737488355328 ∧
 D.len (D.sub3 hc 0 (Int.toNat (↑(D.len hc) : Int))) +
 D.len (D.slc (D.hd (hs 11 0)) 2 [[D.int .i64 1, D.int .i64 n]]) ≤
 9223372036854775807)
 (.need
 (HiD.Right
 (HiD.mk ha hb
 (D.slc (D.hd (hs 12 0)) 2
 (List.append (D.rows (D.sub3 hc 0 (Int.toNat (↑(D.len hc) : Int))))
 (D.rows (D.slc (D.hd (hs 11 0)) 2 [[D.int .i64 1, D.int .i64 n]]))))))
 (.all fun hs_1 =>
 .ret
 (SV.tup
 [.agg
 [.dat (D.like (hs_1 0 0) (D.to Int ha)), .dat (D.like (hs_1 0 1) (D.to Wt hb)),
 .dat
 (D.like (hs_1 0 2)
 (D.to Ev
 (D.slc (D.hd (hs 12 0)) 2
 (List.append (D.rows (D.sub3 hc 0 (Int.toNat (↑(D.len hc) : Int))))
 (D.rows
 (D.slc (D.hd (hs 11 0)) 2
 [[D.int .i64 1, D.int .i64 n]]))))))],
 .int .i64 0])))))))))) := by kernel_rfl

theorem sm_in : exec Try.prog ((52, ctrOf ((rdD.two rdD).sp spInts)) :: (88, ctrOf ((rdD.two rdD).sp spWts)) :: (89, ctrOf ((rdD.two rdD).sp spEvs)) :: []) 300 (entry Try.prog 51 [.agg [.dat ha, .dat hb, .dat hc], .agg [.dat ga, .dat gb, .dat gc]]) =
 Tree.need (D.Is Int ha ∧ D.Is Int ga ∧ D.len ha ≤ 1048576)
 (.br (decide (D.to Int ha = D.to Int ga))
 (.need
 (D.Is Wt hb ∧
 D.Is Wt gb ∧ D.len hb ≤ 1048576 ∧ ∀ (w : Wt), List.Mem w (D.to Wt hb) → List.length (Wt.data w) ≤ 1048576)
 (.br (decide (D.to Wt hb = D.to Wt gb))
 (.need (D.Is Ev hc ∧ D.Is Ev gc ∧ D.len hc ≤ 1048576)
 (.ret (.bool (decide (D.to Ev hc = D.to Ev gc)))))
 (.ret (.lb false))))
 (.ret (.lb false))) := by kernel_rfl

end
end Go.Proofs.Ytodhhmjilnfecaa
end
section
namespace Sx
open Go
def atDst (c : Conf) : Option (FuncId × Nat) :=
  match c.top.ri with
  | some _ => none
  | none => match c.top.todo with
    | .code (.region _ ops _) :: _ => match ops[0]? with
      | some o => match o.dst with
        | some d => some (c.top.fn, d)
        | none => none
      | none => none
    | _ => none

def restsAt (l : List (FuncId × Nat)) (c : Conf) : Bool :=
  match atDst c with
  | some (f, d) => l.any fun x => x.1 == f && x.2 == d
  | none => false
def liveW (P : Program) (g : SFrm) : List Nat :=
  let out := (liveI (retN P g.fn) g.todo).1
  let live := match g.ri with
    | some (ops, l) => liveOps ops (l.filterMap fun i => ops[i]?) out
    | none => out
  match g.await with
  | some t => live.filter (· != t)
  | none => live
def fgtR (P : Program) (c : Conf) : Conf :=
  match c.rest with
  | [] => c
  | g :: r =>
    let n := 1000 * r.length
    let live := liveW P g
    if keptOk n live 0 g.tmps && c.mem.all (fun e => !e.2.jk n) && r.all (fun f => !SV.jkL n f.tmps) && !SV.jkL n c.top.tmps then
      { c with rest := { g with tmps := maskT n live 0 g.tmps } :: r }
    else c

theorem fgtR_sound {P : Program} {C : Ctx} {R : Value → World → Prop} {c : Conf} (h : Runs P C (fgtR P c) R) : Runs P C c R := by
  obtain ⟨top, rest, mem⟩ := c
  unfold fgtR at h
  simp only at h
  cases rest with
  | nil => exact h
  | cons g r =>
    simp only at h
    split at h
    · rename_i hc
      simp only [Bool.and_eq_true, Bool.not_eq_true'] at hc
      obtain ⟨⟨⟨h1, h2⟩, h3⟩, h4⟩ := hc
      intro E H w gd ok
      let n := 1000 * r.length
      let E' : Env := ⟨E.b, E.v, fun i => if i < n then E.j i else ((SV.denL E g.tmps)[i - n]?).getD Go.undef⟩
      have hs : Same n E E' := ⟨rfl, rfl, fun i hi => by simp [E', hi]⟩
      have hg := gd.same' hs (fun x hx => by have := List.all_eq_true.1 h2 x hx; simpa using this)
      have hr := h E' H w hg ⟨ok.1, fun f hf => by
        rcases List.mem_cons.1 hf with rfl | hf
        · exact maskT_ok _ _ _ (ok.2 g (by simp))
        · exact ok.2 f (by simp [hf])⟩
      have e1 : SV.denL E' (maskT n (liveW P g) 0 g.tmps) = SV.denL E g.tmps := by
        refine maskT_den hs _ _ 0 h1 (fun i v hv => ?_)
        simp only [E', Nat.zero_add]
        rw [if_neg (by omega), show n + i - n = i from by omega, SV.denL_eq, List.getElem?_map, hv]
        rfl
      have e2 : r.map (SFrm.den E') = r.map (SFrm.den E) := by
        apply List.map_congr_left
        intro f hf
        have := List.all_eq_true.1 h3 f hf
        simp only [Bool.not_eq_true'] at this
        simp [SFrm.den, denL_same hs _ this]
      have e3 : SFrm.den E' top = top.den E := by simp [SFrm.den, denL_same hs _ h4]
      have e4 : SFrm.den E' { g with tmps := maskT n (liveW P g) 0 g.tmps } = g.den E := by
        simp only [SFrm.den]; rw [e1]
      simp only [List.map_cons] at hr ⊢
      rw [e2, e3] at hr
      rw [show SFrm.den E' { g with tmps := maskT (1000 * r.length) (liveW P g) 0 g.tmps } = g.den E from e4] at hr
      exact hr
    · exact h
noncomputable def restC (P : Program) (c : Conf) : Tree := headC P (fgtR P c) leafR
noncomputable def execS (P : Program) (cs : Ctrs) (U : FuncId → Bool) (S : List (FuncId × Nat)) (n : Nat) : Conf → Tree :=
  Nat.rec (motive := fun _ => Conf → Tree) (fun _ => .stuck) (fun _ ih c => match restsAt S c with
    | true => restC P c
    | false => stepC P cs U ih c) n
noncomputable def goS (P : Program) (cs : Ctrs) (U : FuncId → Bool) (S : List (FuncId × Nat)) (n : Nat) (c : Conf) : Tree := stepC P cs U (execS P cs U S n) c

section
variable {P : Program} {C : Ctx} {R : Value → World → Prop} {cs : Ctrs}
theorem execS_sound (hcs : cs.Ok P) (U : FuncId → Bool) (S : List (FuncId × Nat)) : ∀ (n : Nat) (c : Conf), (execS P cs U S n c).holds P C R → Runs P C c R
  | 0, _, h => h.elim
  | n + 1, c, h => by
    have e : execS P cs U S (n + 1) c = match restsAt S c with
      | true => restC P c
      | false => stepC P cs U (execS P cs U S n) c := rfl
    rw [e] at h
    cases hr : restsAt S c with
    | true => rw [hr] at h; exact fgtR_sound (headR_sound h)
    | false => rw [hr] at h; exact step_sound (U := U) hcs (fun c h => execS_sound hcs U S n c h) c h
theorem goS_sound (hcs : cs.Ok P) (U : FuncId → Bool) (S : List (FuncId × Nat)) (n : Nat) (c : Conf) (h : (goS P cs U S n c).holds P C R) : Runs P C c R :=
  step_sound (U := U) hcs (fun c h => execS_sound hcs U S n c h) c h
end

/-! A cell that is known to be true. -/
def lbIn (b off : Nat) (c : Conf) : Option Conf :=
  match c.mem.get b with
  | some (.cells t cs) => match cs[off]? with
    | some (.bool true) => some ⟨c.top, c.rest, c.mem.set b (.cells t (cs.set off (.lb true)))⟩
    | _ => none
  | _ => none


end Sx
end
section
open Go Go.Proofs Sx
namespace Go.Proofs.Ytodhhmjilnfecaa
set_option maxRecDepth 100000
set_option maxHeartbeats 0
section
variable (n j k w : Int) (d e a b i o ha hb hc ga gb gc : D) (v s : Int)
theorem is2_in : goS Try.prog ctM (fun _ => false) [(83, 1), (83, 2), (83, 3), (83, 4), (83, 5), (83, 6)] 500 (entry Try.prog 41 [.agg [.dat ha, .dat hb, .dat hc], .agg [.int .i64 v, .int .i64 s, .dat e]]) =
 Tree.need (HiD.Right (HiD.mk ha hb hc))
 (.all fun hs =>
 .br (Prod.fst (checkH (HiD.hist (HiD.mk ha hb hc))) != 0)
 (.ret
 (SV.tup
 [.agg [.nils, .nils, .nils], .int .i64 0,
 .int .i64 (Prod.fst (checkH (HiD.hist (HiD.mk ha hb hc))))]))
 (.br (decide ((↑(D.len hb) : Int) ≥ 4096))
 (.ret (SV.tup [.agg [.nils, .nils, .nils], .int .i64 0, .int .i64 6]))
 (.need (D.Is Int ha ∧ D.len ha ≤ 1048576)
 (.all fun hs =>
 .need (ImgOk (D.like (hs 0 0) (imgOf (D.to Int ha))) ∧ WtD.Ok (WtD.mk v s e))
 (.br (fitsI (D.to Vol (D.like (hs 0 0) (imgOf (D.to Int ha)))) (WtD.wt (WtD.mk v s e)) != 0)
 (.ret
 (SV.tup
 [.agg [.nils, .nils, .nils], .int .i64 0,
 .int .i64
 (fitsI (D.to Vol (D.like (hs 0 0) (imgOf (D.to Int ha)))) (WtD.wt (WtD.mk v s e)))]))
 (.leaf
 (Conf.mk
 (SFrm.mk 83 none none [Item.code (cAt Try.prog 83 [0]), Item.code (cAt Try.prog 83 [1])]
 (mkJ 1 [(0, .agg [.dat ha, .dat hb, .dat hc])] 0 32))
 [SFrm.mk 41 (some (opsAt Try.prog 41 [1, 1, 1, 1, 1, 1, 0], [2, 3])) (some 45)
 [Item.code (cAt Try.prog 41 [1, 1, 1, 1, 1, 1, 1])]
 (mkJ 0 [(3, .ptr 0 0), (4, .ptr 1 0), (12, .int .i64 (↑(D.len hb) : Int))] 0 65)]
 [(0, OBlk.cells 31 [.int .i64 v, .int .i64 s, .dat e]),
 (1, OBlk.cells 26 [.nils, .nils, .nils])]))))))) := by kernel_rfl

end
end Go.Proofs.Ytodhhmjilnfecaa
end
section
open Go Go.Proofs Sx
namespace Go.Proofs.Ytodhhmjilnfecaa
set_option maxRecDepth 100000
set_option maxHeartbeats 0
noncomputable def isF (n : Int) : SFrm := SFrm.mk 41 (some (opsAt Try.prog 41 [1, 1, 1, 1, 1, 1, 0], [2, 3])) (some 45) [Item.code (cAt Try.prog 41 [1, 1, 1, 1, 1, 1, 1])] (mkJ 0 [(3, .ptr 0 0), (4, .ptr 1 0), (12, .int .i64 n)] 0 65)
noncomputable def isE (ha hb hc : D) (v s : Int) (e : D) : Conf := Conf.mk (SFrm.mk 83 none none [Item.code (cAt Try.prog 83 [0]), Item.code (cAt Try.prog 83 [1])] (mkJ 1 [(0, .agg [.dat ha, .dat hb, .dat hc])] 0 32)) [isF hb.len]
 [(0, .cells 31 [.int .i64 v, .int .i64 s, .dat e]), (1, .cells 26 [.nils, .nils, .nils])]
section
variable (n j k w : Int) (d e a b i o ha hb hc ga gb gc : D) (v s : Int)
theorem isE_in : exec Try.prog ctK 400 (isE ha hb hc v s e) =
 Tree.all fun hs =>
 .need (D.Is Int ha ∧ D.len ha ≤ 1048576)
 (.need (D.Is Ev hc ∧ D.len hc ≤ 1048576)
 (.leaf
 (Conf.mk
 (SFrm.mk 83 none none
 [Item.inLoop (cAt Try.prog 83 [1, 1, 0, 1, 0, 0]), Item.inBlock 0, Item.code (cAt Try.prog 83 [1, 1, 1])]
 (mkJ 1
 [(2, .ptr 0 0), (3, .ptr 1 0), (14, .dat hb), (15, .int .i64 (↑(D.len hb) : Int)),
 (16, .int .i64 0)]
 0 32))
 [SFrm.mk 41 (some (opsAt Try.prog 41 [1, 1, 1, 1, 1, 1, 0], [2, 3])) (some 45)
 [Item.code (cAt Try.prog 41 [1, 1, 1, 1, 1, 1, 1])]
 (mkJ 0 [(3, .ptr 2 0), (4, .ptr 3 0), (12, .int .i64 (↑(D.len hb) : Int))] 0 65)]
 [(0, OBlk.cells 26 [.nils, .nils, .nils]), (1, OBlk.cells 26 [.vec 4, .nils, .vec 5]),
 (2, OBlk.cells 31 [.int .i64 v, .int .i64 s, .dat e]),
 (3, OBlk.cells 26 [.nils, .nils, .nils]), (4, OBlk.arr 3 (D.slc (D.hd (hs 2 0)) 1 (D.rows ha))),
 (5, OBlk.arr 108 (D.slc (D.hd (hs 5 0)) 2 (D.rows hc)))]))) := by kernel_rfl

end
end Go.Proofs.Ytodhhmjilnfecaa
end
section
open Go Go.Proofs Sx
namespace Go.Proofs.Ytodhhmjilnfecaa
set_option maxRecDepth 100000
set_option maxHeartbeats 0
noncomputable def cpT (hb : D) (j : Int) : SFrm := SFrm.mk 83 none none [Item.inLoop (cAt Try.prog 83 [1, 1, 0, 1, 0, 0]), Item.inBlock 0, Item.code (cAt Try.prog 83 [1, 1, 1])] (mkJ 1 [(2, .ptr 0 0), (3, .ptr 1 0), (14, .dat hb), (15, .int .i64 hb.len), (16, .int .i64 j)] 0 32)
noncomputable def isL (hb p q r : D) (v s : Int) (e : D) (j : Int) : Conf := Conf.mk (cpT hb j) [SFrm.mk 41 (some (opsAt Try.prog 41 [1, 1, 1, 1, 1, 1, 0], [2, 3])) (some 45) [Item.code (cAt Try.prog 41 [1, 1, 1, 1, 1, 1, 1])] (mkJ 0 [(3, .ptr 2 0), (4, .ptr 3 0), (12, .int .i64 hb.len)] 0 65)]
 [(0, .cells 26 [.nils, .nils, .nils]), (1, .cells 26 [.vec 4, .vec 5, .vec 6]), (2, .cells 31 [.int .i64 v, .int .i64 s, .dat e]), (3, .cells 26 [.nils, .nils, .nils]), (4, .arr 3 p), (5, .arr 31 q), (6, .arr 108 r)]
section
variable (n j k w : Int) (d e a b i o ha hb hc ga gb gc p q r : D) (v s : Int)
theorem isL_go : exec Try.prog ctK 500 (unroll (isL hb p q r v s e j)) =
 Tree.br (decide (j < (↑(D.len hb) : Int)))
 (.need (0 ≤ j ∧ j < (↑(D.len hb) : Int) ∧ D.sz hb = 3)
 (.need (D.HasCells hb (Int.toNat j) 0 [FT.int .i64, FT.int .i64, FT.slc])
 (.need (D.Is Sec (D.cell hb (Int.toNat j) 2) ∧ D.len (D.cell hb (Int.toNat j) 2) ≤ 1048576)
 (.all fun hs =>
 .all fun hs_1 =>
 .need
 (D.sz q = 3 ∧
 D.Fits
 (D.slc (D.hd (hs_1 0 0)) 3
 [[D.int .i64 (D.getInt hb (Int.toNat j) 0),
 D.int .i64 (D.getInt hb (Int.toNat j) 1),
 D.slc (D.hd (hs 0 0)) 8 (D.rows (D.cell hb (Int.toNat j) 2))]])
 3 ∧
 (D.len q +
 D.len
 (D.slc (D.hd (hs_1 0 0)) 3
 [[D.int .i64 (D.getInt hb (Int.toNat j) 0),
 D.int .i64 (D.getInt hb (Int.toNat j) 1),
 D.slc (D.hd (hs 0 0)) 8 (D.rows (D.cell hb (Int.toNat j) 2))]])) *
 40 ≤
 140737488355328 ∧
 D.len q +
 D.len
 (D.slc (D.hd (hs_1 0 0)) 3
 [[D.int .i64 (D.getInt hb (Int.toNat j) 0),
 D.int .i64 (D.getInt hb (Int.toNat j) 1),
 D.slc (D.hd (hs 0 0)) 8 (D.rows (D.cell hb (Int.toNat j) 2))]]) ≤
 9223372036854775807)
 (.all fun hs_2 =>
 .leaf
 (Conf.mk
 (SFrm.mk 83 none none
 [Item.inLoop (cAt Try.prog 83 [1, 1, 0, 1, 0, 0]), Item.inBlock 0,
 Item.code (cAt Try.prog 83 [1, 1, 1])]
 (mkJ 1
 [(2, .ptr 0 0), (3, .ptr 1 0), (14, .dat hb),
 (15, .int .i64 (↑(D.len hb) : Int)),
 (16, .int .i64 (IntKind.wrap .i64 (j + 1)))]
 0 32))
 [SFrm.mk 41 (some (opsAt Try.prog 41 [1, 1, 1, 1, 1, 1, 0], [2, 3])) (some 45)
 [Item.code (cAt Try.prog 41 [1, 1, 1, 1, 1, 1, 1])]
 (mkJ 0 [(3, .ptr 2 0), (4, .ptr 3 0), (12, .int .i64 (↑(D.len hb) : Int))] 0 65)]
 [(0, OBlk.cells 26 [.nils, .nils, .nils]), (1, OBlk.cells 26 [.vec 4, .vec 5, .vec 6]),
 (2, OBlk.cells 31 [.int .i64 v, .int .i64 s, .dat e]),
 (3, OBlk.cells 26 [.nils, .nils, .nils]), (4, OBlk.arr 3 p),
 (5,
 OBlk.arr 31
 (D.slc (D.hd (hs_2 0 0)) 3
 (List.append (D.rows q)
 (D.rows
 (D.slc (D.hd (hs_1 0 0)) 3
 [[D.int .i64 (D.getInt hb (Int.toNat j) 0),
 D.int .i64 (D.getInt hb (Int.toNat j) 1),
 D.slc (D.hd (hs 0 0)) 8 (D.rows (D.cell hb (Int.toNat j) 2))]]))))),
 (6, OBlk.arr 108 r)]))))))
 (.need (D.Is Sec e ∧ D.len e ≤ 1048576)
 (.all fun hs =>
 .all fun hs_1 =>
 .need
 (D.sz q = 3 ∧
 D.Fits
 (D.slc (D.hd (hs_1 0 0)) 3
 [[D.int .i64 v, D.int .i64 s, D.slc (D.hd (hs 0 0)) 8 (D.rows e)]])
 3 ∧
 (D.len q +
 D.len
 (D.slc (D.hd (hs_1 0 0)) 3
 [[D.int .i64 v, D.int .i64 s, D.slc (D.hd (hs 0 0)) 8 (D.rows e)]])) *
 40 ≤
 140737488355328 ∧
 D.len q +
 D.len
 (D.slc (D.hd (hs_1 0 0)) 3
 [[D.int .i64 v, D.int .i64 s, D.slc (D.hd (hs 0 0)) 8 (D.rows e)]]) ≤
 9223372036854775807)
 (.all fun hs_2 =>
 .all fun hs_3 =>
 .need
 (D.sz r = 2 ∧
 D.Fits (D.slc (D.hd (hs_3 0 0)) 2 [[D.int .i64 0, D.int .i64 (↑(D.len hb) : Int)]]) 2 ∧
 (D.len r +
 D.len
 (D.slc (D.hd (hs_3 0 0)) 2
 [[D.int .i64 0, D.int .i64 (↑(D.len hb) : Int)]])) *
 16 ≤
 140737488355328 ∧
 D.len r +
 D.len
 (D.slc (D.hd (hs_3 0 0)) 2 [[D.int .i64 0, D.int .i64 (↑(D.len hb) : Int)]]) ≤
 9223372036854775807)
 (.all fun hs_4 =>
 .ret
 (SV.tup
 [.agg
 [.dat p,
 .dat
 (D.slc (D.hd (hs_2 0 0)) 3
 (List.append (D.rows q)
 (D.rows
 (D.slc (D.hd (hs_1 0 0)) 3
 [[D.int .i64 v, D.int .i64 s,
 D.slc (D.hd (hs 0 0)) 8 (D.rows e)]])))),
 .dat
 (D.slc (D.hd (hs_4 0 0)) 2
 (List.append (D.rows r)
 (D.rows
 (D.slc (D.hd (hs_3 0 0)) 2
 [[D.int .i64 0, D.int .i64 (↑(D.len hb) : Int)]]))))],
 .int .i64 (↑(D.len hb) : Int), .int .i64 0]))))) := by kernel_rfl

end
end Go.Proofs.Ytodhhmjilnfecaa
end
section
open Go Go.Proofs Sx
namespace Go.Proofs.Ytodhhmjilnfecaa
set_option maxRecDepth 100000

theorem ctMOk : Ctrs.Ok Try.prog ctM := by
  intro x hx
  simp only [ctM, List.mem_cons, List.mem_append] at hx
  rcases hx with rfl | rfl | rfl | hx | hx | hx
  · exact ctrOf_ok lawCk
  · exact ctrOf_ok lawCkR
  · exact ctrOf_ok lawCopyR
  · exact ctKOk _ hx
  · exact ctC1Ok _ hx
  · exact ctC2Ok _ hx

theorem lawNewH : Law Try.prog 60 (rdD.one.sp spNewH) := by
  refine law_in _ (by kernel_rfl) fun H w d hok hp => ?_
  obtain ⟨hd, hlen⟩ := hp _ (List.mem_singleton.2 rfl)
  apply exec_sound ctMOk 300
  rw [show rdD.one.canon d = [.dat d] from rfl, nw_in]
  refine ⟨⟨hd, hlen⟩, fun hs => ⟨fun h => ?_, fun h => ⟨⟨hd, hlen⟩, fun hs1 => ?_⟩⟩⟩
  · have h : sizesErr (d.to Int) ≠ 0 := by simpa using h
    exact ret_hiI (s := []) (ws := []) (es := []) stands_nils stands_nils stands_nils (by unfold newH; rw [if_pos h]; rfl) (by unfold newH; rw [if_pos h])
  · have h : ¬(sizesErr (d.to Int) ≠ 0) := by simpa using h
    obtain ⟨x1, x2⟩ := slc_same hd (D.hd (hs1 0 0)) (s := 1) rfl
    exact ret_hiI (stands_dat x1 x2) stands_nils stands_nils (by unfold newH; rw [if_neg h]) (by unfold newH; rw [if_neg h])
theorem lawNewHR : Law Try.prog 64 (rdD.one.sp spNewH) := by
  refine law_in _ (by kernel_rfl) fun H w d hok hp => ?_
  obtain ⟨hd, hlen⟩ := hp _ (List.mem_singleton.2 rfl)
  apply exec_sound ctMOk 300
  rw [show rdD.one.canon d = [.dat d] from rfl, nwR_in]
  refine ⟨⟨hd, hlen⟩, fun h => ?_, fun h => ⟨⟨hd.fits, by omega, by omega⟩, fun hs1 => ?_⟩⟩
  · have h : sizesErr (d.to Int) ≠ 0 := by simpa using h
    exact ret_hiI (s := []) (ws := []) (es := []) stands_nils stands_nils stands_nils (by unfold newH; rw [if_pos h]; rfl) (by unfold newH; rw [if_pos h])
  · have h : ¬(sizesErr (d.to Int) ≠ 0) := by simpa using h
    obtain ⟨x1, x2⟩ := slc_same hd (D.hd (hs1 0 0)) (s := 1) rfl
    exact ret_hiI (stands_dat x1 x2) stands_nils stands_nils (by unfold newH; rw [if_neg h]) (by unfold newH; rw [if_neg h])
theorem lawChkH : Law Try.prog 76 (rdHi.one.sp spCkI) := by
  refine law_in _ (by kernel_rfl) fun H w ⟨ha, hb, hc⟩ hok hp => ?_
  apply exec_sound ctMOk 300
  rw [show rdHi.one.canon ⟨ha, hb, hc⟩ = [.agg [.dat ha, .dat hb, .dat hc]] from rfl, chk1_in]
  exact ⟨hp _ (List.mem_singleton.2 rfl), fun hs => ret_int rfl⟩

theorem isE_run {H : HV} {w : World} {ha hb hc e : D} {v s : Int} (hR : (HiD.mk ha hb hc).Right) (hb2 : hb.len ≤ 4096) (he : WtD.Ok ⟨v, s, e⟩) :
    Runs Try.prog ⟨w, H⟩ (isE ha hb hc v s e) (RetD w H fun ds => .tup [hiSV ds ⟨ha.to Int, hb.to Wt ++ ([⟨v, s, e.to Sec⟩] : List Wt), hc.to Ev ++ ([⟨0, (hb.to Wt).length⟩] : List Ev)⟩, .int .i64 (hb.to Wt).length, .int .i64 0]) := by
  obtain ⟨ra, rb, rc, la, lb, lc, rd⟩ := id hR
  simp only at ra rb rc la lb lc rd
  have bl := D.Is.length (α := Wt) hb
  have el := D.Is.length (α := Ev) hc
  apply exec_sound ctKOk 400
  rw [isE_in]
  refine fun hs => ⟨⟨ra, la⟩, ⟨rc, lc⟩, ?_⟩
  obtain ⟨p1, p2⟩ := slc_same ra (D.hd (hs 2 0)) (s := 1) rfl
  obtain ⟨r1, r2⟩ := slc_same rc (D.hd (hs 5 0)) (s := 2) rfl
  refine vecIn_to 9 31 3 (some 1) 1 (isL hb (D.slc (D.hd (hs 2 0)) 1 (D.rows ha)) (.slc none 3 []) (D.slc (D.hd (hs 5 0)) 2 (D.rows hc)) v s e 0) (by kernel_rfl) ?_
  have rsz : (D.slc (D.hd (hs 5 0)) 2 (D.rows hc)).sz = 2 := rfl
  generalize D.slc (D.hd (hs 2 0)) 1 (D.rows ha) = p at p1 p2
  generalize D.slc (D.hd (hs 5 0)) 2 (D.rows hc) = r at r1 r2 rsz
  have rl := D.Is.length (α := Ev) r
  rw [r2] at rl
  refine runs_loop (fun q : D × Nat => isL hb p q.1 r v s e q.2) (fun q => q.2 ≤ (hb.to Wt).length ∧ q.1.Is Wt ∧ q.1.sz = 3 ∧ q.1.to Wt = (hb.to Wt).take q.2) (fun q => (hb.to Wt).length - q.2) (fun _ => rfl) ?_ (.slc none 3 [], 0) ⟨Nat.zero_le _, is_nil _ _, rfl, rfl⟩
  intro ⟨q, j⟩ ⟨hj, hq, hz, hto⟩ ih
  simp only at hj hq hz hto
  have ql := D.Is.length (α := Wt) q
  rw [hto, List.length_take] at ql
  show Runs Try.prog ⟨w, H⟩ (unroll (isL hb p q r v s e j)) _
  apply exec_sound ctKOk 500
  rw [isL_go]
  refine ⟨fun hcj => ?_, fun hcj => ?_⟩
  · have hcj : j < (hb.to Wt).length := by have := of_decide_eq_true hcj; omega
    obtain ⟨c1, c2, c3⟩ := wt_cell rb hcj
    have hwd := rd _ (List.getElem_mem hcj)
    rw [c3] at hwd
    refine ⟨⟨by omega, by omega, rb.size hcj⟩, c1, ⟨c2, by rw [D.Is.length (α := Sec)]; exact hwd⟩, fun hs1 hs2 => ⟨⟨hz, .inr rfl, by simp only [len_slc, List.length_cons, List.length_nil]; omega, by simp only [len_slc, List.length_cons, List.length_nil]; omega⟩, fun hs3 => ?_⟩⟩
    obtain ⟨x1, x2⟩ := slc_same c2 (D.hd (hs1 0 0)) (s := 8) rfl
    have hr := rows_app (rows_of hq) (wt_one (hb.getInt j 0) (hb.getInt j 1) x1)
    obtain ⟨i1, i2⟩ := is_of (h := D.hd (hs3 0 0)) (s := 3) rfl hr
    have := ih (_, j + 1) ⟨hcj, i1, rfl, i2.trans (by rw [hto, List.take_succ_eq_append_getElem hcj, c3, x2])⟩ (by simp only; omega)
    simp only at this
    rw [← wrap_succ hcj (by omega)] at this
    exact this
  · have : j = (hb.to Wt).length := by have := of_decide_eq_false hcj; omega
    subst this
    rw [List.take_length] at hto
    refine ⟨he, fun hs1 hs2 => ⟨⟨hz, .inr rfl, by simp only [len_slc, List.length_cons, List.length_nil]; omega, by simp only [len_slc, List.length_cons, List.length_nil]; omega⟩, fun hs3 hs4 => ⟨⟨rsz, .inr rfl, by simp only [len_slc, List.length_cons, List.length_nil]; omega, by simp only [len_slc, List.length_cons, List.length_nil]; omega⟩, fun hs5 => ?_⟩⟩⟩
    obtain ⟨x1, x2⟩ := slc_same he.1 (D.hd (hs1 0 0)) (s := 8) rfl
    obtain ⟨i1, i2⟩ := is_of (h := D.hd (hs3 0 0)) (s := 3) rfl (rows_app (rows_of hq) (wt_one v s x1))
    obtain ⟨k1, k2⟩ := is_of (h := D.hd (hs5 0 0)) (s := 2) rfl (rows_app (rows_of r1) (ev_one 0 (hb.len : Int)))
    rw [hto, x2] at i2
    rw [r2, bl] at k2
    rw [bl] at k1
    rw [bl]
    exact ret_hiII (stands_dat p1 p2) (stands_dat i1 i2) (stands_dat k1 k2) rfl rfl rfl

theorem lawIssue : Law Try.prog 41 ((rdHi.two rdWt).sp spIssueH) := by
  refine law_in _ (by kernel_rfl) fun H w ⟨⟨ha, hb, hc⟩, ⟨v, s, e⟩⟩ hok hp => ?_
  obtain ⟨hR, hce, he⟩ := hp _ (List.mem_singleton.2 rfl)
  have hR : (HiD.mk ha hb hc).Right := hR
  have he : WtD.Ok ⟨v, s, e⟩ := he
  obtain ⟨ra, rb, rc, la, lb, lc, rd⟩ := id hR
  simp only at ra rb rc la lb lc rd hce
  have al := D.Is.length (α := Int) ha
  have bl := D.Is.length (α := Wt) hb
  apply goS_sound ctMOk
  rw [show (rdHi.two rdWt).canon (⟨ha, hb, hc⟩, ⟨v, s, e⟩) = [.agg [.dat ha, .dat hb, .dat hc], .agg [.int .i64 v, .int .i64 s, .dat e]] from rfl, is2_in]
  have ni : ∀ {k : Int}, issueH (HiD.mk ha hb hc).hist (WtD.wt ⟨v, s, e⟩) = (zHist, 0, k) → (Tree.ret (.tup [.agg [.nils, .nils, .nils], .int .i64 0, .int .i64 k])).holds Try.prog ⟨w, H⟩
      (RetD w H fun ds => .tup [hiSV ds (issueH (HiD.mk ha hb hc).hist (WtD.wt ⟨v, s, e⟩)).1, .int .i64 (issueH (HiD.mk ha hb hc).hist (WtD.wt ⟨v, s, e⟩)).2.1, .int .i64 (issueH (HiD.mk ha hb hc).hist (WtD.wt ⟨v, s, e⟩)).2.2]) := fun h => by
    rw [h]; exact ret_hiII (s := []) (ws := []) (es := []) stands_nils stands_nils stands_nils rfl rfl rfl
  refine ⟨hR, fun hs => ⟨fun h => ni ?_, fun h => ⟨fun h2 => ni ?_, fun h2 => ?_⟩⟩⟩
  · exact issueH_e1 (by simpa using h)
  · have h1 : ¬((checkH (HiD.mk ha hb hc).hist).1 ≠ 0) := by simpa using h
    have := of_decide_eq_true h2
    exact issueH_e2 h1 (by show (hb.to Wt).length ≥ 4096; omega)
  have h1 : ¬((checkH (HiD.mk ha hb hc).hist).1 ≠ 0) := by simpa using h
  have h2' : ¬(HiD.mk ha hb hc).hist.writes.length ≥ 4096 := by have := of_decide_eq_false h2; show ¬(hb.to Wt).length ≥ 4096; omega
  have h0 : sizesErr (ha.to Int) = 0 := (checkH_ok (h := (HiD.mk ha hb hc).hist) (by simpa using h1)).2.2.1
  refine ⟨⟨ra, la⟩, fun hs1 => ?_⟩
  simp only
  have im : ImgOk ((hs1 0 0).like (imgOf (ha.to Int))) := img_ok h0 _
  rw [D.like_to, fitsI_img h0]
  refine ⟨⟨im, he⟩, fun h3 => ni ?_, fun h3 => ?_⟩
  · have h3' : fitsErr (ha.to Int) (WtD.wt ⟨v, s, e⟩) ≠ 0 := by simpa using h3
    exact issueH_e3 h1 h2' h3'
  · have h3' : ¬(fitsErr (ha.to Int) (WtD.wt ⟨v, s, e⟩) ≠ 0) := by simpa using h3
    rw [issueH_ok h1 h2' h3']
    have h2l : hb.len ≤ 4096 := by have := of_decide_eq_false h2; omega
    exact isE_run hR h2l he

theorem lawIssueR : Law Try.prog 42 ((rdHi.two rdWt).sp spIssueH) := by
  refine law_in _ (by kernel_rfl) fun H w ⟨⟨ha, hb, hc⟩, ⟨v, s, e⟩⟩ hok hp => ?_
  obtain ⟨hR, hce, he⟩ := hp _ (List.mem_singleton.2 rfl)
  have hR : (HiD.mk ha hb hc).Right := hR
  have he : WtD.Ok ⟨v, s, e⟩ := he
  obtain ⟨ra, rb, rc, la, lb, lc, rd⟩ := id hR
  simp only at ra rb rc la lb lc rd hce
  have al := D.Is.length (α := Int) ha
  have bl := D.Is.length (α := Wt) hb
  have el := D.Is.length (α := Ev) hc
  apply exec_sound ctMOk 500
  rw [show (rdHi.two rdWt).canon (⟨ha, hb, hc⟩, ⟨v, s, e⟩) = [.agg [.dat ha, .dat hb, .dat hc], .agg [.int .i64 v, .int .i64 s, .dat e]] from rfl, isR_in]
  have ni : ∀ {k : Int}, issueH (HiD.mk ha hb hc).hist (WtD.wt ⟨v, s, e⟩) = (zHist, 0, k) → (Tree.ret (.tup [.agg [.nils, .nils, .nils], .int .i64 0, .int .i64 k])).holds Try.prog ⟨w, H⟩
      (RetD w H fun ds => .tup [hiSV ds (issueH (HiD.mk ha hb hc).hist (WtD.wt ⟨v, s, e⟩)).1, .int .i64 (issueH (HiD.mk ha hb hc).hist (WtD.wt ⟨v, s, e⟩)).2.1, .int .i64 (issueH (HiD.mk ha hb hc).hist (WtD.wt ⟨v, s, e⟩)).2.2]) := fun h => by
    rw [h]; exact ret_hiII (s := []) (ws := []) (es := []) stands_nils stands_nils stands_nils rfl rfl rfl
  refine ⟨hR, fun h => ni ?_, fun h => ⟨fun h2 => ni ?_, fun h2 => ?_⟩⟩
  · exact issueH_e1 (by simpa using h)
  · have h1 : ¬((checkH (HiD.mk ha hb hc).hist).1 ≠ 0) := by simpa using h
    have := of_decide_eq_true h2
    exact issueH_e2 h1 (by show (hb.to Wt).length ≥ 4096; omega)
  have h1 : ¬((checkH (HiD.mk ha hb hc).hist).1 ≠ 0) := by simpa using h
  have h2' : ¬(HiD.mk ha hb hc).hist.writes.length ≥ 4096 := by have := of_decide_eq_false h2; show ¬(hb.to Wt).length ≥ 4096; omega
  have h2l : ¬hb.len ≥ 4096 := by have := of_decide_eq_false h2; omega
  have h0 : sizesErr (ha.to Int) = 0 := (checkH_ok (h := (HiD.mk ha hb hc).hist) (by simpa using h1)).2.2.1
  refine ⟨⟨ra, la, (sizesErr_ok h0).2.2, he⟩, fun h3 => ni ?_, fun h3 hs => ?_⟩
  · have h3' : fitsErr (ha.to Int) (WtD.wt ⟨v, s, e⟩) ≠ 0 := by simpa using h3
    exact issueH_e3 h1 h2' h3'
  · have h3' : ¬(fitsErr (ha.to Int) (WtD.wt ⟨v, s, e⟩) ≠ 0) := by simpa using h3
    rw [issueH_ok h1 h2' h3']
    obtain ⟨t1, t2, t3, t4⟩ := sub3_all rb
    obtain ⟨u1, u2, u3, u4⟩ := sub3_all rc
    obtain ⟨i1, i2⟩ := is_of (h := D.hd (hs 7 0)) (s := 3) rfl (rows_app (rows_of t2) (wt_one v s he.1))
    rw [t3] at i2
    refine ⟨⟨by omega, by omega, by omega, rfl, rb.fits⟩, ⟨t1, t2.fits, .inr rfl, by simp only [len_slc, List.length_cons, List.length_nil]; omega, by rw [t4]; simp only [len_slc, List.length_cons, List.length_nil]; omega, by rw [t4]; simp only [len_slc, List.length_cons, List.length_nil]; omega⟩, fun hs1 => ?_⟩
    obtain ⟨k1, k2⟩ := is_of (h := D.hd (hs1 12 0)) (s := 2) rfl (rows_app (rows_of u2) (ev_one 0 (hb.len : Int)))
    rw [u3] at k2
    refine ⟨⟨by omega, by omega, by omega, rfl, rc.fits⟩, ⟨u1, u2.fits, .inr rfl, by simp only [len_slc, List.length_cons, List.length_nil]; omega, by rw [u4]; simp only [len_slc, List.length_cons, List.length_nil]; omega, by rw [u4]; simp only [len_slc, List.length_cons, List.length_nil]; omega⟩, ?_, fun hs2 => ?_⟩
    · have i2' : D.to Wt (D.slc (D.hd (hs 7 0)) 3 (List.append (D.rows (hb.sub3 0 (Int.toNat (hb.len : Int)))) (D.rows (D.slc (D.hd (hs 6 0)) 3 [[D.int IntKind.i64 v, D.int IntKind.i64 s, e]])))) = hb.to Wt ++ [WtD.wt ⟨v, s, e⟩] := i2
      have k2' : D.to Ev (D.slc (D.hd (hs1 12 0)) 2 (List.append (D.rows (hc.sub3 0 (Int.toNat (hc.len : Int)))) (D.rows (D.slc (D.hd (hs1 11 0)) 2 [[D.int IntKind.i64 0, D.int IntKind.i64 (hb.len : Int)]])))) = hc.to Ev ++ [⟨0, (hb.len : Int)⟩] := k2
      refine ⟨ra, i1, k1, la, ?_, ?_, fun x hx => ?_⟩
      · simp only
        rw [D.Is.length (α := Wt), i2']; simp only [List.length_append, List.length_cons, List.length_nil]; omega
      · simp only
        rw [D.Is.length (α := Ev), k2']; simp only [List.length_append, List.length_cons, List.length_nil]; omega
      · simp only at hx
        rw [i2'] at hx
        rcases List.mem_append.1 hx with hx | hx
        · exact rd x hx
        · rw [List.mem_singleton.1 hx]; have := he.2; rw [D.Is.length (α := Sec)] at this; exact this
    · have k2' : D.to Ev (D.slc (D.hd (hs1 12 0)) 2 (List.append (D.rows (hc.sub3 0 (Int.toNat (hc.len : Int)))) (D.rows (D.slc (D.hd (hs1 11 0)) 2 [[D.int IntKind.i64 0, D.int IntKind.i64 (hb.len : Int)]])))) = hc.to Ev ++ ([⟨0, ((hb.to Wt).length : Int)⟩] : List Ev) := by
        rw [← bl]; exact k2
      exact ret_hiII stands_like stands_like stands_like (congr (congrArg (Hist.mk (ha.to Int)) i2.symm) k2'.symm) (by rw [bl]; rfl) rfl

theorem lawAckR : Law Try.prog 50 ((rdHi.two rdInt).sp spAckH) := by
  refine law_in _ (by kernel_rfl) fun H w ⟨⟨ha, hb, hc⟩, n⟩ hok hp => ?_
  obtain ⟨hR, hce⟩ := hp _ (List.mem_singleton.2 rfl)
  have hR : (HiD.mk ha hb hc).Right := hR
  obtain ⟨ra, rb, rc, la, lb, lc, rd⟩ := id hR
  simp only at ra rb rc la lb lc rd hce
  have bl := D.Is.length (α := Wt) hb
  have el := D.Is.length (α := Ev) hc
  apply exec_sound ctMOk 500
  rw [show (rdHi.two rdInt).canon (⟨ha, hb, hc⟩, n) = [.agg [.dat ha, .dat hb, .dat hc], .int .i64 n] from rfl, akR_in]
  have ni : ∀ {k : Int}, ackH (HiD.mk ha hb hc).hist n = (zHist, k) → (Tree.ret (.tup [.agg [.nils, .nils, .nils], .int .i64 k])).holds Try.prog ⟨w, H⟩
      (RetD w H fun ds => .tup [hiSV ds (ackH (HiD.mk ha hb hc).hist n).1, .int .i64 (ackH (HiD.mk ha hb hc).hist n).2]) := fun h => by
    rw [h]; exact ret_hiI (s := []) (ws := []) (es := []) stands_nils stands_nils stands_nils rfl rfl
  have n7 : ¬((checkH (HiD.mk ha hb hc).hist).1 ≠ 0) → (n < 0 ∨ n ≥ ((hb.to Wt).length : Int)) → ackH (HiD.mk ha hb hc).hist n = (zHist, 7) := fun h1 h2 => ackH_e7 h1 h2
  refine ⟨hR, fun h => ni ?_, fun h => ⟨fun h2 => ni (n7 (by simpa using h) (.inl (of_decide_eq_true h2))), fun h2 => ⟨fun h3 => ni (n7 (by simpa using h) (.inr (by have := of_decide_eq_true h3; omega))), fun h3 hs => ?_⟩⟩⟩
  · exact ackH_e1 (by simpa using h)
  have h1 : ¬((checkH (HiD.mk ha hb hc).hist).1 ≠ 0) := by simpa using h
  have h2' := of_decide_eq_false h2
  have h3' := of_decide_eq_false h3
  have hn : ¬(n < 0 ∨ n ≥ ((hb.to Wt).length : Int)) := by omega
  refine ⟨⟨rc, lc⟩, fun h4 => ni ?_, fun h4 hs => ?_⟩
  · exact ackH_e8 h1 hn (of_decide_eq_true h4)
  · rw [ackH_ok h1 hn (of_decide_eq_false h4)]
    obtain ⟨u1, u2, u3, u4⟩ := sub3_all rc
    obtain ⟨k1, k2⟩ := is_of (h := D.hd (hs 12 0)) (s := 2) rfl (rows_app (rows_of u2) (ev_one 1 n))
    rw [u3] at k2
    refine ⟨⟨by omega, by omega, by omega, rfl, rc.fits⟩, ⟨u1, u2.fits, .inr rfl, by simp only [len_slc, List.length_cons, List.length_nil]; omega, by rw [u4]; simp only [len_slc, List.length_cons, List.length_nil]; omega, by rw [u4]; simp only [len_slc, List.length_cons, List.length_nil]; omega⟩, ?_, fun hs2 => ?_⟩
    · have k2' : D.to Ev (D.slc (D.hd (hs 12 0)) 2 (List.append (D.rows (hc.sub3 0 (Int.toNat (hc.len : Int)))) (D.rows (D.slc (D.hd (hs 11 0)) 2 [[D.int IntKind.i64 1, D.int IntKind.i64 n]])))) = hc.to Ev ++ [⟨1, n⟩] := k2
      refine ⟨ra, rb, k1, la, lb, ?_, rd⟩
      simp only
      rw [D.Is.length (α := Ev), k2']; simp only [List.length_append, List.length_cons, List.length_nil]; omega
    · exact ret_hiI stands_like stands_like stands_like (congrArg (Hist.mk (ha.to Int) (hb.to Wt)) k2.symm) rfl

theorem lawSameH : Law Try.prog 51 ((rdHi.two rdHi).sp spSameH) := by
  refine law_in _ (by kernel_rfl) fun H w ⟨⟨ha, hb, hc⟩, ⟨ga, gb, gc⟩⟩ hok hp => ?_
  obtain ⟨⟨ra, rb, rc, la, lb, lc, rd⟩, sa, sb, sc⟩ := hp _ (List.mem_singleton.2 rfl)
  simp only at ra rb rc la lb lc rd sa sb sc
  have cs : Ctrs.Ok Try.prog ((52, ctrOf ((rdD.two rdD).sp spInts)) :: (88, ctrOf ((rdD.two rdD).sp spWts)) :: (89, ctrOf ((rdD.two rdD).sp spEvs)) :: []) := by
    intro x hx
    simp only [List.mem_cons, List.not_mem_nil, or_false] at hx
    rcases hx with rfl | rfl | rfl
    · exact ctrOf_ok lawInts
    · exact ctrOf_ok lawWts
    · exact ctrOf_ok lawEvs
  have ed : decide ((HiD.mk ha hb hc).hist = (HiD.mk ga gb gc).hist) = (decide (ha.to Int = ga.to Int) && (decide (hb.to Wt = gb.to Wt) && decide (hc.to Ev = gc.to Ev))) := by
    rw [Bool.eq_iff_iff]
    simp only [HiD.hist, Hist.mk.injEq, Bool.and_eq_true, decide_eq_true_eq]
  apply exec_sound cs 300
  rw [show (rdHi.two rdHi).canon (⟨ha, hb, hc⟩, ⟨ga, gb, gc⟩) = [.agg [.dat ha, .dat hb, .dat hc], .agg [.dat ga, .dat gb, .dat gc]] from rfl, sm_in]
  refine ⟨⟨ra, sa, la⟩, fun h1 => ⟨⟨rb, sb, lb, rd⟩, fun h2 => ⟨⟨rc, sc, lc⟩, ret_bool ?_⟩, fun h2 => ret_lb ?_⟩, fun h1 => ret_lb ?_⟩
  · rw [ed, h1, h2]; simp
  · rw [ed, h1, h2]; simp
  · rw [ed, h1]; simp
end Go.Proofs.Ytodhhmjilnfecaa
end
section
open Go Go.Proofs Sx
namespace Go.Proofs.Ytodhhmjilnfecaa
set_option maxRecDepth 100000
set_option maxHeartbeats 0
noncomputable def ctO : Ctrs := [(76, ctrOf (rdHi.one.sp spCkI)), (78, oCtr (spClone Int 3)), (81, oCtr (spClone Sec 81)), (79, oCtr (spClone Ev 108)), (80, oCtr (spClone Wt 31))]
section
variable (n j k w : Int) (ha hb hc wt hd : D) (fz : Bool)

theorem as_in : exec Try.prog [] 300 (entry Try.prog 104 [.dat wt]) =
 Tree.leaf
 (Conf.mk
 (SFrm.mk 104 none none
 [Item.inLoop (cAt Try.prog 104 [1, 0, 1, 0, 0]), Item.inBlock 0, Item.code (cAt Try.prog 104 [1, 1])]
 (mkJ 0 [(0, .dat wt), (3, .int .i64 1)] 0 20))
 [] []) := by kernel_rfl

end
end Go.Proofs.Ytodhhmjilnfecaa
end
section
namespace Sx
open Go RowKit

mutual
theorem SV.ren_id : ∀ x : SV, x.ren id = x
  | .vec _ => rfl
  | .ptr .. => rfl
  | .velt .. => rfl
  | .view .. => rfl
  | .mapp _ => rfl
  | .agg l => by simp only [SV.ren, SV.renL_id l]
  | .tup l => by simp only [SV.ren, SV.renL_id l]
  | .fn f a c => by simp only [SV.ren, SV.renL_id a, SV.renL_id c]
  | .int .. => rfl
  | .bool _ => rfl
  | .lb _ => rfl
  | .str _ => rfl
  | .nils => rfl
  | .dat _ => rfl
  | .elt .. => rfl
  | .nilp => rfl
  | .nilf => rfl
  | .undef => rfl
  | .junk _ => rfl
  | .raw _ => rfl
theorem SV.renL_id : ∀ l : List SV, SV.renL id l = l
  | [] => rfl
  | x :: r => by simp only [SV.renL, SV.ren_id x, SV.renL_id r]
end
theorem OBlk.ren_id : ∀ o : OBlk, o.ren id = o
  | .cells t cs => by simp only [OBlk.ren, SV.renL_id]
  | .arr .. => rfl
  | .pub _ => rfl
  | .map es => by
    simp only [OBlk.ren, SV.ren_id]
    congr 1
    conv => rhs; rw [← List.map_id es]
    rfl

theorem named_key {m : Mem} {k : Nat} {o : OBlk} (h : (k, o) ∈ m) : k ∈ m.named := List.mem_flatMap.2 ⟨_, h, List.mem_cons_self⟩
theorem named_in {m : Mem} {k j : Nat} {o : OBlk} (h : (k, o) ∈ m) (hj : j ∈ o.keys) : j ∈ m.named := List.mem_flatMap.2 ⟨_, h, List.mem_cons_of_mem _ hj⟩

theorem Good.envTo {C : Ctx} {m : Mem} {E E' : Env} {H : HV} {w : World} (g : Good C m E H w) (hj : E'.j = E.j) (h : ∀ k, k ∈ m.named → E'.b k = E.b k ∧ E'.v k = E.v k) (hp : ∀ f, C.x.pn = some f → ∀ k, PIN ≤ k → E'.b k = E.b k) : Good C m E' H w := by
  refine ⟨g.below, g.ext, g.fresh, g.cell, fun k o hko => ?_, g.keys, fun x y hx hy hne hlx hly => ?_, ⟨g.fix.fx, g.fix.mark, g.fix.nodup, fun f hf k hk => (hp f hf k hk).trans (g.fix.pin f hf k hk)⟩⟩
  · have := OOk.ren (ρ := id) hj (g.own k o hko) (h k (named_key hko)) (fun j hj => h j (named_in hko hj)) (fun es _ hk => keysOk_ren hk)
    rw [OBlk.ren_id] at this
    exact this
  · rw [(h x.1 (named_key (o := x.2) hx)).1, (h y.1 (named_key (o := y.2) hy)).1]
    exact g.apart x y hx hy hne hlx hly
theorem denL_envTo {E E' : Env} (hj : E'.j = E.j) {l : List SV} (h : ∀ k, k ∈ SV.keysL l → E'.b k = E.b k ∧ E'.v k = E.v k) : SV.denL E' l = SV.denL E l := by
  have := SV.denL_ren (ρ := id) hj l h
  rwa [SV.renL_id] at this
def shM (m : Mem) : Mem := m.map fun e => (e.1 + 500, e.2.ren (· + 500))
def RetM (w : World) (H : HV) (Φ : SV → Mem → Prop) : Value → World → Prop :=
  fun u w' => ∃ v m E1 H', Φ v m ∧ u = v.den E1 ∧ Good ⟨w, H⟩ m E1 H' w' ∧ v.Ok H' ∧ v.jk 0 = false ∧ (∀ x, x ∈ m → x.2.jk 0 = false)

theorem OOk.ctx {C C' : Ctx} {E : Env} {H : HV} {w : World} {k : Nat} {o : OBlk} (h : OOk C E H w k o) (hs : C'.w0.heap.size ≤ C.w0.heap.size) : OOk C' E H w k o := by
  cases o with
  | cells t cs => exact ⟨Nat.le_trans hs h.1, h.2⟩
  | pub d => exact h
  | map es => exact ⟨Nat.le_trans hs h.1, h.2⟩
  | arr e d =>
    obtain ⟨hd, sz, rows, h1, h2, h3, h4⟩ := h
    exact ⟨hd, sz, rows, h1, h2, ownsRow_mono h3 hs, h4⟩

theorem OBlk.lies_ren (ρ : Nat → Nat) (o : OBlk) : (o.ren ρ).Lies ↔ o.Lies := by cases o <;> rfl

section
variable {P : Program} {C : Ctx} {R : Value → World → Prop}

theorem runs_frame {top g : SFrm} {rest : List SFrm} {mem : Mem} {Φ : SV → Mem → Prop}
    (hpure : ∀ k, k ∉ SV.keysL top.tmps) (hlow : ∀ k, k ∈ SV.keysL g.tmps ++ ((rest.flatMap fun f => SV.keysL f.tmps) ++ mem.named) → k < 500)
    (h1 : ∀ (H : HV) (w : World), SV.OkL H top.tmps → Runs P ⟨w, H⟩ ⟨top, [], []⟩ (RetM w H Φ))
    (h2 : ∀ v m, Φ v m → Runs P C ⟨{ g with tmps := putS g.tmps g.await (v.ren (· + 500)), await := none }, rest, shM m ++ mem⟩ R) (hpn : C.x.pn = none := by rfl) :
    Runs P C ⟨top, g :: rest, mem⟩ R := by
  intro E H w gd ok
  have hcell := gd.cell
  have hr := h1 H w ok.1 E H w (good_start hcell E) ⟨ok.1, by simp⟩
  rw [stkRun_eq] at hr ⊢
  simp only [List.map_nil, restOf] at hr
  simp only [List.map_cons, restOf]
  refine CFrm.run_mono hr fun u w' ⟨v, m, E1, H', hΦ, hu, g1, hv, hvj, hmj⟩ => ?_
  -- where all lies afterwards
  let E2 : Env := ⟨fun k => if 500 ≤ k then E1.b (k - 500) else E.b k, fun k => if 500 ≤ k then E1.v (k - 500) else E.v k, E.j⟩
  let E1' : Env := ⟨E1.b, E1.v, E.j⟩
  have hs1 : Same 0 E1 E1' := ⟨rfl, rfl, fun i hi => absurd hi (Nat.not_lt_zero _)⟩
  have g1' : Good ⟨w, H⟩ m E1' H' w' := g1.same' hs1 hmj
  have hu' : u = v.den E1' := by rw [hu]; exact (den_same hs1 v hvj).symm
  have hren : ∀ k, Ren (· + 500) E1' E2 k := fun k => by
    refine ⟨?_, ?_⟩ <;> simp [E2, E1']
  have hold : ∀ k, k < 500 → E2.b k = E.b k ∧ E2.v k = E.v k := fun k hk => by
    refine ⟨?_, ?_⟩ <;> simp [E2] <;> omega
  have hden : v.den E1' = (v.ren (· + 500)).den E2 := (SV.den_ren (ρ := (· + 500)) (E := E1') (E' := E2) rfl v (fun k _ => hren k)).symm
  have hmemlow : ∀ k, k ∈ mem.named → k < 500 := fun k hk => hlow k (List.mem_append_right _ (List.mem_append_right _ hk))
  have gm : Good C mem E H' w' := gd.call g1.below g1.ext g1.fresh g1.cell
  have gm2 : Good C mem E2 H' w' := gm.envTo rfl (fun k hk => hold k (hmemlow k hk)) fun f hf => by rw [hpn] at hf; cases hf
  have hlowm : ∀ k o, (k, o) ∈ m → w.heap.size ≤ E1.b k ∨ ¬o.Lies := fun k o hko => by
    by_cases hl : o.Lies
    · exact .inl ((g1.own k o hko).low hl)
    · exact .inr hl
  have good2 : Good C (shM m ++ mem) E2 H' w' := by
    refine ⟨gm.below, gm.ext, gm.fresh, gm.cell, fun k o hko => ?_, ?_, fun x y hx hy hne hlx hly => ?_, gm2.fix⟩
    · rcases List.mem_append.1 hko with h | h
      · obtain ⟨⟨k', o'⟩, hm, he⟩ := List.mem_map.1 h
        cases he
        exact (OOk.ren (ρ := (· + 500)) (E := E1') (E' := E2) rfl (g1'.own k' o' hm) (hren k') (fun j _ => hren j) (fun es _ hk => keysOk_ren hk)).ctx gd.below.size
      · exact gm2.own k o h
    · rw [List.pairwise_append]
      refine ⟨?_, gm.keys, fun x hx y hy => ?_⟩
      · rw [shM, List.pairwise_map]
        exact g1.keys.imp fun h => by simpa using h
      · obtain ⟨x', hx', rfl⟩ := List.mem_map.1 hx
        have := hmemlow y.1 (named_key (o := y.2) hy)
        simp only; omega
    · have newb : ∀ z : Nat × OBlk, z ∈ shM m → z.2.Lies → w.heap.size ≤ E2.b z.1 ∧ ∃ z', z' ∈ m ∧ z.1 = z'.1 + 500 ∧ z'.2.Lies ∧ E2.b z.1 = E1.b z'.1 := fun z hz hl => by
        obtain ⟨z', hz', rfl⟩ := List.mem_map.1 hz
        have hl' := (OBlk.lies_ren _ _).1 hl
        have hb : E2.b (z'.1 + 500) = E1.b z'.1 := (hren z'.1).1
        exact ⟨by rw [hb]; exact (g1.own z'.1 z'.2 hz').low hl', z', hz', rfl, hl', hb⟩
      have oldb : ∀ z : Nat × OBlk, z ∈ mem → z.2.Lies → E2.b z.1 < w.heap.size := fun z hz hl => by
        rw [(hold z.1 (hmemlow z.1 (named_key (o := z.2) hz))).1]
        exact (gd.own z.1 z.2 hz).lt hl
      rcases List.mem_append.1 hx with hx | hx <;> rcases List.mem_append.1 hy with hy | hy
      · obtain ⟨_, x', hx', ex, lx, bx⟩ := newb x hx hlx
        obtain ⟨_, y', hy', ey, ly, by'⟩ := newb y hy hly
        rw [bx, by']
        exact g1.apart x' y' hx' hy' (fun h => hne (by rw [ex, ey, h])) lx ly
      · have := (newb x hx hlx).1; have := oldb y hy hly; omega
      · have := oldb x hx hlx; have := (newb y hy hly).1; omega
      · exact gm2.apart x y hx hy hne hlx hly
  have hgt : SV.denL E2 g.tmps = SV.denL E g.tmps := denL_envTo (E := E) (E' := E2) rfl fun k hk => hold k (hlow k (List.mem_append_left _ hk))
  have hrt : rest.map (SFrm.den E2) = rest.map (SFrm.den E) := by
    apply List.map_congr_left
    intro f hf
    simp only [SFrm.den]
    rw [denL_envTo (E := E) (E' := E2) rfl fun k hk => hold k (hlow k (List.mem_append_right _ (List.mem_append_left _ (List.mem_flatMap.2 ⟨f, hf, hk⟩))))]
  have okg : SV.OkL H' g.tmps := SV.OkL.mono g1.ext _ (ok.2 g List.mem_cons_self)
  have fin := h2 v m hΦ E2 H' w' good2 ⟨okL_putS okg (SV.ok_ren v hv), fun f hf => SV.OkL.mono g1.ext _ (ok.2 f (List.mem_cons_of_mem _ hf))⟩
  simp only [SFrm.den] at fin ⊢
  rw [← put_den, hgt, ← hden, ← hu'] at fin
  rw [hrt] at fin
  cases rest <;> exact fin
theorem retM {w : World} {H : HV} {Φ : SV → Mem → Prop} {fn : FuncId} {aw : Option Tmp} {k : List Item} {tmps : List SV} {mem : Mem} {f : Func} {l : List SV} (m' : Mem) (hfn : P.funcs[fn]? = some f) (hres : resS P mem tmps f.results.toList = some l)
    (hsub : m'.Sublist mem) (hj : (one? l).jk 0 = false) (hjm : m'.all (fun x => !x.2.jk 0) = true) (h : Φ (one? l) m') : (Tree.leaf ⟨⟨fn, none, aw, .code .ret :: k, tmps⟩, [], mem⟩).holds P ⟨w, H⟩ (RetM w H Φ) := by
  refine runs_ret hfn hres fun E H' w' g hv => ⟨_, m', E, H', h, rfl, g.sub hsub, hv, hj, fun x hx => ?_⟩
  have := List.all_eq_true.1 hjm x hx
  simpa using this
def atRet (c : Conf) : Bool :=
  match c.rest with
  | [] => match c.top.ri with
    | none => match c.top.todo with
      | .code .ret :: _ => true
      | _ => false
    | some _ => false
  | _ :: _ => false
noncomputable def execR (P : Program) (cs : Ctrs) (n : Nat) : Conf → Tree :=
  Nat.rec (motive := fun _ => Conf → Tree) (fun _ => .stuck) (fun _ ih c => match atRet c with
    | true => leafR c
    | false => stepC P cs (fun _ => false) ih c) n
theorem execR_sound {cs : Ctrs} (hcs : cs.Ok P) : ∀ (n : Nat) (c : Conf), (execR P cs n c).holds P C R → Runs P C c R
  | 0, _, h => h.elim
  | n + 1, c, h => by
    have e : execR P cs (n + 1) c = match atRet c with
      | true => leafR c
      | false => stepC P cs (fun _ => false) (execR P cs n) c := rfl
    rw [e] at h
    cases hr : atRet c with
    | true => rw [hr, leafR_eq] at h; exact h
    | false => rw [hr] at h; exact step_sound (U := fun _ => false) (ih := execR P cs n) hcs (fun c h => execR_sound hcs n c h) c h
end
end Sx
end
section
namespace Sx
open Go RowKit
noncomputable def execRU (P : Program) (cs : Ctrs) (U : FuncId → Bool) (n : Nat) : Conf → Tree :=
  Nat.rec (motive := fun _ => Conf → Tree) (fun _ => .stuck) (fun _ ih c => match atRet c with
    | true => leafR c
    | false => stepC P cs U ih c) n
section
variable {P : Program} {C : Ctx} {R : Value → World → Prop}
def spJoin (α : Type) [Codec α] (e : TypeId) : OSpec := fun args => match args with
  | [x] => match rdD.read x with
    | some (.slc a 1 [[c], [d]]) => some ([c.Is α ∧ d.Is α ∧ c.len ≤ 1048576 ∧ d.len ≤ 1048576], e, fun h => .slc h.hd (Codec.sz α) (c.rows ++ d.rows))
    | _ => none
  | _ => none

theorem olaw_join {f : FuncId} {α : Type} [Codec α] {e : TypeId} (hb : Bodied P f = true)
    (h : ∀ (H : HV) (w : World) (a : Hd) (c d : D), (D.slc a 1 [[c], [d]]).Ok H → c.Is α → d.Is α → c.len ≤ 1048576 → d.len ≤ 1048576 → Runs P ⟨w, H⟩ (entry P f [.dat (.slc a 1 [[c], [d]])]) (OwnR w H e fun h => .slc h.hd (Codec.sz α) (c.rows ++ d.rows))) : OLaw P f (spJoin α e) := by
  refine ⟨hb, fun H E args hargs => ?_⟩
  unfold spJoin
  split
  · rename_i heq
    split at heq
    · rename_i x
      split at heq
      · rename_i a c d hd
        cases heq
        intro hp w hw
        obtain ⟨h1, h2⟩ := rdD.right H E x _ hd hargs.1
        obtain ⟨p1, p2, p3, p4⟩ := hp _ (List.mem_singleton.2 rfl)
        have := calls_of hb (args := [.dat (.slc a 1 [[c], [d]])]) ⟨h2, trivial⟩ E hw (h H w a c d h2.1 p1 p2 p3 p4)
        have e1 : SV.denL E [x] = SV.denL E [.dat (.slc a 1 [[c], [d]])] := by simp only [SV.denL]; rw [h1]; rfl
        rw [e1]
        exact this
      · cases heq
    · cases heq
  · trivial
end
end Sx
end
section
open Go
namespace Sx
def idxG {α : Type} (l : List α) (p : α → Bool) : Int := match l.findIdx? p with
  | some i => i
  | none => -1
theorem idxG_any {α : Type} (xs : List α) (p : α → Bool) : decide (idxG xs p ≥ 0) = xs.any p := by
  unfold idxG
  cases h : xs.findIdx? p with
  | none =>
    rw [List.findIdx?_eq_none_iff] at h
    rw [show xs.any p = false from by rw [List.any_eq_false]; exact fun x hx => by simp [h x hx]]
    rfl
  | some i =>
    rw [List.findIdx?_eq_some_iff_getElem] at h
    obtain ⟨h1, h2, _⟩ := h
    rw [show xs.any p = true from List.any_eq_true.2 ⟨_, List.getElem_mem h1, h2⟩]
    simp only [decide_eq_true_eq]
    omega
theorem idxG_hit {α : Type} {l : List α} {p : α → Bool} {j : Nat} (hj : j < l.length) (hpre : (l.take j).findIdx? p = none) (hb : p l[j] = true) : idxG l p = j := by
  have : l.findIdx? p = some j := by
    rw [List.findIdx?_eq_some_iff_getElem]
    refine ⟨hj, hb, fun i hi => ?_⟩
    rw [List.findIdx?_eq_none_iff] at hpre
    have := hpre l[i] (List.mem_take_iff_getElem.2 ⟨i, by omega, rfl⟩)
    simp [this]
  unfold idxG; rw [this]
theorem idxG_miss {α : Type} {l : List α} {p : α → Bool} {j : Nat} (hj : j < l.length) (hpre : (l.take j).findIdx? p = none) (hb : p l[j] = false) : (l.take (j + 1)).findIdx? p = none := by
  rw [List.take_succ_eq_append_getElem hj, List.findIdx?_append, hpre]
  simp [hb]
theorem idxG_none {α : Type} {l : List α} {p : α → Bool} (hpre : (l.take l.length).findIdx? p = none) : idxG l p = -1 := by
  rw [List.take_length] at hpre
  unfold idxG; rw [hpre]
def asc (l : List Int) : Bool := (List.range (l.length - 1)).all fun i => decide (l.getD i 0 < l.getD (i + 1) 0)
theorem asc_iff (l : List Int) : asc l = true ↔ ∀ i, i + 1 < l.length → l.getD i 0 < l.getD (i + 1) 0 := by
  unfold asc
  rw [List.all_eq_true]
  constructor
  · intro h i hi
    exact of_decide_eq_true (h i (List.mem_range.2 (by omega)))
  · intro h i hi
    exact decide_eq_true (h i (by have := List.mem_range.1 hi; omega))
theorem asc_not {l : List Int} {i : Nat} (hi : i + 1 < l.length) (h : ¬l.getD i 0 < l.getD (i + 1) 0) : asc l = false := by
  cases ha : asc l with
  | false => rfl
  | true => exact absurd ((asc_iff l).1 ha i hi) h

def spAsc (d : D) : SpecR := .scalar [d.Is Int ∧ d.len ≤ 1048576] (.bool (asc (d.to Int)))
def spIxI (x : D × Int) : SpecR := .scalar [x.1.Is Int ∧ x.1.len ≤ 1048576] (.int .i64 (idxG (x.1.to Int) fun y => decide (x.2 = y)))
def spIxB (x : D × Bool) : SpecR := .scalar [x.1.Is Bool ∧ x.1.len ≤ 1048576] (.int .i64 (idxG (x.1.to Bool) fun y => decide (x.2 = y)))
def spHasB (x : D × Bool) : SpecR := .scalar [x.1.Is Bool ∧ x.1.len ≤ 1048576] (.bool ((x.1.to Bool).any fun y => decide (x.2 = y)))
end Sx
end
section
open Go Go.Proofs Sx
namespace Go.Proofs.Ytodhhmjilnfecaa
set_option maxRecDepth 100000
set_option maxHeartbeats 0
noncomputable def asL (d : D) (j : Int) : Conf := Conf.mk (SFrm.mk 104 none none [Item.inLoop (cAt Try.prog 104 [1, 0, 1, 0, 0]), Item.inBlock 0, Item.code (cAt Try.prog 104 [1, 1])] (mkJ 0 [(0, .dat d), (3, .int .i64 j)] 0 20)) [] []
noncomputable def ixbL (d : D) (b : Bool) (j : Int) : Conf := Conf.mk (SFrm.mk 90 none none [Item.inLoop (cAt Try.prog 90 [1, 0, 1, 0, 0]), Item.inBlock 0, Item.code (cAt Try.prog 90 [1, 1])] (mkJ 0 [(0, .dat d), (1, .bool b), (7, .int .i64 d.len), (8, .int .i64 j)] 0 19)) [] []
noncomputable def ixwL (d : D) (n : Int) (j : Int) : Conf := Conf.mk (SFrm.mk 44 none none [Item.inLoop (cAt Try.prog 44 [1, 0, 1, 0, 0]), Item.inBlock 0, Item.code (cAt Try.prog 44 [1, 1])] (mkJ 0 [(0, .dat d), (1, .int .i64 n), (7, .int .i64 d.len), (8, .int .i64 j)] 0 19)) [] []
noncomputable def ccA (d : D) (s j : Int) : Conf := Conf.mk (SFrm.mk 106 none none [Item.inLoop (cAt Try.prog 106 [1, 1, 0, 1, 0, 0]), Item.inBlock 0, Item.code (cAt Try.prog 106 [1, 1, 1])] (mkJ 0 [(0, .dat d), (3, .int .i64 s), (9, .dat d), (10, .int .i64 d.len), (11, .int .i64 j)] 0 36)) [] []
noncomputable def ccB (d r : D) (j : Int) : Conf := Conf.mk (SFrm.mk 106 none none [Item.inLoop (cAt Try.prog 106 [1, 1, 1, 1, 0, 1, 0, 0]), Item.inBlock 2, Item.code (cAt Try.prog 106 [1, 1, 1, 1, 1])] (mkJ 0 [(6, .vec 0), (25, .dat d), (26, .int .i64 d.len), (27, .int .i64 j)] 0 36)) [] [(0, .arr 3 r)]
section
variable (a : Hd) (n j k w : Int) (ha hb hc d wt hd : D) (fz : Bool) (b : Bool)
theorem as_go : exec Try.prog [] 300 (unroll (asL d j)) =
 Tree.br (decide (j < (↑(D.len d) : Int)))
 (.all fun hs =>
 .need (0 ≤ j ∧ j < (↑(D.len d) : Int) ∧ D.sz d = 1)
 (.need (D.HasCell d (Int.toNat j) 0 (FT.int .i64))
 (.need
 (0 ≤ IntKind.wrap .i64 (j - 1) ∧ IntKind.wrap .i64 (j - 1) < (↑(D.len d) : Int) ∧ D.sz d = 1)
 (.need (D.HasCell d (Int.toNat (IntKind.wrap .i64 (j - 1))) 0 (FT.int .i64))
 (.br (decide (D.getInt d (Int.toNat j) 0 ≤ D.getInt d (Int.toNat (IntKind.wrap .i64 (j - 1))) 0))
 (.ret (.lb false))
 (.leaf
 (Conf.mk
 (SFrm.mk 104 none none
 [Item.inLoop (cAt Try.prog 104 [1, 0, 1, 0, 0]), Item.inBlock 0,
 Item.code (cAt Try.prog 104 [1, 1])]
 (mkJ 0 [(0, .dat d), (3, .int .i64 (IntKind.wrap .i64 (j + 1)))] 0 20))
 [] [])))))))
 (.ret (.lb true)) := by kernel_rfl


theorem clw_in : execT Try.prog [] (fun _ => false) 19 (entry Try.prog 80 [.dat d]) =
 Tree.br
 (nilOf
 (evS
 (putS [.dat d, SV.undef, .nils, SV.undef, SV.undef, SV.undef, SV.undef, SV.undef] (some 3)
 (evS [.dat d, SV.undef, .nils, SV.undef, SV.undef, SV.undef, SV.undef, SV.undef] (Operand.tmp 0)))
 (Operand.tmp 3))
 d)
 (.ret .nils)
 (.all fun hs =>
 .need
 (D.sz (D.slc (D.hd (hs 0 0)) 3 []) = 3 ∧
 D.Fits d 3 ∧
 (D.len (D.slc (D.hd (hs 0 0)) 3 []) + D.len d) * 40 ≤ 140737488355328 ∧
 D.len (D.slc (D.hd (hs 0 0)) 3 []) + D.len d ≤ 9223372036854775807)
 (.all fun hs_1 =>
 .leaf
 (Conf.mk
 (SFrm.mk 80 none none [Item.code (cAt Try.prog 80 [1, 0, 1, 0, 1])]
 (mkU
 [(0, .dat d), (2, .vec 1007), (3, .dat d),
 (4,
 .bool
 (nilOf
 (evS
 (putS [.dat d, SV.undef, .nils, SV.undef, SV.undef, SV.undef, SV.undef, SV.undef] (some 3)
 (evS [.dat d, SV.undef, .nils, SV.undef, SV.undef, SV.undef, SV.undef, SV.undef]
 (Operand.tmp 0)))
 (Operand.tmp 3))
 d)),
 (5, .vec 1005), (6, .dat d), (7, .vec 1007)]
 0 8))
 []
 [(1007,
 OBlk.arr 31
 (D.slc (D.hd (hs_1 0 0)) 3 (List.append (D.rows (D.slc (D.hd (hs 0 0)) 3 [])) (D.rows d))))]))) := by kernel_rfl

theorem ixb_in : exec Try.prog [] 300 (entry Try.prog 90 [.dat d, .bool b]) =
 Tree.leaf
 (Conf.mk
 (SFrm.mk 90 none none
 [Item.inLoop (cAt Try.prog 90 [1, 0, 1, 0, 0]), Item.inBlock 0, Item.code (cAt Try.prog 90 [1, 1])]
 (mkJ 0 [(0, .dat d), (1, .bool b), (7, .int .i64 (↑(D.len d) : Int)), (8, .int .i64 0)] 0
 19))
 [] []) := by kernel_rfl

theorem ixw_in : exec Try.prog [] 300 (entry Try.prog 44 [.dat d, .int .i64 n]) =
 Tree.leaf
 (Conf.mk
 (SFrm.mk 44 none none
 [Item.inLoop (cAt Try.prog 44 [1, 0, 1, 0, 0]), Item.inBlock 0, Item.code (cAt Try.prog 44 [1, 1])]
 (mkJ 0
 [(0, .dat d), (1, .int .i64 n), (7, .int .i64 (↑(D.len d) : Int)),
 (8, .int .i64 0)]
 0 19))
 [] []) := by kernel_rfl

theorem ctb_in : exec Try.prog [(90, ctrOf ((rdD.two rdBool).sp spIxB))] 300 (entry Try.prog 54 [.dat d, .bool b]) =
 Tree.need (D.Is Bool d ∧ D.len d ≤ 1048576)
 (.ret (.bool (decide ((idxG (D.to Bool d) fun y => decide (b = y)) ≥ 0)))) := by kernel_rfl

theorem cc_in : exec Try.prog [] 300 (entry Try.prog 106 [.dat d]) =
 Tree.leaf
 (Conf.mk
 (SFrm.mk 106 none none
 [Item.inLoop (cAt Try.prog 106 [1, 1, 0, 1, 0, 0]), Item.inBlock 0, Item.code (cAt Try.prog 106 [1, 1, 1])]
 (mkJ 0
 [(0, .dat d), (3, .int .i64 0), (9, .dat d), (10, .int .i64 (↑(D.len d) : Int)),
 (11, .int .i64 0)]
 0 36))
 [] []) := by kernel_rfl

theorem ccA_go : exec Try.prog [] 300 (unroll (ccA d k j)) =
 Tree.br (decide (j < (↑(D.len d) : Int)))
 (.need (0 ≤ j ∧ j < (↑(D.len d) : Int) ∧ D.sz d = 1)
 (.need (D.HasCell d (Int.toNat j) 0 FT.slc)
 (.br (decide (IntKind.wrap .i64 (k + (↑(D.len (D.cell d (Int.toNat j) 0)) : Int)) < 0)) Tree.stuck
 (.leaf
 (Conf.mk
 (SFrm.mk 106 none none
 [Item.inLoop (cAt Try.prog 106 [1, 1, 0, 1, 0, 0]), Item.inBlock 0,
 Item.code (cAt Try.prog 106 [1, 1, 1])]
 (mkJ 0
 [(0, .dat d),
 (3, .int .i64 (IntKind.wrap .i64 (k + (↑(D.len (D.cell d (Int.toNat j) 0)) : Int)))),
 (9, .dat d), (10, .int .i64 (↑(D.len d) : Int)),
 (11, .int .i64 (IntKind.wrap .i64 (j + 1)))]
 0 36))
 [] [])))))
 (.br (decide (k < 0)) Tree.stuck
 (.br (decide (IntKind.wrap .i64 (k - IntKind.wrap .i64 (0 - (↑0 : Int))) > 0))
 (.need (0 ≤ (↑0 : Int) ∧ (↑0 : Int) ≤ 0 ∧ 0 ≤ (↑0 : Int) ∧ D.Fits (D.slc none 0 []) 1)
 (.need
 (D.hd (D.sub (D.slc none 0 []) 0 0) = none ∧
 0 < IntKind.wrap .i64 (k - IntKind.wrap .i64 (0 - (↑0 : Int))) ∧
 IntKind.wrap .i64 (k - IntKind.wrap .i64 (0 - (↑0 : Int))) * (↑8 : Int) ≤ 140737488355328 ∧
 IntKind.wrap .i64 (k - IntKind.wrap .i64 (0 - (↑0 : Int))) ≤ 9223372036854775807)
 (.all fun hs =>
 .need
 (0 ≤ (↑0 : Int) ∧
 (↑0 : Int) ≤
 (↑(D.len
 (D.slc (D.hd (hs 0 0)) 1
 (List.replicate
 (Int.toNat (IntKind.wrap .i64 (k - IntKind.wrap .i64 (0 - (↑0 : Int)))))
 [D.int .i64 0]))) :
 Int) ∧
 D.Fits
 (D.slc (D.hd (hs 0 0)) 1
 (List.replicate
 (Int.toNat (IntKind.wrap .i64 (k - IntKind.wrap .i64 (0 - (↑0 : Int)))))
 [D.int .i64 0]))
 1)
 (.leaf
 (Conf.mk
 (SFrm.mk 106 none none
 [Item.inLoop (cAt Try.prog 106 [1, 1, 1, 1, 0, 1, 0, 0]), Item.inBlock 2,
 Item.code (cAt Try.prog 106 [1, 1, 1, 1, 1])]
 (mkJ 0
 [(6, .vec 0), (25, .dat d), (26, .int .i64 (↑(D.len d) : Int)),
 (27, .int .i64 0)]
 0 36))
 []
 [(0,
 OBlk.arr 3
 (D.slc
 (D.hd
 (D.slc (D.hd (hs 0 0)) 1
 (List.replicate
 (Int.toNat (IntKind.wrap .i64 (k - IntKind.wrap .i64 (0 - (↑0 : Int)))))
 [D.int .i64 0])))
 (D.sz
 (D.slc (D.hd (hs 0 0)) 1
 (List.replicate
 (Int.toNat (IntKind.wrap .i64 (k - IntKind.wrap .i64 (0 - (↑0 : Int)))))
 [D.int .i64 0])))
 (List.take 0
 (D.rows
 (D.slc (D.hd (hs 0 0)) 1
 (List.replicate
 (Int.toNat (IntKind.wrap .i64 (k - IntKind.wrap .i64 (0 - (↑0 : Int)))))
 [D.int .i64 0]))))))])))))
 (.leaf
 (Conf.mk
 (SFrm.mk 106 none none
 [Item.inLoop (cAt Try.prog 106 [1, 1, 1, 1, 0, 1, 0, 0]), Item.inBlock 2,
 Item.code (cAt Try.prog 106 [1, 1, 1, 1, 1])]
 (mkJ 0
 [(6, .nils), (25, .dat d), (26, .int .i64 (↑(D.len d) : Int)), (27, .int .i64 0)] 0
 36))
 [] [])))) := by kernel_rfl

theorem ccB_go : execR Try.prog [] 300 (unroll (ccB d wt j)) =
 Tree.br (decide (j < (↑(D.len d) : Int)))
 (.need (0 ≤ j ∧ j < (↑(D.len d) : Int) ∧ D.sz d = 1)
 (.need (D.HasCell d (Int.toNat j) 0 FT.slc)
 (.need
 (D.sz wt = 1 ∧
 D.Fits (D.cell d (Int.toNat j) 0) 1 ∧
 (D.len wt + D.len (D.cell d (Int.toNat j) 0)) * 8 ≤ 140737488355328 ∧
 D.len wt + D.len (D.cell d (Int.toNat j) 0) ≤ 9223372036854775807)
 (.all fun hs =>
 .leaf
 (Conf.mk
 (SFrm.mk 106 none none
 [Item.inLoop (cAt Try.prog 106 [1, 1, 1, 1, 0, 1, 0, 0]), Item.inBlock 2,
 Item.code (cAt Try.prog 106 [1, 1, 1, 1, 1])]
 (mkJ 0
 [(6, .vec 0), (25, .dat d), (26, .int .i64 (↑(D.len d) : Int)),
 (27, .int .i64 (IntKind.wrap .i64 (j + 1)))]
 0 36))
 []
 [(0,
 OBlk.arr 3
 (D.slc (D.hd (hs 0 0)) 1 (List.append (D.rows wt) (D.rows (D.cell d (Int.toNat j) 0)))))])))))
 (.leaf
 (Conf.mk
 (SFrm.mk 106 none none [Item.code (cAt Try.prog 106 [1, 1, 1, 1, 1, 1])]
 (mkJ 0
 [(2, .vec 0), (6, .vec 0), (25, .dat d), (26, .int .i64 (↑(D.len d) : Int)),
 (27, .int .i64 j), (28, .bool (decide (j < (↑(D.len d) : Int)))), (35, .vec 0)]
 0 36))
 [] [(0, OBlk.arr 3 wt)])) := by kernel_rfl

theorem ixb_go : exec Try.prog [] 300 (unroll (ixbL d b j)) =
 Tree.br (decide (j < (↑(D.len d) : Int)))
 (.need (0 ≤ j ∧ j < (↑(D.len d) : Int) ∧ D.sz d = 1)
 (.need (D.HasCell d (Int.toNat j) 0 FT.bool)
 (.br (decide (b = D.getBool d (Int.toNat j) 0)) (.ret (.int .i64 j))
 (.leaf
 (Conf.mk
 (SFrm.mk 90 none none
 [Item.inLoop (cAt Try.prog 90 [1, 0, 1, 0, 0]), Item.inBlock 0, Item.code (cAt Try.prog 90 [1, 1])]
 (mkJ 0
 [(0, .dat d), (1, .bool b), (7, .int .i64 (↑(D.len d) : Int)),
 (8, .int .i64 (IntKind.wrap .i64 (j + 1)))]
 0 19))
 [] [])))))
 (.ret (.int .i64 (Int.neg 1))) := by kernel_rfl

theorem ixw_go : exec Try.prog [] 300 (unroll (ixwL d n j)) =
 Tree.br (decide (j < (↑(D.len d) : Int)))
 (.need (0 ≤ j ∧ j < (↑(D.len d) : Int) ∧ D.sz d = 1)
 (.need (D.HasCell d (Int.toNat j) 0 (FT.int .i64))
 (.br (decide (n = D.getInt d (Int.toNat j) 0)) (.ret (.int .i64 j))
 (.leaf
 (Conf.mk
 (SFrm.mk 44 none none
 [Item.inLoop (cAt Try.prog 44 [1, 0, 1, 0, 0]), Item.inBlock 0, Item.code (cAt Try.prog 44 [1, 1])]
 (mkJ 0
 [(0, .dat d), (1, .int .i64 n), (7, .int .i64 (↑(D.len d) : Int)),
 (8, .int .i64 (IntKind.wrap .i64 (j + 1)))]
 0 19))
 [] [])))))
 (.ret (.int .i64 (Int.neg 1))) := by kernel_rfl

end
end Go.Proofs.Ytodhhmjilnfecaa
end
section
open Go Go.Proofs Sx
namespace Go.Proofs.Ytodhhmjilnfecaa
set_option maxRecDepth 100000

theorem lawAsc : Law Try.prog 104 (rdD.one.sp spAsc) := by
  refine law_in _ (by kernel_rfl) fun H w d hok hp => ?_
  obtain ⟨hd, hlen⟩ := hp _ (List.mem_singleton.2 rfl)
  have hl := D.Is.length (α := Int) d
  apply exec_sound (noCtr _) 300
  rw [show rdD.one.canon d = [.dat d] from rfl, as_in]
  refine runs_loop (fun j : Nat => asL d j) (fun j => 1 ≤ j ∧ ∀ i, i + 1 < j → i + 1 < (d.to Int).length → (d.to Int).getD i 0 < (d.to Int).getD (i + 1) 0) (fun j => (d.to Int).length - j) (fun _ => rfl) ?_ 1 ⟨Nat.le_refl _, by omega⟩
  intro j ⟨hj, hpre⟩ ih
  apply exec_sound (noCtr _) 300
  rw [as_go]
  have hw1 : j < (d.to Int).length → IntKind.i64.wrap ((j : Int) - 1) = ((j - 1 : Nat) : Int) := fun h => by rw [wrap64 (by omega) (by omega)]; omega
  refine ⟨fun hc hs => ?_, fun hc => ret_lb ?_⟩
  · have hc : j < (d.to Int).length := by have := of_decide_eq_true hc; omega
    obtain ⟨c1, c2, c3⟩ := int_at hd hc
    obtain ⟨e1, e2, e3⟩ := int_at hd (show j - 1 < (d.to Int).length by omega)
    have g1 : (d.to Int).getD j 0 = (d.to Int)[j] := by rw [List.getD_eq_getElem?_getD, List.getElem?_eq_getElem hc]; rfl
    have g2 : (d.to Int).getD (j - 1) 0 = (d.to Int)[j - 1] := by rw [List.getD_eq_getElem?_getD, List.getElem?_eq_getElem (by omega)]; rfl
    rw [hw1 hc, c3, e3]
    refine ⟨c1, c2, e1, e2, fun h => ret_lb ?_, fun h => ?_⟩
    · have h := of_decide_eq_true h
      refine (asc_not (i := j - 1) (by omega) ?_).symm
      rw [show j - 1 + 1 = j by omega, g1, g2]; omega
    · have h := of_decide_eq_false h
      have := ih (j + 1) ⟨by omega, fun i hi hi2 => by
        by_cases hij : i + 1 = j
        · have : i = j - 1 := by omega
          subst this
          rw [show j - 1 + 1 = j by omega, g1, g2]; omega
        · exact hpre i (by omega) hi2⟩ (by omega)
      rw [← wrap_succ hc (by omega)] at this
      exact this
  · have hc := of_decide_eq_false hc
    exact ((asc_iff _).2 fun i hi => hpre i (by omega) hi).symm

theorem lawClW : OLaw Try.prog 80 (spClone Wt 31) := by
  refine olaw_clone (by kernel_rfl) fun H w d hok hd hlen => ?_
  apply execT_sound (noCtr _) (fun _ => false) 19
  rw [clw_in]
  refine ⟨fun hc => ?_, fun hc hs => ⟨⟨rfl, hd.fits, by simp only [len_slc, List.length_nil]; omega, by simp only [len_slc, List.length_nil]; omega⟩, fun hs1 => ?_⟩⟩
  · have hc : d.isNil = true := hc
    have := nil_rows hok hc
    exact own_nil (h := .slc none 3 []) (by rw [this]; rfl)
  · exact own_ret (f := Try.f80) (j := 1007) (h := hs1 0 0) (by kernel_rfl) (by kernel_rfl) rfl rfl

theorem lawIxW : Law Try.prog 44 ((rdD.two rdInt).sp spIxI) := by
  refine law_in _ (by kernel_rfl) fun H w ⟨d, n⟩ hok hp => ?_
  obtain ⟨hd, hlen⟩ := hp _ (List.mem_singleton.2 rfl)
  simp only at hd hlen
  have hl := D.Is.length (α := Int) d
  apply exec_sound (noCtr _) 300
  rw [show (rdD.two rdInt).canon (d, n) = [.dat d, .int .i64 n] from rfl, ixw_in]
  refine runs_loop (fun j : Nat => ixwL d n j) (fun j => j ≤ (d.to Int).length ∧ ((d.to Int).take j).findIdx? (fun y => decide (n = y)) = none) (fun j => (d.to Int).length - j) (fun _ => rfl) ?_ 0 ⟨Nat.zero_le _, by simp⟩
  intro j ⟨hj, hpre⟩ ih
  apply exec_sound (noCtr _) 300
  rw [ixw_go]
  refine ⟨fun hc => ?_, fun hc => ret_int ?_⟩
  · have hc : j < (d.to Int).length := by have := of_decide_eq_true hc; omega
    obtain ⟨c1, c2, c3⟩ := int_at hd hc
    rw [c3]
    refine ⟨c1, c2, fun h => ret_int ?_, fun h => ?_⟩
    · exact (idxG_hit hc hpre h).symm
    · have := ih (j + 1) ⟨hc, idxG_miss hc hpre h⟩ (by omega)
      rw [← wrap_succ hc (by omega)] at this
      exact this
  · have : j = (d.to Int).length := by have := of_decide_eq_false hc; omega
    subst this
    exact (idxG_none hpre).symm

theorem bool_at {d : D} (hd : d.Is Bool) {j : Nat} (hj : j < (d.to Bool).length) :
    (0 ≤ (j : Int) ∧ (j : Int) < (d.len : Int) ∧ d.sz = 1) ∧ d.HasCell (Int.toNat j) 0 .bool ∧ d.getBool (Int.toNat j) 0 = (d.to Bool)[j] := by
  obtain ⟨h1, h2⟩ := bool_cell hd hj
  exact ⟨⟨by omega, by rw [D.Is.length (α := Bool)]; omega, by rw [hd.size hj]; rfl⟩, h2, h1⟩

theorem lawIxB : Law Try.prog 90 ((rdD.two rdBool).sp spIxB) := by
  refine law_in _ (by kernel_rfl) fun H w ⟨d, n⟩ hok hp => ?_
  obtain ⟨hd, hlen⟩ := hp _ (List.mem_singleton.2 rfl)
  simp only at hd hlen
  have hl := D.Is.length (α := Bool) d
  apply exec_sound (noCtr _) 300
  rw [show (rdD.two rdBool).canon (d, n) = [.dat d, .bool n] from rfl, ixb_in]
  refine runs_loop (fun j : Nat => ixbL d n j) (fun j => j ≤ (d.to Bool).length ∧ ((d.to Bool).take j).findIdx? (fun y => decide (n = y)) = none) (fun j => (d.to Bool).length - j) (fun _ => rfl) ?_ 0 ⟨Nat.zero_le _, by simp⟩
  intro j ⟨hj, hpre⟩ ih
  apply exec_sound (noCtr _) 300
  rw [ixb_go]
  refine ⟨fun hc => ?_, fun hc => ret_int ?_⟩
  · have hc : j < (d.to Bool).length := by have := of_decide_eq_true hc; omega
    obtain ⟨c1, c2, c3⟩ := bool_at hd hc
    rw [c3]
    refine ⟨c1, c2, fun h => ret_int ?_, fun h => ?_⟩
    · exact (idxG_hit hc hpre h).symm
    · have := ih (j + 1) ⟨hc, idxG_miss hc hpre h⟩ (by omega)
      rw [← wrap_succ hc (by omega)] at this
      exact this
  · have : j = (d.to Bool).length := by have := of_decide_eq_false hc; omega
    subst this
    exact (idxG_none hpre).symm
theorem ctIxBOk : Ctrs.Ok Try.prog [(90, ctrOf ((rdD.two rdBool).sp spIxB))] := by
  intro x hx; rw [List.mem_singleton.1 hx]; exact ctrOf_ok lawIxB
theorem lawHasB : Law Try.prog 54 ((rdD.two rdBool).sp spHasB) := by
  refine law_in _ (by kernel_rfl) fun H w ⟨d, n⟩ hok hp => ?_
  obtain ⟨hd, hlen⟩ := hp _ (List.mem_singleton.2 rfl)
  simp only at hd hlen
  apply exec_sound ctIxBOk 300
  rw [show (rdD.two rdBool).canon (d, n) = [.dat d, .bool n] from rfl, ctb_in]
  exact ⟨⟨hd, hlen⟩, ret_bool (idxG_any _ _)⟩
theorem is_cell {c : D} {d : D} {i : Nat} (hc : c.Is Int ∧ d.cellAt i 0 = some c) : ∃ h s r, d.cellAt i 0 = some (.slc h s r) := by
  obtain ⟨⟨h1, h2, h3, e, _⟩, h⟩ := hc
  exact ⟨h1, h2, h3, by rw [h, e]⟩
theorem joinB {H : HV} {w : World} {a : Hd} {c d : D} (hc : c.Is Int) (hd : d.Is Int) (lc : c.len ≤ 1048576) (ld : d.len ≤ 1048576) (r : Hd) :
    Runs Try.prog ⟨w, H⟩ (ccB (.slc a 1 [[c], [d]]) (.slc r 1 []) 0) (OwnR w H 3 fun h => .slc h.hd (Codec.sz Int) (c.rows ++ d.rows)) := by
  refine runs_loop (fun p : Nat × D => ccB (.slc a 1 [[c], [d]]) p.2 p.1) (fun p => p.1 ≤ 2 ∧ ∃ h, p.2 = .slc h 1 (if p.1 = 0 then [] else if p.1 = 1 then c.rows else c.rows ++ d.rows)) (fun p => 2 - p.1) (fun _ => rfl) ?_ (0, .slc r 1 []) ⟨Nat.zero_le _, r, rfl⟩
  intro ⟨j, q⟩ ⟨hj, h, hq⟩ ih
  simp only at hj hq ih
  show Runs _ _ (unroll (ccB _ q j)) _
  rw [hq]
  apply execR_sound (noCtr _) 300
  rw [ccB_go]
  have hlen : ((D.slc a 1 [[c], [d]]).len : Int) = 2 := rfl
  simp only [hlen]
  refine ⟨fun hjc => ?_, fun hjc => ?_⟩
  · have hjc : j < 2 := by have := of_decide_eq_true hjc; omega
    have hj01 : j = 0 ∨ j = 1 := by omega
    rcases hj01 with rfl | rfl
    · refine ⟨⟨by omega, by omega, rfl⟩, is_cell ⟨hc, rfl⟩, ⟨rfl, hc.fits, ?_, ?_⟩, fun hs => ?_⟩
      · show (0 + c.len) * 8 ≤ _; omega
      · show 0 + c.len ≤ _; omega
      · have := ih (1, .slc (hs 0 0).hd 1 (List.append [] c.rows)) ⟨by simp only; omega, (hs 0 0).hd, rfl⟩ (by simp only; omega)
        exact this
    · refine ⟨⟨by omega, by omega, rfl⟩, is_cell ⟨hd, rfl⟩, ⟨rfl, hd.fits, ?_, ?_⟩, fun hs => ?_⟩
      · show (c.len + d.len) * 8 ≤ _; omega
      · show c.len + d.len ≤ _; omega
      · have := ih (2, .slc (hs 0 0).hd 1 (List.append c.rows d.rows)) ⟨by simp only; omega, (hs 0 0).hd, rfl⟩ (by simp only; omega)
        exact this
  · have hjc := of_decide_eq_false hjc
    have : j = 2 := by omega
    subst this
    exact own_ret (f := Try.f106) (j := 0) (h := .slc h 1 []) (by kernel_rfl) (by kernel_rfl) rfl rfl

theorem lawJoin : OLaw Try.prog 106 (spJoin Int 3) := by
  refine olaw_join (by kernel_rfl) fun H w a c d hok hc hd lc ld => ?_
  apply exec_sound (noCtr _) 300
  rw [cc_in]
  refine runs_loop (fun p : Nat => ccA (.slc a 1 [[c], [d]]) (if p = 0 then 0 else if p = 1 then c.len else ((c.len + d.len : Nat) : Int)) p) (fun p => p ≤ 2) (fun p => 2 - p) (fun _ => rfl) ?_ 0 (Nat.zero_le _)
  intro j hj ih
  apply exec_sound (noCtr _) 300
  rw [ccA_go]
  have hlen : ((D.slc a 1 [[c], [d]]).len : Int) = 2 := rfl
  simp only [hlen]
  refine ⟨fun hjc => ?_, fun hjc => ?_⟩
  · have hjc : j < 2 := by have := of_decide_eq_true hjc; omega
    have hj01 : j = 0 ∨ j = 1 := by omega
    rcases hj01 with rfl | rfl
    · refine ⟨⟨by omega, by omega, rfl⟩, is_cell ⟨hc, rfl⟩, fun hn => ?_, fun hn => ?_⟩
      · have e : IntKind.i64.wrap (0 + (c.len : Int)) = c.len := by rw [wrap64 (by omega) (by omega)]; omega
        have := of_decide_eq_true hn
        exfalso
        have h2 : IntKind.i64.wrap (0 + (c.len : Int)) < 0 := this
        omega
      · have := ih 1 (by omega) (by omega)
        have e : IntKind.i64.wrap (0 + (c.len : Int)) = c.len := by rw [wrap64 (by omega) (by omega)]; omega
        show Runs _ _ (ccA (.slc a 1 [[c], [d]]) (IntKind.i64.wrap (0 + (c.len : Int))) (IntKind.i64.wrap (0 + 1))) _
        rw [e]
        exact this
    · have e : IntKind.i64.wrap ((c.len : Int) + (d.len : Int)) = ((c.len + d.len : Nat) : Int) := by rw [wrap64 (by omega) (by omega)]; omega
      refine ⟨⟨by omega, by omega, rfl⟩, is_cell ⟨hd, rfl⟩, fun hn => ?_, fun hn => ?_⟩
      · have := of_decide_eq_true hn
        exfalso
        have h2 : IntKind.i64.wrap ((c.len : Int) + (d.len : Int)) < 0 := this
        omega
      · have := ih 2 (by omega) (by omega)
        show Runs _ _ (ccA (.slc a 1 [[c], [d]]) (IntKind.i64.wrap ((c.len : Int) + (d.len : Int))) (IntKind.i64.wrap (1 + 1))) _
        rw [e]
        exact this
  · have hjc := of_decide_eq_false hjc
    have : j = 2 := by omega
    subst this
    have hk : (if 2 = 0 then (0 : Int) else if 2 = 1 then (c.len : Int) else ((c.len + d.len : Nat) : Int)) = ((c.len + d.len : Nat) : Int) := rfl
    rw [hk]
    generalize hkk : c.len + d.len = k at *
    have hw : IntKind.i64.wrap ((k : Int) - IntKind.i64.wrap (0 - (0 : Int))) = k := by
      rw [wrap64 (n := 0 - (0 : Int)) (by omega) (by omega), wrap64 (by omega) (by omega)]; omega
    refine ⟨fun hn => ?_, fun hn => ⟨fun hp => ?_, fun hp => ?_⟩⟩
    · have := of_decide_eq_true hn; omega
    · have hp := of_decide_eq_true hp
      rw [hw] at hp ⊢
      refine ⟨⟨by omega, by omega, by omega, .inl rfl⟩, ⟨rfl, hp, by omega, by omega⟩, fun hs => ⟨⟨by omega, by simp only [len_slc]; omega, .inr rfl⟩, ?_⟩⟩
      exact joinB hc hd lc ld (hs 0 0).hd
    · exact vecIn_to 9 3 1 none 6 (ccB (.slc a 1 [[c], [d]]) (.slc none 1 []) 0) (by kernel_rfl) (joinB hc hd lc ld none)
end Go.Proofs.Ytodhhmjilnfecaa
end
section
open Go Go.Proofs Sx
namespace Go.Proofs.Ytodhhmjilnfecaa
set_option maxRecDepth 100000
set_option maxHeartbeats 0
noncomputable def ctP : Ctrs := [(104, ctrOf (rdD.one.sp spAsc)), (54, ctrOf ((rdD.two rdBool).sp spHasB)), (106, oCtr (spJoin Int 3)), (78, oCtr (spClone Int 3)), (81, oCtr (spClone Sec 81)), (79, oCtr (spClone Ev 108)), (80, oCtr (spClone Wt 31))]
noncomputable def opL (ha hb hc wt hd p : D) (fz : Bool) (j : Int) : Conf := Conf.mk (SFrm.mk 40 none none [Item.inLoop (cAt Try.prog 40 [1, 1, 1, 1, 0, 1, 0, 0]), Item.inBlock 0, Item.code (cAt Try.prog 40 [1, 1, 1, 1, 1])] (mkJ 0 [(1, .ptr 0 0), (5, .ptr 1 0), (30, .dat hc), (31, .int .i64 hc.len), (32, .int .i64 j)] 0 130)) []
 [(0, .cells 28 [.dat ha, .dat hb, .dat hc, .dat wt, .dat hd, .bool fz]), (1, .cells 91 [.vec 2, .dat ha, .dat hb, .dat hc, .dat wt, .dat hd, .bool fz]), (2, .arr 4 p)]
noncomputable def dvL (ha hb hc wt hd p s q : D) (fz : Bool) (i j : Int) : Conf := Conf.mk (SFrm.mk 77 none none [Item.inLoop (cAt Try.prog 77 [1, 1, 1, 0, 1, 0, 0]), Item.inBlock 0, Item.code (cAt Try.prog 77 [1, 1, 1, 1])] (mkJ 1 [(3, .vec 0), (30, .vec 1), (31, .int .i64 q.len), (32, .int .i64 j)] 0 57))
 [SFrm.mk 40 (some (opsAt Try.prog 40 [1, 1, 1, 1, 1, 0, 0, 0], [2, 3])) (some 50) [Item.code (cAt Try.prog 40 [1, 1, 1, 1, 1, 0, 0, 1]), Item.inBlock 2, Item.code (cAt Try.prog 40 [1, 1, 1, 1, 1, 1])] (mkJ 0 [(1, .ptr 2 0), (5, .ptr 3 0), (30, .dat hc), (31, .int .i64 hc.len), (32, .int .i64 i), (33, .bool (decide (i < (hc.len : Int)))), (49, .ptr 3 0)] 0 130)]
 [(0, .arr 4 s), (1, .arr 3 q), (2, .cells 28 [.dat ha, .dat hb, .dat hc, .dat wt, .dat hd, .bool fz]), (3, .cells 91 [.vec 4, .dat ha, .dat hb, .dat hc, .dat wt, .dat hd, .bool fz]), (4, .arr 4 p)]
noncomputable def clL (p a b c wt hd : D) (fz : Bool) (n : Nat) (j : Int) : Conf := Conf.mk (SFrm.mk 40 none none [Item.inLoop (cAt Try.prog 40 [1, 1, 1, 1, 1, 1, 1, 1, 1, 0, 1, 0, 0]), Item.inBlock 3, Item.code (cAt Try.prog 40 [1, 1, 1, 1, 1, 1, 1, 1, 1, 1])] (mkJ 0 [(5, .ptr 0 0), (8, .ptr 0 1), (108, .int .i64 n), (109, .int .i64 j)] 0 130)) []
 [(0, .cells 91 [.vec 1, .vec 2, .vec 3, .vec 4, .vec 5, .vec 6, .bool fz]), (1, .arr 4 p), (2, .arr 3 a), (3, .arr 31 b), (4, .arr 108 c), (5, .arr 3 wt), (6, .arr 3 hd)]
section
variable (m : Nat) (s q : D) (i : Int) (n j k w : Int) (ha hb hc wt hd p : D) (fz : Bool)
theorem op_go : 
 let z1 := (SFrm.mk 40 none none [Item.inLoop (cAt Try.prog 40 [1, 1, 1, 1, 0, 1, 0, 0]), Item.inBlock 0, Item.code (cAt Try.prog 40 [1, 1, 1, 1, 1])] (mkJ 0 [(1, .ptr 0 0), (5, .ptr 1 0), (30, .dat hc), (31, .int .i64 (↑(D.len hc) : Int)), (32, .int .i64 (IntKind.wrap .i64 (j + 1)))] 0 130))
 exec Try.prog ctP 800 (unroll (opL ha hb hc wt hd p fz j)) =
 Tree.br (decide (j < (↑(D.len hc) : Int))) (.need (0 ≤ j ∧ j < (↑(D.len hc) : Int) ∧ D.sz hc = 2) (.need (D.HasCells hc (Int.toNat j) 0 [FT.int .i64, FT.int .i64]) (.br (decide (D.getInt hc (Int.toNat j) 0 = 1))
 (.all fun hs => .need (0 ≤ D.getInt hc (Int.toNat j) 1 ∧ D.getInt hc (Int.toNat j) 1 < (↑(D.len p) : Int) ∧ D.sz p = 1) (.need (Int.toNat (D.getInt hc (Int.toNat j) 1) < D.len p ∧ 1 ≤ D.sz p ∧ D.sz p = 1)
 (.leaf (Conf.mk z1 [] [(0, OBlk.cells 28 [.dat ha, .dat hb, .dat hc, .dat wt, .dat hd, .bool fz]), (1, OBlk.cells 91 [.vec 2, .dat ha, .dat hb, .dat hc, .dat wt, .dat hd, .bool fz]), (2, OBlk.arr 4 (D.setCells p
 (Int.toNat (D.getInt hc (Int.toNat j) 1)) 0 [D.bool true]))])))) (.leaf (Conf.mk z1 [] [(0, OBlk.cells 28 [.dat ha, .dat hb, .dat hc, .dat wt, .dat hd, .bool fz]), (1, OBlk.cells 91 [.vec 2, .dat ha, .dat hb, .dat hc, .dat wt, .dat hd, .bool fz]),
 (2, OBlk.arr 4 p)]))))) (.need (D.Is Int wt ∧ D.len wt ≤ 1048576) (.br (!asc (D.to Int wt)) (.ret (SV.tup [SV.nilp, .int .i64 3])) (.br (nilOf (evS (putS [.vec 2, SV.undef, .nils, SV.undef, SV.undef, SV.undef, SV.undef, SV.undef]
 (some 3) (evS [.vec 2, SV.undef, .nils, SV.undef, SV.undef, SV.undef, SV.undef, SV.undef] (Operand.tmp 0))) (Operand.tmp 3)) p) (.all fun hs => .need (D.Is Int wt ∧ D.Is Int hd ∧ D.len wt ≤ 1048576 ∧ D.len hd ≤ 1048576)
 (.leaf (Conf.mk (SFrm.mk 77 none none [Item.inLoop (cAt Try.prog 77 [1, 1, 1, 0, 1, 0, 0]), Item.inBlock 0, Item.code (cAt Try.prog 77 [1, 1, 1, 1])] (mkJ 1 [(3, .nils), (30, .vec 0), (31, .int .i64 (↑(D.len
 (D.slc (D.hd (hs 11 0)) 1 (List.append (D.rows wt) (D.rows hd)))) : Int)), (32, .int .i64 0)] 0 57)) [SFrm.mk 40 (some (opsAt Try.prog 40 [1, 1, 1, 1, 1, 0, 0, 0], [2, 3])) (some 50) [Item.code (cAt Try.prog 40 [1, 1, 1, 1, 1, 0, 0, 1]), Item.inBlock 2, Item.code
 (cAt Try.prog 40 [1, 1, 1, 1, 1, 1])] (mkJ 0 [(1, .ptr 1 0), (5, .ptr 2 0), (30, .dat hc), (31, .int .i64 (↑(D.len hc) : Int)), (32, .int .i64 j), (33, .bool (decide (j < (↑(D.len hc) : Int)))), (49, .ptr 2 0)] 0 130)] [(0, OBlk.arr 3
 (D.slc (D.hd (hs 11 0)) 1 (List.append (D.rows wt) (D.rows hd)))), (1, OBlk.cells 28 [.dat ha, .dat hb, .dat hc, .dat wt, .dat hd, .bool fz]), (2, OBlk.cells 91 [.vec 3, .dat ha, .dat hb, .dat hc, .dat wt, .dat hd, .bool fz]),
 (3, OBlk.arr 4 p)]))) (.all fun hs => .need (D.sz (D.slc (D.hd (hs 0 0)) 1 []) = 1 ∧ D.Fits p 1 ∧ (D.len (D.slc (D.hd (hs 0 0)) 1 []) + D.len p) * 1 ≤ 140737488355328 ∧ D.len (D.slc (D.hd (hs 0 0)) 1 []) + D.len p ≤ 9223372036854775807)
 (.all fun hs_1 => .all fun hs_2 => .need (D.Is Int wt ∧ D.Is Int hd ∧ D.len wt ≤ 1048576 ∧ D.len hd ≤ 1048576) (.leaf (Conf.mk (SFrm.mk 77 none none [Item.inLoop (cAt Try.prog 77 [1, 1, 1, 0, 1, 0, 0]), Item.inBlock 0, Item.code
 (cAt Try.prog 77 [1, 1, 1, 1])] (mkJ 1 [(3, .vec 0), (30, .vec 1), (31, .int .i64 (↑(D.len (D.slc (D.hd (hs_2 11 0)) 1 (List.append (D.rows wt) (D.rows hd)))) : Int)), (32, .int .i64 0)] 0 57)) [SFrm.mk 40
 (some (opsAt Try.prog 40 [1, 1, 1, 1, 1, 0, 0, 0], [2, 3])) (some 50) [Item.code (cAt Try.prog 40 [1, 1, 1, 1, 1, 0, 0, 1]), Item.inBlock 2, Item.code (cAt Try.prog 40 [1, 1, 1, 1, 1, 1])] (mkJ 0 [(1, .ptr 2 0),
 (5, .ptr 3 0), (30, .dat hc), (31, .int .i64 (↑(D.len hc) : Int)), (32, .int .i64 j), (33, .bool (decide (j < (↑(D.len hc) : Int)))), (49, .ptr 3 0)] 0 130)] [(0, OBlk.arr 4 (D.slc (D.hd (hs_1 0 0)) 1
 (List.append (D.rows (D.slc (D.hd (hs 0 0)) 1 [])) (D.rows p)))), (1, OBlk.arr 3 (D.slc (D.hd (hs_2 11 0)) 1 (List.append (D.rows wt) (D.rows hd)))), (2, OBlk.cells 28 [.dat ha, .dat hb, .dat hc, .dat wt, .dat hd, .bool fz]),
 (3, OBlk.cells 91 [.vec 4, .dat ha, .dat hb, .dat hc, .dat wt, .dat hd, .bool fz]), (4, OBlk.arr 4 p)]))))))) := by
 intros; kernel_rfl

theorem dv_go : 
 let z1 : Tree := (.all fun hs => .need (D.Is Int wt ∧ D.len wt ≤ 1048576) (.need (D.Is Int hd ∧ D.len hd ≤ 1048576) (.all fun hs_1 => .need (D.Is Int ha ∧ D.len ha ≤ 1048576) (.need (D.Is Ev hc ∧ D.len hc ≤ 1048576) (.need (D.Is Wt hb ∧ D.len hb ≤ 1048576) (.leaf (Conf.mk (SFrm.mk 40 none none [Item.inLoop (cAt Try.prog 40 [1, 1, 1, 1, 1, 1, 1, 1, 1, 0, 1, 0, 0]), Item.inBlock 3, Item.code (cAt Try.prog 40 [1, 1, 1, 1, 1, 1, 1, 1, 1, 1])] (mkJ 0 [(5, .ptr 0 0), (8, .ptr 0 1), (108, .int .i64 (↑(D.len (D.slc (D.hd (hs_1 17 0)) 3 (D.rows hb))) : Int)), (109, .int .i64 0)] 0 130)) [] [(0, OBlk.cells 91 [.vec 1, .vec 2, .vec 3, .vec 4, .vec 5, .vec 6, .bool fz]), (1, OBlk.arr 4 p), (2, OBlk.arr 3 (D.slc (D.hd (hs_1 7 0)) 1 (D.rows ha))), (3, OBlk.arr 31 (D.slc (D.hd (hs_1 17 0)) 3 (D.rows hb))), (4, OBlk.arr 108 (D.slc (D.hd (hs_1 12 0)) 2 (D.rows hc))), (5, OBlk.arr 3 (D.slc (D.hd (hs 4 0)) 1 (D.rows wt))), (6, OBlk.arr 3 (D.slc (D.hd (hs 7 0)) 1 (D.rows hd)))])))))))
 exec Try.prog ctP 800 (unroll (dvL ha hb hc wt hd p s q fz i j)) =
 Tree.br (decide (j < (↑(D.len q) : Int))) (.need (0 ≤ j ∧ j < (↑(D.len q) : Int) ∧ D.sz q = 1) (.need (D.HasCell q (Int.toNat j) 0 (FT.int .i64) ∧ D.sz q = 1) (.br (decide (D.getInt q (Int.toNat j) 0 < 0))
 (.ret (SV.tup [SV.nilp, .int .i64 3])) (.br (decide (D.getInt q (Int.toNat j) 0 ≥ (↑(D.len s) : Int))) (.ret (SV.tup [SV.nilp, .int .i64 3])) (.need (0 ≤ D.getInt q (Int.toNat j) 0 ∧ D.getInt q (Int.toNat j) 0 <
 (↑(D.len s) : Int) ∧ D.sz s = 1) (.need (D.HasCell s (Int.toNat (D.getInt q (Int.toNat j) 0)) 0 FT.bool ∧ D.sz s = 1) (.br (D.getBool s (Int.toNat (D.getInt q (Int.toNat j) 0)) 0) (.ret (SV.tup [SV.nilp, .int .i64 3]))
 (.need (0 ≤ D.getInt q (Int.toNat j) 0 ∧ D.getInt q (Int.toNat j) 0 < (↑(D.len s) : Int) ∧ D.sz s = 1) (.need (Int.toNat (D.getInt q (Int.toNat j) 0) < D.len s ∧ 1 ≤ D.sz s ∧ D.sz s = 1) (.leaf (Conf.mk
 (SFrm.mk 77 none none [Item.inLoop (cAt Try.prog 77 [1, 1, 1, 0, 1, 0, 0]), Item.inBlock 0, Item.code (cAt Try.prog 77 [1, 1, 1, 1])] (mkJ 1 [(3, .vec 0), (30, .vec 1), (31, .int .i64 (↑(D.len q) : Int)),
 (32, .int .i64 (IntKind.wrap .i64 (j + 1)))] 0 57)) [SFrm.mk 40 (some (opsAt Try.prog 40 [1, 1, 1, 1, 1, 0, 0, 0], [2, 3])) (some 50) [Item.code (cAt Try.prog 40 [1, 1, 1, 1, 1, 0, 0, 1]), Item.inBlock 2, Item.code
 (cAt Try.prog 40 [1, 1, 1, 1, 1, 1])] (mkJ 0 [(1, .ptr 2 0), (5, .ptr 3 0), (30, .dat hc), (31, .int .i64 (↑(D.len hc) : Int)), (32, .int .i64 i), (33, .bool (decide (i < (↑(D.len hc) : Int)))), (49, .ptr 3 0)] 0 130)] [(0, OBlk.arr 4
 (D.setCells s (Int.toNat (D.getInt q (Int.toNat j) 0)) 0 [D.bool true])), (1, OBlk.arr 3 q), (2, OBlk.cells 28 [.dat ha, .dat hb, .dat hc, .dat wt, .dat hd, .bool fz]), (3, OBlk.cells 91 [.vec 4, .dat ha, .dat hb, .dat hc, .dat wt, .dat hd, .bool fz]),
 (4, OBlk.arr 4 p)]))))))))))) (.need (D.Is Bool s ∧ D.len s ≤ 1048576) (.br (!!List.any (D.to Bool s) fun y => decide (false = y)) (.ret (SV.tup [SV.nilp, .int .i64 3])) (.br (decide ((↑(D.len hd) : Int) > 0))
 (.br (!fz) (.ret (SV.tup [SV.nilp, .int .i64 12])) z1) z1))) := by
 intros; kernel_rfl

theorem cl_go : execR Try.prog ctP 800 (unroll (clL p ha hb hc wt hd fz m j)) =
 Tree.br (decide (j < (↑m : Int)))
 (.all fun hs =>
 .need (0 ≤ j ∧ j < (↑(D.len hb) : Int) ∧ D.sz hb = 3)
 (.need (D.HasCell hb (Int.toNat j) 2 FT.slc ∧ D.sz hb = 3)
 (.need (D.Is Sec (D.cell hb (Int.toNat j) 2) ∧ D.len (D.cell hb (Int.toNat j) 2) ≤ 1048576)
 (.need (0 ≤ j ∧ j < (↑(D.len hb) : Int) ∧ D.sz hb = 3)
 (.need (Int.toNat j < D.len hb ∧ 3 ≤ D.sz hb ∧ D.sz hb = 3)
 (.leaf
 (Conf.mk
 (SFrm.mk 40 none none
 [Item.inLoop (cAt Try.prog 40 [1, 1, 1, 1, 1, 1, 1, 1, 1, 0, 1, 0, 0]), Item.inBlock 3,
 Item.code (cAt Try.prog 40 [1, 1, 1, 1, 1, 1, 1, 1, 1, 1])]
 (mkJ 0
 [(5, .ptr 0 0), (8, .ptr 0 1), (108, .int .i64 (↑m : Int)),
 (109, .int .i64 (IntKind.wrap .i64 (j + 1)))]
 0 130))
 []
 [(0, OBlk.cells 91 [.vec 1, .vec 2, .vec 3, .vec 4, .vec 5, .vec 6, .bool fz]),
 (1, OBlk.arr 4 p), (2, OBlk.arr 3 ha),
 (3,
 OBlk.arr 31
 (D.setCells hb (Int.toNat j) 2
 [D.slc (D.hd (hs 13 0)) 8 (D.rows (D.cell hb (Int.toNat j) 2))])),
 (4, OBlk.arr 108 hc), (5, OBlk.arr 3 wt), (6, OBlk.arr 3 hd)])))))))
 (.leaf
 (Conf.mk
 (SFrm.mk 40 none none [Item.code (cAt Try.prog 40 [1, 0, 1, 1, 0, 1])]
 (mkJ 0
 [(2, .ptr 0 0), (3, .int .i64 0), (5, .ptr 0 0), (8, .ptr 0 1),
 (108, .int .i64 (↑m : Int)), (109, .int .i64 j), (110, .bool (decide (j < (↑m : Int)))),
 (129, .ptr 0 0)]
 0 130))
 []
 [(0, OBlk.cells 91 [.vec 1, .vec 2, .vec 3, .vec 4, .vec 5, .vec 6, .bool fz]), (1, OBlk.arr 4 p),
 (2, OBlk.arr 3 ha), (3, OBlk.arr 31 hb), (4, OBlk.arr 108 hc), (5, OBlk.arr 3 wt), (6, OBlk.arr 3 hd)])) := by kernel_rfl

end
end Go.Proofs.Ytodhhmjilnfecaa
end
section
open Go
namespace Sx
structure Gr where
  hist : Hist
  waiting : List Int
  held : List Int
  frozen : Bool
deriving DecidableEq
structure GrD where
  h : HiD
  wt : D
  hd : D
  fz : Bool
def GrD.gr (x : GrD) : Gr := ⟨x.h.hist, x.wt.to Int, x.hd.to Int, x.fz⟩
def GrD.Right (x : GrD) : Prop := x.h.Right ∧ x.wt.Is Int ∧ x.hd.Is Int ∧ x.wt.len ≤ 1048576 ∧ x.hd.len ≤ 1048576

def ackStep (a : List Bool) (x : Ev) : List Bool := if x.kind = 1 then a.set x.write.toNat true else a
def ackd (n : Nat) (l : List Ev) : List Bool := l.foldl ackStep (List.replicate n false)
theorem ackd_step {n : Nat} {l : List Ev} {j : Nat} (hj : j < l.length) : ackd n (l.take (j + 1)) = ackStep (ackd n (l.take j)) l[j] := by
  unfold ackd
  rw [List.take_succ_eq_append_getElem hj, List.foldl_append]
  rfl
theorem ackStep_len (a : List Bool) (x : Ev) : (ackStep a x).length = a.length := by
  unfold ackStep; split <;> simp
theorem ackd_len (n : Nat) (l : List Ev) : (ackd n l).length = n := by
  unfold ackd
  have : ∀ (l : List Ev) (a : List Bool), (l.foldl ackStep a).length = a.length := by
    intro l
    induction l with
    | nil => intro a; rfl
    | cons x r ih => intro a; rw [List.foldl_cons, ih, ackStep_len]
  rw [this, List.length_replicate]
def markAll : List Int → List Bool → Option (List Bool)
  | [], s => some s
  | w :: l, s => if w < 0 ∨ w ≥ s.length then none else if s.getD w.toNat false = true then none else markAll l (s.set w.toNat true)
def divided (g : Gr) : Bool := asc g.waiting && match markAll (g.waiting ++ g.held) (ackd g.hist.writes.length g.hist.events) with
  | some s => !s.any fun y => decide (false = y)
  | none => false
def openErr (g : Gr) : Int :=
  if (checkH g.hist).1 ≠ 0 then (checkH g.hist).1
  else if divided g = false then 3
  else if g.held.length > 0 ∧ g.frozen = false then 12 else 0

theorem mark_out {w : Int} {l : List Int} {s : List Bool} (h : w < 0 ∨ w ≥ s.length) : markAll (w :: l) s = none := by
  unfold markAll; rw [if_pos h]
theorem mark_hit {w : Int} {l : List Int} {s : List Bool} (h : s.getD w.toNat false = true) : markAll (w :: l) s = none := by
  unfold markAll; rw [h]; simp
theorem mark_go {w : Int} {l : List Int} {s : List Bool} (h : ¬(w < 0 ∨ w ≥ s.length)) (h2 : s.getD w.toNat false = false) : markAll (w :: l) s = markAll l (s.set w.toNat true) := by
  conv => lhs; unfold markAll
  rw [if_neg h, h2]; simp
theorem set_data {d : D} (hd : d.Is Wt) {i : Nat} (hi : i < (d.to Wt).length) (a : Hd) :
    (d.setCells i 2 [D.slc a 8 (D.rows (d.cell i 2))]).Is Wt ∧ (d.setCells i 2 [D.slc a 8 (D.rows (d.cell i 2))]).to Wt = d.to Wt := by
  obtain ⟨r, h1, ⟨v, s, x, rfl, hx⟩, h3⟩ := hd.row hi
  have e2 : d.cell i 2 = x := by simp [D.cell, D.cellAt, h1]
  have hz := hd.size hi
  have hr := rows_of hd
  have hl' := rows_len hr
  have hgi : d.rows.getD i [] = [.int .i64 v, .int .i64 s, x] := by rw [List.getD_eq_getElem?_getD, h1]; rfl
  have ec : cutIn (d.rows.getD i []) 2 [D.slc a 8 (D.rows (d.cell i 2))] = [.int .i64 v, .int .i64 s, D.slc a 8 x.rows] := by
    rw [hgi, e2]; rfl
  have hxs : (D.slc a 8 x.rows).Is Sec ∧ (D.slc a 8 x.rows).to Sec = x.to Sec := is_of rfl (rows_of hx)
  have hok : Codec.ok Wt [.int .i64 v, .int .i64 s, D.slc a 8 x.rows] := ⟨v, s, _, rfl, hxs.1⟩
  have hdec : (Codec.dec [.int .i64 v, .int .i64 s, D.slc a 8 x.rows] : Wt) = (d.to Wt)[i] := by
    rw [h3]
    show (⟨v, s, (D.slc a 8 x.rows).to Sec⟩ : Wt) = ⟨v, s, x.to Sec⟩
    rw [hxs.2]
  have := is_of (α := Wt) (h := d.hd) (s := d.sz) (rows := d.rows.set i [.int .i64 v, .int .i64 s, D.slc a 8 x.rows]) (xs := d.to Wt) hz ⟨fun r hr' => by
    rcases List.mem_or_eq_of_mem_set hr' with h | h
    · exact hr.1 r h
    · rw [h]; exact hok, by rw [List.map_set, hr.2, hdec, List.set_getElem_self]⟩
  unfold D.setCells
  rw [ec]
  exact this
end Sx
end
section
open Go Go.Proofs Sx
namespace Go.Proofs.Ytodhhmjilnfecaa
set_option maxRecDepth 100000
def openPhi (x : GrD) (v : SV) (m : Mem) : Prop :=
  (openErr x.gr ≠ 0 ∧ v = .tup [.nilp, .int .i64 (openErr x.gr)] ∧ m = []) ∨
  (openErr x.gr = 0 ∧ v = .tup [.ptr 0 0, .int .i64 0] ∧ ∃ p a b c wt hd, m = [(0, .cells 91 [.vec 1, .vec 2, .vec 3, .vec 4, .vec 5, .vec 6, .bool x.fz]), (1, .arr 4 p), (2, .arr 3 a), (3, .arr 31 b), (4, .arr 108 c), (5, .arr 3 wt), (6, .arr 3 hd)] ∧
    (p.Is Bool ∧ p.to Bool = ackd (x.h.w.to Wt).length (x.h.e.to Ev)) ∧ (a.Is Int ∧ a.to Int = x.h.s.to Int) ∧ (b.Is Wt ∧ b.to Wt = x.h.w.to Wt) ∧ (c.Is Ev ∧ c.to Ev = x.h.e.to Ev) ∧ (wt.Is Int ∧ wt.to Int = x.wt.to Int) ∧ (hd.Is Int ∧ hd.to Int = x.hd.to Int) ∧ c.sz = 2 ∧ wt.sz = 1 ∧ hd.sz = 1 ∧ p.sz = 1)

theorem ret_M {w : World} {H : HV} {Φ : SV → Mem → Prop} {v : SV} (hj : v.jk 0 = false) (h : Φ v []) : (Tree.ret v).holds Try.prog ⟨w, H⟩ (RetM w H Φ) :=
  ⟨rfl, fun E H' _ g hv => ⟨v, [], E, H', h, rfl, g, hv, hj, fun _ hx => by cases hx⟩⟩

theorem ctPOk : Ctrs.Ok Try.prog ctP := by
  intro x hx
  simp only [ctP, List.mem_cons, List.not_mem_nil, or_false] at hx
  rcases hx with rfl | rfl | rfl | rfl | rfl | rfl | rfl
  · exact ctrOf_ok lawAsc
  · exact ctrOf_ok lawHasB
  · exact oCtr_ok lawJoin
  · exact oCtr_ok lawCl1
  · exact oCtr_ok lawCl2
  · exact oCtr_ok lawCl3
  · exact oCtr_ok lawClW

theorem cl_loop {H : HV} {w : World} {x : GrD} (hx : x.Right) (h0 : openErr x.gr = 0) {p a b c wt hd : D}
    (hp : p.Is Bool ∧ p.to Bool = ackd (x.h.w.to Wt).length (x.h.e.to Ev)) (ha : a.Is Int ∧ a.to Int = x.h.s.to Int) (hb : b.Is Wt ∧ b.to Wt = x.h.w.to Wt) (hc : c.Is Ev ∧ c.to Ev = x.h.e.to Ev) (hw : wt.Is Int ∧ wt.to Int = x.wt.to Int) (hh : hd.Is Int ∧ hd.to Int = x.hd.to Int) (hz : c.sz = 2 ∧ wt.sz = 1 ∧ hd.sz = 1 ∧ p.sz = 1) :
    Runs Try.prog ⟨w, H⟩ (clL p a b c wt hd x.fz (x.h.w.to Wt).length 0) (RetM w H (openPhi x)) := by
  obtain ⟨⟨_, rb, _, _, lb, _, rd⟩, _⟩ := hx
  rw [D.Is.length (α := Wt)] at lb
  refine runs_loop (fun q : Nat × D => clL p a q.2 c wt hd x.fz (x.h.w.to Wt).length q.1) (fun q => q.1 ≤ (x.h.w.to Wt).length ∧ q.2.Is Wt ∧ q.2.to Wt = x.h.w.to Wt) (fun q => (x.h.w.to Wt).length - q.1) (fun _ => rfl) ?_ (0, b) ⟨Nat.zero_le _, hb⟩
  intro ⟨j, q⟩ ⟨hj, hq, hqt⟩ ih
  simp only at hj hq hqt ih
  show Runs _ _ (unroll (clL p a q c wt hd x.fz (x.h.w.to Wt).length j)) _
  apply execR_sound ctPOk 800
  rw [cl_go]
  have hql := D.Is.length (α := Wt) q
  refine ⟨fun hjc hs => ?_, fun hjc => ?_⟩
  · have hjc : j < (x.h.w.to Wt).length := by have := of_decide_eq_true hjc; omega
    have hjq : j < (q.to Wt).length := by rw [hqt]; exact hjc
    obtain ⟨c1, c2, c3⟩ := wt_cell hq hjq
    have hqz := hq.size hjq
    have hwd := rd _ (List.getElem_mem hjc)
    have hdl : (q.cell j 2).len ≤ 1048576 := by
      rw [D.Is.length (α := Sec)]
      have : ((q.to Wt)[j]).data = (q.cell j 2).to Sec := by rw [c3]
      rw [← this]
      have e : (q.to Wt)[j] = (x.h.w.to Wt)[j] := by simp only [hqt]
      rw [e]; exact hwd
    have hs2 := set_data hq hjq (hs 13 0).hd
    have b1 : 0 ≤ (j : Int) ∧ (j : Int) < (q.len : Int) ∧ q.sz = 3 := ⟨by omega, by omega, hqz⟩
    refine ⟨b1, ⟨c1.2.2.1, hqz⟩, ⟨c2, hdl⟩, b1, ⟨by simp only [Int.toNat_natCast]; omega, by rw [hqz]; exact Nat.le_refl 3, hqz⟩, ?_⟩
    have := ih (j + 1, q.setCells j 2 [D.slc (hs 13 0).hd 8 (D.rows (q.cell j 2))]) ⟨hjc, hs2.1, by rw [hs2.2, hqt]⟩ (by simp only; omega)
    simp only at this
    rw [← wrap_succ hjc lb] at this
    exact this
  · refine retM [(0, .cells 91 [.vec 1, .vec 2, .vec 3, .vec 4, .vec 5, .vec 6, .bool x.fz]), (1, .arr 4 p), (2, .arr 3 a), (3, .arr 31 q), (4, .arr 108 c), (5, .arr 3 wt), (6, .arr 3 hd)] (f := Try.f40) (l := [.ptr 0 0, .int .i64 0]) (by kernel_rfl) (by kernel_rfl) (List.Sublist.refl _) (by kernel_rfl) (by kernel_rfl) ?_
    exact .inr ⟨h0, rfl, p, a, q, c, wt, hd, rfl, hp, ha, ⟨hq, hqt⟩, hc, hw, hh, hz⟩
theorem dv_loop {H : HV} {w : World} {x : GrD} (hx : x.Right) (h0 : (checkH x.gr.hist).1 = 0) (h1 : asc (x.wt.to Int) = true) {p s q : D} {i : Nat}
    (hp : p.Is Bool ∧ p.to Bool = ackd (x.h.w.to Wt).length (x.h.e.to Ev)) (hs : s.Is Bool ∧ s.to Bool = ackd (x.h.w.to Wt).length (x.h.e.to Ev)) (hq : q.Is Int ∧ q.to Int = x.wt.to Int ++ x.hd.to Int) (hpz : p.sz = 1) :
    Runs Try.prog ⟨w, H⟩ (dvL x.h.s x.h.w x.h.e x.wt x.hd p s q x.fz i 0) (RetM w H (openPhi x)) := by
  obtain ⟨⟨ra, rb, rc, la, lb, lc, rd⟩, rw', rh, lw, lh⟩ := id hx
  have al := D.Is.length (α := Int) x.h.s
  have bl := D.Is.length (α := Wt) x.h.w
  have cl := D.Is.length (α := Ev) x.h.e
  have wl := D.Is.length (α := Int) x.wt
  have hl := D.Is.length (α := Int) x.hd
  have ql := D.Is.length (α := Int) q
  obtain ⟨hq, hqt⟩ := hq
  have hqn : (q.to Int).length ≤ 2097152 := by rw [hqt, List.length_append]; omega
  have hn4 : (x.h.w.to Wt).length ≤ 4096 := (checkH_ok h0).2.2.2.1
  have hsl0 := hs
  -- errors
  have bad : markAll (q.to Int) (ackd (x.h.w.to Wt).length (x.h.e.to Ev)) = none → openErr x.gr = 3 := fun h => by
    unfold openErr
    rw [if_neg (by simp [h0])]
    have hd' : divided x.gr = false := by
      unfold divided
      show (asc (x.wt.to Int) && match markAll (x.wt.to Int ++ x.hd.to Int) (ackd (x.h.w.to Wt).length (x.h.e.to Ev)) with | some s => !s.any fun y => decide (false = y) | none => false) = false
      rw [← hqt, h]; simp
    rw [if_pos hd']
  have err3 : markAll (q.to Int) (ackd (x.h.w.to Wt).length (x.h.e.to Ev)) = none → (Tree.ret (.tup [.nilp, .int .i64 3])).holds Try.prog ⟨w, H⟩ (RetM w H (openPhi x)) := fun h =>
    ret_M rfl (.inl ⟨by rw [bad h]; decide, by rw [bad h], rfl⟩)
  refine runs_loop (fun u : Nat × D => dvL x.h.s x.h.w x.h.e x.wt x.hd p u.2 q x.fz i u.1) (fun u => u.1 ≤ (q.to Int).length ∧ u.2.Is Bool ∧ (u.2.to Bool).length = (x.h.w.to Wt).length ∧ markAll ((q.to Int).drop u.1) (u.2.to Bool) = markAll (q.to Int) (ackd (x.h.w.to Wt).length (x.h.e.to Ev))) (fun u => (q.to Int).length - u.1) (fun _ => rfl) ?_ (0, s) ⟨Nat.zero_le _, hs.1, by rw [hs.2, ackd_len], by rw [hs.2]; rfl⟩
  intro ⟨j, s⟩ ⟨hj, hs, hsl, hm⟩ ih
  simp only at hj hs hsl hm ih
  show Runs _ _ (unroll (dvL x.h.s x.h.w x.h.e x.wt x.hd p s q x.fz i j)) _
  apply exec_sound ctPOk 800
  rw [dv_go]
  have sl := D.Is.length (α := Bool) s
  refine ⟨fun hjc => ?_, fun hjc => ?_⟩
  · have hjc : j < (q.to Int).length := by have := of_decide_eq_true hjc; omega
    obtain ⟨c1, c2, c3⟩ := int_at hq hjc
    have hdrop : (q.to Int).drop j = (q.to Int)[j] :: (q.to Int).drop (j + 1) := List.drop_eq_getElem_cons hjc
    rw [hdrop] at hm
    rw [c3]
    generalize (q.to Int)[j] = v at *
    refine ⟨c1, ⟨c2, c1.2.2⟩, fun hv => err3 ?_, fun hv => ⟨fun hv2 => err3 ?_, fun hv2 => ?_⟩⟩
    · have := of_decide_eq_true hv
      rw [← hm]; exact mark_out (.inl this)
    · have := of_decide_eq_true hv2
      rw [← hm]; exact mark_out (.inr (by omega))
    · have hv := of_decide_eq_false hv
      have hv2 := of_decide_eq_false hv2
      have hvi : v.toNat < (s.to Bool).length := by omega
      obtain ⟨d1, d2, d3⟩ := bool_at hs hvi
      have hvv : ((v.toNat : Nat) : Int) = v := by omega
      rw [hvv] at d1 d2 d3
      have b1 : 0 ≤ v ∧ v < (s.len : Int) ∧ s.sz = 1 := d1
      have hgd : (s.to Bool).getD v.toNat false = (s.to Bool)[v.toNat] := by rw [List.getD_eq_getElem?_getD, List.getElem?_eq_getElem hvi]; rfl
      rw [d3]
      refine ⟨b1, ⟨d2, d1.2.2⟩, fun hb => err3 ?_, fun hb => ⟨b1, ⟨by omega, by rw [d1.2.2]; exact Nat.le_refl 1, d1.2.2⟩, ?_⟩⟩
      · rw [← hm]; exact mark_hit (by rw [hgd]; exact hb)
      · have hset := set_full hs hvi (xs := [D.bool true]) (x := true) rfl (ok_bool true) rfl
        have := ih (j + 1, s.setCells v.toNat 0 [D.bool true]) ⟨hjc, hset.1, by rw [hset.2, List.length_set]; exact hsl, by
          rw [← hm, mark_go (by omega) (by rw [hgd]; exact hb), hset.2]⟩ (by simp only; omega)
        simp only at this
        rw [show ((j + 1 : Nat) : Int) = IntKind.i64.wrap ((j : Int) + 1) by rw [wrap64 (by omega) (by omega)]; omega] at this
        exact this
  · have : j = (q.to Int).length := by have := of_decide_eq_false hjc; omega
    subst this
    rw [List.drop_length] at hm
    have hm : some (s.to Bool) = markAll (q.to Int) (ackd (x.h.w.to Wt).length (x.h.e.to Ev)) := hm
    have hdv : divided x.gr = !(s.to Bool).any fun y => decide (false = y) := by
      unfold divided
      show (asc (x.wt.to Int) && match markAll (x.wt.to Int ++ x.hd.to Int) (ackd (x.h.w.to Wt).length (x.h.e.to Ev)) with | some s => !s.any fun y => decide (false = y) | none => false) = _
      rw [h1, ← hqt, ← hm]; rfl
    have hoe : openErr x.gr = if divided x.gr = false then 3 else if (x.hd.to Int).length > 0 ∧ x.fz = false then 12 else 0 := by
      unfold openErr
      rw [if_neg (by simp [h0])]; rfl
    refine ⟨⟨hs, by omega⟩, fun hb => ?_, fun hb => ?_⟩
    · have he : openErr x.gr = 3 := by rw [hoe, hdv, if_pos (by simpa using hb)]
      exact ret_M rfl (.inl ⟨by rw [he]; decide, by rw [he], rfl⟩)
    · have hdt : ¬(divided x.gr = false) := by rw [hdv]; simpa using hb
      rw [if_neg hdt] at hoe
      have fin : openErr x.gr = 0 → ∀ a b c d e, Runs Try.prog ⟨w, H⟩ (clL p (D.slc a 1 (D.rows x.h.s)) (D.slc b 3 (D.rows x.h.w)) (D.slc c 2 (D.rows x.h.e)) (D.slc d 1 (D.rows x.wt)) (D.slc e 1 (D.rows x.hd)) x.fz (x.h.w.to Wt).length 0) (RetM w H (openPhi x)) := fun he a b c d e =>
        cl_loop hx he hp (is_of rfl (rows_of ra)) (is_of rfl (rows_of rb)) (is_of rfl (rows_of rc)) (is_of rfl (rows_of rw')) (is_of rfl (rows_of rh)) ⟨rfl, rfl, rfl, hpz⟩
      have fin2 : openErr x.gr = 0 → ∀ a b c d e, Runs Try.prog ⟨w, H⟩ (clL p (D.slc a 1 (D.rows x.h.s)) (D.slc b 3 (D.rows x.h.w)) (D.slc c 2 (D.rows x.h.e)) (D.slc d 1 (D.rows x.wt)) (D.slc e 1 (D.rows x.hd)) x.fz (D.slc b 3 (D.rows x.h.w)).len 0) (RetM w H (openPhi x)) := fun he a b c d e => by
        have := fin he a b c d e
        rw [← bl] at this
        exact this
      refine ⟨fun hg => ⟨fun hf => ?_, fun hf hs0 => ⟨⟨rw', lw⟩, ⟨rh, lh⟩, fun hs1 => ⟨⟨ra, la⟩, ⟨rc, lc⟩, ⟨rb, lb⟩, ?_⟩⟩⟩, fun hg hs0 => ⟨⟨rw', lw⟩, ⟨rh, lh⟩, fun hs1 => ⟨⟨ra, la⟩, ⟨rc, lc⟩, ⟨rb, lb⟩, ?_⟩⟩⟩
      · have hg := of_decide_eq_true hg
        have he : openErr x.gr = 12 := by rw [hoe, if_pos ⟨by omega, by simpa using hf⟩]
        exact ret_M rfl (.inl ⟨by rw [he]; decide, by rw [he], rfl⟩)
      · have he : openErr x.gr = 0 := by rw [hoe, if_neg (by simp at hf; simp [hf])]
        exact fin2 he _ _ _ _ _
      · have hg := of_decide_eq_false hg
        have he : openErr x.gr = 0 := by rw [hoe, if_neg (by omega)]
        exact fin2 he _ _ _ _ _
theorem ctOOk : Ctrs.Ok Try.prog ctO := by
  intro x hx
  simp only [ctO, List.mem_cons, List.not_mem_nil, or_false] at hx
  rcases hx with rfl | rfl | rfl | rfl | rfl
  · exact ctrOf_ok lawChkH
  · exact oCtr_ok lawCl1
  · exact oCtr_ok lawCl2
  · exact oCtr_ok lawCl3
  · exact oCtr_ok lawClW

theorem nilOf_rows {k : Nat} {d : D} (h : nilOf (.vec k) d = true) : d.rows = [] := by
  unfold nilOf at h
  cases hr : d.rows with
  | nil => rfl
  | cons a l => simp [hr] at h

theorem op_loop {H : HV} {w : World} {x : GrD} (hx : x.Right) (h0 : (checkH x.gr.hist).1 = 0) {p : D} (hp : p.Is Bool ∧ p.to Bool = List.replicate (x.h.w.to Wt).length false) (hpz : p.sz = 1) :
    Runs Try.prog ⟨w, H⟩ (opL x.h.s x.h.w x.h.e x.wt x.hd p x.fz 0) (RetM w H (openPhi x)) := by
  obtain ⟨⟨ra, rb, rc, la, lb, lc, rd⟩, rw', rh, lw, lh⟩ := id hx
  have bl := D.Is.length (α := Wt) x.h.w
  have cl := D.Is.length (α := Ev) x.h.e
  have hn4 : (x.h.w.to Wt).length ≤ 4096 := (checkH_ok h0).2.2.2.1
  refine runs_loop (fun u : Nat × D => opL x.h.s x.h.w x.h.e x.wt x.hd u.2 x.fz u.1) (fun u => u.1 ≤ (x.h.e.to Ev).length ∧ (u.2.Is Bool ∧ u.2.to Bool = ackd (x.h.w.to Wt).length ((x.h.e.to Ev).take u.1)) ∧ u.2.sz = 1) (fun u => (x.h.e.to Ev).length - u.1) (fun _ => rfl) ?_ (0, p) ⟨Nat.zero_le _, hp, hpz⟩
  intro ⟨j, p⟩ ⟨hj, ⟨hp, hpt⟩, hpz⟩ ih
  simp only at hj hp hpt hpz ih
  show Runs _ _ (unroll (opL x.h.s x.h.w x.h.e x.wt x.hd p x.fz j)) _
  apply exec_sound ctPOk 800
  rw [op_go]
  have pl := D.Is.length (α := Bool) p
  have ptl : (p.to Bool).length = (x.h.w.to Wt).length := by rw [hpt, ackd_len]
  refine ⟨fun hjc => ?_, fun hjc => ?_⟩
  · have hjc : j < (x.h.e.to Ev).length := by have := of_decide_eq_true hjc; omega
    obtain ⟨c1, c2, c3⟩ := ev_cell rc hjc
    have hk := (checkH_ok h0).1.kind _ (List.getElem_mem hjc)
    have hle := (checkH_ok h0).1.le
    have hst := ackd_step (n := (x.h.w.to Wt).length) hjc
    have g0 : x.h.e.getInt (Int.toNat (j : Int)) 0 = ((x.h.e.to Ev)[j]).kind := c2
    have g1 : x.h.e.getInt (Int.toNat (j : Int)) 1 = ((x.h.e.to Ev)[j]).write := c3
    rw [g0, g1]
    have hk : (((x.h.e.to Ev)[j]).kind = 0 ∨ ((x.h.e.to Ev)[j]).kind = 1) ∧ 0 ≤ ((x.h.e.to Ev)[j]).write ∧ ((x.h.e.to Ev)[j]).write < (checkH x.gr.hist).2.issued.length := hk
    have hle : (checkH x.gr.hist).2.issued.length ≤ (x.h.w.to Wt).length := hle
    generalize (x.h.e.to Ev)[j] = ev at *
    obtain ⟨k, v⟩ := ev
    simp only at hk
    refine ⟨⟨by omega, by omega, rc.size hjc⟩, c1, fun h1 hs => ?_, fun h1 => ?_⟩
    · have h1 : k = 1 := of_decide_eq_true h1
      have hvi : v.toNat < (p.to Bool).length := by omega
      have hz := hp.size hvi
      have hset := set_full hp hvi (xs := [D.bool true]) (x := true) rfl (ok_bool true) rfl
      refine ⟨⟨hk.2.1, by omega, hz⟩, ⟨by omega, by rw [hz]; exact Nat.le_refl 1, hz⟩, ?_⟩
      have := ih (j + 1, p.setCells v.toNat 0 [D.bool true]) ⟨hjc, ⟨hset.1, by
        rw [hst, ← hpt, hset.2]; unfold ackStep; rw [if_pos h1]⟩, hpz⟩ (by simp only; omega)
      simp only at this
      rw [← wrap_succ (n := 1048576) (by omega) (by omega)] at this
      exact this
    · have h1 : ¬k = 1 := of_decide_eq_false h1
      have := ih (j + 1, p) ⟨hjc, ⟨hp, by rw [hst, ← hpt]; unfold ackStep; rw [if_neg h1]⟩, hpz⟩ (by simp only; omega)
      simp only at this
      rw [← wrap_succ (n := 1048576) (by omega) (by omega)] at this
      exact this
  · have : j = (x.h.e.to Ev).length := by have := of_decide_eq_false hjc; omega
    subst this
    rw [List.take_length] at hpt
    have hplen : p.len ≤ 1048576 := by omega
    refine ⟨⟨rw', lw⟩, fun ha => ?_, fun ha => ?_⟩
    · have he : openErr x.gr = 3 := by
        unfold openErr
        rw [if_neg (by simp [h0])]
        have : divided x.gr = false := by
          unfold divided
          have : asc x.gr.waiting = false := by
            show asc (x.wt.to Int) = false
            simpa using ha
          rw [this]; rfl
        rw [if_pos this]
      exact ret_M rfl (.inl ⟨by rw [he]; decide, by rw [he], rfl⟩)
    · have ha : asc (x.wt.to Int) = true := by simpa using ha
      have hq : ∀ a : Hd, (D.slc a 1 (List.append (D.rows x.wt) (D.rows x.hd))).Is Int ∧ (D.slc a 1 (List.append (D.rows x.wt) (D.rows x.hd))).to Int = x.wt.to Int ++ x.hd.to Int := fun a =>
        is_of rfl ⟨fun r hr => by
          rcases List.mem_append.1 hr with h | h
          · exact (rows_of rw').1 r h
          · exact (rows_of rh).1 r h, by simp only [append_list, List.map_append, (rows_of rw').2, (rows_of rh).2]⟩
      refine ⟨fun hn hs => ⟨⟨rw', rh, lw, lh⟩, ?_⟩, fun hn hs => ⟨⟨rfl, hp.fits, by simp only [len_slc, List.length_nil]; omega, by simp only [len_slc, List.length_nil]; omega⟩, fun hs1 hs2 => ⟨⟨rw', rh, lw, lh⟩, ?_⟩⟩⟩
      · have hr0 : p.rows = [] := nilOf_rows (k := 2) hn
        have hp0 : p.to Bool = [] := by have := (rows_of hp).2; rw [hr0] at this; exact this.symm
        exact vecIn_to 99 4 1 none 3 (dvL x.h.s x.h.w x.h.e x.wt x.hd p (.slc none 1 []) (D.slc (hs 11 0).hd 1 (List.append (D.rows x.wt) (D.rows x.hd))) x.fz (x.h.e.to Ev).length 0) (by kernel_rfl)
          (dv_loop hx h0 ha ⟨hp, hpt⟩ ⟨is_nil _ _, by rw [← hpt, hp0]; rfl⟩ (hq _) hpz)
      · exact dv_loop hx h0 ha ⟨hp, hpt⟩ (by have := copy_at (α := Bool) (s := 1) rfl hp (hs1 0 0).hd (hs 0 0).hd; rw [hpt] at this; exact this) (hq _) hpz

end Go.Proofs.Ytodhhmjilnfecaa
end
section
open Go Go.Proofs Sx
namespace Go.Proofs.Ytodhhmjilnfecaa
set_option maxRecDepth 100000
set_option maxHeartbeats 0
section
variable (n j k w v s : Int) (ha hb hc wt hd p e : D) (fz : Bool)

theorem gc_in : goS Try.prog [] (fun _ => false) [(40, 1)] 50 (entry Try.prog 30 [.agg [.dat ha, .dat hb, .dat hc, .dat wt, .dat hd, .bool fz]]) =
 Tree.leaf
 (Conf.mk
 (SFrm.mk 40 none none [Item.code (cAt Try.prog 40 [0]), Item.code (cAt Try.prog 40 [1])]
 (mkJ 1 [(0, .agg [.dat ha, .dat hb, .dat hc, .dat wt, .dat hd, .bool fz])] 0 130))
 [SFrm.mk 30 (some (opsAt Try.prog 30 [1, 0], [2, 3, 4, 5, 6])) (some 7) [Item.code (cAt Try.prog 30 [1, 1])]
 (mkJ 0 [] 0 11)]
 []) := by kernel_rfl

theorem gi_in : goS Try.prog [] (fun _ => false) [(40, 1)] 50 (entry Try.prog 13 [.agg [.dat ha, .dat hb, .dat hc, .dat wt, .dat hd, .bool fz], .agg [.int .i64 v, .int .i64 s, .dat e]]) =
 Tree.leaf
 (Conf.mk
 (SFrm.mk 40 none none [Item.code (cAt Try.prog 40 [0]), Item.code (cAt Try.prog 40 [1])]
 (mkJ 1 [(0, .agg [.dat ha, .dat hb, .dat hc, .dat wt, .dat hd, .bool fz])] 0 130))
 [SFrm.mk 13 (some (opsAt Try.prog 13 [1, 0], [2, 3, 4, 5, 6])) (some 13) [Item.code (cAt Try.prog 13 [1, 1])]
 (mkJ 0 [(3, .ptr 0 0), (4, .ptr 1 0)] 0 57)]
 [(0, OBlk.cells 31 [.int .i64 v, .int .i64 s, .dat e]),
 (1, OBlk.cells 28 [.nils, .nils, .nils, .nils, .nils, .lb false])]) := by kernel_rfl

theorem gd_in : goS Try.prog [] (fun _ => false) [(40, 1)] 50 (entry Try.prog 15 [.agg [.dat ha, .dat hb, .dat hc, .dat wt, .dat hd, .bool fz], .int .i64 n]) =
 Tree.leaf
 (Conf.mk
 (SFrm.mk 40 none none [Item.code (cAt Try.prog 40 [0]), Item.code (cAt Try.prog 40 [1])]
 (mkJ 1 [(0, .agg [.dat ha, .dat hb, .dat hc, .dat wt, .dat hd, .bool fz])] 0 130))
 [SFrm.mk 15 (some (opsAt Try.prog 15 [1, 0], [2, 3, 4, 5, 6])) (some 12) [Item.code (cAt Try.prog 15 [1, 1])]
 (mkJ 0 [(1, .int .i64 n), (4, .ptr 0 0)] 0 72)]
 [(0, OBlk.cells 28 [.nils, .nils, .nils, .nils, .nils, .lb false])]) := by kernel_rfl

theorem gf_in : goS Try.prog [] (fun _ => false) [(40, 1)] 50 (entry Try.prog 19 [.agg [.dat ha, .dat hb, .dat hc, .dat wt, .dat hd, .bool fz]]) =
 Tree.leaf
 (Conf.mk
 (SFrm.mk 40 none none [Item.code (cAt Try.prog 40 [0]), Item.code (cAt Try.prog 40 [1])]
 (mkJ 1 [(0, .agg [.dat ha, .dat hb, .dat hc, .dat wt, .dat hd, .bool fz])] 0 130))
 [SFrm.mk 19 (some (opsAt Try.prog 19 [1, 0], [2, 3, 4, 5, 6])) (some 9) [Item.code (cAt Try.prog 19 [1, 1])]
 (mkJ 0 [(1, .ptr 0 0), (2, .ptr 1 0)] 0 33)]
 [(0, OBlk.cells 28 [.dat ha, .dat hb, .dat hc, .dat wt, .dat hd, .bool fz]),
 (1, OBlk.cells 28 [.nils, .nils, .nils, .nils, .nils, .lb false])]) := by kernel_rfl

theorem gt_in : goS Try.prog [] (fun _ => false) [(40, 1)] 50 (entry Try.prog 21 [.agg [.dat ha, .dat hb, .dat hc, .dat wt, .dat hd, .bool fz]]) =
 Tree.leaf
 (Conf.mk
 (SFrm.mk 40 none none [Item.code (cAt Try.prog 40 [0]), Item.code (cAt Try.prog 40 [1])]
 (mkJ 1 [(0, .agg [.dat ha, .dat hb, .dat hc, .dat wt, .dat hd, .bool fz])] 0 130))
 [SFrm.mk 21 (some (opsAt Try.prog 21 [1, 0], [2, 3, 4, 5, 6])) (some 10) [Item.code (cAt Try.prog 21 [1, 1])]
 (mkJ 0 [(1, .ptr 0 0), (2, .ptr 1 0)] 0 45)]
 [(0, OBlk.cells 28 [.dat ha, .dat hb, .dat hc, .dat wt, .dat hd, .bool fz]),
 (1, OBlk.cells 28 [.nils, .nils, .nils, .nils, .nils, .lb false])]) := by kernel_rfl


end
end Go.Proofs.Ytodhhmjilnfecaa
end
section
open Go Go.Proofs Sx
namespace Go.Proofs.Ytodhhmjilnfecaa
set_option maxRecDepth 100000
set_option maxHeartbeats 0
noncomputable def opC (ha hb hc wt hd : D) (fz : Bool) : SFrm := SFrm.mk 40 none none [Item.code (cAt Try.prog 40 [0]), Item.code (cAt Try.prog 40 [1])] (mkJ 1 [(0, .agg [.dat ha, .dat hb, .dat hc, .dat wt, .dat hd, .bool fz])] 0 130)
def okV : SV := .tup [.ptr 500 0, .int .i64 0]
def okM (p a b c wt hd : D) (fz : Bool) : Mem := [(500, .cells 91 [.vec 501, .vec 502, .vec 503, .vec 504, .vec 505, .vec 506, .bool fz]), (501, .arr 4 p), (502, .arr 3 a), (503, .arr 31 b), (504, .arr 108 c), (505, .arr 3 wt), (506, .arr 3 hd)]
noncomputable def gcA (v : SV) (m : Mem) : Conf := Conf.mk (SFrm.mk 30 (some (opsAt Try.prog 30 [1, 0], [2, 3, 4, 5, 6])) none [Item.code (cAt Try.prog 30 [1, 1])] (putS (mkJ 0 [] 0 11) (some 7) v)) [] m
noncomputable def gfA (ha hb hc wt hd : D) (fz : Bool) (v : SV) (m : Mem) : Conf := Conf.mk (SFrm.mk 19 (some (opsAt Try.prog 19 [1, 0], [2, 3, 4, 5, 6])) none [Item.code (cAt Try.prog 19 [1, 1])] (putS (mkJ 0 [(1, .ptr 0 0), (2, .ptr 1 0)] 0 33) (some 9) v)) []
 (m ++ [(0, .cells 28 [.dat ha, .dat hb, .dat hc, .dat wt, .dat hd, .bool fz]), (1, .cells 28 [.nils, .nils, .nils, .nils, .nils, .lb false])])
section
variable (n j k w v s : Int) (ha hb hc wt hd p a b c x y : D) (fz : Bool)
theorem opC_in : exec Try.prog ctO 300 (Conf.mk (opC ha hb hc wt hd fz) [] []) =
 Tree.need (HiD.Right (HiD.mk ha hb hc))
 (.br (Prod.fst (checkH (HiD.hist (HiD.mk ha hb hc))) != 0)
 (.ret (SV.tup [SV.nilp, .int .i64 (Prod.fst (checkH (HiD.hist (HiD.mk ha hb hc))))]))
 (.need
 (0 ≤ (↑(D.len hb) : Int) ∧
 (↑(D.len hb) : Int) = (↑(D.len hb) : Int) ∧
 (↑1 : Int) * (↑(D.len hb) : Int) ≤ 281474976710656 ∧ (↑(D.len hb) : Int) ≤ 9223372036854775807)
 (.all fun hs =>
 .leaf
 (Conf.mk
 (SFrm.mk 40 none none
 [Item.inLoop (cAt Try.prog 40 [1, 1, 1, 1, 0, 1, 0, 0]), Item.inBlock 0,
 Item.code (cAt Try.prog 40 [1, 1, 1, 1, 1])]
 (mkJ 0
 [(1, .ptr 0 0), (5, .ptr 1 0), (30, .dat hc), (31, .int .i64 (↑(D.len hc) : Int)),
 (32, .int .i64 0)]
 0 130))
 []
 [(0, OBlk.cells 28 [.dat ha, .dat hb, .dat hc, .dat wt, .dat hd, .bool fz]),
 (1, OBlk.cells 91 [.vec 2, .dat ha, .dat hb, .dat hc, .dat wt, .dat hd, .bool fz]),
 (2,
 OBlk.arr 4
 (D.slc (D.hd (hs 0 0)) 1 (List.replicate (Int.toNat (↑(D.len hb) : Int)) [D.bool false])))])))) := by kernel_rfl

theorem gcE_go : exec Try.prog [] 100 (gcA (.tup [.nilp, .int .i64 k]) []) =
 Tree.ret (.int .i64 k) := by kernel_rfl

theorem gcO_go : exec Try.prog [] 100 (gcA okV (okM p a b c x y fz)) =
 Tree.ret (.int .i64 0) := by kernel_rfl

theorem gfE_go : exec Try.prog [] 200 (gfA ha hb hc wt hd fz (.tup [.nilp, .int .i64 k]) []) =
 Tree.br (k != 0)
 (.ret
 (SV.tup
 [.agg [.nils, .nils, .nils, .nils, .nils, .lb false], .int .i64 0, .int .i64 k]))
 (.br fz
 (.ret
 (SV.tup
 [.agg [.nils, .nils, .nils, .nils, .nils, .lb false], .int .i64 0,
 .int .i64 26]))
 Tree.stuck) := by kernel_rfl

theorem gfO_go : exec Try.prog [] 200 (gfA ha hb hc wt hd fz okV (okM p a b c x y fz)) =
 Tree.br false
 (.ret
 (SV.tup
 [.agg [.nils, .nils, .nils, .nils, .nils, .lb false], .int .i64 0, .int .i64 0]))
 (.br fz
 (.ret
 (SV.tup
 [.agg [.nils, .nils, .nils, .nils, .nils, .lb false], .int .i64 0,
 .int .i64 26]))
 (.all fun hs =>
 .ret
 (SV.tup
 [.agg [.dat a, .dat b, .dat c, .dat x, .dat y, .lb true],
 .int .i64 (↑(D.len hb) : Int), .int .i64 0]))) := by kernel_rfl

end
end Go.Proofs.Ytodhhmjilnfecaa
end
section
open Go
namespace Sx
def rdGr : Rd1 GrD where
  read x := match x with
    | .agg [s, w, e, wt, hd, fz] => match rdD.read s, rdD.read w, rdD.read e, rdD.read wt, rdD.read hd, rdBool.read fz with
      | some s, some w, some e, some wt, some hd, some fz => some ⟨⟨s, w, e⟩, wt, hd, fz⟩
      | _, _, _, _, _, _ => none
    | _ => none
  canon g := .agg [.dat g.h.s, .dat g.h.w, .dat g.h.e, .dat g.wt, .dat g.hd, .bool g.fz]
  right H E x b h hok := by
    split at h
    · split at h
      · rename_i h1 h2 h3 h4 h5 h6
        cases h
        obtain ⟨a1, a2, a3, a4, a5, a6, _⟩ := hok
        obtain ⟨i1, i2⟩ := rdD.right H E _ _ h1 a1
        obtain ⟨j1, j2⟩ := rdD.right H E _ _ h2 a2
        obtain ⟨k1, k2⟩ := rdD.right H E _ _ h3 a3
        obtain ⟨l1, l2⟩ := rdD.right H E _ _ h4 a4
        obtain ⟨m1, m2⟩ := rdD.right H E _ _ h5 a5
        obtain ⟨n1, n2⟩ := rdBool.right H E _ _ h6 a6
        refine ⟨?_, i2, j2, k2, l2, m2, n2, trivial⟩
        simp only [SV.den, SV.denL, i1, j1, k1, l1, m1, n1]
        rfl
      · cases h
    · cases h
def spCkG (g : GrD) : SpecR := .scalar [g.Right] (.int .i64 (openErr g.gr))
end Sx
end
section
open Go
namespace Sx
noncomputable def grSV (ds : Nat → D) (g : Gr) : SV := .agg [.dat ((ds 0).like g.hist.sizes), .dat ((ds 1).like g.hist.writes), .dat ((ds 2).like g.hist.events), .dat ((ds 3).like g.waiting), .dat ((ds 4).like g.held), .bool g.frozen]
structure StandsG (X : SV) (g : Gr) : Prop where
  ex : ∃ ds : Nat → D, (∀ E, X.den E = (grSV ds g).den E) ∧ ∀ H, X.Ok H → (grSV ds g).Ok H
theorem stands_gr {X Y Z U V F : SV} {s : List Int} {ws : List Wt} {es : List Ev} {wt hd : List Int} {b : Bool} {g : Gr} (hx : Stands Int X s) (hy : Stands Wt Y ws) (hz : Stands Ev Z es) (hu : Stands Int U wt) (hv : Stands Int V hd) (hf : ∀ E, F.den E = .bool b) (e : g = ⟨⟨s, ws, es⟩, wt, hd, b⟩) :
    StandsG (.agg [X, Y, Z, U, V, F]) g := by
  subst e
  obtain ⟨d, h1, h2, h3, h4⟩ := hx
  obtain ⟨d', h1', h2', h3', h4'⟩ := hy
  obtain ⟨d'', h1'', h2'', h3'', h4''⟩ := hz
  obtain ⟨c, k1, k2, k3, k4⟩ := hu
  obtain ⟨c', k1', k2', k3', k4'⟩ := hv
  refine ⟨fun i => match i with | 0 => d | 1 => d' | 2 => d'' | 3 => c | _ => c', fun E => ?_, fun H' ho => ?_⟩
  · simp only [grSV, SV.den, SV.denL, D.like_self h2 h3, D.like_self h2' h3', D.like_self h2'' h3'', D.like_self k2 k3, D.like_self k2' k3', h1, h1', h1'', k1, k1', hf]
  · simp only [grSV, SV.Ok, SV.OkL, D.like_self h2 h3, D.like_self h2' h3', D.like_self h2'' h3'', D.like_self k2 k3, D.like_self k2' k3'] at ho ⊢
    exact ⟨⟨h4 _ ho.1, h2.slc⟩, ⟨h4' _ ho.2.1, h2'.slc⟩, ⟨h4'' _ ho.2.2.1, h2''.slc⟩, ⟨k4 _ ho.2.2.2.1, k2.slc⟩, ⟨k4' _ ho.2.2.2.2.1, k2'.slc⟩, trivial, trivial⟩
section
variable {P : Program} {w : World} {H : HV}
theorem ret_grI {X : SV} {g : Gr} {k k' : Int} (h : StandsG X g) (hk : k = k') : (Tree.ret (.tup [X, .int .i64 k])).holds P ⟨w, H⟩ (RetD w H fun ds => .tup [grSV ds g, .int .i64 k']) := by
  subst hk
  obtain ⟨ds, h1, h2⟩ := h.ex
  refine ret_D ds (fun E E' => ?_) (fun H' ho => ?_)
  · simp only [SV.den, SV.denL, h1 E]; simp only [grSV, SV.den, SV.denL]
  · simp only [SV.Ok, SV.OkL] at ho ⊢; exact ⟨h2 H' ho.1, ho.2⟩
theorem ret_grII {X : SV} {g : Gr} {k k' m m' : Int} (h : StandsG X g) (hk : k = k') (hm : m = m') : (Tree.ret (.tup [X, .int .i64 k, .int .i64 m])).holds P ⟨w, H⟩ (RetD w H fun ds => .tup [grSV ds g, .int .i64 k', .int .i64 m']) := by
  subst hk; subst hm
  obtain ⟨ds, h1, h2⟩ := h.ex
  refine ret_D ds (fun E E' => ?_) (fun H' ho => ?_)
  · simp only [SV.den, SV.denL, h1 E]; simp only [grSV, SV.den, SV.denL]
  · simp only [SV.Ok, SV.OkL] at ho ⊢; exact ⟨h2 H' ho.1, ho.2⟩
end
def zGr : Gr := ⟨zHist, [], [], false⟩
def freezeG (g : Gr) : Gr × Int × Int :=
  if openErr g ≠ 0 then (zGr, 0, openErr g) else if g.frozen then (zGr, 0, 26) else (⟨g.hist, g.waiting, g.held, true⟩, g.hist.writes.length, 0)
noncomputable def spFrzG (x : GrD) : SpecR := .data [x.Right] fun ds => .tup [grSV ds (freezeG x.gr).1, .int .i64 (freezeG x.gr).2.1, .int .i64 (freezeG x.gr).2.2]
def newG (s : List Int) : Gr × Int := if sizesErr s ≠ 0 then (zGr, sizesErr s) else (⟨⟨s, [], []⟩, [], [], false⟩, 0)
noncomputable def spNewG (x : D) : SpecR := .data [x.Is Int ∧ x.len ≤ 1048576] fun ds => .tup [grSV ds (newG (x.to Int)).1, .int .i64 (newG (x.to Int)).2]
end Sx
end
section
open Go Go.Proofs Sx
namespace Go.Proofs.Ytodhhmjilnfecaa
set_option maxRecDepth 100000

theorem opCRuns {H : HV} {w : World} {x : GrD} (hx : x.Right) :
    Runs Try.prog ⟨w, H⟩ (Conf.mk (opC x.h.s x.h.w x.h.e x.wt x.hd x.fz) [] []) (RetM w H (openPhi x)) := by
  obtain ⟨⟨ra, rb, rc, la, lb, lc, rd⟩, rw', rh, lw, lh⟩ := id hx
  have bl := D.Is.length (α := Wt) x.h.w
  apply exec_sound ctOOk 300
  rw [opC_in]
  refine ⟨hx.1, fun he => ?_, fun he => ⟨⟨by omega, rfl, by omega, by omega⟩, fun hs => ?_⟩⟩
  · have he : (checkH x.gr.hist).1 ≠ 0 := by
      show (checkH (HiD.hist (HiD.mk x.h.s x.h.w x.h.e))).1 ≠ 0
      simpa using he
    have e2 : openErr x.gr = (checkH x.gr.hist).1 := by unfold openErr; rw [if_pos he]
    exact ret_M rfl (.inl ⟨by rw [e2]; exact he, by rw [e2]; rfl, rfl⟩)
  · have he : (checkH x.gr.hist).1 = 0 := by
      show (checkH (HiD.hist (HiD.mk x.h.s x.h.w x.h.e))).1 = 0
      simpa using he
    refine op_loop hx he ?_ rfl
    rw [Int.toNat_natCast, bl]
    refine is_of rfl ⟨fun r hr => ?_, ?_⟩
    · rw [List.eq_of_mem_replicate hr]; exact ok_bool false
    · rw [List.map_replicate]; rfl

theorem opC_pure {ha hb hc wt hd : D} {fz : Bool} : ∀ k, k ∉ SV.keysL (opC ha hb hc wt hd fz).tmps := fun k hk => by
  have h : SV.keysL (opC ha hb hc wt hd fz).tmps = [] := by kernel_rfl
  rw [h] at hk; cases hk

theorem lawCkG : Law Try.prog 30 (rdGr.one.sp spCkG) := by
  refine law_in _ (by kernel_rfl) fun H w ⟨⟨ha, hb, hc⟩, wt, hd, fz⟩ hok hp => ?_
  have hx : GrD.Right ⟨⟨ha, hb, hc⟩, wt, hd, fz⟩ := hp _ (List.mem_singleton.2 rfl)
  apply goS_sound (noCtr _) (fun _ => false) [(40, 1)] 50
  rw [show rdGr.one.canon ⟨⟨ha, hb, hc⟩, wt, hd, fz⟩ = [.agg [.dat ha, .dat hb, .dat hc, .dat wt, .dat hd, .bool fz]] from rfl, gc_in]
  refine runs_frame (Φ := openPhi ⟨⟨ha, hb, hc⟩, wt, hd, fz⟩) (top := opC ha hb hc wt hd fz) opC_pure (fun k hk => ?_) (fun H w _ => opCRuns hx) fun v m hv => ?_
  · exfalso
    revert hk
    show k ∉ _
    have h : SV.keysL (mkJ 0 [] 0 11) ++ ((([] : List SFrm).flatMap fun f => SV.keysL f.tmps) ++ Mem.named []) = [] := by kernel_rfl
    intro hk
    have hk : k ∈ SV.keysL (mkJ 0 [] 0 11) ++ ((([] : List SFrm).flatMap fun f => SV.keysL f.tmps) ++ Mem.named []) := hk
    rw [h] at hk; cases hk
  · rcases hv with ⟨h0, rfl, rfl⟩ | ⟨h0, rfl, p, a, b, c, x, y, rfl, _⟩
    · show Runs _ _ (gcA (.tup [.nilp, .int .i64 (openErr (GrD.gr ⟨⟨ha, hb, hc⟩, wt, hd, fz⟩))]) []) _
      apply exec_sound (noCtr _) 100
      rw [gcE_go]
      exact ret_int rfl
    · show Runs _ _ (gcA okV (okM p a b c x y fz)) _
      apply exec_sound (noCtr _) 100
      rw [gcO_go]
      exact ret_int h0.symm
theorem stands_zG {F : SV} (hf : ∀ E, F.den E = .bool false) : StandsG (.agg [.nils, .nils, .nils, .nils, .nils, F]) zGr :=
  stands_gr stands_nils stands_nils stands_nils stands_nils stands_nils hf rfl

theorem lawFrzG : Law Try.prog 19 (rdGr.one.sp spFrzG) := by
  refine law_in _ (by kernel_rfl) fun H w ⟨⟨ha, hb, hc⟩, wt, hd, fz⟩ hok hp => ?_
  have hx : GrD.Right ⟨⟨ha, hb, hc⟩, wt, hd, fz⟩ := hp _ (List.mem_singleton.2 rfl)
  have bl := D.Is.length (α := Wt) hb
  apply goS_sound (noCtr _) (fun _ => false) [(40, 1)] 50
  rw [show rdGr.one.canon ⟨⟨ha, hb, hc⟩, wt, hd, fz⟩ = [.agg [.dat ha, .dat hb, .dat hc, .dat wt, .dat hd, .bool fz]] from rfl, gf_in]
  refine runs_frame (Φ := openPhi ⟨⟨ha, hb, hc⟩, wt, hd, fz⟩) (top := opC ha hb hc wt hd fz) opC_pure (fun k hk => ?_) (fun H w _ => opCRuns hx) fun v m hv => ?_
  · have h : (SV.keysL (mkJ 0 [(1, .ptr 0 0), (2, .ptr 1 0)] 0 33) ++ ((([] : List SFrm).flatMap fun f => SV.keysL f.tmps) ++ Mem.named [(0, .cells 28 [.dat ha, .dat hb, .dat hc, .dat wt, .dat hd, .bool fz]), (1, .cells 28 [.nils, .nils, .nils, .nils, .nils, .lb false])])).all (fun k => decide (k < 500)) = true := by kernel_rfl
    exact of_decide_eq_true (List.all_eq_true.1 h k hk)
  · rcases hv with ⟨h0, rfl, rfl⟩ | ⟨h0, rfl, p, a, b, c, x, y, rfl, hP, hA, hB, hC, hX, hY, hZ⟩
    · show Runs _ _ (gfA ha hb hc wt hd fz (.tup [.nilp, .int .i64 (openErr (GrD.gr ⟨⟨ha, hb, hc⟩, wt, hd, fz⟩))]) []) _
      have hfr : freezeG (GrD.gr ⟨⟨ha, hb, hc⟩, wt, hd, fz⟩) = (zGr, 0, openErr (GrD.gr ⟨⟨ha, hb, hc⟩, wt, hd, fz⟩)) := by unfold freezeG; rw [if_pos h0]
      apply exec_sound (noCtr _) 200
      rw [gfE_go]
      refine ⟨fun _ => ret_grII ?_ ?_ ?_, fun h => absurd (by simpa using h) h0⟩
      · rw [hfr]; exact stands_zG fun _ => rfl
      · rw [hfr]
      · rw [hfr]
    · show Runs _ _ (gfA ha hb hc wt hd fz okV (okM p a b c x y fz)) _
      apply exec_sound (noCtr _) 200
      rw [gfO_go]
      refine ⟨fun h => Bool.noConfusion h, fun _ => ⟨fun hf => ?_, fun hf hs => ?_⟩⟩
      · have hfr : freezeG (GrD.gr ⟨⟨ha, hb, hc⟩, wt, hd, fz⟩) = (zGr, 0, 26) := by unfold freezeG; rw [if_neg (by simpa using h0), if_pos (show (GrD.gr ⟨⟨ha, hb, hc⟩, wt, hd, fz⟩).frozen = true from hf)]
        refine ret_grII ?_ ?_ ?_
        · rw [hfr]; exact stands_zG fun _ => rfl
        · rw [hfr]
        · rw [hfr]
      · have hfr : freezeG (GrD.gr ⟨⟨ha, hb, hc⟩, wt, hd, fz⟩) = ((⟨⟨ha.to Int, hb.to Wt, hc.to Ev⟩, wt.to Int, hd.to Int, true⟩ : Gr), ((hb.to Wt).length : Int), (0 : Int)) := by
          unfold freezeG
          rw [if_neg (by simpa using h0), if_neg (show ¬((GrD.gr ⟨⟨ha, hb, hc⟩, wt, hd, fz⟩).frozen = true) from by show ¬(fz = true); rw [hf]; simp)]
          rfl
        refine ret_grII ?_ ?_ ?_
        · rw [hfr]
          exact stands_gr (s := ha.to Int) (ws := hb.to Wt) (es := hc.to Ev) (wt := wt.to Int) (hd := hd.to Int) (b := true) (stands_dat hA.1 hA.2) (stands_dat hB.1 hB.2) (stands_dat hC.1 hC.2) (stands_dat hX.1 hX.2) (stands_dat hY.1 hY.2) (fun _ => rfl) rfl
        · rw [hfr, bl]
        · rw [hfr]
end Go.Proofs.Ytodhhmjilnfecaa
end
section
open Go Go.Proofs Sx
namespace Go.Proofs.Ytodhhmjilnfecaa
set_option maxRecDepth 100000
set_option maxHeartbeats 0
noncomputable def gtA (ha hb hc wt hd : D) (fz : Bool) (v : SV) (m : Mem) : Conf := Conf.mk (SFrm.mk 21 (some (opsAt Try.prog 21 [1, 0], [2, 3, 4, 5, 6])) none [Item.code (cAt Try.prog 21 [1, 1])] (putS (mkJ 0 [(1, .ptr 0 0), (2, .ptr 1 0)] 0 45) (some 10) v)) []
 (m ++ [(0, .cells 28 [.dat ha, .dat hb, .dat hc, .dat wt, .dat hd, .bool fz]), (1, .cells 28 [.nils, .nils, .nils, .nils, .nils, .lb false])])
noncomputable def giA (vv s : Int) (e : D) (v : SV) (m : Mem) : Conf := Conf.mk (SFrm.mk 13 (some (opsAt Try.prog 13 [1, 0], [2, 3, 4, 5, 6])) none [Item.code (cAt Try.prog 13 [1, 1])] (putS (mkJ 0 [(3, .ptr 0 0), (4, .ptr 1 0)] 0 57) (some 13) v)) []
 (m ++ [(0, .cells 31 [.int .i64 vv, .int .i64 s, .dat e]), (1, .cells 28 [.nils, .nils, .nils, .nils, .nils, .lb false])])
noncomputable def gdA (n : Int) (v : SV) (m : Mem) : Conf := Conf.mk (SFrm.mk 15 (some (opsAt Try.prog 15 [1, 0], [2, 3, 4, 5, 6])) none [Item.code (cAt Try.prog 15 [1, 1])] (putS (mkJ 0 [(1, .int .i64 n), (4, .ptr 0 0)] 0 72) (some 12) v)) []
 (m ++ [(0, .cells 28 [.nils, .nils, .nils, .nils, .nils, .lb false])])
noncomputable def ctI : Ctrs := [(41, ctrOf ((rdHi.two rdWt).sp spIssueH)), (44, ctrOf ((rdD.two rdInt).sp spIxI))]
section
variable (n j k w v s : Int) (ha hb hc wt hd p a b c x y e : D) (fz : Bool)
theorem gtE_go : exec Try.prog [] 200 (gtA ha hb hc wt hd fz (.tup [.nilp, .int .i64 k]) []) =
 Tree.br (k != 0)
 (.ret (SV.tup [.agg [.nils, .nils, .nils, .nils, .nils, .lb false], .nils, .int .i64 k]))
 (.br (!fz)
 (.ret
 (SV.tup [.agg [.nils, .nils, .nils, .nils, .nils, .lb false], .nils, .int .i64 12]))
 Tree.stuck) := by kernel_rfl

theorem gtO_go : goS Try.prog [] (fun _ => false) [] 300 (gtA ha hb hc wt hd fz okV (okM p a b c x y fz)) =
 Tree.br false
 (.ret (SV.tup [.agg [.nils, .nils, .nils, .nils, .nils, .lb false], .nils, .int .i64 0]))
 (.br (!fz)
 (.ret
 (SV.tup [.agg [.nils, .nils, .nils, .nils, .nils, .lb false], .nils, .int .i64 12]))
 (.leaf
 (Conf.mk
 (SFrm.mk 53 none none [Item.inLoop (cAt Try.prog 53 [1, 0, 0]), Item.inBlock 0]
 (mkJ 1
 [(1, SV.fn 46 [.ptr 0 0] []), (6, .vec 1), (7, .int .i64 (↑(D.len y) : Int)),
 (8, .int .i64 0)]
 0 16))
 [SFrm.mk 21 (some (opsAt Try.prog 21 [1, 1, 1, 1, 1, 0], [])) (some 39)
 [Item.code (cAt Try.prog 21 [1, 1, 1, 1, 1, 1])]
 (mkJ 0
 [(1, .ptr 2 0), (2, .ptr 3 0), (5, .ptr 0 0), (6, .int .i64 0), (7, .vec 1),
 (8, SV.tup [.ptr 0 0, .int .i64 0]), (10, SV.tup [.ptr 0 0, .int .i64 0]),
 (11, .ptr 0 0), (12, .int .i64 0), (13, .bool false), (14, .int .i64 0),
 (15, .bool false), (18, .bool !fz), (19, .ptr 2 5), (20, .bool fz), (21, .bool !fz),
 (23, .ptr 0 0), (24, .ptr 0 0), (25, .ptr 0 1), (26, .ptr 0 5), (27, .vec 1),
 (28, .ptr 0 0), (29, .ptr 0 0), (30, .ptr 0 0), (31, .ptr 0 1), (32, .ptr 0 6),
 (33, .ptr 0 0), (34, .ptr 0 1), (35, .ptr 0 5), (36, .vec 1), (37, .ptr 0 0),
 (38, SV.fn 46 [.ptr 0 0] [])]
 0 45)]
 [(0, OBlk.cells 91 [.vec 4, .vec 5, .vec 6, .vec 7, .vec 8, .nils, .lb false]), (1, OBlk.arr 3 y),
 (2, OBlk.cells 28 [.dat ha, .dat hb, .dat hc, .dat wt, .dat hd, .bool fz]),
 (3, OBlk.cells 28 [.nils, .nils, .nils, .nils, .nils, .lb false]), (4, OBlk.arr 4 p),
 (5, OBlk.arr 3 a), (6, OBlk.arr 31 b), (7, OBlk.arr 108 c), (8, OBlk.arr 3 x)]))) := by kernel_rfl

theorem giE_go : exec Try.prog ctI 200 (giA v s e (.tup [.nilp, .int .i64 k]) []) =
 Tree.br (k != 0)
 (.ret
 (SV.tup
 [.agg [.nils, .nils, .nils, .nils, .nils, .lb false], .int .i64 0, .int .i64 k]))
 (.all fun hs => Tree.stuck) := by kernel_rfl

theorem giO_go : exec Try.prog ctI 300 (giA v s e okV (okM p a b c x y fz)) =
 Tree.br false
 (.ret
 (SV.tup
 [.agg [.nils, .nils, .nils, .nils, .nils, .lb false], .int .i64 0, .int .i64 0]))
 (.all fun hs =>
 .need (HiD.Right (HiD.mk a b c) ∧ D.len c ≤ 1000000 ∧ WtD.Ok (WtD.mk v s e))
 (.br (Prod.snd (Prod.snd (issueH (HiD.hist (HiD.mk a b c)) (WtD.wt (WtD.mk v s e)))) != 0)
 (.ret
 (SV.tup
 [.agg [.nils, .nils, .nils, .nils, .nils, .lb false], .int .i64 0,
 .int .i64 (Prod.snd (Prod.snd (issueH (HiD.hist (HiD.mk a b c)) (WtD.wt (WtD.mk v s e)))))]))
 (.all fun hs_1 =>
 .need
 (D.sz x = 1 ∧
 D.Fits
 (D.slc (D.hd (hs_1 0 0)) 1
 [[D.int .i64
 (Prod.fst (Prod.snd (issueH (HiD.hist (HiD.mk a b c)) (WtD.wt (WtD.mk v s e)))))]])
 1 ∧
 (D.len x +
 D.len
 (D.slc (D.hd (hs_1 0 0)) 1
 [[D.int .i64
 (Prod.fst (Prod.snd (issueH (HiD.hist (HiD.mk a b c)) (WtD.wt (WtD.mk v s e)))))]])) *
 8 ≤
 140737488355328 ∧
 D.len x +
 D.len
 (D.slc (D.hd (hs_1 0 0)) 1
 [[D.int .i64
 (Prod.fst (Prod.snd (issueH (HiD.hist (HiD.mk a b c)) (WtD.wt (WtD.mk v s e)))))]]) ≤
 9223372036854775807)
 (.all fun hs_2 =>
 .ret
 (SV.tup
 [.agg
 [.dat
 (D.like (hs 6 0)
 (Hist.sizes (Prod.fst (issueH (HiD.hist (HiD.mk a b c)) (WtD.wt (WtD.mk v s e)))))),
 .dat
 (D.like (hs 6 1)
 (Hist.writes (Prod.fst (issueH (HiD.hist (HiD.mk a b c)) (WtD.wt (WtD.mk v s e)))))),
 .dat
 (D.like (hs 6 2)
 (Hist.events (Prod.fst (issueH (HiD.hist (HiD.mk a b c)) (WtD.wt (WtD.mk v s e)))))),
 .dat
 (D.slc (D.hd (hs_2 0 0)) 1
 (List.append (D.rows x)
 (D.rows
 (D.slc (D.hd (hs_1 0 0)) 1
 [[D.int .i64
 (Prod.fst
 (Prod.snd (issueH (HiD.hist (HiD.mk a b c)) (WtD.wt (WtD.mk v s e)))))]])))),
 .dat y, .bool fz],
 .int .i64 (Prod.fst (Prod.snd (issueH (HiD.hist (HiD.mk a b c)) (WtD.wt (WtD.mk v s e))))),
 .int .i64 0]))))) := by kernel_rfl

theorem gdE_go : exec Try.prog ctI 200 (gdA n (.tup [.nilp, .int .i64 k]) []) =
 Tree.br (k != 0)
 (.ret (SV.tup [.agg [.nils, .nils, .nils, .nils, .nils, .lb false], .nils, .int .i64 k]))
 Tree.stuck := by kernel_rfl


end
end Go.Proofs.Ytodhhmjilnfecaa
end
section
open Go
namespace Sx
def issueG (g : Gr) (w : Wt) : Gr × Int × Int :=
  if openErr g ≠ 0 then (zGr, 0, openErr g) else if (issueH g.hist w).2.2 ≠ 0 then (zGr, 0, (issueH g.hist w).2.2)
  else (⟨(issueH g.hist w).1, g.waiting ++ [(issueH g.hist w).2.1], g.held, g.frozen⟩, (issueH g.hist w).2.1, 0)
noncomputable def spIssueG (x : GrD × WtD) : SpecR := .data [x.1.Right ∧ x.1.h.e.len ≤ 1000000 ∧ x.2.Ok] fun ds => .tup [grSV ds (issueG x.1.gr x.2.wt).1, .int .i64 (issueG x.1.gr x.2.wt).2.1, .int .i64 (issueG x.1.gr x.2.wt).2.2]
theorem issueG_e1 {g : Gr} {w : Wt} (h : openErr g ≠ 0) : issueG g w = (zGr, 0, openErr g) := by unfold issueG; rw [if_pos h]
theorem issueG_e2 {g : Gr} {w : Wt} (h : openErr g = 0) (h2 : (issueH g.hist w).2.2 ≠ 0) : issueG g w = (zGr, 0, (issueH g.hist w).2.2) := by unfold issueG; rw [if_neg (by simp [h]), if_pos h2]
theorem issueG_ok {g : Gr} {w : Wt} (h : openErr g = 0) (h2 : (issueH g.hist w).2.2 = 0) : issueG g w = ((⟨(issueH g.hist w).1, g.waiting ++ [(issueH g.hist w).2.1], g.held, g.frozen⟩ : Gr), (issueH g.hist w).2.1, (0 : Int)) := by unfold issueG; rw [if_neg (by simp [h]), if_neg (by simp [h2])]
end Sx
end
section
open Go Go.Proofs Sx
namespace Go.Proofs.Ytodhhmjilnfecaa
set_option maxRecDepth 100000

theorem ctIOk : Ctrs.Ok Try.prog ctI := by
  intro x hx
  simp only [ctI, List.mem_cons, List.not_mem_nil, or_false] at hx
  rcases hx with rfl | rfl
  · exact ctrOf_ok lawIssue
  · exact ctrOf_ok lawIxW

theorem lawIssueG : Law Try.prog 13 ((rdGr.two rdWt).sp spIssueG) := by
  refine law_in _ (by kernel_rfl) fun H w ⟨⟨⟨ha, hb, hc⟩, wt, hd, fz⟩, ⟨vv, s, e⟩⟩ hok hp => ?_
  obtain ⟨hx, hcl, hwo⟩ := hp _ (List.mem_singleton.2 rfl)
  have hx : GrD.Right ⟨⟨ha, hb, hc⟩, wt, hd, fz⟩ := hx
  have hcl : hc.len ≤ 1000000 := hcl
  have hcl' := D.Is.length (α := Ev) hc
  have wl := D.Is.length (α := Int) wt
  have al := D.Is.length (α := Int) ha
  have bl := D.Is.length (α := Wt) hb
  obtain ⟨⟨ra, rb, rc, la, lb, lc, rd⟩, rw', rh, lw, lh⟩ := id hx
  simp only at ra rb rc la lb lc rd rw' rh lw lh
  apply goS_sound (noCtr _) (fun _ => false) [(40, 1)] 50
  rw [show (rdGr.two rdWt).canon (⟨⟨ha, hb, hc⟩, wt, hd, fz⟩, ⟨vv, s, e⟩) = [.agg [.dat ha, .dat hb, .dat hc, .dat wt, .dat hd, .bool fz], .agg [.int .i64 vv, .int .i64 s, .dat e]] from rfl, gi_in]
  refine runs_frame (Φ := openPhi ⟨⟨ha, hb, hc⟩, wt, hd, fz⟩) (top := opC ha hb hc wt hd fz) opC_pure (fun k hk => ?_) (fun H w _ => opCRuns hx) fun v m hv => ?_
  · have h : (SV.keysL (mkJ 0 [(3, .ptr 0 0), (4, .ptr 1 0)] 0 57) ++ ((([] : List SFrm).flatMap fun f => SV.keysL f.tmps) ++ Mem.named [(0, .cells 31 [.int .i64 vv, .int .i64 s, .dat e]), (1, .cells 28 [.nils, .nils, .nils, .nils, .nils, .lb false])])).all (fun k => decide (k < 500)) = true := by kernel_rfl
    exact of_decide_eq_true (List.all_eq_true.1 h k hk)
  · rcases hv with ⟨h0, rfl, rfl⟩ | ⟨h0, rfl, p, a, b, c, x, y, rfl, hP, hA, hB, hC, hX, hY, hZ⟩
    · show Runs _ _ (giA vv s e (.tup [.nilp, .int .i64 (openErr (GrD.gr ⟨⟨ha, hb, hc⟩, wt, hd, fz⟩))]) []) _
      have hfr := issueG_e1 (w := WtD.wt ⟨vv, s, e⟩) h0
      apply exec_sound ctIOk 200
      rw [giE_go]
      refine ⟨fun _ => ret_grII ?_ ?_ ?_, fun h => absurd (by simpa using h) h0⟩
      · rw [hfr]; exact stands_zG fun _ => rfl
      · rw [hfr]
      · rw [hfr]
    · show Runs _ _ (giA vv s e okV (okM p a b c x y fz)) _
      have hH : HiD.hist ⟨a, b, c⟩ = (GrD.gr ⟨⟨ha, hb, hc⟩, wt, hd, fz⟩).hist := by
        show (⟨a.to Int, b.to Wt, c.to Ev⟩ : Hist) = ⟨ha.to Int, hb.to Wt, hc.to Ev⟩
        rw [hA.2, hB.2, hC.2]
      have cl := D.Is.length (α := Ev) c
      have al' := D.Is.length (α := Int) a
      have bl' := D.Is.length (α := Wt) b
      have xl := D.Is.length (α := Int) x
      have ea : a.len = ha.len := by rw [al', al, hA.2]
      have eb : b.len = hb.len := by rw [bl', bl, hB.2]
      have ec : c.len = hc.len := by rw [cl, hcl', hC.2]
      have ex : x.len = wt.len := by rw [xl, wl, hX.2]
      have app : ∀ {d : D} {h1 h2 : Hd} {n : Int}, d.Is Int → (D.slc h1 1 (List.append (D.rows d) (D.rows (D.slc h2 1 [[D.int IntKind.i64 n]])))).Is Int ∧ (D.slc h1 1 (List.append (D.rows d) (D.rows (D.slc h2 1 [[D.int IntKind.i64 n]])))).to Int = d.to Int ++ [n] := fun hd =>
        is_of rfl ⟨fun r hr => by
          rcases List.mem_append.1 hr with h | h
          · exact (rows_of hd).1 r h
          · rw [List.mem_singleton.1 h]; exact ok_int _, by simp only [append_list, List.map_append, (rows_of hd).2]; rfl⟩
      apply exec_sound ctIOk 300
      rw [giO_go]
      refine ⟨fun h => Bool.noConfusion h, fun _ hs => ⟨⟨⟨hA.1, hB.1, hC.1, by simp only; omega, by simp only; omega, by simp only; omega, by
        intro q hq; rw [hB.2] at hq; exact rd q hq⟩, by omega, hwo⟩, fun he => ?_, fun he hs1 => ⟨⟨?_, .inr rfl, ?_, ?_⟩, fun hs2 => ?_⟩⟩⟩
      · rw [hH] at he ⊢
        have he : (issueH (GrD.gr ⟨⟨ha, hb, hc⟩, wt, hd, fz⟩).hist (WtD.wt ⟨vv, s, e⟩)).2.2 ≠ 0 := by simpa using he
        have hfr := issueG_e2 h0 he
        refine ret_grII ?_ ?_ ?_
        · rw [hfr]; exact stands_zG fun _ => rfl
        · rw [hfr]
        · rw [hfr]
      · exact hZ.2.1
      · simp only [len_slc, List.length_cons, List.length_nil]; omega
      · simp only [len_slc, List.length_cons, List.length_nil]; omega
      · rw [hH] at he ⊢
        have he : (issueH (GrD.gr ⟨⟨ha, hb, hc⟩, wt, hd, fz⟩).hist (WtD.wt ⟨vv, s, e⟩)).2.2 = 0 := by simpa using he
        have hfr := issueG_ok h0 he
        refine ret_grII ?_ ?_ ?_
        · rw [hfr]
          refine stands_gr stands_like stands_like stands_like (stands_dat ?_ ?_) (stands_dat hY.1 hY.2) (fun _ => rfl) rfl
          · exact (app hX.1).1
          · rw [(app hX.1).2, hX.2]; rfl
        · rw [hfr]
        · rw [hfr]
end Go.Proofs.Ytodhhmjilnfecaa
end
section
open Go Go.Proofs Sx
namespace Go.Proofs.Ytodhhmjilnfecaa
set_option maxRecDepth 100000
set_option maxHeartbeats 0
noncomputable def thL (ha hb hc wt hd p a b c x y : D) (fz : Bool) (j : Int) : Conf := Conf.mk (SFrm.mk 53 none none [Item.inLoop (cAt Try.prog 53 [1, 0, 0]), Item.inBlock 0] (mkJ 1 [(1, .fn 46 [.ptr 0 0] []), (6, .vec 1), (7, .int .i64 y.len), (8, .int .i64 j)] 0 16))
 [SFrm.mk 21 (some (opsAt Try.prog 21 [1, 1, 1, 1, 1, 0], [])) (some 39) [Item.code (cAt Try.prog 21 [1, 1, 1, 1, 1, 1])] (mkJ 0 [(1, .ptr 2 0), (2, .ptr 3 0), (5, .ptr 0 0), (6, .int .i64 0), (7, .vec 1), (8, .tup [.ptr 0 0, .int .i64 0]), (10, .tup [.ptr 0 0, .int .i64 0]), (11, .ptr 0 0), (12, .int .i64 0), (13, .bool false), (14, .int .i64 0), (15, .bool false), (18, .bool !fz), (19, .ptr 2 5), (20, .bool fz), (21, .bool !fz), (23, .ptr 0 0), (24, .ptr 0 0), (25, .ptr 0 1), (26, .ptr 0 5), (27, .vec 1), (28, .ptr 0 0), (29, .ptr 0 0), (30, .ptr 0 0), (31, .ptr 0 1), (32, .ptr 0 6), (33, .ptr 0 0), (34, .ptr 0 1), (35, .ptr 0 5), (36, .vec 1), (37, .ptr 0 0), (38, .fn 46 [.ptr 0 0] [])] 0 45)]
 [(0, .cells 91 [.vec 4, .vec 5, .vec 6, .vec 7, .vec 8, .nils, .lb false]), (1, .arr 3 y), (2, .cells 28 [.dat ha, .dat hb, .dat hc, .dat wt, .dat hd, .bool fz]), (3, .cells 28 [.nils, .nils, .nils, .nils, .nils, .lb false]), (4, .arr 4 p), (5, .arr 3 a), (6, .arr 31 b), (7, .arr 108 c), (8, .arr 3 x)]
section
variable (n j k w v s : Int) (ha hb hc wt hd p a b c x y e : D) (fz : Bool)
theorem th_go : goS Try.prog [] (fun _ => false) [] 300 (unroll (thL ha hb hc wt hd p a b c x y fz j)) =
 Tree.br (decide (j < (↑(D.len y) : Int)))
 (.need (0 ≤ j ∧ j < (↑(D.len y) : Int) ∧ D.sz y = 1)
 (.need (D.HasCell y (Int.toNat j) 0 (FT.int .i64) ∧ D.sz y = 1)
 (.all fun hs =>
 .need
 (D.sz c = 2 ∧
 D.Fits (D.slc (D.hd (hs 0 0)) 2 [[D.int .i64 1, D.int .i64 (D.getInt y (Int.toNat j) 0)]]) 2 ∧
 (D.len c +
 D.len
 (D.slc (D.hd (hs 0 0)) 2
 [[D.int .i64 1, D.int .i64 (D.getInt y (Int.toNat j) 0)]])) *
 16 ≤
 140737488355328 ∧
 D.len c +
 D.len
 (D.slc (D.hd (hs 0 0)) 2
 [[D.int .i64 1, D.int .i64 (D.getInt y (Int.toNat j) 0)]]) ≤
 9223372036854775807)
 (.all fun hs_1 =>
 .need (0 ≤ D.getInt y (Int.toNat j) 0 ∧ D.getInt y (Int.toNat j) 0 < (↑(D.len p) : Int) ∧ D.sz p = 1)
 (.need (Int.toNat (D.getInt y (Int.toNat j) 0) < D.len p ∧ 1 ≤ D.sz p ∧ D.sz p = 1)
 (.leaf
 (Conf.mk
 (SFrm.mk 53 none none [Item.inLoop (cAt Try.prog 53 [1, 0, 0]), Item.inBlock 0]
 (mkJ 1
 [(1, SV.fn 46 [.ptr 0 0] []), (6, .vec 1), (7, .int .i64 (↑(D.len y) : Int)),
 (8, .int .i64 (IntKind.wrap .i64 (j + 1)))]
 0 16))
 [SFrm.mk 21 (some (opsAt Try.prog 21 [1, 1, 1, 1, 1, 0], [])) (some 39)
 [Item.code (cAt Try.prog 21 [1, 1, 1, 1, 1, 1])]
 (mkJ 0
 [(1, .ptr 2 0), (2, .ptr 3 0), (5, .ptr 0 0), (6, .int .i64 0), (7, .vec 1),
 (8, SV.tup [.ptr 0 0, .int .i64 0]),
 (10, SV.tup [.ptr 0 0, .int .i64 0]), (11, .ptr 0 0),
 (12, .int .i64 0), (13, .bool false), (14, .int .i64 0),
 (15, .bool false), (18, .bool !fz), (19, .ptr 2 5), (20, .bool fz),
 (21, .bool !fz), (23, .ptr 0 0), (24, .ptr 0 0), (25, .ptr 0 1), (26, .ptr 0 5),
 (27, .vec 1), (28, .ptr 0 0), (29, .ptr 0 0), (30, .ptr 0 0), (31, .ptr 0 1),
 (32, .ptr 0 6), (33, .ptr 0 0), (34, .ptr 0 1), (35, .ptr 0 5), (36, .vec 1),
 (37, .ptr 0 0), (38, SV.fn 46 [.ptr 0 0] [])]
 0 45)]
 [(0, OBlk.cells 91 [.vec 4, .vec 5, .vec 6, .vec 7, .vec 8, .nils, .lb false]),
 (1, OBlk.arr 3 y),
 (2, OBlk.cells 28 [.dat ha, .dat hb, .dat hc, .dat wt, .dat hd, .bool fz]),
 (3, OBlk.cells 28 [.nils, .nils, .nils, .nils, .nils, .lb false]),
 (4, OBlk.arr 4 (D.setCells p (Int.toNat (D.getInt y (Int.toNat j) 0)) 0 [D.bool true])),
 (5, OBlk.arr 3 a), (6, OBlk.arr 31 b),
 (7,
 OBlk.arr 108
 (D.slc (D.hd (hs_1 0 0)) 2
 (List.append (D.rows c)
 (D.rows
 (D.slc (D.hd (hs 0 0)) 2
 [[D.int .i64 1, D.int .i64 (D.getInt y (Int.toNat j) 0)]]))))),
 (8, OBlk.arr 3 x)])))))))
 (.ret
 (SV.tup [.agg [.dat a, .dat b, .dat c, .dat x, .nils, .lb false], .dat y, .int .i64 0])) := by kernel_rfl

end
end Go.Proofs.Ytodhhmjilnfecaa
end
section
open Go
namespace Sx
section
variable {P : Program} {w : World} {H : HV}
theorem ret_grLI {X L : SV} {g : Gr} {l : List Int} {k k' : Int} (h : StandsG X g) (hl : Stands Int L l) (hk : k = k') : (Tree.ret (.tup [X, L, .int .i64 k])).holds P ⟨w, H⟩ (RetD w H fun ds => .tup [grSV ds g, .dat ((ds 5).like l), .int .i64 k']) := by
  subst hk
  obtain ⟨ds, h1, h2⟩ := h.ex
  obtain ⟨d, k1, k2, k3, k4⟩ := hl
  refine ret_D (fun i => if i = 5 then d else ds i) (fun E E' => ?_) (fun H' ho => ?_)
  · simp only [SV.den, SV.denL, h1 E]; simp [grSV, SV.den, SV.denL, D.like_self k2 k3, k1]
  · simp only [SV.Ok, SV.OkL] at ho ⊢
    have h3 := h2 H' ho.1
    simp only [grSV, SV.Ok, SV.OkL] at h3 ⊢
    simp [D.like_self k2 k3]
    exact ⟨⟨h3.1, h3.2.1, h3.2.2.1, h3.2.2.2.1, h3.2.2.2.2.1⟩, k4 _ ho.2.1, k2.slc⟩
end
theorem markAll_in : ∀ {l : List Int} {s s' : List Bool}, markAll l s = some s' → ∀ w, w ∈ l → 0 ≤ w ∧ w < s.length
  | [], _, _, _, _, h => by cases h
  | v :: l, s, s', hm, w, h => by
    by_cases h1 : v < 0 ∨ v ≥ s.length
    · rw [mark_out h1] at hm; cases hm
    · cases h2 : s.getD v.toNat false with
      | true => rw [mark_hit h2] at hm; cases hm
      | false =>
        rw [mark_go h1 h2] at hm
        rcases List.mem_cons.1 h with rfl | h
        · omega
        · have := markAll_in hm w h; simpa using this
theorem openErr_in {g : Gr} (h : openErr g = 0) : (checkH g.hist).1 = 0 ∧ divided g = true ∧ ∀ w, w ∈ g.waiting ++ g.held → 0 ≤ w ∧ w < g.hist.writes.length := by
  unfold openErr at h
  by_cases h1 : (checkH g.hist).1 ≠ 0
  · rw [if_pos h1] at h; exact absurd h h1
  · rw [if_neg h1] at h
    cases h2 : divided g with
    | false => rw [h2] at h; simp at h
    | true =>
      refine ⟨by simpa using h1, rfl, ?_⟩
      unfold divided at h2
      cases hm : markAll (g.waiting ++ g.held) (ackd g.hist.writes.length g.hist.events) with
      | none => rw [hm] at h2; simp at h2
      | some s => have := markAll_in hm; rwa [ackd_len] at this
def thawG (g : Gr) : Gr × List Int × Int :=
  if openErr g ≠ 0 then (zGr, [], openErr g) else if g.frozen = false then (zGr, [], 12)
  else (⟨⟨g.hist.sizes, g.hist.writes, g.hist.events ++ g.held.map (Ev.mk 1)⟩, g.waiting, [], false⟩, g.held, 0)
theorem thawG_e1 {g : Gr} (h : openErr g ≠ 0) : thawG g = (zGr, [], openErr g) := by unfold thawG; rw [if_pos h]
theorem thawG_e2 {g : Gr} (h : openErr g = 0) (h2 : g.frozen = false) : thawG g = (zGr, [], 12) := by unfold thawG; rw [if_neg (by simp [h]), if_pos h2]
theorem thawG_ok {g : Gr} (h : openErr g = 0) (h2 : g.frozen = true) : thawG g = ((⟨⟨g.hist.sizes, g.hist.writes, g.hist.events ++ g.held.map (Ev.mk 1)⟩, g.waiting, [], false⟩ : Gr), g.held, (0 : Int)) := by unfold thawG; rw [if_neg (by simp [h]), if_neg (by simp [h2])]
noncomputable def spThawG (x : GrD) : SpecR := .data [x.Right] fun ds => .tup [grSV ds (thawG x.gr).1, .dat ((ds 5).like (thawG x.gr).2.1), .int .i64 (thawG x.gr).2.2]
end Sx
end
section
open Go Go.Proofs Sx
namespace Go.Proofs.Ytodhhmjilnfecaa
set_option maxRecDepth 100000

theorem th_loop {H : HV} {w : World} {x : GrD} (hx : x.Right) (h0 : openErr x.gr = 0) (hf : x.fz = true) {p a b c wt y : D}
    (hp : p.Is Bool ∧ (p.to Bool).length = (x.h.w.to Wt).length) (ha : a.Is Int ∧ a.to Int = x.h.s.to Int) (hb : b.Is Wt ∧ b.to Wt = x.h.w.to Wt) (hc : c.Is Ev ∧ c.to Ev = x.h.e.to Ev) (hcz : c.sz = 2) (hw : wt.Is Int ∧ wt.to Int = x.wt.to Int) (hy : y.Is Int ∧ y.to Int = x.hd.to Int) :
    Runs Try.prog ⟨w, H⟩ (thL x.h.s x.h.w x.h.e x.wt x.hd p a b c wt y x.fz 0) (RetD w H fun ds => .tup [grSV ds (thawG x.gr).1, .dat ((ds 5).like (thawG x.gr).2.1), .int .i64 (thawG x.gr).2.2]) := by
  obtain ⟨⟨ra, rb, rc, la, lb, lc, rd⟩, rw', rh, lw, lh⟩ := id hx
  have cl := D.Is.length (α := Ev) x.h.e
  have hl := D.Is.length (α := Int) x.hd
  have hin := (openErr_in h0).2.2
  have hn4 : (x.h.w.to Wt).length ≤ 4096 := (checkH_ok (openErr_in h0).1).2.2.2.1
  have yl := D.Is.length (α := Int) y
  refine runs_loop (fun u : Nat × D × D => thL x.h.s x.h.w x.h.e x.wt x.hd u.2.1 a b u.2.2 wt y x.fz u.1) (fun u => u.1 ≤ (x.hd.to Int).length ∧ (u.2.1.Is Bool ∧ (u.2.1.to Bool).length = (x.h.w.to Wt).length) ∧ u.2.2.Is Ev ∧ u.2.2.to Ev = x.h.e.to Ev ++ ((x.hd.to Int).take u.1).map (Ev.mk 1) ∧ u.2.2.sz = 2) (fun u => (x.hd.to Int).length - u.1) (fun _ => rfl) ?_ (0, p, c) ⟨Nat.zero_le _, hp, hc.1, by simp [hc.2], hcz⟩
  intro ⟨j, p, c⟩ ⟨hj, ⟨hp, hpl⟩, hc, hct, hcz⟩ ih
  simp only at hj hp hpl hc hct hcz ih
  show Runs _ _ (unroll (thL x.h.s x.h.w x.h.e x.wt x.hd p a b c wt y x.fz j)) _
  apply goS_sound (noCtr _) (fun _ => false) [] 300
  rw [th_go]
  have pl := D.Is.length (α := Bool) p
  have cl2 := D.Is.length (α := Ev) c
  rw [hct, List.length_append, List.length_map, List.length_take] at cl2
  refine ⟨fun hjc => ?_, fun hjc => ?_⟩
  · have hjc : j < (x.hd.to Int).length := by have := of_decide_eq_true hjc; rw [hy.2] at yl; omega
    have hjy : j < (y.to Int).length := by rw [hy.2]; exact hjc
    obtain ⟨c1, c2, c3⟩ := int_at hy.1 hjy
    have he : (y.to Int)[j] = (x.hd.to Int)[j] := by simp only [hy.2]
    have hv := hin ((x.hd.to Int)[j]) (List.mem_append_right _ (List.getElem_mem hjc))
    have hv : 0 ≤ (x.hd.to Int)[j] ∧ (x.hd.to Int)[j] < ((x.h.w.to Wt).length : Int) := hv
    have htk := List.take_succ_eq_append_getElem hjc
    rw [c3, he]
    generalize (x.hd.to Int)[j] = v at *
    have hvi : v.toNat < (p.to Bool).length := by omega
    have hz := hp.size hvi
    have hset := set_full hp hvi (xs := [D.bool true]) (x := true) rfl (ok_bool true) rfl
    refine ⟨c1, ⟨c2, c1.2.2⟩, fun hs => ⟨⟨hcz, .inr rfl, by simp only [len_slc, List.length_cons, List.length_nil]; omega, by simp only [len_slc, List.length_cons, List.length_nil]; omega⟩, fun hs1 => ⟨⟨hv.1, by omega, hz⟩, ⟨by omega, by rw [hz]; exact Nat.le_refl 1, hz⟩, ?_⟩⟩⟩
    have hap : (D.slc (hs1 0 0).hd 2 (List.append (D.rows c) (D.rows (D.slc (hs 0 0).hd 2 [[D.int IntKind.i64 1, D.int IntKind.i64 v]])))).Is Ev ∧ (D.slc (hs1 0 0).hd 2 (List.append (D.rows c) (D.rows (D.slc (hs 0 0).hd 2 [[D.int IntKind.i64 1, D.int IntKind.i64 v]])))).to Ev = c.to Ev ++ [⟨1, v⟩] :=
      is_of rfl ⟨fun r hr => by
        rcases List.mem_append.1 hr with h | h
        · exact (rows_of hc).1 r h
        · rw [List.mem_singleton.1 h]; exact ⟨_, _, rfl⟩, by simp only [append_list, List.map_append, (rows_of hc).2]; rfl⟩
    have := ih (j + 1, p.setCells v.toNat 0 [D.bool true], _) ⟨hjc, ⟨hset.1, by rw [hset.2, List.length_set]; exact hpl⟩, hap.1, by
      rw [hap.2, hct, htk, List.map_append, List.append_assoc]; rfl, rfl⟩ (by simp only; omega)
    simp only at this
    rw [← wrap_succ hjc (by omega)] at this
    exact this
  · have : j = (x.hd.to Int).length := by have := of_decide_eq_false hjc; rw [hy.2] at yl; omega
    subst this
    rw [List.take_length] at hct
    have ht := thawG_ok h0 (show x.gr.frozen = true from hf)
    refine ret_grLI ?_ ?_ ?_
    · rw [ht]
      exact stands_gr (stands_dat ha.1 ha.2) (stands_dat hb.1 hb.2) (stands_dat hc hct) (stands_dat hw.1 hw.2) stands_nils (fun _ => rfl) rfl
    · rw [ht]; exact stands_dat hy.1 hy.2
    · rw [ht]
theorem lawThawG : Law Try.prog 21 (rdGr.one.sp spThawG) := by
  refine law_in _ (by kernel_rfl) fun H w ⟨⟨ha, hb, hc⟩, wt, hd, fz⟩ hok hp => ?_
  have hx : GrD.Right ⟨⟨ha, hb, hc⟩, wt, hd, fz⟩ := hp _ (List.mem_singleton.2 rfl)
  apply goS_sound (noCtr _) (fun _ => false) [(40, 1)] 50
  rw [show rdGr.one.canon ⟨⟨ha, hb, hc⟩, wt, hd, fz⟩ = [.agg [.dat ha, .dat hb, .dat hc, .dat wt, .dat hd, .bool fz]] from rfl, gt_in]
  refine runs_frame (Φ := openPhi ⟨⟨ha, hb, hc⟩, wt, hd, fz⟩) (top := opC ha hb hc wt hd fz) opC_pure (fun k hk => ?_) (fun H w _ => opCRuns hx) fun v m hv => ?_
  · have h : (SV.keysL (mkJ 0 [(1, .ptr 0 0), (2, .ptr 1 0)] 0 45) ++ ((([] : List SFrm).flatMap fun f => SV.keysL f.tmps) ++ Mem.named [(0, .cells 28 [.dat ha, .dat hb, .dat hc, .dat wt, .dat hd, .bool fz]), (1, .cells 28 [.nils, .nils, .nils, .nils, .nils, .lb false])])).all (fun k => decide (k < 500)) = true := by kernel_rfl
    exact of_decide_eq_true (List.all_eq_true.1 h k hk)
  · rcases hv with ⟨h0, rfl, rfl⟩ | ⟨h0, rfl, p, a, b, c, x, y, rfl, hP, hA, hB, hC, hX, hY, hZ⟩
    · show Runs _ _ (gtA ha hb hc wt hd fz (.tup [.nilp, .int .i64 (openErr (GrD.gr ⟨⟨ha, hb, hc⟩, wt, hd, fz⟩))]) []) _
      have hfr := thawG_e1 h0
      apply exec_sound (noCtr _) 200
      rw [gtE_go]
      refine ⟨fun _ => ret_grLI ?_ ?_ ?_, fun h => absurd (by simpa using h) h0⟩
      · rw [hfr]; exact stands_zG fun _ => rfl
      · rw [hfr]; exact stands_nils
      · rw [hfr]
    · show Runs _ _ (gtA ha hb hc wt hd fz okV (okM p a b c x y fz)) _
      apply goS_sound (noCtr _) (fun _ => false) [] 300
      rw [gtO_go]
      refine ⟨fun h => Bool.noConfusion h, fun _ => ⟨fun hf => ?_, fun hf => ?_⟩⟩
      · have hfr := thawG_e2 h0 (show (GrD.gr ⟨⟨ha, hb, hc⟩, wt, hd, fz⟩).frozen = false by show fz = false; simpa using hf)
        refine ret_grLI ?_ ?_ ?_
        · rw [hfr]; exact stands_zG fun _ => rfl
        · rw [hfr]; exact stands_nils
        · rw [hfr]
      · have hf : fz = true := by simpa using hf
        exact th_loop (x := ⟨⟨ha, hb, hc⟩, wt, hd, fz⟩) hx h0 hf ⟨hP.1, by rw [hP.2, ackd_len]⟩ hA hB hC hZ.1 hX hY
end Go.Proofs.Ytodhhmjilnfecaa
end
section
open Go Go.Proofs Sx
namespace Go.Proofs.Ytodhhmjilnfecaa
set_option maxRecDepth 100000
set_option maxHeartbeats 0
noncomputable def ctNw : Ctrs := [(60, ctrOf (rdD.one.sp spNewH)), (64, ctrOf (rdD.one.sp spNewH))]
section
variable (d : D)
theorem nwG_in : exec Try.prog ctNw 200 (entry Try.prog 25 [.dat d]) =
 Tree.need (D.Is Int d ∧ D.len d ≤ 1048576)
 (.all fun hs =>
 .br (Prod.snd (newH (D.to Int d)) != 0)
 (.ret
 (SV.tup
 [.agg [.nils, .nils, .nils, .nils, .nils, .lb false],
 .int .i64 (Prod.snd (newH (D.to Int d)))]))
 (.ret
 (SV.tup
 [.agg
 [.dat (D.like (hs 0 0) (Hist.sizes (Prod.fst (newH (D.to Int d))))),
 .dat (D.like (hs 0 1) (Hist.writes (Prod.fst (newH (D.to Int d))))),
 .dat (D.like (hs 0 2) (Hist.events (Prod.fst (newH (D.to Int d))))), .nils, .nils, .lb false],
 .int .i64 0]))) := by kernel_rfl

theorem nwGR_in : exec Try.prog ctNw 200 (entry Try.prog 29 [.dat d]) =
 Tree.need (D.Is Int d ∧ D.len d ≤ 1048576)
 (.all fun hs =>
 .br (Prod.snd (newH (D.to Int d)) != 0)
 (.ret
 (SV.tup
 [.agg [.nils, .nils, .nils, .nils, .nils, .lb false],
 .int .i64 (Prod.snd (newH (D.to Int d)))]))
 (.ret
 (SV.tup
 [.agg
 [.dat (D.like (hs 0 0) (Hist.sizes (Prod.fst (newH (D.to Int d))))),
 .dat (D.like (hs 0 1) (Hist.writes (Prod.fst (newH (D.to Int d))))),
 .dat (D.like (hs 0 2) (Hist.events (Prod.fst (newH (D.to Int d))))), .nils, .nils, .lb false],
 .int .i64 0]))) := by kernel_rfl

end
end Go.Proofs.Ytodhhmjilnfecaa
end
section
open Go Go.Proofs Sx
namespace Go.Proofs.Ytodhhmjilnfecaa
set_option maxRecDepth 100000

theorem ctNwOk : Ctrs.Ok Try.prog ctNw := by
  intro x hx
  simp only [ctNw, List.mem_cons, List.not_mem_nil, or_false] at hx
  rcases hx with rfl | rfl
  · exact ctrOf_ok lawNewH
  · exact ctrOf_ok lawNewHR
theorem newG_err {s : List Int} (h : (newH s).2 ≠ 0) : newG s = (zGr, (newH s).2) := by
  unfold newH at h ⊢; unfold newG
  by_cases h1 : sizesErr s ≠ 0
  · rw [if_pos h1, if_pos h1]
  · rw [if_neg h1] at h; exact absurd rfl h
theorem newG_ok {s : List Int} (h : (newH s).2 = 0) : newG s = ((⟨(newH s).1, [], [], false⟩ : Gr), (0 : Int)) := by
  unfold newH at h ⊢; unfold newG
  by_cases h1 : sizesErr s ≠ 0
  · rw [if_pos h1] at h; exact absurd h h1
  · rw [if_neg h1, if_neg h1]
theorem lawNewG : Law Try.prog 25 (rdD.one.sp spNewG) := by
  refine law_in _ (by kernel_rfl) fun H w d hok hp => ?_
  obtain ⟨hd, hlen⟩ := hp _ (List.mem_singleton.2 rfl)
  apply exec_sound ctNwOk 200
  rw [show rdD.one.canon d = [.dat d] from rfl, nwG_in]
  refine ⟨⟨hd, hlen⟩, fun hs => ⟨fun he => ?_, fun he => ?_⟩⟩
  · have he := newG_err (s := d.to Int) (by simpa using he)
    refine ret_grI ?_ ?_
    · rw [he]; exact stands_zG fun _ => rfl
    · rw [he]
  · have he := newG_ok (s := d.to Int) (by simpa using he)
    refine ret_grI ?_ ?_
    · rw [he]; exact stands_gr stands_like stands_like stands_like stands_nils stands_nils (fun _ => rfl) rfl
    · rw [he]
theorem lawNewGR : Law Try.prog 29 (rdD.one.sp spNewG) := by
  refine law_in _ (by kernel_rfl) fun H w d hok hp => ?_
  obtain ⟨hd, hlen⟩ := hp _ (List.mem_singleton.2 rfl)
  apply exec_sound ctNwOk 200
  rw [show rdD.one.canon d = [.dat d] from rfl, nwGR_in]
  refine ⟨⟨hd, hlen⟩, fun hs => ⟨fun he => ?_, fun he => ?_⟩⟩
  · have he := newG_err (s := d.to Int) (by simpa using he)
    refine ret_grI ?_ ?_
    · rw [he]; exact stands_zG fun _ => rfl
    · rw [he]
  · have he := newG_ok (s := d.to Int) (by simpa using he)
    refine ret_grI ?_ ?_
    · rw [he]; exact stands_gr stands_like stands_like stands_like stands_nils stands_nils (fun _ => rfl) rfl
    · rw [he]
end Go.Proofs.Ytodhhmjilnfecaa
end
section
namespace Sx
open Go RowKit
def cellOk (m : Mem) : SV → Bool
  | .int .. => true
  | .bool _ => true
  | .lb _ => true
  | .str _ => true
  | .nils => true
  | .dat _ => true
  | .vec j => match m.get j with
    | some (.arr ..) => true
    | some (.pub _) => true
    | _ => false
  | _ => false

def cellsOk (m : Mem) : List SV → Bool
  | [] => true
  | c :: r => cellOk m c && cellsOk m r
abbrev PSpec := List SV → List SV → Option (List Prop × ((Nat → D) → SV))
def rowD (b : Nat) (row : List D) : D := .slc (some (⟨b, 0, none⟩, 1)) row.length [row]

def PLaw (P : Program) (f : FuncId) (spec : PSpec) : Prop :=
  Bodied P f = true ∧ ∀ (H : HV) (E : Env) (b : Nat) (row : List D) (cs args : List SV), (rowD b row).Ok H → (∀ o, row.length ≤ o → H b o = none) → SV.denL E cs = row.map D.val → SV.OkL H args →
    match spec cs args with
    | some (ps, g) => (∀ p, p ∈ ps → p) → PCall P f H (SV.denL E (.elt (rowD b row) 0 0 :: args)) fun H' u =>
        ∃ hs, u = (g hs).den E ∧ ∀ H2, (∀ b' o v, b' ≠ b → H' b' o = some v → H2 b' o = some v) → (g hs).Ok H2
    | none => True

def pCtr (spec : PSpec) : Ctr := fun args _ m =>
  match args with
  | .ptr k 0 :: rest => match m.get k with
    | some (.cells _ cs) => match cellsOk m cs with
      | true => match spec cs (closeL (pubsR (leavesL rest) m) rest) with
        | some (ps, g) => .all ps fun hs => (g hs, pubsR (leavesL rest) m)
        | none => .bad
      | false => .bad
    | _ => .bad
  | _ => .bad






end Sx
end
section
namespace Sx
open Go RowKit Go.Sort
def Deletes (P : Program) (f : FuncId) : Prop := ∀ (blk cap i j : Nat) (zs : List Int) (w : World), Holds (Value.int .i64) w blk 0 zs.toArray → zs.length ≤ cap → cap ≤ 9223372036854775807 → i ≤ j → j ≤ zs.length →
  Calls P f #[.slice (some ⟨blk, 0, none⟩) zs.length cap, .int .i64 i, .int .i64 j] w fun e w' => e = .returned (.slice (some ⟨blk, 0, none⟩) (zs.length - (j - i)) cap) ∧ ∃ q, w' = putRow (Value.int .i64) (Sort.ahead w q) blk 0 (zs.take i ++ zs.drop j ++ List.replicate (j - i) 0).toArray

def dCtr (e : TypeId) : Ctr := fun args key m => match args with
  | [.vec k, .int .i64 i, .int .i64 j] => match m.get k with
    | some (.arr e' d) => if e' = e then .all [d.Is Int ∧ 0 ≤ i ∧ i < j ∧ j ≤ (d.len : Int)] fun _ => (.vec key, (key, .arr e (.slc d.hd d.sz (d.rows.take i.toNat ++ d.rows.drop j.toNat))) :: m.del k) else .bad
    | _ => .bad
  | _ => .bad

theorem roM_arr : ∀ {m : Mem} {k : Nat} {e : TypeId} {d : D}, roM m = true → m.get k = some (.arr e d) → False
  | [], _, _, _, _, h => by simp [Mem.get] at h
  | (j, o) :: r, k, e, d, h, hg => by
    simp only [Mem.get] at hg
    split at hg
    · cases hg; simp [roM] at h
    · cases o <;> simp [roM] at h
      · exact roM_arr h hg
      · exact roM_arr h hg

theorem dCtr_ro (e : TypeId) : CtrRO (dCtr e) := by
  intro args key m h
  have hb : dCtr e args key m = .bad := by
    unfold dCtr
    split
    · split
      · rename_i hg
        exact (roM_arr h hg).elim
      · rfl
    · rfl
  rw [hb]
  trivial


theorem flat_ints : ∀ {rows : List (List D)} {zs : List Int}, SRows Int rows zs → flat rows = zs.map (Value.int .i64)
  | [], zs, h => by rw [← h.2]; rfl
  | r :: rs, zs, h => by
    obtain ⟨n, rfl⟩ := h.1 r List.mem_cons_self
    have ih := flat_ints (rows := rs) (zs := rs.map (Codec.dec (α := Int))) ⟨fun r hr => h.1 r (List.mem_cons_of_mem _ hr), rfl⟩
    rw [← h.2, List.map_cons, List.map_cons, ← ih]
    rfl

theorem rows_take {α : Type} [Codec α] {rows : List (List D)} {xs : List α} (h : SRows α rows xs) (i : Nat) : SRows α (rows.take i) (xs.take i) :=
  ⟨fun r hr => h.1 r (List.mem_of_mem_take hr), by rw [List.map_take, h.2]⟩
theorem rows_drop {α : Type} [Codec α] {rows : List (List D)} {xs : List α} (h : SRows α rows xs) (i : Nat) : SRows α (rows.drop i) (xs.drop i) :=
  ⟨fun r hr => h.1 r (List.mem_of_mem_drop hr), by rw [List.map_drop, h.2]⟩
theorem rows_zero (n : Nat) : SRows Int (List.replicate n [D.int .i64 0]) (List.replicate n 0) :=
  ⟨fun r hr => by rw [List.eq_of_mem_replicate hr]; exact ⟨0, rfl⟩, by simp [List.map_replicate, Codec.dec, D.getInt]⟩

theorem int_okH {H : HV} {rows : List (List D)} {zs : List Int} (h : SRows Int rows zs) : ∀ r, r ∈ rows → ∀ x, x ∈ r → D.Ok H x := by
  intro r hr x hx
  obtain ⟨n, rfl⟩ := h.1 r hr
  rw [List.mem_singleton.1 hx]
  exact .int _ _
theorem int_len1 {rows : List (List D)} {zs : List Int} (h : SRows Int rows zs) : ∀ r, r ∈ rows → r.length = 1 := by
  intro r hr
  obtain ⟨n, rfl⟩ := h.1 r hr
  rfl

theorem putCells_take {cur : Array Value} {zs : List Int} (h : zs.length ≤ cur.size) : (putCells (Value.int .i64) 0 zs.toArray cur).toList.take zs.length = zs.map (Value.int .i64) := by
  apply List.ext_getElem?
  intro k
  rw [List.getElem?_take]
  by_cases hk : k < zs.length
  · rw [if_pos hk]
    have hk2 : k < (putCells (Value.int .i64) 0 zs.toArray cur).toList.length := by simp [putCells]; omega
    rw [List.getElem?_eq_getElem hk2]
    simp [putCells, hk]
  · rw [if_neg hk, List.getElem?_eq_none (by simp; omega)]

theorem dCtr_ok {P : Program} {f : FuncId} {e : TypeId} (hb : ∃ fn, P.funcs[f]? = some fn ∧ fn.body.isSome = true ∧ (fn.name == "runtime.NumGoroutine") = false) (hd : Deletes P f) : CtrOk P f (dCtr e) := by
  refine ⟨hb, fun C E H w args key m g hargs hk hk2 => ?_, dCtr_ro e⟩
  unfold CallRight dCtr
  split
  · rename_i r v m2 heq
    split at heq
    · split at heq
      · split at heq <;> cases heq
      · cases heq
    · cases heq
  · rename_i r ps gg heq
    split at heq
    · rename_i k i j
      split at heq
      · rename_i e' d hkk
        split at heq
        · rename_i he
          subst he
          cases heq
          intro hp
          obtain ⟨h0, h1, h2, h3⟩ := hp _ (List.mem_singleton.2 rfl)
          have hmem := Mem.get_mem hkk
          have hown := g.own k _ hmem
          obtain ⟨hd', sz, rows, rfl, hv, how, hl, hk3, ha⟩ := hown
          have hR := rows_of h0
          simp only [D.rows] at hR
          generalize hzs : D.to Int (D.slc hd' sz rows) = zs at hR
          have hrl := rows_len hR
          simp only [D.len, D.rows] at h3
          have hsz : sz = 1 := by
            have h4 : 0 < rows.length := by omega
            have := hl rows[0] (List.getElem_mem h4)
            rw [int_len1 hR _ (List.getElem_mem h4)] at this
            exact this.symm
          subst hsz
          rcases how with ⟨hfl, hcase⟩
          rcases hcase with ⟨hq, h4⟩ | ⟨g', cap, cur, hq, hbase, hg, hnc, hcm, hcs, htake⟩
          · omega
          · cases hd' with
            | none => simp [D.val, hval] at hq
            | some ac =>
              obtain ⟨a, c⟩ := ac
              obtain ⟨rfl, hno⟩ := ha a c rfl
              simp only [D.val, hval, Value.slice.injEq, Option.some.injEq, Addr.mk.injEq] at hq
              obtain ⟨⟨hgb, _, _⟩, _, rfl⟩ := hq
              subst hgb
              rw [flat_ints hR, Nat.mul_one] at htake
              rw [Nat.mul_one] at hcs
              have hH : Holds (Value.int .i64) w (E.b k) 0 zs.toArray := by
                intro t ht
                simp only [List.size_toArray] at ht
                constructor
                · simp only [World.cell?, hg, Nat.zero_add]
                  have h5 : cur[t]? = (zs.map (Value.int .i64))[t]? := by
                    rw [← htake, List.getElem?_take, if_pos (by omega), Array.getElem?_toList]
                  simp [h5, ht]
                · simp [World.frozen?, hg]
              obtain ⟨i', rfl⟩ := Int.eq_ofNat_of_zero_le h1
              obtain ⟨j', rfl⟩ := Int.eq_ofNat_of_zero_le (show 0 ≤ j by omega)
              have hcall := hd (E.b k) c i' j' zs w hH (by omega) (by simp only [maxLen] at hcm; omega) (by omega) (by omega)
              have hargs' : (SV.denL E [.vec k, .int .i64 (i' : Int), .int .i64 (j' : Int)]).toArray = #[.slice (some ⟨E.b k, 0, none⟩) zs.length c, .int .i64 i', .int .i64 j'] := by
                simp [SV.denL, SV.den, hv, hval, hrl]
              simp only [Int.toNat_natCast]
              rw [hargs']
              refine hcall.mono ?_
              rintro ev w' ⟨rfl, q, hw'⟩
              -- the rows behind the call
              generalize hzs' : (zs.take i' ++ zs.drop j' ++ List.replicate (j' - i') 0) = zs' at hw'
              have hzl : zs'.length = zs.length := by rw [← hzs']; simp; omega
              have hR' : SRows Int (rows.take i' ++ rows.drop j' ++ List.replicate (j' - i') [D.int .i64 0]) zs' := by
                rw [← hzs']
                exact rows_app (rows_app (rows_take hR i') (rows_drop hR j')) (rows_zero _)
              have hheap : w'.heap[E.b k]? = some (.cells (putCells (Value.int .i64) 0 zs'.toArray cur) e' (0, 0)) := by
                rw [hw']; simp [putRow, mapBlock, Sort.ahead, Array.getElem?_modify, hg, onCells]
              have hother : ∀ b, b ≠ E.b k → w'.heap[b]? = w.heap[b]? := by
                intro b hb
                rw [hw']; simp [putRow, mapBlock, Sort.ahead, Array.getElem?_modify, Ne.symm hb]
              have hsize : w'.heap.size = w.heap.size := by rw [hw']; simp [putRow, mapBlock, Sort.ahead]
              have hos : w'.os = w.os := by rw [hw']; rfl
              have htp : w'.tape = w.tape := by rw [hw']; rfl
              have hou : w'.output = w.output := by rw [hw']; rfl
              have hrow' := hR'
              have hcs' : (putCells (Value.int .i64) 0 zs'.toArray cur).size = c := by simp [putCells, hcs]
              have g1 : Good C (m.set k (.arr e' (.slc (some (⟨E.b k, 0, none⟩, c)) 1 (rows.take i' ++ rows.drop j' ++ List.replicate (j' - i') [D.int .i64 0])))) E H w' := by
                refine g.put hkk hother hos htp hou hsize (by simp [OBlk.Lies, D.hd]) ?_
                refine ⟨some (⟨E.b k, 0, none⟩, c), 1, _, rfl, by rw [hv]; simp; omega, ?_, int_len1 hR', int_okH hR', fun a c' h => by cases h; exact ⟨rfl, hno⟩⟩
                refine ⟨by rw [flat_ints hR', List.length_map, rows_len hR', Nat.mul_one], .inr ⟨E.b k, c, _, by simp [D.val, hval], hbase, hheap, by rw [rows_len hR', hzl]; omega, hcm, by rw [hcs', Nat.mul_one], ?_⟩⟩
                rw [flat_ints hR', rows_len hR', Nat.mul_one]
                exact putCells_take (by rw [hzl, hcs]; omega)
              have hspec := Mem.set_spec (o' := .arr e' (.slc (some (⟨E.b k, 0, none⟩, c)) 1 (rows.take i' ++ rows.drop j' ++ List.replicate (j' - i') [D.int .i64 0]))) g.keys hkk
              have hdel := fun j p => Mem.del_ne (j := j) (p := p) g.keys hmem
              have g2 : Good C (m.del k) E H w' := by
                refine ⟨g1.below, g1.ext, g1.fresh, g1.cell, fun j o hj => ?_, (g.sub (m.del_sub k)).keys, (g.sub (m.del_sub k)).apart, g1.fix⟩
                have h5 := g.own j o (Mem.del_mem hj)
                refine h5.keep (fun hl2 => hother _ ?_)
                exact g.apart (j, o) (k, _) (Mem.del_mem hj) hmem (hdel j o hj) hl2 (by simp [OBlk.Lies, D.hd])
              have hRn : SRows Int (rows.take i' ++ rows.drop j') (zs.take i' ++ zs.drop j') := rows_app (rows_take hR i') (rows_drop hR j')
              have hln : (rows.take i' ++ rows.drop j').length = zs.length - (j' - i') := by rw [rows_len hRn]; simp; omega
              have hka := E.agree_setV key (E.b k) (some (⟨E.b k, 0, none⟩, c), (rows.take i' ++ rows.drop j').length)
              have hbE : (E.setV key (E.b k) (some (⟨E.b k, 0, none⟩, c), (rows.take i' ++ rows.drop j').length)).b key = E.b k := by simp [Env.setV]
              have hvE : (E.setV key (E.b k) (some (⟨E.b k, 0, none⟩, c), (rows.take i' ++ rows.drop j').length)).v key = (some (⟨E.b k, 0, none⟩, c), (rows.take i' ++ rows.drop j').length) := by simp [Env.setV]
              have g3 : Good C ((key, .arr e' (.slc (some (⟨E.b k, 0, none⟩, c)) 1 (rows.take i' ++ rows.drop j'))) :: m.del k) (E.setV key (E.b k) (some (⟨E.b k, 0, none⟩, c), (rows.take i' ++ rows.drop j').length)) H w' := by
                refine g2.cons (Mem.has_del hk) hka (Below.refl _ _) ?_ (fun _ j p hj hlp => ?_)
                · refine ⟨some (⟨E.b k, 0, none⟩, c), 1, _, rfl, by rw [hvE], ?_, int_len1 hRn, int_okH hRn, fun a c' h => by cases h; rw [hbE]; exact ⟨rfl, hno⟩⟩
                  refine ⟨by rw [flat_ints hRn, List.length_map, rows_len hRn, Nat.mul_one], .inr ⟨E.b k, c, _, by simp [D.val, hval], hbase, hheap, by rw [hln]; omega, hcm, by rw [hcs', Nat.mul_one], ?_⟩⟩
                  have h6 := putCells_take (cur := cur) (zs := zs') (by rw [hzl, hcs]; omega)
                  rw [Nat.mul_one, hln, flat_ints hRn]
                  have h7 := congrArg (List.take (zs.length - (j' - i'))) h6
                  rw [List.take_take, Nat.min_eq_left (by omega)] at h7
                  rw [h7, ← List.map_take, ← hzs', List.take_append_of_le_length (by simp; omega), List.take_of_length_le (by simp; omega)]
                · rw [hbE]
                  exact (g.apart (j, p) (k, _) (Mem.del_mem hj) hmem (hdel j p hj) hlp (by simp [OBlk.Lies, D.hd])).symm
              refine ⟨fun _ => .bool false, _, H, ?_, hka, HLe.refl _, g3, by simp [SV.Ok], ?_⟩
              · have hden : (SV.vec key).den (E.setV key (E.b k) (some (⟨E.b k, 0, none⟩, c), (rows.take i' ++ rows.drop j').length)) = .slice (some ⟨E.b k, 0, none⟩) (zs.length - (j' - i')) c := by
                  simp only [SV.den, hvE, hval]
                  rw [hln]
                exact congrArg _ hden.symm
              · refine ⟨by rw [hsize]; exact Nat.le_refl _, fun b hb hno' => hother b (fun e1 => hno' k _ hmem (by simp [OBlk.Lies, D.hd]) e1.symm), fun _ _ _ h => .inl h, fun q o hq => ?_, fun q o hq hl2 => ?_, hos, htp, hou⟩
                · rcases List.mem_cons.1 hq with hq | hq
                  · exact .inl (congrArg Prod.fst hq)
                  · exact .inr ⟨o, Mem.del_mem hq⟩
                · rcases List.mem_cons.1 hq with hq | hq
                  · have e1 : q = key := congrArg Prod.fst hq
                    subst e1
                    rw [hbE]; exact .inr ⟨k, _, hmem, by simp [OBlk.Lies, D.hd], rfl⟩
                  · refine .inr ⟨q, o, Mem.del_mem hq, hl2, ?_⟩
                    exact (hka.1 q (Mem.has_key hk _ (Mem.del_mem hq)).1).1
        · cases heq
      · cases heq
    · cases heq
  · trivial
end Sx
end
section
open Go Go.Proofs Sx
namespace Go.Proofs.Ytodhhmjilnfecaa
set_option maxRecDepth 100000
set_option maxHeartbeats 0
noncomputable def ctDu : Ctrs := [(44, ctrOf ((rdD.two rdInt).sp spIxI)), (45, dCtr 3)]
section
variable (n j k w v s : Int) (p a b c x y e : D) (fz : Bool)
theorem duO_go : exec Try.prog ctDu 400 (gdA n okV (okM p a b c x y fz)) =
 Tree.br false
 (.ret (SV.tup [.agg [.nils, .nils, .nils, .nils, .nils, .lb false], .nils, .int .i64 0]))
 (.need (D.Is Int x ∧ D.len x ≤ 1048576)
 (.br (decide ((idxG (D.to Int x) fun y => decide (n = y)) < 0))
 (.ret
 (SV.tup [.agg [.nils, .nils, .nils, .nils, .nils, .lb false], .nils, .int .i64 7]))
 (.need
 (D.Is Int x ∧
 (0 ≤ idxG (D.to Int x) fun y => decide (n = y)) ∧
 (idxG (D.to Int x) fun y => decide (n = y)) <
 IntKind.wrap .i64 ((idxG (D.to Int x) fun y => decide (n = y)) + 1) ∧
 IntKind.wrap .i64 ((idxG (D.to Int x) fun y => decide (n = y)) + 1) ≤ (↑(D.len x) : Int))
 (.all fun hs =>
 .br fz
 (.all fun hs =>
 .need
 (D.sz y = 1 ∧
 D.Fits (D.slc (D.hd (hs 0 0)) 1 [[D.int .i64 n]]) 1 ∧
 (D.len y + D.len (D.slc (D.hd (hs 0 0)) 1 [[D.int .i64 n]])) * 8 ≤ 140737488355328 ∧
 D.len y + D.len (D.slc (D.hd (hs 0 0)) 1 [[D.int .i64 n]]) ≤ 9223372036854775807)
 (.all fun hs_1 =>
 .ret
 (SV.tup
 [.agg
 [.dat a, .dat b, .dat c,
 .dat
 (D.slc (D.hd x) (D.sz x)
 (List.append
 (List.take (Int.toNat (idxG (D.to Int x) fun y => decide (n = y))) (D.rows x))
 (List.drop
 (Int.toNat
 (IntKind.wrap .i64 ((idxG (D.to Int x) fun y => decide (n = y)) + 1)))
 (D.rows x)))),
 .dat
 (D.slc (D.hd (hs_1 0 0)) 1
 (List.append (D.rows y) (D.rows (D.slc (D.hd (hs 0 0)) 1 [[D.int .i64 n]])))),
 .bool fz],
 .nils, .int .i64 0])))
 (.all fun hs =>
 .need
 (D.sz c = 2 ∧
 D.Fits (D.slc (D.hd (hs 0 0)) 2 [[D.int .i64 1, D.int .i64 n]]) 2 ∧
 (D.len c + D.len (D.slc (D.hd (hs 0 0)) 2 [[D.int .i64 1, D.int .i64 n]])) * 16 ≤
 140737488355328 ∧
 D.len c + D.len (D.slc (D.hd (hs 0 0)) 2 [[D.int .i64 1, D.int .i64 n]]) ≤
 9223372036854775807)
 (.all fun hs_1 =>
 .need (0 ≤ n ∧ n < (↑(D.len p) : Int) ∧ D.sz p = 1)
 (.need (Int.toNat n < D.len p ∧ 1 ≤ D.sz p ∧ D.sz p = 1)
 (.all fun hs_2 =>
 .ret
 (SV.tup
 [.agg
 [.dat a, .dat b,
 .dat
 (D.slc (D.hd (hs_1 0 0)) 2
 (List.append (D.rows c)
 (D.rows
 (D.slc (D.hd (hs 0 0)) 2 [[D.int .i64 1, D.int .i64 n]])))),
 .dat
 (D.slc (D.hd x) (D.sz x)
 (List.append
 (List.take (Int.toNat (idxG (D.to Int x) fun y => decide (n = y))) (D.rows x))
 (List.drop
 (Int.toNat
 (IntKind.wrap .i64
 ((idxG (D.to Int x) fun y => decide (n = y)) + 1)))
 (D.rows x)))),
 .dat y, .bool fz],
 .dat (D.slc (D.hd (hs_2 0 0)) 1 [[D.int .i64 n]]), .int .i64 0]))))))))) := by kernel_rfl

end
end Go.Proofs.Ytodhhmjilnfecaa
end
section
open Go
namespace Sx
theorem idxG_range {α : Type} {l : List α} {p : α → Bool} (h : ¬idxG l p < 0) : ∃ j : Nat, idxG l p = j ∧ ∃ hj : j < l.length, p l[j] = true := by
  unfold idxG at h ⊢
  cases hf : l.findIdx? p with
  | none => rw [hf] at h; simp at h
  | some i =>
    rw [List.findIdx?_eq_some_iff_getElem] at hf
    obtain ⟨h1, h2, _⟩ := hf
    exact ⟨i, rfl, h1, h2⟩
def durG (g : Gr) (n : Int) : Gr × List Int × Int :=
  if openErr g ≠ 0 then (zGr, [], openErr g)
  else if (idxG g.waiting fun y => decide (n = y)) < 0 then (zGr, [], 7)
  else if g.frozen = true then (⟨g.hist, g.waiting.take (idxG g.waiting fun y => decide (n = y)).toNat ++ g.waiting.drop ((idxG g.waiting fun y => decide (n = y)).toNat + 1), g.held ++ [n], true⟩, [], 0)
  else (⟨⟨g.hist.sizes, g.hist.writes, g.hist.events ++ [⟨1, n⟩]⟩, g.waiting.take (idxG g.waiting fun y => decide (n = y)).toNat ++ g.waiting.drop ((idxG g.waiting fun y => decide (n = y)).toNat + 1), g.held, false⟩, [n], 0)
theorem durG_e1 {g : Gr} {n : Int} (h : openErr g ≠ 0) : durG g n = (zGr, [], openErr g) := by unfold durG; rw [if_pos h]
theorem durG_e2 {g : Gr} {n : Int} (h : openErr g = 0) (h2 : (idxG g.waiting fun y => decide (n = y)) < 0) : durG g n = (zGr, [], 7) := by unfold durG; rw [if_neg (by simp [h]), if_pos h2]
theorem durG_fz {g : Gr} {n : Int} (h : openErr g = 0) {j : Nat} (h2 : (idxG g.waiting fun y => decide (n = y)) = j) (h3 : g.frozen = true) :
    durG g n = ((⟨g.hist, g.waiting.take j ++ g.waiting.drop (j + 1), g.held ++ [n], true⟩ : Gr), ([] : List Int), (0 : Int)) := by
  unfold durG; rw [if_neg (by simp [h]), h2, if_neg (by omega), if_pos h3]; rfl
theorem durG_un {g : Gr} {n : Int} (h : openErr g = 0) {j : Nat} (h2 : (idxG g.waiting fun y => decide (n = y)) = j) (h3 : g.frozen = false) :
    durG g n = ((⟨⟨g.hist.sizes, g.hist.writes, g.hist.events ++ [⟨1, n⟩]⟩, g.waiting.take j ++ g.waiting.drop (j + 1), g.held, false⟩ : Gr), [n], (0 : Int)) := by
  unfold durG; rw [if_neg (by simp [h]), h2, if_neg (by omega), if_neg (by simp [h3])]; rfl
noncomputable def spDurG (x : GrD × Int) : SpecR := .data [x.1.Right] fun ds => .tup [grSV ds (durG x.1.gr x.2).1, .dat ((ds 5).like (durG x.1.gr x.2).2.1), .int .i64 (durG x.1.gr x.2).2.2]
end Sx
end
section
open Go Go.Proofs Go.Shelf Sx
namespace Go.Proofs.Ytodhhmjilnfecaa
def ren45 : Ren := ⟨fun | 23 => 45 | n => n, fun n => n, fun n => n⟩
theorem lays45 : Lays2.n23 Try.prog ren45 where
  mixed := by kernel_rfl
  f23 := Try.func45.trans (congrArg some (by kernel_rfl))
  t0 := Try.underlying0
  a0 := Try.isAgg0
  z0 := Try.sizeOf0
  v0 := Try.zeroValue0
  t3 := Try.underlying3
  a3 := Try.isAgg3
  z3 := Try.sizeOf3
  v3 := Try.zeroValue3
  t4 := Try.underlying4
  a4 := Try.isAgg4
  z4 := Try.sizeOf4
  v4 := Try.zeroValue4
  t22 := Try.underlying22
  a22 := Try.isAgg22
  z22 := Try.sizeOf22
  v22 := Try.zeroValue22
  i3 := by kernel_rfl

theorem del45 : Deletes Try.prog 45 := fun blk cap i j zs w hH hc hm hij hj => Any.slices_Delete_int lays45 blk 0 cap i j zs w hH hc hm hij hj
theorem ctr45 : CtrOk Try.prog 45 (dCtr 3) := dCtr_ok (bodied_spec (by kernel_rfl)) del45
end Go.Proofs.Ytodhhmjilnfecaa
end
section
open Go Go.Proofs Sx
namespace Go.Proofs.Ytodhhmjilnfecaa
set_option maxRecDepth 100000

theorem ctDuOk : Ctrs.Ok Try.prog ctDu := by
  intro x hx
  simp only [ctDu, List.mem_cons, List.not_mem_nil, or_false] at hx
  rcases hx with rfl | rfl
  · exact ctrOf_ok lawIxW
  · exact ctr45
theorem app_int {d : D} {h1 h2 : Hd} {n : Int} (hd : d.Is Int) : (D.slc h1 1 (List.append (D.rows d) (D.rows (D.slc h2 1 [[D.int IntKind.i64 n]])))).Is Int ∧ (D.slc h1 1 (List.append (D.rows d) (D.rows (D.slc h2 1 [[D.int IntKind.i64 n]])))).to Int = d.to Int ++ [n] :=
  is_of rfl ⟨fun r hr => by
    rcases List.mem_append.1 hr with h | h
    · exact (rows_of hd).1 r h
    · rw [List.mem_singleton.1 h]; exact ok_int _, by simp only [append_list, List.map_append, (rows_of hd).2]; rfl⟩
theorem app_ev {d : D} {h1 h2 : Hd} {k n : Int} (hd : d.Is Ev) : (D.slc h1 2 (List.append (D.rows d) (D.rows (D.slc h2 2 [[D.int IntKind.i64 k, D.int IntKind.i64 n]])))).Is Ev ∧ (D.slc h1 2 (List.append (D.rows d) (D.rows (D.slc h2 2 [[D.int IntKind.i64 k, D.int IntKind.i64 n]])))).to Ev = d.to Ev ++ [⟨k, n⟩] :=
  is_of rfl ⟨fun r hr => by
    rcases List.mem_append.1 hr with h | h
    · exact (rows_of hd).1 r h
    · rw [List.mem_singleton.1 h]; exact ⟨_, _, rfl⟩, by simp only [append_list, List.map_append, (rows_of hd).2]; rfl⟩
theorem cut_int {d : D} {a : Hd} {s : Nat} (hs : s = 1) (hd : d.Is Int) (i j : Nat) : (D.slc a s (List.append (List.take i (D.rows d)) (List.drop j (D.rows d)))).Is Int ∧ (D.slc a s (List.append (List.take i (D.rows d)) (List.drop j (D.rows d)))).to Int = (d.to Int).take i ++ (d.to Int).drop j :=
  is_of hs ⟨fun r hr => by
    rcases List.mem_append.1 hr with h | h
    · exact (rows_of hd).1 r (List.mem_of_mem_take h)
    · exact (rows_of hd).1 r (List.mem_of_mem_drop h), by simp only [append_list, List.map_append, List.map_take, List.map_drop, (rows_of hd).2]⟩

theorem lawDurG : Law Try.prog 15 ((rdGr.two rdInt).sp spDurG) := by
  refine law_in _ (by kernel_rfl) fun H w ⟨⟨⟨ha, hb, hc⟩, wt, hd, fz⟩, n⟩ hok hp => ?_
  have hx : GrD.Right ⟨⟨ha, hb, hc⟩, wt, hd, fz⟩ := hp _ (List.mem_singleton.2 rfl)
  obtain ⟨⟨ra, rb, rc, la, lb, lc, rd⟩, rw', rh, lw, lh⟩ := id hx
  simp only at ra rb rc la lb lc rd rw' rh lw lh
  apply goS_sound (noCtr _) (fun _ => false) [(40, 1)] 50
  rw [show (rdGr.two rdInt).canon (⟨⟨ha, hb, hc⟩, wt, hd, fz⟩, n) = [.agg [.dat ha, .dat hb, .dat hc, .dat wt, .dat hd, .bool fz], .int .i64 n] from rfl, gd_in]
  refine runs_frame (Φ := openPhi ⟨⟨ha, hb, hc⟩, wt, hd, fz⟩) (top := opC ha hb hc wt hd fz) opC_pure (fun k hk => ?_) (fun H w _ => opCRuns hx) fun v m hv => ?_
  · have h : (SV.keysL (mkJ 0 [(1, .int .i64 n), (4, .ptr 0 0)] 0 72) ++ ((([] : List SFrm).flatMap fun f => SV.keysL f.tmps) ++ Mem.named [(0, .cells 28 [.nils, .nils, .nils, .nils, .nils, .lb false])])).all (fun k => decide (k < 500)) = true := by kernel_rfl
    exact of_decide_eq_true (List.all_eq_true.1 h k hk)
  · rcases hv with ⟨h0, rfl, rfl⟩ | ⟨h0, rfl, p, a, b, c, x, y, rfl, hP, hA, hB, hC, hX, hY, hZ⟩
    · show Runs _ _ (gdA n (.tup [.nilp, .int .i64 (openErr (GrD.gr ⟨⟨ha, hb, hc⟩, wt, hd, fz⟩))]) []) _
      have hfr := durG_e1 (n := n) h0
      apply exec_sound ctIOk 200
      rw [gdE_go]
      refine ⟨fun _ => ret_grLI ?_ ?_ ?_, fun h => absurd (by simpa using h) h0⟩
      · rw [hfr]; exact stands_zG fun _ => rfl
      · rw [hfr]; exact stands_nils
      · rw [hfr]
    · show Runs _ _ (gdA n okV (okM p a b c x y fz)) _
      have hX2 : x.to Int = (GrD.gr ⟨⟨ha, hb, hc⟩, wt, hd, fz⟩).waiting := hX.2
      have xl := D.Is.length (α := Int) x
      have wl := D.Is.length (α := Int) wt
      have yl := D.Is.length (α := Int) y
      have hl := D.Is.length (α := Int) hd
      have cl := D.Is.length (α := Ev) c
      have hcl := D.Is.length (α := Ev) hc
      have ex : x.len = wt.len := by rw [xl, wl, hX.2]
      have ey : y.len = hd.len := by rw [yl, hl, hY.2]
      have ec : c.len = hc.len := by rw [cl, hcl, hC.2]
      apply exec_sound ctDuOk 400
      rw [duO_go]
      rw [hX2] at xl
      simp only [hX2]
      refine ⟨fun h => Bool.noConfusion h, fun _ => ⟨⟨hX.1, by omega⟩, fun hn => ?_, fun hn => ?_⟩⟩
      · have hfr := durG_e2 h0 (of_decide_eq_true hn)
        refine ret_grLI ?_ ?_ ?_
        · rw [hfr]; exact stands_zG fun _ => rfl
        · rw [hfr]; exact stands_nils
        · rw [hfr]
      · obtain ⟨j, hj, hjl, hjn⟩ := idxG_range (of_decide_eq_false hn)
        have hjn : n = (GrD.gr ⟨⟨ha, hb, hc⟩, wt, hd, fz⟩).waiting[j] := of_decide_eq_true hjn
        have hwj : IntKind.i64.wrap ((j : Int) + 1) = ((j + 1 : Nat) : Int) := by rw [wrap64 (by omega) (by omega)]; omega
        rw [hj, hwj]
        simp only [Int.toNat_natCast]
        have hcut := fun a => cut_int (a := a) hZ.2.1 hX.1 j (j + 1)
        refine ⟨⟨hX.1, by omega, by omega, by omega⟩, fun hs => ⟨fun hf hs1 => ⟨⟨hZ.2.2.1, .inr rfl, by simp only [len_slc, List.length_cons, List.length_nil]; omega, by simp only [len_slc, List.length_cons, List.length_nil]; omega⟩, fun hs2 => ?_⟩, fun hf hs1 => ⟨⟨hZ.1, .inr rfl, by simp only [len_slc, List.length_cons, List.length_nil]; omega, by simp only [len_slc, List.length_cons, List.length_nil]; omega⟩, fun hs2 => ?_⟩⟩⟩
        · have hfr := durG_fz h0 hj (show (GrD.gr ⟨⟨ha, hb, hc⟩, wt, hd, fz⟩).frozen = true from hf)
          refine ret_grLI ?_ ?_ ?_
          · rw [hfr]
            refine stands_gr (stands_dat hA.1 hA.2) (stands_dat hB.1 hB.2) (stands_dat hC.1 hC.2) (stands_dat (hcut _).1 (hcut _).2) (stands_dat (app_int hY.1).1 (app_int hY.1).2) (fun _ => by rw [hf]; rfl) ?_
            rw [hX2, hY.2]; rfl
          · rw [hfr]; exact stands_nils
          · rw [hfr]
        · have hin := (openErr_in h0).2.2 n (List.mem_append_left _ (by rw [hjn]; exact List.getElem_mem hjl))
          have hin : 0 ≤ n ∧ n < ((hb.to Wt).length : Int) := hin
          have pl := D.Is.length (α := Bool) p
          have hpl : (p.to Bool).length = (hb.to Wt).length := by rw [hP.2, ackd_len]
          have hvi : n.toNat < (p.to Bool).length := by omega
          have hz := hP.1.size hvi
          have hfr := durG_un h0 hj (show (GrD.gr ⟨⟨ha, hb, hc⟩, wt, hd, fz⟩).frozen = false from hf)
          refine ⟨⟨hin.1, by omega, hz⟩, ⟨by omega, by rw [hz]; exact Nat.le_refl 1, hz⟩, fun hs3 => ret_grLI ?_ ?_ ?_⟩
          · rw [hfr]
            refine stands_gr (stands_dat hA.1 hA.2) (stands_dat hB.1 hB.2) (stands_dat (app_ev hC.1).1 (app_ev hC.1).2) (stands_dat (hcut _).1 (hcut _).2) (stands_dat hY.1 hY.2) (fun _ => by rw [hf]; rfl) ?_
            rw [hX2, hC.2]; rfl
          · rw [hfr]
            exact stands_dat (is_of (α := Int) (xs := [n]) rfl ⟨fun r hr => by rw [List.mem_singleton.1 hr]; exact ok_int _, rfl⟩).1 (is_of (α := Int) (xs := [n]) rfl ⟨fun r hr => by rw [List.mem_singleton.1 hr]; exact ok_int _, rfl⟩).2
          · rw [hfr]
end Go.Proofs.Ytodhhmjilnfecaa
end
section
open Go Go.Proofs Sx
namespace Go.Proofs.Ytodhhmjilnfecaa
set_option maxRecDepth 100000
set_option maxHeartbeats 0
noncomputable def ctAt : Ctrs := [(86, ctrOf ((rdD.two rdEv).sp spAt))]
noncomputable def cntL (d : D) (n k j : Int) : Conf := Conf.mk (SFrm.mk 67 none none [Item.inLoop (cAt Try.prog 67 [1, 1, 0, 1, 0, 0]), Item.inBlock 0, Item.code (cAt Try.prog 67 [1, 1, 1])] (mkJ 0 [(0, .dat d), (1, .int .i64 n), (5, .int .i64 k), (6, .int .i64 j)] 0 22)) [] []
noncomputable def woL (d r : D) (n j : Int) : Conf := Conf.mk (SFrm.mk 49 none none [Item.inLoop (cAt Try.prog 49 [1, 1, 0, 1, 0, 0]), Item.inBlock 0, Item.code (cAt Try.prog 49 [1, 1, 1])] (mkJ 0 [(0, .dat d), (1, .int .i64 n), (5, .vec 0), (6, .int .i64 j)] 0 27)) [] [(0, .arr 3 r)]
section
variable (k j : Int) (n : Int) (ha hb hc d : D)
theorem cnt_in : exec Try.prog [] 200 (entry Try.prog 67 [.dat d, .int .i64 n]) =
 Tree.leaf
 (Conf.mk
 (SFrm.mk 67 none none
 [Item.inLoop (cAt Try.prog 67 [1, 1, 0, 1, 0, 0]), Item.inBlock 0, Item.code (cAt Try.prog 67 [1, 1, 1])]
 (mkJ 0 [(0, .dat d), (1, .int .i64 n), (5, .int .i64 0), (6, .int .i64 0)] 0 22))
 [] []) := by kernel_rfl

theorem akd_in : exec Try.prog ctAt 200 (entry Try.prog 58 [.agg [.dat ha, .dat hb, .dat hc], .int .i64 n]) =
 Tree.need (D.Is Ev hc ∧ D.len hc ≤ 1048576) (.ret (.bool (decide (atEv (D.to Ev hc) (EvD.ev (EvD.mk 1 n)) ≥ 0)))) := by kernel_rfl

theorem wo_in : exec Try.prog [] 200 (entry Try.prog 49 [.dat d, .int .i64 n]) =
 Tree.leaf
 (Conf.mk
 (SFrm.mk 49 none none
 [Item.inLoop (cAt Try.prog 49 [1, 1, 0, 1, 0, 0]), Item.inBlock 0, Item.code (cAt Try.prog 49 [1, 1, 1])]
 (mkJ 0 [(0, .dat d), (1, .int .i64 n), (5, .nils), (6, .int .i64 0)] 0 27))
 [] []) := by kernel_rfl

theorem cpd_in2 : execR Try.prog [] 200 (entry Try.prog 43 [.dat d, .dat ha]) =
 Tree.need (D.Fits d 1 ∧ D.len d * 8 ≤ 140737488355328 ∧ D.len d ≤ 9223372036854775807)
 (.all fun hs =>
 .need
 (D.sz (D.slc (D.hd (hs 0 0)) 1 (D.rows d)) = 1 ∧
 D.Fits ha 1 ∧
 (D.len (D.slc (D.hd (hs 0 0)) 1 (D.rows d)) + D.len ha) * 8 ≤ 140737488355328 ∧
 D.len (D.slc (D.hd (hs 0 0)) 1 (D.rows d)) + D.len ha ≤ 9223372036854775807)
 (.all fun hs_1 =>
 .leaf
 (Conf.mk
 (SFrm.mk 43 none none [Item.code (cAt Try.prog 43 [1, 1, 1])]
 (mkU
 [(0, .dat d), (1, .dat ha), (4, .vec 1010), (5, .nils), (6, .nils), (7, .dat d),
 (8, .vec 1008), (9, .dat ha), (10, .vec 1010)]
 0 11))
 []
 [(1010,
 OBlk.arr 3
 (D.slc (D.hd (hs_1 0 0)) 1
 (List.append (D.rows (D.slc (D.hd (hs 0 0)) 1 (D.rows d))) (D.rows ha))))]))) := by kernel_rfl

theorem cnt_go : exec Try.prog [] 200 (unroll (cntL d n k j)) =
 Tree.br (decide (j < (↑(D.len d) : Int)))
 (.need (0 ≤ j ∧ j < (↑(D.len d) : Int) ∧ D.sz d = 1)
 (.need (D.HasCell d (Int.toNat j) 0 (FT.int .i64))
 (.br (decide (D.getInt d (Int.toNat j) 0 = n))
 (.leaf
 (Conf.mk
 (SFrm.mk 67 none none
 [Item.inLoop (cAt Try.prog 67 [1, 1, 0, 1, 0, 0]), Item.inBlock 0, Item.code (cAt Try.prog 67 [1, 1, 1])]
 (mkJ 0
 [(0, .dat d), (1, .int .i64 n), (5, .int .i64 (IntKind.wrap .i64 (k + 1))),
 (6, .int .i64 (IntKind.wrap .i64 (j + 1)))]
 0 22))
 [] []))
 (.leaf
 (Conf.mk
 (SFrm.mk 67 none none
 [Item.inLoop (cAt Try.prog 67 [1, 1, 0, 1, 0, 0]), Item.inBlock 0, Item.code (cAt Try.prog 67 [1, 1, 1])]
 (mkJ 0
 [(0, .dat d), (1, .int .i64 n), (5, .int .i64 k),
 (6, .int .i64 (IntKind.wrap .i64 (j + 1)))]
 0 22))
 [] [])))))
 (.ret (.int .i64 k)) := by kernel_rfl

theorem wo_go : execR Try.prog [] 200 (unroll (woL d ha n j)) =
 Tree.br (decide (j < (↑(D.len d) : Int)))
 (.need (0 ≤ j ∧ j < (↑(D.len d) : Int) ∧ D.sz d = 1)
 (.need (D.HasCell d (Int.toNat j) 0 (FT.int .i64))
 (.br (D.getInt d (Int.toNat j) 0 != n)
 (.need (0 ≤ j ∧ j < (↑(D.len d) : Int) ∧ D.sz d = 1)
 (.need (D.HasCell d (Int.toNat j) 0 (FT.int .i64))
 (.all fun hs =>
 .need
 (D.sz ha = 1 ∧
 D.Fits (D.slc (D.hd (hs 0 0)) 1 [[D.int .i64 (D.getInt d (Int.toNat j) 0)]]) 1 ∧
 (D.len ha + D.len (D.slc (D.hd (hs 0 0)) 1 [[D.int .i64 (D.getInt d (Int.toNat j) 0)]])) *
 8 ≤
 140737488355328 ∧
 D.len ha + D.len (D.slc (D.hd (hs 0 0)) 1 [[D.int .i64 (D.getInt d (Int.toNat j) 0)]]) ≤
 9223372036854775807)
 (.all fun hs_1 =>
 .leaf
 (Conf.mk
 (SFrm.mk 49 none none
 [Item.inLoop (cAt Try.prog 49 [1, 1, 0, 1, 0, 0]), Item.inBlock 0,
 Item.code (cAt Try.prog 49 [1, 1, 1])]
 (mkJ 0
 [(0, .dat d), (1, .int .i64 n), (5, .vec 0),
 (6, .int .i64 (IntKind.wrap .i64 (j + 1)))]
 0 27))
 []
 [(0,
 OBlk.arr 3
 (D.slc (D.hd (hs_1 0 0)) 1
 (List.append (D.rows ha)
 (D.rows
 (D.slc (D.hd (hs 0 0)) 1 [[D.int .i64 (D.getInt d (Int.toNat j) 0)]])))))])))))
 (.leaf
 (Conf.mk
 (SFrm.mk 49 none none
 [Item.inLoop (cAt Try.prog 49 [1, 1, 0, 1, 0, 0]), Item.inBlock 0, Item.code (cAt Try.prog 49 [1, 1, 1])]
 (mkJ 0
 [(0, .dat d), (1, .int .i64 n), (5, .vec 0),
 (6, .int .i64 (IntKind.wrap .i64 (j + 1)))]
 0 27))
 [] [(0, OBlk.arr 3 ha)])))))
 (.leaf
 (Conf.mk
 (SFrm.mk 49 none none [Item.code (cAt Try.prog 49 [1, 1, 1, 1])]
 (mkJ 0
 [(0, .dat d), (1, .int .i64 n), (4, .vec 0), (5, .vec 0), (6, .int .i64 j),
 (7, .int .i64 j), (8, .dat d), (9, .int .i64 (↑(D.len d) : Int)),
 (10, .bool (decide (j < (↑(D.len d) : Int)))), (26, .vec 0)]
 0 27))
 [] [(0, OBlk.arr 3 ha)])) := by kernel_rfl

end
end Go.Proofs.Ytodhhmjilnfecaa
end
