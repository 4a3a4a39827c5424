/- Layer 15: the laws of Restrict. -/
import Derived.Test.YtodhhmjilnfecaaN27toUT38
import Derived.KernelRfl
set_option linter.all false
section
open Go Go.Proofs Sx
namespace Go.Proofs.Ytodhhmjilnfecaa
set_option maxRecDepth 100000

theorem ctRROk : Ctrs.Ok Try.prog ctRR := by
  intro x hx
  rcases List.mem_cons.1 hx with rfl | hx
  · exact ctrOf_ok lawCopyR
  rcases List.mem_cons.1 hx with rfl | hx
  · exact ctrOf_ok lawClR
  · exact ctNROk x hx

section
variable {H : HV} {w : World} {ha hb hc a : D} (hR : (HiD.mk ha hb hc).Right) (hra : a.Is Int) (hla : a.len ≤ 1048576)
  (h0 : (checkH (HiD.mk ha hb hc).hist).1 = 0) (h2 : setH (a.to Int) (hb.to Wt).length = true) (h3 : closedS (hc.to Ev) (hb.to Wt).length (a.to Int) = true)
include hR hra hla h0 h2 h3

theorem rest_result {q p : D} (hq : q.Is Wt) (hql : q.len ≤ 1048576) (hqt : q.to Wt = pickW (hb.to Wt) (a.to Int)) (hp : p.Is Ev) (hpl : p.len ≤ 1048576) (hpt : p.to Ev = restE (a.to Int) (hc.to Ev)) :
    (HiD.mk ha q p).Right ∧ ∀ hs : Nat → Nat → D, (Tree.ret (SV.tup [SV.agg [SV.dat (D.like (hs 0 0) (ha.to Int)), SV.dat (D.like (hs 0 1) (q.to Wt)), SV.dat (D.like (hs 0 2) (p.to Ev))], SV.int IntKind.i64 0])).holds Try.prog ⟨w, H⟩
      (RetD w H fun ds => .tup [hiSV ds (restrictH (HiD.mk ha hb hc).hist (a.to Int)).1, .int .i64 (restrictH (HiD.mk ha hb hc).hist (a.to Int)).2]) := by
  obtain ⟨ra, rb, rc, la, lb, lc, rd⟩ := id hR
  simp only at ra rb rc la lb lc rd
  have hr : restrictH (HiD.mk ha hb hc).hist (a.to Int) = (⟨ha.to Int, q.to Wt, p.to Ev⟩, 0) := by rw [rest_ok h0 h2 h3, hqt, hpt]; rfl
  refine ⟨⟨ra, hq, hp, la, hql, hpl, fun x hx => ?_⟩, fun hs => ?_⟩
  · simp only [hqt, pickW, List.mem_map] at hx
    obtain ⟨n, hn, rfl⟩ := hx
    obtain ⟨k, hk, rfl⟩ := List.getElem_of_mem hn
    have hz := setH_in h2 hk
    have hlt : ((a.to Int)[k]).toNat < (hb.to Wt).length := by omega
    have : (hb.to Wt).getD ((a.to Int)[k]).toNat zWt = (hb.to Wt)[((a.to Int)[k]).toNat] := by simp [hlt]
    rw [this]
    exact rd _ (List.getElem_mem hlt)
  · exact ret_hiI stands_like stands_like stands_like (by rw [hr]) (by rw [hr])

end

theorem lawRestR : Law Try.prog 59 ((rdHi.two rdD).sp spRest) := by
  refine law_in _ (by kernel_rfl) fun H w ⟨⟨ha, hb, hc⟩, a⟩ hok hp => ?_
  obtain ⟨hR, hra, hla⟩ := hp _ (List.mem_singleton.2 rfl)
  simp only at hR hra hla
  obtain ⟨ra, rb, rc, la, lb, lc, rd⟩ := id hR
  simp only at ra rb rc la lb lc rd
  have al := D.Is.length (α := Int) a
  have bl := D.Is.length (α := Wt) hb
  have el := D.Is.length (α := Ev) hc
  apply exec_sound ctRROk 400
  rw [show (rdHi.two rdD).canon (⟨ha, hb, hc⟩, a) = [.agg [.dat ha, .dat hb, .dat hc], .dat a] from rfl, rstR_in, bl]
  refine ⟨hR, fun h => ?_, fun h => ?_⟩
  · have h : (checkH (HiD.mk ha hb hc).hist).1 ≠ 0 := by simpa using h
    exact ret_hiI (s := []) (ws := []) (es := []) stands_nils stands_nils stands_nils (by rw [rest_e1 h]; rfl) (by rw [rest_e1 h])
  have h0 : (checkH (HiD.mk ha hb hc).hist).1 = 0 := by simpa using h
  refine ⟨⟨hra, hla⟩, fun h2 => ?_, fun h2 => ⟨⟨rc, lc, rb, by omega, hra, hla⟩, fun h3 => ?_, fun h3 => ?_⟩⟩
  · have h2 : setH (a.to Int) (hb.to Wt).length = false := by simpa using h2
    have e := rest_e2 (h := (HiD.mk ha hb hc).hist) (set := a.to Int) h0 h2
    exact ret_hiI (s := []) (ws := []) (es := []) stands_nils stands_nils stands_nils (by rw [e]; rfl) (by rw [e])
  · have h2 : setH (a.to Int) (hb.to Wt).length = true := by simpa using h2
    have h3 : closedS (hc.to Ev) (hb.to Wt).length (a.to Int) = false := by simpa using h3
    have e := rest_e27 (h := (HiD.mk ha hb hc).hist) (set := a.to Int) h0 h2 h3
    exact ret_hiI (s := []) (ws := []) (es := []) stands_nils stands_nils stands_nils (by rw [e]; rfl) (by rw [e])
  have h2 : setH (a.to Int) (hb.to Wt).length = true := by simpa using h2
  have h3 : closedS (hc.to Ev) (hb.to Wt).length (a.to Int) = true := by simpa using h3
  refine vecIn_to 9 108 2 (some 2) 2 (rs1L ha hb hc a (.slc none 2 []) 0) (by kernel_rfl) ?_
  refine runs_loop (fun p : D × Nat => rs1L ha hb hc a p.1 p.2) (fun p => p.2 ≤ (hc.to Ev).length ∧ p.1.Is Ev ∧ p.1.sz = 2 ∧ p.1.to Ev = restE (a.to Int) ((hc.to Ev).take p.2)) (fun p => (hc.to Ev).length - p.2) (fun _ => rfl) ?_ (.slc none 2 [], 0) ⟨Nat.zero_le _, is_nil _ _, rfl, rfl⟩
  intro ⟨q, j⟩ ⟨hj, hq, hz, hto⟩ ih
  simp only at hj hq hz hto
  have ql := D.Is.length (α := Ev) q
  have ql2 := restE_len h2 ((hc.to Ev).take j)
  rw [hto] at ql
  rw [List.length_take] at ql2
  show Runs Try.prog _ (unroll (rs1L ha hb hc a q j)) _
  apply exec_sound ctRROk 400
  rw [rs1_go]
  refine ⟨fun hcj => ?_, fun hcj => ?_⟩
  · have hcj : j < (hc.to Ev).length := by have := of_decide_eq_true hcj; omega
    obtain ⟨c1, c2, c3⟩ := ev_cell rc hcj
    have sn := restE_snoc (set := a.to Int) hcj
    unfold evR at sn
    generalize hev : (hc.to Ev)[j] = ev at c2 c3 sn
    obtain ⟨k, y⟩ := ev
    simp only at c2 c3 sn
    have g0 : hc.getInt (Int.toNat (j : Int)) 0 = k := c2
    have g1 : hc.getInt (Int.toNat (j : Int)) 1 = y := c3
    have c0 : 0 ≤ (j : Int) ∧ (j : Int) < (hc.len : Int) ∧ hc.sz = 2 := ⟨by omega, by omega, rc.size hcj⟩
    refine runs_loop (fun p : D × Nat => rs2L ha hb hc a p.1 j p.2) (fun p => p.2 ≤ (a.to Int).length ∧ p.1.Is Ev ∧ p.1.sz = 2 ∧ p.1.len ≤ j + p.2 ∧ p.1.to Ev = restE (a.to Int) ((hc.to Ev).take j) ++ ((List.range p.2).filter fun i => decide ((a.to Int).getD i 0 = y)).map fun (i : Nat) => (⟨k, i⟩ : Ev)) (fun p => (a.to Int).length - p.2) (fun _ => rfl) ?_ (q, 0) ⟨Nat.zero_le _, hq, hz, by simp only; omega, by simpa using hto⟩
    intro ⟨p, x⟩ ⟨hx, hp, hpz, hpl, hpt⟩ ihx
    simp only at hx hp hpz hpl hpt
    show Runs Try.prog _ (unroll (rs2L ha hb hc a p j x)) _
    apply exec_sound ctRROk 400
    rw [rs2_go]
    refine ⟨fun hcx hs => ?_, fun hcx => ?_⟩
    · have hcx : x < (a.to Int).length := by have := of_decide_eq_true hcx; omega
      obtain ⟨d1, d2, d3⟩ := int_at hra hcx
      have gx : (a.to Int).getD x 0 = (a.to Int)[x] := getD_lt hcx
      have sx : ((List.range (x + 1)).filter fun i => decide ((a.to Int).getD i 0 = y)) = ((List.range x).filter fun i => decide ((a.to Int).getD i 0 = y)) ++ (if (a.to Int)[x] = y then [x] else []) := by
        rw [List.range_succ, List.filter_append]
        congr 1
        simp only [List.filter_cons, List.filter_nil, gx, decide_eq_true_eq]
      rw [d3, g0, g1]
      refine ⟨d1, d2, c0, c1.2.1, fun h hs1 => ?_, fun h => ?_⟩
      · have h := of_decide_eq_true h
        rw [if_pos h] at sx
        refine ⟨c0, c1.1, ⟨hpz, .inr rfl, by simp only [len_slc, List.length_cons, List.length_nil]; omega, by simp only [len_slc, List.length_cons, List.length_nil]; omega⟩, ?_⟩
        have hr := rows_app (rows_of hp) (ev_one k (x : Int))
        obtain ⟨i1, i2⟩ := is_of (h := D.hd (hs1 11 0)) (s := 2) rfl hr
        have := ihx (_, x + 1) ⟨hcx, i1, rfl, by simp only [len_slc, append_list, List.length_append, rows_slc, List.length_cons, List.length_nil]; have : p.rows.length = p.len := rfl; omega, i2.trans (by rw [hpt, sx, List.map_append, List.append_assoc]; rfl)⟩ (by simp only; omega)
        simp only at this
        rw [← wrap_succ hcx (by omega)] at this
        exact this
      · have h := of_decide_eq_false h
        rw [if_neg h, List.append_nil] at sx
        have := ihx (p, x + 1) ⟨hcx, hp, hpz, by simp only; omega, by simp only; rw [hpt, sx]⟩ (by simp only; omega)
        simp only at this
        rw [← wrap_succ hcx (by omega)] at this
        exact this
    · have : x = (a.to Int).length := by have := of_decide_eq_false hcx; omega
      subst this
      have := ih (p, j + 1) ⟨hcj, hp, hpz, hpt.trans sn.symm⟩ (by simp only; omega)
      simp only at this
      rw [← wrap_succ hcj (by omega)] at this
      exact this
  · have : j = (hc.to Ev).length := by have := of_decide_eq_false hcj; omega
    subst this
    rw [List.take_length] at hto
    refine vecIn_to 9 31 3 (some 2) 1 (rs3L ha hb hc a q (.slc none 3 []) 0) (by kernel_rfl) ?_
    refine runs_loop (fun p : D × Nat => rs3L ha hb hc a q p.1 p.2) (fun p => p.2 ≤ (a.to Int).length ∧ p.1.Is Wt ∧ p.1.sz = 3 ∧ p.1.to Wt = pickW (hb.to Wt) ((a.to Int).take p.2)) (fun p => (a.to Int).length - p.2) (fun _ => rfl) ?_ (.slc none 3 [], 0) ⟨Nat.zero_le _, is_nil _ _, rfl, rfl⟩
    intro ⟨p, x⟩ ⟨hx, hp, hpz, hpt⟩ ihx
    simp only at hx hp hpz hpt
    have pl := D.Is.length (α := Wt) p
    rw [hpt, pickW_len, List.length_take] at pl
    show Runs Try.prog _ (unroll (rs3L ha hb hc a q p x)) _
    apply exec_sound ctRROk 400
    rw [rs3_go]
    refine ⟨fun hcx hs => ?_, fun hcx => ?_⟩
    · have hcx : x < (a.to Int).length := by have := of_decide_eq_true hcx; omega
      obtain ⟨d1, d2, d3⟩ := int_at hra hcx
      have hzr := setH_in h2 hcx
      obtain ⟨z, hzz⟩ := Int.eq_ofNat_of_zero_le hzr.1
      have hzb : z < (hb.to Wt).length := by omega
      obtain ⟨c1, c2, c3⟩ := wt_cell rb hzb
      rw [d3, hzz]
      simp only [Int.toNat_natCast]
      refine ⟨by simpa using d1, by simpa using d2, ⟨by omega, by omega, rb.size hzb⟩, c1, ⟨hpz, .inr rfl, by simp only [len_slc, List.length_cons, List.length_nil]; omega, by simp only [len_slc, List.length_cons, List.length_nil]; omega⟩, ?_⟩
      have hr := rows_app (rows_of hp) (wt_one (hb.getInt z 0) (hb.getInt z 1) c2)
      obtain ⟨i1, i2⟩ := is_of (h := D.hd (hs 11 0)) (s := 3) rfl hr
      have := ihx (_, x + 1) ⟨hcx, i1, rfl, i2.trans (by
        rw [hpt, pickW_snoc hcx, hzz]
        congr 1
        have : (hb.to Wt).getD (Int.toNat (z : Int)) zWt = (hb.to Wt)[z] := by simp [hzb]
        rw [this, c3])⟩ (by simp only; omega)
      simp only at this
      rw [← wrap_succ hcx (by omega)] at this
      exact this
    · have : x = (a.to Int).length := by have := of_decide_eq_false hcx; omega
      subst this
      rw [List.take_length] at hpt
      obtain ⟨x1, x2⟩ := rest_result (w := w) (H := H) hR hra hla h0 h2 h3 hp (by omega) hpt hq (by omega) hto
      exact ⟨x1, x2⟩
end Go.Proofs.Ytodhhmjilnfecaa
end
section
open Go Go.Proofs Sx
namespace Go.Proofs.Ytodhhmjilnfecaa
set_option maxRecDepth 100000
set_option maxHeartbeats 0
section
variable (p : Int) (a : D)
theorem una_in : execR Try.prog [] 200 (entry Try.prog 57 [.agg [.dat a], .int .i64 p]) =
 Tree.need (0 ≤ (↑0 : Int) ∧ (↑0 : Int) ≤ p ∧ p ≤ (↑(D.len a) : Int) ∧ D.Fits a 1)
 (.leaf
 (Conf.mk
 (SFrm.mk 57 none none
 [Item.inLoop (cAt Try.prog 57 [1, 1, 0, 1, 0, 0]), Item.inBlock 0, Item.code (cAt Try.prog 57 [1, 1, 1])]
 (mkJ 0
 [(5, .nils), (11, .dat (D.sub a 0 (Int.toNat p))),
 (12, .int .i64 (↑(D.len (D.sub a 0 (Int.toNat p))) : Int)), (13, .int .i64 0)]
 0 26))
 [] [])) := by kernel_rfl

end
end Go.Proofs.Ytodhhmjilnfecaa
end
section
open Go Go.Proofs Sx
namespace Go.Proofs.Ytodhhmjilnfecaa
set_option maxRecDepth 100000
set_option maxHeartbeats 0
noncomputable def unaL (d r : D) (j : Int) : Conf := Conf.mk (SFrm.mk 57 none none [Item.inLoop (cAt Try.prog 57 [1, 1, 0, 1, 0, 0]), Item.inBlock 0, Item.code (cAt Try.prog 57 [1, 1, 1])] (mkJ 0 [(5, .vec 0), (11, .dat d), (12, .int .i64 (d.len : Int)), (13, .int .i64 j)] 0 26)) [] [(0, .arr 3 r)]
section
variable (j : Int) (d r : D)
theorem una_go : execR Try.prog [] 200 (unroll (unaL d r j)) =
 Tree.br (decide (j < (↑(D.len d) : Int)))
 (.need (0 ≤ j ∧ j < (↑(D.len d) : Int) ∧ D.sz d = 1)
 (.need (D.HasCell d (Int.toNat j) 0 FT.bool)
 (.br (!D.getBool d (Int.toNat j) 0)
 (.all fun hs =>
 .need
 (D.sz r = 1 ∧
 D.Fits (D.slc (D.hd (hs 0 0)) 1 [[D.int .i64 j]]) 1 ∧
 (D.len r + D.len (D.slc (D.hd (hs 0 0)) 1 [[D.int .i64 j]])) * 8 ≤ 140737488355328 ∧
 D.len r + D.len (D.slc (D.hd (hs 0 0)) 1 [[D.int .i64 j]]) ≤ 9223372036854775807)
 (.all fun hs_1 =>
 .leaf
 (Conf.mk
 (SFrm.mk 57 none none
 [Item.inLoop (cAt Try.prog 57 [1, 1, 0, 1, 0, 0]), Item.inBlock 0,
 Item.code (cAt Try.prog 57 [1, 1, 1])]
 (mkJ 0
 [(5, .vec 0), (11, .dat d), (12, .int .i64 (↑(D.len d) : Int)),
 (13, .int .i64 (IntKind.wrap .i64 (j + 1)))]
 0 26))
 []
 [(0,
 OBlk.arr 3
 (D.slc (D.hd (hs_1 0 0)) 1
 (List.append (D.rows r) (D.rows (D.slc (D.hd (hs 0 0)) 1 [[D.int .i64 j]])))))])))
 (.leaf
 (Conf.mk
 (SFrm.mk 57 none none
 [Item.inLoop (cAt Try.prog 57 [1, 1, 0, 1, 0, 0]), Item.inBlock 0, Item.code (cAt Try.prog 57 [1, 1, 1])]
 (mkJ 0
 [(5, .vec 0), (11, .dat d), (12, .int .i64 (↑(D.len d) : Int)),
 (13, .int .i64 (IntKind.wrap .i64 (j + 1)))]
 0 26))
 [] [(0, OBlk.arr 3 r)])))))
 (.leaf
 (Conf.mk
 (SFrm.mk 57 none none [Item.code (cAt Try.prog 57 [1, 1, 1, 1])]
 (mkJ 0
 [(4, .vec 0), (5, .vec 0), (11, .dat d), (12, .int .i64 (↑(D.len d) : Int)),
 (13, .int .i64 j), (14, .bool (decide (j < (↑(D.len d) : Int)))), (25, .vec 0)]
 0 26))
 [] [(0, OBlk.arr 3 r)])) := by kernel_rfl

end
end Go.Proofs.Ytodhhmjilnfecaa
end
section
open Go Go.Proofs Sx
namespace Go.Proofs.Ytodhhmjilnfecaa
set_option maxRecDepth 100000
set_option maxHeartbeats 0
theorem lawUna : OLaw Try.prog 57 (spUna 3) := by
  refine olaw_ints (by kernel_rfl) fun H w ⟨a, p⟩ hok hp => ?_
  obtain ⟨ha, p0, p1, hl⟩ := hp _ (List.mem_singleton.2 rfl)
  simp only at ha p0 p1 hl
  obtain ⟨p, rfl⟩ := Int.eq_ofNat_of_zero_le p0
  simp only [Int.toNat_natCast]
  have hal := D.Is.length (α := Bool) a
  apply execR_sound (noCtr _) 200
  rw [show (rdAk.two rdInt).canon (a, (p : Int)) = [.agg [.dat a], .int .i64 (p : Int)] from rfl, una_in]
  refine ⟨⟨by decide, p0, p1, ha.fits⟩, ?_⟩
  obtain ⟨s1, s2⟩ := sub_is ha p
  rw [Int.toNat_natCast]
  have e : ((a.to Bool).take p).length = p := by rw [List.length_take]; omega
  generalize hd : D.sub a 0 p = d at s1 s2
  have dl := D.Is.length (α := Bool) d
  rw [s2, e] at dl
  refine vecIn_to 9 3 1 none 5 (unaL d (.slc none 1 []) 0) (by kernel_rfl) ?_
  refine runs_loop (fun s : D × Nat => unaL d s.1 s.2) (fun s => s.2 ≤ p ∧ s.1.Is Int ∧ s.1.sz = 1 ∧ s.1.to Int = unackN (a.to Bool) s.2) (fun s => p - s.2) (fun _ => rfl) ?_ (_, 0) ⟨Nat.zero_le _, is_nil _ _, rfl, rfl⟩
  rintro ⟨r, j⟩ ⟨hj, r1, r2, r3⟩ ih
  simp only at hj r1 r2 r3 ih ⊢
  have rl : r.len ≤ 1048576 := by rw [D.Is.length (α := Int), r3]; exact Nat.le_trans filtN_len (by omega)
  apply execR_sound (noCtr _) 200
  rw [una_go]
  refine ⟨fun hc => ?_, fun hc => ?_⟩
  · have hc : j < p := by have := of_decide_eq_true hc; omega
    have hc2 : j < (d.to Bool).length := by rw [s2, e]; exact hc
    obtain ⟨c1, c2, c3⟩ := bool_at s1 hc2
    have e4 : (d.to Bool)[j] = (a.to Bool).getD j false := by
      have : (d.to Bool)[j]? = ((a.to Bool).take p)[j]? := by rw [s2]
      rw [List.getElem?_eq_getElem hc2, List.getElem?_take_of_lt hc] at this
      rw [List.getD_eq_getElem?_getD, ← this]; rfl
    have wj : IntKind.i64.wrap ((j : Int) + 1) = ((j + 1 : Nat) : Int) := wrap_succ hc (by omega)
    have sn : unackN (a.to Bool) (j + 1) = if (!(a.to Bool).getD j false) = true then unackN (a.to Bool) j ++ [(j : Int)] else unackN (a.to Bool) j := by
      unfold unackN; rw [filtN_succ]; simp only [Int.toNat_natCast]
    rw [wj, c3, e4]
    refine ⟨c1, c2, fun hz hs => ⟨apq_need r2 rl, fun hs1 => ?_⟩, fun hz => ?_⟩
    · rw [if_pos hz] at sn
      obtain ⟨i1, i2, i3⟩ := apq_is (a := D.hd (hs 0 0)) (b := D.hd (hs1 0 0)) (z := (j : Int)) r1 r3
      exact ih (_, j + 1) ⟨hc, i1, i2, i3.trans sn.symm⟩ (by simp only; omega)
    · rw [hz, if_neg Bool.false_ne_true] at sn
      exact ih (r, j + 1) ⟨hc, r1, r2, r3.trans sn.symm⟩ (by simp only; omega)
  · have hc := of_decide_eq_false hc
    have : j = p := by omega
    subst this
    exact own_ret (h := r) Try.func57 (by kernel_rfl) rfl (ints_rows r1 r2 r3)
theorem ctrUna : CtrOk Try.prog 57 (lCtr (spUna 3)) := lCtr_ok lawUna spOwnI_flat
end Go.Proofs.Ytodhhmjilnfecaa
end
section
open Go Go.Proofs Sx
namespace Go.Proofs.Ytodhhmjilnfecaa
set_option maxRecDepth 100000
set_option maxHeartbeats 0
section
variable (ha hb hc wt hd du : D) (fz : Bool)
theorem gr_in : goS Try.prog [] (fun _ => false) [(40, 1)] 50 (entry Try.prog 23 [.agg [.dat ha, .dat hb, .dat hc, .dat wt, .dat hd, .bool fz], .dat du]) =
 Tree.leaf
 (Conf.mk
 (SFrm.mk 40 none none [Item.code (cAt Try.prog 40 [0]), Item.code (cAt Try.prog 40 [1])]
 (mkJ 1 [(0, .agg [.dat ha, .dat hb, .dat hc, .dat wt, .dat hd, .bool fz])] 0 130))
 [SFrm.mk 23 (some (opsAt Try.prog 23 [1, 0], [2, 3, 4, 5, 6])) (some 16) [Item.code (cAt Try.prog 23 [1, 1])]
 (mkJ 0 [(1, .dat du), (4, .ptr 0 0)] 0 105)]
 [(0, OBlk.cells 28 [.nils, .nils, .nils, .nils, .nils, .lb false])]) := by kernel_rfl

end
end Go.Proofs.Ytodhhmjilnfecaa
end
section
open Go Go.Proofs Sx
namespace Go.Proofs.Ytodhhmjilnfecaa
set_option maxRecDepth 100000
set_option maxHeartbeats 0
noncomputable def grA (du : D) (v : SV) (m : Mem) : Conf := Conf.mk (SFrm.mk 23 (some (opsAt Try.prog 23 [1, 0], [2, 3, 4, 5, 6])) none [Item.code (cAt Try.prog 23 [1, 1])] (putS (mkJ 0 [(1, .dat du), (4, .ptr 0 0)] 0 105) (some 16) v)) []
 (m ++ [(0, .cells 28 [.nils, .nils, .nils, .nils, .nils, .lb false])])
noncomputable def ctGr : Ctrs := [(54, vCtr ((rdD.two rdBool).sp spHasB)), (57, lCtr (spUna 3))]
section
variable (k : Int) (du p a b c x y : D) (fz : Bool)
theorem grE_go : exec Try.prog [] 200 (grA du (.tup [.nilp, .int .i64 k]) []) =
 Tree.br (k != 0)
 (.ret (SV.tup [.agg [.nils, .nils, .nils, .nils, .nils, .lb false], .nils, .int .i64 k]))
 (.all fun hs => Tree.stuck) := by kernel_rfl

theorem grO_go : 
 let z1 := (D.sub p (Int.toNat (↑(D.len du) : Int)) (Int.toNat (↑(D.len du) : Int) + (D.len p - Int.toNat (↑(D.len du) : Int))))
 exec Try.prog ctGr 300 (grA du okV (okM p a b c x y fz)) =
 Tree.br false (.ret (SV.tup [.agg [.nils, .nils, .nils, .nils, .nils, .lb false], .nils, .int .i64 0])) (.all fun hs => .br (decide ((↑(D.len du) : Int) > (↑(D.len p) : Int))) (.need (decide ((↑(D.len du) : Int) >
 (↑(D.len p) : Int)) = true) (.need (decide ((↑(D.len du) : Int) > (↑(D.len p) : Int)) = true) (.need (decide ((↑(D.len du) : Int) > (↑(D.len p) : Int)) = true) (.need (decide ((↑(D.len du) : Int) > (↑(D.len p) : Int)) = true)
 (.need (decide ((↑(D.len du) : Int) > (↑(D.len p) : Int)) = true) (.need (decide ((↑(D.len du) : Int) > (↑(D.len p) : Int)) = true) (.need (decide ((↑(D.len du) : Int) > (↑(D.len p) : Int)) = true) (.need
 (decide ((↑(D.len du) : Int) > (↑(D.len p) : Int)) = true) (.need (decide ((↑(D.len du) : Int) > (↑(D.len p) : Int)) = true) (.ret (SV.tup [.agg [.nils, .nils, .nils, .nils, .nils, .lb false], .nils, .int .i64 27])))))))))))
 (.need (decide ((↑(D.len du) : Int) > (↑(D.len p) : Int)) = false) (.need (decide ((↑(D.len du) : Int) > (↑(D.len p) : Int)) = false) (.need (decide ((↑(D.len du) : Int) > (↑(D.len p) : Int)) = false)
 (.need (decide ((↑(D.len du) : Int) > (↑(D.len p) : Int)) = false) (.need (decide ((↑(D.len du) : Int) > (↑(D.len p) : Int)) = false) (.need (decide ((↑(D.len du) : Int) > (↑(D.len p) : Int)) = false)
 (.need (decide ((↑(D.len du) : Int) > (↑(D.len p) : Int)) = false) (.need (0 ≤ (↑(D.len du) : Int) ∧ (↑(D.len du) : Int) ≤ (↑(D.len p) : Int) ∧ D.Fits p 1) (.need (decide ((↑(D.len du) : Int) > (↑(D.len p) : Int)) = false)
 (.need (D.sz p = 1 ∧ Int.toNat (↑(D.len du) : Int) + (D.len p - Int.toNat (↑(D.len du) : Int)) ≤ D.len p) (.need (D.Is Bool z1 ∧ D.len z1 ≤ 1048576) (.need (decide ((↑(D.len du) : Int) > (↑(D.len p) : Int)) = false)
 (.br (List.any (D.to Bool z1) fun y => decide (true = y)) (.ret (SV.tup [.agg [.nils, .nils, .nils, .nils, .nils, .lb false], .nils, .int .i64 27])) (.leaf (Conf.mk (SFrm.mk 23 none none [Item.inLoop (cAt Try.prog 23 [1, 1, 1, 1, 1, 0, 1, 0, 0]), Item.inBlock 0, Item.code
 (cAt Try.prog 23 [1, 1, 1, 1, 1, 1])] (mkJ 0 [(4, .ptr 0 0), (7, .ptr 1 0), (9, .ptr 2 0), (44, .dat du), (45, .int .i64 (↑(D.len du) : Int)), (46, .int .i64 0)] 0 105)) [] [(0, OBlk.cells 28 [.nils, .nils, .nils, .nils, .nils, .lb false]),
 (1, OBlk.cells 91 [.vec 3, .vec 4, .vec 5, .vec 6, .vec 7, .vec 8, .bool fz]), (2, OBlk.cells 3 [.int .i64 (↑(D.len du) : Int)]), (3, OBlk.arr 4 p), (4, OBlk.arr 3 a), (5, OBlk.arr 31 b), (6, OBlk.arr 108 c),
 (7, OBlk.arr 3 x), (8, OBlk.arr 3 y)])))))))))))))))) := by
 intros; kernel_rfl

end
end Go.Proofs.Ytodhhmjilnfecaa
end
section
open Go Go.Proofs Sx
namespace Go.Proofs.Ytodhhmjilnfecaa
set_option maxRecDepth 100000
set_option maxHeartbeats 0
noncomputable def grL (du p a b c x y : D) (fz : Bool) (z : Int) : Conf := Conf.mk (SFrm.mk 23 none none [Item.inLoop (cAt Try.prog 23 [1, 1, 1, 1, 1, 0, 1, 0, 0]), Item.inBlock 0, Item.code (cAt Try.prog 23 [1, 1, 1, 1, 1, 1])] (mkJ 0 [(4, .ptr 0 0), (7, .ptr 1 0), (9, .ptr 2 0), (44, .dat du), (45, .int .i64 (du.len : Int)), (46, .int .i64 z)] 0 105)) [] [(0, OBlk.cells 28 [.nils, .nils, .nils, .nils, .nils, .lb false]), (1, OBlk.cells 91 [.vec 3, .vec 4, .vec 5, .vec 6, .vec 7, .vec 8, .bool fz]), (2, OBlk.cells 3 [.int .i64 (du.len : Int)]), (3, OBlk.arr 4 p), (4, OBlk.arr 3 a), (5, OBlk.arr 31 b), (6, OBlk.arr 108 c), (7, OBlk.arr 3 x), (8, OBlk.arr 3 y)]
section
variable (z : Int) (du p a b c x y : D) (fz : Bool)
theorem grl_go : goS Try.prog ctGr (fun _ => false) [(55, 8)] 300 (unroll (grL du p a b c x y fz z)) =
 Tree.br (decide (z < (↑(D.len du) : Int)))
 (.need (0 ≤ z ∧ z < (↑(D.len du) : Int) ∧ D.sz du = 1)
 (.need (D.HasCell du (Int.toNat z) 0 (FT.int .i64))
 (.br (D.getInt du (Int.toNat z) 0 != z)
 (.ret
 (SV.tup [.agg [.nils, .nils, .nils, .nils, .nils, .lb false], .nils, .int .i64 27]))
 (.leaf
 (Conf.mk
 (SFrm.mk 23 none none
 [Item.inLoop (cAt Try.prog 23 [1, 1, 1, 1, 1, 0, 1, 0, 0]), Item.inBlock 0,
 Item.code (cAt Try.prog 23 [1, 1, 1, 1, 1, 1])]
 (mkJ 0
 [(4, .ptr 0 0), (7, .ptr 1 0), (9, .ptr 2 0), (44, .dat du),
 (45, .int .i64 (↑(D.len du) : Int)),
 (46, .int .i64 (IntKind.wrap .i64 (z + 1)))]
 0 105))
 []
 [(0, OBlk.cells 28 [.nils, .nils, .nils, .nils, .nils, .lb false]),
 (1, OBlk.cells 91 [.vec 3, .vec 4, .vec 5, .vec 6, .vec 7, .vec 8, .bool fz]),
 (2, OBlk.cells 3 [.int .i64 (↑(D.len du) : Int)]), (3, OBlk.arr 4 p), (4, OBlk.arr 3 a),
 (5, OBlk.arr 31 b), (6, OBlk.arr 108 c), (7, OBlk.arr 3 x), (8, OBlk.arr 3 y)])))))
 (.all fun hs =>
 .need
 (0 ≤ (↑0 : Int) ∧ (↑0 : Int) ≤ (↑(D.len du) : Int) ∧ (↑(D.len du) : Int) ≤ (↑(D.len b) : Int) ∧ D.Fits b 3)
 (.leaf
 (Conf.mk
 (SFrm.mk 55 none none [Item.code (cAt Try.prog 55 [1, 0]), Item.code (cAt Try.prog 55 [1, 1])]
 (mkJ 1 [(0, .vec 0), (1, SV.fn 56 [] [.ptr 1 0])] 0 42))
 [SFrm.mk 23 (some (opsAt Try.prog 23 [1, 1, 1, 1, 1, 1, 1, 1, 0], [7, 8, 9])) (some 75)
 [Item.code (cAt Try.prog 23 [1, 1, 1, 1, 1, 1, 1, 1, 1])]
 (mkJ 0 [(4, .ptr 2 0), (7, .ptr 3 0), (9, .ptr 1 0), (69, .ptr 3 1)] 0 105)]
 [(0, OBlk.arr 108 c), (1, OBlk.cells 3 [.int .i64 (↑(D.len du) : Int)]),
 (2, OBlk.cells 28 [.nils, .nils, .nils, .nils, .nils, .lb false]),
 (3,
 OBlk.cells 91
 [.vec 4, .vec 5, .dat (D.sub b 0 (Int.toNat (↑(D.len du) : Int))), .vec 0, .vec 6, .vec 7,
 .bool fz]),
 (4, OBlk.arr 4 p), (5, OBlk.arr 3 a), (6, OBlk.arr 3 x), (7, OBlk.arr 3 y)]))) := by kernel_rfl

end
end Go.Proofs.Ytodhhmjilnfecaa
end
section
open Go Go.Proofs Sx
namespace Go.Proofs.Ytodhhmjilnfecaa
set_option maxRecDepth 100000
set_option maxHeartbeats 0
noncomputable def dfR : List SFrm := [SFrm.mk 23 (some (opsAt Try.prog 23 [1, 1, 1, 1, 1, 1, 1, 1, 0], [7, 8, 9])) (some 75) [Item.code (cAt Try.prog 23 [1, 1, 1, 1, 1, 1, 1, 1, 1])] (mkJ 0 [(4, .ptr 2 0), (7, .ptr 3 0), (9, .ptr 1 0), (69, .ptr 3 1)] 0 105)]
noncomputable def dfM (n : Int) (u c p a x y : D) (fz : Bool) : Mem := [(0, OBlk.arr 108 c), (1, OBlk.cells 3 [.int .i64 n]), (2, OBlk.cells 28 [.nils, .nils, .nils, .nils, .nils, .lb false]), (3, OBlk.cells 91 [.vec 4, .vec 5, .dat u, .vec 0, .vec 6, .vec 7, .bool fz]), (4, OBlk.arr 4 p), (5, OBlk.arr 3 a), (6, OBlk.arr 3 x), (7, OBlk.arr 3 y)]
noncomputable def dfA (n : Int) (u c p a x y : D) (fz : Bool) : Conf := Conf.mk (SFrm.mk 55 none none [Item.code (cAt Try.prog 55 [1, 0]), Item.code (cAt Try.prog 55 [1, 1])] (mkJ 1 [(0, .vec 0), (1, SV.fn 56 [] [.ptr 1 0])] 0 42)) dfR (dfM n u c p a x y fz)
section
variable (n : Int) (u p a c x y : D) (fz : Bool)
theorem df_in : goS Try.prog ctGr (fun _ => false) [(91, 5)] 300 (dfA n u c p a x y fz) =
 Tree.leaf
 (Conf.mk
 (SFrm.mk 91 none none
 [Item.inLoop (cAt Try.prog 91 [1, 0, 1, 0, 0]), Item.inBlock 0, Item.code (cAt Try.prog 91 [1, 1])]
 (mkJ 2
 [(0, .vec 0), (1, SV.fn 56 [] [.ptr 1 0]), (7, .int .i64 (↑(D.len c) : Int)),
 (8, .int .i64 0)]
 0 19))
 [SFrm.mk 55 (some (opsAt Try.prog 55 [1, 0], [3])) (some 10) [Item.code (cAt Try.prog 55 [1, 1])]
 (mkJ 1 [(0, .vec 0), (1, SV.fn 56 [] [.ptr 1 0]), (8, .vec 0), (9, SV.fn 56 [] [.ptr 1 0])] 0 42),
 SFrm.mk 23 (some (opsAt Try.prog 23 [1, 1, 1, 1, 1, 1, 1, 1, 0], [7, 8, 9])) (some 75)
 [Item.code (cAt Try.prog 23 [1, 1, 1, 1, 1, 1, 1, 1, 1])]
 (mkJ 0 [(4, .ptr 2 0), (7, .ptr 3 0), (9, .ptr 1 0), (69, .ptr 3 1)] 0 105)]
 [(0, OBlk.arr 108 c), (1, OBlk.cells 3 [.int .i64 n]),
 (2, OBlk.cells 28 [.nils, .nils, .nils, .nils, .nils, .lb false]),
 (3, OBlk.cells 91 [.vec 4, .vec 5, .dat u, .vec 0, .vec 6, .vec 7, .bool fz]), (4, OBlk.arr 4 p),
 (5, OBlk.arr 3 a), (6, OBlk.arr 3 x), (7, OBlk.arr 3 y)]) := by kernel_rfl

end
end Go.Proofs.Ytodhhmjilnfecaa
end
section
open Go Go.Proofs Sx
namespace Go.Proofs.Ytodhhmjilnfecaa
set_option maxRecDepth 100000
set_option maxHeartbeats 0
noncomputable def dxL (n : Int) (u c p a x y : D) (fz : Bool) (z : Int) : Conf := Conf.mk (SFrm.mk 91 none none [Item.inLoop (cAt Try.prog 91 [1, 0, 1, 0, 0]), Item.inBlock 0, Item.code (cAt Try.prog 91 [1, 1])] (mkJ 2 [(0, .vec 0), (1, SV.fn 56 [] [.ptr 1 0]), (7, .int .i64 (c.len : Int)), (8, .int .i64 z)] 0 19))
 (SFrm.mk 55 (some (opsAt Try.prog 55 [1, 0], [3])) (some 10) [Item.code (cAt Try.prog 55 [1, 1])] (mkJ 1 [(0, .vec 0), (1, SV.fn 56 [] [.ptr 1 0]), (8, .vec 0), (9, SV.fn 56 [] [.ptr 1 0])] 0 42) :: dfR) (dfM n u c p a x y fz)
section
variable (n z : Int) (u p a c x y : D) (fz : Bool)
theorem dx_go : 
 let z1 : Tree := (.all fun hs => .need (D.Is Bool p ∧ 0 ≤ n ∧ n ≤ (↑(D.len p) : Int) ∧ D.len p ≤ 1048576) (.leaf (Conf.mk (SFrm.mk 53 none none [Item.code (cAt Try.prog 53 [0]), Item.code (cAt Try.prog 53 [1])] (mkJ 1 [(0, .vec 0), (1, SV.fn 46 [.ptr 1 0] [])] 0 16)) [SFrm.mk 23 (some (opsAt Try.prog 23 [1, 1, 1, 1, 1, 1, 1, 1, 1, 1, 1, 0], [])) (some 99) [Item.code (cAt Try.prog 23 [1, 1, 1, 1, 1, 1, 1, 1, 1, 1, 1, 1])] (mkJ 0 [(4, .ptr 2 0), (7, .ptr 1 0), (13, .vec 0)] 0 105)] [(0, OBlk.arr 3 (D.slc (D.hd (hs 5 0)) 1 (List.map (fun n => [D.int .i64 n]) (unackN (D.to Bool p) (Int.toNat n))))), (1, OBlk.cells 91 [.vec 3, .vec 4, .dat u, .vec 5, .nils, .nils, .lb false]), (2, OBlk.cells 28 [.nils, .nils, .nils, .nils, .nils, .lb false]), (3, OBlk.arr 4 p), (4, OBlk.arr 3 a), (5, OBlk.arr 108 c)])))
 let z2 := (mkJ 0 [(4, .ptr 2 0), (7, .ptr 3 0), (9, .ptr 1 0), (69, .ptr 3 1)] 0 105)
 goS Try.prog ctGr (fun _ => false) [(53, 6)] 300 (unroll (dxL n u c p a x y fz z)) =
 Tree.br (decide (z < (↑(D.len c) : Int))) (.need (0 ≤ z ∧ z < (↑(D.len c) : Int) ∧ D.sz c = 2) (.need (D.HasCells c (Int.toNat z) 0 [FT.int .i64, FT.int .i64] ∧ D.sz c = 2) (.br (decide (D.getInt c (Int.toNat z) 1 ≥ n))
 (.br (decide (z = Int.neg 1)) z1 (.leaf (Conf.mk (SFrm.mk 55 none none [Item.inLoop (cAt Try.prog 55 [1, 1, 1, 0, 1, 0, 0]), Item.inBlock 0, Item.code (cAt Try.prog 55 [1, 1, 1, 1])] (mkJ 1 [(0, .vec 0),
 (1, SV.fn 56 [] [.ptr 1 0]), (5, .int .i64 z), (6, .int .i64 (IntKind.wrap .i64 (z + 1)))] 0 42)) [SFrm.mk 23 (some (opsAt Try.prog 23 [1, 1, 1, 1, 1, 1, 1, 1, 0], [7, 8, 9])) (some 75) [Item.code (cAt Try.prog 23 [1, 1, 1, 1, 1, 1, 1, 1, 1])] z2] [(0, OBlk.arr 108 c),
 (1, OBlk.cells 3 [.int .i64 n]), (2, OBlk.cells 28 [.nils, .nils, .nils, .nils, .nils, .lb false]), (3, OBlk.cells 91 [.vec 4, .vec 5, .dat u, .vec 0, .vec 6, .vec 7, .bool fz]), (4, OBlk.arr 4 p), (5, OBlk.arr 3 a),
 (6, OBlk.arr 3 x), (7, OBlk.arr 3 y)]))) (.leaf (Conf.mk (SFrm.mk 91 none none [Item.inLoop (cAt Try.prog 91 [1, 0, 1, 0, 0]), Item.inBlock 0, Item.code (cAt Try.prog 91 [1, 1])] (mkJ 2 [(0, .vec 0), (1, SV.fn 56 [] [.ptr 1 0]),
 (7, .int .i64 (↑(D.len c) : Int)), (8, .int .i64 (IntKind.wrap .i64 (z + 1)))] 0 19)) [SFrm.mk 55 (some (opsAt Try.prog 55 [1, 0], [3])) (some 10) [Item.code (cAt Try.prog 55 [1, 1])] (mkJ 1 [(0, .vec 0),
 (1, SV.fn 56 [] [.ptr 1 0]), (8, .vec 0), (9, SV.fn 56 [] [.ptr 1 0])] 0 42), SFrm.mk 23 (some (opsAt Try.prog 23 [1, 1, 1, 1, 1, 1, 1, 1, 0], [7, 8, 9])) (some 75) [Item.code (cAt Try.prog 23 [1, 1, 1, 1, 1, 1, 1, 1, 1])] z2] [(0, OBlk.arr 108 c),
 (1, OBlk.cells 3 [.int .i64 n]), (2, OBlk.cells 28 [.nils, .nils, .nils, .nils, .nils, .lb false]), (3, OBlk.cells 91 [.vec 4, .vec 5, .dat u, .vec 0, .vec 6, .vec 7, .bool fz]), (4, OBlk.arr 4 p), (5, OBlk.arr 3 a),
 (6, OBlk.arr 3 x), (7, OBlk.arr 3 y)]))))) (.br true z1 (.leaf (Conf.mk (SFrm.mk 55 none none [Item.inLoop (cAt Try.prog 55 [1, 1, 1, 0, 1, 0, 0]), Item.inBlock 0, Item.code (cAt Try.prog 55 [1, 1, 1, 1])]
 (mkJ 1 [(0, .vec 0), (1, SV.fn 56 [] [.ptr 1 0]), (5, .int .i64 (Int.neg 1)), (6, .int .i64 (IntKind.wrap .i64 (Int.neg 1 + 1)))] 0 42)) [SFrm.mk 23 (some (opsAt Try.prog 23 [1, 1, 1, 1, 1, 1, 1, 1, 0], [7, 8, 9]))
 (some 75) [Item.code (cAt Try.prog 23 [1, 1, 1, 1, 1, 1, 1, 1, 1])] z2] [(0, OBlk.arr 108 c), (1, OBlk.cells 3 [.int .i64 n]), (2, OBlk.cells 28 [.nils, .nils, .nils, .nils, .nils, .lb false]), (3, OBlk.cells 91 [.vec 4, .vec 5, .dat u, .vec 0, .vec 6, .vec 7, .bool fz]),
 (4, OBlk.arr 4 p), (5, OBlk.arr 3 a), (6, OBlk.arr 3 x), (7, OBlk.arr 3 y)]))) := by
 intros; kernel_rfl

end
end Go.Proofs.Ytodhhmjilnfecaa
end
section
open Go Go.Proofs Sx
namespace Go.Proofs.Ytodhhmjilnfecaa
set_option maxRecDepth 100000
set_option maxHeartbeats 0
noncomputable def dfL (n : Int) (u c p a x y : D) (fz : Bool) (i j : Int) : Conf := Conf.mk (SFrm.mk 55 none none [Item.inLoop (cAt Try.prog 55 [1, 1, 1, 0, 1, 0, 0]), Item.inBlock 0, Item.code (cAt Try.prog 55 [1, 1, 1, 1])] (mkJ 1 [(0, .vec 0), (1, SV.fn 56 [] [.ptr 1 0]), (5, .int .i64 i), (6, .int .i64 j)] 0 42)) dfR (dfM n u c p a x y fz)
section
variable (n i j : Int) (u p a c x y : D) (fz : Bool)
theorem df_go : goS Try.prog ctGr (fun _ => false) [(55, 36)] 300 (unroll (dfL n u c p a x y fz i j)) =
 Tree.br (decide (j < (↑(D.len c) : Int)))
 (.need (0 ≤ j ∧ j < (↑(D.len c) : Int) ∧ D.sz c = 2)
 (.need (D.HasCells c (Int.toNat j) 0 [FT.int .i64, FT.int .i64] ∧ D.sz c = 2)
 (.br (!decide (D.getInt c (Int.toNat j) 1 ≥ n))
 (.need (0 ≤ i ∧ i < (↑(D.len c) : Int) ∧ D.sz c = 2)
 (.need (Int.toNat i < D.len c ∧ 2 ≤ D.sz c ∧ D.sz c = 2)
 (.leaf
 (Conf.mk
 (SFrm.mk 55 none none
 [Item.inLoop (cAt Try.prog 55 [1, 1, 1, 0, 1, 0, 0]), Item.inBlock 0,
 Item.code (cAt Try.prog 55 [1, 1, 1, 1])]
 (mkJ 1
 [(0, .vec 0), (1, SV.fn 56 [] [.ptr 1 0]),
 (5, .int .i64 (IntKind.wrap .i64 (i + 1))),
 (6, .int .i64 (IntKind.wrap .i64 (j + 1)))]
 0 42))
 [SFrm.mk 23 (some (opsAt Try.prog 23 [1, 1, 1, 1, 1, 1, 1, 1, 0], [7, 8, 9])) (some 75)
 [Item.code (cAt Try.prog 23 [1, 1, 1, 1, 1, 1, 1, 1, 1])]
 (mkJ 0 [(4, .ptr 2 0), (7, .ptr 3 0), (9, .ptr 1 0), (69, .ptr 3 1)] 0 105)]
 [(0,
 OBlk.arr 108
 (D.setCells c (Int.toNat i) 0
 [D.int .i64 (D.getInt c (Int.toNat j) 0),
 D.int .i64 (D.getInt c (Int.toNat j) 1)])),
 (1, OBlk.cells 3 [.int .i64 n]),
 (2, OBlk.cells 28 [.nils, .nils, .nils, .nils, .nils, .lb false]),
 (3, OBlk.cells 91 [.vec 4, .vec 5, .dat u, .vec 0, .vec 6, .vec 7, .bool fz]),
 (4, OBlk.arr 4 p), (5, OBlk.arr 3 a), (6, OBlk.arr 3 x), (7, OBlk.arr 3 y)]))))
 (.leaf
 (Conf.mk
 (SFrm.mk 55 none none
 [Item.inLoop (cAt Try.prog 55 [1, 1, 1, 0, 1, 0, 0]), Item.inBlock 0,
 Item.code (cAt Try.prog 55 [1, 1, 1, 1])]
 (mkJ 1
 [(0, .vec 0), (1, SV.fn 56 [] [.ptr 1 0]), (5, .int .i64 i),
 (6, .int .i64 (IntKind.wrap .i64 (j + 1)))]
 0 42))
 [SFrm.mk 23 (some (opsAt Try.prog 23 [1, 1, 1, 1, 1, 1, 1, 1, 0], [7, 8, 9])) (some 75)
 [Item.code (cAt Try.prog 23 [1, 1, 1, 1, 1, 1, 1, 1, 1])]
 (mkJ 0 [(4, .ptr 2 0), (7, .ptr 3 0), (9, .ptr 1 0), (69, .ptr 3 1)] 0 105)]
 [(0, OBlk.arr 108 c), (1, OBlk.cells 3 [.int .i64 n]),
 (2, OBlk.cells 28 [.nils, .nils, .nils, .nils, .nils, .lb false]),
 (3, OBlk.cells 91 [.vec 4, .vec 5, .dat u, .vec 0, .vec 6, .vec 7, .bool fz]),
 (4, OBlk.arr 4 p), (5, OBlk.arr 3 a), (6, OBlk.arr 3 x), (7, OBlk.arr 3 y)])))))
 (.leaf
 (Conf.mk
 (SFrm.mk 55 none none [Item.code (cAt Try.prog 55 [1, 1, 1, 1, 0]), Item.code (cAt Try.prog 55 [1, 1, 1, 1, 1])]
 (mkJ 1 [(0, .vec 0), (5, .int .i64 i)] 0 42))
 [SFrm.mk 23 (some (opsAt Try.prog 23 [1, 1, 1, 1, 1, 1, 1, 1, 0], [7, 8, 9])) (some 75)
 [Item.code (cAt Try.prog 23 [1, 1, 1, 1, 1, 1, 1, 1, 1])]
 (mkJ 0 [(4, .ptr 1 0), (7, .ptr 2 0), (9, .ptr 3 0), (69, .ptr 2 1)] 0 105)]
 [(0, OBlk.arr 108 c), (1, OBlk.cells 28 [.nils, .nils, .nils, .nils, .nils, .lb false]),
 (2, OBlk.cells 91 [.vec 4, .vec 5, .dat u, .vec 0, .vec 6, .vec 7, .bool fz]),
 (3, OBlk.cells 3 [.int .i64 n]), (4, OBlk.arr 4 p), (5, OBlk.arr 3 a), (6, OBlk.arr 3 x),
 (7, OBlk.arr 3 y)])) := by kernel_rfl

end
end Go.Proofs.Ytodhhmjilnfecaa
end
section
open Go Go.Proofs Sx
namespace Go.Proofs.Ytodhhmjilnfecaa
set_option maxRecDepth 100000
set_option maxHeartbeats 0
noncomputable def dfE (n : Int) (u c p a x y : D) (fz : Bool) (i : Int) : Conf := Conf.mk (SFrm.mk 55 none none [Item.code (cAt Try.prog 55 [1, 1, 1, 1, 0]), Item.code (cAt Try.prog 55 [1, 1, 1, 1, 1])] (mkJ 1 [(0, .vec 0), (5, .int .i64 i)] 0 42)) [SFrm.mk 23 (some (opsAt Try.prog 23 [1, 1, 1, 1, 1, 1, 1, 1, 0], [7, 8, 9])) (some 75) [Item.code (cAt Try.prog 23 [1, 1, 1, 1, 1, 1, 1, 1, 1])] (mkJ 0 [(4, .ptr 1 0), (7, .ptr 2 0), (9, .ptr 3 0), (69, .ptr 2 1)] 0 105)]
 [(0, OBlk.arr 108 c), (1, OBlk.cells 28 [.nils, .nils, .nils, .nils, .nils, .lb false]), (2, OBlk.cells 91 [.vec 4, .vec 5, .dat u, .vec 0, .vec 6, .vec 7, .bool fz]), (3, OBlk.cells 3 [.int .i64 n]), (4, OBlk.arr 4 p), (5, OBlk.arr 3 a), (6, OBlk.arr 3 x), (7, OBlk.arr 3 y)]
section
variable (n i : Int) (u p a c x y : D) (fz : Bool)
theorem ds_go : goS Try.prog ctGr (fun _ => false) [(53, 6)] 300 ((shiftC 2000 (dfE n u c p a x y fz i)).getD (dfE n u c p a x y fz i)) =
 Tree.need (0 ≤ i ∧ i ≤ (↑(D.len c) : Int) ∧ D.Fits c 2)
 (.need (2 = 2 ∧ D.sz c = 2 ∧ Int.toNat i + (D.len c - Int.toNat i) ≤ D.len c ∧ D.len c ≤ 9223372036854775807)
 (.need
 (0 ≤ i ∧
 i ≤
 (↑(D.len
 (D.slc (D.hd c) (D.sz c)
 (List.append (List.take (Int.toNat i) (D.rows c))
 (List.append (List.replicate (D.len c - Int.toNat i) [D.int .i64 0, D.int .i64 0])
 (List.drop (Int.toNat i + (D.len c - Int.toNat i)) (D.rows c)))))) :
 Int) ∧
 D.Fits
 (D.slc (D.hd c) (D.sz c)
 (List.append (List.take (Int.toNat i) (D.rows c))
 (List.append (List.replicate (D.len c - Int.toNat i) [D.int .i64 0, D.int .i64 0])
 (List.drop (Int.toNat i + (D.len c - Int.toNat i)) (D.rows c)))))
 2)
 (.all fun hs =>
 .need (D.Is Bool p ∧ 0 ≤ n ∧ n ≤ (↑(D.len p) : Int) ∧ D.len p ≤ 1048576)
 (.leaf
 (Conf.mk
 (SFrm.mk 53 none none [Item.code (cAt Try.prog 53 [0]), Item.code (cAt Try.prog 53 [1])]
 (mkJ 1 [(0, .vec 0), (1, SV.fn 46 [.ptr 1 0] [])] 0 16))
 [SFrm.mk 23 (some (opsAt Try.prog 23 [1, 1, 1, 1, 1, 1, 1, 1, 1, 1, 1, 0], [])) (some 99)
 [Item.code (cAt Try.prog 23 [1, 1, 1, 1, 1, 1, 1, 1, 1, 1, 1, 1])]
 (mkJ 0 [(4, .ptr 2 0), (7, .ptr 1 0), (13, .vec 0)] 0 105)]
 [(0,
 OBlk.arr 3
 (D.slc (D.hd (hs 5 0)) 1
 (List.map (fun n => [D.int .i64 n]) (unackN (D.to Bool p) (Int.toNat n))))),
 (1, OBlk.cells 91 [.vec 3, .vec 4, .dat u, .vec 5, .nils, .nils, .lb false]),
 (2, OBlk.cells 28 [.nils, .nils, .nils, .nils, .nils, .lb false]), (3, OBlk.arr 4 p),
 (4, OBlk.arr 3 a),
 (5,
 OBlk.arr 108
 (D.slc
 (D.hd
 (D.slc (D.hd c) (D.sz c)
 (List.append (List.take (Int.toNat i) (D.rows c))
 (List.append
 (List.replicate (D.len c - Int.toNat i) [D.int .i64 0, D.int .i64 0])
 (List.drop (Int.toNat i + (D.len c - Int.toNat i)) (D.rows c))))))
 (D.sz
 (D.slc (D.hd c) (D.sz c)
 (List.append (List.take (Int.toNat i) (D.rows c))
 (List.append
 (List.replicate (D.len c - Int.toNat i) [D.int .i64 0, D.int .i64 0])
 (List.drop (Int.toNat i + (D.len c - Int.toNat i)) (D.rows c))))))
 (List.take (Int.toNat i)
 (D.rows
 (D.slc (D.hd c) (D.sz c)
 (List.append (List.take (Int.toNat i) (D.rows c))
 (List.append
 (List.replicate (D.len c - Int.toNat i) [D.int .i64 0, D.int .i64 0])
 (List.drop (Int.toNat i + (D.len c - Int.toNat i)) (D.rows c)))))))))]))))) := by kernel_rfl

end
end Go.Proofs.Ytodhhmjilnfecaa
end
section
open Go Go.Proofs Sx
namespace Go.Proofs.Ytodhhmjilnfecaa
set_option maxRecDepth 100000
set_option maxHeartbeats 0
noncomputable def eaR : List SFrm := [SFrm.mk 23 (some (opsAt Try.prog 23 [1, 1, 1, 1, 1, 1, 1, 1, 1, 1, 1, 0], [])) (some 99) [Item.code (cAt Try.prog 23 [1, 1, 1, 1, 1, 1, 1, 1, 1, 1, 1, 1])] (mkJ 0 [(4, .ptr 2 0), (7, .ptr 1 0), (13, .vec 0)] 0 105)]
noncomputable def eaM (l u p a q : D) : Mem := [(0, OBlk.arr 3 l), (1, OBlk.cells 91 [.vec 3, .vec 4, .dat u, .vec 5, .nils, .nils, .lb false]), (2, OBlk.cells 28 [.nils, .nils, .nils, .nils, .nils, .lb false]), (3, OBlk.arr 4 p), (4, OBlk.arr 3 a), (5, OBlk.arr 108 q)]
noncomputable def eaA (l u p a q : D) : Conf := Conf.mk (SFrm.mk 53 none none [Item.code (cAt Try.prog 53 [0]), Item.code (cAt Try.prog 53 [1])] (mkJ 1 [(0, .vec 0), (1, SV.fn 46 [.ptr 1 0] [])] 0 16)) eaR (eaM l u p a q)
section
variable (u p a l q : D)
theorem ea_in : goS Try.prog ctGr (fun _ => false) [(46, 1000)] 300 (eaA l u p a q) =
 Tree.leaf
 (Conf.mk
 (SFrm.mk 53 none none [Item.inLoop (cAt Try.prog 53 [1, 0, 0]), Item.inBlock 0]
 (mkJ 1
 [(1, SV.fn 46 [.ptr 0 0] []), (6, .vec 1), (7, .int .i64 (↑(D.len l) : Int)),
 (8, .int .i64 0)]
 0 16))
 [SFrm.mk 23 (some (opsAt Try.prog 23 [1, 1, 1, 1, 1, 1, 1, 1, 1, 1, 1, 0], [])) (some 99)
 [Item.code (cAt Try.prog 23 [1, 1, 1, 1, 1, 1, 1, 1, 1, 1, 1, 1])]
 (mkJ 0 [(4, .ptr 2 0), (7, .ptr 0 0), (13, .vec 1)] 0 105)]
 [(0, OBlk.cells 91 [.vec 3, .vec 4, .dat u, .vec 5, .nils, .nils, .lb false]), (1, OBlk.arr 3 l),
 (2, OBlk.cells 28 [.nils, .nils, .nils, .nils, .nils, .lb false]), (3, OBlk.arr 4 p),
 (4, OBlk.arr 3 a), (5, OBlk.arr 108 q)]) := by kernel_rfl

end
end Go.Proofs.Ytodhhmjilnfecaa
end
section
open Go Go.Proofs Sx
namespace Go.Proofs.Ytodhhmjilnfecaa
set_option maxRecDepth 100000
set_option maxHeartbeats 0
noncomputable def eaL (l u p a q : D) (z : Int) : Conf := Conf.mk (SFrm.mk 53 none none [Item.inLoop (cAt Try.prog 53 [1, 0, 0]), Item.inBlock 0] (mkJ 1 [(1, SV.fn 46 [.ptr 0 0] []), (6, .vec 1), (7, .int .i64 (l.len : Int)), (8, .int .i64 z)] 0 16))
 [SFrm.mk 23 (some (opsAt Try.prog 23 [1, 1, 1, 1, 1, 1, 1, 1, 1, 1, 1, 0], [])) (some 99) [Item.code (cAt Try.prog 23 [1, 1, 1, 1, 1, 1, 1, 1, 1, 1, 1, 1])] (mkJ 0 [(4, .ptr 2 0), (7, .ptr 0 0), (13, .vec 1)] 0 105)]
 [(0, OBlk.cells 91 [.vec 3, .vec 4, .dat u, .vec 5, .nils, .nils, .lb false]), (1, OBlk.arr 3 l), (2, OBlk.cells 28 [.nils, .nils, .nils, .nils, .nils, .lb false]), (3, OBlk.arr 4 p), (4, OBlk.arr 3 a), (5, OBlk.arr 108 q)]
section
variable (z : Int) (u p a l q : D)
theorem ea_go : goS Try.prog ctGr (fun _ => false) [(46, 1000)] 300 (unroll (eaL l u p a q z)) =
 Tree.br (decide (z < (↑(D.len l) : Int)))
 (.need (0 ≤ z ∧ z < (↑(D.len l) : Int) ∧ D.sz l = 1)
 (.need (D.HasCell l (Int.toNat z) 0 (FT.int .i64) ∧ D.sz l = 1)
 (.all fun hs =>
 .need
 (D.sz q = 2 ∧
 D.Fits (D.slc (D.hd (hs 0 0)) 2 [[D.int .i64 1, D.int .i64 (D.getInt l (Int.toNat z) 0)]]) 2 ∧
 (D.len q +
 D.len
 (D.slc (D.hd (hs 0 0)) 2
 [[D.int .i64 1, D.int .i64 (D.getInt l (Int.toNat z) 0)]])) *
 16 ≤
 140737488355328 ∧
 D.len q +
 D.len
 (D.slc (D.hd (hs 0 0)) 2
 [[D.int .i64 1, D.int .i64 (D.getInt l (Int.toNat z) 0)]]) ≤
 9223372036854775807)
 (.all fun hs_1 =>
 .need (0 ≤ D.getInt l (Int.toNat z) 0 ∧ D.getInt l (Int.toNat z) 0 < (↑(D.len p) : Int) ∧ D.sz p = 1)
 (.need (Int.toNat (D.getInt l (Int.toNat z) 0) < D.len p ∧ 1 ≤ D.sz p ∧ D.sz p = 1)
 (.leaf
 (Conf.mk
 (SFrm.mk 53 none none [Item.inLoop (cAt Try.prog 53 [1, 0, 0]), Item.inBlock 0]
 (mkJ 1
 [(1, SV.fn 46 [.ptr 0 0] []), (6, .vec 1), (7, .int .i64 (↑(D.len l) : Int)),
 (8, .int .i64 (IntKind.wrap .i64 (z + 1)))]
 0 16))
 [SFrm.mk 23 (some (opsAt Try.prog 23 [1, 1, 1, 1, 1, 1, 1, 1, 1, 1, 1, 0], [])) (some 99)
 [Item.code (cAt Try.prog 23 [1, 1, 1, 1, 1, 1, 1, 1, 1, 1, 1, 1])]
 (mkJ 0 [(4, .ptr 2 0), (7, .ptr 0 0), (13, .vec 1)] 0 105)]
 [(0, OBlk.cells 91 [.vec 3, .vec 4, .dat u, .vec 5, .nils, .nils, .lb false]),
 (1, OBlk.arr 3 l), (2, OBlk.cells 28 [.nils, .nils, .nils, .nils, .nils, .lb false]),
 (3, OBlk.arr 4 (D.setCells p (Int.toNat (D.getInt l (Int.toNat z) 0)) 0 [D.bool true])),
 (4, OBlk.arr 3 a),
 (5,
 OBlk.arr 108
 (D.slc (D.hd (hs_1 0 0)) 2
 (List.append (D.rows q)
 (D.rows
 (D.slc (D.hd (hs 0 0)) 2
 [[D.int .i64 1, D.int .i64 (D.getInt l (Int.toNat z) 0)]])))))])))))))
 (.ret
 (SV.tup [.agg [.dat a, .dat u, .dat q, .nils, .nils, .lb false], .dat l, .int .i64 0])) := by kernel_rfl

end
end Go.Proofs.Ytodhhmjilnfecaa
end
section
open Go Go.Proofs Sx
namespace Go.Proofs.Ytodhhmjilnfecaa
set_option maxRecDepth 100000
set_option maxHeartbeats 0
theorem ctGrOk : Ctrs.Ok Try.prog ctGr := by
  intro x hx
  simp only [ctGr, List.mem_cons, List.not_mem_nil, or_false] at hx
  rcases hx with rfl | rfl
  · exact vCtr_ok lawHasB
  · exact ctrUna
theorem ea_loop {H : HV} {w : World} {l u p a q : D} {S : List Int} {W : List Wt} {Q : List Ev} {L : List Int} (ha : a.Is Int ∧ a.to Int = S) (hu : u.Is Wt ∧ u.to Wt = W) (hq : q.Is Ev ∧ q.to Ev = Q ∧ q.sz = 2) (hp : p.Is Bool)
    (hl : l.Is Int ∧ l.to Int = L) (hL : ∀ v, v ∈ L → 0 ≤ v ∧ v < (p.len : Int)) (hQ : Q.length ≤ 1048576) (hLl : L.length ≤ 1048576) :
    Runs Try.prog ⟨w, H⟩ (eaL l u p a q 0) (RetD w H fun ds => .tup [grSV ds ⟨⟨S, W, Q ++ L.map (Ev.mk 1)⟩, [], [], false⟩, .dat ((ds 5).like L), .int .i64 0]) := by
  have ll := D.Is.length (α := Int) l
  have pl0 := D.Is.length (α := Bool) p
  refine runs_loop (fun s : Nat × D × D => eaL l u s.2.1 a s.2.2 s.1) (fun s => s.1 ≤ L.length ∧ (s.2.1.Is Bool ∧ (s.2.1.to Bool).length = (p.to Bool).length) ∧ s.2.2.Is Ev ∧ s.2.2.to Ev = Q ++ (L.take s.1).map (Ev.mk 1) ∧ s.2.2.sz = 2) (fun s => L.length - s.1) (fun _ => rfl) ?_ (0, p, q) ⟨Nat.zero_le _, ⟨hp, rfl⟩, hq.1, by simp [hq.2.1], hq.2.2⟩
  rintro ⟨j, p', c⟩ ⟨hj, ⟨hp', hpl⟩, hc, hct, hcz⟩ ih
  simp only at hj hp' hpl hc hct hcz ih ⊢
  apply goS_sound ctGrOk (fun _ => false) [(46, 1000)] 300
  rw [ea_go]
  have pl := D.Is.length (α := Bool) p'
  have cl2 := D.Is.length (α := Ev) c
  rw [hct, List.length_append, List.length_map, List.length_take] at cl2
  refine ⟨fun hjc => ?_, fun hjc => ?_⟩
  · have hjc : j < L.length := by have := of_decide_eq_true hjc; rw [hl.2] at ll; omega
    have hjy : j < (l.to Int).length := by rw [hl.2]; exact hjc
    obtain ⟨c1, c2, c3⟩ := int_at hl.1 hjy
    have he : (l.to Int)[j] = L[j] := by simp only [hl.2]
    have hv := hL (L[j]) (List.getElem_mem hjc)
    have htk := List.take_succ_eq_append_getElem hjc
    rw [c3, he]
    generalize L[j] = v at *
    have hvi : v.toNat < (p'.to Bool).length := by omega
    have hz := hp'.size hvi
    have hset := set_full hp' hvi (xs := [D.bool true]) (x := true) rfl (ok_bool true) rfl
    refine ⟨c1, ⟨c2, c1.2.2⟩, fun hs => ⟨⟨hcz, .inr rfl, by simp only [len_slc, List.length_cons, List.length_nil]; omega, by simp only [len_slc, List.length_cons, List.length_nil]; omega⟩, fun hs1 => ⟨⟨hv.1, by omega, hz⟩, ⟨by omega, by rw [hz]; exact Nat.le_refl 1, hz⟩, ?_⟩⟩⟩
    have hap : (D.slc (hs1 0 0).hd 2 (List.append (D.rows c) (D.rows (D.slc (hs 0 0).hd 2 [[D.int IntKind.i64 1, D.int IntKind.i64 v]])))).Is Ev ∧ (D.slc (hs1 0 0).hd 2 (List.append (D.rows c) (D.rows (D.slc (hs 0 0).hd 2 [[D.int IntKind.i64 1, D.int IntKind.i64 v]])))).to Ev = c.to Ev ++ [⟨1, v⟩] :=
      is_of rfl ⟨fun r hr => by
        rcases List.mem_append.1 hr with h | h
        · exact (rows_of hc).1 r h
        · rw [List.mem_singleton.1 h]; exact ⟨_, _, rfl⟩, by simp only [append_list, List.map_append, (rows_of hc).2]; rfl⟩
    have := ih (j + 1, p'.setCells v.toNat 0 [D.bool true], _) ⟨hjc, ⟨hset.1, by rw [hset.2, List.length_set]; exact hpl⟩, hap.1, by
      rw [hap.2, hct, htk, List.map_append, List.append_assoc]; rfl, rfl⟩ (by simp only; omega)
    simp only at this
    rw [← wrap_succ hjc (by omega)] at this
    exact this
  · have : j = L.length := by have := of_decide_eq_false hjc; rw [hl.2] at ll; omega
    subst this
    rw [List.take_length] at hct
    exact ret_grLI (stands_gr (stands_dat ha.1 ha.2) (stands_dat hu.1 hu.2) (stands_dat hc hct) stands_nils stands_nils (fun _ => rfl) rfl) (stands_dat hl.1 hl.2) rfl
end Go.Proofs.Ytodhhmjilnfecaa
end
section
open Go Go.Proofs Sx
namespace Go.Proofs.Ytodhhmjilnfecaa
set_option maxRecDepth 100000
set_option maxHeartbeats 0
noncomputable def ctRX : Ctrs := [(31, ctrOf (rdGr.one.sp spCkG)), (42, ctrOf ((rdHi.two rdWt).sp spIssueH)), (43, oCtr (spCpd 3)), (49, oCtr (spWo 3)), (47, ctrOf ((rdD.two rdInt).sp spHas)), (48, ctrOf (rdHi.one.sp spCopy)),
 (50, ctrOf ((rdHi.two rdInt).sp spAckH)), (58, ctrOf ((rdHi.two rdInt).sp spAckd)), (34, ctrOf (rdInt.one.sp spFst)), (52, ctrOf ((rdD.two rdD).sp spInts)), (59, ctrOf ((rdHi.two rdD).sp spRest))]
section
variable (ha hb hc wt hd d : D) (fz : Bool) (v s n : Int)
theorem ris_in : exec Try.prog ctRX 300 (entry Try.prog 14 [.agg [.dat ha, .dat hb, .dat hc, .dat wt, .dat hd, .bool fz], .agg [.int .i64 v, .int .i64 s, .dat d]]) =
 Tree.need (GrD.Right (GrD.mk (HiD.mk ha hb hc) wt hd fz))
 (.br (openErr (GrD.gr (GrD.mk (HiD.mk ha hb hc) wt hd fz)) != 0)
 (.ret
 (SV.tup
 [.agg [.nils, .nils, .nils, .nils, .nils, .lb false], .int .i64 0,
 .int .i64 (openErr (GrD.gr (GrD.mk (HiD.mk ha hb hc) wt hd fz)))]))
 (.need (HiD.Right (HiD.mk ha hb hc) ∧ D.len hc ≤ 1000000 ∧ WtD.Ok (WtD.mk v s d))
 (.all fun hs =>
 .br (Prod.snd (Prod.snd (issueH (HiD.hist (HiD.mk ha hb hc)) (WtD.wt (WtD.mk v s d)))) != 0)
 (.ret
 (SV.tup
 [.agg [.nils, .nils, .nils, .nils, .nils, .lb false], .int .i64 0,
 .int .i64
 (Prod.snd (Prod.snd (issueH (HiD.hist (HiD.mk ha hb hc)) (WtD.wt (WtD.mk v s d)))))]))
 (.all fun hs_1 =>
 .need
 (D.Is Int wt ∧
 D.Is Int
 (D.slc (D.hd (hs_1 4 0)) 1
 [[D.int .i64
 (Prod.fst (Prod.snd (issueH (HiD.hist (HiD.mk ha hb hc)) (WtD.wt (WtD.mk v s d)))))]]) ∧
 D.len wt ≤ 1048576 ∧
 D.len
 (D.slc (D.hd (hs_1 4 0)) 1
 [[D.int .i64
 (Prod.fst (Prod.snd (issueH (HiD.hist (HiD.mk ha hb hc)) (WtD.wt (WtD.mk v s d)))))]]) ≤
 1048576)
 (.need (D.Is Int hd ∧ D.Is Int (D.slc none 0 []) ∧ D.len hd ≤ 1048576 ∧ 0 ≤ 1048576)
 (.ret
 (SV.tup
 [.agg
 [.dat
 (D.like (hs 0 0)
 (Hist.sizes (Prod.fst (issueH (HiD.hist (HiD.mk ha hb hc)) (WtD.wt (WtD.mk v s d)))))),
 .dat
 (D.like (hs 0 1)
 (Hist.writes (Prod.fst (issueH (HiD.hist (HiD.mk ha hb hc)) (WtD.wt (WtD.mk v s d)))))),
 .dat
 (D.like (hs 0 2)
 (Hist.events (Prod.fst (issueH (HiD.hist (HiD.mk ha hb hc)) (WtD.wt (WtD.mk v s d)))))),
 .dat
 (D.slc (D.hd (hs_1 5 0)) 1
 (List.map (fun n => [D.int .i64 n])
 (List.append (D.to Int wt)
 (D.to Int
 (D.slc (D.hd (hs_1 4 0)) 1
 [[D.int .i64
 (Prod.fst
 (Prod.snd
 (issueH (HiD.hist (HiD.mk ha hb hc)) (WtD.wt (WtD.mk v s d)))))]]))))),
 .dat
 (D.slc (D.hd (hs_1 8 0)) 1
 (List.map (fun n => [D.int .i64 n])
 (List.append (D.to Int hd) (D.to Int (D.slc none 0 []))))),
 .bool fz],
 .int .i64
 (Prod.fst (Prod.snd (issueH (HiD.hist (HiD.mk ha hb hc)) (WtD.wt (WtD.mk v s d))))),
 .int .i64 0]))))))) := by kernel_rfl

theorem rdu_in : exec Try.prog ctRX 300 (entry Try.prog 16 [.agg [.dat ha, .dat hb, .dat hc, .dat wt, .dat hd, .bool fz], .int .i64 n]) =
 Tree.need (GrD.Right (GrD.mk (HiD.mk ha hb hc) wt hd fz))
 (.br (openErr (GrD.gr (GrD.mk (HiD.mk ha hb hc) wt hd fz)) != 0)
 (.ret
 (SV.tup
 [.agg [.nils, .nils, .nils, .nils, .nils, .lb false], .nils,
 .int .i64 (openErr (GrD.gr (GrD.mk (HiD.mk ha hb hc) wt hd fz)))]))
 (.need (D.Is Int wt ∧ D.len wt ≤ 1048576)
 (.br (!List.contains (D.to Int wt) n)
 (.ret
 (SV.tup [.agg [.nils, .nils, .nils, .nils, .nils, .lb false], .nils, .int .i64 7]))
 (.all fun hs =>
 .need (HiD.Right (HiD.mk ha hb hc))
 (.need (D.Is Int wt ∧ D.len wt ≤ 1048576)
 (.need (D.Is Int hd ∧ D.Is Int (D.slc none 0 []) ∧ D.len hd ≤ 1048576 ∧ 0 ≤ 1048576)
 (.br fz
 (.all fun hs_1 =>
 .need
 (D.Is Int hd ∧
 D.Is Int (D.slc (D.hd (hs_1 0 0)) 1 [[D.int .i64 n]]) ∧
 D.len hd ≤ 1048576 ∧ D.len (D.slc (D.hd (hs_1 0 0)) 1 [[D.int .i64 n]]) ≤ 1048576)
 (.all fun hs_2 =>
 .ret
 (SV.tup
 [.agg
 [.dat (D.like (hs 2 0) (D.to Int ha)), .dat (D.like (hs 2 1) (D.to Wt hb)),
 .dat (D.like (hs 2 2) (D.to Ev hc)),
 .dat
 (D.slc (D.hd (hs 6 0)) 1
 (List.map (fun n => [D.int .i64 n]) (withoutI (D.to Int wt) n))),
 .dat
 (D.slc (D.hd (hs_2 0 0)) 1
 (List.map (fun n => [D.int .i64 n])
 (List.append (D.to Int hd)
 (D.to Int (D.slc (D.hd (hs_1 0 0)) 1 [[D.int .i64 n]]))))),
 .bool fz],
 .nils, .int .i64 0])))
 (.need (HiD.Right (HiD.mk ha hb hc) ∧ D.len hc ≤ 1000000)
 (.all fun hs_1 =>
 .all fun hs_2 =>
 .ret
 (SV.tup
 [.agg
 [.dat
 (D.like (hs_1 0 0) (Hist.sizes (Prod.fst (ackH (HiD.hist (HiD.mk ha hb hc)) n)))),
 .dat
 (D.like (hs_1 0 1) (Hist.writes (Prod.fst (ackH (HiD.hist (HiD.mk ha hb hc)) n)))),
 .dat
 (D.like (hs_1 0 2) (Hist.events (Prod.fst (ackH (HiD.hist (HiD.mk ha hb hc)) n)))),
 .dat
 (D.slc (D.hd (hs 6 0)) 1
 (List.map (fun n => [D.int .i64 n]) (withoutI (D.to Int wt) n))),
 .dat
 (D.slc (D.hd (hs 9 0)) 1
 (List.map (fun n => [D.int .i64 n])
 (List.append (D.to Int hd) (D.to Int (D.slc none 0 []))))),
 .bool fz],
 .dat (D.slc (D.hd (hs_2 0 0)) 1 [[D.int .i64 n]]),
 .int .i64 0])))))))))) := by kernel_rfl

theorem rfz_in : exec Try.prog ctRX 300 (entry Try.prog 20 [.agg [.dat ha, .dat hb, .dat hc, .dat wt, .dat hd, .bool fz]]) =
 Tree.need (GrD.Right (GrD.mk (HiD.mk ha hb hc) wt hd fz))
 (.br (openErr (GrD.gr (GrD.mk (HiD.mk ha hb hc) wt hd fz)) != 0)
 (.ret
 (SV.tup
 [.agg [.nils, .nils, .nils, .nils, .nils, .lb false], .int .i64 0,
 .int .i64 (openErr (GrD.gr (GrD.mk (HiD.mk ha hb hc) wt hd fz)))]))
 (.br fz
 (.ret
 (SV.tup
 [.agg [.nils, .nils, .nils, .nils, .nils, .lb false], .int .i64 0,
 .int .i64 26]))
 (.all fun hs =>
 .need (HiD.Right (HiD.mk ha hb hc))
 (.need (D.Is Int wt ∧ D.Is Int (D.slc none 0 []) ∧ D.len wt ≤ 1048576 ∧ 0 ≤ 1048576)
 (.ret
 (SV.tup
 [.agg
 [.dat (D.like (hs 2 0) (D.to Int ha)), .dat (D.like (hs 2 1) (D.to Wt hb)),
 .dat (D.like (hs 2 2) (D.to Ev hc)),
 .dat
 (D.slc (D.hd (hs 5 0)) 1
 (List.map (fun n => [D.int .i64 n])
 (List.append (D.to Int wt) (D.to Int (D.slc none 0 []))))),
 .nils, .lb true],
 .int .i64 (↑(D.len hb) : Int), .int .i64 0])))))) := by kernel_rfl

theorem rth_in : exec Try.prog ctRX 300 (entry Try.prog 22 [.agg [.dat ha, .dat hb, .dat hc, .dat wt, .dat hd, .bool fz]]) =
 Tree.need (GrD.Right (GrD.mk (HiD.mk ha hb hc) wt hd fz))
 (.br (openErr (GrD.gr (GrD.mk (HiD.mk ha hb hc) wt hd fz)) != 0)
 (.ret
 (SV.tup
 [.agg [.nils, .nils, .nils, .nils, .nils, .lb false], .nils,
 .int .i64 (openErr (GrD.gr (GrD.mk (HiD.mk ha hb hc) wt hd fz)))]))
 (.br (!fz)
 (.ret
 (SV.tup [.agg [.nils, .nils, .nils, .nils, .nils, .lb false], .nils, .int .i64 12]))
 (.need (HiD.Right (HiD.mk ha hb hc))
 (.all fun hs =>
 .leaf
 (Conf.mk
 (SFrm.mk 22 none none
 [Item.inLoop (cAt Try.prog 22 [1, 1, 1, 1, 0, 1, 0, 0]), Item.inBlock 0,
 Item.code (cAt Try.prog 22 [1, 1, 1, 1, 1])]
 (mkJ 0 [(1, .ptr 0 0), (2, .ptr 1 0), (6, .ptr 2 0), (7, .int .i64 0)] 0 46))
 []
 [(0, OBlk.cells 28 [.dat ha, .dat hb, .dat hc, .dat wt, .dat hd, .bool fz]),
 (1, OBlk.cells 28 [.nils, .nils, .nils, .nils, .nils, .lb false]),
 (2,
 OBlk.cells 26
 [.dat (D.like (hs 0 0) (D.to Int ha)), .dat (D.like (hs 0 1) (D.to Wt hb)),
 .dat (D.like (hs 0 2) (D.to Ev hc))])]))))) := by kernel_rfl

theorem rrc_in : exec Try.prog ctRX 300 (entry Try.prog 24 [.agg [.dat ha, .dat hb, .dat hc, .dat wt, .dat hd, .bool fz], .dat d]) =
 Tree.need (GrD.Right (GrD.mk (HiD.mk ha hb hc) wt hd fz))
 (.br (openErr (GrD.gr (GrD.mk (HiD.mk ha hb hc) wt hd fz)) != 0)
 (.ret
 (SV.tup
 [.agg [.nils, .nils, .nils, .nils, .nils, .lb false], .nils,
 .int .i64 (openErr (GrD.gr (GrD.mk (HiD.mk ha hb hc) wt hd fz)))]))
 (.br (decide ((↑(D.len d) : Int) > (↑(D.len hb) : Int)))
 (.ret
 (SV.tup [.agg [.nils, .nils, .nils, .nils, .nils, .lb false], .nils, .int .i64 27]))
 (.need ((↑(D.len d) : Int) ≤ 1000000)
 (.all fun hs =>
 .need (D.Is Int d ∧ D.Is Int (D.like (hs 0 0) (firstN (↑(D.len d) : Int))) ∧ D.len d ≤ 1048576)
 (.br (!decide (D.to Int d = D.to Int (D.like (hs 0 0) (firstN (↑(D.len d) : Int)))))
 (.ret
 (SV.tup
 [.agg [.nils, .nils, .nils, .nils, .nils, .lb false], .nils, .int .i64 27]))
 (.leaf
 (Conf.mk
 (SFrm.mk 24 none none
 [Item.inLoop (cAt Try.prog 24 [1, 1, 1, 1, 0, 1, 0, 0]), Item.inBlock 0,
 Item.code (cAt Try.prog 24 [1, 1, 1, 1, 1])]
 (mkJ 0
 [(1, .dat d), (2, .ptr 0 0), (4, .ptr 1 0), (8, .int .i64 (↑(D.len d) : Int)),
 (9, .int .i64 (↑(D.len d) : Int))]
 0 79))
 []
 [(0, OBlk.cells 28 [.dat ha, .dat hb, .dat hc, .dat wt, .dat hd, .bool fz]),
 (1, OBlk.cells 28 [.nils, .nils, .nils, .nils, .nils, .lb false])]))))))) := by kernel_rfl

end
end Go.Proofs.Ytodhhmjilnfecaa
end
section
open Go Go.Proofs Sx
namespace Go.Proofs.Ytodhhmjilnfecaa
set_option maxRecDepth 100000
set_option maxHeartbeats 0
noncomputable def rthL (ha hb hc wt hd a b c : D) (fz : Bool) (j : Int) : Conf := Conf.mk (SFrm.mk 22 none none [Item.inLoop (cAt Try.prog 22 [1, 1, 1, 1, 0, 1, 0, 0]), Item.inBlock 0, Item.code (cAt Try.prog 22 [1, 1, 1, 1, 1])] (mkJ 0 [(1, .ptr 0 0), (2, .ptr 1 0), (6, .ptr 2 0), (7, .int .i64 j)] 0 46)) [] [(0, OBlk.cells 28 [.dat ha, .dat hb, .dat hc, .dat wt, .dat hd, .bool fz]), (1, OBlk.cells 28 [.nils, .nils, .nils, .nils, .nils, .lb false]), (2, OBlk.cells 26 [.dat a, .dat b, .dat c])]
noncomputable def rrcA (ha hb hc wt hd d : D) (fz : Bool) (p j : Int) : Conf := Conf.mk (SFrm.mk 24 none none [Item.inLoop (cAt Try.prog 24 [1, 1, 1, 1, 0, 1, 0, 0]), Item.inBlock 0, Item.code (cAt Try.prog 24 [1, 1, 1, 1, 1])] (mkJ 0 [(1, .dat d), (2, .ptr 0 0), (4, .ptr 1 0), (8, .int .i64 p), (9, .int .i64 j)] 0 79)) [] [(0, OBlk.cells 28 [.dat ha, .dat hb, .dat hc, .dat wt, .dat hd, .bool fz]), (1, OBlk.cells 28 [.nils, .nils, .nils, .nils, .nils, .lb false])]
section
variable (ha hb hc wt hd a b c d : D) (fz : Bool) (p j : Int)
theorem rth_go : exec Try.prog ctRX 300 (unroll (rthL ha hb hc wt hd a b c fz j)) =
 Tree.br (decide (j < (↑(D.len hd) : Int)))
 (.all fun hs =>
 .need (0 ≤ j ∧ j < (↑(D.len hd) : Int) ∧ D.sz hd = 1)
 (.need (D.HasCell hd (Int.toNat j) 0 (FT.int .i64))
 (.need (HiD.Right (HiD.mk a b c) ∧ D.len c ≤ 1000000)
 (.leaf
 (Conf.mk
 (SFrm.mk 22 none none
 [Item.inLoop (cAt Try.prog 22 [1, 1, 1, 1, 0, 1, 0, 0]), Item.inBlock 0,
 Item.code (cAt Try.prog 22 [1, 1, 1, 1, 1])]
 (mkJ 0
 [(1, .ptr 0 0), (2, .ptr 1 0), (6, .ptr 2 0),
 (7, .int .i64 (IntKind.wrap .i64 (j + 1)))]
 0 46))
 []
 [(0, OBlk.cells 28 [.dat ha, .dat hb, .dat hc, .dat wt, .dat hd, .bool fz]),
 (1, OBlk.cells 28 [.nils, .nils, .nils, .nils, .nils, .lb false]),
 (2,
 OBlk.cells 26
 [.dat
 (D.like (hs 6 0)
 (Hist.sizes (Prod.fst (ackH (HiD.hist (HiD.mk a b c)) (D.getInt hd (Int.toNat j) 0))))),
 .dat
 (D.like (hs 6 1)
 (Hist.writes (Prod.fst (ackH (HiD.hist (HiD.mk a b c)) (D.getInt hd (Int.toNat j) 0))))),
 .dat
 (D.like (hs 6 2)
 (Hist.events
 (Prod.fst (ackH (HiD.hist (HiD.mk a b c)) (D.getInt hd (Int.toNat j) 0)))))])])))))
 (.all fun hs =>
 .need (D.Is Int wt ∧ D.Is Int (D.slc none 0 []) ∧ D.len wt ≤ 1048576 ∧ 0 ≤ 1048576)
 (.need (D.Is Int hd ∧ D.Is Int (D.slc none 0 []) ∧ D.len hd ≤ 1048576 ∧ 0 ≤ 1048576)
 (.ret
 (SV.tup
 [.agg
 [.dat a, .dat b, .dat c,
 .dat
 (D.slc (D.hd (hs 3 0)) 1
 (List.map (fun n => [D.int .i64 n])
 (List.append (D.to Int wt) (D.to Int (D.slc none 0 []))))),
 .nils, .lb false],
 .dat
 (D.slc (D.hd (hs 7 0)) 1
 (List.map (fun n => [D.int .i64 n]) (List.append (D.to Int hd) (D.to Int (D.slc none 0 []))))),
 .int .i64 0])))) := by kernel_rfl

theorem rrca_go : exec Try.prog ctRX 300 (unroll (rrcA ha hb hc wt hd d fz p j)) =
 Tree.br (decide (j < (↑(D.len hb) : Int)))
 (.need (D.Is Ev hc ∧ D.len hc ≤ 1048576)
 (.br (decide (atEv (D.to Ev hc) (Ev.mk 1 j) ≥ 0))
 (.ret
 (SV.tup [.agg [.nils, .nils, .nils, .nils, .nils, .lb false], .nils, .int .i64 27]))
 (.leaf
 (Conf.mk
 (SFrm.mk 24 none none
 [Item.inLoop (cAt Try.prog 24 [1, 1, 1, 1, 0, 1, 0, 0]), Item.inBlock 0,
 Item.code (cAt Try.prog 24 [1, 1, 1, 1, 1])]
 (mkJ 0
 [(1, .dat d), (2, .ptr 0 0), (4, .ptr 1 0), (8, .int .i64 p),
 (9, .int .i64 (IntKind.wrap .i64 (j + 1)))]
 0 79))
 []
 [(0, OBlk.cells 28 [.dat ha, .dat hb, .dat hc, .dat wt, .dat hd, .bool fz]),
 (1, OBlk.cells 28 [.nils, .nils, .nils, .nils, .nils, .lb false])]))))
 (.need (HiD.Right (HiD.mk ha hb hc) ∧ D.Is Int d ∧ D.len d ≤ 1048576)
 (.all fun hs =>
 .leaf
 (Conf.mk
 (SFrm.mk 24 none none
 [Item.inLoop (cAt Try.prog 24 [1, 1, 1, 1, 1, 1, 1, 0, 1, 0, 0]), Item.inBlock 2,
 Item.code (cAt Try.prog 24 [1, 1, 1, 1, 1, 1, 1, 1])]
 (mkJ 0
 [(4, .ptr 0 0), (8, .int .i64 p), (10, .ptr 1 0), (12, .nils), (13, .int .i64 0)]
 0 79))
 []
 [(0, OBlk.cells 28 [.nils, .nils, .nils, .nils, .nils, .lb false]),
 (1,
 OBlk.cells 26
 [.dat (D.like (hs 0 0) (Hist.sizes (Prod.fst (restrictH (HiD.hist (HiD.mk ha hb hc)) (D.to Int d))))),
 .dat
 (D.like (hs 0 1) (Hist.writes (Prod.fst (restrictH (HiD.hist (HiD.mk ha hb hc)) (D.to Int d))))),
 .dat
 (D.like (hs 0 2)
 (Hist.events (Prod.fst (restrictH (HiD.hist (HiD.mk ha hb hc)) (D.to Int d)))))])]))) := by kernel_rfl

end
end Go.Proofs.Ytodhhmjilnfecaa
end
section
open Go Go.Proofs Sx
namespace Go.Proofs.Ytodhhmjilnfecaa
set_option maxRecDepth 100000
set_option maxHeartbeats 0
noncomputable def rrcB (a b c r : D) (p j : Int) : Conf := Conf.mk (SFrm.mk 24 none none [Item.inLoop (cAt Try.prog 24 [1, 1, 1, 1, 1, 1, 1, 0, 1, 0, 0]), Item.inBlock 2, Item.code (cAt Try.prog 24 [1, 1, 1, 1, 1, 1, 1, 1])] (mkJ 0 [(4, .ptr 0 0), (8, .int .i64 p), (10, .ptr 1 0), (12, .vec 2), (13, .int .i64 j)] 0 79)) [] [(0, OBlk.cells 28 [.nils, .nils, .nils, .nils, .nils, .lb false]), (1, OBlk.cells 26 [.dat a, .dat b, .dat c]), (2, OBlk.arr 3 r)]
section
variable (a b c r : D) (p j : Int)
theorem rrcb_go : exec Try.prog ctRX 300 (unroll (rrcB a b c r p j)) =
 Tree.br (decide (j < p))
 (.need (D.Is Ev c ∧ D.len c ≤ 1048576)
 (.br (!decide (atEv (D.to Ev c) (Ev.mk 1 j) ≥ 0))
 (.need (HiD.Right (HiD.mk a b c) ∧ D.len c ≤ 1000000)
 (.all fun hs =>
 .all fun hs_1 =>
 .need
 (D.sz r = 1 ∧
 D.Fits (D.slc (D.hd (hs_1 0 0)) 1 [[D.int .i64 j]]) 1 ∧
 (D.len r + D.len (D.slc (D.hd (hs_1 0 0)) 1 [[D.int .i64 j]])) * 8 ≤ 140737488355328 ∧
 D.len r + D.len (D.slc (D.hd (hs_1 0 0)) 1 [[D.int .i64 j]]) ≤ 9223372036854775807)
 (.all fun hs_2 =>
 .leaf
 (Conf.mk
 (SFrm.mk 24 none none
 [Item.inLoop (cAt Try.prog 24 [1, 1, 1, 1, 1, 1, 1, 0, 1, 0, 0]), Item.inBlock 2,
 Item.code (cAt Try.prog 24 [1, 1, 1, 1, 1, 1, 1, 1])]
 (mkJ 0
 [(4, .ptr 0 0), (8, .int .i64 p), (10, .ptr 1 0), (12, .vec 2),
 (13, .int .i64 (IntKind.wrap .i64 (j + 1)))]
 0 79))
 []
 [(0, OBlk.cells 28 [.nils, .nils, .nils, .nils, .nils, .lb false]),
 (1,
 OBlk.cells 26
 [.dat (D.like (hs 0 0) (Hist.sizes (Prod.fst (ackH (HiD.hist (HiD.mk a b c)) j)))),
 .dat (D.like (hs 0 1) (Hist.writes (Prod.fst (ackH (HiD.hist (HiD.mk a b c)) j)))),
 .dat (D.like (hs 0 2) (Hist.events (Prod.fst (ackH (HiD.hist (HiD.mk a b c)) j))))]),
 (2,
 OBlk.arr 3
 (D.slc (D.hd (hs_2 0 0)) 1
 (List.append (D.rows r) (D.rows (D.slc (D.hd (hs_1 0 0)) 1 [[D.int .i64 j]])))))]))))
 (.leaf
 (Conf.mk
 (SFrm.mk 24 none none
 [Item.inLoop (cAt Try.prog 24 [1, 1, 1, 1, 1, 1, 1, 0, 1, 0, 0]), Item.inBlock 2,
 Item.code (cAt Try.prog 24 [1, 1, 1, 1, 1, 1, 1, 1])]
 (mkJ 0
 [(4, .ptr 0 0), (8, .int .i64 p), (10, .ptr 1 0), (12, .vec 2),
 (13, .int .i64 (IntKind.wrap .i64 (j + 1)))]
 0 79))
 []
 [(0, OBlk.cells 28 [.nils, .nils, .nils, .nils, .nils, .lb false]),
 (1, OBlk.cells 26 [.dat a, .dat b, .dat c]), (2, OBlk.arr 3 r)]))))
 (.ret
 (SV.tup [.agg [.dat a, .dat b, .dat c, .nils, .nils, .lb false], .dat r, .int .i64 0])) := by kernel_rfl

end
end Go.Proofs.Ytodhhmjilnfecaa
end
section
open Go Go.Proofs Sx
namespace Sx
theorem shift_getD {P : Program} {C : Ctx} {R : Value → World → Prop} (B : Nat) {c : Conf} (h : Runs P C ((shiftC B c).getD c) R) : Runs P C c R := by
  cases hs : shiftC B c with
  | none => rw [hs] at h; exact h
  | some c' => rw [hs] at h; exact shift_to B c' hs h
def keepE (n : Int) (l : List Ev) : List Ev := l.filter fun x => !decide (x.write ≥ n)
theorem keepE_succ {n : Int} {l : List Ev} {j : Nat} (hj : j < l.length) : keepE n (l.take (j + 1)) = if l[j].write ≥ n then keepE n (l.take j) else keepE n (l.take j) ++ [l[j]] := by
  unfold keepE
  rw [List.take_succ_eq_append_getElem hj, List.filter_append]
  by_cases h : l[j].write ≥ n
  · rw [if_pos h]; simp [List.filter_cons, h]
  · rw [if_neg h]; simp [List.filter_cons, h]
theorem una_ints (l : List Int) (h : Hd) : (D.slc h 1 (l.map fun n => [D.int .i64 n])).Is Int ∧ (D.slc h 1 (l.map fun n => [D.int .i64 n])).to Int = l := by
  refine ⟨⟨_, _, _, rfl, .inr rfl, fun r hr => ?_⟩, ?_⟩
  · obtain ⟨n, _, rfl⟩ := List.mem_map.1 hr; exact ⟨n, rfl⟩
  · simp only [D.to, D.rows, List.map_map]
    conv => rhs; rw [← List.map_id l]
    exact List.map_congr_left fun n _ => rfl
end Sx
namespace Go.Proofs.Ytodhhmjilnfecaa
set_option maxRecDepth 100000
set_option maxHeartbeats 0
section
variable {H : HV} {w : World} {R : Value → World → Prop} {N : Nat} {u p a x y : D} {fz : Bool} {E0 : List Ev} (hp : p.Is Bool) (hN : N ≤ p.len) (hpl : p.len ≤ 1048576) (hE : E0.length ≤ 1048576)
  (next : ∀ l q : D, (l.Is Int ∧ l.to Int = unackN (p.to Bool) N) → (q.Is Ev ∧ q.to Ev = keepE N E0 ∧ q.sz = 2) → Runs Try.prog ⟨w, H⟩ (eaA l u p a q) R)
include hp hN hpl hE next
theorem del_end {c : D} {i : Nat} (hc : c.Is Ev) (hz : c.sz = 2) (hi : i ≤ c.len) (hcl : c.len ≤ 1048576) (ht : (c.to Ev).take i = keepE N E0) : Runs Try.prog ⟨w, H⟩ (dfE N u c p a x y fz i) R := by
  apply shift_getD 2000
  refine goS_sound ctGrOk (fun _ => false) [(53, 6)] 300 _ ?_
  rw [ds_go]
  have hr : ∀ k : Nat, k ≤ c.len → (D.slc (D.hd c) (D.sz c) (List.append (List.take (Int.toNat (i : Int)) (D.rows c)) (List.append (List.replicate (D.len c - Int.toNat (i : Int)) [D.int IntKind.i64 0, D.int IntKind.i64 0]) (List.drop (Int.toNat (i : Int) + (D.len c - Int.toNat (i : Int))) (D.rows c))))).len = c.len := fun k hk => by
    simp only [len_slc, append_list, List.length_append, List.length_take, List.length_replicate, List.length_drop, Int.toNat_natCast]
    unfold D.len at hi ⊢; omega
  refine ⟨⟨by omega, by omega, hc.fits⟩, ⟨rfl, hz, by omega, by omega⟩, ⟨by omega, by rw [hr 0 (Nat.zero_le _)]; omega, .inr hz⟩, fun hs => ⟨⟨hp, by omega, by omega, hpl⟩, ?_⟩⟩
  refine next _ _ (una_ints _ _) ?_
  have e : List.take (Int.toNat (i : Int)) (D.rows (D.slc (D.hd c) (D.sz c) (List.append (List.take (Int.toNat (i : Int)) (D.rows c)) (List.append (List.replicate (D.len c - Int.toNat (i : Int)) [D.int IntKind.i64 0, D.int IntKind.i64 0]) (List.drop (Int.toNat (i : Int) + (D.len c - Int.toNat (i : Int))) (D.rows c)))))) = (D.rows c).take i := by
    rw [rows_slc, append_list, Int.toNat_natCast, List.take_append_of_le_length (by rw [List.length_take]; unfold D.len at hi; omega), List.take_take, Nat.min_self]
  rw [e]
  have hr2 := rows_of hc
  refine ⟨?_, ?_, hz⟩
  · exact is_rows hz fun r hr => hr2.1 r (List.mem_of_mem_take hr)
  · rw [← ht, to_slc, List.map_take, hr2.2]
theorem del_loop {c : D} {i j : Nat} (hc : c.Is Ev) (hz : c.sz = 2) (hcl : (c.to Ev).length = E0.length) (hij : i ≤ j) (hj : j ≤ E0.length) (ht : (c.to Ev).take i = keepE N (E0.take j)) (hd : (c.to Ev).drop j = E0.drop j) :
    Runs Try.prog ⟨w, H⟩ (dfL N u c p a x y fz i j) R := by
  refine runs_loop (fun s : D × Nat × Nat => dfL N u s.1 p a x y fz s.2.1 s.2.2) (fun s => s.1.Is Ev ∧ s.1.sz = 2 ∧ (s.1.to Ev).length = E0.length ∧ s.2.1 ≤ s.2.2 ∧ s.2.2 ≤ E0.length ∧ (s.1.to Ev).take s.2.1 = keepE N (E0.take s.2.2) ∧ (s.1.to Ev).drop s.2.2 = E0.drop s.2.2)
    (fun s => E0.length - s.2.2) (fun _ => rfl) ?_ (c, i, j) ⟨hc, hz, hcl, hij, hj, ht, hd⟩
  rintro ⟨c, i, j⟩ ⟨hc, hz, hcl, hij, hj, ht, hd⟩ ih
  simp only at hc hz hcl hij hj ht hd ih ⊢
  have cl := D.Is.length (α := Ev) c
  apply goS_sound ctGrOk (fun _ => false) [(55, 36)] 300
  rw [df_go]
  refine ⟨fun h1 => ?_, fun h1 => ?_⟩
  · have h1 : j < E0.length := by have := of_decide_eq_true h1; omega
    have h2 : j < (c.to Ev).length := by omega
    obtain ⟨c1, c2, c3⟩ := ev_cell hc h2
    have hx : (c.to Ev)[j] = E0[j] := by
      have e1 : ((c.to Ev).drop j)[0]? = (E0.drop j)[0]? := by rw [hd]
      simpa [h1, h2] using e1
    have wi : IntKind.i64.wrap ((i : Int) + 1) = ((i + 1 : Nat) : Int) := wrap_succ (n := E0.length) (by omega) hE
    have wj : IntKind.i64.wrap ((j : Int) + 1) = ((j + 1 : Nat) : Int) := wrap_succ h1 hE
    have sn := keepE_succ (n := (N : Int)) h1
    rw [wi, wj, Int.toNat_natCast j, c2, c3, hx]
    have hdd : (c.to Ev).drop (j + 1) = E0.drop (j + 1) := by
      have := congrArg (List.drop 1) hd
      simpa [List.drop_drop, Nat.add_comm] using this
    refine ⟨⟨by omega, by omega, hz⟩, ⟨c1, hz⟩, fun hk => ⟨⟨by omega, by omega, hz⟩, ⟨by rw [Int.toNat_natCast]; omega, by omega, hz⟩, ?_⟩, fun hk => ?_⟩
    · have hk : ¬(E0[j].write ≥ (N : Int)) := by simpa using hk
      rw [if_neg hk] at sn
      have hset := set_full (α := Ev) hc (i := i) (by omega) (xs := [D.int .i64 E0[j].kind, D.int .i64 E0[j].write]) (x := E0[j]) rfl ⟨_, _, rfl⟩ rfl
      refine ih (c.setCells i 0 [D.int .i64 E0[j].kind, D.int .i64 E0[j].write], i + 1, j + 1) ⟨hset.1, hz, by rw [hset.2, List.length_set]; exact hcl, by show i + 1 ≤ j + 1; omega, h1, ?_, ?_⟩ (by simp only; omega)
      · rw [hset.2, sn, ← ht]
        have hi2 : i < ((c.to Ev).set i E0[j]).length := by rw [List.length_set]; omega
        rw [List.take_succ_eq_append_getElem hi2, List.take_set_of_le (Nat.le_refl _), List.getElem_set_self]
      · rw [hset.2, List.drop_set_of_lt (show i < j + 1 by omega)]; exact hdd
    · have hk : E0[j].write ≥ (N : Int) := by simpa using hk
      rw [if_pos hk] at sn
      exact ih (c, i, j + 1) ⟨hc, hz, hcl, by show i ≤ j + 1; omega, h1, by rw [sn]; exact ht, hdd⟩ (by simp only; omega)
  · have h1 : j = E0.length := by have := of_decide_eq_false h1; omega
    subst h1
    rw [List.take_length] at ht
    exact del_end hp hN hpl hE next hc hz (by omega) (by omega) ht
end
end Go.Proofs.Ytodhhmjilnfecaa
end
section
open Go
namespace Sx
theorem firstN_len (p : Nat) : (firstN (p : Int)).length = p := by simp [firstN]
theorem firstN_get {p k : Nat} (hk : k < (firstN (p : Int)).length) : (firstN (p : Int))[k] = (k : Int) := by simp [firstN]
theorem firstN_mem {p : Nat} {x : Int} : x ∈ firstN (p : Int) ↔ 0 ≤ x ∧ x < p := by
  rw [firstN_filt (Nat.le_refl p), filtN_mem]; simp
theorem firstN_set {p n : Nat} (h : p ≤ n) : setH (firstN (p : Int)) n = true := by rw [firstN_filt h]; exact filtN_set
theorem pickW_first {ws : List Wt} {p : Nat} (h : p ≤ ws.length) : pickW ws (firstN (p : Int)) = ws.take p := by
  apply List.ext_getElem
  · rw [pickW_len, firstN_len, List.length_take]; omega
  · intro i h1 h2
    rw [pickW_len, firstN_len] at h1
    simp only [pickW, List.getElem_map, firstN_get, Int.toNat_natCast, List.getElem_take]
    rw [List.getD_eq_getElem?_getD, List.getElem?_eq_getElem (by omega)]; rfl
theorem restE_first {p n : Nat} (h : p ≤ n) : ∀ {l : List Ev}, (∀ e, e ∈ l → 0 ≤ e.write) → restE (firstN (p : Int)) l = l.filter (fun x => !decide (x.write ≥ (p : Int)))
  | [], _ => rfl
  | e :: l, hl => by
    have h0 := hl e List.mem_cons_self
    rw [show e :: l = [e] ++ l from rfl, restE_app, restE_one, restE_first h (fun x hx => hl x (List.mem_cons_of_mem _ hx)), List.filter_append]
    congr 1
    rcases evR_cases (firstN_set h) e with ⟨hm, he⟩ | ⟨k, hk, hs, he⟩
    · rw [he]
      have : ¬(0 ≤ e.write ∧ e.write < (p : Int)) := fun hh => hm (firstN_mem.2 hh)
      rw [List.filter_cons, if_neg (by simp; omega)]; rfl
    · rw [he]
      rw [firstN_get hk] at hs
      rw [firstN_len] at hk
      rw [List.filter_cons, if_pos (by simp; omega), hs]; rfl
theorem restrict_first {h : Hist} (hc : (checkH h).1 = 0) {p : Nat} (hp : p ≤ h.writes.length) : restrictH h (firstN (p : Int)) = ((⟨h.sizes, h.writes.take p, h.events.filter (fun x => !decide (x.write ≥ (p : Int)))⟩ : Hist), (0 : Int)) := by
  have hcl := closedB_first hc hp
  unfold closedB at hcl
  simp only [Bool.and_eq_true] at hcl
  rw [rest_ok hc hcl.2.1 hcl.2.2, pickW_first hp, restE_first hp fun e he => (checkH_in hc e he).2.1]
def recHist (h : Hist) (p j : Nat) : Hist := ⟨h.sizes, h.writes.take p, h.events.filter (fun x => !decide (x.write ≥ (p : Int))) ++ (unackN (ackd h.writes.length h.events) j).map (Ev.mk 1)⟩
theorem unack_mem {l : List Bool} {j : Nat} {x : Int} : x ∈ unackN l j ↔ 0 ≤ x ∧ x < j ∧ l.getD x.toNat false = false := by
  unfold unackN; rw [filtN_mem]; simp
theorem unack_nodup (l : List Bool) (j : Nat) : (unackN l j).Nodup := by
  have := asc_pair (setH_iff.1 (filtN_set (n := j) (p := fun i => !l.getD i.toNat false))).1
  exact this.imp (by intro a b h; omega)
theorem unack_succ (l : List Bool) (j : Nat) : unackN l (j + 1) = if l.getD j false = true then unackN l j else unackN l j ++ [(j : Int)] := by
  unfold unackN
  rw [filtN_succ]
  simp only [Int.toNat_natCast, Bool.not_eq_true']
  cases l.getD j false <;> simp
section
variable {h : Hist} (hc : (checkH h).1 = 0) {p : Nat} (hp : p ≤ h.writes.length)
include hc hp
theorem recHist_check {j : Nat} (hj : j ≤ p) : (checkH (recHist h p j)).1 = 0 := by
  have hr := restrict_ok hc (firstN_set hp)
  rw [pickW_first hp, restE_first hp fun e he => (checkH_in hc e he).2.1] at hr
  refine (ackAll_go hr (unack_nodup _ j) fun n hn => ?_).2
  obtain ⟨h1, h2, h3⟩ := unack_mem.1 hn
  refine ⟨⟨h1, by simp only [List.length_take]; omega⟩, fun hm => ?_⟩
  have hm := (List.mem_filter.1 hm).1
  have hA := (ackd_mem (n := h.writes.length) (l := h.events) (fun e he => (checkH_in hc e he).2.1) (i := n.toNat) (by omega)).2 (by rw [Int.toNat_of_nonneg h1]; exact hm)
  rw [h3] at hA; cases hA
theorem recHist_acked {i j : Nat} (hi : i < p) : (⟨1, (i : Int)⟩ : Ev) ∈ (recHist h p j).events ↔ (ackd h.writes.length h.events).getD i false = true ∨ i < j := by
  have hA := ackd_mem (l := h.events) (fun e he => (checkH_in hc e he).2.1) (i := i) (n := h.writes.length) (by omega)
  unfold recHist
  simp only [List.mem_append, List.mem_filter, List.mem_map]
  constructor
  · rintro (⟨h1, _⟩ | ⟨x, hx, e⟩)
    · exact .inl (hA.2 h1)
    · injection e with _ e
      obtain ⟨_, h2, _⟩ := unack_mem.1 hx
      right; omega
  · intro hh
    cases hb : (ackd h.writes.length h.events).getD i false with
    | true => exact .inl ⟨hA.1 hb, by simp; omega⟩
    | false =>
      rcases hh with hh | hh
      · rw [hb] at hh; cases hh
      · exact .inr ⟨(i : Int), unack_mem.2 ⟨by omega, by omega, by simpa using hb⟩, rfl⟩
theorem recHist_at {j : Nat} (hj : j < p) : decide (atEv (recHist h p j).events ⟨1, (j : Int)⟩ ≥ 0) = (ackd h.writes.length h.events).getD j false := by
  rw [Bool.eq_iff_iff, decide_eq_true_eq, atEv_mem, recHist_acked hc hp hj]
  simp
theorem recHist_go {j : Nat} (hj : j < p) (hA : (ackd h.writes.length h.events).getD j false = false) : ackH (recHist h p j) (j : Int) = (recHist h p (j + 1), 0) := by
  rw [ackH_go (recHist_check hc hp (Nat.le_of_lt hj)) ⟨by omega, by simp only [recHist, List.length_take]; omega⟩ (fun hm => by
    rcases (recHist_acked hc hp hj).1 hm with h | h
    · rw [hA] at h; cases h
    · omega)]
  unfold recHist
  rw [unack_succ, if_neg (by rw [hA]; simp)]
  simp
theorem recHist_skip {j : Nat} (hA : (ackd h.writes.length h.events).getD j false = true) : recHist h p (j + 1) = recHist h p j := by
  unfold recHist
  rw [unack_succ, if_pos hA]
theorem recHist_zero : recHist h p 0 = (restrictH h (firstN (p : Int))).1 := by
  rw [restrict_first hc hp]
  unfold recHist unackN filtN
  simp
end
theorem rec_acked {g : Gr} {p : Nat} (hc : (checkH g.hist).1 = 0) : ((ackd g.hist.writes.length g.hist.events).drop p).any (fun y => decide (true = y)) = false ↔ ∀ i : Nat, p ≤ i → i < g.hist.writes.length → ¬atEv g.hist.events ⟨1, (i : Int)⟩ ≥ 0 := by
  rw [List.any_eq_false]
  have hlen := ackd_len g.hist.writes.length g.hist.events
  constructor
  · intro h i h1 h2 ha
    have h3 := ackd_at hc h2
    rw [decide_eq_true ha] at h3
    have hil : i < (ackd g.hist.writes.length g.hist.events).length := by omega
    rw [List.getD_eq_getElem?_getD, List.getElem?_eq_getElem hil] at h3
    simp only [Option.getD_some] at h3
    have := h _ (List.mem_drop_iff_getElem.2 ⟨i - p, by omega, rfl⟩)
    have e : p + (i - p) = i := by omega
    simp only [e, h3] at this
    simp at this
  · intro h y hy
    obtain ⟨k, hk, rfl⟩ := List.mem_drop_iff_getElem.1 hy
    have h1 := h (p + k) (by omega) (by omega)
    have h3 := ackd_at hc (i := p + k) (by omega)
    rw [decide_eq_false h1, List.getD_eq_getElem?_getD, List.getElem?_eq_getElem (show p + k < (ackd g.hist.writes.length g.hist.events).length by omega)] at h3
    simp only [Option.getD_some] at h3
    rw [h3]; simp
theorem rec_done {g : Gr} {p : Nat} (h0 : openErr g = 0) (hp : p ≤ g.hist.writes.length) (h3 : ((ackd g.hist.writes.length g.hist.events).drop p).any (fun y => decide (true = y)) = false) :
    recoverG g (firstN (p : Int)) = ((⟨recHist g.hist p p, [], [], false⟩ : Gr), unackN (ackd g.hist.writes.length g.hist.events) p, (0 : Int)) := by
  have := recoverG_ok (du := firstN (p : Int)) h0 (by rw [firstN_len]; omega) (by rw [firstN_len]; exact h3) (by rw [firstN_len])
  rw [this]
  simp only [firstN_len]; rfl
end Sx
end
section
open Go Go.Proofs Sx
namespace Sx
theorem keepE_all {n : Int} {l : List Ev} {j : Nat} (h : keepE n (l.take j) = l.take j) (hj : j < l.length) (hk : ¬l[j].write ≥ n) : keepE n (l.take (j + 1)) = l.take (j + 1) := by
  rw [keepE_succ hj, if_neg hk, h, List.take_succ_eq_append_getElem hj]
end Sx
namespace Go.Proofs.Ytodhhmjilnfecaa
set_option maxRecDepth 100000
set_option maxHeartbeats 0
theorem dx_run {H : HV} {w : World} {R : Value → World → Prop} {N : Nat} {u p a c x y : D} {fz : Bool} {E0 : List Ev} (hp : p.Is Bool) (hN : N ≤ p.len) (hpl : p.len ≤ 1048576) (hE : E0.length ≤ 1048576)
    (next : ∀ l q : D, (l.Is Int ∧ l.to Int = unackN (p.to Bool) N) → (q.Is Ev ∧ q.to Ev = keepE N E0 ∧ q.sz = 2) → Runs Try.prog ⟨w, H⟩ (eaA l u p a q) R)
    (hc : c.Is Ev) (hz : c.sz = 2) (ht : c.to Ev = E0) : Runs Try.prog ⟨w, H⟩ (dfA N u c p a x y fz) R := by
  have cl := D.Is.length (α := Ev) c
  refine goS_sound ctGrOk (fun _ => false) [(91, 5)] 300 _ ?_
  rw [df_in]
  show Runs _ _ (dxL N u c p a x y fz 0) _
  refine runs_loop (fun j : Nat => dxL N u c p a x y fz j) (fun j => j ≤ E0.length ∧ keepE N (E0.take j) = E0.take j) (fun j => E0.length - j) (fun _ => rfl) ?_ 0 ⟨Nat.zero_le _, rfl⟩
  intro j ⟨hj, hk⟩ ih
  refine goS_sound ctGrOk (fun _ => false) [(53, 6)] 300 _ ?_
  rw [dx_go]
  refine ⟨fun h1 => ?_, fun h1 => ?_⟩
  · have h1 : j < E0.length := by have := of_decide_eq_true h1; rw [ht] at cl; omega
    have h2 : j < (c.to Ev).length := by rw [ht]; exact h1
    obtain ⟨c1, c2, c3⟩ := ev_cell hc h2
    have hx : (c.to Ev)[j] = E0[j] := by simp only [ht]
    have wj : IntKind.i64.wrap ((j : Int) + 1) = ((j + 1 : Nat) : Int) := wrap_succ h1 hE
    rw [wj, Int.toNat_natCast j, c3, hx]
    refine ⟨⟨by omega, by omega, hz⟩, ⟨c1, hz⟩, fun hk1 => ⟨fun hm => ?_, fun _ => ?_⟩, fun hk1 => ?_⟩
    · exact absurd (of_decide_eq_true hm) (by show ¬((j : Int) = -1); omega)
    · have hk1 := of_decide_eq_true hk1
      refine del_loop hp hN hpl hE next hc hz (by rw [ht]) (Nat.le_succ j) h1 ?_ (by rw [ht])
      rw [keepE_succ h1, if_pos hk1, hk, ht]
    · have hk1 := of_decide_eq_false hk1
      exact ih (j + 1) ⟨h1, keepE_all hk h1 hk1⟩ (by omega)
  · have h1 : j = E0.length := by have := of_decide_eq_false h1; rw [ht] at cl; omega
    subst h1
    rw [List.take_length] at hk
    refine ⟨fun _ hs => ⟨⟨hp, by omega, by omega, hpl⟩, ?_⟩, fun h => Bool.noConfusion h⟩
    exact next _ _ (una_ints _ _) ⟨hc, by rw [ht]; exact hk.symm, hz⟩
theorem lawRecG : Law Try.prog 23 ((rdGr.two rdD).sp spRecG) := by
  refine law_in _ (by kernel_rfl) fun H w ⟨⟨⟨ha, hb, hc⟩, wt, hd, fz⟩, du⟩ hok hp => ?_
  obtain ⟨hx, hdu, hdl⟩ := hp _ (List.mem_singleton.2 rfl)
  have hx : GrD.Right ⟨⟨ha, hb, hc⟩, wt, hd, fz⟩ := hx
  simp only at hdu hdl
  have dl := D.Is.length (α := Int) du
  obtain ⟨⟨ra, rb, rc, la, lb, lc, rd⟩, rw', rh, lw, lh⟩ := id hx
  simp only at ra rb rc la lb lc rd rw' rh lw lh
  have hbl := D.Is.length (α := Wt) hb
  have hcl := D.Is.length (α := Ev) hc
  refine goS_sound (noCtr _) (fun _ => false) [(40, 1)] 50 _ ?_
  rw [show (rdGr.two rdD).canon (⟨⟨ha, hb, hc⟩, wt, hd, fz⟩, du) = [.agg [.dat ha, .dat hb, .dat hc, .dat wt, .dat hd, .bool fz], .dat du] from rfl, gr_in]
  refine runs_frame (Φ := openPhi ⟨⟨ha, hb, hc⟩, wt, hd, fz⟩) (top := opC ha hb hc wt hd fz) opC_pure (fun k hk => ?_) (fun H w _ => opCRuns hx) fun v m hv => ?_
  · have h : (SV.keysL (mkJ 0 [(1, .dat du), (4, .ptr 0 0)] 0 105) ++ ((([] : List SFrm).flatMap fun f => SV.keysL f.tmps) ++ Mem.named [(0, .cells 28 [.nils, .nils, .nils, .nils, .nils, .lb false])])).all (fun k => decide (k < 500)) = true := by kernel_rfl
    exact of_decide_eq_true (List.all_eq_true.1 h k hk)
  generalize hg : GrD.gr ⟨⟨ha, hb, hc⟩, wt, hd, fz⟩ = g at hv
  have g1 : g.hist = (HiD.mk ha hb hc).hist := by rw [← hg]; rfl
  have g5 : g.hist.writes.length = hb.len := by rw [g1, hbl]; rfl
  have g6 : g.hist.events = hc.to Ev := by rw [g1]; rfl
  have g7 : g.hist.writes = hb.to Wt := by rw [g1]; rfl
  have g8 : g.hist.sizes = ha.to Int := by rw [g1]; rfl
  show Runs _ _ _ (RetD w H fun ds => .tup [grSV ds (recoverG g (du.to Int)).1, .dat ((ds 5).like (recoverG g (du.to Int)).2.1), .int .i64 (recoverG g (du.to Int)).2.2])
  unfold openPhi at hv
  rw [hg] at hv
  rcases hv with ⟨h0, rfl, rfl⟩ | ⟨h0, rfl, p, a, b, c, x, y, rfl, hP, hA, hB, hC, hX, hY, hZ⟩
  · show Runs _ _ (grA du (.tup [.nilp, .int .i64 (openErr g)]) []) _
    have hfr := recoverG_e1 (du := du.to Int) h0
    apply exec_sound (noCtr _) 200
    rw [grE_go]
    refine ⟨fun _ => ret_grLI ?_ ?_ ?_, fun h => absurd (by simpa using h) h0⟩
    · rw [hfr]; exact stands_zG fun _ => rfl
    · rw [hfr]; exact stands_nils
    · rw [hfr]
  · show Runs _ _ (grA du okV (okM p a b c x y fz)) _
    have hP2 : p.to Bool = ackd g.hist.writes.length g.hist.events := by rw [hP.2, g7, g6]
    have pl : p.len = hb.len := by rw [D.Is.length (α := Bool), hP.2, ackd_len, hbl]
    have bl : b.len = hb.len := by rw [D.Is.length (α := Wt), hB.2, hbl]
    apply exec_sound ctGrOk 300
    rw [grO_go]
    refine ⟨fun h => Bool.noConfusion h, fun _ hs => ⟨fun h1 => ?_, fun h1 => ?_⟩⟩
    · have hfr := recoverG_e2 (du := du.to Int) h0 (by have := of_decide_eq_true h1; omega)
      simp only [holds_need]
      refine ⟨h1, h1, h1, h1, h1, h1, h1, h1, h1, ret_grLI ?_ ?_ ?_⟩
      · rw [hfr]; exact stands_zG fun _ => rfl
      · rw [hfr]; exact stands_nils
      · rw [hfr]
    · have h1' := of_decide_eq_false h1
      have hle : du.len ≤ p.len := by omega
      have hsub := (D.Is.sub hP.1 (Int.toNat (du.len : Int)) (Int.toNat (du.len : Int) + (D.len p - Int.toNat (du.len : Int))))
      have e2 : (D.sub p (Int.toNat (du.len : Int)) (Int.toNat (du.len : Int) + (D.len p - Int.toNat (du.len : Int)))).to Bool = (ackd g.hist.writes.length g.hist.events).drop (du.to Int).length := by
        rw [hsub.2, Int.toNat_natCast, hP2, ← dl]
        rw [List.take_of_length_le]
        rw [List.length_drop, ackd_len, g5]; omega
      have e3 : (D.sub p (Int.toNat (du.len : Int)) (Int.toNat (du.len : Int) + (D.len p - Int.toNat (du.len : Int)))).len ≤ 1048576 := by
        rw [D.Is.length (α := Bool), e2, List.length_drop, ackd_len, g5]; omega
      simp only [holds_need]
      refine ⟨h1, h1, h1, h1, h1, h1, h1, ⟨by omega, by omega, hP.1.fits⟩, h1, ⟨hZ.2.2.2, by omega⟩, ⟨hsub.1, e3⟩, h1, ?_⟩
      · rw [e2]
        refine ⟨fun h2 => ?_, fun h2 => ?_⟩
        · have hfr := recoverG_e3 (du := du.to Int) h0 (by omega) h2
          refine ret_grLI ?_ ?_ ?_
          · rw [hfr]; exact stands_zG fun _ => rfl
          · rw [hfr]; exact stands_nils
          · rw [hfr]
        · show Runs _ _ (grL du p a b c x y fz 0) _
          refine runs_loop (fun j : Nat => grL du p a b c x y fz j) (fun j => j ≤ (du.to Int).length ∧ (du.to Int).take j = firstN (j : Int)) (fun j => (du.to Int).length - j) (fun _ => rfl) ?_ 0 ⟨Nat.zero_le _, rfl⟩
          intro j ⟨hj, hpre⟩ ih
          refine goS_sound ctGrOk (fun _ => false) [(55, 8)] 300 _ ?_
          rw [grl_go]
          refine ⟨fun h3 => ?_, fun h3 hs1 => ?_⟩
          · have h3 : j < (du.to Int).length := by have := of_decide_eq_true h3; omega
            obtain ⟨c1, c2, c3⟩ := int_at hdu h3
            have wj : IntKind.i64.wrap ((j : Int) + 1) = ((j + 1 : Nat) : Int) := wrap_succ h3 (by omega)
            rw [wj, c3]
            refine ⟨c1, c2, fun h4 => ?_, fun h4 => ?_⟩
            · have hfr := recoverG_e4 (du := du.to Int) h0 (by omega) h2 (fun e => by
                have : (du.to Int)[j] = (firstN ((du.to Int).length : Int))[j]'(by rw [firstN_len]; exact h3) := by
                  have e5 : (du.to Int)[j]? = (firstN ((du.to Int).length : Int))[j]? := by rw [← e]
                  rw [List.getElem?_eq_getElem h3, List.getElem?_eq_getElem (by rw [firstN_len]; exact h3)] at e5
                  exact Option.some.inj e5
                rw [firstN_get] at this
                rw [this] at h4; simp at h4)
              refine ret_grLI ?_ ?_ ?_
              · rw [hfr]; exact stands_zG fun _ => rfl
              · rw [hfr]; exact stands_nils
              · rw [hfr]
            · have h4 : (du.to Int)[j] = (j : Int) := by simpa using h4
              refine ih (j + 1) ⟨h3, ?_⟩ (by omega)
              rw [List.take_succ_eq_append_getElem h3, hpre, h4]
              unfold firstN
              rw [Int.toNat_natCast, Int.toNat_natCast, List.range_succ, List.map_append]; rfl
          · have h3 : j = (du.to Int).length := by have := of_decide_eq_false h3; omega
            subst h3
            rw [List.take_length] at hpre
            have hfr := recoverG_ok (du := du.to Int) h0 (by omega) h2 hpre
            have hbs := sub_is hB.1 (Int.toNat (du.len : Int))
            refine ⟨⟨by omega, by omega, by omega, hB.1.fits⟩, ?_⟩
            show Runs _ _ (dfA du.len (D.sub b 0 (Int.toNat (du.len : Int))) c p a x y fz) _
            refine dx_run (E0 := c.to Ev) hP.1 hle (by omega) (by rw [hC.2, ← hcl]; exact lc) (fun l q hl hq => ?_) hC.1 hZ.1 rfl
            refine goS_sound ctGrOk (fun _ => false) [(46, 1000)] 300 _ ?_
            rw [ea_in]
            show Runs _ _ (eaL l (D.sub b 0 (Int.toNat (du.len : Int))) p a q 0) _
            have hcv : (c.to Ev).length ≤ 1048576 := by rw [hC.2, ← hcl]; exact lc
            have := ea_loop (w := w) (H := H) hA hbs hq hP.1 hl (fun v hv => by
              obtain ⟨v1, v2, _⟩ := unack_mem.1 hv
              exact ⟨v1, by omega⟩) (Nat.le_trans (List.length_filter_le _ _) hcv) (Nat.le_trans filtN_len (by omega))
            unfold keepE at this
            rw [hP2, hB.2, hC.2, g7, g6] at this
            rw [hfr, ← dl, g7, g6, g8]
            exact this
end Go.Proofs.Ytodhhmjilnfecaa
end
section
open Go
namespace Sx
noncomputable def spDurR (x : GrD × Int) : SpecR := .data [x.1.Right ∧ x.1.h.e.len ≤ 1000000] fun ds => .tup [grSV ds (durG x.1.gr x.2).1, .dat ((ds 5).like (durG x.1.gr x.2).2.1), .int .i64 (durG x.1.gr x.2).2.2]
noncomputable def spThawR (x : GrD) : SpecR := .data [x.Right ∧ x.h.e.len ≤ 500000 ∧ x.hd.len ≤ 500000] fun ds => .tup [grSV ds (thawG x.gr).1, .dat ((ds 5).like (thawG x.gr).2.1), .int .i64 (thawG x.gr).2.2]
noncomputable def spRecR (x : GrD × D) : SpecR := .data [x.1.Right ∧ x.1.h.e.len ≤ 500000 ∧ x.2.Is Int ∧ x.2.len ≤ 500000] fun ds => .tup [grSV ds (recoverG x.1.gr (x.2.to Int)).1, .dat ((ds 5).like (recoverG x.1.gr (x.2.to Int)).2.1), .int .i64 (recoverG x.1.gr (x.2.to Int)).2.2]
theorem one_int (a : Hd) (n : Int) : (D.slc a 1 [[D.int .i64 n]]).Is Int ∧ (D.slc a 1 [[D.int .i64 n]]).to Int = [n] :=
  ⟨⟨_, _, _, rfl, .inr rfl, fun r hr => by rw [List.mem_singleton.1 hr]; exact ⟨n, rfl⟩⟩, rfl⟩
theorem stands_ints {l l' : List Int} {h : Hd} (e : l = l') : Stands Int (.dat (.slc h 1 (l.map fun n => [D.int .i64 n]))) l' := by
  subst e
  refine stands_dat ?_ ?_
  · exact ⟨_, _, _, rfl, .inr rfl, fun r hr => by obtain ⟨n, _, rfl⟩ := List.mem_map.1 hr; exact ⟨n, rfl⟩⟩
  · simp only [D.to, D.rows, List.map_map]
    conv => rhs; rw [← List.map_id l]
    exact List.map_congr_left fun n _ => rfl
theorem is_nil0 : (D.slc none 0 []).Is Int := is_nil _ _
theorem ackAll_snoc {l : List Int} {j : Nat} (hj : j < l.length) (h : Hist) : ackAll (l.take (j + 1)) h = (ackH (ackAll (l.take j) h) l[j]).1 := by
  unfold ackAll
  rw [List.take_succ_eq_append_getElem hj, List.foldl_append]; rfl
theorem thaw_go {g : Gr} (h : openErr g = 0) (j : Nat) : ackAll (g.held.take j) g.hist = ⟨g.hist.sizes, g.hist.writes, g.hist.events ++ (g.held.take j).map (Ev.mk 1)⟩ := by
  obtain ⟨a, b⟩ := held_free h
  exact (ackAll_go ((openErr_iff g).1 h).1 (a.sublist (List.take_sublist _ _)) fun n hn => b n (List.mem_of_mem_take hn)).1
end Sx
end
section
open Go Go.Proofs Sx
namespace Go.Proofs.Ytodhhmjilnfecaa
set_option maxRecDepth 100000
set_option maxHeartbeats 0
theorem ctRXOk : Ctrs.Ok Try.prog ctRX := by
  intro x hx
  simp only [ctRX, List.mem_cons, List.not_mem_nil, or_false] at hx
  rcases hx with rfl | rfl | rfl | rfl | rfl | rfl | rfl | rfl | rfl | rfl | rfl
  · exact ctrOf_ok lawRkG
  · exact ctrOf_ok lawIssueR
  · exact ctrCpd
  · exact ctrWo
  · exact ctrOf_ok lawHas
  · exact ctrOf_ok lawCopyR
  · exact ctrOf_ok lawAckR
  · exact ctrOf_ok lawAckd
  · exact ctrOf_ok lawFst
  · exact ctrOf_ok lawInts
  · exact ctrOf_ok lawRestR
theorem lawIssGR : Law Try.prog 14 ((rdGr.two rdWt).sp spIssueG) := by
  refine law_in _ (by kernel_rfl) fun H w ⟨⟨⟨ha, hb, hc⟩, wt, hd, fz⟩, ⟨vv, s, e⟩⟩ hok hp => ?_
  obtain ⟨hx, hcl, hwo⟩ := hp _ (List.mem_singleton.2 rfl)
  have hx : GrD.Right ⟨⟨ha, hb, hc⟩, wt, hd, fz⟩ := hx
  have hcl : hc.len ≤ 1000000 := hcl
  obtain ⟨hR, rw', rh, lw, lh⟩ := id hx
  simp only at hR rw' rh lw lh
  apply exec_sound ctRXOk 300
  rw [show (rdGr.two rdWt).canon (⟨⟨ha, hb, hc⟩, wt, hd, fz⟩, ⟨vv, s, e⟩) = [.agg [.dat ha, .dat hb, .dat hc, .dat wt, .dat hd, .bool fz], .agg [.int .i64 vv, .int .i64 s, .dat e]] from rfl, ris_in]
  refine ⟨hx, fun h0 => ?_, fun h0 => ⟨⟨hR, hcl, hwo⟩, fun hs => ⟨fun he => ?_, fun he hs1 => ⟨⟨rw', (one_int _ _).1, lw, Nat.le_of_ble_eq_true rfl⟩, ⟨rh, is_nil0, lh, by decide⟩, ?_⟩⟩⟩⟩
  · have h0 : openErr (GrD.gr ⟨⟨ha, hb, hc⟩, wt, hd, fz⟩) ≠ 0 := by simpa using h0
    have hfr := issueG_e1 (w := WtD.wt ⟨vv, s, e⟩) h0
    refine ret_grII ?_ ?_ ?_
    · rw [hfr]; exact stands_zG fun _ => rfl
    · rw [hfr]
    · rw [hfr]
  · have h0 : openErr (GrD.gr ⟨⟨ha, hb, hc⟩, wt, hd, fz⟩) = 0 := by simpa using h0
    have he : (issueH (GrD.gr ⟨⟨ha, hb, hc⟩, wt, hd, fz⟩).hist (WtD.wt ⟨vv, s, e⟩)).2.2 ≠ 0 := by show (issueH (HiD.mk ha hb hc).hist (WtD.wt ⟨vv, s, e⟩)).2.2 ≠ 0; simpa using he
    have hfr := issueG_e2 h0 he
    refine ret_grII ?_ ?_ ?_
    · rw [hfr]; exact stands_zG fun _ => rfl
    · rw [hfr]
    · rw [hfr]; rfl
  · have h0 : openErr (GrD.gr ⟨⟨ha, hb, hc⟩, wt, hd, fz⟩) = 0 := by simpa using h0
    have he : (issueH (GrD.gr ⟨⟨ha, hb, hc⟩, wt, hd, fz⟩).hist (WtD.wt ⟨vv, s, e⟩)).2.2 = 0 := by show (issueH (HiD.mk ha hb hc).hist (WtD.wt ⟨vv, s, e⟩)).2.2 = 0; simpa using he
    have hfr := issueG_ok h0 he
    refine ret_grII ?_ ?_ ?_
    · rw [hfr]
      refine stands_gr stands_like stands_like stands_like (stands_ints (l' := wt.to Int ++ [(issueH (HiD.mk ha hb hc).hist (WtD.wt ⟨vv, s, e⟩)).2.1]) ?_) (stands_ints (l' := hd.to Int) ?_) (fun _ => rfl) rfl
      · rfl
      · show hd.to Int ++ [] = _; simp
    · rw [hfr]; rfl
    · rw [hfr]
theorem lawDurGR : Law Try.prog 16 ((rdGr.two rdInt).sp spDurR) := by
  refine law_in _ (by kernel_rfl) fun H w ⟨⟨⟨ha, hb, hc⟩, wt, hd, fz⟩, n⟩ hok hp => ?_
  obtain ⟨hx, hcl⟩ := hp _ (List.mem_singleton.2 rfl)
  have hx : GrD.Right ⟨⟨ha, hb, hc⟩, wt, hd, fz⟩ := hx
  have hcl : hc.len ≤ 1000000 := hcl
  obtain ⟨hR, rw', rh, lw, lh⟩ := id hx
  simp only at hR rw' rh lw lh
  apply exec_sound ctRXOk 300
  rw [show (rdGr.two rdInt).canon (⟨⟨ha, hb, hc⟩, wt, hd, fz⟩, n) = [.agg [.dat ha, .dat hb, .dat hc, .dat wt, .dat hd, .bool fz], .int .i64 n] from rfl, rdu_in]
  have hfr := durG_ref (GrD.gr ⟨⟨ha, hb, hc⟩, wt, hd, fz⟩) n
  unfold durR at hfr
  refine ⟨hx, fun h0 => ?_, fun h0 => ⟨⟨rw', lw⟩, fun he => ?_, fun he hs => ⟨hR, ⟨rw', lw⟩, ⟨rh, is_nil0, lh, by decide⟩, fun hf hs1 => ⟨⟨rh, (one_int _ _).1, lh, Nat.le_of_ble_eq_true rfl⟩, fun hs2 => ?_⟩, fun hf => ⟨⟨hR, hcl⟩, fun hs1 hs2 => ?_⟩⟩⟩⟩
  · have h0 : openErr (GrD.gr ⟨⟨ha, hb, hc⟩, wt, hd, fz⟩) ≠ 0 := by simpa using h0
    rw [if_pos h0] at hfr
    refine ret_grLI ?_ ?_ ?_
    · rw [hfr]; exact stands_zG fun _ => rfl
    · rw [hfr]; exact stands_nils
    · rw [hfr]
  · have h0 : ¬openErr (GrD.gr ⟨⟨ha, hb, hc⟩, wt, hd, fz⟩) ≠ 0 := by simpa using h0
    rw [if_neg h0, if_pos (show (GrD.gr ⟨⟨ha, hb, hc⟩, wt, hd, fz⟩).waiting.contains n = false from by show (wt.to Int).contains n = false; simpa using he)] at hfr
    refine ret_grLI ?_ ?_ ?_
    · rw [hfr]; exact stands_zG fun _ => rfl
    · rw [hfr]; exact stands_nils
    · rw [hfr]
  · have h0 : ¬openErr (GrD.gr ⟨⟨ha, hb, hc⟩, wt, hd, fz⟩) ≠ 0 := by simpa using h0
    rw [if_neg h0, if_neg (show ¬(GrD.gr ⟨⟨ha, hb, hc⟩, wt, hd, fz⟩).waiting.contains n = false from fun e => by
      have he : (wt.to Int).contains n = true := by simpa using he
      have e : (wt.to Int).contains n = false := e
      rw [he] at e; cases e), if_pos (show (GrD.gr ⟨⟨ha, hb, hc⟩, wt, hd, fz⟩).frozen = true from hf)] at hfr
    refine ret_grLI ?_ ?_ ?_
    · rw [hfr]
      exact stands_gr stands_like stands_like stands_like (stands_ints (l' := withoutI (wt.to Int) n) rfl) (stands_ints (l' := hd.to Int ++ [n]) rfl) (b := true) (fun _ => by rw [hf]; rfl) rfl
    · rw [hfr]; exact stands_nils
    · rw [hfr]
  · have h0 : ¬openErr (GrD.gr ⟨⟨ha, hb, hc⟩, wt, hd, fz⟩) ≠ 0 := by simpa using h0
    rw [if_neg h0, if_neg (show ¬(GrD.gr ⟨⟨ha, hb, hc⟩, wt, hd, fz⟩).waiting.contains n = false from fun e => by
      have he : (wt.to Int).contains n = true := by simpa using he
      have e : (wt.to Int).contains n = false := e
      rw [he] at e; cases e), if_neg (show ¬(GrD.gr ⟨⟨ha, hb, hc⟩, wt, hd, fz⟩).frozen = true from fun e => by have e : fz = true := e; rw [hf] at e; cases e)] at hfr
    refine ret_grLI ?_ ?_ ?_
    · rw [hfr]
      exact stands_gr stands_like stands_like stands_like (stands_ints (l' := withoutI (wt.to Int) n) rfl) (stands_ints (l' := hd.to Int) (by show hd.to Int ++ [] = _; simp)) (b := false) (fun _ => by rw [hf]; rfl) rfl
    · rw [hfr]; exact stands_dat (one_int _ _).1 (one_int _ _).2
    · rw [hfr]
theorem lawFrzGR : Law Try.prog 20 (rdGr.one.sp spFrzG) := by
  refine law_in _ (by kernel_rfl) fun H w ⟨⟨ha, hb, hc⟩, wt, hd, fz⟩ hok hp => ?_
  have hx : GrD.Right ⟨⟨ha, hb, hc⟩, wt, hd, fz⟩ := hp _ (List.mem_singleton.2 rfl)
  obtain ⟨hR, rw', rh, lw, lh⟩ := id hx
  simp only at hR rw' rh lw lh
  have bl := D.Is.length (α := Wt) hb
  apply exec_sound ctRXOk 300
  rw [show rdGr.one.canon ⟨⟨ha, hb, hc⟩, wt, hd, fz⟩ = [.agg [.dat ha, .dat hb, .dat hc, .dat wt, .dat hd, .bool fz]] from rfl, rfz_in]
  have hfr := frzG_ref (GrD.gr ⟨⟨ha, hb, hc⟩, wt, hd, fz⟩)
  unfold frzR at hfr
  refine ⟨hx, fun h0 => ?_, fun h0 => ⟨fun hf => ?_, fun hf hs => ⟨hR, ⟨rw', is_nil0, lw, by decide⟩, ?_⟩⟩⟩
  · have h0 : openErr (GrD.gr ⟨⟨ha, hb, hc⟩, wt, hd, fz⟩) ≠ 0 := by simpa using h0
    rw [if_pos h0] at hfr
    refine ret_grII ?_ ?_ ?_
    · rw [hfr]; exact stands_zG fun _ => rfl
    · rw [hfr]
    · rw [hfr]
  · have h0 : ¬openErr (GrD.gr ⟨⟨ha, hb, hc⟩, wt, hd, fz⟩) ≠ 0 := by simpa using h0
    rw [if_neg h0, if_pos (show (GrD.gr ⟨⟨ha, hb, hc⟩, wt, hd, fz⟩).frozen = true from hf)] at hfr
    refine ret_grII ?_ ?_ ?_
    · rw [hfr]; exact stands_zG fun _ => rfl
    · rw [hfr]
    · rw [hfr]
  · have h0 : ¬openErr (GrD.gr ⟨⟨ha, hb, hc⟩, wt, hd, fz⟩) ≠ 0 := by simpa using h0
    rw [if_neg h0, if_neg (show ¬(GrD.gr ⟨⟨ha, hb, hc⟩, wt, hd, fz⟩).frozen = true from fun e => by have e : fz = true := e; rw [hf] at e; cases e)] at hfr
    refine ret_grII ?_ ?_ ?_
    · rw [hfr]
      exact stands_gr stands_like stands_like stands_like (stands_ints (l' := wt.to Int) (by show wt.to Int ++ [] = _; simp)) stands_nils (b := true) (fun _ => rfl) rfl
    · rw [hfr, bl]; rfl
    · rw [hfr]
theorem lawThawGR : Law Try.prog 22 (rdGr.one.sp spThawR) := by
  refine law_in _ (by kernel_rfl) fun H w ⟨⟨ha, hb, hc⟩, wt, hd, fz⟩ hok hp => ?_
  obtain ⟨hx, hcl, hhl⟩ := hp _ (List.mem_singleton.2 rfl)
  have hx : GrD.Right ⟨⟨ha, hb, hc⟩, wt, hd, fz⟩ := hx
  have hcl : hc.len ≤ 500000 := hcl
  have hhl : hd.len ≤ 500000 := hhl
  obtain ⟨hR, rw', rh, lw, lh⟩ := id hx
  simp only at hR rw' rh lw lh
  obtain ⟨ra, rb, rc, la, lb, lc, rd⟩ := id hR
  simp only at ra rb rc la lb lc rd
  have al := D.Is.length (α := Int) ha
  have bl := D.Is.length (α := Wt) hb
  have cl := D.Is.length (α := Ev) hc
  have hl := D.Is.length (α := Int) hd
  apply exec_sound ctRXOk 300
  rw [show rdGr.one.canon ⟨⟨ha, hb, hc⟩, wt, hd, fz⟩ = [.agg [.dat ha, .dat hb, .dat hc, .dat wt, .dat hd, .bool fz]] from rfl, rth_in]
  have hfr := thawG_ref (GrD.gr ⟨⟨ha, hb, hc⟩, wt, hd, fz⟩)
  unfold thawR at hfr
  refine ⟨hx, fun h0 => ?_, fun h0 => ⟨fun hf => ?_, fun hf => ⟨hR, fun hs => ?_⟩⟩⟩
  · have h0 : openErr (GrD.gr ⟨⟨ha, hb, hc⟩, wt, hd, fz⟩) ≠ 0 := by simpa using h0
    rw [if_pos h0] at hfr
    refine ret_grLI ?_ ?_ ?_
    · rw [hfr]; exact stands_zG fun _ => rfl
    · rw [hfr]; exact stands_nils
    · rw [hfr]
  · have h0 : ¬openErr (GrD.gr ⟨⟨ha, hb, hc⟩, wt, hd, fz⟩) ≠ 0 := by simpa using h0
    rw [if_neg h0, if_pos (show (GrD.gr ⟨⟨ha, hb, hc⟩, wt, hd, fz⟩).frozen = false from by show fz = false; simpa using hf)] at hfr
    refine ret_grLI ?_ ?_ ?_
    · rw [hfr]; exact stands_zG fun _ => rfl
    · rw [hfr]; exact stands_nils
    · rw [hfr]
  · have h0 : ¬openErr (GrD.gr ⟨⟨ha, hb, hc⟩, wt, hd, fz⟩) ≠ 0 := by simpa using h0
    have h0' : openErr (GrD.gr ⟨⟨ha, hb, hc⟩, wt, hd, fz⟩) = 0 := by simpa using h0
    rw [if_neg h0, if_neg (show ¬(GrD.gr ⟨⟨ha, hb, hc⟩, wt, hd, fz⟩).frozen = false from fun e => by have e : fz = false := e; rw [e] at hf; cases hf)] at hfr
    have hgo : ∀ j, ackAll ((hd.to Int).take j) (HiD.mk ha hb hc).hist = ⟨ha.to Int, hb.to Wt, hc.to Ev ++ ((hd.to Int).take j).map (Ev.mk 1)⟩ := thaw_go h0'
    show Runs _ _ (rthL ha hb hc wt hd ((hs 0 0).like (ha.to Int)) ((hs 0 1).like (hb.to Wt)) ((hs 0 2).like (hc.to Ev)) fz 0) _
    refine runs_loop (fun u : Nat × D × D × D => rthL ha hb hc wt hd u.2.1 u.2.2.1 u.2.2.2 fz u.1) (fun u => u.1 ≤ (hd.to Int).length ∧ u.2.1.Is Int ∧ u.2.2.1.Is Wt ∧ u.2.2.2.Is Ev ∧ (HiD.mk u.2.1 u.2.2.1 u.2.2.2).hist = ackAll ((hd.to Int).take u.1) (HiD.mk ha hb hc).hist) (fun u => (hd.to Int).length - u.1) (fun _ => rfl) ?_
      (0, (hs 0 0).like (ha.to Int), (hs 0 1).like (hb.to Wt), (hs 0 2).like (hc.to Ev)) ⟨Nat.zero_le _, D.like_is _ _, D.like_is _ _, D.like_is _ _, by simp only [HiD.hist, D.like_to]; rfl⟩
    rintro ⟨j, a, b, c⟩ ⟨hj, i1, i2, i3, i4⟩ ih
    simp only at hj i1 i2 i3 i4 ih ⊢
    have hE := i4
    rw [hgo j] at hE
    have e1 : a.to Int = ha.to Int := congrArg Hist.sizes hE
    have e2 : b.to Wt = hb.to Wt := congrArg Hist.writes hE
    have e3 : c.to Ev = hc.to Ev ++ ((hd.to Int).take j).map (Ev.mk 1) := congrArg Hist.events hE
    have al' := D.Is.length (α := Int) a
    have bl' := D.Is.length (α := Wt) b
    have cl' := D.Is.length (α := Ev) c
    rw [e1] at al'; rw [e2] at bl'; rw [e3, List.length_append, List.length_map, List.length_take] at cl'
    have hRj : HiD.Right ⟨a, b, c⟩ := ⟨i1, i2, i3, by simp only; omega, by simp only; omega, by simp only; omega, by simp only; rw [e2]; exact rd⟩
    apply exec_sound ctRXOk 300
    rw [rth_go]
    refine ⟨fun hc1 hs1 => ?_, fun hc1 hs1 => ⟨⟨rw', is_nil0, lw, by decide⟩, ⟨rh, is_nil0, lh, by decide⟩, ?_⟩⟩
    · have hcj : j < (hd.to Int).length := by have := of_decide_eq_true hc1; omega
      obtain ⟨c1, c2, c3⟩ := int_at rh hcj
      have wj : IntKind.i64.wrap ((j : Int) + 1) = ((j + 1 : Nat) : Int) := wrap_succ hcj (by omega)
      rw [wj, c3]
      refine ⟨c1, c2, ⟨hRj, by omega⟩, ?_⟩
      refine ih (j + 1, (hs1 6 0).like (ackH (HiD.mk a b c).hist ((hd.to Int)[j])).1.sizes, (hs1 6 1).like (ackH (HiD.mk a b c).hist ((hd.to Int)[j])).1.writes, (hs1 6 2).like (ackH (HiD.mk a b c).hist ((hd.to Int)[j])).1.events) ⟨hcj, D.like_is _ _, D.like_is _ _, D.like_is _ _, ?_⟩ (by simp only; omega)
      simp only [like_hist]
      rw [ackAll_snoc hcj, i4]
    · have hjl : j = (hd.to Int).length := by have := of_decide_eq_false hc1; omega
      subst hjl
      rw [List.take_length] at i4
      refine ret_grLI ?_ ?_ ?_
      · rw [hfr]
        refine stands_gr (stands_dat i1 rfl) (stands_dat i2 rfl) (stands_dat i3 rfl) (stands_ints (l' := wt.to Int) (by show wt.to Int ++ [] = _; simp)) stands_nils (b := false) (fun _ => rfl) ?_
        show (⟨ackAll (hd.to Int) (HiD.mk ha hb hc).hist, wt.to Int, [], false⟩ : Gr) = _
        rw [← i4]; rfl
      · rw [hfr]; exact stands_ints (l' := hd.to Int) (by show hd.to Int ++ [] = _; simp)
      · rw [hfr]
end Go.Proofs.Ytodhhmjilnfecaa
end
section
open Go Go.Proofs Sx
namespace Sx
theorem recG_27 {g : Gr} {du : List Int} (h0 : openErr g = 0) (h : du.length > g.hist.writes.length ∨ ((ackd g.hist.writes.length g.hist.events).drop du.length).any (fun y => decide (true = y)) = true ∨ du ≠ firstN du.length) : recoverG g du = (zGr, [], 27) := by
  by_cases h2 : du.length > g.hist.writes.length
  · exact recoverG_e2 h0 h2
  · cases h3 : ((ackd g.hist.writes.length g.hist.events).drop du.length).any (fun y => decide (true = y)) with
    | true => exact recoverG_e3 h0 h2 h3
    | false =>
      rw [h3] at h
      rcases h with h | h | h
      · exact absurd h h2
      · cases h
      · exact recoverG_e4 h0 h2 h3 h
end Sx
namespace Go.Proofs.Ytodhhmjilnfecaa
set_option maxRecDepth 100000
set_option maxHeartbeats 0
theorem lawRecGR : Law Try.prog 24 ((rdGr.two rdD).sp spRecR) := by
  refine law_in _ (by kernel_rfl) fun H w ⟨⟨⟨ha, hb, hc⟩, wt, hd, fz⟩, du⟩ hok hp => ?_
  obtain ⟨hx, hcl, hdu, hdl⟩ := hp _ (List.mem_singleton.2 rfl)
  have hx : GrD.Right ⟨⟨ha, hb, hc⟩, wt, hd, fz⟩ := hx
  have hcl : hc.len ≤ 500000 := hcl
  simp only at hdu hdl
  obtain ⟨hR, rw', rh, lw, lh⟩ := id hx
  simp only at hR rw' rh lw lh
  obtain ⟨ra, rb, rc, la, lb, lc, rd⟩ := id hR
  simp only at ra rb rc la lb lc rd
  have al := D.Is.length (α := Int) ha
  have bl := D.Is.length (α := Wt) hb
  have cl := D.Is.length (α := Ev) hc
  have dl := D.Is.length (α := Int) du
  apply exec_sound ctRXOk 300
  rw [show (rdGr.two rdD).canon (⟨⟨ha, hb, hc⟩, wt, hd, fz⟩, du) = [.agg [.dat ha, .dat hb, .dat hc, .dat wt, .dat hd, .bool fz], .dat du] from rfl, rrc_in]
  generalize hg : GrD.gr ⟨⟨ha, hb, hc⟩, wt, hd, fz⟩ = g
  have g1 : g.hist = (HiD.mk ha hb hc).hist := by rw [← hg]; rfl
  have g5 : g.hist.writes.length = hb.len := by rw [g1, bl]; rfl
  have g6 : g.hist.events = hc.to Ev := by rw [g1]; rfl
  have g7 : g.hist.writes = hb.to Wt := by rw [g1]; rfl
  have g8 : g.hist.sizes = ha.to Int := by rw [g1]; rfl
  show Tree.holds _ _ (RetD w H fun ds => .tup [grSV ds (recoverG g (du.to Int)).1, .dat ((ds 5).like (recoverG g (du.to Int)).2.1), .int .i64 (recoverG g (du.to Int)).2.2]) _
  have err : ∀ k : Int, recoverG g (du.to Int) = (zGr, [], k) → (Tree.ret (.tup [.agg [.nils, .nils, .nils, .nils, .nils, .lb false], .nils, .int .i64 k])).holds Try.prog ⟨w, H⟩ (RetD w H fun ds => .tup [grSV ds (recoverG g (du.to Int)).1, .dat ((ds 5).like (recoverG g (du.to Int)).2.1), .int .i64 (recoverG g (du.to Int)).2.2]) := fun k hfr => by
    refine ret_grLI ?_ ?_ ?_
    · rw [hfr]; exact stands_zG fun _ => rfl
    · rw [hfr]; exact stands_nils
    · rw [hfr]
  refine ⟨hx, fun h0 => ?_, fun h0 => ⟨fun h1 => ?_, fun h1 => ⟨by omega, fun hs => ⟨⟨hdu, D.like_is _ _, by omega⟩, fun h2 => ?_, fun h2 => ?_⟩⟩⟩⟩
  · exact err _ (recoverG_e1 (by simpa using h0))
  · have h1 := of_decide_eq_true h1
    exact err _ (recG_27 (by simpa using h0) (.inl (by omega)))
  · have h2 : du.to Int ≠ firstN du.len := by rw [D.like_to] at h2; simpa using h2
    rw [dl] at h2
    exact err _ (recG_27 (by simpa using h0) (.inr (.inr h2)))
  have h0 : openErr g = 0 := by simpa using h0
  have hck := ((openErr_iff g).1 h0).1
  have h1 : du.len ≤ hb.len := by have := of_decide_eq_false h1; omega
  have h2 : du.to Int = firstN du.len := by rw [D.like_to] at h2; simpa using h2
  have hle : du.len ≤ g.hist.writes.length := by omega
  show Runs _ _ (rrcA ha hb hc wt hd du fz du.len du.len) _
  refine runs_loop (fun j : Nat => rrcA ha hb hc wt hd du fz du.len j) (fun j => du.len ≤ j ∧ j ≤ hb.len ∧ ∀ i : Nat, du.len ≤ i → i < j → ¬atEv g.hist.events ⟨1, (i : Int)⟩ ≥ 0) (fun j => hb.len - j) (fun _ => rfl) ?_ du.len ⟨Nat.le_refl _, h1, fun i a b => by omega⟩
  intro j ⟨hj0, hj, hpj⟩ ih
  apply exec_sound ctRXOk 300
  rw [rrca_go]
  refine ⟨fun hc1 => ⟨⟨rc, lc⟩, fun hat => ?_, fun hat => ?_⟩, fun hc1 => ⟨⟨hR, hdu, by omega⟩, fun hs1 => ?_⟩⟩
  · have hcj : j < hb.len := by have := of_decide_eq_true hc1; omega
    have hat := of_decide_eq_true hat
    refine err _ (recG_27 h0 (.inr (.inl ?_)))
    cases hany : ((ackd g.hist.writes.length g.hist.events).drop (du.to Int).length).any (fun y => decide (true = y)) with
    | true => rfl
    | false =>
      have := (rec_acked hck).1 hany j (by omega) (by omega)
      rw [g6] at this; exact absurd hat this
  · have hcj : j < hb.len := by have := of_decide_eq_true hc1; omega
    have hat := of_decide_eq_false hat
    have wj : IntKind.i64.wrap ((j : Int) + 1) = ((j + 1 : Nat) : Int) := wrap_succ hcj (by omega)
    rw [wj]
    refine ih (j + 1) ⟨by omega, hcj, fun i a b => ?_⟩ (by omega)
    by_cases e : i = j
    · subst e; rw [g6]; exact hat
    · exact hpj i a (by omega)
  have hjl : j = hb.len := by have := of_decide_eq_false hc1; omega
  subst hjl
  have hany : ((ackd g.hist.writes.length g.hist.events).drop du.len).any (fun y => decide (true = y)) = false := (rec_acked hck).2 fun i a b => hpj i a (by omega)
  have hfr := rec_done h0 hle hany
  rw [← h2] at hfr
  have hr1 := restrict_first hck hle
  have hz := recHist_zero hck hle
  rw [g1, ← h2] at hz
  generalize hA : ackd g.hist.writes.length g.hist.events = A at hfr
  refine vecIn_to 9 3 1 none 12 (rrcB ((hs1 0 0).like (restrictH (HiD.mk ha hb hc).hist (du.to Int)).1.sizes) ((hs1 0 1).like (restrictH (HiD.mk ha hb hc).hist (du.to Int)).1.writes) ((hs1 0 2).like (restrictH (HiD.mk ha hb hc).hist (du.to Int)).1.events) (.slc none 1 []) du.len 0) (by kernel_rfl) ?_
  refine runs_loop (fun u : Nat × D × D × D × D => rrcB u.2.1 u.2.2.1 u.2.2.2.1 u.2.2.2.2 du.len u.1) (fun u => u.1 ≤ du.len ∧ u.2.1.Is Int ∧ u.2.2.1.Is Wt ∧ u.2.2.2.1.Is Ev ∧ (HiD.mk u.2.1 u.2.2.1 u.2.2.2.1).hist = recHist g.hist du.len u.1 ∧ u.2.2.2.2.Is Int ∧ u.2.2.2.2.sz = 1 ∧ u.2.2.2.2.to Int = unackN A u.1) (fun u => du.len - u.1) (fun _ => rfl) ?_
    (0, (hs1 0 0).like (restrictH (HiD.mk ha hb hc).hist (du.to Int)).1.sizes, (hs1 0 1).like (restrictH (HiD.mk ha hb hc).hist (du.to Int)).1.writes, (hs1 0 2).like (restrictH (HiD.mk ha hb hc).hist (du.to Int)).1.events, .slc none 1 []) ⟨Nat.zero_le _, D.like_is _ _, D.like_is _ _, D.like_is _ _, by simp only [like_hist]; rw [g1]; exact hz.symm, is_nil _ _, rfl, rfl⟩
  rintro ⟨j, a, b, c, r⟩ ⟨hj, i1, i2, i3, i4, i5, i6, i7⟩ ih
  simp only at hj i1 i2 i3 i4 i5 i6 i7 ih ⊢
  have e1 : a.to Int = ha.to Int := by have := congrArg Hist.sizes i4; rw [← g8]; exact this
  have e2 : b.to Wt = (hb.to Wt).take du.len := by have := congrArg Hist.writes i4; rw [← g7]; exact this
  have e3 : c.to Ev = (hc.to Ev).filter (fun x => !decide (x.write ≥ (du.len : Int))) ++ (unackN A j).map (Ev.mk 1) := by have := congrArg Hist.events i4; rw [← g6, ← hA]; exact this
  have al' := D.Is.length (α := Int) a
  have bl' := D.Is.length (α := Wt) b
  have cl' := D.Is.length (α := Ev) c
  have ul : (unackN A j).length ≤ j := filtN_len
  have fl := List.length_filter_le (fun x : Ev => !decide (x.write ≥ (du.len : Int))) (hc.to Ev)
  rw [e1] at al'; rw [e2, List.length_take] at bl'; rw [e3, List.length_append, List.length_map] at cl'
  have hRj : HiD.Right ⟨a, b, c⟩ := ⟨i1, i2, i3, by simp only; omega, by simp only; omega, by simp only; omega, by simp only; rw [e2]; exact fun q hq => rd q (List.mem_of_mem_take hq)⟩
  have rl : r.len ≤ 1048576 := by rw [D.Is.length (α := Int), i7]; omega
  apply exec_sound ctRXOk 300
  rw [rrcb_go]
  refine ⟨fun hc1 => ⟨⟨i3, by omega⟩, fun hat => ⟨⟨hRj, by omega⟩, fun hs2 hs3 => ⟨apq_need i6 rl, fun hs4 => ?_⟩⟩, fun hat => ?_⟩, fun hc1 => ?_⟩
  · have hcj : j < du.len := by have := of_decide_eq_true hc1; omega
    have hh := recHist_at hck hle hcj
    rw [← i4, hA] at hh
    have hh : decide (atEv (c.to Ev) ⟨1, (j : Int)⟩ ≥ 0) = A.getD j false := hh
    have wj : IntKind.i64.wrap ((j : Int) + 1) = ((j + 1 : Nat) : Int) := wrap_succ hcj (by omega)
    have hAj : A.getD j false = false := by rw [← hh]; simpa using hat
    have hgo := recHist_go hck hle hcj (by rw [hA]; exact hAj)
    rw [wj]
    obtain ⟨q1, q2, q3⟩ := apq_is (a := D.hd (hs3 0 0)) (b := D.hd (hs4 0 0)) (z := (j : Int)) i5 i7
    refine ih (j + 1, (hs2 0 0).like (ackH (HiD.mk a b c).hist j).1.sizes, (hs2 0 1).like (ackH (HiD.mk a b c).hist j).1.writes, (hs2 0 2).like (ackH (HiD.mk a b c).hist j).1.events, _) ⟨hcj, D.like_is _ _, D.like_is _ _, D.like_is _ _, ?_, q1, q2, ?_⟩ (by simp only; omega)
    · simp only [like_hist]; rw [i4, hgo]
    · rw [q3, unack_succ, hAj, if_neg Bool.false_ne_true]
  · have hcj : j < du.len := by have := of_decide_eq_true hc1; omega
    have hh := recHist_at hck hle hcj
    rw [← i4, hA] at hh
    have hh : decide (atEv (c.to Ev) ⟨1, (j : Int)⟩ ≥ 0) = A.getD j false := hh
    have wj : IntKind.i64.wrap ((j : Int) + 1) = ((j + 1 : Nat) : Int) := wrap_succ hcj (by omega)
    have hAj : A.getD j false = true := by rw [← hh]; simpa using hat
    rw [wj]
    refine ih (j + 1, a, b, c, r) ⟨hcj, i1, i2, i3, ?_, i5, i6, ?_⟩ (by simp only; omega)
    · simp only; rw [i4]; exact (recHist_skip hck hle (by rw [hA]; exact hAj)).symm
    · simp only; rw [i7, unack_succ, hAj, if_pos rfl]
  · have hjl : j = du.len := by have := of_decide_eq_false hc1; omega
    subst hjl
    refine ret_grLI ?_ ?_ ?_
    · rw [hfr]
      refine stands_gr (stands_dat i1 rfl) (stands_dat i2 rfl) (stands_dat i3 rfl) stands_nils stands_nils (b := false) (fun _ => rfl) ?_
      rw [← i4]; rfl
    · rw [hfr]; exact stands_dat i5 i7
    · rw [hfr]
end Go.Proofs.Ytodhhmjilnfecaa
end
section
open Go Go.Proofs Sx
namespace Go.Proofs.Ytodhhmjilnfecaa
set_option maxRecDepth 100000
set_option maxHeartbeats 0
section
variable (n : Int) (a b : D)
theorem eqi_in : exec Try.prog [] 200 (entry Try.prog 18 [.dat a, .dat b]) =
 Tree.br ((↑(D.len a) : Int) != (↑(D.len b) : Int)) (.ret (.lb false))
 (.leaf
 (Conf.mk
 (SFrm.mk 18 none none
 [Item.inLoop (cAt Try.prog 18 [1, 1, 0, 1, 0, 0]), Item.inBlock 0, Item.code (cAt Try.prog 18 [1, 1, 1])]
 (mkJ 0 [(0, .dat a), (1, .dat b), (12, .int .i64 (↑(D.len a) : Int)), (13, .int .i64 0)] 0
 26))
 [] [])) := by kernel_rfl


end
end Go.Proofs.Ytodhhmjilnfecaa
end
section
open Go Go.Proofs Sx
namespace Go.Proofs.Ytodhhmjilnfecaa
set_option maxRecDepth 100000
set_option maxHeartbeats 0
noncomputable def eqiL (a b : D) (j : Int) : Conf := Conf.mk (SFrm.mk 18 none none [Item.inLoop (cAt Try.prog 18 [1, 1, 0, 1, 0, 0]), Item.inBlock 0, Item.code (cAt Try.prog 18 [1, 1, 1])] (mkJ 0 [(0, .dat a), (1, .dat b), (12, .int .i64 (a.len : Int)), (13, .int .i64 j)] 0 26)) [] []
section
variable (n j : Int) (a b : D)
theorem eqi_go : exec Try.prog [] 200 (unroll (eqiL a b j)) =
 Tree.br (decide (j < (↑(D.len a) : Int)))
 (.all fun hs =>
 .need (0 ≤ j ∧ j < (↑(D.len a) : Int) ∧ D.sz a = 1)
 (.need (D.HasCell a (Int.toNat j) 0 (FT.int .i64))
 (.need (0 ≤ j ∧ j < (↑(D.len b) : Int) ∧ D.sz b = 1)
 (.need (D.HasCell b (Int.toNat j) 0 (FT.int .i64))
 (.br (D.getInt a (Int.toNat j) 0 != D.getInt b (Int.toNat j) 0) (.ret (.lb false))
 (.leaf
 (Conf.mk
 (SFrm.mk 18 none none
 [Item.inLoop (cAt Try.prog 18 [1, 1, 0, 1, 0, 0]), Item.inBlock 0,
 Item.code (cAt Try.prog 18 [1, 1, 1])]
 (mkJ 0
 [(0, .dat a), (1, .dat b), (12, .int .i64 (↑(D.len a) : Int)),
 (13, .int .i64 (IntKind.wrap .i64 (j + 1)))]
 0 26))
 [] [])))))))
 (.ret (.lb true)) := by kernel_rfl

end
end Go.Proofs.Ytodhhmjilnfecaa
end
section
open Go Go.Proofs Sx
namespace Go.Proofs.Ytodhhmjilnfecaa
set_option maxRecDepth 100000

theorem lawEqI : Law Try.prog 18 ((rdD.two rdD).sp spInts) := by
  refine law_in _ (by kernel_rfl) fun H w ⟨a, b⟩ hok hp => ?_
  obtain ⟨ha, hb, hlen⟩ := hp _ (List.mem_singleton.2 rfl)
  simp only at ha hb hlen
  have hla := D.Is.length (α := Int) a
  have hlb := D.Is.length (α := Int) b
  apply exec_sound (noCtr _) 200
  rw [show (rdD.two rdD).canon (a, b) = [.dat a, .dat b] from rfl, eqi_in]
  refine ⟨fun hc => ret_lb ?_, fun hc => ?_⟩
  · exact same_not fun he => by simp [hla, hlb, he] at hc
  have hc' : (a.to Int).length = (b.to Int).length := by simp [hla, hlb] at hc; omega
  refine runs_loop (fun j : Nat => eqiL a b j) (fun j => j ≤ (a.to Int).length ∧ (a.to Int).take j = (b.to Int).take j) (fun j => (a.to Int).length - j) (fun _ => rfl) ?_ 0 ⟨Nat.zero_le _, rfl⟩
  intro j ⟨hj, hpre⟩ ih
  apply exec_sound (noCtr _) 200
  rw [eqi_go]
  refine ⟨fun hc _ => ?_, fun hc => ret_lb ?_⟩
  · have hc : j < (a.to Int).length := by have := of_decide_eq_true hc; omega
    obtain ⟨c1, c2, c3⟩ := int_at ha hc
    obtain ⟨e1, e2, e3⟩ := int_at hb (hc' ▸ hc)
    refine ⟨c1, c2, e1, e2, fun h => ret_lb ?_, fun h => ?_⟩
    · refine same_not fun he => ?_
      simp only [c3, e3, he, bne_self_eq_false] at h
      cases h
    · have hx : (a.to Int)[j] = (b.to Int)[j]'(hc' ▸ hc) := by rw [c3, e3] at h; simpa using h
      have := ih (j + 1) ⟨hc, take_succ_eq hc (hc' ▸ hc) hpre hx⟩ (by omega)
      rw [← wrap_succ hc (by omega)] at this
      exact this
  · have := of_decide_eq_false hc
    exact (decide_eq_true (list_eq_of hc' (by omega) hpre)).symm

theorem lawEqIS : Law Try.prog 18 ((rdD.two rdD).sp spIntsS) :=
  law_sure lawEqI fun b => ⟨_, _, _, rfl, rfl, fun hp => by
    obtain ⟨h1, h2, h3, h4⟩ := hp _ (List.mem_singleton.2 rfl)
    exact ⟨fun p hp' => by rw [List.mem_singleton.1 hp']; exact ⟨h1, h2, h3⟩, decide_eq_true h4⟩⟩
end Go.Proofs.Ytodhhmjilnfecaa
end
section
open Go
namespace Sx
noncomputable def grP (ds : Nat → D) (g : Gr) : SV := .agg [.dat (pI (ds 0) g.hist.sizes), .dat (pW (ds 1) g.hist.writes), .dat (pE (ds 2) g.hist.events), .dat (pI (ds 3) g.waiting), .dat (pI (ds 4) g.held), .bool g.frozen]
def grL (x : GrD) : Bool := hiL x.h && (setL x.wt && setL x.hd)
theorem grL_is {x : GrD} (h : grL x = true) : x.Right := by
  simp only [grL, Bool.and_eq_true] at h
  obtain ⟨a, b, c⟩ := h
  exact ⟨hiL_is a, (setL_is b).1, (setL_is c).1, (setL_is b).2, (setL_is c).2⟩
def wtL (x : WtD) : Bool := x.d.allSec && decide (x.d.len ≤ 1048576)
theorem wtL_is {x : WtD} (h : wtL x = true) : x.Ok := by
  simp only [wtL, Bool.and_eq_true, decide_eq_true_eq] at h
  exact ⟨allSec_is h.1, h.2⟩
def w1 : Wt := ⟨0, 0, [oneS]⟩
def G0 : Gr := ⟨⟨[4], [], []⟩, [], [], false⟩
def G1 : Gr := ⟨⟨[4], [w1], [⟨0, 0⟩]⟩, [0], [], false⟩
def G2 : Gr := ⟨⟨[4], [w1, w1], [⟨0, 0⟩, ⟨0, 1⟩]⟩, [0, 1], [], false⟩
def G3 : Gr := ⟨⟨[4], [w1, w1, w1], [⟨0, 0⟩, ⟨0, 1⟩, ⟨0, 2⟩]⟩, [0, 1, 2], [], false⟩
def G4 : Gr := ⟨⟨[4], [w1, w1, w1], [⟨0, 0⟩, ⟨0, 1⟩, ⟨0, 2⟩, ⟨1, 0⟩]⟩, [1, 2], [], false⟩
def G5 : Gr := ⟨⟨[4], [w1, w1, w1], [⟨0, 0⟩, ⟨0, 1⟩, ⟨0, 2⟩, ⟨1, 0⟩]⟩, [1, 2], [], true⟩
def G6 : Gr := ⟨⟨[4], [w1, w1, w1], [⟨0, 0⟩, ⟨0, 1⟩, ⟨0, 2⟩, ⟨1, 0⟩]⟩, [2], [1], true⟩
def G7 : Gr := ⟨⟨[4], [w1, w1, w1, w1], [⟨0, 0⟩, ⟨0, 1⟩, ⟨0, 2⟩, ⟨1, 0⟩, ⟨0, 3⟩]⟩, [2, 3], [1], true⟩
def G8 : Gr := ⟨⟨[4], [w1, w1, w1, w1], [⟨0, 0⟩, ⟨0, 1⟩, ⟨0, 2⟩, ⟨1, 0⟩, ⟨0, 3⟩]⟩, [2], [1, 3], true⟩
def G9 : Gr := ⟨⟨[4], [w1, w1, w1, w1], [⟨0, 0⟩, ⟨0, 1⟩, ⟨0, 2⟩, ⟨1, 0⟩, ⟨0, 3⟩, ⟨1, 1⟩, ⟨1, 3⟩]⟩, [2], [], false⟩
def G10 : Gr := ⟨⟨[4], [w1, w1, w1, w1], [⟨0, 0⟩, ⟨0, 1⟩, ⟨0, 2⟩, ⟨1, 0⟩, ⟨0, 3⟩, ⟨1, 1⟩, ⟨1, 3⟩, ⟨1, 2⟩]⟩, [], [], false⟩
noncomputable def spNewT (x : D) : SpecR := iff (setL x) (tabD (newG (x.to Int)) [(G0, 0)] fun r => .data [] fun ds => .tup [grP ds r.1, .int .i64 r.2])
noncomputable def spIssT (x : GrD × WtD) : SpecR := iff (grL x.1 && (decide (x.1.h.e.len ≤ 1000000) && wtL x.2)) (tabD (issueG x.1.gr x.2.wt) [(G1, 0, 0), (G2, 1, 0), (G3, 2, 0), (G7, 3, 0)] fun r => .data [] fun ds => .tup [grP ds r.1, .int .i64 r.2.1, .int .i64 r.2.2])
noncomputable def spDurT (x : GrD × Int) : SpecR := iff (grL x.1) (tabD (durG x.1.gr x.2) [(G4, [0], 0), (G6, [], 0), (G8, [], 0)] fun r => .data [] fun ds => .tup [grP ds r.1, .dat (pI (ds 5) r.2.1), .int .i64 r.2.2])
noncomputable def spFrzT (x : GrD) : SpecR := iff (grL x) (tabD (freezeG x.gr) [(G5, 3, 0)] fun r => .data [] fun ds => .tup [grP ds r.1, .int .i64 r.2.1, .int .i64 r.2.2])
noncomputable def spThawT (x : GrD) : SpecR := iff (grL x) (tabD (thawG x.gr) [(G9, [1, 3], 0)] fun r => .data [] fun ds => .tup [grP ds r.1, .dat (pI (ds 5) r.2.1), .int .i64 r.2.2])
noncomputable def spRecT (x : GrD × D) : SpecR := iff (grL x.1 && setL x.2) (tabD (recoverG x.1.gr (x.2.to Int)) [(G10, [2], 0), (zGr, [], 27)] fun r => .data [] fun ds => .tup [grP ds r.1, .dat (pI (ds 5) r.2.1), .int .i64 r.2.2])
end Sx
end
section
open Go Go.Proofs Sx
namespace Go.Proofs.Ytodhhmjilnfecaa
set_option maxRecDepth 100000
noncomputable def dsP (ds : Nat → D) (g : Gr) (l : List Int) : Nat → D := fun i => match i with | 0 => (ds 0).like g.hist.sizes | 1 => (ds 1).like g.hist.writes | 2 => (ds 2).like g.hist.events | 3 => (ds 3).like g.waiting | 4 => (ds 4).like g.held | _ => (ds 5).like l
theorem grP_dsP (ds : Nat → D) (g : Gr) (l : List Int) : grP (dsP ds g l) g = grSV ds g := by
  simp only [grP, grSV, dsP, pI, pW, pE, plain_like]
theorem pI_dsP (ds : Nat → D) (g : Gr) (l : List Int) : pI (dsP ds g l 5) l = (ds 5).like l := by simp only [dsP, pI, plain_like]
theorem lawNewT : Law Try.prog 25 (rdD.one.sp spNewT) :=
  law_tab lawNewG _ _ _ _ fun b h => ⟨_, _, rfl, fun _ p hp => by rw [List.mem_singleton.1 hp]; exact setL_is h, fun ds => ⟨dsP ds (newG (b.to Int)).1 [], by simp only [grP_dsP]⟩⟩
theorem lawIssT : Law Try.prog 13 ((rdGr.two rdWt).sp spIssT) :=
  law_tab lawIssueG _ _ _ _ fun b h => ⟨_, _, rfl, fun _ p hp => by
    rw [List.mem_singleton.1 hp]
    simp only [Bool.and_eq_true, decide_eq_true_eq] at h
    exact ⟨grL_is h.1, h.2.1, wtL_is h.2.2⟩, fun ds => ⟨dsP ds (issueG b.1.gr b.2.wt).1 [], by simp only [grP_dsP]⟩⟩
theorem lawDurT : Law Try.prog 15 ((rdGr.two rdInt).sp spDurT) :=
  law_tab lawDurG _ _ _ _ fun b h => ⟨_, _, rfl, fun _ p hp => by rw [List.mem_singleton.1 hp]; exact grL_is h, fun ds => ⟨dsP ds (durG b.1.gr b.2).1 (durG b.1.gr b.2).2.1, by simp only [grP_dsP, pI_dsP]⟩⟩
theorem lawFrzT : Law Try.prog 19 (rdGr.one.sp spFrzT) :=
  law_tab lawFrzG _ _ _ _ fun b h => ⟨_, _, rfl, fun _ p hp => by rw [List.mem_singleton.1 hp]; exact grL_is h, fun ds => ⟨dsP ds (freezeG b.gr).1 [], by simp only [grP_dsP]⟩⟩
theorem lawThawT : Law Try.prog 21 (rdGr.one.sp spThawT) :=
  law_tab lawThawG _ _ _ _ fun b h => ⟨_, _, rfl, fun _ p hp => by rw [List.mem_singleton.1 hp]; exact grL_is h, fun ds => ⟨dsP ds (thawG b.gr).1 (thawG b.gr).2.1, by simp only [grP_dsP, pI_dsP]⟩⟩
theorem lawRecT : Law Try.prog 23 ((rdGr.two rdD).sp spRecT) :=
  law_tab lawRecG _ _ _ _ fun b h => ⟨_, _, rfl, fun _ p hp => by
    rw [List.mem_singleton.1 hp]
    simp only [Bool.and_eq_true] at h
    exact ⟨grL_is h.1, setL_is h.2⟩, fun ds => ⟨dsP ds (recoverG b.1.gr (b.2.to Int)).1 (recoverG b.1.gr (b.2.to Int)).2.1, by simp only [grP_dsP, pI_dsP]⟩⟩
noncomputable def ctTG : Ctrs := [(25, ctrOf (rdD.one.sp spNewT)), (13, ctrOf ((rdGr.two rdWt).sp spIssT)), (15, ctrOf ((rdGr.two rdInt).sp spDurT)), (19, ctrOf (rdGr.one.sp spFrzT)), (21, ctrOf (rdGr.one.sp spThawT)), (23, ctrOf ((rdGr.two rdD).sp spRecT)), (18, ctrOf ((rdD.two rdD).sp spIntsS))]
theorem ctTGOk : Ctrs.Ok Try.prog ctTG := by
  intro x hx
  simp only [ctTG, List.mem_cons, List.not_mem_nil, or_false] at hx
  rcases hx with rfl | rfl | rfl | rfl | rfl | rfl | rfl
  · exact ctrOf_ok lawNewT
  · exact ctrOf_ok lawIssT
  · exact ctrOf_ok lawDurT
  · exact ctrOf_ok lawFrzT
  · exact ctrOf_ok lawThawT
  · exact ctrOf_ok lawRecT
  · exact ctrOf_ok lawEqIS
end Go.Proofs.Ytodhhmjilnfecaa
end
section
open Go Go.Proofs Sx
namespace Go.Proofs.Ytodhhmjilnfecaa
set_option maxRecDepth 100000
set_option maxHeartbeats 0
section
theorem awake_in : (execU Try.prog ctTG (fun _ => true) 900 (entry Try.prog 12 [])).dec =
 Tree.all fun hs =>
 .all fun hs =>
 .all fun hs =>
 .all fun hs =>
 .all fun hs =>
 .all fun hs =>
 .all fun hs =>
 .all fun hs_1 =>
 .all fun hs_2 =>
 .all fun hs_3 =>
 .all fun hs_4 =>
 .all fun hs_5 =>
 .all fun hs_6 =>
 .all fun hs_7 =>
 .all fun hs_8 =>
 .all fun hs_9 =>
 .all fun hs_10 =>
 .need
 (D.Is Int (pI (hs 0 5) [0]) ∧
 D.Is Int (D.slc (D.hd (hs_10 0 0)) 1 [[D.int .i64 0]]) ∧
 D.len (pI (hs 0 5) [0]) ≤ 1048576 ∧
 D.to Int (pI (hs 0 5) [0]) =
 D.to Int (D.slc (D.hd (hs_10 0 0)) 1 [[D.int .i64 0]]))
 (.all fun hs =>
 .need
 (D.Is Int (pI (hs_5 0 5) [1, 3]) ∧
 D.Is Int
 (D.slc (D.hd (hs 0 0)) 1 [[D.int .i64 1], [D.int .i64 3]]) ∧
 D.len (pI (hs_5 0 5) [1, 3]) ≤ 1048576 ∧
 D.to Int (pI (hs_5 0 5) [1, 3]) =
 D.to Int
 (D.slc (D.hd (hs 0 0)) 1
 [[D.int .i64 1], [D.int .i64 3]]))
 (.all fun hs =>
 .need
 (D.Is Int (pI (hs_5 0 3) [2]) ∧
 D.Is Int (D.slc (D.hd (hs 0 0)) 1 [[D.int .i64 2]]) ∧
 D.len (pI (hs_5 0 3) [2]) ≤ 1048576 ∧
 D.to Int (pI (hs_5 0 3) [2]) =
 D.to Int (D.slc (D.hd (hs 0 0)) 1 [[D.int .i64 2]]))
 (.all fun hs =>
 .need
 (D.Is Int (pI (hs_7 0 5) [2]) ∧
 D.Is Int (D.slc (D.hd (hs 0 0)) 1 [[D.int .i64 2]]) ∧
 D.len (pI (hs_7 0 5) [2]) ≤ 1048576 ∧
 D.to Int (pI (hs_7 0 5) [2]) =
 D.to Int (D.slc (D.hd (hs 0 0)) 1 [[D.int .i64 2]]))
 (.ret
 (.bool
 (decide
 ((↑(D.len
 (pE (hs_7 0 2)
 [Ev.mk 0 0, Ev.mk 0 1, Ev.mk 0 2, Ev.mk 1 0, Ev.mk 0 3,
 Ev.mk 1 1, Ev.mk 1 3, Ev.mk 1 2])) :
 Int) =
 8))))))) := by kernel_rfl

end
end Go.Proofs.Ytodhhmjilnfecaa
end
section
open Go Go.Proofs Sx
namespace Sx
def spSameGS (x : GrD × GrD) : SpecR := .scalar [x.1.Right ∧ x.2.h.s.Is Int ∧ x.2.h.w.Is Wt ∧ x.2.h.e.Is Ev ∧ x.2.wt.Is Int ∧ x.2.hd.Is Int ∧ x.1.gr = x.2.gr] (.lb true)
end Sx
namespace Go.Proofs.Ytodhhmjilnfecaa
set_option maxRecDepth 100000
set_option maxHeartbeats 0
theorem lawAwakeG : Law Try.prog 12 (rdNone.sp spTrue) := by
  refine law_in _ (by kernel_rfl) fun H w _ hok hp => ?_
  refine dec_sound ctTGOk (fun _ => true) 900 (entry Try.prog 12 []) awake_in ?_
  repeat' first
    | with_reducible refine holds_all.2 fun _ => ?_
    | refine holds_need.2 ⟨⟨allInt_is rfl, allInt_is rfl, Nat.le_of_ble_eq_true rfl, rfl⟩, ?_⟩
    | exact ret_sure rfl
theorem lawSameGS : Law Try.prog 17 ((rdGr.two rdGr).sp spSameGS) :=
  law_sure lawSameG fun b => ⟨_, _, _, rfl, rfl, fun hp => by
    obtain ⟨h1, h2, h3, h4, h5, h6, h7⟩ := hp _ (List.mem_singleton.2 rfl)
    exact ⟨fun p hp' => by rw [List.mem_singleton.1 hp']; exact ⟨h1, h2, h3, h4, h5, h6⟩, decide_eq_true h7⟩⟩
noncomputable def ctLG : Ctrs := [(11, ctrOf (rdGr.one.sp spFewG)), (12, ctrOf (rdNone.sp spTrue)), (17, ctrOf ((rdGr.two rdGr).sp spSameGS)), (18, ctrOf ((rdD.two rdD).sp spIntsS)),
  (25, ctrOf (rdD.one.sp spNewG)), (29, ctrOf (rdD.one.sp spNewG)), (30, ctrOf (rdGr.one.sp spCkG)), (31, ctrOf (rdGr.one.sp spCkG)),
  (13, ctrOf ((rdGr.two rdWt).sp spIssueG)), (14, ctrOf ((rdGr.two rdWt).sp spIssueG)), (15, ctrOf ((rdGr.two rdInt).sp spDurG)), (16, ctrOf ((rdGr.two rdInt).sp spDurR)),
  (19, ctrOf (rdGr.one.sp spFrzG)), (20, ctrOf (rdGr.one.sp spFrzG)), (21, ctrOf (rdGr.one.sp spThawG)), (22, ctrOf (rdGr.one.sp spThawR)),
  (23, ctrOf ((rdGr.two rdD).sp spRecG)), (24, ctrOf ((rdGr.two rdD).sp spRecR))]
theorem ctLGOk : Ctrs.Ok Try.prog ctLG := by
  intro x hx
  simp only [ctLG, List.mem_cons, List.not_mem_nil, or_false] at hx
  rcases hx with rfl | rfl | rfl | rfl | rfl | rfl | rfl | rfl | rfl | rfl | rfl | rfl | rfl | rfl | rfl | rfl | rfl | rfl
  · exact ctrOf_ok lawFewG
  · exact ctrOf_ok lawAwakeG
  · exact ctrOf_ok lawSameGS
  · exact ctrOf_ok lawEqIS
  · exact ctrOf_ok lawNewG
  · exact ctrOf_ok lawNewGR
  · exact ctrOf_ok lawCkG
  · exact ctrOf_ok lawRkG
  · exact ctrOf_ok lawIssueG
  · exact ctrOf_ok lawIssGR
  · exact ctrOf_ok lawDurG
  · exact ctrOf_ok lawDurGR
  · exact ctrOf_ok lawFrzG
  · exact ctrOf_ok lawFrzGR
  · exact ctrOf_ok lawThawG
  · exact ctrOf_ok lawThawGR
  · exact ctrOf_ok lawRecG
  · exact ctrOf_ok lawRecGR
end Go.Proofs.Ytodhhmjilnfecaa
end
section
open Go Go.Proofs Sx
namespace Go.Proofs.Ytodhhmjilnfecaa
set_option maxRecDepth 100000
set_option maxHeartbeats 0
section
variable (ha hb hc wt hd d : D) (fz : Bool) (v s n : Int)
theorem gmakes_in : exec Try.prog ctLG 400 (entry Try.prog 7 [.dat d, .agg [.dat ha, .dat hb, .dat hc, .dat wt, .dat hd, .bool fz]]) =
 Tree.need (D.Is Int ha ∧ D.Is Wt hb ∧ D.Is Ev hc ∧ D.Is Int wt ∧ D.Is Int hd)
 (.br (!fewG (GrD.gr (GrD.mk (HiD.mk ha hb hc) wt hd fz))) (.ret (.lb true))
 (.br (decide ((↑(D.len d) : Int) > 20)) (.ret (.lb true))
 (.need (D.Is Int d ∧ D.len d ≤ 1048576)
 (.all fun hs =>
 .need (D.Is Int d ∧ D.len d ≤ 1048576)
 (.all fun hs_1 =>
 .all fun hs_2 =>
 .br (decide (Prod.snd (newG (D.to Int d)) = Prod.snd (newG (D.to Int d))))
 (.br
 (decide
 (openErr (GrD.gr (GrD.mk (HiD.mk ha hb hc) wt hd fz)) =
 openErr (GrD.gr (GrD.mk (HiD.mk ha hb hc) wt hd fz))))
 (.need
 (GrD.Right
 (GrD.mk
 (HiD.mk (D.like (hs 0 0) (Hist.sizes (Gr.hist (Prod.fst (newG (D.to Int d))))))
 (D.like (hs 0 1) (Hist.writes (Gr.hist (Prod.fst (newG (D.to Int d))))))
 (D.like (hs 0 2) (Hist.events (Gr.hist (Prod.fst (newG (D.to Int d)))))))
 (D.like (hs 0 3) (Gr.waiting (Prod.fst (newG (D.to Int d)))))
 (D.like (hs 0 4) (Gr.held (Prod.fst (newG (D.to Int d)))))
 (Gr.frozen (Prod.fst (newG (D.to Int d))))) ∧
 D.Is Int (D.like (hs_1 0 0) (Hist.sizes (Gr.hist (Prod.fst (newG (D.to Int d)))))) ∧
 D.Is Wt (D.like (hs_1 0 1) (Hist.writes (Gr.hist (Prod.fst (newG (D.to Int d)))))) ∧
 D.Is Ev (D.like (hs_1 0 2) (Hist.events (Gr.hist (Prod.fst (newG (D.to Int d)))))) ∧
 D.Is Int (D.like (hs_1 0 3) (Gr.waiting (Prod.fst (newG (D.to Int d))))) ∧
 D.Is Int (D.like (hs_1 0 4) (Gr.held (Prod.fst (newG (D.to Int d))))) ∧
 GrD.gr
 (GrD.mk
 (HiD.mk (D.like (hs 0 0) (Hist.sizes (Gr.hist (Prod.fst (newG (D.to Int d))))))
 (D.like (hs 0 1) (Hist.writes (Gr.hist (Prod.fst (newG (D.to Int d))))))
 (D.like (hs 0 2) (Hist.events (Gr.hist (Prod.fst (newG (D.to Int d)))))))
 (D.like (hs 0 3) (Gr.waiting (Prod.fst (newG (D.to Int d)))))
 (D.like (hs 0 4) (Gr.held (Prod.fst (newG (D.to Int d)))))
 (Gr.frozen (Prod.fst (newG (D.to Int d))))) =
 GrD.gr
 (GrD.mk
 (HiD.mk
 (D.like (hs_1 0 0) (Hist.sizes (Gr.hist (Prod.fst (newG (D.to Int d))))))
 (D.like (hs_1 0 1) (Hist.writes (Gr.hist (Prod.fst (newG (D.to Int d))))))
 (D.like (hs_1 0 2) (Hist.events (Gr.hist (Prod.fst (newG (D.to Int d)))))))
 (D.like (hs_1 0 3) (Gr.waiting (Prod.fst (newG (D.to Int d)))))
 (D.like (hs_1 0 4) (Gr.held (Prod.fst (newG (D.to Int d)))))
 (Gr.frozen (Prod.fst (newG (D.to Int d))))))
 (.need (decide (Prod.snd (newG (D.to Int d)) = Prod.snd (newG (D.to Int d))) = true)
 (.need (decide (Prod.snd (newG (D.to Int d)) = Prod.snd (newG (D.to Int d))) = true)
 (.need (GrD.Right (GrD.mk (HiD.mk ha hb hc) wt hd fz))
 (.need (decide (Prod.snd (newG (D.to Int d)) = Prod.snd (newG (D.to Int d))) = true)
 (.need (decide (Prod.snd (newG (D.to Int d)) = Prod.snd (newG (D.to Int d))) = true)
 (.need (GrD.Right (GrD.mk (HiD.mk ha hb hc) wt hd fz))
 (.need
 (decide (Prod.snd (newG (D.to Int d)) = Prod.snd (newG (D.to Int d))) = true)
 (.need
 (decide (Prod.snd (newG (D.to Int d)) = Prod.snd (newG (D.to Int d))) = true)
 (.need
 (decide
 (openErr (GrD.gr (GrD.mk (HiD.mk ha hb hc) wt hd fz)) =
 openErr (GrD.gr (GrD.mk (HiD.mk ha hb hc) wt hd fz))) =
 true)
 (.need
 (decide
 (openErr (GrD.gr (GrD.mk (HiD.mk ha hb hc) wt hd fz)) =
 openErr (GrD.gr (GrD.mk (HiD.mk ha hb hc) wt hd fz))) =
 true)
 (.ret (.lb true)))))))))))))
 (.need
 (GrD.Right
 (GrD.mk
 (HiD.mk (D.like (hs 0 0) (Hist.sizes (Gr.hist (Prod.fst (newG (D.to Int d))))))
 (D.like (hs 0 1) (Hist.writes (Gr.hist (Prod.fst (newG (D.to Int d))))))
 (D.like (hs 0 2) (Hist.events (Gr.hist (Prod.fst (newG (D.to Int d)))))))
 (D.like (hs 0 3) (Gr.waiting (Prod.fst (newG (D.to Int d)))))
 (D.like (hs 0 4) (Gr.held (Prod.fst (newG (D.to Int d)))))
 (Gr.frozen (Prod.fst (newG (D.to Int d))))) ∧
 D.Is Int (D.like (hs_1 0 0) (Hist.sizes (Gr.hist (Prod.fst (newG (D.to Int d)))))) ∧
 D.Is Wt (D.like (hs_1 0 1) (Hist.writes (Gr.hist (Prod.fst (newG (D.to Int d)))))) ∧
 D.Is Ev (D.like (hs_1 0 2) (Hist.events (Gr.hist (Prod.fst (newG (D.to Int d)))))) ∧
 D.Is Int (D.like (hs_1 0 3) (Gr.waiting (Prod.fst (newG (D.to Int d))))) ∧
 D.Is Int (D.like (hs_1 0 4) (Gr.held (Prod.fst (newG (D.to Int d))))) ∧
 GrD.gr
 (GrD.mk
 (HiD.mk (D.like (hs 0 0) (Hist.sizes (Gr.hist (Prod.fst (newG (D.to Int d))))))
 (D.like (hs 0 1) (Hist.writes (Gr.hist (Prod.fst (newG (D.to Int d))))))
 (D.like (hs 0 2) (Hist.events (Gr.hist (Prod.fst (newG (D.to Int d)))))))
 (D.like (hs 0 3) (Gr.waiting (Prod.fst (newG (D.to Int d)))))
 (D.like (hs 0 4) (Gr.held (Prod.fst (newG (D.to Int d)))))
 (Gr.frozen (Prod.fst (newG (D.to Int d))))) =
 GrD.gr
 (GrD.mk
 (HiD.mk
 (D.like (hs_1 0 0) (Hist.sizes (Gr.hist (Prod.fst (newG (D.to Int d))))))
 (D.like (hs_1 0 1) (Hist.writes (Gr.hist (Prod.fst (newG (D.to Int d))))))
 (D.like (hs_1 0 2) (Hist.events (Gr.hist (Prod.fst (newG (D.to Int d)))))))
 (D.like (hs_1 0 3) (Gr.waiting (Prod.fst (newG (D.to Int d)))))
 (D.like (hs_1 0 4) (Gr.held (Prod.fst (newG (D.to Int d)))))
 (Gr.frozen (Prod.fst (newG (D.to Int d))))))
 (.need (decide (Prod.snd (newG (D.to Int d)) = Prod.snd (newG (D.to Int d))) = true)
 (.need (decide (Prod.snd (newG (D.to Int d)) = Prod.snd (newG (D.to Int d))) = true)
 (.need (GrD.Right (GrD.mk (HiD.mk ha hb hc) wt hd fz))
 (.need (decide (Prod.snd (newG (D.to Int d)) = Prod.snd (newG (D.to Int d))) = true)
 (.need (decide (Prod.snd (newG (D.to Int d)) = Prod.snd (newG (D.to Int d))) = true)
 (.need (GrD.Right (GrD.mk (HiD.mk ha hb hc) wt hd fz))
 (.need
 (decide (Prod.snd (newG (D.to Int d)) = Prod.snd (newG (D.to Int d))) = true)
 (.need
 (decide (Prod.snd (newG (D.to Int d)) = Prod.snd (newG (D.to Int d))) = true)
 (.need
 (decide
 (openErr (GrD.gr (GrD.mk (HiD.mk ha hb hc) wt hd fz)) =
 openErr (GrD.gr (GrD.mk (HiD.mk ha hb hc) wt hd fz))) =
 false)
 (.need
 (decide
 (openErr (GrD.gr (GrD.mk (HiD.mk ha hb hc) wt hd fz)) =
 openErr (GrD.gr (GrD.mk (HiD.mk ha hb hc) wt hd fz))) =
 false)
 (.ret (.lb false))))))))))))))
 (.need
 (GrD.Right
 (GrD.mk
 (HiD.mk (D.like (hs 0 0) (Hist.sizes (Gr.hist (Prod.fst (newG (D.to Int d))))))
 (D.like (hs 0 1) (Hist.writes (Gr.hist (Prod.fst (newG (D.to Int d))))))
 (D.like (hs 0 2) (Hist.events (Gr.hist (Prod.fst (newG (D.to Int d)))))))
 (D.like (hs 0 3) (Gr.waiting (Prod.fst (newG (D.to Int d)))))
 (D.like (hs 0 4) (Gr.held (Prod.fst (newG (D.to Int d)))))
 (Gr.frozen (Prod.fst (newG (D.to Int d))))) ∧
 D.Is Int (D.like (hs_1 0 0) (Hist.sizes (Gr.hist (Prod.fst (newG (D.to Int d)))))) ∧
 D.Is Wt (D.like (hs_1 0 1) (Hist.writes (Gr.hist (Prod.fst (newG (D.to Int d)))))) ∧
 D.Is Ev (D.like (hs_1 0 2) (Hist.events (Gr.hist (Prod.fst (newG (D.to Int d)))))) ∧
 D.Is Int (D.like (hs_1 0 3) (Gr.waiting (Prod.fst (newG (D.to Int d))))) ∧
 D.Is Int (D.like (hs_1 0 4) (Gr.held (Prod.fst (newG (D.to Int d))))) ∧
 GrD.gr
 (GrD.mk
 (HiD.mk (D.like (hs 0 0) (Hist.sizes (Gr.hist (Prod.fst (newG (D.to Int d))))))
 (D.like (hs 0 1) (Hist.writes (Gr.hist (Prod.fst (newG (D.to Int d))))))
 (D.like (hs 0 2) (Hist.events (Gr.hist (Prod.fst (newG (D.to Int d)))))))
 (D.like (hs 0 3) (Gr.waiting (Prod.fst (newG (D.to Int d)))))
 (D.like (hs 0 4) (Gr.held (Prod.fst (newG (D.to Int d)))))
 (Gr.frozen (Prod.fst (newG (D.to Int d))))) =
 GrD.gr
 (GrD.mk
 (HiD.mk (D.like (hs_1 0 0) (Hist.sizes (Gr.hist (Prod.fst (newG (D.to Int d))))))
 (D.like (hs_1 0 1) (Hist.writes (Gr.hist (Prod.fst (newG (D.to Int d))))))
 (D.like (hs_1 0 2) (Hist.events (Gr.hist (Prod.fst (newG (D.to Int d)))))))
 (D.like (hs_1 0 3) (Gr.waiting (Prod.fst (newG (D.to Int d)))))
 (D.like (hs_1 0 4) (Gr.held (Prod.fst (newG (D.to Int d)))))
 (Gr.frozen (Prod.fst (newG (D.to Int d))))))
 (.need (decide (Prod.snd (newG (D.to Int d)) = Prod.snd (newG (D.to Int d))) = false)
 (.need (decide (Prod.snd (newG (D.to Int d)) = Prod.snd (newG (D.to Int d))) = false)
 (.need (decide (Prod.snd (newG (D.to Int d)) = Prod.snd (newG (D.to Int d))) = false)
 (.need (decide (Prod.snd (newG (D.to Int d)) = Prod.snd (newG (D.to Int d))) = false)
 (.need (decide (Prod.snd (newG (D.to Int d)) = Prod.snd (newG (D.to Int d))) = false)
 (.need (decide (Prod.snd (newG (D.to Int d)) = Prod.snd (newG (D.to Int d))) = false)
 (.ret (.lb false)))))))))))))) := by kernel_rfl




end
end Go.Proofs.Ytodhhmjilnfecaa
end
section
open Go
namespace Sx
theorem len_without (l : List Int) (n : Int) : (withoutI l n).length + cntI l n = l.length := by
  unfold withoutI
  induction l with
  | nil => rfl
  | cons x r ih =>
    rw [List.filter_cons, cntI_cons]
    by_cases hx : x = n
    · subst hx; rw [if_neg (by simp), if_pos rfl, List.length_cons]; omega
    · rw [if_pos (by simp [hx]), if_neg hx, List.length_cons, List.length_cons]; omega
theorem cnt_nodup {l : List Int} (h : l.Nodup) (n : Int) : cntI l n ≤ 1 := by
  induction l with
  | nil => simp [cntI]
  | cons x r ih =>
    rw [List.nodup_cons] at h
    rw [cntI_cons]
    by_cases hx : x = n
    · subst hx
      rw [if_pos rfl]
      have : cntI r x = 0 := by
        rcases Nat.eq_zero_or_pos (cntI r x) with h0 | h0
        · exact h0
        · exact absurd (cntI_pos.1 h0) h.1
      omega
    · rw [if_neg hx]; have := ih h.2; omega
theorem nodup_len : ∀ {m : Nat} {l : List Int}, l.Nodup → (∀ x, x ∈ l → 0 ≤ x ∧ x < (m : Int)) → l.length ≤ m
  | 0, l, _, h => by
    cases l with
    | nil => simp
    | cons x r => have := h x List.mem_cons_self; omega
  | m + 1, l, hn, h => by
    have h1 := nodup_len (m := m) (l := withoutI l m) (hn.filter _) fun x hx => by
      obtain ⟨a, b⟩ := without_mem.1 hx
      have := h x a; omega
    have h2 := len_without l m
    have h3 := cnt_nodup hn m
    omega
def acksOf (l : List Ev) : List Int := (l.filter fun e => decide (e.kind = 1)).map Ev.write
theorem acksOf_app (a b : List Ev) : acksOf (a ++ b) = acksOf a ++ acksOf b := by simp [acksOf]
theorem acksOf_mem {l : List Ev} {w : Int} : w ∈ acksOf l ↔ (⟨1, w⟩ : Ev) ∈ l := by
  unfold acksOf
  simp only [List.mem_map, List.mem_filter, decide_eq_true_eq]
  constructor
  · rintro ⟨⟨k, x⟩, ⟨h1, h2⟩, h3⟩; simp only at h2 h3; subst h2; subst h3; exact h1
  · intro h; exact ⟨_, ⟨h, rfl⟩, rfl⟩
theorem evOk_acks {n : Nat} {l : List Ev} (h : EvOk n l) : (acksOf l).Nodup ∧ (∀ x, x ∈ acksOf l → 0 ≤ x ∧ x < (iss l : Int)) ∧ l.length = iss l + (acksOf l).length := by
  induction h with
  | nil => exact ⟨List.nodup_nil, by simp [acksOf], rfl⟩
  | snoc l e hl hs ih =>
    obtain ⟨i1, i2, i3⟩ := ih
    rw [acksOf_app, iss_app, iss_one]
    rcases hs with ⟨k1, k2, k3⟩ | ⟨k1, k2, k3, k4⟩
    · have : acksOf [e] = [] := by unfold acksOf; rw [List.filter_cons, if_neg (by simp [k1])]; rfl
      rw [this, List.append_nil, if_pos k1]
      exact ⟨i1, fun x hx => by have := i2 x hx; omega, by simp only [List.length_append, List.length_singleton]; omega⟩
    · have : acksOf [e] = [e.write] := by unfold acksOf; rw [List.filter_cons, if_pos (by simp [k1])]; rfl
      rw [this, if_neg (by omega)]
      refine ⟨?_, fun x hx => ?_, by simp only [List.length_append, List.length_singleton]; omega⟩
      · rw [List.nodup_append]
        refine ⟨i1, by simp, fun a ha b hb => ?_⟩
        rw [List.mem_singleton] at hb
        subst hb
        intro e'; subst e'
        exact k4 (acksOf_mem.1 ha)
      · rcases List.mem_append.1 hx with hx | hx
        · have := i2 x hx; omega
        · rw [List.mem_singleton.1 hx]; omega
theorem sizes_len {s : List Int} (h : sizesErr s = 0) : s.length ≤ 8 ∧ ∀ x, x ∈ s → 1 ≤ x ∧ x ≤ 4096 := by
  unfold sizesErr at h
  split at h
  · exact absurd h (by decide)
  · split at h
    · exact absurd h (by decide)
    · rename_i h1 h2
      refine ⟨by omega, fun x hx => ?_⟩
      have h2 : s.any badSize = false := by simpa using h2
      have := List.any_eq_false.1 h2 x hx
      simp only [badSize, Bool.or_eq_true, decide_eq_true_eq, not_or] at this
      omega
theorem fits_data {s : List Int} {w : Wt} (hs : sizesErr s = 0) (h : fitsErr s w = 0) : w.data.length ≤ 4096 := by
  unfold fitsErr at h
  split at h
  · exact absurd h (by decide)
  · rename_i h1
    split at h
    · exact absurd h (by decide)
    · split at h
      · exact absurd h (by decide)
      · rename_i h3
        have hl : w.vol.toNat < s.length := by omega
        have := (sizes_len hs).2 (s.getD w.vol.toNat 0) (by rw [List.getD_eq_getElem?_getD, List.getElem?_eq_getElem hl]; exact List.getElem_mem hl)
        omega
structure GrB (g : Gr) : Prop where
  s : g.hist.sizes.length ≤ 8192
  w : g.hist.writes.length ≤ 8192
  e : g.hist.events.length ≤ 8192
  wt : g.waiting.length ≤ 8192
  hd : g.held.length ≤ 8192
  d : ∀ w, w ∈ g.hist.writes → w.data.length ≤ 4096
theorem hist_b {h : Hist} (hc : (checkH h).1 = 0) : h.sizes.length ≤ 8 ∧ h.writes.length ≤ 4096 ∧ h.events.length ≤ 8192 ∧ ∀ w, w ∈ h.writes → w.data.length ≤ 4096 := by
  obtain ⟨k1, k2, k3, k4, k5⟩ := checkH_iff.1 hc
  obtain ⟨a1, a2, a3⟩ := evOk_acks k4
  have := nodup_len a1 a2
  exact ⟨(sizes_len k1).1, k2, by omega, fun w hw => fits_data k1 (k3 w hw)⟩
theorem valid_b {g : Gr} (h : openErr g = 0) : GrB g := by
  obtain ⟨hc, h1, h2, h3, h4⟩ := (openErr_iff g).1 h
  obtain ⟨a, b, c, d⟩ := hist_b hc
  have w1 := nodup_len (m := g.hist.writes.length) (l := g.waiting) (h1.imp (by intro a b h; omega)) fun x hx => h2 x (List.mem_append_left _ hx)
  have w2 := nodup_len (held_free h).1 fun x hx => ((held_free h).2 x hx).1
  exact ⟨by omega, by omega, by omega, by omega, by omega, d⟩
theorem zGr_b : GrB zGr := ⟨by simp [zGr, zHist], by simp [zGr, zHist], by simp [zGr, zHist], by simp [zGr], by simp [zGr], by simp [zGr, zHist]⟩
theorem newG_cases (s : List Int) : (newG s).1 = zGr ∧ (newG s).2 ≠ 0 ∨ (newG s).2 = 0 ∧ openErr (newG s).1 = 0 ∧ newG s = ((⟨⟨s, [], []⟩, [], [], false⟩ : Gr), (0 : Int)) := by
  unfold newG
  by_cases h : sizesErr s ≠ 0
  · rw [if_pos h]; exact .inl ⟨rfl, h⟩
  · rw [if_neg h]
    have h : sizesErr s = 0 := by simpa using h
    refine .inr ⟨rfl, ?_, rfl⟩
    refine (openErr_iff _).2 ⟨checkH_iff.2 ⟨h, by simp, by simp, .nil, rfl⟩, List.Pairwise.nil, by simp, fun i hi => by simp at hi, fun h => absurd rfl h⟩
theorem newG_b (s : List Int) : GrB (newG s).1 := by
  rcases newG_cases s with h | h
  · rw [h.1]; exact zGr_b
  · exact valid_b h.2.1
/-! The acknowledgements. -/
/-! As data. -/
theorem likeG_right {g : Gr} {a b c d e : D} {z : Bool} (h : GrB g) : GrD.Right (GrD.mk (HiD.mk (a.like g.hist.sizes) (b.like g.hist.writes) (c.like g.hist.events)) (d.like g.waiting) (e.like g.held) z) :=
  ⟨like_right ⟨Nat.le_trans h.s (by decide), Nat.le_trans h.w (by decide), Nat.le_trans h.e (by decide), fun w hw => Nat.le_trans (h.d w hw) (by decide)⟩, D.like_is _ _, D.like_is _ _, by simp only [llen]; exact Nat.le_trans h.wt (by decide), by simp only [llen]; exact Nat.le_trans h.hd (by decide)⟩
theorem likeG_gr {g : Gr} {a b c d e : D} : GrD.gr (GrD.mk (HiD.mk (a.like g.hist.sizes) (b.like g.hist.writes) (c.like g.hist.events)) (d.like g.waiting) (e.like g.held) g.frozen) = g := by
  simp only [GrD.gr, like_hist, D.like_to]
theorem sameG_need {g : Gr} {a b c d e a' b' c' d' e' : D} (h : GrB g) : GrD.Right (GrD.mk (HiD.mk (a.like g.hist.sizes) (b.like g.hist.writes) (c.like g.hist.events)) (d.like g.waiting) (e.like g.held) g.frozen) ∧
    (a'.like g.hist.sizes).Is Int ∧ (b'.like g.hist.writes).Is Wt ∧ (c'.like g.hist.events).Is Ev ∧ (d'.like g.waiting).Is Int ∧ (e'.like g.held).Is Int ∧
    GrD.gr (GrD.mk (HiD.mk (a.like g.hist.sizes) (b.like g.hist.writes) (c.like g.hist.events)) (d.like g.waiting) (e.like g.held) g.frozen) = GrD.gr (GrD.mk (HiD.mk (a'.like g.hist.sizes) (b'.like g.hist.writes) (c'.like g.hist.events)) (d'.like g.waiting) (e'.like g.held) g.frozen) :=
  ⟨likeG_right h, D.like_is _ _, D.like_is _ _, D.like_is _ _, D.like_is _ _, D.like_is _ _, by rw [likeG_gr, likeG_gr]⟩
theorem fewG_right {x : GrD} (h1 : x.h.s.Is Int) (h2 : x.h.w.Is Wt) (h3 : x.h.e.Is Ev) (h4 : x.wt.Is Int) (h5 : x.hd.Is Int) (h : fewG x.gr = true) : x.Right ∧ x.h.e.len ≤ 1000 ∧ x.hd.len ≤ 1000 := by
  simp only [fewG, Bool.and_eq_true, decide_eq_true_eq] at h
  obtain ⟨a, b, c⟩ := h
  obtain ⟨hR, hE⟩ := few_right (x := x.h) h1 h2 h3 a
  have l1 := D.Is.length (α := Int) x.wt
  have l2 := D.Is.length (α := Int) x.hd
  have l3 := D.Is.length (α := Ev) x.h.e
  simp only [fewH, Bool.and_eq_true, decide_eq_true_eq] at a
  have b : (x.wt.to Int).length ≤ 50 := b
  have c : (x.hd.to Int).length ≤ 50 := c
  have a3 : (x.h.e.to Ev).length ≤ 90 := a.2.2.1
  exact ⟨⟨hR, h4, h5, by omega, by omega⟩, by omega, by omega⟩
end Sx
end
section
open Go Go.Proofs Sx
namespace Sx
def spGMakes (x : D × GrD) : SpecR := .scalar [x.2.h.s.Is Int ∧ x.2.h.w.Is Wt ∧ x.2.h.e.Is Ev ∧ x.2.wt.Is Int ∧ x.2.hd.Is Int ∧ x.1.Is Int] (.lb true)
def spGIssues (x : GrD × WtD × Int) : SpecR := .scalar [x.1.h.s.Is Int ∧ x.1.h.w.Is Wt ∧ x.1.h.e.Is Ev ∧ x.1.wt.Is Int ∧ x.1.hd.Is Int ∧ x.2.1.d.Is Sec] (.lb true)
def spGFreezes (x : GrD) : SpecR := .scalar [x.h.s.Is Int ∧ x.h.w.Is Wt ∧ x.h.e.Is Ev ∧ x.wt.Is Int ∧ x.hd.Is Int] (.lb true)
def spGRecovers (x : GrD × D) : SpecR := .scalar [x.1.h.s.Is Int ∧ x.1.h.w.Is Wt ∧ x.1.h.e.Is Ev ∧ x.1.wt.Is Int ∧ x.1.hd.Is Int ∧ x.2.Is Int] (.lb true)
end Sx
namespace Go.Proofs.Ytodhhmjilnfecaa
set_option maxRecDepth 100000
set_option maxHeartbeats 0
theorem lawGMakes : Law Try.prog 7 ((rdD.two rdGr).sp spGMakes) := by
  refine law_in _ (by kernel_rfl) fun H w ⟨d, ⟨ha, hb, hc⟩, wt, hd, fz⟩ hok hp => ?_
  obtain ⟨h1, h2, h3, h4, h5, h6⟩ := hp _ (List.mem_singleton.2 rfl)
  simp only at h1 h2 h3 h4 h5 h6
  apply exec_sound ctLGOk 400
  rw [show (rdD.two rdGr).canon (d, ⟨⟨ha, hb, hc⟩, wt, hd, fz⟩) = [.dat d, .agg [.dat ha, .dat hb, .dat hc, .dat wt, .dat hd, .bool fz]] from rfl, gmakes_in]
  refine ⟨⟨h1, h2, h3, h4, h5⟩, fun _ => ret_lbt, fun hf => ⟨fun _ => ret_lbt, fun hl => ?_⟩⟩
  have hf : fewG (GrD.mk (HiD.mk ha hb hc) wt hd fz).gr = true := by simpa using hf
  obtain ⟨hR, hE, hH⟩ := fewG_right (x := ⟨⟨ha, hb, hc⟩, wt, hd, fz⟩) h1 h2 h3 h4 h5 hf
  have hl : d.len ≤ 1048576 := by have := of_decide_eq_false hl; omega
  repeat' first
    | exact ret_lbt
    | with_reducible refine holds_all.2 fun _ => ?_
    | with_reducible refine holds_br.2 ⟨fun hx => ?_, fun hx => ?_⟩
    | (exfalso; simp at hx; done)
    | refine holds_need.2 ⟨⟨h6, hl⟩, ?_⟩
    | refine holds_need.2 ⟨sameG_need (newG_b _), ?_⟩
    | refine holds_need.2 ⟨hR, ?_⟩
    | refine holds_need.2 ⟨decide_eq_true rfl, ?_⟩
end Go.Proofs.Ytodhhmjilnfecaa
end
