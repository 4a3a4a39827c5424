/- Layer 21: the law of step. -/
import Derived.Test.YtoechplbhbalaaaBW22gtoBW28g
import Derived.KernelRfl
import Derived.Test.YtoechplbhbalaaaBrtoSp
import Derived.Test.YtoechplbhbalaaaBW9gtoBW24
set_option linter.all false
section
open Go Go.Proofs Sx
namespace Sx
theorem issue_bool {rt : Bool} {a : Int} {n m : Nat} (h : rt = true) (hl : n = m) : (rt && decide (a = (m : Int))) = decide (a = (n : Int)) := by rw [h, hl, Bool.true_and]
theorem tmod7 {k a b : Int} (h : Int.tmod k 7 = a) (hab : a ≠ b) : ¬Int.tmod k 7 = b := fun h2 => hab (h.symm.trans h2)
end Sx
namespace Go.Proofs.Ytoechplbhbalaaa
set_option maxRecDepth 100000
set_option maxHeartbeats 0

theorem clk_eq {cn cr cp cdl : Int} {cps css : D} {cv : Bool} {p1 p2 p3 p4 : Int} {pf : Bool} {p6 : Int} {pw ph : D} {q1 q2 q3 q4 : Int} {qf : Bool} {q6 : Int} {qw qh : D} {r1 r2 r3 r4 : Int} {rf : Bool} {r6 : Int} {rw rh : D} {fl wa wb wc : D} {now clk : Int} {rt : Bool} {st : Int} : ({ (grOf (cv9 cn cr cp cdl cps css cv p1 p2 p3 p4 pf p6 pw ph q1 q2 q3 q4 qf q6 qw qh r1 r2 r3 r4 rf r6 rw rh fl wa wb wc now clk rt st)) with clock := IntKind.i64.wrap ((grOf (cv9 cn cr cp cdl cps css cv p1 p2 p3 p4 pf p6 pw ph q1 q2 q3 q4 qf q6 qw qh r1 r2 r3 r4 rf r6 rw rh fl wa wb wc now clk rt st)).clock + 1) } : Gr) = grOf (CV.int cn :: CV.int cr :: CV.int cp :: CV.int cdl :: CV.dat cps :: CV.dat css :: CV.bool cv :: CV.int p1 :: CV.int p2 :: CV.int p3 :: CV.int p4 :: CV.bool pf :: CV.int p6 :: CV.dat pw :: CV.dat ph :: CV.int q1 :: CV.int q2 :: CV.int q3 :: CV.int q4 :: CV.bool qf :: CV.int q6 :: CV.dat qw :: CV.dat qh :: CV.int r1 :: CV.int r2 :: CV.int r3 :: CV.int r4 :: CV.bool rf :: CV.int r6 :: CV.dat rw :: CV.dat rh :: CV.dat fl :: CV.dat wa :: CV.dat wb :: CV.dat wc :: CV.int now :: CV.int (IntKind.i64.wrap (clk + 1)) :: CV.bool rt :: CV.int st :: []) := by
 rw [grOf_eq, grOf_eq]
theorem clk_right {cn cr cp cdl : Int} {cps css : D} {cv : Bool} {p1 p2 p3 p4 : Int} {pf : Bool} {p6 : Int} {pw ph : D} {q1 q2 q3 q4 : Int} {qf : Bool} {q6 : Int} {qw qh : D} {r1 r2 r3 r4 : Int} {rf : Bool} {r6 : Int} {rw rh : D} {fl wa wb wc : D} {now clk : Int} {rt : Bool} {st : Int} (h : GrRight (cv9 cn cr cp cdl cps css cv p1 p2 p3 p4 pf p6 pw ph q1 q2 q3 q4 qf q6 qw qh r1 r2 r3 r4 rf r6 rw rh fl wa wb wc now clk rt st)) : GrRight (CV.int cn :: CV.int cr :: CV.int cp :: CV.int cdl :: CV.dat cps :: CV.dat css :: CV.bool cv :: CV.int p1 :: CV.int p2 :: CV.int p3 :: CV.int p4 :: CV.bool pf :: CV.int p6 :: CV.dat pw :: CV.dat ph :: CV.int q1 :: CV.int q2 :: CV.int q3 :: CV.int q4 :: CV.bool qf :: CV.int q6 :: CV.dat qw :: CV.dat qh :: CV.int r1 :: CV.int r2 :: CV.int r3 :: CV.int r4 :: CV.bool rf :: CV.int r6 :: CV.dat rw :: CV.dat rh :: CV.dat fl :: CV.dat wa :: CV.dat wb :: CV.dat wc :: CV.int now :: CV.int (IntKind.i64.wrap (clk + 1)) :: CV.bool rt :: CV.int st :: []) := by
 rw [grRight_eq] at h ⊢
 exact h

theorem step0_run {w : World} {H : HV} {cn cr cp cdl : Int} {cps css : D} {cv : Bool} {p1 p2 p3 p4 : Int} {pf : Bool} {p6 : Int} {pw ph : D} {q1 q2 q3 q4 : Int} {qf : Bool} {q6 : Int} {qw qh : D} {r1 r2 r3 r4 : Int} {rf : Bool} {r6 : Int} {rw rh : D} {fl wa wb wc : D} {now clk : Int} {rt : Bool} {st : Int} {ek en ew : Int} (hek : U8 ek) (hen : U8 en) (hew : U8 ew) (hR : GrRight (cv9 cn cr cp cdl cps css cv p1 p2 p3 p4 pf p6 pw ph q1 q2 q3 q4 qf q6 qw qh r1 r2 r3 r4 rf r6 rw rh fl wa wb wc now clk rt st)) (hf9 : (grOf (cv9 cn cr cp cdl cps css cv p1 p2 p3 p4 pf p6 pw ph q1 q2 q3 q4 qf q6 qw qh r1 r2 r3 r4 rf r6 rw rh fl wa wb wc now clk rt st)).flight.length ≤ 999000) (hr : (Sx.stepG (grOf (cv9 cn cr cp cdl cps css cv p1 p2 p3 p4 pf p6 pw ph q1 q2 q3 q4 qf q6 qw qh r1 r2 r3 r4 rf r6 rw rh fl wa wb wc now clk rt st)) ek 0 en ew).right = true) :
  Runs Try.prog ⟨w, H⟩ (stepL cn cr cp cdl cps css cv p1 p2 p3 p4 pf p6 pw ph q1 q2 q3 q4 qf q6 qw qh r1 r2 r3 r4 rf r6 rw rh fl wa wb wc now clk rt st ek en ew 0) (RetD w H fun ds => .agg (svOf ds 0 (Sx.stepG (grOf (cv9 cn cr cp cdl cps css cv p1 p2 p3 p4 pf p6 pw ph q1 q2 q3 q4 qf q6 qw qh r1 r2 r3 r4 rf r6 rw rh fl wa wb wc now clk rt st)) ek 0 en ew).cls)) := by
 have hRc := clk_right hR
 rw [grRight_eq] at hR
 obtain ⟨⟨hc1, hc2⟩, hp, hq, hr', ⟨hf, hfl⟩, ⟨ha, hal⟩, ⟨hb, hbl⟩, ⟨hcc, hcl⟩⟩ := hR
 have hp' := hp; have hq' := hq; have hr2 := hr'
 obtain ⟨hpw, hph, hpl, hpm⟩ := hp'
 obtain ⟨hqw, hqh, hql, hqm⟩ := hq'
 obtain ⟨hrw, hrh, hrl, hrm⟩ := hr2
 simp only at hpw hph hpl hpm hqw hqh hql hqm hrw hrh hrl hrm
 have lW := D.Is.length (α := Wr) wa
 have lW2 := rows_len (rows_of ha)
 have lF := D.Is.length (α := Msg) fl
 have f9 : (fl.to Msg).length ≤ 999000 := by rw [grOf_eq] at hf9; exact hf9
 have n7 : (7 : Int) ≠ 0 := by decide
 have nn : (0 : Int) ≤ 0 ∧ (0 : Int) < ((3 : Nat) : Int) := by omega
 apply exec_sound ctSOk 900
 rw [step0_go]
 refine ⟨n7, fun h0 => ?_, fun h0 => ⟨fun h1 => ?_, fun h1 => ⟨fun h2 => ?_, fun h2 => ⟨fun h6 => ?_, fun h6 => ?_⟩⟩⟩⟩
 ·have h0 : Int.tmod ek 7 = 0 := of_decide_eq_true h0
  have e : Sx.stepG (grOf (cv9 cn cr cp cdl cps css cv p1 p2 p3 p4 pf p6 pw ph q1 q2 q3 q4 qf q6 qw qh r1 r2 r3 r4 rf r6 rw rh fl wa wb wc now clk rt st)) ek 0 en ew = issueG (grOf (CV.int cn :: CV.int cr :: CV.int cp :: CV.int cdl :: CV.dat cps :: CV.dat css :: CV.bool cv :: CV.int p1 :: CV.int p2 :: CV.int p3 :: CV.int p4 :: CV.bool pf :: CV.int p6 :: CV.dat pw :: CV.dat ph :: CV.int q1 :: CV.int q2 :: CV.int q3 :: CV.int q4 :: CV.bool qf :: CV.int q6 :: CV.dat qw :: CV.dat qh :: CV.int r1 :: CV.int r2 :: CV.int r3 :: CV.int r4 :: CV.bool rf :: CV.int r6 :: CV.dat rw :: CV.dat rh :: CV.dat fl :: CV.dat wa :: CV.dat wb :: CV.dat wc :: CV.int now :: CV.int (IntKind.i64.wrap (clk + 1)) :: CV.bool rt :: CV.int st :: [])) 0 := by rw [Sx.stepG, if_pos h0, clk_eq]
  rw [e] at hr ⊢
  rw [grOf_eq] at hr ⊢
  simp only [issueG, tri_0, tri_1, tri_2, tri_upd0, tri_upd1, tri_upd2, Bool.and_eq_true] at hr
  simp only [issueG, tri_0, tri_1, tri_2, tri_upd0, tri_upd1, tri_upd2, cls_tri]
  obtain ⟨hrt, hlen⟩ := hr
  have hrow : SRows Wr (List.append (D.rows wa) [[.int .i64 (IntKind.i64.wrap (clk + 1)), .int .i64 0, .int .i64 0, .int .i64 0]]) (wa.to Wr ++ [⟨IntKind.i64.wrap (clk + 1), 0, 0, 0⟩]) := rows_app (rows_of ha) (rows_one ⟨_, _, _, _, rfl⟩ rfl)
  refine ⟨nn, hp, fun hs => ⟨nn, fun _ => ⟨nn, fun hs1 => ⟨nn, ⟨rfl, ha.fits, by simp only [len_slc, List.length_nil]; omega, by simp only [len_slc, List.length_nil]; omega⟩, ⟨rfl, .inr rfl, ?_, ?_⟩, nn, ?_⟩⟩, fun h => absurd (hrt.symm.trans h) (by decide)⟩⟩
  ·have e1 : (List.append (D.rows (D.slc (D.hd (hs1 1 0)) 4 [])) (D.rows wa)).length = (D.rows wa).length := rfl
   simp only [len_slc, e1, List.length_cons, List.length_nil]; omega
  ·have e1 : (List.append (D.rows (D.slc (D.hd (hs1 1 0)) 4 [])) (D.rows wa)).length = (D.rows wa).length := rfl
   simp only [len_slc, e1, List.length_cons, List.length_nil]; omega
  ·refine ret_cells ?_
   repeat' first
   | exact .nil
   | refine .cons ?_ ?_
   | exact rfl
   | exact fun _ => rfl
   | exact lst_ok stands_like
   | exact lst_ok (stands_self (by assumption))
   | exact lst_ok (stands_rows rfl hrow)
   | exact bool_ok (issue_bool hrt lW)
   | fail
 ·have h1 : Int.tmod ek 7 = 1 := of_decide_eq_true h1
  have e : Sx.stepG (grOf (cv9 cn cr cp cdl cps css cv p1 p2 p3 p4 pf p6 pw ph q1 q2 q3 q4 qf q6 qw qh r1 r2 r3 r4 rf r6 rw rh fl wa wb wc now clk rt st)) ek 0 en ew = durG (grOf (CV.int cn :: CV.int cr :: CV.int cp :: CV.int cdl :: CV.dat cps :: CV.dat css :: CV.bool cv :: CV.int p1 :: CV.int p2 :: CV.int p3 :: CV.int p4 :: CV.bool pf :: CV.int p6 :: CV.dat pw :: CV.dat ph :: CV.int q1 :: CV.int q2 :: CV.int q3 :: CV.int q4 :: CV.bool qf :: CV.int q6 :: CV.dat qw :: CV.dat qh :: CV.int r1 :: CV.int r2 :: CV.int r3 :: CV.int r4 :: CV.bool rf :: CV.int r6 :: CV.dat rw :: CV.dat rh :: CV.dat fl :: CV.dat wa :: CV.dat wb :: CV.dat wc :: CV.int now :: CV.int (IntKind.i64.wrap (clk + 1)) :: CV.bool rt :: CV.int st :: [])) 0 ew := by rw [Sx.stepG, if_neg (tmod7 h1 (by decide)), if_pos h1, clk_eq]
  rw [e] at hr ⊢
  refine ⟨⟨hRc, hew, hr⟩, fun hs1 => ?_⟩
  exact ret_D (P := Try.prog) (w := w) (H := H) (v := .agg (svOf (hs1 0) 0 (durG (grOf (CV.int cn :: CV.int cr :: CV.int cp :: CV.int cdl :: CV.dat cps :: CV.dat css :: CV.bool cv :: CV.int p1 :: CV.int p2 :: CV.int p3 :: CV.int p4 :: CV.bool pf :: CV.int p6 :: CV.dat pw :: CV.dat ph :: CV.int q1 :: CV.int q2 :: CV.int q3 :: CV.int q4 :: CV.bool qf :: CV.int q6 :: CV.dat qw :: CV.dat qh :: CV.int r1 :: CV.int r2 :: CV.int r3 :: CV.int r4 :: CV.bool rf :: CV.int r6 :: CV.dat rw :: CV.dat rh :: CV.dat fl :: CV.dat wa :: CV.dat wb :: CV.dat wc :: CV.int now :: CV.int (IntKind.i64.wrap (clk + 1)) :: CV.bool rt :: CV.int st :: [])) 0 ew).cls)) (g := fun ds => .agg (svOf ds 0 (durG (grOf (CV.int cn :: CV.int cr :: CV.int cp :: CV.int cdl :: CV.dat cps :: CV.dat css :: CV.bool cv :: CV.int p1 :: CV.int p2 :: CV.int p3 :: CV.int p4 :: CV.bool pf :: CV.int p6 :: CV.dat pw :: CV.dat ph :: CV.int q1 :: CV.int q2 :: CV.int q3 :: CV.int q4 :: CV.bool qf :: CV.int q6 :: CV.dat qw :: CV.dat qh :: CV.int r1 :: CV.int r2 :: CV.int r3 :: CV.int r4 :: CV.bool rf :: CV.int r6 :: CV.dat rw :: CV.dat rh :: CV.dat fl :: CV.dat wa :: CV.dat wb :: CV.dat wc :: CV.int now :: CV.int (IntKind.i64.wrap (clk + 1)) :: CV.bool rt :: CV.int st :: [])) 0 ew).cls)) (hs1 0) (fun _ _ => rfl) (fun _ h => h)
 ·have h2 : Int.tmod ek 7 = 2 := of_decide_eq_true h2
  have e : Sx.stepG (grOf (cv9 cn cr cp cdl cps css cv p1 p2 p3 p4 pf p6 pw ph q1 q2 q3 q4 qf q6 qw qh r1 r2 r3 r4 rf r6 rw rh fl wa wb wc now clk rt st)) ek 0 en ew = roundG (grOf (CV.int cn :: CV.int cr :: CV.int cp :: CV.int cdl :: CV.dat cps :: CV.dat css :: CV.bool cv :: CV.int p1 :: CV.int p2 :: CV.int p3 :: CV.int p4 :: CV.bool pf :: CV.int p6 :: CV.dat pw :: CV.dat ph :: CV.int q1 :: CV.int q2 :: CV.int q3 :: CV.int q4 :: CV.bool qf :: CV.int q6 :: CV.dat qw :: CV.dat qh :: CV.int r1 :: CV.int r2 :: CV.int r3 :: CV.int r4 :: CV.bool rf :: CV.int r6 :: CV.dat rw :: CV.dat rh :: CV.dat fl :: CV.dat wa :: CV.dat wb :: CV.dat wc :: CV.int now :: CV.int (IntKind.i64.wrap (clk + 1)) :: CV.bool rt :: CV.int st :: [])) := by rw [Sx.stepG, if_neg (tmod7 h2 (by decide)), if_neg (tmod7 h2 (by decide)), if_pos h2, clk_eq]
  rw [e] at hr ⊢
  rw [grOf_eq] at hr ⊢
  obtain ⟨s1, s2, s3, s4⟩ := startCo_len ⟨cn, cr, cp, cdl, cps.to Int, css.to Bool, cv⟩ now 20
  refine ⟨⟨hc1, hc2⟩, fun hs => ⟨fun hx => ?_, fun hx => ?_⟩⟩
  ·have hx : ¬(startCo ⟨cn, cr, cp, cdl, cps.to Int, css.to Bool, cv⟩ now 20).2.2 = 0 := by simp only [bne_iff_ne, ne_eq] at hx; exact hx
   rw [roundG] at hr ⊢
   simp only at hr ⊢
   rw [if_pos hx] at hr ⊢
   simp only [Bool.and_eq_true] at hr
   obtain ⟨hrt, hbz⟩ := hr
   refine ⟨fun _ => ?_, fun h => absurd (hrt.symm.trans h) (by decide)⟩
   rw [cls_tri]
   refine ret_cells ?_
   repeat' first
   | exact .nil
   | refine .cons ?_ ?_
   | exact rfl
   | exact fun _ => rfl
   | exact lst_ok stands_like
   | exact lst_ok (stands_self (by assumption))
   | exact bool_ok (by rw [hrt, Bool.true_and]; rfl)
   | fail
  ·have hx : (startCo ⟨cn, cr, cp, cdl, cps.to Int, css.to Bool, cv⟩ now 20).2.2 = 0 := by simp only [bne_eq_false_iff_eq] at hx; exact hx
   rw [roundG] at hr ⊢
   simp only at hr ⊢
   rw [if_neg (not_not_intro hx)] at hr ⊢
   simp only [sendG] at hr ⊢
   refine ⟨⟨hf, by omega, D.like_is _ _, ?_⟩, fun hs1 => ?_⟩
   ·rw [like_len]; exact Nat.le_trans s3 (by omega)
   rw [cls_tri]
   refine ret_cells ?_
   repeat' first
   | exact .nil
   | refine .cons ?_ ?_
   | exact rfl
   | exact fun _ => rfl
   | exact lst_ok stands_like
   | exact lst_ok (stands_self (by assumption))
   | exact lst_ok (by rw [D.like_to]; exact stands_like)
   | fail
 ·have h6 : Int.tmod ek 7 = 6 := of_decide_eq_true h6
  have e : Sx.stepG (grOf (cv9 cn cr cp cdl cps css cv p1 p2 p3 p4 pf p6 pw ph q1 q2 q3 q4 qf q6 qw qh r1 r2 r3 r4 rf r6 rw rh fl wa wb wc now clk rt st)) ek 0 en ew = tickG (grOf (CV.int cn :: CV.int cr :: CV.int cp :: CV.int cdl :: CV.dat cps :: CV.dat css :: CV.bool cv :: CV.int p1 :: CV.int p2 :: CV.int p3 :: CV.int p4 :: CV.bool pf :: CV.int p6 :: CV.dat pw :: CV.dat ph :: CV.int q1 :: CV.int q2 :: CV.int q3 :: CV.int q4 :: CV.bool qf :: CV.int q6 :: CV.dat qw :: CV.dat qh :: CV.int r1 :: CV.int r2 :: CV.int r3 :: CV.int r4 :: CV.bool rf :: CV.int r6 :: CV.dat rw :: CV.dat rh :: CV.dat fl :: CV.dat wa :: CV.dat wb :: CV.dat wc :: CV.int now :: CV.int (IntKind.i64.wrap (clk + 1)) :: CV.bool rt :: CV.int st :: [])) en ew := by rw [Sx.stepG, if_neg (tmod7 h6 (by decide)), if_neg (tmod7 h6 (by decide)), if_neg (tmod7 h6 (by decide)), if_pos h6, clk_eq]
  rw [e] at hr ⊢
  refine ⟨⟨hRc, ⟨⟨hen, hew⟩, f9⟩, hr⟩, fun hs1 => ?_⟩
  exact ret_D (P := Try.prog) (w := w) (H := H) (v := .agg (svOf (hs1 0) 0 (tickG (grOf (CV.int cn :: CV.int cr :: CV.int cp :: CV.int cdl :: CV.dat cps :: CV.dat css :: CV.bool cv :: CV.int p1 :: CV.int p2 :: CV.int p3 :: CV.int p4 :: CV.bool pf :: CV.int p6 :: CV.dat pw :: CV.dat ph :: CV.int q1 :: CV.int q2 :: CV.int q3 :: CV.int q4 :: CV.bool qf :: CV.int q6 :: CV.dat qw :: CV.dat qh :: CV.int r1 :: CV.int r2 :: CV.int r3 :: CV.int r4 :: CV.bool rf :: CV.int r6 :: CV.dat rw :: CV.dat rh :: CV.dat fl :: CV.dat wa :: CV.dat wb :: CV.dat wc :: CV.int now :: CV.int (IntKind.i64.wrap (clk + 1)) :: CV.bool rt :: CV.int st :: [])) en ew).cls)) (g := fun ds => .agg (svOf ds 0 (tickG (grOf (CV.int cn :: CV.int cr :: CV.int cp :: CV.int cdl :: CV.dat cps :: CV.dat css :: CV.bool cv :: CV.int p1 :: CV.int p2 :: CV.int p3 :: CV.int p4 :: CV.bool pf :: CV.int p6 :: CV.dat pw :: CV.dat ph :: CV.int q1 :: CV.int q2 :: CV.int q3 :: CV.int q4 :: CV.bool qf :: CV.int q6 :: CV.dat qw :: CV.dat qh :: CV.int r1 :: CV.int r2 :: CV.int r3 :: CV.int r4 :: CV.bool rf :: CV.int r6 :: CV.dat rw :: CV.dat rh :: CV.dat fl :: CV.dat wa :: CV.dat wb :: CV.dat wc :: CV.int now :: CV.int (IntKind.i64.wrap (clk + 1)) :: CV.bool rt :: CV.int st :: [])) en ew).cls)) (hs1 0) (fun _ _ => rfl) (fun _ h => h)
 ·have h0 : ¬Int.tmod ek 7 = 0 := of_decide_eq_false h0
  have h1 : ¬Int.tmod ek 7 = 1 := of_decide_eq_false h1
  have h2 : ¬Int.tmod ek 7 = 2 := of_decide_eq_false h2
  have h6 : ¬Int.tmod ek 7 = 6 := of_decide_eq_false h6
  have e : Sx.stepG (grOf (cv9 cn cr cp cdl cps css cv p1 p2 p3 p4 pf p6 pw ph q1 q2 q3 q4 qf q6 qw qh r1 r2 r3 r4 rf r6 rw rh fl wa wb wc now clk rt st)) ek 0 en ew = flightG (grOf (CV.int cn :: CV.int cr :: CV.int cp :: CV.int cdl :: CV.dat cps :: CV.dat css :: CV.bool cv :: CV.int p1 :: CV.int p2 :: CV.int p3 :: CV.int p4 :: CV.bool pf :: CV.int p6 :: CV.dat pw :: CV.dat ph :: CV.int q1 :: CV.int q2 :: CV.int q3 :: CV.int q4 :: CV.bool qf :: CV.int q6 :: CV.dat qw :: CV.dat qh :: CV.int r1 :: CV.int r2 :: CV.int r3 :: CV.int r4 :: CV.bool rf :: CV.int r6 :: CV.dat rw :: CV.dat rh :: CV.dat fl :: CV.dat wa :: CV.dat wb :: CV.dat wc :: CV.int now :: CV.int (IntKind.i64.wrap (clk + 1)) :: CV.bool rt :: CV.int st :: [])) ek ew := by rw [Sx.stepG, if_neg h0, if_neg h1, if_neg h2, if_neg h6, clk_eq]
  rw [e] at hr ⊢
  refine ⟨⟨hRc, ⟨hek, hew⟩, hr⟩, fun hs1 => ?_⟩
  exact ret_D (P := Try.prog) (w := w) (H := H) (v := .agg (svOf (hs1 0) 0 (flightG (grOf (CV.int cn :: CV.int cr :: CV.int cp :: CV.int cdl :: CV.dat cps :: CV.dat css :: CV.bool cv :: CV.int p1 :: CV.int p2 :: CV.int p3 :: CV.int p4 :: CV.bool pf :: CV.int p6 :: CV.dat pw :: CV.dat ph :: CV.int q1 :: CV.int q2 :: CV.int q3 :: CV.int q4 :: CV.bool qf :: CV.int q6 :: CV.dat qw :: CV.dat qh :: CV.int r1 :: CV.int r2 :: CV.int r3 :: CV.int r4 :: CV.bool rf :: CV.int r6 :: CV.dat rw :: CV.dat rh :: CV.dat fl :: CV.dat wa :: CV.dat wb :: CV.dat wc :: CV.int now :: CV.int (IntKind.i64.wrap (clk + 1)) :: CV.bool rt :: CV.int st :: [])) ek ew).cls)) (g := fun ds => .agg (svOf ds 0 (flightG (grOf (CV.int cn :: CV.int cr :: CV.int cp :: CV.int cdl :: CV.dat cps :: CV.dat css :: CV.bool cv :: CV.int p1 :: CV.int p2 :: CV.int p3 :: CV.int p4 :: CV.bool pf :: CV.int p6 :: CV.dat pw :: CV.dat ph :: CV.int q1 :: CV.int q2 :: CV.int q3 :: CV.int q4 :: CV.bool qf :: CV.int q6 :: CV.dat qw :: CV.dat qh :: CV.int r1 :: CV.int r2 :: CV.int r3 :: CV.int r4 :: CV.bool rf :: CV.int r6 :: CV.dat rw :: CV.dat rh :: CV.dat fl :: CV.dat wa :: CV.dat wb :: CV.dat wc :: CV.int now :: CV.int (IntKind.i64.wrap (clk + 1)) :: CV.bool rt :: CV.int st :: [])) ek ew).cls)) (hs1 0) (fun _ _ => rfl) (fun _ h => h)

theorem step1_run {w : World} {H : HV} {cn cr cp cdl : Int} {cps css : D} {cv : Bool} {p1 p2 p3 p4 : Int} {pf : Bool} {p6 : Int} {pw ph : D} {q1 q2 q3 q4 : Int} {qf : Bool} {q6 : Int} {qw qh : D} {r1 r2 r3 r4 : Int} {rf : Bool} {r6 : Int} {rw rh : D} {fl wa wb wc : D} {now clk : Int} {rt : Bool} {st : Int} {ek en ew : Int} (hek : U8 ek) (hen : U8 en) (hew : U8 ew) (hR : GrRight (cv9 cn cr cp cdl cps css cv p1 p2 p3 p4 pf p6 pw ph q1 q2 q3 q4 qf q6 qw qh r1 r2 r3 r4 rf r6 rw rh fl wa wb wc now clk rt st)) (hf9 : (grOf (cv9 cn cr cp cdl cps css cv p1 p2 p3 p4 pf p6 pw ph q1 q2 q3 q4 qf q6 qw qh r1 r2 r3 r4 rf r6 rw rh fl wa wb wc now clk rt st)).flight.length ≤ 999000) (hr : (Sx.stepG (grOf (cv9 cn cr cp cdl cps css cv p1 p2 p3 p4 pf p6 pw ph q1 q2 q3 q4 qf q6 qw qh r1 r2 r3 r4 rf r6 rw rh fl wa wb wc now clk rt st)) ek 1 en ew).right = true) :
  Runs Try.prog ⟨w, H⟩ (stepL cn cr cp cdl cps css cv p1 p2 p3 p4 pf p6 pw ph q1 q2 q3 q4 qf q6 qw qh r1 r2 r3 r4 rf r6 rw rh fl wa wb wc now clk rt st ek en ew 1) (RetD w H fun ds => .agg (svOf ds 0 (Sx.stepG (grOf (cv9 cn cr cp cdl cps css cv p1 p2 p3 p4 pf p6 pw ph q1 q2 q3 q4 qf q6 qw qh r1 r2 r3 r4 rf r6 rw rh fl wa wb wc now clk rt st)) ek 1 en ew).cls)) := by
 have hRc := clk_right hR
 rw [grRight_eq] at hR
 obtain ⟨⟨hc1, hc2⟩, hp, hq, hr', ⟨hf, hfl⟩, ⟨ha, hal⟩, ⟨hb, hbl⟩, ⟨hcc, hcl⟩⟩ := hR
 have hp' := hp; have hq' := hq; have hr2 := hr'
 obtain ⟨hpw, hph, hpl, hpm⟩ := hp'
 obtain ⟨hqw, hqh, hql, hqm⟩ := hq'
 obtain ⟨hrw, hrh, hrl, hrm⟩ := hr2
 simp only at hpw hph hpl hpm hqw hqh hql hqm hrw hrh hrl hrm
 have lW := D.Is.length (α := Wr) wb
 have lW2 := rows_len (rows_of hb)
 have lF := D.Is.length (α := Msg) fl
 have f9 : (fl.to Msg).length ≤ 999000 := by rw [grOf_eq] at hf9; exact hf9
 have n7 : (7 : Int) ≠ 0 := by decide
 have nn : (0 : Int) ≤ 1 ∧ (1 : Int) < ((3 : Nat) : Int) := by omega
 apply exec_sound ctSOk 900
 rw [step1_go]
 refine ⟨n7, fun h0 => ?_, fun h0 => ⟨fun h1 => ?_, fun h1 => ⟨fun h2 => ?_, fun h2 => ⟨fun h6 => ?_, fun h6 => ?_⟩⟩⟩⟩
 ·have h0 : Int.tmod ek 7 = 0 := of_decide_eq_true h0
  have e : Sx.stepG (grOf (cv9 cn cr cp cdl cps css cv p1 p2 p3 p4 pf p6 pw ph q1 q2 q3 q4 qf q6 qw qh r1 r2 r3 r4 rf r6 rw rh fl wa wb wc now clk rt st)) ek 1 en ew = issueG (grOf (CV.int cn :: CV.int cr :: CV.int cp :: CV.int cdl :: CV.dat cps :: CV.dat css :: CV.bool cv :: CV.int p1 :: CV.int p2 :: CV.int p3 :: CV.int p4 :: CV.bool pf :: CV.int p6 :: CV.dat pw :: CV.dat ph :: CV.int q1 :: CV.int q2 :: CV.int q3 :: CV.int q4 :: CV.bool qf :: CV.int q6 :: CV.dat qw :: CV.dat qh :: CV.int r1 :: CV.int r2 :: CV.int r3 :: CV.int r4 :: CV.bool rf :: CV.int r6 :: CV.dat rw :: CV.dat rh :: CV.dat fl :: CV.dat wa :: CV.dat wb :: CV.dat wc :: CV.int now :: CV.int (IntKind.i64.wrap (clk + 1)) :: CV.bool rt :: CV.int st :: [])) 1 := by rw [Sx.stepG, if_pos h0, clk_eq]
  rw [e] at hr ⊢
  rw [grOf_eq] at hr ⊢
  simp only [issueG, tri_0, tri_1, tri_2, tri_upd0, tri_upd1, tri_upd2, Bool.and_eq_true] at hr
  simp only [issueG, tri_0, tri_1, tri_2, tri_upd0, tri_upd1, tri_upd2, cls_tri]
  obtain ⟨hrt, hlen⟩ := hr
  have hrow : SRows Wr (List.append (D.rows wb) [[.int .i64 (IntKind.i64.wrap (clk + 1)), .int .i64 0, .int .i64 0, .int .i64 0]]) (wb.to Wr ++ [⟨IntKind.i64.wrap (clk + 1), 0, 0, 0⟩]) := rows_app (rows_of hb) (rows_one ⟨_, _, _, _, rfl⟩ rfl)
  refine ⟨nn, hq, fun hs => ⟨nn, fun _ => ⟨nn, fun hs1 => ⟨nn, ⟨rfl, hb.fits, by simp only [len_slc, List.length_nil]; omega, by simp only [len_slc, List.length_nil]; omega⟩, ⟨rfl, .inr rfl, ?_, ?_⟩, nn, ?_⟩⟩, fun h => absurd (hrt.symm.trans h) (by decide)⟩⟩
  ·have e1 : (List.append (D.rows (D.slc (D.hd (hs1 1 0)) 4 [])) (D.rows wb)).length = (D.rows wb).length := rfl
   simp only [len_slc, e1, List.length_cons, List.length_nil]; omega
  ·have e1 : (List.append (D.rows (D.slc (D.hd (hs1 1 0)) 4 [])) (D.rows wb)).length = (D.rows wb).length := rfl
   simp only [len_slc, e1, List.length_cons, List.length_nil]; omega
  ·refine ret_cells ?_
   repeat' first
   | exact .nil
   | refine .cons ?_ ?_
   | exact rfl
   | exact fun _ => rfl
   | exact lst_ok stands_like
   | exact lst_ok (stands_self (by assumption))
   | exact lst_ok (stands_rows rfl hrow)
   | exact bool_ok (issue_bool hrt lW)
   | fail
 ·have h1 : Int.tmod ek 7 = 1 := of_decide_eq_true h1
  have e : Sx.stepG (grOf (cv9 cn cr cp cdl cps css cv p1 p2 p3 p4 pf p6 pw ph q1 q2 q3 q4 qf q6 qw qh r1 r2 r3 r4 rf r6 rw rh fl wa wb wc now clk rt st)) ek 1 en ew = durG (grOf (CV.int cn :: CV.int cr :: CV.int cp :: CV.int cdl :: CV.dat cps :: CV.dat css :: CV.bool cv :: CV.int p1 :: CV.int p2 :: CV.int p3 :: CV.int p4 :: CV.bool pf :: CV.int p6 :: CV.dat pw :: CV.dat ph :: CV.int q1 :: CV.int q2 :: CV.int q3 :: CV.int q4 :: CV.bool qf :: CV.int q6 :: CV.dat qw :: CV.dat qh :: CV.int r1 :: CV.int r2 :: CV.int r3 :: CV.int r4 :: CV.bool rf :: CV.int r6 :: CV.dat rw :: CV.dat rh :: CV.dat fl :: CV.dat wa :: CV.dat wb :: CV.dat wc :: CV.int now :: CV.int (IntKind.i64.wrap (clk + 1)) :: CV.bool rt :: CV.int st :: [])) 1 ew := by rw [Sx.stepG, if_neg (tmod7 h1 (by decide)), if_pos h1, clk_eq]
  rw [e] at hr ⊢
  refine ⟨⟨hRc, hew, hr⟩, fun hs1 => ?_⟩
  exact ret_D (P := Try.prog) (w := w) (H := H) (v := .agg (svOf (hs1 0) 0 (durG (grOf (CV.int cn :: CV.int cr :: CV.int cp :: CV.int cdl :: CV.dat cps :: CV.dat css :: CV.bool cv :: CV.int p1 :: CV.int p2 :: CV.int p3 :: CV.int p4 :: CV.bool pf :: CV.int p6 :: CV.dat pw :: CV.dat ph :: CV.int q1 :: CV.int q2 :: CV.int q3 :: CV.int q4 :: CV.bool qf :: CV.int q6 :: CV.dat qw :: CV.dat qh :: CV.int r1 :: CV.int r2 :: CV.int r3 :: CV.int r4 :: CV.bool rf :: CV.int r6 :: CV.dat rw :: CV.dat rh :: CV.dat fl :: CV.dat wa :: CV.dat wb :: CV.dat wc :: CV.int now :: CV.int (IntKind.i64.wrap (clk + 1)) :: CV.bool rt :: CV.int st :: [])) 1 ew).cls)) (g := fun ds => .agg (svOf ds 0 (durG (grOf (CV.int cn :: CV.int cr :: CV.int cp :: CV.int cdl :: CV.dat cps :: CV.dat css :: CV.bool cv :: CV.int p1 :: CV.int p2 :: CV.int p3 :: CV.int p4 :: CV.bool pf :: CV.int p6 :: CV.dat pw :: CV.dat ph :: CV.int q1 :: CV.int q2 :: CV.int q3 :: CV.int q4 :: CV.bool qf :: CV.int q6 :: CV.dat qw :: CV.dat qh :: CV.int r1 :: CV.int r2 :: CV.int r3 :: CV.int r4 :: CV.bool rf :: CV.int r6 :: CV.dat rw :: CV.dat rh :: CV.dat fl :: CV.dat wa :: CV.dat wb :: CV.dat wc :: CV.int now :: CV.int (IntKind.i64.wrap (clk + 1)) :: CV.bool rt :: CV.int st :: [])) 1 ew).cls)) (hs1 0) (fun _ _ => rfl) (fun _ h => h)
 ·have h2 : Int.tmod ek 7 = 2 := of_decide_eq_true h2
  have e : Sx.stepG (grOf (cv9 cn cr cp cdl cps css cv p1 p2 p3 p4 pf p6 pw ph q1 q2 q3 q4 qf q6 qw qh r1 r2 r3 r4 rf r6 rw rh fl wa wb wc now clk rt st)) ek 1 en ew = roundG (grOf (CV.int cn :: CV.int cr :: CV.int cp :: CV.int cdl :: CV.dat cps :: CV.dat css :: CV.bool cv :: CV.int p1 :: CV.int p2 :: CV.int p3 :: CV.int p4 :: CV.bool pf :: CV.int p6 :: CV.dat pw :: CV.dat ph :: CV.int q1 :: CV.int q2 :: CV.int q3 :: CV.int q4 :: CV.bool qf :: CV.int q6 :: CV.dat qw :: CV.dat qh :: CV.int r1 :: CV.int r2 :: CV.int r3 :: CV.int r4 :: CV.bool rf :: CV.int r6 :: CV.dat rw :: CV.dat rh :: CV.dat fl :: CV.dat wa :: CV.dat wb :: CV.dat wc :: CV.int now :: CV.int (IntKind.i64.wrap (clk + 1)) :: CV.bool rt :: CV.int st :: [])) := by rw [Sx.stepG, if_neg (tmod7 h2 (by decide)), if_neg (tmod7 h2 (by decide)), if_pos h2, clk_eq]
  rw [e] at hr ⊢
  rw [grOf_eq] at hr ⊢
  obtain ⟨s1, s2, s3, s4⟩ := startCo_len ⟨cn, cr, cp, cdl, cps.to Int, css.to Bool, cv⟩ now 20
  refine ⟨⟨hc1, hc2⟩, fun hs => ⟨fun hx => ?_, fun hx => ?_⟩⟩
  ·have hx : ¬(startCo ⟨cn, cr, cp, cdl, cps.to Int, css.to Bool, cv⟩ now 20).2.2 = 0 := by simp only [bne_iff_ne, ne_eq] at hx; exact hx
   rw [roundG] at hr ⊢
   simp only at hr ⊢
   rw [if_pos hx] at hr ⊢
   simp only [Bool.and_eq_true] at hr
   obtain ⟨hrt, hbz⟩ := hr
   refine ⟨fun _ => ?_, fun h => absurd (hrt.symm.trans h) (by decide)⟩
   rw [cls_tri]
   refine ret_cells ?_
   repeat' first
   | exact .nil
   | refine .cons ?_ ?_
   | exact rfl
   | exact fun _ => rfl
   | exact lst_ok stands_like
   | exact lst_ok (stands_self (by assumption))
   | exact bool_ok (by rw [hrt, Bool.true_and]; rfl)
   | fail
  ·have hx : (startCo ⟨cn, cr, cp, cdl, cps.to Int, css.to Bool, cv⟩ now 20).2.2 = 0 := by simp only [bne_eq_false_iff_eq] at hx; exact hx
   rw [roundG] at hr ⊢
   simp only at hr ⊢
   rw [if_neg (not_not_intro hx)] at hr ⊢
   simp only [sendG] at hr ⊢
   refine ⟨⟨hf, by omega, D.like_is _ _, ?_⟩, fun hs1 => ?_⟩
   ·rw [like_len]; exact Nat.le_trans s3 (by omega)
   rw [cls_tri]
   refine ret_cells ?_
   repeat' first
   | exact .nil
   | refine .cons ?_ ?_
   | exact rfl
   | exact fun _ => rfl
   | exact lst_ok stands_like
   | exact lst_ok (stands_self (by assumption))
   | exact lst_ok (by rw [D.like_to]; exact stands_like)
   | fail
 ·have h6 : Int.tmod ek 7 = 6 := of_decide_eq_true h6
  have e : Sx.stepG (grOf (cv9 cn cr cp cdl cps css cv p1 p2 p3 p4 pf p6 pw ph q1 q2 q3 q4 qf q6 qw qh r1 r2 r3 r4 rf r6 rw rh fl wa wb wc now clk rt st)) ek 1 en ew = tickG (grOf (CV.int cn :: CV.int cr :: CV.int cp :: CV.int cdl :: CV.dat cps :: CV.dat css :: CV.bool cv :: CV.int p1 :: CV.int p2 :: CV.int p3 :: CV.int p4 :: CV.bool pf :: CV.int p6 :: CV.dat pw :: CV.dat ph :: CV.int q1 :: CV.int q2 :: CV.int q3 :: CV.int q4 :: CV.bool qf :: CV.int q6 :: CV.dat qw :: CV.dat qh :: CV.int r1 :: CV.int r2 :: CV.int r3 :: CV.int r4 :: CV.bool rf :: CV.int r6 :: CV.dat rw :: CV.dat rh :: CV.dat fl :: CV.dat wa :: CV.dat wb :: CV.dat wc :: CV.int now :: CV.int (IntKind.i64.wrap (clk + 1)) :: CV.bool rt :: CV.int st :: [])) en ew := by rw [Sx.stepG, if_neg (tmod7 h6 (by decide)), if_neg (tmod7 h6 (by decide)), if_neg (tmod7 h6 (by decide)), if_pos h6, clk_eq]
  rw [e] at hr ⊢
  refine ⟨⟨hRc, ⟨⟨hen, hew⟩, f9⟩, hr⟩, fun hs1 => ?_⟩
  exact ret_D (P := Try.prog) (w := w) (H := H) (v := .agg (svOf (hs1 0) 0 (tickG (grOf (CV.int cn :: CV.int cr :: CV.int cp :: CV.int cdl :: CV.dat cps :: CV.dat css :: CV.bool cv :: CV.int p1 :: CV.int p2 :: CV.int p3 :: CV.int p4 :: CV.bool pf :: CV.int p6 :: CV.dat pw :: CV.dat ph :: CV.int q1 :: CV.int q2 :: CV.int q3 :: CV.int q4 :: CV.bool qf :: CV.int q6 :: CV.dat qw :: CV.dat qh :: CV.int r1 :: CV.int r2 :: CV.int r3 :: CV.int r4 :: CV.bool rf :: CV.int r6 :: CV.dat rw :: CV.dat rh :: CV.dat fl :: CV.dat wa :: CV.dat wb :: CV.dat wc :: CV.int now :: CV.int (IntKind.i64.wrap (clk + 1)) :: CV.bool rt :: CV.int st :: [])) en ew).cls)) (g := fun ds => .agg (svOf ds 0 (tickG (grOf (CV.int cn :: CV.int cr :: CV.int cp :: CV.int cdl :: CV.dat cps :: CV.dat css :: CV.bool cv :: CV.int p1 :: CV.int p2 :: CV.int p3 :: CV.int p4 :: CV.bool pf :: CV.int p6 :: CV.dat pw :: CV.dat ph :: CV.int q1 :: CV.int q2 :: CV.int q3 :: CV.int q4 :: CV.bool qf :: CV.int q6 :: CV.dat qw :: CV.dat qh :: CV.int r1 :: CV.int r2 :: CV.int r3 :: CV.int r4 :: CV.bool rf :: CV.int r6 :: CV.dat rw :: CV.dat rh :: CV.dat fl :: CV.dat wa :: CV.dat wb :: CV.dat wc :: CV.int now :: CV.int (IntKind.i64.wrap (clk + 1)) :: CV.bool rt :: CV.int st :: [])) en ew).cls)) (hs1 0) (fun _ _ => rfl) (fun _ h => h)
 ·have h0 : ¬Int.tmod ek 7 = 0 := of_decide_eq_false h0
  have h1 : ¬Int.tmod ek 7 = 1 := of_decide_eq_false h1
  have h2 : ¬Int.tmod ek 7 = 2 := of_decide_eq_false h2
  have h6 : ¬Int.tmod ek 7 = 6 := of_decide_eq_false h6
  have e : Sx.stepG (grOf (cv9 cn cr cp cdl cps css cv p1 p2 p3 p4 pf p6 pw ph q1 q2 q3 q4 qf q6 qw qh r1 r2 r3 r4 rf r6 rw rh fl wa wb wc now clk rt st)) ek 1 en ew = flightG (grOf (CV.int cn :: CV.int cr :: CV.int cp :: CV.int cdl :: CV.dat cps :: CV.dat css :: CV.bool cv :: CV.int p1 :: CV.int p2 :: CV.int p3 :: CV.int p4 :: CV.bool pf :: CV.int p6 :: CV.dat pw :: CV.dat ph :: CV.int q1 :: CV.int q2 :: CV.int q3 :: CV.int q4 :: CV.bool qf :: CV.int q6 :: CV.dat qw :: CV.dat qh :: CV.int r1 :: CV.int r2 :: CV.int r3 :: CV.int r4 :: CV.bool rf :: CV.int r6 :: CV.dat rw :: CV.dat rh :: CV.dat fl :: CV.dat wa :: CV.dat wb :: CV.dat wc :: CV.int now :: CV.int (IntKind.i64.wrap (clk + 1)) :: CV.bool rt :: CV.int st :: [])) ek ew := by rw [Sx.stepG, if_neg h0, if_neg h1, if_neg h2, if_neg h6, clk_eq]
  rw [e] at hr ⊢
  refine ⟨⟨hRc, ⟨hek, hew⟩, hr⟩, fun hs1 => ?_⟩
  exact ret_D (P := Try.prog) (w := w) (H := H) (v := .agg (svOf (hs1 0) 0 (flightG (grOf (CV.int cn :: CV.int cr :: CV.int cp :: CV.int cdl :: CV.dat cps :: CV.dat css :: CV.bool cv :: CV.int p1 :: CV.int p2 :: CV.int p3 :: CV.int p4 :: CV.bool pf :: CV.int p6 :: CV.dat pw :: CV.dat ph :: CV.int q1 :: CV.int q2 :: CV.int q3 :: CV.int q4 :: CV.bool qf :: CV.int q6 :: CV.dat qw :: CV.dat qh :: CV.int r1 :: CV.int r2 :: CV.int r3 :: CV.int r4 :: CV.bool rf :: CV.int r6 :: CV.dat rw :: CV.dat rh :: CV.dat fl :: CV.dat wa :: CV.dat wb :: CV.dat wc :: CV.int now :: CV.int (IntKind.i64.wrap (clk + 1)) :: CV.bool rt :: CV.int st :: [])) ek ew).cls)) (g := fun ds => .agg (svOf ds 0 (flightG (grOf (CV.int cn :: CV.int cr :: CV.int cp :: CV.int cdl :: CV.dat cps :: CV.dat css :: CV.bool cv :: CV.int p1 :: CV.int p2 :: CV.int p3 :: CV.int p4 :: CV.bool pf :: CV.int p6 :: CV.dat pw :: CV.dat ph :: CV.int q1 :: CV.int q2 :: CV.int q3 :: CV.int q4 :: CV.bool qf :: CV.int q6 :: CV.dat qw :: CV.dat qh :: CV.int r1 :: CV.int r2 :: CV.int r3 :: CV.int r4 :: CV.bool rf :: CV.int r6 :: CV.dat rw :: CV.dat rh :: CV.dat fl :: CV.dat wa :: CV.dat wb :: CV.dat wc :: CV.int now :: CV.int (IntKind.i64.wrap (clk + 1)) :: CV.bool rt :: CV.int st :: [])) ek ew).cls)) (hs1 0) (fun _ _ => rfl) (fun _ h => h)

theorem step2_run {w : World} {H : HV} {cn cr cp cdl : Int} {cps css : D} {cv : Bool} {p1 p2 p3 p4 : Int} {pf : Bool} {p6 : Int} {pw ph : D} {q1 q2 q3 q4 : Int} {qf : Bool} {q6 : Int} {qw qh : D} {r1 r2 r3 r4 : Int} {rf : Bool} {r6 : Int} {rw rh : D} {fl wa wb wc : D} {now clk : Int} {rt : Bool} {st : Int} {ek en ew : Int} (hek : U8 ek) (hen : U8 en) (hew : U8 ew) (hR : GrRight (cv9 cn cr cp cdl cps css cv p1 p2 p3 p4 pf p6 pw ph q1 q2 q3 q4 qf q6 qw qh r1 r2 r3 r4 rf r6 rw rh fl wa wb wc now clk rt st)) (hf9 : (grOf (cv9 cn cr cp cdl cps css cv p1 p2 p3 p4 pf p6 pw ph q1 q2 q3 q4 qf q6 qw qh r1 r2 r3 r4 rf r6 rw rh fl wa wb wc now clk rt st)).flight.length ≤ 999000) (hr : (Sx.stepG (grOf (cv9 cn cr cp cdl cps css cv p1 p2 p3 p4 pf p6 pw ph q1 q2 q3 q4 qf q6 qw qh r1 r2 r3 r4 rf r6 rw rh fl wa wb wc now clk rt st)) ek 2 en ew).right = true) :
  Runs Try.prog ⟨w, H⟩ (stepL cn cr cp cdl cps css cv p1 p2 p3 p4 pf p6 pw ph q1 q2 q3 q4 qf q6 qw qh r1 r2 r3 r4 rf r6 rw rh fl wa wb wc now clk rt st ek en ew 2) (RetD w H fun ds => .agg (svOf ds 0 (Sx.stepG (grOf (cv9 cn cr cp cdl cps css cv p1 p2 p3 p4 pf p6 pw ph q1 q2 q3 q4 qf q6 qw qh r1 r2 r3 r4 rf r6 rw rh fl wa wb wc now clk rt st)) ek 2 en ew).cls)) := by
 have hRc := clk_right hR
 rw [grRight_eq] at hR
 obtain ⟨⟨hc1, hc2⟩, hp, hq, hr', ⟨hf, hfl⟩, ⟨ha, hal⟩, ⟨hb, hbl⟩, ⟨hcc, hcl⟩⟩ := hR
 have hp' := hp; have hq' := hq; have hr2 := hr'
 obtain ⟨hpw, hph, hpl, hpm⟩ := hp'
 obtain ⟨hqw, hqh, hql, hqm⟩ := hq'
 obtain ⟨hrw, hrh, hrl, hrm⟩ := hr2
 simp only at hpw hph hpl hpm hqw hqh hql hqm hrw hrh hrl hrm
 have lW := D.Is.length (α := Wr) wc
 have lW2 := rows_len (rows_of hcc)
 have lF := D.Is.length (α := Msg) fl
 have f9 : (fl.to Msg).length ≤ 999000 := by rw [grOf_eq] at hf9; exact hf9
 have n7 : (7 : Int) ≠ 0 := by decide
 have nn : (0 : Int) ≤ 2 ∧ (2 : Int) < ((3 : Nat) : Int) := by omega
 apply exec_sound ctSOk 900
 rw [step2_go]
 refine ⟨n7, fun h0 => ?_, fun h0 => ⟨fun h1 => ?_, fun h1 => ⟨fun h2 => ?_, fun h2 => ⟨fun h6 => ?_, fun h6 => ?_⟩⟩⟩⟩
 ·have h0 : Int.tmod ek 7 = 0 := of_decide_eq_true h0
  have e : Sx.stepG (grOf (cv9 cn cr cp cdl cps css cv p1 p2 p3 p4 pf p6 pw ph q1 q2 q3 q4 qf q6 qw qh r1 r2 r3 r4 rf r6 rw rh fl wa wb wc now clk rt st)) ek 2 en ew = issueG (grOf (CV.int cn :: CV.int cr :: CV.int cp :: CV.int cdl :: CV.dat cps :: CV.dat css :: CV.bool cv :: CV.int p1 :: CV.int p2 :: CV.int p3 :: CV.int p4 :: CV.bool pf :: CV.int p6 :: CV.dat pw :: CV.dat ph :: CV.int q1 :: CV.int q2 :: CV.int q3 :: CV.int q4 :: CV.bool qf :: CV.int q6 :: CV.dat qw :: CV.dat qh :: CV.int r1 :: CV.int r2 :: CV.int r3 :: CV.int r4 :: CV.bool rf :: CV.int r6 :: CV.dat rw :: CV.dat rh :: CV.dat fl :: CV.dat wa :: CV.dat wb :: CV.dat wc :: CV.int now :: CV.int (IntKind.i64.wrap (clk + 1)) :: CV.bool rt :: CV.int st :: [])) 2 := by rw [Sx.stepG, if_pos h0, clk_eq]
  rw [e] at hr ⊢
  rw [grOf_eq] at hr ⊢
  simp only [issueG, tri_0, tri_1, tri_2, tri_upd0, tri_upd1, tri_upd2, Bool.and_eq_true] at hr
  simp only [issueG, tri_0, tri_1, tri_2, tri_upd0, tri_upd1, tri_upd2, cls_tri]
  obtain ⟨hrt, hlen⟩ := hr
  have hrow : SRows Wr (List.append (D.rows wc) [[.int .i64 (IntKind.i64.wrap (clk + 1)), .int .i64 0, .int .i64 0, .int .i64 0]]) (wc.to Wr ++ [⟨IntKind.i64.wrap (clk + 1), 0, 0, 0⟩]) := rows_app (rows_of hcc) (rows_one ⟨_, _, _, _, rfl⟩ rfl)
  refine ⟨nn, hr', fun hs => ⟨nn, fun _ => ⟨nn, fun hs1 => ⟨nn, ⟨rfl, hcc.fits, by simp only [len_slc, List.length_nil]; omega, by simp only [len_slc, List.length_nil]; omega⟩, ⟨rfl, .inr rfl, ?_, ?_⟩, nn, ?_⟩⟩, fun h => absurd (hrt.symm.trans h) (by decide)⟩⟩
  ·have e1 : (List.append (D.rows (D.slc (D.hd (hs1 1 0)) 4 [])) (D.rows wc)).length = (D.rows wc).length := rfl
   simp only [len_slc, e1, List.length_cons, List.length_nil]; omega
  ·have e1 : (List.append (D.rows (D.slc (D.hd (hs1 1 0)) 4 [])) (D.rows wc)).length = (D.rows wc).length := rfl
   simp only [len_slc, e1, List.length_cons, List.length_nil]; omega
  ·refine ret_cells ?_
   repeat' first
   | exact .nil
   | refine .cons ?_ ?_
   | exact rfl
   | exact fun _ => rfl
   | exact lst_ok stands_like
   | exact lst_ok (stands_self (by assumption))
   | exact lst_ok (stands_rows rfl hrow)
   | exact bool_ok (issue_bool hrt lW)
   | fail
 ·have h1 : Int.tmod ek 7 = 1 := of_decide_eq_true h1
  have e : Sx.stepG (grOf (cv9 cn cr cp cdl cps css cv p1 p2 p3 p4 pf p6 pw ph q1 q2 q3 q4 qf q6 qw qh r1 r2 r3 r4 rf r6 rw rh fl wa wb wc now clk rt st)) ek 2 en ew = durG (grOf (CV.int cn :: CV.int cr :: CV.int cp :: CV.int cdl :: CV.dat cps :: CV.dat css :: CV.bool cv :: CV.int p1 :: CV.int p2 :: CV.int p3 :: CV.int p4 :: CV.bool pf :: CV.int p6 :: CV.dat pw :: CV.dat ph :: CV.int q1 :: CV.int q2 :: CV.int q3 :: CV.int q4 :: CV.bool qf :: CV.int q6 :: CV.dat qw :: CV.dat qh :: CV.int r1 :: CV.int r2 :: CV.int r3 :: CV.int r4 :: CV.bool rf :: CV.int r6 :: CV.dat rw :: CV.dat rh :: CV.dat fl :: CV.dat wa :: CV.dat wb :: CV.dat wc :: CV.int now :: CV.int (IntKind.i64.wrap (clk + 1)) :: CV.bool rt :: CV.int st :: [])) 2 ew := by rw [Sx.stepG, if_neg (tmod7 h1 (by decide)), if_pos h1, clk_eq]
  rw [e] at hr ⊢
  refine ⟨⟨hRc, hew, hr⟩, fun hs1 => ?_⟩
  exact ret_D (P := Try.prog) (w := w) (H := H) (v := .agg (svOf (hs1 0) 0 (durG (grOf (CV.int cn :: CV.int cr :: CV.int cp :: CV.int cdl :: CV.dat cps :: CV.dat css :: CV.bool cv :: CV.int p1 :: CV.int p2 :: CV.int p3 :: CV.int p4 :: CV.bool pf :: CV.int p6 :: CV.dat pw :: CV.dat ph :: CV.int q1 :: CV.int q2 :: CV.int q3 :: CV.int q4 :: CV.bool qf :: CV.int q6 :: CV.dat qw :: CV.dat qh :: CV.int r1 :: CV.int r2 :: CV.int r3 :: CV.int r4 :: CV.bool rf :: CV.int r6 :: CV.dat rw :: CV.dat rh :: CV.dat fl :: CV.dat wa :: CV.dat wb :: CV.dat wc :: CV.int now :: CV.int (IntKind.i64.wrap (clk + 1)) :: CV.bool rt :: CV.int st :: [])) 2 ew).cls)) (g := fun ds => .agg (svOf ds 0 (durG (grOf (CV.int cn :: CV.int cr :: CV.int cp :: CV.int cdl :: CV.dat cps :: CV.dat css :: CV.bool cv :: CV.int p1 :: CV.int p2 :: CV.int p3 :: CV.int p4 :: CV.bool pf :: CV.int p6 :: CV.dat pw :: CV.dat ph :: CV.int q1 :: CV.int q2 :: CV.int q3 :: CV.int q4 :: CV.bool qf :: CV.int q6 :: CV.dat qw :: CV.dat qh :: CV.int r1 :: CV.int r2 :: CV.int r3 :: CV.int r4 :: CV.bool rf :: CV.int r6 :: CV.dat rw :: CV.dat rh :: CV.dat fl :: CV.dat wa :: CV.dat wb :: CV.dat wc :: CV.int now :: CV.int (IntKind.i64.wrap (clk + 1)) :: CV.bool rt :: CV.int st :: [])) 2 ew).cls)) (hs1 0) (fun _ _ => rfl) (fun _ h => h)
 ·have h2 : Int.tmod ek 7 = 2 := of_decide_eq_true h2
  have e : Sx.stepG (grOf (cv9 cn cr cp cdl cps css cv p1 p2 p3 p4 pf p6 pw ph q1 q2 q3 q4 qf q6 qw qh r1 r2 r3 r4 rf r6 rw rh fl wa wb wc now clk rt st)) ek 2 en ew = roundG (grOf (CV.int cn :: CV.int cr :: CV.int cp :: CV.int cdl :: CV.dat cps :: CV.dat css :: CV.bool cv :: CV.int p1 :: CV.int p2 :: CV.int p3 :: CV.int p4 :: CV.bool pf :: CV.int p6 :: CV.dat pw :: CV.dat ph :: CV.int q1 :: CV.int q2 :: CV.int q3 :: CV.int q4 :: CV.bool qf :: CV.int q6 :: CV.dat qw :: CV.dat qh :: CV.int r1 :: CV.int r2 :: CV.int r3 :: CV.int r4 :: CV.bool rf :: CV.int r6 :: CV.dat rw :: CV.dat rh :: CV.dat fl :: CV.dat wa :: CV.dat wb :: CV.dat wc :: CV.int now :: CV.int (IntKind.i64.wrap (clk + 1)) :: CV.bool rt :: CV.int st :: [])) := by rw [Sx.stepG, if_neg (tmod7 h2 (by decide)), if_neg (tmod7 h2 (by decide)), if_pos h2, clk_eq]
  rw [e] at hr ⊢
  rw [grOf_eq] at hr ⊢
  obtain ⟨s1, s2, s3, s4⟩ := startCo_len ⟨cn, cr, cp, cdl, cps.to Int, css.to Bool, cv⟩ now 20
  refine ⟨⟨hc1, hc2⟩, fun hs => ⟨fun hx => ?_, fun hx => ?_⟩⟩
  ·have hx : ¬(startCo ⟨cn, cr, cp, cdl, cps.to Int, css.to Bool, cv⟩ now 20).2.2 = 0 := by simp only [bne_iff_ne, ne_eq] at hx; exact hx
   rw [roundG] at hr ⊢
   simp only at hr ⊢
   rw [if_pos hx] at hr ⊢
   simp only [Bool.and_eq_true] at hr
   obtain ⟨hrt, hbz⟩ := hr
   refine ⟨fun _ => ?_, fun h => absurd (hrt.symm.trans h) (by decide)⟩
   rw [cls_tri]
   refine ret_cells ?_
   repeat' first
   | exact .nil
   | refine .cons ?_ ?_
   | exact rfl
   | exact fun _ => rfl
   | exact lst_ok stands_like
   | exact lst_ok (stands_self (by assumption))
   | exact bool_ok (by rw [hrt, Bool.true_and]; rfl)
   | fail
  ·have hx : (startCo ⟨cn, cr, cp, cdl, cps.to Int, css.to Bool, cv⟩ now 20).2.2 = 0 := by simp only [bne_eq_false_iff_eq] at hx; exact hx
   rw [roundG] at hr ⊢
   simp only at hr ⊢
   rw [if_neg (not_not_intro hx)] at hr ⊢
   simp only [sendG] at hr ⊢
   refine ⟨⟨hf, by omega, D.like_is _ _, ?_⟩, fun hs1 => ?_⟩
   ·rw [like_len]; exact Nat.le_trans s3 (by omega)
   rw [cls_tri]
   refine ret_cells ?_
   repeat' first
   | exact .nil
   | refine .cons ?_ ?_
   | exact rfl
   | exact fun _ => rfl
   | exact lst_ok stands_like
   | exact lst_ok (stands_self (by assumption))
   | exact lst_ok (by rw [D.like_to]; exact stands_like)
   | fail
 ·have h6 : Int.tmod ek 7 = 6 := of_decide_eq_true h6
  have e : Sx.stepG (grOf (cv9 cn cr cp cdl cps css cv p1 p2 p3 p4 pf p6 pw ph q1 q2 q3 q4 qf q6 qw qh r1 r2 r3 r4 rf r6 rw rh fl wa wb wc now clk rt st)) ek 2 en ew = tickG (grOf (CV.int cn :: CV.int cr :: CV.int cp :: CV.int cdl :: CV.dat cps :: CV.dat css :: CV.bool cv :: CV.int p1 :: CV.int p2 :: CV.int p3 :: CV.int p4 :: CV.bool pf :: CV.int p6 :: CV.dat pw :: CV.dat ph :: CV.int q1 :: CV.int q2 :: CV.int q3 :: CV.int q4 :: CV.bool qf :: CV.int q6 :: CV.dat qw :: CV.dat qh :: CV.int r1 :: CV.int r2 :: CV.int r3 :: CV.int r4 :: CV.bool rf :: CV.int r6 :: CV.dat rw :: CV.dat rh :: CV.dat fl :: CV.dat wa :: CV.dat wb :: CV.dat wc :: CV.int now :: CV.int (IntKind.i64.wrap (clk + 1)) :: CV.bool rt :: CV.int st :: [])) en ew := by rw [Sx.stepG, if_neg (tmod7 h6 (by decide)), if_neg (tmod7 h6 (by decide)), if_neg (tmod7 h6 (by decide)), if_pos h6, clk_eq]
  rw [e] at hr ⊢
  refine ⟨⟨hRc, ⟨⟨hen, hew⟩, f9⟩, hr⟩, fun hs1 => ?_⟩
  exact ret_D (P := Try.prog) (w := w) (H := H) (v := .agg (svOf (hs1 0) 0 (tickG (grOf (CV.int cn :: CV.int cr :: CV.int cp :: CV.int cdl :: CV.dat cps :: CV.dat css :: CV.bool cv :: CV.int p1 :: CV.int p2 :: CV.int p3 :: CV.int p4 :: CV.bool pf :: CV.int p6 :: CV.dat pw :: CV.dat ph :: CV.int q1 :: CV.int q2 :: CV.int q3 :: CV.int q4 :: CV.bool qf :: CV.int q6 :: CV.dat qw :: CV.dat qh :: CV.int r1 :: CV.int r2 :: CV.int r3 :: CV.int r4 :: CV.bool rf :: CV.int r6 :: CV.dat rw :: CV.dat rh :: CV.dat fl :: CV.dat wa :: CV.dat wb :: CV.dat wc :: CV.int now :: CV.int (IntKind.i64.wrap (clk + 1)) :: CV.bool rt :: CV.int st :: [])) en ew).cls)) (g := fun ds => .agg (svOf ds 0 (tickG (grOf (CV.int cn :: CV.int cr :: CV.int cp :: CV.int cdl :: CV.dat cps :: CV.dat css :: CV.bool cv :: CV.int p1 :: CV.int p2 :: CV.int p3 :: CV.int p4 :: CV.bool pf :: CV.int p6 :: CV.dat pw :: CV.dat ph :: CV.int q1 :: CV.int q2 :: CV.int q3 :: CV.int q4 :: CV.bool qf :: CV.int q6 :: CV.dat qw :: CV.dat qh :: CV.int r1 :: CV.int r2 :: CV.int r3 :: CV.int r4 :: CV.bool rf :: CV.int r6 :: CV.dat rw :: CV.dat rh :: CV.dat fl :: CV.dat wa :: CV.dat wb :: CV.dat wc :: CV.int now :: CV.int (IntKind.i64.wrap (clk + 1)) :: CV.bool rt :: CV.int st :: [])) en ew).cls)) (hs1 0) (fun _ _ => rfl) (fun _ h => h)
 ·have h0 : ¬Int.tmod ek 7 = 0 := of_decide_eq_false h0
  have h1 : ¬Int.tmod ek 7 = 1 := of_decide_eq_false h1
  have h2 : ¬Int.tmod ek 7 = 2 := of_decide_eq_false h2
  have h6 : ¬Int.tmod ek 7 = 6 := of_decide_eq_false h6
  have e : Sx.stepG (grOf (cv9 cn cr cp cdl cps css cv p1 p2 p3 p4 pf p6 pw ph q1 q2 q3 q4 qf q6 qw qh r1 r2 r3 r4 rf r6 rw rh fl wa wb wc now clk rt st)) ek 2 en ew = flightG (grOf (CV.int cn :: CV.int cr :: CV.int cp :: CV.int cdl :: CV.dat cps :: CV.dat css :: CV.bool cv :: CV.int p1 :: CV.int p2 :: CV.int p3 :: CV.int p4 :: CV.bool pf :: CV.int p6 :: CV.dat pw :: CV.dat ph :: CV.int q1 :: CV.int q2 :: CV.int q3 :: CV.int q4 :: CV.bool qf :: CV.int q6 :: CV.dat qw :: CV.dat qh :: CV.int r1 :: CV.int r2 :: CV.int r3 :: CV.int r4 :: CV.bool rf :: CV.int r6 :: CV.dat rw :: CV.dat rh :: CV.dat fl :: CV.dat wa :: CV.dat wb :: CV.dat wc :: CV.int now :: CV.int (IntKind.i64.wrap (clk + 1)) :: CV.bool rt :: CV.int st :: [])) ek ew := by rw [Sx.stepG, if_neg h0, if_neg h1, if_neg h2, if_neg h6, clk_eq]
  rw [e] at hr ⊢
  refine ⟨⟨hRc, ⟨hek, hew⟩, hr⟩, fun hs1 => ?_⟩
  exact ret_D (P := Try.prog) (w := w) (H := H) (v := .agg (svOf (hs1 0) 0 (flightG (grOf (CV.int cn :: CV.int cr :: CV.int cp :: CV.int cdl :: CV.dat cps :: CV.dat css :: CV.bool cv :: CV.int p1 :: CV.int p2 :: CV.int p3 :: CV.int p4 :: CV.bool pf :: CV.int p6 :: CV.dat pw :: CV.dat ph :: CV.int q1 :: CV.int q2 :: CV.int q3 :: CV.int q4 :: CV.bool qf :: CV.int q6 :: CV.dat qw :: CV.dat qh :: CV.int r1 :: CV.int r2 :: CV.int r3 :: CV.int r4 :: CV.bool rf :: CV.int r6 :: CV.dat rw :: CV.dat rh :: CV.dat fl :: CV.dat wa :: CV.dat wb :: CV.dat wc :: CV.int now :: CV.int (IntKind.i64.wrap (clk + 1)) :: CV.bool rt :: CV.int st :: [])) ek ew).cls)) (g := fun ds => .agg (svOf ds 0 (flightG (grOf (CV.int cn :: CV.int cr :: CV.int cp :: CV.int cdl :: CV.dat cps :: CV.dat css :: CV.bool cv :: CV.int p1 :: CV.int p2 :: CV.int p3 :: CV.int p4 :: CV.bool pf :: CV.int p6 :: CV.dat pw :: CV.dat ph :: CV.int q1 :: CV.int q2 :: CV.int q3 :: CV.int q4 :: CV.bool qf :: CV.int q6 :: CV.dat qw :: CV.dat qh :: CV.int r1 :: CV.int r2 :: CV.int r3 :: CV.int r4 :: CV.bool rf :: CV.int r6 :: CV.dat rw :: CV.dat rh :: CV.dat fl :: CV.dat wa :: CV.dat wb :: CV.dat wc :: CV.int now :: CV.int (IntKind.i64.wrap (clk + 1)) :: CV.bool rt :: CV.int st :: [])) ek ew).cls)) (hs1 0) (fun _ _ => rfl) (fun _ h => h)

theorem step_ent {w : World} {H : HV} {cn cr cp cdl : Int} {cps css : D} {cv : Bool} {p1 p2 p3 p4 : Int} {pf : Bool} {p6 : Int} {pw ph : D} {q1 q2 q3 q4 : Int} {qf : Bool} {q6 : Int} {qw qh : D} {r1 r2 r3 r4 : Int} {rf : Bool} {r6 : Int} {rw rh : D} {fl wa wb wc : D} {now clk : Int} {rt : Bool} {st : Int} {ek en ew : Int} (hek : U8 ek) (hen : U8 en) (hew : U8 ew) (hR : GrRight (cv9 cn cr cp cdl cps css cv p1 p2 p3 p4 pf p6 pw ph q1 q2 q3 q4 qf q6 qw qh r1 r2 r3 r4 rf r6 rw rh fl wa wb wc now clk rt st)) (hf9 : (grOf (cv9 cn cr cp cdl cps css cv p1 p2 p3 p4 pf p6 pw ph q1 q2 q3 q4 qf q6 qw qh r1 r2 r3 r4 rf r6 rw rh fl wa wb wc now clk rt st)).flight.length ≤ 999000) (hr : (Sx.stepG (grOf (cv9 cn cr cp cdl cps css cv p1 p2 p3 p4 pf p6 pw ph q1 q2 q3 q4 qf q6 qw qh r1 r2 r3 r4 rf r6 rw rh fl wa wb wc now clk rt st)) ek (nodeOf en) en ew).right = true) :
  Runs Try.prog ⟨w, H⟩ (entry Try.prog 45 [.agg (cl9 cn cr cp cdl cps css cv p1 p2 p3 p4 pf p6 pw ph q1 q2 q3 q4 qf q6 qw qh r1 r2 r3 r4 rf r6 rw rh fl wa wb wc now clk rt st), .agg [.int .u8 ek, .int .u8 en, .int .u8 ew]]) (RetD w H fun ds => .agg (svOf ds 0 (Sx.stepG (grOf (cv9 cn cr cp cdl cps css cv p1 p2 p3 p4 pf p6 pw ph q1 q2 q3 q4 qf q6 qw qh r1 r2 r3 r4 rf r6 rw rh fl wa wb wc now clk rt st)) ek (nodeOf en) en ew).cls)) := by
 have e1 : IntKind.i64.wrap en = en := wrap64 (by have := hen.1; omega) (by have := hen.2; omega)
 have t0 : 0 ≤ Int.tmod en 3 := Int.tmod_nonneg _ hen.1
 have t1 : Int.tmod en 3 < 3 := Int.tmod_lt_of_pos _ (by decide)
 apply goS_sound ctSOk (fun _ => false) [(45, 15)] 900
 rw [step_in, e1]
 refine ⟨(by decide : (3 : Int) ≠ 0), ?_⟩
 have hm : Int.tmod en 3 = 0 ∨ Int.tmod en 3 = 1 ∨ Int.tmod en 3 = 2 := by omega
 rcases hm with h | h | h
 ·have hn : nodeOf en = 0 := by rw [nodeOf, if_pos h]
  rw [hn] at hr ⊢
  rw [h]
  exact step0_run hek hen hew hR hf9 hr
 ·have hn : nodeOf en = 1 := by rw [nodeOf, if_neg (by omega), if_pos h]
  rw [hn] at hr ⊢
  rw [h]
  exact step1_run hek hen hew hR hf9 hr
 ·have hn : nodeOf en = 2 := by rw [nodeOf, if_neg (by omega), if_neg (by omega)]
  rw [hn] at hr ⊢
  rw [h]
  exact step2_run hek hen hew hR hf9 hr

theorem lawStep : Law Try.prog 45 (((rdCells grK).two rdEv).sp spStep) := by
 refine law_in _ (by kernel_rfl) fun H w ⟨⟨cs, hsh⟩, ek, en, ew⟩ hok => ?_
 obtain ⟨cn, cr, cp, cdl, cps, css, cv, p1, p2, p3, p4, pf, p6, pw, ph, q1, q2, q3, q4, qf, q6, qw, qh, r1, r2, r3, r4, rf, r6, rw, rh, fl, wa, wb, wc, now, clk, rt, st, rfl⟩ := gr_shape hsh
 intro hp
 obtain ⟨h1, ⟨⟨h2, h3, h4⟩, h5⟩, h6⟩ := hp _ (List.mem_singleton.2 rfl)
 exact step_ent h2 h3 h4 h1 h5 h6
end Go.Proofs.Ytoechplbhbalaaa
end
section
open Go Go.Proofs Sx
namespace Go.Proofs.Ytoechplbhbalaaa
noncomputable def ctP : Ctrs := (45, ctrOf (((rdCells grK).two rdEv).sp spStep)) :: ctS
theorem ctPOk : Ctrs.Ok Try.prog ctP := by
 intro x hx
 rcases List.mem_cons.1 hx with rfl | hx
 ·exact ctrOf_ok lawStep
 ·exact ctSOk _ hx
end Go.Proofs.Ytoechplbhbalaaa
end
section
open Go Go.Proofs Sx
namespace Go.Proofs.Ytoechplbhbalaaa
set_option maxRecDepth 100000
set_option maxHeartbeats 0
noncomputable def p9L (l : D) (cs : List SV) (i : Int) : Conf := Conf.mk (SFrm.mk 9 none none [Item.inLoop (cAt Try.prog 9 [1, 1, 1, 0, 1, 0, 0]), Item.inBlock 0, Item.code (cAt Try.prog 9 [1, 1, 1, 1])] (mkJ 0 [(0, .dat l), (3, .ptr 0 0), (4, .int .i64 i)] 0 68)) [] [(0, .cells 97 cs)]
noncomputable def p8L (l : D) (cs : List SV) (i : Int) : Conf := Conf.mk (SFrm.mk 8 none none [Item.inLoop (cAt Try.prog 8 [1, 1, 1, 0, 1, 0, 0]), Item.inBlock 0, Item.code (cAt Try.prog 8 [1, 1, 1, 1])] (mkJ 0 [(0, .dat l), (3, .ptr 0 0), (4, .int .i64 i)] 0 46)) [] [(0, .cells 97 cs)]
section
variable (cn cr cp cdl : Int) (cps css : D) (cv : Bool) (p1 p2 p3 p4 : Int) (pf : Bool) (p6 : Int) (pw ph : D) (q1 q2 q3 q4 : Int) (qf : Bool) (q6 : Int) (qw qh : D) (r1 r2 r3 r4 : Int) (rf : Bool) (r6 : Int) (rw rh : D) (fl wa wb wc : D) (now clk : Int) (rt : Bool) (st : Int) (l : D) (i : Int)


end
end Go.Proofs.Ytoechplbhbalaaa
end
section
open Go Go.Proofs Sx
namespace Go.Proofs.Ytoechplbhbalaaa
set_option maxRecDepth 100000
set_option maxHeartbeats 0
noncomputable def p9E (cs : List SV) : Conf := Conf.mk (SFrm.mk 9 none none [Item.code (cAt Try.prog 9 [1, 1, 1, 1, 0]), Item.code (cAt Try.prog 9 [1, 1, 1, 1, 1])] (mkJ 0 [(3, .ptr 0 0)] 0 68)) [] [(0, .cells 97 cs)]
section
variable (cn cr cp cdl : Int) (cps css : D) (cv : Bool) (p1 p2 p3 p4 : Int) (pf : Bool) (p6 : Int) (pw ph : D) (q1 q2 q3 q4 : Int) (qf : Bool) (q6 : Int) (qw qh : D) (r1 r2 r3 r4 : Int) (rf : Bool) (r6 : Int) (rw rh : D) (fl wa wb wc : D) (now clk : Int) (rt : Bool) (st : Int) (i : Int)

end
end Go.Proofs.Ytoechplbhbalaaa
end
section
open Go Go.Proofs Sx
namespace Go.Proofs.Ytoechplbhbalaaa
set_option maxRecDepth 100000
set_option maxHeartbeats 0
noncomputable def p9N (cs : List SV) (n : Int) : Conf := Conf.mk (SFrm.mk 9 none none [Item.inLoop (cAt Try.prog 9 [1, 1, 1, 1, 1, 1, 0, 1, 0, 0]), Item.inBlock 2, Item.code (cAt Try.prog 9 [1, 1, 1, 1, 1, 1, 1])] (mkJ 0 [(3, .ptr 0 0), (5, .int .i64 n)] 0 68)) [] [(0, .cells 97 cs)]
noncomputable def p9W (cs : List SV) (n i : Int) : Conf := Conf.mk (SFrm.mk 9 none none [Item.inLoop (cAt Try.prog 9 [1, 1, 1, 1, 1, 1, 0, 1, 0, 0, 1, 0, 0, 1, 0, 0]), Item.inBlock 4, Item.inBlock 3, Item.code (cAt Try.prog 9 [1, 1, 1, 1, 1, 1, 0, 1, 0, 0, 1, 1]), Item.inLoop (cAt Try.prog 9 [1, 1, 1, 1, 1, 1, 0, 1, 0, 0]), Item.inBlock 2, Item.code (cAt Try.prog 9 [1, 1, 1, 1, 1, 1, 1])] (mkJ 0 [(3, .ptr 0 0), (5, .int .i64 n), (6, .int .i64 i)] 0 68)) [] [(0, .cells 97 cs)]
section
variable (cn cr cp cdl : Int) (cps css : D) (cv : Bool) (p1 p2 p3 p4 : Int) (pf : Bool) (p6 : Int) (pw ph : D) (q1 q2 q3 q4 : Int) (qf : Bool) (q6 : Int) (qw qh : D) (r1 r2 r3 r4 : Int) (rf : Bool) (r6 : Int) (rw rh : D) (fl wa wb wc : D) (now clk : Int) (rt : Bool) (st : Int) (i : Int)







end
end Go.Proofs.Ytoechplbhbalaaa
end
section
namespace Sx
open Go RowKit

theorem cellsTo {P : Program} {C : Ctx} {R : Value → World → Prop} {top : SFrm} {rest : List SFrm} {k : Nat} {t : TypeId} {cs cs' : List SV} {r : Mem}
  (hd : ∀ E, SV.denL E cs' = SV.denL E cs) (ho : ∀ H, SV.OkL H cs → SV.OkL H cs') (h : Runs P C ⟨top, rest, (k, .cells t cs') :: r⟩ R) : Runs P C ⟨top, rest, (k, .cells t cs) :: r⟩ R := by
 intro E H w g ok
 refine h E H w ⟨g.below, g.ext, g.fresh, g.cell, fun j o hj => ?_, ?_, ?_⟩ ok
 ·rcases List.mem_cons.1 hj with hj | hj
  ·cases hj
   obtain ⟨a1, a2, a3, a4⟩ := g.own k _ List.mem_cons_self
   exact ⟨a1, by rw [hd]; exact a2, a3, ho _ a4⟩
  ·exact g.own j o (List.mem_cons_of_mem _ hj)
 ·have := g.keys
  rw [List.pairwise_cons] at this ⊢
  exact ⟨fun x hx => this.1 x hx, this.2⟩
 ·intro x y hx hy hne hlx hly
  have key : ∀ z : Nat × OBlk, z ∈ (k, OBlk.cells t cs') :: r → z.2.Lies → ∃ o, (z.1, o) ∈ (k, OBlk.cells t cs) :: r ∧ o.Lies := by
   intro z hz hl
   rcases List.mem_cons.1 hz with rfl | hz
   ·exact ⟨_, List.mem_cons_self, trivial⟩
   ·exact ⟨z.2, List.mem_cons_of_mem _ hz, hl⟩
  obtain ⟨o1, m1, l1⟩ := key x hx hlx
  obtain ⟨o2, m2, l2⟩ := key y hy hly
  exact g.apart (x.1, o1) (y.1, o2) m1 m2 hne l1 l2

noncomputable def cvOf (ds : Nat → D) : Nat → List CL → List CV
 | _, [] => []
 | i, .int n :: r => .int n :: cvOf ds i r
 | i, .bool n :: r => .bool n :: cvOf ds i r
 | i, .lst _ l :: r => .dat ((ds i).like l) :: cvOf ds (i + 1) r
end Sx
end
section
namespace Sx
open Go
structure MbOk (m : Mb) : Prop where
 r : 0 ≤ m.round ∧ m.round ≤ 1073741824
 u : 0 ≤ m.upto ∧ m.upto ≤ 1073741824
 t : 0 ≤ m.thawed ∧ m.thawed ≤ m.round
 p : 0 ≤ m.position ∧ m.position ≤ m.issued ∧ m.issued ≤ 4096
 fh : m.frozen = false → m.held = []
 ws : m.waiting.Pairwise (· < ·)
 wi : ∀ x, x ∈ m.waiting → 0 ≤ x ∧ x < m.issued
 hn : m.held.Nodup
 hi : ∀ x, x ∈ m.held → (0 ≤ x ∧ x < m.issued) ∧ x ∉ m.waiting

theorem MbOk.check {m : Mb} (h : MbOk m) : checkMb m = 0 := by
 unfold checkMb
 have h1 : headMb m = true := by
  simp only [headMb, okTime, decide_eq_true_eq, Bool.and_eq_false_imp, decide_eq_false_iff_not]
  have := h.r; have := h.u; have := h.t; have := h.p
  rintro (h | h | h | h | h | h | h | ⟨h1, h2⟩)
  ·omega
  ·omega
  ·omega
  ·omega
  ·omega
  ·omega
  ·omega
  ·exact h2 (h.fh h1)
 have h2 : (List.range m.waiting.length).any (badW m.issued m.waiting) = false := by
  rw [List.any_eq_false]
  intro i hi
  have hi := List.mem_range.1 hi
  have hg : m.waiting.getD i 0 = m.waiting[i] := by simp [hi]
  have hm := h.wi _ (List.getElem_mem hi)
  simp only [badW, hg, Bool.or_eq_true, Bool.and_eq_true, decide_eq_true_eq, not_or, not_and]
  refine ⟨⟨by omega, by omega⟩, fun h0 => ?_⟩
  have hg' : m.waiting.getD (i - 1) 0 = m.waiting[i - 1] := by simp [show i - 1 < m.waiting.length by omega]
  rw [hg']
  have := List.pairwise_iff_getElem.1 h.ws (i - 1) i (by omega) hi (by omega)
  omega
 have h3 : (List.range m.held.length).any (badH m.issued m.waiting m.held) = false := by
  rw [List.any_eq_false]
  intro i hi
  have hi := List.mem_range.1 hi
  have hg : m.held.getD i 0 = m.held[i] := by simp [hi]
  have hm := h.hi _ (List.getElem_mem hi)
  simp only [badH, hg, Bool.or_eq_true, decide_eq_true_eq, not_or, Bool.not_eq_true]
  refine ⟨⟨⟨by omega, by omega⟩, ?_⟩, ?_⟩
  ·rw [Bool.eq_false_iff]
   intro hc
   have hc := List.contains_iff_mem.1 hc
   obtain ⟨j, hj, he⟩ := List.mem_take_iff_getElem.1 hc
   have := List.pairwise_iff_getElem.1 h.hn j i (by omega) hi (by omega)
   exact this he
  ·rw [Bool.eq_false_iff]
   intro hc
   exact hm.2 (List.contains_iff_mem.1 hc)
 rw [if_neg (by rw [h1]; decide), if_neg (by rw [h2]; decide), if_neg (by rw [h3]; decide)]
def Wr.Waits (w : Wr) : Prop := w.durable = 0 ∧ w.acked = 0 ∧ w.times = 0
def Wr.Held (w : Wr) : Prop := 0 < w.durable ∧ w.acked = 0 ∧ w.times = 0
def Wr.Acked (w : Wr) : Prop := 0 < w.durable ∧ 0 < w.acked ∧ w.times = 1
structure NodeOk (m : Mb) (w : List Wr) : Prop where
 ok : MbOk m
 len : m.issued = w.length
 wait : ∀ x : Nat, (h : x < w.length) → (x : Int) ∈ m.waiting → w[x].Waits
 held : ∀ x : Nat, (h : x < w.length) → (x : Int) ∈ m.held → w[x].Held
 ackd : ∀ x : Nat, (h : x < w.length) → (x : Int) ∉ m.waiting → (x : Int) ∉ m.held → w[x].Acked
theorem ackW_spec (clk : Int) : ∀ (l : List Int) (w : List Wr), l.Nodup → (∀ x, x ∈ l → 0 ≤ x ∧ ∃ h : x.toNat < w.length, 0 < w[x.toNat].durable ∧ w[x.toNat].times = 0) →
  (ackW clk false l w).2 = true ∧ ∃ hl : (ackW clk false l w).1.length = w.length, ∀ i : Nat, (h : i < w.length) →
   (ackW clk false l w).1[i]'(by rw [hl]; exact h) = if (i : Int) ∈ l then { w[i] with acked := clk, times := 1 } else w[i]
 | [], w, _, _ => ⟨rfl, rfl, fun i h => by simp [ackW]⟩
 | x :: l, w, hn, hx => by
  obtain ⟨hx0, hxl, hd, ht⟩ := hx x List.mem_cons_self
  rw [List.nodup_cons] at hn
  have hg : w.getD x.toNat ⟨0, 0, 0, 0⟩ = w[x.toNat] := by simp [hxl]
  have hw1 : IntKind.i64.wrap (w[x.toNat].times + 1) = 1 := by rw [ht]; rfl
  have ih := ackW_spec clk l (w.set x.toNat { w[x.toNat] with acked := clk, times := 1 }) hn.2 (fun y hy => by
   obtain ⟨hy0, hyl, hyd, hyt⟩ := hx y (List.mem_cons_of_mem _ hy)
   have hne : x ≠ y := fun e => hn.1 (e ▸ hy)
   refine ⟨hy0, by rw [List.length_set]; exact hyl, ?_⟩
   rw [List.getElem_set_ne (by omega)]
   exact ⟨hyd, hyt⟩)
  obtain ⟨i1, i2, i3⟩ := ih
  have e : ackW clk false (x :: l) w = ((ackW clk false l (w.set x.toNat { w[x.toNat] with acked := clk, times := 1 })).1, true && (ackW clk false l (w.set x.toNat { w[x.toNat] with acked := clk, times := 1 })).2) := by
   conv => lhs; unfold ackW
   rw [if_neg (by omega)]
   simp only [hg, hw1]
   have hd' : decide (w[x.toNat].durable = 0) = false := decide_eq_false (by omega)
   rw [hd']
   rfl
  refine ⟨by rw [e]; simp only [i1]; rfl, by rw [e]; simp only [i2, List.length_set], fun i hi => ?_⟩
  have hh := i3 i (by rw [List.length_set]; exact hi)
  simp only [e]
  rw [hh]
  by_cases hxi : (i : Int) = x
  ·have : x.toNat = i := by omega
   subst this
   have hnl : ¬((x.toNat : Int) ∈ l) := by rw [hxi]; exact hn.1
   rw [if_neg hnl, if_pos (by rw [hxi]; exact List.mem_cons_self)]
   simp
  ·have hne : ¬x.toNat = i := by omega
   simp only [List.mem_cons, hxi, false_or]
   simp only [List.getElem_set_ne hne]
structure Mstep (m m' : Mb) (acks : List Int) : Prop where
 ok : MbOk m'
 iss : m'.issued = m.issued
 wait : m'.waiting = m.waiting
 how : (acks = [] ∧ m'.held = m.held) ∨ (acks = m.held ∧ m'.held = [] ∧ m'.frozen = false)

theorem NodeOk.mstep {m m' : Mb} {w : List Wr} {acks : List Int} {clk : Int} (h : NodeOk m w) (hc : w ≠ [] → 0 < clk) (s : Mstep m m' acks) :
  NodeOk m' (ackW clk m'.frozen acks w).1 ∧ (ackW clk m'.frozen acks w).2 = true := by
 rcases s.how with ⟨h1, h2⟩ | ⟨h1, h2, h3⟩
 ·subst h1
  exact ⟨⟨s.ok, s.iss.trans h.len, fun x hx hm => h.wait x hx (s.wait ▸ hm), fun x hx hm => h.held x hx (h2 ▸ hm), fun x hx hm hm2 => h.ackd x hx (s.wait ▸ hm) (h2 ▸ hm2)⟩, rfl⟩
 ·subst h1
  rw [h3]
  have hin : ∀ x, x ∈ m.held → 0 ≤ x ∧ ∃ h : x.toNat < w.length, 0 < w[x.toNat].durable ∧ w[x.toNat].times = 0 := fun x hx => by
   obtain ⟨⟨a, b⟩, _⟩ := h.ok.hi x hx
   have hl : x.toNat < w.length := by have := h.len; omega
   have := h.held x.toNat hl (by rw [Int.toNat_of_nonneg a]; exact hx)
   exact ⟨a, hl, this.1, this.2.2⟩
  obtain ⟨a1, a2, a3⟩ := ackW_spec clk m.held w h.ok.hn hin
  refine ⟨⟨s.ok, s.iss.trans (h.len.trans (by rw [a2])), fun x hx hm => ?_, fun x hx hm => ?_, fun x hx hm _ => ?_⟩, a1⟩
  ·rw [a2] at hx
   rw [s.wait] at hm
   rw [a3 x hx, if_neg (fun hh => (h.ok.hi _ hh).2 hm)]
   exact h.wait x hx hm
  ·rw [h2] at hm; cases hm
  ·rw [a2] at hx
   rw [s.wait] at hm
   rw [a3 x hx]
   by_cases hh : (x : Int) ∈ m.held
   ·rw [if_pos hh]
    exact ⟨(h.held x hx hh).1, hc (by rintro rfl; simp at hx), rfl⟩
   ·rw [if_neg hh]
    exact h.ackd x hx hm hh

theorem thaw_step {m : Mb} (h : MbOk m) {m' : Mb} (ht : m' = { m with frozen := false, held := [] }) : Mstep m m' m.held := by
 subst ht
 exact ⟨⟨h.r, h.u, h.t, h.p, fun _ => rfl, h.ws, h.wi, List.nodup_nil, fun x hx => by cases hx⟩, rfl, rfl, .inr ⟨rfl, rfl, rfl⟩⟩
theorem same_step {m : Mb} (h : MbOk m) : Mstep m m [] := ⟨h, rfl, rfl, .inl ⟨rfl, rfl⟩⟩

theorem rel_step {m : Mb} (h : MbOk m) (now : Int) : Mstep m (relMb m now).1 (relMb m now).2 := by
 unfold relMb
 split
 ·exact same_step h
 ·exact thaw_step h rfl

theorem end_step {m : Mb} (h : MbOk m) (now : Int) (g : Msg) : Mstep m (endMb m now g).1 (endMb m now g).2.1 := by
 unfold endMb
 split
 ·exact same_step h
 ·split
  ·refine ⟨⟨h.r, h.u, ⟨h.r.1, Int.le_refl _⟩, h.p, fun _ => rfl, h.ws, h.wi, List.nodup_nil, fun x hx => by cases hx⟩, rfl, rfl, .inr ⟨rfl, rfl, rfl⟩⟩
  ·exact thaw_step h rfl

theorem clampT_rng {lo n : Int} (h : 0 ≤ lo) (h2 : lo ≤ 1073741824) : lo ≤ clampT lo n ∧ clampT lo n ≤ 1073741824 := by unfold clampT; omega

theorem obey_step {m : Mb} (h : MbOk m) (now p : Int) (g : Msg) : Mstep m (obeyMb m now p g).1 (obeyMb m now p g).2.1 := by
 have c0 := clampT_rng (lo := 0) (n := now) (by omega) (by omega)
 have c1 := clampT_rng (lo := 1) (n := p) (by omega) (by omega)
 unfold obeyMb
 split
 ·exact same_step h
 ·rename_i hc
  simp only [not_or, ne_eq, Decidable.not_not] at hc
  split
  ·split
   ·rename_i hg
    have := h.t; have := h.r; have := h.p
    exact ⟨⟨⟨by simp only; omega, by simp only; omega⟩, ⟨by simp only; omega, by simp only; omega⟩, ⟨by simp only; omega, by simp only; omega⟩, ⟨by simp only; omega, by simp only; omega, by simp only; omega⟩, fun hf => (by cases hf), h.ws, h.wi, h.hn, h.hi⟩, rfl, rfl, .inl ⟨rfl, rfl⟩⟩
   ·split
    ·exact same_step h
    ·exact same_step h
  ·split
   ·split
    ·exact end_step h _ _
    ·split
     ·exact same_step h
     ·exact same_step h
   ·split
    ·split
     ·exact thaw_step h rfl
     ·exact same_step h
    ·exact same_step h
end Sx
end
section
namespace Sx
open Go

theorem issue_node {m : Mb} {w : List Wr} (h : NodeOk m w) (hl : m.issued < 4096) (clk : Int) :
  NodeOk (issueMb m).1 (w ++ [⟨clk, 0, 0, 0⟩]) ∧ (issueMb m).2 = w.length := by
 have e : issueMb m = ({ m with waiting := m.waiting ++ [m.issued], issued := m.issued + 1 }, m.issued) := issue_ok h.ok.check (by omega)
 rw [e]
 have hlen := h.len
 have hp := h.ok.p
 refine ⟨⟨⟨h.ok.r, h.ok.u, h.ok.t, ⟨hp.1, by simp only; omega, by simp only; omega⟩, h.ok.fh, ?_, ?_, h.ok.hn, ?_⟩, ?_, ?_, ?_, ?_⟩, hlen⟩
 ·simp only
  rw [List.pairwise_append]
  refine ⟨h.ok.ws, List.pairwise_singleton _ _, fun a ha b hb => ?_⟩
  rw [List.mem_singleton.1 hb]
  exact (h.ok.wi a ha).2
 ·intro x hx
  simp only at hx ⊢
  rcases List.mem_append.1 hx with hx | hx
  ·have := h.ok.wi x hx; omega
  ·rw [List.mem_singleton.1 hx]; omega
 ·intro x hx
  simp only at hx ⊢
  obtain ⟨a, b⟩ := h.ok.hi x hx
  refine ⟨by omega, fun hm => ?_⟩
  rcases List.mem_append.1 hm with hm | hm
  ·exact b hm
  ·have := List.mem_singleton.1 hm; omega
 ·simp only [List.length_append, List.length_singleton]; omega
 ·intro x hx hm
  simp only at hm
  by_cases hxl : x < w.length
  ·rw [List.getElem_append_left hxl]
   refine h.wait x hxl ?_
   rcases List.mem_append.1 hm with hm | hm
   ·exact hm
   ·have := List.mem_singleton.1 hm; omega
  ·rw [List.getElem_append_right (by omega)]
   simp [Wr.Waits]
 ·intro x hx hm
  simp only at hm
  have := (h.ok.hi _ hm).1
  have hxl : x < w.length := by omega
  rw [List.getElem_append_left hxl]
  exact h.held x hxl hm
 ·intro x hx hm hm2
  simp only at hm hm2
  have hxl : x < w.length := by
   simp only [List.length_append, List.length_singleton] at hx
   rcases Nat.lt_or_ge x w.length with h1 | h1
   ·exact h1
   ·exfalso
    apply hm
    apply List.mem_append_right
    rw [List.mem_singleton]
    omega
  rw [List.getElem_append_left hxl]
  exact h.ackd x hxl (fun hh => hm (List.mem_append_left _ hh)) hm2

theorem dur_node {m : Mb} {w : List Wr} (h : NodeOk m w) {x : Nat} (hx : (x : Int) ∈ m.waiting) {clk : Int} (hc : 0 < clk) (hxl : x < w.length) :
  NodeOk (durMb m x).1 (ackW clk (durMb m x).1.frozen (durMb m x).2.1 (w.set x { w[x] with durable := clk })).1 ∧
  (ackW clk (durMb m x).1.frozen (durMb m x).2.1 (w.set x { w[x] with durable := clk })).2 = true ∧ (durMb m x).2.2 = 0 ∧ (durMb m x).1.frozen = m.frozen := by
 have hk := h.ok.check
 have hcon : m.waiting.contains (x : Int) = true := List.contains_iff_mem.2 hx
 have hw := h.wait x hxl hx
 have hfm : ∀ y, y ∈ m.waiting.filter (fun y => y != (x : Int)) ↔ y ∈ m.waiting ∧ y ≠ x := fun y => by simp [List.mem_filter]
 have hpw := h.ok.ws.filter (fun y => y != (x : Int))
 cases hf : m.frozen with
 | true =>
  rw [dur_held hk hcon hf]
  refine ⟨⟨⟨h.ok.r, h.ok.u, h.ok.t, h.ok.p, fun hh => ?_, hpw, fun y hy => h.ok.wi y ((hfm y).1 hy).1, ?_, ?_⟩, ?_, ?_, ?_, ?_⟩, rfl, rfl, hf⟩
  ·simp only [hf] at hh; cases hh
  ·simp only
   rw [List.nodup_append]
   refine ⟨h.ok.hn, by simp, fun a ha b hb => ?_⟩
   rw [List.mem_singleton.1 hb]
   rintro rfl
   exact (h.ok.hi _ ha).2 hx
  ·intro y hy
   simp only at hy ⊢
   rcases List.mem_append.1 hy with hy | hy
   ·obtain ⟨a, b⟩ := h.ok.hi y hy
    exact ⟨a, fun hm => b ((hfm y).1 hm).1⟩
   ·rw [List.mem_singleton.1 hy]
    exact ⟨h.ok.wi _ hx, fun hm => ((hfm _).1 hm).2 rfl⟩
  ·simp only [ackW, List.length_set]; exact h.len
  ·intro y hy hm
   simp only [ackW, List.length_set] at hy ⊢
   simp only at hm
   obtain ⟨hm1, hm2⟩ := (hfm _).1 hm
   rw [List.getElem_set_ne (by omega)]
   exact h.wait y hy hm1
  ·intro y hy hm
   simp only [ackW, List.length_set] at hy ⊢
   simp only at hm
   by_cases hyx : x = y
   ·subst hyx
    rw [List.getElem_set_self]
    exact ⟨hc, hw.2.1, hw.2.2⟩
   ·rw [List.getElem_set_ne hyx]
    refine h.held y hy ?_
    rcases List.mem_append.1 hm with hm | hm
    ·exact hm
    ·have := List.mem_singleton.1 hm; omega
  ·intro y hy hm hm2
   simp only [ackW, List.length_set] at hy ⊢
   simp only at hm hm2
   have hyx : ¬x = y := fun e => hm2 (by subst e; exact List.mem_append_right _ (List.mem_singleton.2 rfl))
   rw [List.getElem_set_ne hyx]
   exact h.ackd y hy (fun hh => hm ((hfm _).2 ⟨hh, by omega⟩)) (fun hh => hm2 (List.mem_append_left _ hh))
 | false =>
  rw [dur_free hk hcon hf]
  have hheld := h.ok.fh hf
  have hspec := ackW_spec clk [(x : Int)] (w.set x { w[x] with durable := clk }) (by simp) (fun y hy => by
   rw [List.mem_singleton.1 hy]
   refine ⟨by omega, by rw [List.length_set]; simpa using hxl, ?_⟩
   simp only [Int.toNat_natCast, List.getElem_set_self]
   exact ⟨hc, hw.2.2⟩)
  obtain ⟨a1, a2, a3⟩ := hspec
  simp only [hf]
  rw [List.length_set] at a2
  refine ⟨⟨⟨h.ok.r, h.ok.u, h.ok.t, h.ok.p, fun _ => hheld, hpw, fun y hy => h.ok.wi y ((hfm y).1 hy).1, h.ok.hn, fun y hy => ?_⟩, ?_, ?_, ?_, ?_⟩, a1, trivial, trivial⟩
  ·simp only [hheld] at hy; cases hy
  ·simp only [a2]; exact h.len
  ·intro y hy hm
   rw [a2] at hy
   simp only at hm
   obtain ⟨hm1, hm2⟩ := (hfm _).1 hm
   rw [a3 y (by rw [List.length_set]; exact hy), if_neg (by rw [List.mem_singleton]; exact hm2), List.getElem_set_ne (by omega)]
   exact h.wait y hy hm1
  ·intro y hy hm
   simp only [hheld] at hm; cases hm
  ·intro y hy hm hm2
   rw [a2] at hy
   simp only at hm hm2
   rw [a3 y (by rw [List.length_set]; exact hy)]
   by_cases hyx : x = y
   ·subst hyx
    rw [if_pos (List.mem_singleton.2 rfl), List.getElem_set_self]
    exact ⟨hc, hc, rfl⟩
   ·rw [if_neg (by rw [List.mem_singleton]; omega), List.getElem_set_ne hyx]
    exact h.ackd y hy (fun hh => hm ((hfm _).2 ⟨hh, by omega⟩)) hm2
structure CoOk (c : Co) (t : Nat) : Prop where
 ok : checkCo c = 0
 n : c.nodes = 3
 r : c.round ≤ t
def MsgOk (m : Msg) : Prop := ((0 ≤ m.to ∧ m.to ≤ 2) ∧ m.frm = 3) ∨ (m.to = 3 ∧ 0 ≤ m.frm ∧ m.frm ≤ 2)

theorem msgsTo_ok (r k : Int) : (msgsTo 3 r k).length = 3 ∧ ∀ m, m ∈ msgsTo 3 r k → MsgOk m := by
 refine ⟨by simp [msgsTo], fun m hm => ?_⟩
 simp only [msgsTo, List.mem_map, List.mem_range] at hm
 obtain ⟨i, hi, rfl⟩ := hm
 have : i < 3 := hi
 exact .inl ⟨⟨by simp only; omega, by simp only; omega⟩, rfl⟩

theorem ansTo_ok {g : Msg} (h : (0 ≤ g.to ∧ g.to ≤ 2) ∧ g.frm = 3) (k v : Int) : (ansTo g k v).length = 1 ∧ ∀ m, m ∈ ansTo g k v → MsgOk m := by
 refine ⟨rfl, fun m hm => ?_⟩
 rw [List.mem_singleton.1 hm]
 exact .inr ⟨h.2, h.1⟩

theorem endMb_msgs {g : Msg} (h : (0 ≤ g.to ∧ g.to ≤ 2) ∧ g.frm = 3) (m : Mb) (now : Int) : (endMb m now g).2.2.length ≤ 3 ∧ ∀ x, x ∈ (endMb m now g).2.2 → MsgOk x := by
 unfold endMb
 split
 ·exact ⟨by simp [ansTo], (ansTo_ok h _ _).2⟩
 ·split
  ·exact ⟨by simp [ansTo], (ansTo_ok h _ _).2⟩
  ·exact ⟨by simp [ansTo], (ansTo_ok h _ _).2⟩

theorem obeyMb_msgs {g : Msg} (h : (0 ≤ g.to ∧ g.to ≤ 2) ∧ g.frm = 3) (m : Mb) (now p : Int) : (obeyMb m now p g).2.2.length ≤ 3 ∧ ∀ x, x ∈ (obeyMb m now p g).2.2 → MsgOk x := by
 have nil : ([] : List Msg).length ≤ 3 ∧ ∀ x, x ∈ ([] : List Msg) → MsgOk x := ⟨Nat.zero_le _, fun x hx => by cases hx⟩
 have ans : ∀ k v, (ansTo g k v).length ≤ 3 ∧ ∀ x, x ∈ ansTo g k v → MsgOk x := fun k v => ⟨by simp [ansTo], (ansTo_ok h k v).2⟩
 unfold obeyMb
 repeat' split
 all_goals first | exact nil | exact ans _ _ | exact endMb_msgs h _ _

theorem checkCo_mk {n r p dl : Int} {ps : List Int} {ss : List Bool} {v : Bool} (h : (1 ≤ n ∧ n ≤ 8) ∧ (0 ≤ r ∧ r ≤ 1073741824) ∧ (0 ≤ dl ∧ dl ≤ 1073741824) ∧ (0 ≤ p ∧ p ≤ 2) ∧ (ps.length : Int) = n ∧ (ss.length : Int) = n ∧ (v = true → p = 0) ∧ ps.any badPos = false) :
  checkCo ⟨n, r, p, dl, ps, ss, v⟩ = 0 := checkCo_zero.2 h

theorem giveUp_ok {c : Co} {t : Nat} (h : CoOk c t) : CoOk ⟨c.nodes, c.round, 0, c.deadline, c.positions, c.seen, false⟩ t := by
 obtain ⟨h1, h2, h3⟩ := h
 have hz := checkCo_zero.1 (show checkCo ⟨c.nodes, c.round, c.phase, c.deadline, c.positions, c.seen, c.valid⟩ = 0 from h1)
 exact ⟨checkCo_mk ⟨hz.1, hz.2.1, hz.2.2.1, ⟨by omega, by omega⟩, hz.2.2.2.2.1, hz.2.2.2.2.2.1, fun h => (by cases h), hz.2.2.2.2.2.2.2⟩, h2, h3⟩

theorem expire_ok {c : Co} {t : Nat} (h : CoOk c t) (now : Int) : CoOk (expireCo c now).1 t ∧ (expireCo c now).2.length ≤ 3 ∧ ∀ m, m ∈ (expireCo c now).2 → MsgOk m := by
 unfold expireCo
 split
 ·exact ⟨h, Nat.zero_le _, fun m hm => by cases hm⟩
 ·have hm := msgsTo_ok c.round 24
  refine ⟨giveUp_ok h, ?_, ?_⟩
  ·simp only [giveUpCo, h.n]; exact Nat.le_of_eq hm.1
  ·simp only [giveUpCo, h.n]; exact hm.2

theorem any_set {ps : List Int} {i : Nat} {v : Int} (h : ps.any badPos = false) (hv : badPos v = false) : (ps.set i v).any badPos = false := by
 rw [List.any_eq_false] at h ⊢
 intro x hx
 rcases List.mem_or_eq_of_mem_set hx with hx | hx
 ·exact h x hx
 ·rw [hx, hv]; decide

theorem collect_ok {c : Co} {t : Nat} (h : CoOk c t) (now : Int) (m : Msg) : CoOk (collectCo c now m).1 t ∧ (collectCo c now m).2.length ≤ 3 ∧ ∀ x, x ∈ (collectCo c now m).2 → MsgOk x := by
 have nil : CoOk c t ∧ ([] : List Msg).length ≤ 3 ∧ ∀ x, x ∈ ([] : List Msg) → MsgOk x := ⟨h, Nat.zero_le _, fun x hx => by cases hx⟩
 by_cases hb : ¬checkCo c = 0 ∨ c.phase = 0 ∨ now ≥ c.deadline ∨ m.frm < 0 ∨ m.frm ≥ c.nodes ∨ ¬m.number = c.round
 ·rw [coll_bad hb]; exact nil
 ·rw [coll_go hb rfl rfl]
  obtain ⟨h1, h2, h3⟩ := h
  have hz := checkCo_zero.1 (show checkCo ⟨c.nodes, c.round, c.phase, c.deadline, c.positions, c.seen, c.valid⟩ = 0 from h1)
  simp only [not_or, Decidable.not_not] at hb
  have hv0 : c.valid = true → False := fun hv => hb.2.1 (hz.2.2.2.2.2.2.1 hv)
  unfold collGo
  repeat' split
  all_goals first
   | exact nil
   | skip
  ·rename_i hk hc hal
   simp only [not_or] at hc
   have hbv : badPos m.value = false := by simp only [badPos, Bool.or_eq_false_iff, decide_eq_false_iff_not]; omega
   refine ⟨⟨checkCo_mk ⟨hz.1, hz.2.1, hz.2.2.1, ⟨by omega, by omega⟩, by rw [List.length_set]; exact hz.2.2.2.2.1, by rw [List.length_replicate]; have := hz.1; omega, fun hv => (hv0 hv).elim, any_set hz.2.2.2.2.2.2.2 hbv⟩, h2, h3⟩, ?_, ?_⟩
   ·simp only [h2]; exact Nat.le_of_eq (msgsTo_ok _ _).1
   ·simp only [h2]; exact (msgsTo_ok _ _).2
  ·rename_i hk hc hal
   simp only [not_or] at hc
   have hbv : badPos m.value = false := by simp only [badPos, Bool.or_eq_false_iff, decide_eq_false_iff_not]; omega
   exact ⟨⟨checkCo_mk ⟨hz.1, hz.2.1, hz.2.2.1, hz.2.2.2.1, by rw [List.length_set]; exact hz.2.2.2.2.1, by rw [List.length_set]; exact hz.2.2.2.2.2.1, fun hv => (hv0 hv).elim, any_set hz.2.2.2.2.2.2.2 hbv⟩, h2, h3⟩, Nat.zero_le _, fun x hx => by cases hx⟩
  ·refine ⟨giveUp_ok ⟨h1, h2, h3⟩, ?_, ?_⟩
   ·simp only [h2]; exact Nat.le_of_eq (msgsTo_ok _ _).1
   ·simp only [h2]; exact (msgsTo_ok _ _).2
  ·exact ⟨⟨checkCo_mk ⟨hz.1, hz.2.1, hz.2.2.1, ⟨by omega, by omega⟩, hz.2.2.2.2.1, by rw [List.length_set]; exact hz.2.2.2.2.2.1, fun _ => rfl, hz.2.2.2.2.2.2.2⟩, h2, h3⟩, Nat.zero_le _, fun x hx => by cases hx⟩
  ·exact ⟨⟨checkCo_mk ⟨hz.1, hz.2.1, hz.2.2.1, hz.2.2.2.1, hz.2.2.2.2.1, by rw [List.length_set]; exact hz.2.2.2.2.2.1, hz.2.2.2.2.2.2.1, hz.2.2.2.2.2.2.2⟩, h2, h3⟩, Nat.zero_le _, fun x hx => by cases hx⟩

theorem start_ok {c : Co} {t : Nat} (h : CoOk c t) {now : Int} (h0 : 0 ≤ now) (h1 : now ≤ 1000000) (ht : t ≤ 1000000) :
  (startCo c now 20).2.2 = 26 ∨ ((startCo c now 20).2.2 = 0 ∧ CoOk (startCo c now 20).1 (t + 1) ∧ (startCo c now 20).2.1.length ≤ 3 ∧ ∀ m, m ∈ (startCo c now 20).2.1 → MsgOk m) := by
 obtain ⟨h1', h2, h3⟩ := h
 have hc : checkCo ⟨c.nodes, c.round, c.phase, c.deadline, c.positions, c.seen, c.valid⟩ = 0 := h1'
 have hz := checkCo_zero.1 hc
 have e := startCo_eq (now := now) (patience := 20) hc
 have e : startCo c now 20 = _ := e
 rw [e, if_neg (by omega)]
 split
 ·exact .inl rfl
 ·rw [if_neg (by omega)]
  right
  have hr : (List.replicate c.nodes.toNat (0 : Int)).any badPos = false := by
   rw [List.any_eq_false]; intro x hx; rw [List.eq_of_mem_replicate hx]; decide
  refine ⟨rfl, ⟨checkCo_mk ⟨hz.1, ⟨by omega, by omega⟩, ⟨by omega, by omega⟩, ⟨by omega, by omega⟩, by rw [List.length_replicate]; have := hz.1; omega, by rw [List.length_replicate]; have := hz.1; omega, fun h => (by cases h), hr⟩, h2, by simp only; omega⟩, ?_, ?_⟩
  ·simp only [h2]; exact Nat.le_of_eq (msgsTo_ok _ _).1
  ·simp only [h2]; exact (msgsTo_ok _ _).2
end Sx
end
section
namespace Sx
open Go
structure GrOk (g : Gr) (t : Nat) : Prop where
 c : CoOk g.c t
 node : ∀ i, NodeOk (g.node i) (g.wr i)
 fl : ∀ m, m ∈ g.flight → MsgOk m
 flen : g.flight.length ≤ 12 * t + 24
 now : 0 ≤ g.now ∧ g.now ≤ 5 * t + 200
 clock : g.clock = t
 right : g.right = true
 wlen : ∀ i, (g.wr i).length ≤ t
 upto : ∀ i, (g.node i).upto ≤ g.now + 12

theorem upd_self {α : Type} (f : Fin 3 → α) (i : Fin 3) (v : α) : upd f i v i = v := if_pos rfl
theorem upd_ne {α : Type} {f : Fin 3 → α} {i j : Fin 3} {v : α} (h : j ≠ i) : upd f i v j = f j := if_neg h
theorem GrOk.mstep {g : Gr} {t : Nat} (h : GrOk g t) (i : Fin 3) {m' : Mb} {acks : List Int} (s : Mstep (g.node i) m' acks) (hu : m'.upto ≤ g.now + 12) :
  GrOk (ackG { g with node := upd g.node i m' } i acks) t := by
 have hn := (h.node i).mstep (clk := g.clock) (fun hne => by have := h.wlen i; have := List.length_pos_iff.2 hne; rw [h.clock]; omega) s
 obtain ⟨n1, n2⟩ := hn
 refine ⟨h.c, fun j => ?_, h.fl, h.flen, h.now, h.clock, ?_, fun j => ?_, fun j => ?_⟩
 ·simp only [ackG, upd_self]
  by_cases hj : j = i
  ·subst hj; rw [upd_self, upd_self]; exact n1
  ·rw [upd_ne hj, upd_ne hj]; exact h.node j
 ·simp only [ackG, upd_self, n2, h.right, Bool.and_true]
 ·simp only [ackG, upd_self]
  by_cases hj : j = i
  ·subst hj; rw [upd_self, ackW_len]; exact h.wlen j
  ·rw [upd_ne hj]; exact h.wlen j
 ·simp only [ackG]
  by_cases hj : j = i
  ·subst hj; rw [upd_self]; exact hu
  ·rw [upd_ne hj]; exact h.upto j

theorem GrOk.send {g : Gr} {t : Nat} {l : List Msg} {k : Nat} (h : GrOk g t) (hl : ∀ m, m ∈ l → MsgOk m) (hk : g.flight.length + l.length ≤ 12 * t + 24) : GrOk (sendG g l) t :=
 ⟨h.c, h.node, fun m hm => (List.mem_append.1 hm).elim (h.fl m) (hl m), by simp only [sendG, List.length_append]; exact hk, h.now, h.clock, h.right, h.wlen, h.upto⟩

theorem rel_upto (m : Mb) (now : Int) : (relMb m now).1.upto = m.upto := by
 unfold relMb; split <;> rfl

theorem GrOk.rel {g : Gr} {t : Nat} (h : GrOk g t) (i : Fin 3) : GrOk (relG g i) t :=
 h.mstep i (rel_step (h.node i).ok g.now) (by rw [rel_upto]; exact h.upto i)

theorem end_upto (m : Mb) (now : Int) (g : Msg) : (endMb m now g).1.upto = m.upto := by
 unfold endMb; split; · rfl
 split <;> rfl
theorem obey_upto {m : Mb} {now : Int} {g : Msg} (h0 : 0 ≤ now) (h : m.upto ≤ now + 12) : (obeyMb m now 12 g).1.upto ≤ now + 12 := by
 unfold obeyMb
 split
 ·exact h
 ·split
  ·split
   ·simp only [clampT]; omega
   ·split <;> exact h
  ·split
   ·split
    ·rw [end_upto]; exact h
    ·split <;> exact h
   ·split
    ·split <;> exact h
    ·exact h

theorem GrOk.obey {g : Gr} {t : Nat} (h : GrOk g t) (ht : 0 < t) (i : Fin 3) {m : Msg} (hm : (0 ≤ m.to ∧ m.to ≤ 2) ∧ m.frm = 3) (hk : g.flight.length + 3 ≤ 12 * t + 24) : GrOk (obeyG g m i) t := by
  have h1 := h.mstep i (obey_step (h.node i).ok g.now 12 m) (obey_upto h.now.1 (h.upto i))
  obtain ⟨m1, m2⟩ := obeyMb_msgs hm (g.node i) g.now 12
  exact GrOk.send (k := 0) h1 m2 (by have : (ackG { g with node := upd g.node i (obeyMb (g.node i) g.now 12 m).1 } i (obeyMb (g.node i) g.now 12 m).2.1).flight = g.flight := rfl
                                     rw [this]; omega)

theorem GrOk.coord {g : Gr} {t : Nat} (h : GrOk g t) {c : Co} (hc : CoOk c t) : GrOk { g with c := c } t := ⟨hc, h.node, h.fl, h.flen, h.now, h.clock, h.right, h.wlen, h.upto⟩

theorem GrOk.recv {g : Gr} {t : Nat} (h : GrOk g t) (ht : 0 < t) {m : Msg} (hm : MsgOk m) (hk : g.flight.length + 3 ≤ 12 * t + 24) : GrOk (recvG g m) t := by
 unfold recvG
 rcases hm with hm | ⟨hm, hm2⟩
 ·rw [if_neg (by omega)]
  by_cases h0 : m.to = 0
  ·rw [if_pos h0]; exact h.obey ht 0 hm hk
  ·rw [if_neg h0]
   by_cases h1 : m.to = 1
   ·rw [if_pos h1]; exact h.obey ht 1 hm hk
   ·rw [if_neg h1, if_pos (by omega)]
    exact h.obey ht 2 hm hk
 ·rw [if_pos hm]
  obtain ⟨c1, c2, c3⟩ := collect_ok h.c g.now m
  exact GrOk.send (k := 0) (h.coord c1) c3 (by simp only; omega)

theorem GrOk.flight {g : Gr} {t : Nat} (h : GrOk g t) (ht : 0 < t) (k w : Int) (hw : 0 ≤ w) (hk : g.flight.length + 3 ≤ 12 * t + 24) : GrOk (flightG g k w) t := by
 by_cases h0 : g.flight.length = 0
 ·rw [flightG_nil h0]; exact h
 ·have t0 : 0 ≤ Int.tmod w g.flight.length := Int.tmod_nonneg _ hw
  have t1 : Int.tmod w g.flight.length < g.flight.length := Int.tmod_lt_of_pos _ (by omega)
  obtain ⟨i, hi⟩ : ∃ i, (Int.tmod w g.flight.length).toNat = i := ⟨_, rfl⟩
  have hil : i < g.flight.length := by omega
  rw [flightG_go h0 hi rfl]
  have hm : MsgOk (g.flight.getD i noMsg) := by
   have e : g.flight.getD i noMsg = g.flight[i] := by simp [hil]
   rw [e]; exact h.fl _ (List.getElem_mem hil)
  have hg1 : GrOk (if Int.tmod k 7 = 4 then g else { g with flight := g.flight.take i ++ g.flight.drop (i + 1) }) t ∧ (if Int.tmod k 7 = 4 then g else { g with flight := g.flight.take i ++ g.flight.drop (i + 1) } : Gr).flight.length + 3 ≤ 12 * t + 24 := by
   split
   ·exact ⟨h, hk⟩
   ·refine ⟨⟨h.c, h.node, fun m hm => ?_, ?_, h.now, h.clock, h.right, h.wlen, h.upto⟩, ?_⟩
    ·rcases List.mem_append.1 hm with hm | hm
     ·exact h.fl m (List.mem_of_mem_take hm)
     ·exact h.fl m (List.mem_of_mem_drop hm)
    ·simp only [List.length_append, List.length_take, List.length_drop]; omega
    ·simp only [List.length_append, List.length_take, List.length_drop]; omega
  split
  ·exact hg1.1
  ·exact hg1.1.recv ht hm hg1.2

theorem GrOk.tick {g : Gr} {t : Nat} (h : GrOk g t) (ht2 : t ≤ 1000) (n w : Int) (hw : U8 w) (hn : g.now + 5 ≤ 5 * t + 200) (hk : g.flight.length + 3 ≤ 12 * t + 24) : GrOk (tickG g n w) t := by
 have t0 : 0 ≤ Int.tmod w 5 := Int.tmod_nonneg _ hw.1
 have t1 : Int.tmod w 5 < 5 := Int.tmod_lt_of_pos _ (by decide)
 have h0 := h.now
 have e : IntKind.i64.wrap (g.now + (1 + Int.tmod w 5)) = g.now + (1 + Int.tmod w 5) := wrap64 (by omega) (by omega)
 obtain ⟨c1, c2, c3⟩ := expire_ok h.c (g.now + (1 + Int.tmod w 5))
 have h1 : GrOk (sendG { g with now := g.now + (1 + Int.tmod w 5), c := (expireCo g.c (g.now + (1 + Int.tmod w 5))).1 } (expireCo g.c (g.now + (1 + Int.tmod w 5))).2) t :=
  GrOk.send (k := 0) ⟨c1, h.node, h.fl, h.flen, ⟨by simp only; omega, by simp only; omega⟩, h.clock, h.right, h.wlen, fun i => by have := h.upto i; simp only; omega⟩ c3 (by simp only; omega)
 unfold tickG
 simp only [e]
 split
 ·exact ((h1.rel 0).rel 1).rel 2
 ·exact h1

theorem GrOk.issue {g : Gr} {t : Nat} (h : GrOk g (t + 1)) (ht2 : t ≤ 1000) (i : Fin 3) (hl : (g.wr i).length ≤ t) : GrOk (issueG g i) (t + 1) := by
 have hlen := (h.node i).len
 obtain ⟨n1, n2⟩ := issue_node (h.node i) (by omega) g.clock
 refine ⟨h.c, fun j => ?_, h.fl, h.flen, h.now, h.clock, ?_, fun j => ?_, fun j => ?_⟩
 ·simp only [issueG]
  by_cases hj : j = i
  ·subst hj; rw [upd_self, upd_self]; exact n1
  ·rw [upd_ne hj, upd_ne hj]; exact h.node j
 ·simp only [issueG, n2, h.right, decide_true, Bool.and_true]
 ·simp only [issueG]
  by_cases hj : j = i
  ·subst hj; rw [upd_self, List.length_append, List.length_singleton]; omega
  ·rw [upd_ne hj]; exact h.wlen j
 ·simp only [issueG]
  by_cases hj : j = i
  ·subst hj; rw [upd_self, issue_ok (h.node j).ok.check (by omega)]; exact h.upto j
  ·rw [upd_ne hj]; exact h.upto j

theorem dur_upto (m : Mb) (x : Int) (h : MbOk m) (hx : m.waiting.contains x = true) : (durMb m x).1.upto = m.upto := by
 cases hf : m.frozen with
 | true => rw [dur_held h.check hx hf]
 | false => rw [dur_free h.check hx hf]

theorem GrOk.dur {g : Gr} {t : Nat} (h : GrOk g t) (ht : 0 < t) (i : Fin 3) (w : Int) (hw : 0 ≤ w) : GrOk (durG g i w) t := by
 by_cases h0 : (g.node i).waiting.length = 0
 ·rw [durG_nil h0]; exact h
 ·have t0 : 0 ≤ Int.tmod w (g.node i).waiting.length := Int.tmod_nonneg _ hw
  have hpos : (0 : Int) < ((g.node i).waiting.length : Int) := by have := Nat.pos_of_ne_zero h0; omega
  have t1 : Int.tmod w (g.node i).waiting.length < (g.node i).waiting.length := Int.tmod_lt_of_pos _ hpos
  obtain ⟨k, hk⟩ : ∃ k, (Int.tmod w (g.node i).waiting.length).toNat = k := ⟨_, rfl⟩
  have hkl : k < (g.node i).waiting.length := by omega
  have hg : (g.node i).waiting.getD k 0 = (g.node i).waiting[k] := by simp [hkl]
  have hmem := List.getElem_mem hkl
  obtain ⟨x, hx⟩ : ∃ x, (g.node i).waiting[k] = x := ⟨_, rfl⟩
  rw [hx] at hg hmem
  have hn := h.node i
  have hin := hn.ok.wi x hmem
  have hlen := hn.len
  obtain ⟨y, rfl⟩ := Int.eq_ofNat_of_zero_le hin.1
  have hyl : y < (g.wr i).length := by omega
  have hneg : ¬((y : Int) < 0 ∨ (y : Int) ≥ ((g.wr i).length : Int)) := by omega
  have hg : (g.node i).waiting.getD k 0 = (y : Int) := hg
  rw [durG_go h0 hk hg, if_neg hneg]
  obtain ⟨d1, d2, d3, d4⟩ := dur_node hn hmem (clk := g.clock) (by rw [h.clock]; omega) hyl
  have hgd : (g.wr i).getD (Int.toNat (y : Int)) noWr = (g.wr i)[y] := by simp [hyl]
  simp only [Int.toNat_natCast] at hgd ⊢
  simp only [hgd]
  refine ⟨h.c, fun j => ?_, h.fl, h.flen, h.now, h.clock, ?_, fun j => ?_, fun j => ?_⟩
  ·simp only [ackG, upd_self]
   by_cases hj : j = i
   ·subst hj; rw [upd_self, upd_self]; exact d1
   ·rw [upd_ne hj, upd_ne hj, upd_ne hj]; exact h.node j
  ·simp only [ackG, upd_self, d2, d3, h.right, decide_true, Bool.and_true]
  ·simp only [ackG, upd_self]
   by_cases hj : j = i
   ·subst hj; rw [upd_self, ackW_len, List.length_set]; exact h.wlen j
   ·rw [upd_ne hj, upd_ne hj]; exact h.wlen j
  ·simp only [ackG]
   by_cases hj : j = i
   ·subst hj; rw [upd_self, dur_upto _ _ hn.ok (List.contains_iff_mem.2 hmem)]; exact h.upto j
   ·rw [upd_ne hj]; exact h.upto j

theorem GrOk.round {g : Gr} {t : Nat} (h : GrOk g (t + 1)) (hc : CoOk g.c t) (ht2 : t ≤ 1000) (hk : g.flight.length + 3 ≤ 12 * (t + 1) + 24) : GrOk (roundG g) (t + 1) := by
 have h0 := h.now
 unfold roundG
 rcases start_ok hc (now := g.now) h0.1 (by omega) (by omega) with h1 | ⟨h1, h2, h3, h4⟩
 ·simp only [h1]
  exact ⟨h.c, h.node, h.fl, h.flen, h.now, h.clock, by simp only [h.right]; rfl, h.wlen, h.upto⟩
 ·simp only [h1]
  have h5 : GrOk { g with c := (startCo g.c g.now 20).1, started := IntKind.i64.wrap (g.started + 1) } (t + 1) := ⟨h2, h.node, h.fl, h.flen, h.now, h.clock, h.right, h.wlen, h.upto⟩
  exact GrOk.send (k := 0) h5 h4 (by simp only; omega)

theorem GrOk.step {g : Gr} {t : Nat} (h : GrOk g t) (ht : t ≤ 900) {k n w : Int} (i : Fin 3) (hk : U8 k) (hn : U8 n) (hw : U8 w) (hnow : g.now ≤ 5 * t + 200) : GrOk (Sx.stepG g k i n w) (t + 1) := by
 have h0 := h.now
 have hfl := h.flen
 have hcl := h.clock
 have e : IntKind.i64.wrap (g.clock + 1) = ((t + 1 : Nat) : Int) := by rw [hcl, wrap64 (by omega) (by omega)]; omega
 have h1 : GrOk { g with clock := IntKind.i64.wrap (g.clock + 1) } (t + 1) :=
  ⟨⟨h.c.ok, h.c.n, by have := h.c.r; simp only; omega⟩, h.node, h.fl, by simp only; omega, ⟨h0.1, by simp only; omega⟩, e, h.right, fun i => by have := h.wlen i; simp only; omega, h.upto⟩
 unfold Sx.stepG
 simp only
 split
 ·exact h1.issue (by omega) i (h.wlen i)
 ·split
  ·exact h1.dur (by omega) i w hw.1
  ·split
   ·exact h1.round h.c (by omega) (by simp only; omega)
   ·split
    ·exact h1.tick (by omega) n w hw (by simp only; omega) (by simp only; omega)
    ·exact h1.flight (by omega) k w hw.1 (by simp only; omega)
end Sx
end
section
open Go
namespace Sx

theorem cv_eq (g : Gr) (ds : Nat → D) : cvOf ds 0 g.cls = (CV.int g.c.nodes :: CV.int g.c.round :: CV.int g.c.phase :: CV.int g.c.deadline :: CV.dat ((ds 0).like g.c.positions) :: CV.dat ((ds 1).like g.c.seen) :: CV.bool g.c.valid :: CV.int (g.node 0).round :: CV.int (g.node 0).position :: CV.int (g.node 0).thawed :: CV.int (g.node 0).issued :: CV.bool (g.node 0).frozen :: CV.int (g.node 0).upto :: CV.dat ((ds 2).like (g.node 0).waiting) :: CV.dat ((ds 3).like (g.node 0).held) :: CV.int (g.node 1).round :: CV.int (g.node 1).position :: CV.int (g.node 1).thawed :: CV.int (g.node 1).issued :: CV.bool (g.node 1).frozen :: CV.int (g.node 1).upto :: CV.dat ((ds 4).like (g.node 1).waiting) :: CV.dat ((ds 5).like (g.node 1).held) :: CV.int (g.node 2).round :: CV.int (g.node 2).position :: CV.int (g.node 2).thawed :: CV.int (g.node 2).issued :: CV.bool (g.node 2).frozen :: CV.int (g.node 2).upto :: CV.dat ((ds 6).like (g.node 2).waiting) :: CV.dat ((ds 7).like (g.node 2).held) :: CV.dat ((ds 8).like g.flight) :: CV.dat ((ds 9).like (g.wr 0)) :: CV.dat ((ds 10).like (g.wr 1)) :: CV.dat ((ds 11).like (g.wr 2)) :: CV.int g.now :: CV.int g.clock :: CV.bool g.right :: CV.int g.started :: []) := rfl
theorem cv_shape (g : Gr) (ds : Nat → D) : ShapeC grK (cvOf ds 0 g.cls) := by
 rw [cv_eq]
 simp only [grK, ShapeC]
 exact ⟨_, _, rfl, _, _, rfl, _, _, rfl, _, _, rfl, _, _, rfl, _, _, rfl, _, _, rfl, _, _, rfl, _, _, rfl, _, _, rfl, _, _, rfl, _, _, rfl, _, _, rfl, _, _, rfl, _, _, rfl, _, _, rfl, _, _, rfl, _, _, rfl, _, _, rfl, _, _, rfl, _, _, rfl, _, _, rfl, _, _, rfl, _, _, rfl, _, _, rfl, _, _, rfl, _, _, rfl, _, _, rfl, _, _, rfl, _, _, rfl, _, _, rfl, _, _, rfl, _, _, rfl, _, _, rfl, _, _, rfl, _, _, rfl, _, _, rfl, _, _, rfl, _, _, rfl, rfl⟩
theorem tri_eta {α : Type} (f : Fin 3 → α) : tri (f 0) (f 1) (f 2) = f := by
 funext i
 match i with
 | 0 => rfl
 | 1 => rfl
 | 2 => rfl
theorem grOf_cv (g : Gr) (ds : Nat → D) : grOf (cvOf ds 0 g.cls) = g := by
 rw [cv_eq, grOf_eq]
 simp only [D.like_to]
 exact congr (congrArg (fun a b => (⟨g.c, a, g.flight, b, g.now, g.clock, g.right, g.started⟩ : Gr)) (tri_eta g.node)) (tri_eta g.wr)
theorem grRight_cv (g : Gr) (ds : Nat → D) (h : ∀ i, (g.node i).waiting.length ≤ 1048575 ∧ (g.node i).held.length ≤ 1048575 ∧ (g.wr i).length ≤ 1000000) (hf : g.flight.length ≤ 1000000) : GrRight (cvOf ds 0 g.cls) := by
 rw [cv_eq, grRight_eq]
 exact ⟨⟨D.like_is _ _, D.like_is _ _⟩, right_like_of (h 0).1 (h 0).2.1, right_like_of (h 1).1 (h 1).2.1, right_like_of (h 2).1 (h 2).2.1, ⟨D.like_is _ _, by rw [like_len]; exact hf⟩,
  ⟨D.like_is _ _, by rw [like_len]; exact (h 0).2.2⟩, ⟨D.like_is _ _, by rw [like_len]; exact (h 1).2.2⟩, ⟨D.like_is _ _, by rw [like_len]; exact (h 2).2.2⟩⟩

theorem len_ne {a : Int} : ∀ {l : List Int}, l.Nodup → l.length ≤ (l.filter fun x => x != a).length + 1
 | [], _ => Nat.zero_le _
 | b :: l, h => by
  rw [List.nodup_cons] at h
  rw [List.filter_cons]
  by_cases hb : b = a
  ·subst hb
   have : l.filter (fun x => x != b) = l := List.filter_eq_self.2 fun x hx => by
    simp only [bne_iff_ne]
    rintro rfl
    exact h.1 hx
   simp [this]
  ·have ih := len_ne (a := a) h.2
   simp [hb]
   exact ih
theorem range_len : ∀ {n : Nat} {l : List Int}, l.Nodup → (∀ x, x ∈ l → 0 ≤ x ∧ x < n) → l.length ≤ n
 | 0, l, _, h => by
  cases l with
  | nil => exact Nat.le_refl _
  | cons x r => have := h x List.mem_cons_self; omega
 | n + 1, l, hn, h => by
  have h1 := len_ne (a := (n : Int)) hn
  have h2 := range_len (n := n) (hn.filter fun x => x != (n : Int)) (fun x hx => by
   rw [List.mem_filter] at hx
   have := h x hx.1
   have hne : x ≠ n := by simpa using hx.2
   omega)
  omega
theorem GrOk.bounds {g : Gr} {t : Nat} (h : GrOk g t) (ht : t ≤ 1000) : (∀ i, (g.node i).waiting.length ≤ 1048575 ∧ (g.node i).held.length ≤ 1048575 ∧ (g.wr i).length ≤ 1000000) ∧ g.flight.length ≤ 999000 := by
 refine ⟨fun i => ?_, by have := h.flen; omega⟩
 have hn := h.node i
 have hl := h.wlen i
 have h1 : (g.node i).waiting.length ≤ (g.wr i).length := range_len (hn.ok.ws.imp (fun h => Int.ne_of_lt h)) (fun x hx => by have := hn.ok.wi x hx; have := hn.len; omega)
 have h2 : (g.node i).held.length ≤ (g.wr i).length := range_len hn.ok.hn (fun x hx => by have := (hn.ok.hi x hx).1; have := hn.len; omega)
 omega
end Sx
end
section
namespace Sx
open Go

theorem recv_now (g : Gr) (m : Msg) : (recvG g m).now = g.now := by
 unfold recvG
 repeat' split
 all_goals rfl
theorem flight_now (g : Gr) (k w : Int) : (flightG g k w).now = g.now := by
 unfold flightG
 split
 ·rfl
 ·simp only
  split
  ·split <;> rfl
  ·rw [recv_now]; split <;> rfl
theorem dur_now (g : Gr) (i : Fin 3) (w : Int) : (durG g i w).now = g.now := by
 unfold durG
 simp only
 split
 ·rfl
 ·split <;> rfl
theorem round_now (g : Gr) : (roundG g).now = g.now := by
 unfold roundG
 simp only
 split <;> rfl
theorem tick_now {g : Gr} {n w : Int} (hw : U8 w) (h0 : 0 ≤ g.now) (h1 : g.now ≤ 1000000) : (tickG g n w).now = g.now + (1 + Int.tmod w 5) := by
 have t0 : 0 ≤ Int.tmod w 5 := Int.tmod_nonneg _ hw.1
 have t1 : Int.tmod w 5 < 5 := Int.tmod_lt_of_pos _ (by decide)
 have e : IntKind.i64.wrap (g.now + (1 + Int.tmod w 5)) = g.now + (1 + Int.tmod w 5) := wrap64 (by omega) (by omega)
 unfold tickG
 simp only [e]
 split <;> rfl
theorem step_now {g : Gr} {k n w : Int} {i : Fin 3} (hw : U8 w) (h0 : 0 ≤ g.now) (h1 : g.now ≤ 1000000) : (Sx.stepG g k i n w).now ≤ g.now + 5 := by
 have t1 : Int.tmod w 5 < 5 := Int.tmod_lt_of_pos _ (by decide)
 unfold Sx.stepG
 simp only
 split
 ·show g.now ≤ _; omega
 ·split
  ·rw [dur_now]; simp only; omega
  ·split
   ·rw [round_now]; simp only; omega
   ·split
    ·rw [tick_now hw (by simp only; omega) (by simp only; omega)]; simp only; omega
    ·rw [flight_now]; simp only; omega
def Done (w : List Wr) : Prop := ∀ i : Nat, (h : i < w.length) → decide (w[i].durable > 0) = decide (w[i].acked > 0)

theorem NodeOk.done {m : Mb} {w : List Wr} (h : NodeOk m w) (hh : m.held = []) : Done w := by
 intro i hi
 by_cases hm : (i : Int) ∈ m.waiting
 ·obtain ⟨a, b, c⟩ := h.wait i hi hm
  rw [a, b]
 ·obtain ⟨a, b, c⟩ := h.ackd i hi hm (by rw [hh]; simp)
  rw [decide_eq_true a, decide_eq_true b]

theorem relMb_held {m : Mb} {now : Int} (h : MbOk m) (hu : m.upto ≤ now) : (relMb m now).1.held = [] := by
 unfold relMb
 split
 ·rename_i hc
  rcases hc with hc | hc | hc
  ·exact absurd h.check hc
  ·exact h.fh hc
  ·omega
 ·rfl

theorem relG_node (g : Gr) (i j : Fin 3) : (relG g i).node j = if j = i then (relMb (g.node i) g.now).1 else g.node j := by
 simp only [relG, ackG]
 by_cases h : j = i
 ·subst h; rw [upd_self, if_pos rfl]
 ·rw [upd_ne h, if_neg h]
theorem relG_now (g : Gr) (i : Fin 3) : (relG g i).now = g.now := rfl

theorem relG_held {g : Gr} (hn : ∀ i, MbOk (g.node i)) (hu : ∀ i, (g.node i).upto ≤ g.now) : ∀ i, ((relG (relG (relG g 0) 1) 2).node i).held = [] := by
 intro i
 simp only [relG_node, relG_now]
 match i with
 | 0 => exact relMb_held (hn 0) (hu 0)
 | 1 => exact relMb_held (hn 1) (hu 1)
 | 2 => exact relMb_held (hn 2) (hu 2)
theorem last_tick {g : Gr} {t : Nat} (h : GrOk g t) (ht2 : t ≤ 900) (hnow : g.now ≤ 5 * t) (hfl : g.flight.length ≤ 12 * t) :
  GrOk (tickG { g with now := IntKind.i64.wrap (g.now + 100) } 1 0) t ∧ ∀ i, Done ((tickG { g with now := IntKind.i64.wrap (g.now + 100) } 1 0).wr i) := by
 have h0 := h.now
 have e : IntKind.i64.wrap (g.now + 100) = g.now + 100 := wrap64 (by omega) (by omega)
 rw [e]
 have u0 : U8 0 := ⟨by decide, by decide⟩
 have h1 : GrOk { g with now := g.now + 100 } t := ⟨h.c, h.node, h.fl, h.flen, ⟨by simp only; omega, by simp only; omega⟩, h.clock, h.right, h.wlen, fun i => by have := h.upto i; simp only; omega⟩
 have h2 := h1.tick (by omega) 1 0 u0 (by simp only; omega) (by simp only; omega)
 refine ⟨h2, fun i => (h2.node i).done ?_⟩
 have en := tick_now (g := { g with now := g.now + 100 }) (n := 1) u0 (by simp only; omega) (by simp only; omega)
 have e5 : IntKind.i64.wrap (g.now + 100 + (1 + Int.tmod 0 5)) = g.now + 101 := by
  rw [show (1 : Int) + Int.tmod 0 5 = 1 from rfl]
  rw [wrap64 (by omega) (by omega)]; omega
 unfold tickG
 simp only [e5]
 rw [if_pos (by decide)]
 refine relG_held (g := sendG { g with now := g.now + 101, c := (expireCo g.c (g.now + 101)).1 } (expireCo g.c (g.now + 101)).2) (fun j => (h.node j).ok) (fun j => ?_) i
 have := h.upto j
 show (g.node j).upto ≤ g.now + 101
 omega

theorem recv_fl (g : Gr) (m : Msg) : (recvG g m).flight.length ≤ g.flight.length + 8 := by
 have hc := (collectCo_len g.c g.now m).2.2.1
 have ho : ∀ i, (obeyG g m i).flight.length ≤ g.flight.length + 8 := fun i => by
  have := (obeyMb_len (g.node i) g.now 12 m).2.2.2.1
  simp only [obeyG, sendG, ackG, List.length_append]; omega
 unfold recvG
 split
 ·simp only [sendG, List.length_append]; omega
 ·split
  ·exact ho 0
  ·split
   ·exact ho 1
   ·split
    ·exact ho 2
    ·simp only; omega
theorem flight_fl (g : Gr) (k w : Int) : (flightG g k w).flight.length ≤ g.flight.length + 8 := by
 unfold flightG
 split
 ·omega
 ·simp only
  have hg : ∀ i, (if Int.tmod k 7 = 4 then g else { g with flight := g.flight.take i ++ g.flight.drop (i + 1) } : Gr).flight.length ≤ g.flight.length := fun i => by
   split
   ·exact Nat.le_refl _
   ·simp only [List.length_append, List.length_take, List.length_drop]; omega
  split
  ·exact Nat.le_trans (hg _) (by omega)
  ·exact Nat.le_trans (recv_fl _ _) (by have := hg (Int.tmod w g.flight.length).toNat; omega)
theorem dur_fl (g : Gr) (i : Fin 3) (w : Int) : (durG g i w).flight = g.flight := by
 unfold durG
 simp only
 split
 ·rfl
 ·split <;> rfl
theorem round_fl (g : Gr) : (roundG g).flight.length ≤ g.flight.length + 8 := by
 have hs := (startCo_len g.c g.now 20).2.2.1
 unfold roundG
 simp only
 split
 ·simp only; omega
 ·simp only [sendG, List.length_append]; omega
theorem tick_fl (g : Gr) (n w : Int) : (tickG g n w).flight.length ≤ g.flight.length + 8 := by
 have hx := (expireCo_len g.c (IntKind.i64.wrap (g.now + (1 + Int.tmod w 5)))).2.2.1
 unfold tickG
 simp only
 split
 ·simp only [relG, ackG, sendG, List.length_append]; omega
 ·simp only [sendG, List.length_append]; omega
theorem step_fl (g : Gr) (k n w : Int) (i : Fin 3) : (Sx.stepG g k i n w).flight.length ≤ g.flight.length + 8 := by
 unfold Sx.stepG
 simp only
 split
 ·show g.flight.length ≤ _; omega
 ·split
  ·rw [dur_fl]; simp only; omega
  ·split
   ·exact round_fl _
   ·split
    ·exact tick_fl _ _ _
    ·exact flight_fl _ _ _
def begG : Gr := ⟨⟨3, 0, 0, 0, [0, 0, 0], [false, false, false], false⟩, fun _ => noMb, [], fun _ => [], 0, 0, true, 0⟩
theorem beg_ok : GrOk begG 0 := by
 refine ⟨⟨by decide, rfl, by decide⟩, fun i => ⟨⟨⟨by show (0 : Int) ≤ 0; decide, by show (0 : Int) ≤ _; decide⟩, ⟨by show (0 : Int) ≤ 0; decide, by show (0 : Int) ≤ _; decide⟩, ⟨by show (0 : Int) ≤ 0; decide, by show (0 : Int) ≤ 0; decide⟩, ⟨by show (0 : Int) ≤ 0; decide, by show (0 : Int) ≤ 0; decide, by show (0 : Int) ≤ _; decide⟩, fun _ => rfl, List.Pairwise.nil, fun x hx => (by cases hx), List.nodup_nil, fun x hx => (by cases hx)⟩, rfl, fun x hx => (by cases hx), fun x hx => (by cases hx), fun x hx => (by cases hx)⟩, fun m hm => (by cases hm), by decide, by decide, rfl, rfl, fun i => Nat.zero_le _, fun i => by show (0 : Int) ≤ 0 + 12; decide⟩
structure PlayOk (g : Gr) (t : Nat) : Prop where
 ok : GrOk g t
 now : g.now ≤ 5 * t
 fl : g.flight.length ≤ 12 * t
theorem beg_play : PlayOk begG 0 := ⟨beg_ok, by decide, by decide⟩
theorem PlayOk.step {g : Gr} {t : Nat} (h : PlayOk g t) (ht : t ≤ 900) {k n w : Int} (i : Fin 3) (hk : U8 k) (hn : U8 n) (hw : U8 w) : PlayOk (Sx.stepG g k i n w) (t + 1) := by
 have h1 := h.now; have h2 := h.fl; have h3 := h.ok.now
 refine ⟨h.ok.step ht i hk hn hw (by omega), ?_, ?_⟩
 ·have := step_now (g := g) (k := k) (n := n) (w := w) (i := i) hw (by omega) (by omega); omega
 ·have := step_fl g k n w i; omega
end Sx
end
section
open Go Go.Proofs Sx
namespace Sx
def EvRows (l : D) : Prop := (l.rows = [] ∨ l.sz = 3) ∧ ∀ r, r ∈ l.rows → ∃ a b c, r = [D.int .u8 a, D.int .u8 b, D.int .u8 c] ∧ U8 a ∧ U8 b ∧ U8 c
theorem EvRows.at {l : D} (h : EvRows l) {j : Nat} (hj : j < l.len) : (0 ≤ (j : Int) ∧ (j : Int) < (l.len : Int) ∧ l.sz = 3) ∧ l.HasCells (Int.toNat (j : Int)) 0 [.int .u8, .int .u8, .int .u8] ∧
  U8 (l.getInt (Int.toNat (j : Int)) 0) ∧ U8 (l.getInt (Int.toNat (j : Int)) 1) ∧ U8 (l.getInt (Int.toNat (j : Int)) 2) := by
 have hj' : j < l.rows.length := hj
 obtain ⟨a, b, c, hr, ha, hb, hc⟩ := h.2 _ (List.getElem_mem hj')
 have hg : l.rows[j]? = some [D.int .u8 a, D.int .u8 b, D.int .u8 c] := by rw [List.getElem?_eq_getElem hj', hr]
 have hs : l.sz = 3 := h.1.resolve_left (fun e => by rw [e] at hj'; cases hj')
 simp only [Int.toNat_natCast]
 refine ⟨⟨by omega, by omega, hs⟩, ⟨⟨a, ?_⟩, ⟨b, ?_⟩, ⟨c, ?_⟩, trivial⟩, ?_, ?_, ?_⟩
 ·simp [D.cellAt, hg]
 ·simp [D.cellAt, hg]
 ·simp [D.cellAt, hg]
 ·simp only [D.getInt, D.cellAt, hg]; exact ha
 ·simp only [D.getInt, D.cellAt, hg]; exact hb
 ·simp only [D.getInt, D.cellAt, hg]; exact hc
def spEv (l : D) : SpecR := .scalar [EvRows l] (.lb true)
end Sx
namespace Go.Proofs.Ytoechplbhbalaaa
set_option maxRecDepth 100000
set_option maxHeartbeats 0










theorem beg_shape (hs : Nat → Nat → D) : ShapeC grK (CV.int 3 :: CV.int 0 :: CV.int 0 :: CV.int 0 :: CV.dat ((hs 0 0).like ([0, 0, 0] : List Int)) :: CV.dat ((hs 0 1).like [false, false, false]) :: CV.bool false :: CV.int 0 :: CV.int 0 :: CV.int 0 :: CV.int 0 :: CV.bool false :: CV.int 0 :: CV.dat (D.slc none 0 []) :: CV.dat (D.slc none 0 []) :: CV.int 0 :: CV.int 0 :: CV.int 0 :: CV.int 0 :: CV.bool false :: CV.int 0 :: CV.dat (D.slc none 0 []) :: CV.dat (D.slc none 0 []) :: CV.int 0 :: CV.int 0 :: CV.int 0 :: CV.int 0 :: CV.bool false :: CV.int 0 :: CV.dat (D.slc none 0 []) :: CV.dat (D.slc none 0 []) :: CV.dat (D.slc none 0 []) :: CV.dat (D.slc none 0 []) :: CV.dat (D.slc none 0 []) :: CV.dat (D.slc none 0 []) :: CV.int 0 :: CV.int 0 :: CV.bool true :: CV.int 0 :: []) := by
 simp only [grK, ShapeC]
 exact ⟨_, _, rfl, _, _, rfl, _, _, rfl, _, _, rfl, _, _, rfl, _, _, rfl, _, _, rfl, _, _, rfl, _, _, rfl, _, _, rfl, _, _, rfl, _, _, rfl, _, _, rfl, _, _, rfl, _, _, rfl, _, _, rfl, _, _, rfl, _, _, rfl, _, _, rfl, _, _, rfl, _, _, rfl, _, _, rfl, _, _, rfl, _, _, rfl, _, _, rfl, _, _, rfl, _, _, rfl, _, _, rfl, _, _, rfl, _, _, rfl, _, _, rfl, _, _, rfl, _, _, rfl, _, _, rfl, _, _, rfl, _, _, rfl, _, _, rfl, _, _, rfl, _, _, rfl, rfl⟩
theorem beg_eq (hs : Nat → Nat → D) : grOf (CV.int 3 :: CV.int 0 :: CV.int 0 :: CV.int 0 :: CV.dat ((hs 0 0).like ([0, 0, 0] : List Int)) :: CV.dat ((hs 0 1).like [false, false, false]) :: CV.bool false :: CV.int 0 :: CV.int 0 :: CV.int 0 :: CV.int 0 :: CV.bool false :: CV.int 0 :: CV.dat (D.slc none 0 []) :: CV.dat (D.slc none 0 []) :: CV.int 0 :: CV.int 0 :: CV.int 0 :: CV.int 0 :: CV.bool false :: CV.int 0 :: CV.dat (D.slc none 0 []) :: CV.dat (D.slc none 0 []) :: CV.int 0 :: CV.int 0 :: CV.int 0 :: CV.int 0 :: CV.bool false :: CV.int 0 :: CV.dat (D.slc none 0 []) :: CV.dat (D.slc none 0 []) :: CV.dat (D.slc none 0 []) :: CV.dat (D.slc none 0 []) :: CV.dat (D.slc none 0 []) :: CV.dat (D.slc none 0 []) :: CV.int 0 :: CV.int 0 :: CV.bool true :: CV.int 0 :: []) = begG := by
 rw [grOf_eq]
 simp only [D.like_to]
 have e : tri (⟨0, 0, 0, 0, false, 0, (D.slc none 0 []).to Int, (D.slc none 0 []).to Int⟩ : Mb) ⟨0, 0, 0, 0, false, 0, (D.slc none 0 []).to Int, (D.slc none 0 []).to Int⟩ ⟨0, 0, 0, 0, false, 0, (D.slc none 0 []).to Int, (D.slc none 0 []).to Int⟩ = fun _ => noMb := by
  funext i; match i with | 0 => rfl | 1 => rfl | 2 => rfl
 have e2 : tri ((D.slc none 0 []).to Wr) ((D.slc none 0 []).to Wr) ((D.slc none 0 []).to Wr) = fun _ => [] := by
  funext i; match i with | 0 => rfl | 1 => rfl | 2 => rfl
 rw [e, e2]
 rfl
theorem beg_right (hs : Nat → Nat → D) : GrRight (CV.int 3 :: CV.int 0 :: CV.int 0 :: CV.int 0 :: CV.dat ((hs 0 0).like ([0, 0, 0] : List Int)) :: CV.dat ((hs 0 1).like [false, false, false]) :: CV.bool false :: CV.int 0 :: CV.int 0 :: CV.int 0 :: CV.int 0 :: CV.bool false :: CV.int 0 :: CV.dat (D.slc none 0 []) :: CV.dat (D.slc none 0 []) :: CV.int 0 :: CV.int 0 :: CV.int 0 :: CV.int 0 :: CV.bool false :: CV.int 0 :: CV.dat (D.slc none 0 []) :: CV.dat (D.slc none 0 []) :: CV.int 0 :: CV.int 0 :: CV.int 0 :: CV.int 0 :: CV.bool false :: CV.int 0 :: CV.dat (D.slc none 0 []) :: CV.dat (D.slc none 0 []) :: CV.dat (D.slc none 0 []) :: CV.dat (D.slc none 0 []) :: CV.dat (D.slc none 0 []) :: CV.dat (D.slc none 0 []) :: CV.int 0 :: CV.int 0 :: CV.bool true :: CV.int 0 :: []) := by
 rw [grRight_eq]
 have h : MbD.Right ⟨0, 0, 0, 0, false, 0, D.slc none 0 [], D.slc none 0 []⟩ := ⟨is_nil _ _, is_nil _ _, Nat.zero_le _, Nat.zero_le _⟩
 exact ⟨⟨D.like_is _ _, D.like_is _ _⟩, h, h, h, ⟨is_nil _ _, Nat.zero_le _⟩, ⟨is_nil _ _, Nat.zero_le _⟩, ⟨is_nil _ _, Nat.zero_le _⟩, ⟨is_nil _ _, Nat.zero_le _⟩⟩

end Go.Proofs.Ytoechplbhbalaaa
end
section
open Go
namespace Sx
theorem wf_u8 {n : Int} (h : (Lit.int .u8 n).wf = true) : U8 n := by
 simp only [Lit.wf, Bool.and_eq_true, decide_eq_true_eq] at h
 exact ⟨h.1, h.2⟩
theorem sh_events {l : D} (h : TS.Sh (.slc (.st [.int .u8, .int .u8, .int .u8])) [l]) : EvRows l ∧ l.IsSlc := by
 simp only [TS.Sh] at h
 obtain ⟨a, s, rows, h1, h2, h3, h4⟩ := h
 simp only [List.cons.injEq, and_true] at h1
 subst h1
 refine ⟨⟨h2.imp id fun h => by simpa [D.sz, TS.sz, TS.szL] using h, fun r hr => ?_⟩, ⟨_, _, _, rfl⟩⟩
 have := h4 r hr
 simp only [TS.ShL, TS.Sh] at this
 obtain ⟨_, _, rfl, ⟨k, rfl, w1⟩, _, _, rfl, ⟨x, rfl, w2⟩, _, _, rfl, ⟨y, rfl, w3⟩, rfl⟩ := this
 exact ⟨k, x, y, rfl, wf_u8 w1, wf_u8 w2, wf_u8 w3⟩
end Sx
end
section
namespace Sx
open Go
def WStep (clk : Int) (w w' : List Wr) : Prop := ∃ hl : w'.length = w.length, ∀ x : Nat, (h : x < w.length) → (w'[x]'(by rw [hl]; exact h)).issued = w[x].issued ∧ ((w'[x]'(by rw [hl]; exact h)).acked = w[x].acked ∨ (w'[x]'(by rw [hl]; exact h)).acked = clk)

theorem WStep.refl (clk : Int) (w : List Wr) : WStep clk w w := ⟨rfl, fun x h => ⟨rfl, .inl rfl⟩⟩

theorem mstep_writes {m m' : Mb} {w : List Wr} {acks : List Int} {clk : Int} (h : NodeOk m w) (s : Mstep m m' acks) :
  WStep clk w (ackW clk m'.frozen acks w).1 ∧ (m'.frozen = true → (ackW clk m'.frozen acks w).1 = w) ∧ ((acks = [] ∧ m'.held = m.held) → (ackW clk m'.frozen acks w).1 = w) := by
 have hsame : acks = [] → (ackW clk m'.frozen acks w).1 = w := fun e => by rw [e]; rfl
 rcases s.how with ⟨h1, h2⟩ | ⟨h1, h2, h3⟩
 ·exact ⟨by rw [hsame h1]; exact WStep.refl _ _, fun _ => hsame h1, fun _ => hsame h1⟩
 ·refine ⟨?_, fun hf => absurd (h3.symm.trans hf) (by decide), fun hh => hsame hh.1⟩
  rw [h3, h1]
  have hin : ∀ x, x ∈ m.held → 0 ≤ x ∧ ∃ h : x.toNat < w.length, 0 < w[x.toNat].durable ∧ w[x.toNat].times = 0 := fun x hx => by
   obtain ⟨⟨a, b⟩, _⟩ := h.ok.hi x hx
   have hl : x.toNat < w.length := by have := h.len; omega
   have := h.held x.toNat hl (by rw [Int.toNat_of_nonneg a]; exact hx)
   exact ⟨a, hl, this.1, this.2.2⟩
  obtain ⟨a1, a2, a3⟩ := ackW_spec clk m.held w h.ok.hn hin
  refine ⟨a2, fun x hx => ?_⟩
  rw [a3 x hx]
  split
  ·exact ⟨rfl, .inr rfl⟩
  ·exact ⟨rfl, .inl rfl⟩
structure CutOk (g : Gr) (T : Option Int) : Prop where
 rn : ∀ i, (g.node i).round ≤ g.c.round
 z : ∀ i, (g.node i).frozen = true → (g.node i).thawed < (g.node i).round
 num : ∀ m, m ∈ g.flight → m.number ≤ g.c.round
 frz : ∀ m, m ∈ g.flight → m.kind = 2 → m.number = g.c.round → ∀ i : Fin 3, m.frm = (i.val : Int) → (g.node i).round = g.c.round ∧ m.value = (g.node i).position
 thw : ∀ m, m ∈ g.flight → m.kind = 4 → m.number = g.c.round → m.value = 1 → ∀ i : Fin 3, m.frm = (i.val : Int) → (g.node i).round = g.c.round ∧ (g.node i).thawed = g.c.round
 tho : ∀ m, m ∈ g.flight → m.kind = 3 → m.number = g.c.round → T ≠ none
 fz : ∀ i, (g.node i).round = g.c.round → (g.node i).frozen = true → ∀ x : Nat, (h : x < (g.wr i).length) → (g.node i).position ≤ x → (g.wr i)[x].acked = 0
 iss : ∀ i, ∀ x : Nat, (h : x < (g.wr i).length) → (g.wr i)[x].issued ≤ g.clock
 no : T = none → ∀ i, (g.node i).round = g.c.round → (g.node i).thawed < g.c.round ∨ g.c.round = 0
 p1 : g.c.phase = 1 → T = none ∧ 1 ≤ g.c.round ∧ ∀ i : Fin 3, g.c.seen.getD i.val false = true → (g.node i).round = g.c.round ∧ g.c.positions.getD i.val 0 = (g.node i).position
 p2 : g.c.phase = 2 → T ≠ none ∧ ∀ i : Fin 3, g.c.seen.getD i.val false = true → (g.node i).thawed = g.c.round
 so : ∀ τ, T = some τ → τ ≤ g.clock ∧ ∀ i : Fin 3, (g.node i).round = g.c.round ∧ g.c.positions.getD i.val 0 = (g.node i).position ∧ (∀ x : Nat, (h : x < (g.wr i).length) → (x : Int) < (g.node i).position → (g.wr i)[x].issued ≤ τ) ∧
  ((g.node i).thawed = g.c.round → ∀ x : Nat, (h : x < (g.wr i).length) → (g.node i).position ≤ x → (g.wr i)[x].acked = 0 ∨ τ < (g.wr i)[x].acked)
 va : g.c.valid = true → T ≠ none ∧ ∀ i : Fin 3, (g.node i).thawed = g.c.round
structure NStep (r clk : Int) (T : Option Int) (m m' : Mb) (w w' : List Wr) : Prop where
 keep : m.round = r → m'.round = r ∧ m'.position = m.position ∧ (m.thawed = r → m'.thawed = r)
 rn : m'.round ≤ r
 z : m'.frozen = true → m'.thawed < m'.round
 fz : m'.round = r → m'.frozen = true → ∀ x : Nat, (h : x < w'.length) → m'.position ≤ x → w'[x].acked = 0
 no : T = none → m'.round = r → m'.thawed < r ∨ r = 0
 iss : ∀ x : Nat, (h : x < w'.length) → w'[x].issued ≤ clk
 old : ∀ τ, T = some τ → ∀ x : Nat, (h : x < w'.length) → (x : Int) < m'.position → w'[x].issued ≤ τ
 so : ∀ τ, T = some τ → m'.thawed = r → ∀ x : Nat, (h : x < w'.length) → m'.position ≤ x → w'[x].acked = 0 ∨ τ < w'[x].acked

theorem CutOk.node {g : Gr} {T : Option Int} (h : CutOk g T) (i : Fin 3) {m' : Mb} {w' : List Wr} {rt : Bool} (s : NStep g.c.round g.clock T (g.node i) m' (g.wr i) w') :
  CutOk { g with node := upd g.node i m', wr := upd g.wr i w', right := rt } T := by
 have nd : ∀ j, j ≠ i → upd g.node i m' j = g.node j := fun j hj => upd_ne hj
 have wd : ∀ j, j ≠ i → upd g.wr i w' j = g.wr j := fun j hj => upd_ne hj
 refine ⟨fun j => ?_, fun j => ?_, h.num, fun m hm hk hn j hj => ?_, fun m hm hk hn hv j hj => ?_, h.tho, fun j => ?_, fun j => ?_, fun hT j => ?_, fun hp => ?_, fun hp => ?_, fun τ hτ => ?_, fun hv => ?_⟩
 ·by_cases e : j = i
  ·subst e; simp only [upd_self]; exact s.rn
  ·simp only [nd j e]; exact h.rn j
 ·by_cases e : j = i
  ·subst e; simp only [upd_self]; exact s.z
  ·simp only [nd j e]; exact h.z j
 ·obtain ⟨a, b⟩ := h.frz m hm hk hn j hj
  by_cases e : j = i
  ·subst e; simp only [upd_self]
   obtain ⟨k1, k2, _⟩ := s.keep a
   exact ⟨k1, b.trans k2.symm⟩
  ·simp only [nd j e]; exact ⟨a, b⟩
 ·obtain ⟨a, b⟩ := h.thw m hm hk hn hv j hj
  by_cases e : j = i
  ·subst e; simp only [upd_self]
   obtain ⟨k1, _, k3⟩ := s.keep a
   exact ⟨k1, k3 b⟩
  ·simp only [nd j e]; exact ⟨a, b⟩
 ·by_cases e : j = i
  ·subst e; simp only [upd_self]; exact s.fz
  ·simp only [nd j e, wd j e]; exact h.fz j
 ·by_cases e : j = i
  ·subst e; simp only [upd_self]; exact s.iss
  ·simp only [wd j e]; exact h.iss j
 ·by_cases e : j = i
  ·subst e; simp only [upd_self]; exact s.no hT
  ·simp only [nd j e]; exact h.no hT j
 ·obtain ⟨a, b, c⟩ := h.p1 hp
  refine ⟨a, b, fun j hj => ?_⟩
  obtain ⟨c1, c2⟩ := c j hj
  by_cases e : j = i
  ·subst e; simp only [upd_self]
   obtain ⟨k1, k2, _⟩ := s.keep c1
   exact ⟨k1, c2.trans k2.symm⟩
  ·simp only [nd j e]; exact ⟨c1, c2⟩
 ·obtain ⟨a, b⟩ := h.p2 hp
  refine ⟨a, fun j hj => ?_⟩
  by_cases e : j = i
  ·subst e; simp only [upd_self]
   cases hT : T with
   | none => exact absurd hT a
   | some τ => exact (s.keep ((h.so τ hT).2 j).1).2.2 (b j hj)
  ·simp only [nd j e]; exact b j hj
 ·obtain ⟨a, b⟩ := h.so τ hτ
  refine ⟨a, fun j => ?_⟩
  obtain ⟨b1, b2, b3, b4⟩ := b j
  by_cases e : j = i
  ·subst e; simp only [upd_self]
   obtain ⟨k1, k2, _⟩ := s.keep b1
   exact ⟨k1, b2.trans k2.symm, s.old τ hτ, s.so τ hτ⟩
  ·simp only [nd j e, wd j e]; exact ⟨b1, b2, b3, b4⟩
 ·obtain ⟨a, b⟩ := h.va hv
  refine ⟨a, fun j => ?_⟩
  by_cases e : j = i
  ·subst e; simp only [upd_self]
   cases hT : T with
   | none => exact absurd hT a
   | some τ => exact (s.keep ((h.so τ hT).2 j).1).2.2 (b j)
  ·simp only [nd j e]; exact b j

theorem CutOk.send {g : Gr} {T : Option Int} (h : CutOk g T) {l : List Msg} (h1 : ∀ m, m ∈ l → m.number ≤ g.c.round)
  (h2 : ∀ m, m ∈ l → m.kind = 2 → m.number = g.c.round → ∀ i : Fin 3, m.frm = (i.val : Int) → (g.node i).round = g.c.round ∧ m.value = (g.node i).position)
  (h3 : ∀ m, m ∈ l → m.kind = 4 → m.number = g.c.round → m.value = 1 → ∀ i : Fin 3, m.frm = (i.val : Int) → (g.node i).round = g.c.round ∧ (g.node i).thawed = g.c.round)
  (h4 : ∀ m, m ∈ l → m.kind = 3 → m.number = g.c.round → T ≠ none) : CutOk (sendG g l) T := by
 refine ⟨h.rn, h.z, fun m hm => ?_, fun m hm => ?_, fun m hm => ?_, fun m hm => ?_, h.fz, h.iss, h.no, h.p1, h.p2, h.so, h.va⟩
 ·exact (List.mem_append.1 hm).elim (h.num m) (h1 m)
 ·exact (List.mem_append.1 hm).elim (h.frz m) (h2 m)
 ·exact (List.mem_append.1 hm).elim (h.thw m) (h3 m)
 ·exact (List.mem_append.1 hm).elim (h.tho m) (h4 m)
theorem CutOk.nstep {g : Gr} {T : Option Int} {t : Nat} (h : CutOk g T) (hg : GrOk g t) (hτ : ∀ τ, T = some τ → τ < g.clock) (i : Fin 3) {m' : Mb} {acks : List Int} (s : Mstep (g.node i) m' acks)
  (keep : (g.node i).round = g.c.round → m'.round = g.c.round ∧ m'.position = (g.node i).position ∧ ((g.node i).thawed = g.c.round → m'.thawed = g.c.round))
  (rn : m'.round ≤ g.c.round) (z : m'.frozen = true → m'.thawed < m'.round)
  (fz : m'.round = g.c.round → m'.frozen = true → ((g.node i).round = g.c.round ∧ (g.node i).frozen = true) ∨ m'.position = m'.issued)
  (no : T = none → m'.round = g.c.round → m'.thawed < g.c.round ∨ g.c.round = 0)
  (so : m'.thawed = g.c.round → T ≠ none → (g.node i).thawed = g.c.round ∨ ((g.node i).round = g.c.round ∧ (g.node i).frozen = true)) :
  NStep g.c.round g.clock T (g.node i) m' (g.wr i) (ackW g.clock m'.frozen acks (g.wr i)).1 := by
 have hn := hg.node i
 obtain ⟨⟨hl, hw⟩, hfr, _⟩ := mstep_writes (clk := g.clock) hn s
 refine ⟨keep, rn, z, fun h1 h2 x hx hp => ?_, no, fun x hx => ?_, fun τ ht x hx hp => ?_, fun τ ht hth x hx hp => ?_⟩
 ·have e := hfr h2
  rcases fz h1 h2 with ⟨f1, f2⟩ | f1
  ·have hp' : (g.node i).position ≤ x := by rw [← (keep f1).2.1]; exact hp
   simp only [e] at hx ⊢
   exact h.fz i f1 f2 x hx hp'
  ·have h3 := s.iss
   have h4 := hn.len
   rw [hl] at hx
   omega
 ·have hx' : x < (g.wr i).length := by rw [← hl]; exact hx
  rw [(hw x hx').1]
  exact h.iss i x hx'
 ·have hx' : x < (g.wr i).length := by rw [← hl]; exact hx
  obtain ⟨b1, b2, b3, b4⟩ := (h.so τ ht).2 i
  rw [(hw x hx').1]
  exact b3 x hx' (by rw [← (keep b1).2.1]; exact hp)
 ·have hx' : x < (g.wr i).length := by rw [← hl]; exact hx
  obtain ⟨b1, b2, b3, b4⟩ := (h.so τ ht).2 i
  have hp' : (g.node i).position ≤ x := by rw [← (keep b1).2.1]; exact hp
  rcases (hw x hx').2 with e | e
  ·rw [e]
   rcases so hth (by rw [ht]; simp) with f | ⟨f1, f2⟩
   ·exact b4 f x hx' hp'
   ·exact .inl (h.fz i f1 f2 x hx' hp')
  ·rw [e]
   exact .inr (hτ τ ht)
end Sx
end
section
namespace Sx
open Go

theorem upd_upd {α : Type} (f : Fin 3 → α) (i : Fin 3) (a b : α) : upd (upd f i a) i b = upd f i b := by
 funext j
 by_cases h : j = i
 ·subst h; rw [upd_self, upd_self]
 ·rw [upd_ne h, upd_ne h, upd_ne h]

theorem CutOk.ackMb {g : Gr} {T : Option Int} {t : Nat} (h : CutOk g T) (hg : GrOk g t) (hτ : ∀ τ, T = some τ → τ < g.clock) (i : Fin 3) {m' : Mb} {acks : List Int} (s : Mstep (g.node i) m' acks)
  (keep : (g.node i).round = g.c.round → m'.round = g.c.round ∧ m'.position = (g.node i).position ∧ ((g.node i).thawed = g.c.round → m'.thawed = g.c.round))
  (rn : m'.round ≤ g.c.round) (z : m'.frozen = true → m'.thawed < m'.round)
  (fz : m'.round = g.c.round → m'.frozen = true → ((g.node i).round = g.c.round ∧ (g.node i).frozen = true) ∨ m'.position = m'.issued)
  (no : T = none → m'.round = g.c.round → m'.thawed < g.c.round ∨ g.c.round = 0)
  (so : m'.thawed = g.c.round → T ≠ none → (g.node i).thawed = g.c.round ∨ ((g.node i).round = g.c.round ∧ (g.node i).frozen = true)) :
  CutOk (ackG { g with node := upd g.node i m' } i acks) T := by
 have hs := h.nstep hg hτ i s keep rn z fz no so
 have h1 := h.node i (rt := g.right && (ackW g.clock m'.frozen acks (g.wr i)).2) hs
 simp only [ackG, upd_self]
 exact h1
theorem CutOk.rel {g : Gr} {T : Option Int} {t : Nat} (h : CutOk g T) (hg : GrOk g t) (hτ : ∀ τ, T = some τ → τ < g.clock) (i : Fin 3) : CutOk (relG g i) T := by
 have e : (relMb (g.node i) g.now).1.round = (g.node i).round ∧ (relMb (g.node i) g.now).1.position = (g.node i).position ∧ (relMb (g.node i) g.now).1.thawed = (g.node i).thawed ∧ ((relMb (g.node i) g.now).1.frozen = true → (g.node i).frozen = true) := by
  unfold relMb
  split
  ·exact ⟨rfl, rfl, rfl, fun h => h⟩
  ·exact ⟨rfl, rfl, rfl, fun h => (by cases h)⟩
 obtain ⟨e1, e2, e3, e4⟩ := e
 refine h.ackMb hg hτ i (rel_step (hg.node i).ok g.now) (fun hr => ⟨e1.trans hr, e2, fun ht => e3.trans ht⟩) (by rw [e1]; exact h.rn i) (fun hf => by rw [e1, e3]; exact h.z i (e4 hf)) (fun hr hf => .inl ⟨e1.symm.trans hr, e4 hf⟩) (fun hT hr => by rw [e3]; exact h.no hT i (e1.symm.trans hr)) (fun ht _ => .inl (e3.symm.trans ht))
structure MsgCut (g : Gr) (T : Option Int) (m : Msg) : Prop where
 num : m.number ≤ g.c.round
 frz : m.kind = 2 → m.number = g.c.round → ∀ i : Fin 3, m.frm = (i.val : Int) → (g.node i).round = g.c.round ∧ m.value = (g.node i).position
 thw : m.kind = 4 → m.number = g.c.round → m.value = 1 → ∀ i : Fin 3, m.frm = (i.val : Int) → (g.node i).round = g.c.round ∧ (g.node i).thawed = g.c.round
 tho : m.kind = 3 → m.number = g.c.round → T ≠ none

theorem CutOk.msg {g : Gr} {T : Option Int} (h : CutOk g T) {m : Msg} (hm : m ∈ g.flight) : MsgCut g T m := ⟨h.num m hm, h.frz m hm, h.thw m hm, h.tho m hm⟩
structure ObeyFacts (m m' : Mb) (g : Msg) (r : Int) (l : List Msg) : Prop where
 keep : m.round = r → m'.round = r ∧ m'.position = m.position ∧ (m.thawed = r → m'.thawed = r)
 rn : m'.round ≤ r
 z : m'.frozen = true → m'.thawed < m'.round
 fz : m'.round = r → m'.frozen = true → (m.round = r ∧ m.frozen = true) ∨ m'.position = m'.issued
 th : m'.thawed = r → m.thawed = r ∨ (m.round = r ∧ m.frozen = true ∧ g.kind = 3 ∧ g.number = r)
 ans : ∀ a, a ∈ l → a.frm = g.to ∧ a.number = g.number ∧ a.kind ≠ 3 ∧ (a.kind = 2 → a.number = r → m'.round = r ∧ a.value = m'.position) ∧ (a.kind = 4 → a.number = r → a.value = 1 → m'.round = r ∧ m'.thawed = r)

theorem ObeyFacts.same {m : Mb} {g : Msg} {r : Int} {l : List Msg} (hmr : m.round ≤ r) (hz : m.frozen = true → m.thawed < m.round)
  (ans : ∀ a, a ∈ l → a.frm = g.to ∧ a.number = g.number ∧ a.kind ≠ 3 ∧ (a.kind = 2 → a.number = r → m.round = r ∧ a.value = m.position) ∧ (a.kind = 4 → a.number = r → a.value = 1 → m.round = r ∧ m.thawed = r)) : ObeyFacts m m g r l :=
 ⟨fun h => ⟨h, rfl, fun h => h⟩, hmr, hz, fun h1 h2 => .inl ⟨h1, h2⟩, fun h => .inl h, ans⟩
theorem ObeyFacts.thaw {m : Mb} {g : Msg} {r : Int} {l : List Msg} (hmr : m.round ≤ r)
  (ans : ∀ a, a ∈ l → a.frm = g.to ∧ a.number = g.number ∧ a.kind ≠ 3 ∧ a.kind ≠ 2 ∧ (a.kind = 4 → a.value = 1 → False)) : ObeyFacts m { m with frozen := false, held := [] } g r l :=
 ⟨fun h => ⟨h, rfl, fun h => h⟩, hmr, fun h => (by cases h), fun _ h2 => (by cases h2), fun h => .inl h, fun a ha => by
  obtain ⟨a1, a2, a3, a4, a5⟩ := ans a ha
  exact ⟨a1, a2, a3, fun h => absurd h a4, fun h1 _ h3 => (a5 h1 h3).elim⟩⟩
theorem no_ans {m' : Mb} {g : Msg} {r : Int} : ∀ a : Msg, a ∈ ([] : List Msg) → a.frm = g.to ∧ a.number = g.number ∧ a.kind ≠ 3 ∧ (a.kind = 2 → a.number = r → m'.round = r ∧ a.value = m'.position) ∧ (a.kind = 4 → a.number = r → a.value = 1 → m'.round = r ∧ m'.thawed = r) := fun a ha => by cases ha

theorem ans_mem {g a : Msg} {k v : Int} (h : a ∈ ansTo g k v) : a.frm = g.to ∧ a.number = g.number ∧ a.kind = k ∧ a.value = v := by
 simp only [ansTo, List.mem_singleton] at h
 subst h
 exact ⟨rfl, rfl, rfl, rfl⟩

theorem obey_facts {m : Mb} (hm : MbOk m) (now p : Int) {g : Msg} {r : Int} (hr : g.number ≤ r) (hmr : m.round ≤ r) (hz : m.frozen = true → m.thawed < m.round) :
  ObeyFacts m (obeyMb m now p g).1 g r (obeyMb m now p g).2.2 := by
 have ht := hm.t
 unfold obeyMb
 split
 ·exact .same hmr hz no_ans
 ·split
  ·rename_i hk
   split
   ·rename_i hgt
    refine ⟨fun h => absurd h (by omega), hr, fun _ => by simp only; omega, fun _ _ => .inr rfl, fun h => .inl h, fun a ha => ?_⟩
    obtain ⟨a1, a2, a3, a4⟩ := ans_mem ha
    exact ⟨a1, a2, by omega, fun _ h2 => ⟨a2.symm.trans h2, a4⟩, fun h => by omega⟩
   ·split
    ·rename_i hh
     refine .same hmr hz fun a ha => ?_
     obtain ⟨a1, a2, a3, a4⟩ := ans_mem ha
     exact ⟨a1, a2, by omega, fun _ h2 => ⟨by rw [← hh.1, ← a2]; exact h2, a4⟩, fun h => by omega⟩
    ·exact .same hmr hz no_ans
  ·split
   ·rename_i hk
    split
    ·rename_i hn
     unfold endMb
     split
     ·rename_i hf
      refine .same hmr hz fun a ha => ?_
      obtain ⟨a1, a2, a3, a4⟩ := ans_mem ha
      refine ⟨a1, a2, by omega, fun h => by omega, fun _ h2 h3 => ?_⟩
      have hmr : m.round = r := by rw [← hn, ← a2]; exact h2
      refine ⟨hmr, ?_⟩
      by_cases e : m.thawed = m.round
      ·exact e.trans hmr
      ·rw [if_neg e] at a4; omega
     ·rename_i hf
      split
      ·refine ⟨fun h => ⟨h, rfl, fun _ => h⟩, hmr, fun h => (by cases h), fun _ h => (by cases h), fun h => ?_, fun a ha => ?_⟩
       ·simp only at h
        exact .inr ⟨h, by simpa using hf, hk, hn.trans h⟩
       ·obtain ⟨a1, a2, a3, a4⟩ := ans_mem ha
        refine ⟨a1, a2, by omega, fun h => by omega, fun _ h2 _ => ?_⟩
        have hmr : m.round = r := by rw [← hn, ← a2]; exact h2
        exact ⟨hmr, hmr⟩
      ·refine .thaw hmr fun a ha => ?_
       obtain ⟨a1, a2, a3, a4⟩ := ans_mem ha
       exact ⟨a1, a2, by omega, by omega, fun _ h => by omega⟩
    ·split
     ·refine .same hmr hz fun a ha => ?_
      obtain ⟨a1, a2, a3, a4⟩ := ans_mem ha
      exact ⟨a1, a2, by omega, fun h => by omega, fun _ _ h => by omega⟩
     ·exact .same hmr hz no_ans
   ·split
    ·split
     ·exact .thaw hmr fun a ha => by cases ha
     ·exact .same hmr hz no_ans
    ·exact .same hmr hz no_ans

theorem CutOk.obey {g : Gr} {T : Option Int} {t : Nat} (h : CutOk g T) (hg : GrOk g t) (hτ : ∀ τ, T = some τ → τ < g.clock) (i : Fin 3) {m : Msg} (hm : MsgCut g T m) (hi : m.to = (i.val : Int)) : CutOk (obeyG g m i) T := by
 obtain ⟨f1, f2, f3, f4, f5, f6⟩ := obey_facts (hg.node i).ok g.now 12 (g := m) hm.num (h.rn i) (h.z i)
 have s := obey_step (hg.node i).ok g.now 12 m
 have hthaw : (obeyMb (g.node i) g.now 12 m).1.thawed ≤ (obeyMb (g.node i) g.now 12 m).1.round := s.ok.t.2
 have h1 := h.ackMb hg hτ i s f1 f2 f3 f4 (fun hT hr => by
  by_cases e : (obeyMb (g.node i) g.now 12 m).1.thawed = g.c.round
  ·rcases f5 e with e2 | ⟨_, _, e3, e4⟩
   ·have a1 := (hg.node i).ok.t; have a2 := h.rn i
    exact (h.no hT i (by omega)).imp (fun hlt => absurd e2 (by omega)) id
   ·exact absurd hT (hm.tho e3 e4)
  ·left; omega) (fun ht hT => (f5 ht).imp id fun ⟨e1, e2, _⟩ => ⟨e1, e2⟩)
 have hnode : (ackG { g with node := upd g.node i (obeyMb (g.node i) g.now 12 m).1 } i (obeyMb (g.node i) g.now 12 m).2.1).node i = (obeyMb (g.node i) g.now 12 m).1 := upd_self _ _ _
 have hj : ∀ a, a ∈ (obeyMb (g.node i) g.now 12 m).2.2 → ∀ j : Fin 3, a.frm = (j.val : Int) → j = i := fun a ha j hj => by
  have := (f6 a ha).1
  exact Fin.ext (by omega)
 refine CutOk.send h1 (fun a ha => ?_) (fun a ha hk hn j hj' => ?_) (fun a ha hk hn hv j hj' => ?_) (fun a ha hk => absurd hk (f6 a ha).2.2.1)
 ·rw [(f6 a ha).2.1]; exact hm.num
 ·rw [hj a ha j hj', hnode]
  exact (f6 a ha).2.2.2.1 hk hn
 ·rw [hj a ha j hj', hnode]
  exact (f6 a ha).2.2.2.2 hk hn hv
theorem CutOk.coord {g : Gr} {T T' : Option Int} (h : CutOk g T) {c : Co} (hr : c.round = g.c.round) (hT : T ≠ none → T' ≠ none)
  (no : T' = none → T = none)
  (p1 : c.phase = 1 → T' = none ∧ 1 ≤ c.round ∧ ∀ i : Fin 3, c.seen.getD i.val false = true → (g.node i).round = c.round ∧ c.positions.getD i.val 0 = (g.node i).position)
  (p2 : c.phase = 2 → T' ≠ none ∧ ∀ i : Fin 3, c.seen.getD i.val false = true → (g.node i).thawed = c.round)
  (so : ∀ τ, T' = some τ → τ ≤ g.clock ∧ ∀ i : Fin 3, (g.node i).round = c.round ∧ c.positions.getD i.val 0 = (g.node i).position ∧ (∀ x : Nat, (h : x < (g.wr i).length) → (x : Int) < (g.node i).position → (g.wr i)[x].issued ≤ τ) ∧
  ((g.node i).thawed = c.round → ∀ x : Nat, (h : x < (g.wr i).length) → (g.node i).position ≤ x → (g.wr i)[x].acked = 0 ∨ τ < (g.wr i)[x].acked))
  (va : c.valid = true → T' ≠ none ∧ ∀ i : Fin 3, (g.node i).thawed = c.round) : CutOk { g with c := c } T' := by
 rw [hr] at p1 p2 so va
 refine ⟨?_, h.z, ?_, ?_, ?_, ?_, ?_, h.iss, ?_, ?_, ?_, ?_, ?_⟩
 all_goals simp only [hr]
 ·exact h.rn
 ·exact h.num
 ·exact h.frz
 ·exact h.thw
 ·exact fun m hm hk hn => hT (h.tho m hm hk hn)
 ·exact h.fz
 ·exact fun h1 => h.no (no h1)
 ·exact p1
 ·exact p2
 ·exact so
 ·exact va
end Sx
end
section
namespace Sx
open Go

theorem CutOk.msgs {g : Gr} {T : Option Int} (h : CutOk g T) {l : List Msg} (hl : ∀ m, m ∈ l → MsgCut g T m) : CutOk (sendG g l) T :=
 h.send (fun m hm => (hl m hm).num) (fun m hm => (hl m hm).frz) (fun m hm => (hl m hm).thw) (fun m hm => (hl m hm).tho)

theorem CutOk.nosend {g : Gr} {T : Option Int} (h : CutOk g T) : CutOk (sendG g []) T := h.msgs fun m hm => by cases hm

theorem getD_put {α : Type} {l : List α} {k i : Nat} {v d : α} (h : k < l.length) : (l.set k v).getD i d = if i = k then v else l.getD i d := by
 simp only [List.getD_eq_getElem?_getD, List.getElem?_set]
 by_cases e : k = i
 ·subst e; simp [h]
 ·rw [if_neg e, if_neg (fun h => e h.symm)]

theorem all_getD {l : List Bool} (h : l.all id = true) {i : Nat} (hi : i < l.length) : l.getD i false = true := by
 rw [List.all_eq_true] at h
 simp only [List.getD_eq_getElem?_getD, List.getElem?_eq_getElem hi, Option.getD_some]
 exact h _ (List.getElem_mem hi)

theorem msgsTo_mem {n r k : Int} {m : Msg} (h : m ∈ msgsTo n r k) : m.kind = k ∧ m.number = r := by
 simp only [msgsTo, List.mem_map] at h
 obtain ⟨i, _, rfl⟩ := h
 exact ⟨rfl, rfl⟩

theorem CutOk.giveUp {g : Gr} {T : Option Int} (h : CutOk g T) : CutOk (sendG { g with c := (giveUpCo g.c).1 } (giveUpCo g.c).2) T := by
 have h1 : CutOk { g with c := (giveUpCo g.c).1 } T := h.coord rfl (fun h => h) (fun h => h) (fun hp => by simp only [giveUpCo] at hp; omega) (fun hp => by simp only [giveUpCo] at hp; omega) h.so (fun hv => by simp only [giveUpCo] at hv; cases hv)
 refine h1.msgs fun m hm => ?_
 obtain ⟨m1, m2⟩ := msgsTo_mem hm
 exact ⟨by rw [m2]; exact Int.le_refl _, fun h => by omega, fun h => by omega, fun h => by omega⟩

theorem CutOk.collect {g : Gr} {T : Option Int} {t : Nat} (h : CutOk g T) (hg : GrOk g t) {m : Msg} (hm : MsgCut g T m) :
  ∃ T', CutOk (sendG { g with c := (collectCo g.c g.now m).1 } (collectCo g.c g.now m).2) T' := by
 have same : ∃ T', CutOk (sendG { g with c := g.c } []) T' := ⟨T, h.nosend⟩
 by_cases hb : ¬checkCo g.c = 0 ∨ g.c.phase = 0 ∨ g.now ≥ g.c.deadline ∨ m.frm < 0 ∨ m.frm ≥ g.c.nodes ∨ ¬m.number = g.c.round
 ·rw [coll_bad hb]; exact same
 ·rw [coll_go hb rfl rfl]
  have hz := checkCo_zero.1 (show checkCo ⟨g.c.nodes, g.c.round, g.c.phase, g.c.deadline, g.c.positions, g.c.seen, g.c.valid⟩ = 0 from hg.c.ok)
  simp only [not_or, Decidable.not_not] at hb
  obtain ⟨_, b2, _, b4, b5, b6⟩ := hb
  have hn := hg.c.n
  have hpl : g.c.positions.length = 3 := by omega
  have hsl : g.c.seen.length = 3 := by omega
  have hv0 : g.c.valid = false := by
   cases hv : g.c.valid with
   | false => rfl
   | true => exact absurd (hz.2.2.2.2.2.2.1 hv) b2
  obtain ⟨k, hk⟩ : ∃ k : Nat, m.frm = (k : Int) := ⟨m.frm.toNat, by omega⟩
  have hkt : m.frm.toNat = k := by omega
  have hk3 : k < 3 := by omega
  have hfi : ∀ i : Fin 3, i.val = k → m.frm = (i.val : Int) := fun i hi => by omega
  rw [hkt]
  unfold collGo
  split
  ·rename_i hkind
   split
   ·exact same
   ·rename_i hc
    simp only [not_or, Decidable.not_not] at hc
    obtain ⟨c1, c2, c3, _⟩ := hc
    obtain ⟨q1, q2, q3⟩ := h.p1 c1
    have hfz := hm.frz hkind b6
    have hseen : ∀ i : Fin 3, (g.c.seen.set k true).getD i.val false = true → (g.node i).round = g.c.round ∧ (g.c.positions.set k m.value).getD i.val 0 = (g.node i).position := fun i hi => by
     rw [getD_put (by omega)] at hi ⊢
     by_cases e : i.val = k
     ·rw [if_pos e]; exact hfz i (hfi i e)
     ·rw [if_neg e] at hi ⊢; exact q3 i hi
    simp only [hkt]
    split
    ·rename_i hal
     have h1 : CutOk { g with c := ⟨g.c.nodes, g.c.round, 2, g.c.deadline, g.c.positions.set k m.value, List.replicate g.c.nodes.toNat false, g.c.valid⟩ } (some g.clock) := by
      refine h.coord rfl (fun _ => by simp) (fun h => by cases h) (fun hp => by simp only at hp; omega) (fun _ => ⟨by simp, fun i hi => ?_⟩) (fun τ hτ => ?_) (fun hv => by simp only [hv0] at hv; cases hv)
      ·exfalso
       simp only [List.getD_eq_getElem?_getD, List.getElem?_replicate] at hi
       split at hi <;> simp at hi
      ·cases hτ
       refine ⟨Int.le_refl _, fun i => ?_⟩
       obtain ⟨s1, s2⟩ := hseen i (all_getD hal (by rw [List.length_set, hsl]; exact i.isLt))
       refine ⟨s1, s2, fun x hx _ => h.iss i x hx, fun ht => ?_⟩
       rcases h.no q1 i s1 with e | e
       ·exact absurd ht (by simp only; omega)
       ·omega
     refine ⟨some g.clock, h1.msgs fun m' hm' => ?_⟩
     obtain ⟨m1, m2⟩ := msgsTo_mem hm'
     exact ⟨by rw [m2]; exact Int.le_refl _, fun h => by omega, fun h => by omega, fun _ _ => by simp⟩
    ·refine ⟨T, CutOk.nosend ?_⟩
     exact h.coord rfl (fun h => h) (fun h => h) (fun _ => ⟨q1, q2, hseen⟩) (fun hp => by simp only at hp; omega) (fun τ hτ => by rw [q1] at hτ; cases hτ) (fun hv => by simp only [hv0] at hv; cases hv)
  ·split
   ·rename_i hk2 hk4
    split
    ·exact same
    ·rename_i hp
     simp only [ne_eq, Decidable.not_not] at hp
     obtain ⟨q1, q2⟩ := h.p2 hp
     split
     ·exact ⟨T, h.giveUp⟩
     ·rename_i hval
      simp only [ne_eq, Decidable.not_not] at hval
      have hth := hm.thw hk4 b6 hval
      have hseen : ∀ i : Fin 3, (g.c.seen.set k true).getD i.val false = true → (g.node i).thawed = g.c.round := fun i hi => by
       rw [getD_put (by omega)] at hi
       by_cases e : i.val = k
       ·exact (hth i (hfi i e)).2
       ·rw [if_neg e] at hi; exact q2 i hi
      simp only [hkt]
      split
      ·rename_i hal
       refine ⟨T, CutOk.nosend ?_⟩
       refine h.coord rfl (fun h => h) (fun h => h) (fun hp => by simp only at hp; omega) (fun hp => by simp only at hp; omega) h.so (fun _ => ⟨q1, fun i => ?_⟩)
       exact hseen i (all_getD hal (by rw [List.length_set, hsl]; exact i.isLt))
      ·refine ⟨T, CutOk.nosend ?_⟩
       exact h.coord rfl (fun h => h) (fun h => h) (fun hp' => by simp only at hp'; omega) (fun _ => ⟨q1, hseen⟩) h.so (fun hv => by simp only [hv0] at hv; cases hv)
   ·exact same

theorem CutOk.right {g : Gr} {T : Option Int} (h : CutOk g T) {r : Bool} : CutOk { g with right := r } T := ⟨h.rn, h.z, h.num, h.frz, h.thw, h.tho, h.fz, h.iss, h.no, h.p1, h.p2, h.so, h.va⟩

theorem CutOk.recv {g : Gr} {T : Option Int} {t : Nat} (h : CutOk g T) (hg : GrOk g t) (hτ : ∀ τ, T = some τ → τ < g.clock) {m : Msg} (hm : MsgCut g T m) : ∃ T', CutOk (recvG g m) T' := by
 unfold recvG
 split
 ·exact h.collect hg hm
 ·split
  ·exact ⟨T, h.obey hg hτ 0 hm (by omega)⟩
  ·split
   ·exact ⟨T, h.obey hg hτ 1 hm (by omega)⟩
   ·split
    ·exact ⟨T, h.obey hg hτ 2 hm (by omega)⟩
    ·exact ⟨T, h.right⟩

theorem CutOk.less {g : Gr} {T : Option Int} (h : CutOk g T) {l : List Msg} (hl : ∀ m, m ∈ l → m ∈ g.flight) : CutOk { g with flight := l } T :=
 ⟨h.rn, h.z, fun m hm => h.num m (hl m hm), fun m hm => h.frz m (hl m hm), fun m hm => h.thw m (hl m hm), fun m hm => h.tho m (hl m hm), h.fz, h.iss, h.no, h.p1, h.p2, h.so, h.va⟩

theorem CutOk.flight {g : Gr} {T : Option Int} {t : Nat} (h : CutOk g T) (hg : GrOk g t) (hτ : ∀ τ, T = some τ → τ < g.clock) (k w : Int) (hw : 0 ≤ w) : ∃ T', CutOk (flightG g k w) T' := by
 by_cases h0 : g.flight.length = 0
 ·rw [flightG_nil h0]; exact ⟨T, h⟩
 ·have t0 : 0 ≤ Int.tmod w g.flight.length := Int.tmod_nonneg _ hw
  have hpos : (0 : Int) < (g.flight.length : Int) := by have := Nat.pos_of_ne_zero h0; omega
  have t1 : Int.tmod w g.flight.length < g.flight.length := Int.tmod_lt_of_pos _ hpos
  obtain ⟨i, hi⟩ : ∃ i, (Int.tmod w g.flight.length).toNat = i := ⟨_, rfl⟩
  have hil : i < g.flight.length := by omega
  rw [flightG_go h0 hi rfl]
  have hmem : g.flight.getD i noMsg ∈ g.flight := by
   have e : g.flight.getD i noMsg = g.flight[i] := by simp [hil]
   rw [e]; exact List.getElem_mem hil
  have hsub : ∀ m, m ∈ g.flight.take i ++ g.flight.drop (i + 1) → m ∈ g.flight := fun m hm => by
   rcases List.mem_append.1 hm with hm | hm
   ·exact List.mem_of_mem_take hm
   ·exact List.mem_of_mem_drop hm
  have hm := h.msg hmem
  by_cases h4 : Int.tmod k 7 = 4
  ·rw [if_pos h4]
   split
   ·exact ⟨T, h⟩
   ·exact h.recv hg hτ hm
  ·rw [if_neg h4]
   have h1 : CutOk { g with flight := g.flight.take i ++ g.flight.drop (i + 1) } T := h.less hsub
   split
   ·exact ⟨T, h1⟩
   ·exact h1.recv (t := t) ⟨hg.c, hg.node, fun m hm => hg.fl m (hsub m hm), by simp only [List.length_append, List.length_take, List.length_drop]; have := hg.flen; omega, hg.now, hg.clock, hg.right, hg.wlen, hg.upto⟩ hτ ⟨hm.num, hm.frz, hm.thw, hm.tho⟩

theorem CutOk.expire {g : Gr} {T : Option Int} (h : CutOk g T) (now : Int) : CutOk (sendG { g with c := (expireCo g.c now).1 } (expireCo g.c now).2) T := by
 unfold expireCo
 split
 ·exact h.nosend
 ·exact h.giveUp

theorem CutOk.time {g : Gr} {T : Option Int} (h : CutOk g T) {now : Int} : CutOk { g with now := now } T := ⟨h.rn, h.z, h.num, h.frz, h.thw, h.tho, h.fz, h.iss, h.no, h.p1, h.p2, h.so, h.va⟩

theorem CutOk.tick {g : Gr} {T : Option Int} {t : Nat} (h : CutOk g T) (hg : GrOk g t) (hτ : ∀ τ, T = some τ → τ < g.clock) (ht2 : t ≤ 1000) (n w : Int) (hw : U8 w) (hn : g.now + 5 ≤ 5 * t + 200) (hk : g.flight.length + 3 ≤ 12 * t + 24) : CutOk (tickG g n w) T := by
 have t0 : 0 ≤ Int.tmod w 5 := Int.tmod_nonneg _ hw.1
 have t1 : Int.tmod w 5 < 5 := Int.tmod_lt_of_pos _ (by decide)
 have h0 := hg.now
 have e : IntKind.i64.wrap (g.now + (1 + Int.tmod w 5)) = g.now + (1 + Int.tmod w 5) := wrap64 (by omega) (by omega)
 obtain ⟨c1, c2, c3⟩ := expire_ok hg.c (g.now + (1 + Int.tmod w 5))
 have h1 : GrOk (sendG { g with now := g.now + (1 + Int.tmod w 5), c := (expireCo g.c (g.now + (1 + Int.tmod w 5))).1 } (expireCo g.c (g.now + (1 + Int.tmod w 5))).2) t :=
  GrOk.send (k := 0) ⟨c1, hg.node, hg.fl, hg.flen, ⟨by simp only; omega, by simp only; omega⟩, hg.clock, hg.right, hg.wlen, fun i => by have := hg.upto i; simp only; omega⟩ c3 (by simp only; omega)
 have h2 : CutOk (sendG { g with now := g.now + (1 + Int.tmod w 5), c := (expireCo g.c (g.now + (1 + Int.tmod w 5))).1 } (expireCo g.c (g.now + (1 + Int.tmod w 5))).2) T := (h.time (now := g.now + (1 + Int.tmod w 5))).expire (g.now + (1 + Int.tmod w 5))
 unfold tickG
 simp only [e]
 split
 ·exact ((h2.rel h1 hτ 0).rel (h1.rel 0) hτ 1).rel ((h1.rel 0).rel 1) hτ 2
 ·exact h2

theorem CutOk.issue {g : Gr} {T : Option Int} {t : Nat} (h : CutOk g T) (hg : GrOk g t) (ht2 : t ≤ 1000) (i : Fin 3) : CutOk (issueG g i) T := by
 have hn := hg.node i
 have hl := hg.wlen i
 have hlen := hn.len
 have e := issue_ok (m := g.node i) hn.ok.check (by omega)
 have hp := hn.ok.p
 have hnew : ∀ x : Nat, (hx : x < (g.wr i ++ [(⟨g.clock, 0, 0, 0⟩ : Wr)]).length) → (∃ hl : x < (g.wr i).length, (g.wr i ++ [(⟨g.clock, 0, 0, 0⟩ : Wr)])[x] = (g.wr i)[x]) ∨ (x = (g.wr i).length ∧ (g.wr i ++ [(⟨g.clock, 0, 0, 0⟩ : Wr)])[x] = ⟨g.clock, 0, 0, 0⟩) := fun x hx => by
  by_cases hxl : x < (g.wr i).length
  ·exact .inl ⟨hxl, List.getElem_append_left hxl⟩
  ·rw [List.length_append, List.length_singleton] at hx
   refine .inr ⟨by omega, ?_⟩
   rw [List.getElem_append_right (by omega)]
   simp
 refine h.node i (m' := (issueMb (g.node i)).1) (w' := g.wr i ++ [⟨g.clock, 0, 0, 0⟩]) (rt := g.right && decide ((issueMb (g.node i)).2 = (g.wr i).length)) ?_
 rw [e]
 refine ⟨fun hr => ⟨hr, rfl, fun h => h⟩, h.rn i, h.z i, fun h1 h2 x hx hpx => ?_, fun hT => h.no hT i, fun x hx => ?_, fun τ hτ x hx hpx => ?_, fun τ hτ hth x hx hpx => ?_⟩
 ·rcases hnew x hx with ⟨hl, e⟩ | ⟨_, e⟩
  ·rw [e]; exact h.fz i h1 h2 x hl hpx
  ·rw [e]
 ·rcases hnew x hx with ⟨hl, e⟩ | ⟨_, e⟩
  ·rw [e]; exact h.iss i x hl
  ·rw [e]; exact Int.le_refl _
 ·rcases hnew x hx with ⟨hl, e⟩ | ⟨e0, e⟩
  ·rw [e]; exact ((h.so τ hτ).2 i).2.2.1 x hl hpx
  ·simp only at hpx; omega
 ·rcases hnew x hx with ⟨hl, e⟩ | ⟨_, e⟩
  ·rw [e]; exact ((h.so τ hτ).2 i).2.2.2 hth x hl hpx
  ·rw [e]; exact .inl rfl

theorem dur_writes {m : Mb} {w : List Wr} (h : NodeOk m w) {x : Nat} (hx : (x : Int) ∈ m.waiting) (clk : Int) (hc : 0 < clk) (hxl : x < w.length) {w' : List Wr} (hw' : w' = (ackW clk (durMb m x).1.frozen (durMb m x).2.1 (w.set x { w[x] with durable := clk })).1) :
  ∃ hl : w'.length = w.length, ∀ k : Nat, (hk : k < w.length) → (w'[k]'(by rw [hl]; exact hk)).issued = w[k].issued ∧ ((w'[k]'(by rw [hl]; exact hk)).acked = w[k].acked ∨ (m.frozen = false ∧ (w'[k]'(by rw [hl]; exact hk)).acked = clk)) := by
 subst hw'
 have hk := h.ok.check
 have hcon : m.waiting.contains (x : Int) = true := List.contains_iff_mem.2 hx
 have hset : ∀ k : Nat, (hk : k < w.length) → ((w.set x { w[x] with durable := clk })[k]'(by rw [List.length_set]; exact hk)).issued = w[k].issued ∧ ((w.set x { w[x] with durable := clk })[k]'(by rw [List.length_set]; exact hk)).acked = w[k].acked := fun k hk => by
  rw [List.getElem_set]
  split
  ·rename_i e; subst e; exact ⟨rfl, rfl⟩
  ·exact ⟨rfl, rfl⟩
 cases hf : m.frozen with
 | true =>
  simp only [dur_held hk hcon hf, ackW]
  exact ⟨List.length_set .., fun k hk => ⟨(hset k hk).1, .inl (hset k hk).2⟩⟩
 | false =>
  have hw := h.wait x hxl hx
  have hspec := ackW_spec clk [(x : Int)] (w.set x { w[x] with durable := clk }) (by simp) (fun y hy => by
   rw [List.mem_singleton.1 hy]
   refine ⟨by omega, by rw [List.length_set]; simpa using hxl, ?_⟩
   simp only [Int.toNat_natCast, List.getElem_set_self]
   exact ⟨hc, hw.2.2⟩)
  obtain ⟨a1, a2, a3⟩ := hspec
  simp only [dur_free hk hcon hf, hf]
  rw [List.length_set] at a2
  refine ⟨a2, fun k hk => ?_⟩
  rw [a3 k (by rw [List.length_set]; exact hk)]
  split
  ·exact ⟨(hset k hk).1, .inr ⟨trivial, rfl⟩⟩
  ·exact ⟨(hset k hk).1, .inl (hset k hk).2⟩

theorem dur_same {m : Mb} {x : Int} (hk : checkMb m = 0) (hcon : m.waiting.contains x = true) : (durMb m x).1.round = m.round ∧ (durMb m x).1.position = m.position ∧ (durMb m x).1.thawed = m.thawed ∧ (durMb m x).1.frozen = m.frozen := by
 cases hf : m.frozen with
 | true => rw [dur_held hk hcon hf]; exact ⟨rfl, rfl, rfl, hf⟩
 | false => rw [dur_free hk hcon hf]; exact ⟨rfl, rfl, rfl, hf⟩

theorem CutOk.dur {g : Gr} {T : Option Int} {t : Nat} (h : CutOk g T) (hg : GrOk g t) (ht : 0 < t) (hτ : ∀ τ, T = some τ → τ < g.clock) (i : Fin 3) (w : Int) (hw : 0 ≤ w) : CutOk (durG g i w) T := by
 by_cases h0 : (g.node i).waiting.length = 0
 ·rw [durG_nil h0]; exact h
 ·have t0 : 0 ≤ Int.tmod w (g.node i).waiting.length := Int.tmod_nonneg _ hw
  have hpos : (0 : Int) < ((g.node i).waiting.length : Int) := by have := Nat.pos_of_ne_zero h0; omega
  have t1 : Int.tmod w (g.node i).waiting.length < (g.node i).waiting.length := Int.tmod_lt_of_pos _ hpos
  obtain ⟨k, hk⟩ : ∃ k, (Int.tmod w (g.node i).waiting.length).toNat = k := ⟨_, rfl⟩
  have hkl : k < (g.node i).waiting.length := by omega
  have hgd : (g.node i).waiting.getD k 0 = (g.node i).waiting[k] := by simp [hkl]
  have hmem := List.getElem_mem hkl
  obtain ⟨x, hx⟩ : ∃ x, (g.node i).waiting[k] = x := ⟨_, rfl⟩
  rw [hx] at hgd hmem
  have hn := hg.node i
  have hin := hn.ok.wi x hmem
  have hlen := hn.len
  obtain ⟨y, rfl⟩ := Int.eq_ofNat_of_zero_le hin.1
  have hyl : y < (g.wr i).length := by omega
  have hneg : ¬((y : Int) < 0 ∨ (y : Int) ≥ ((g.wr i).length : Int)) := by omega
  have hgd : (g.node i).waiting.getD k 0 = (y : Int) := hgd
  rw [durG_go h0 hk hgd, if_neg hneg]
  have hgw : (g.wr i).getD (Int.toNat (y : Int)) noWr = (g.wr i)[y] := by simp [hyl]
  simp only [Int.toNat_natCast] at hgw ⊢
  simp only [hgw, ackG, upd_self, upd_upd]
  obtain ⟨d1, d2, d3, d4⟩ := dur_same (x := (y : Int)) hn.ok.check (List.contains_iff_mem.2 hmem)
  obtain ⟨hl, hwr⟩ := dur_writes hn hmem g.clock (by rw [hg.clock]; omega) hyl rfl
  refine h.node i ?_
  refine ⟨fun hr => ⟨d1.trans hr, d2, fun ht => d3.trans ht⟩, by rw [d1]; exact h.rn i, fun hf => by rw [d1, d3]; exact h.z i (d4.symm.trans hf), fun h1 h2 x hx hpx => ?_, fun hT hr => by rw [d3]; exact h.no hT i (d1.symm.trans hr), fun x hx => ?_, fun τ hτ x hx hpx => ?_, fun τ hT hth x hx hpx => ?_⟩
  ·have hx' : x < (g.wr i).length := by rw [← hl]; exact hx
   rw [d4] at h2
   rcases (hwr x hx').2 with e | ⟨e, _⟩
   ·rw [e]; exact h.fz i (d1.symm.trans h1) h2 x hx' (by rw [← d2]; exact hpx)
   ·exact absurd (h2.symm.trans e) (by decide)
  ·have hx' : x < (g.wr i).length := by rw [← hl]; exact hx
   rw [(hwr x hx').1]; exact h.iss i x hx'
  ·have hx' : x < (g.wr i).length := by rw [← hl]; exact hx
   rw [(hwr x hx').1]; exact ((h.so τ hτ).2 i).2.2.1 x hx' (by rw [← d2]; exact hpx)
  ·have hx' : x < (g.wr i).length := by rw [← hl]; exact hx
   rcases (hwr x hx').2 with e | ⟨_, e⟩
   ·rw [e]; exact ((h.so τ hT).2 i).2.2.2 (d3.symm.trans hth) x hx' (by rw [← d2]; exact hpx)
   ·rw [e]; exact .inr (hτ τ hT)

theorem CutOk.round {g : Gr} {T : Option Int} {t : Nat} (h : CutOk g T) (hg : GrOk g t) (h1 : 0 ≤ g.now) (h2 : g.now ≤ 1000000) (ht : t ≤ 1000000) : ∃ T', CutOk (roundG g) T' := by
 have hc : checkCo ⟨g.c.nodes, g.c.round, g.c.phase, g.c.deadline, g.c.positions, g.c.seen, g.c.valid⟩ = 0 := hg.c.ok
 have hz := checkCo_zero.1 hc
 have hr := hg.c.r
 have e := startCo_eq (now := g.now) (patience := 20) hc
 have e : startCo g.c g.now 20 = _ := e
 unfold roundG
 rw [if_neg (by omega)] at e
 by_cases hp : g.c.phase = 0
 ·rw [if_neg (by simp only [hp, ne_eq, not_true_eq_false, not_false_eq_true]), if_neg (by omega)] at e
  simp only [e]
  rw [if_neg (show ¬((0 : Int) ≠ 0) by decide)]
  refine ⟨none, ?_⟩
  refine ⟨fun i => ?_, h.z, fun m hm => ?_, fun m hm hk hn => ?_, fun m hm hk hn => ?_, fun m hm hk hn => ?_, fun i hi => ?_, h.iss, fun _ i hi => ?_, fun _ => ?_, fun hp => ?_, fun τ hτ => (by cases hτ), fun hv => (by cases hv)⟩
  ·have := h.rn i; simp only [sendG]; omega
  ·simp only [sendG]
   rcases List.mem_append.1 hm with hm | hm
   ·have := h.num m hm; omega
   ·have := (msgsTo_mem hm).2; omega
  ·simp only [sendG] at hn
   rcases List.mem_append.1 hm with hm | hm
   ·have := h.num m hm; omega
   ·have := (msgsTo_mem hm).1; omega
  ·simp only [sendG] at hn
   rcases List.mem_append.1 hm with hm | hm
   ·have := h.num m hm; omega
   ·have := (msgsTo_mem hm).1; omega
  ·simp only [sendG] at hn
   rcases List.mem_append.1 hm with hm | hm
   ·have := h.num m hm; omega
   ·have := (msgsTo_mem hm).1; omega
  ·simp only [sendG] at hi; have := h.rn i; omega
  ·simp only [sendG] at hi; have := h.rn i; omega
  ·refine ⟨rfl, by simp only [sendG]; omega, fun i hi => ?_⟩
   exfalso
   simp only [sendG, List.getD_eq_getElem?_getD, List.getElem?_replicate] at hi
   split at hi <;> simp at hi
  ·simp only [sendG] at hp; omega
 ·rw [if_pos hp] at e
  simp only [e]
  exact ⟨T, h.right⟩

theorem CutOk.step {g : Gr} {T : Option Int} {t : Nat} (h : CutOk g T) (hg : GrOk g t) (ht : t ≤ 900) {k n w : Int} (i : Fin 3) (hw : U8 w) (hnow : g.now ≤ 5 * t + 200) : ∃ T', CutOk (Sx.stepG g k i n w) T' := by
 have h0 := hg.now
 have hfl := hg.flen
 have hcl := hg.clock
 have e : IntKind.i64.wrap (g.clock + 1) = ((t + 1 : Nat) : Int) := by rw [hcl, wrap64 (by omega) (by omega)]; omega
 have h1 : GrOk { g with clock := IntKind.i64.wrap (g.clock + 1) } (t + 1) :=
  ⟨⟨hg.c.ok, hg.c.n, by have := hg.c.r; simp only; omega⟩, hg.node, hg.fl, by simp only; omega, ⟨h0.1, by simp only; omega⟩, e, hg.right, fun i => by have := hg.wlen i; simp only; omega, hg.upto⟩
 have h2 : CutOk { g with clock := IntKind.i64.wrap (g.clock + 1) } T :=
  ⟨h.rn, h.z, h.num, h.frz, h.thw, h.tho, h.fz, fun i x hx => by have := h.iss i x hx; simp only [e]; omega, h.no, h.p1, h.p2, fun τ hτ => ⟨by have := (h.so τ hτ).1; simp only [e]; omega, (h.so τ hτ).2⟩, h.va⟩
 have hτ : ∀ τ, T = some τ → τ < IntKind.i64.wrap (g.clock + 1) := fun τ hτ => by have := (h.so τ hτ).1; rw [e]; omega
 unfold Sx.stepG
 simp only
 split
 ·exact ⟨T, h2.issue h1 (by omega) i⟩
 ·split
  ·exact ⟨T, h2.dur h1 (by omega) hτ i w hw.1⟩
  ·split
   ·exact h2.round h1 h0.1 (by simp only; omega) (by omega)
   ·split
    ·exact ⟨T, h2.tick h1 hτ (by omega) n w hw (by simp only; omega) (by simp only; omega)⟩
    ·exact h2.flight h1 hτ k w hw.1

theorem beg_cut : CutOk begG none := by
 refine ⟨fun _ => Int.le_refl _, fun i h => (by cases h), fun m hm => (by cases hm), fun m hm => (by cases hm), fun m hm => (by cases hm), fun m hm => (by cases hm), fun i _ h => (by cases h), fun i x hx => absurd hx (Nat.not_lt_zero _), fun _ i _ => .inr rfl, fun h => absurd h (by decide), fun h => absurd h (by decide), fun τ h => (by cases h), fun h => (by cases h)⟩
structure ConsOk (g : Gr) (p : List Int) : Prop where
 plen : p.length = 3
 cut : ∀ a b : Fin 3, ∀ i k : Nat, (hi : i < (g.wr a).length) → (hk : k < (g.wr b).length) → (k : Int) < p.getD b.val 0 → p.getD a.val 0 ≤ i → ¬(0 < (g.wr a)[i].acked ∧ (g.wr a)[i].acked < (g.wr b)[k].issued)
 le : ∀ a : Fin 3, p.getD a.val 0 ≤ (g.wr a).length

theorem CutOk.cons {g : Gr} {T : Option Int} {t : Nat} (h : CutOk g T) (hg : GrOk g t) (hv : g.c.valid = true) : ConsOk g g.c.positions := by
 obtain ⟨v1, v2⟩ := h.va hv
 cases hT : T with
 | none => exact absurd hT v1
 | some τ =>
  obtain ⟨s1, s2⟩ := h.so τ hT
  have hz := checkCo_zero.1 (show checkCo ⟨g.c.nodes, g.c.round, g.c.phase, g.c.deadline, g.c.positions, g.c.seen, g.c.valid⟩ = 0 from hg.c.ok)
  refine ⟨by have := hg.c.n; have := hz.2.2.2.2.1; omega, fun a b i k hi hk hkb hai => ?_, fun a => ?_⟩
  ·obtain ⟨_, a2, _, a4⟩ := s2 a
   obtain ⟨_, b2, b3, _⟩ := s2 b
   have x1 := a4 (v2 a) i hi (by rw [← a2]; exact hai)
   have x2 := b3 k hk (by rw [← b2]; exact hkb)
   omega
  ·obtain ⟨_, a2, _⟩ := s2 a
   have := (hg.node a).ok.p; have := (hg.node a).len
   omega
end Sx
end
section
open Go Go.Proofs Sx
namespace Sx
noncomputable def spCons (x : GrX × D) : SpecR := .scalar [GrRight x.1.1 ∧ x.2.Is Int ∧ ConsOk (grOf x.1.1) (x.2.to Int)] (.lb true)
end Sx
namespace Go.Proofs.Ytoechplbhbalaaa
noncomputable def ctC : Ctrs := (46, ctrOf (((rdCells grK).two rdD).sp spCons)) :: ctP
end Go.Proofs.Ytoechplbhbalaaa
end
section
open Go Go.Proofs Sx
namespace Go.Proofs.Ytoechplbhbalaaa
set_option maxRecDepth 100000
set_option maxHeartbeats 0
noncomputable def conA (cs : List SV) (l : D) (a : Int) : Conf := Conf.mk (SFrm.mk 46 none none [Item.inLoop (cAt Try.prog 46 [1, 1, 0, 1, 0, 0]), Item.inBlock 0, Item.code (cAt Try.prog 46 [1, 1, 1])] (mkJ 0 [(1, .dat l), (2, .ptr 0 0), (5, .int .i64 a)] 0 106)) [] [(0, .cells 97 cs)]
noncomputable def conB (cs : List SV) (l : D) (a b : Int) : Conf := Conf.mk (SFrm.mk 46 none none [Item.inLoop (cAt Try.prog 46 [1, 1, 0, 1, 0, 0, 1, 0, 0, 1, 0, 0]), Item.inBlock 2, Item.inBlock 1, Item.code (cAt Try.prog 46 [1, 1, 0, 1, 0, 0, 1, 1]), Item.inLoop (cAt Try.prog 46 [1, 1, 0, 1, 0, 0]), Item.inBlock 0, Item.code (cAt Try.prog 46 [1, 1, 1])] (mkJ 0 [(1, .dat l), (2, .ptr 0 0), (5, .int .i64 a), (6, .int .i64 b)] 0 106)) [] [(0, .cells 97 cs)]
section
variable (cn cr cp cdl : Int) (cps css : D) (cv : Bool) (p1 p2 p3 p4 : Int) (pf : Bool) (p6 : Int) (pw ph : D) (q1 q2 q3 q4 : Int) (qf : Bool) (q6 : Int) (qw qh : D) (r1 r2 r3 r4 : Int) (rf : Bool) (r6 : Int) (rw rh : D) (fl wa wb wc : D) (now clk : Int) (rt : Bool) (st : Int) (l : D) (a b : Int)
theorem con_in : exec Try.prog ctP 900 (entry Try.prog 46 [.agg (cl9 cn cr cp cdl cps css cv p1 p2 p3 p4 pf p6 pw ph q1 q2 q3 q4 qf q6 qw qh r1 r2 r3 r4 rf r6 rw rh fl wa wb wc now clk rt st), .dat l]) =
 Tree.br ((↑(D.len l) : Int) != 3) (.ret (.lb false))
 (.leaf
 (Conf.mk
 (SFrm.mk 46 none none
 [Item.inLoop (cAt Try.prog 46 [1, 1, 0, 1, 0, 0]), Item.inBlock 0, Item.code (cAt Try.prog 46 [1, 1, 1])]
 (mkJ 0 [(1, .dat l), (2, .ptr 0 0), (5, .int .i64 0)] 0 106))
 []
 [(0,
 OBlk.cells 97
 [.int .i64 cn, .int .i64 cr, .int .i64 cp, .int .i64 cdl, .dat cps,
 .dat css, .bool cv, .int .i64 p1, .int .i64 p2, .int .i64 p3,
 .int .i64 p4, .bool pf, .int .i64 p6, .dat pw, .dat ph, .int .i64 q1,
 .int .i64 q2, .int .i64 q3, .int .i64 q4, .bool qf, .int .i64 q6,
 .dat qw, .dat qh, .int .i64 r1, .int .i64 r2, .int .i64 r3,
 .int .i64 r4, .bool rf, .int .i64 r6, .dat rw, .dat rh, .dat fl, .dat wa,
 .dat wb, .dat wc, .int .i64 now, .int .i64 clk, .bool rt,
 .int .i64 st])])) := by kernel_rfl

theorem conA_go : exec Try.prog ctP 900 (unroll (conA (cl9 cn cr cp cdl cps css cv p1 p2 p3 p4 pf p6 pw ph q1 q2 q3 q4 qf q6 qw qh r1 r2 r3 r4 rf r6 rw rh fl wa wb wc now clk rt st) l a)) =
 Tree.br (decide (a < 3))
 (.leaf
 (Conf.mk
 (SFrm.mk 46 none none
 [Item.inLoop (cAt Try.prog 46 [1, 1, 0, 1, 0, 0, 1, 0, 0, 1, 0, 0]), Item.inBlock 2, Item.inBlock 1,
 Item.code (cAt Try.prog 46 [1, 1, 0, 1, 0, 0, 1, 1]), Item.inLoop (cAt Try.prog 46 [1, 1, 0, 1, 0, 0]),
 Item.inBlock 0, Item.code (cAt Try.prog 46 [1, 1, 1])]
 (mkJ 0 [(1, .dat l), (2, .ptr 0 0), (5, .int .i64 a), (6, .int .i64 0)] 0 106))
 []
 [(0,
 OBlk.cells 97
 [.int .i64 cn, .int .i64 cr, .int .i64 cp, .int .i64 cdl, .dat cps,
 .dat css, .bool cv, .int .i64 p1, .int .i64 p2, .int .i64 p3,
 .int .i64 p4, .bool pf, .int .i64 p6, .dat pw, .dat ph, .int .i64 q1,
 .int .i64 q2, .int .i64 q3, .int .i64 q4, .bool qf, .int .i64 q6,
 .dat qw, .dat qh, .int .i64 r1, .int .i64 r2, .int .i64 r3,
 .int .i64 r4, .bool rf, .int .i64 r6, .dat rw, .dat rh, .dat fl, .dat wa,
 .dat wb, .dat wc, .int .i64 now, .int .i64 clk, .bool rt,
 .int .i64 st])]))
 (.all fun hs =>
 .br (decide (D.getInt l 0 0 ≤ (↑(D.len wa) : Int)))
 (.br (decide (D.getInt l 1 0 ≤ (↑(D.len wb) : Int)))
 (.need ((0 : Int) ≤ 0 ∧ 0 < (↑(D.len l) : Int) ∧ D.sz l = 1)
 (.need (D.HasCell l 0 0 (FT.int .i64))
 (.need ((0 : Int) ≤ 0 ∧ 0 < (↑3 : Int))
 (.need (decide (D.getInt l 0 0 ≤ (↑(D.len wa) : Int)) = true)
 (.need (decide (D.getInt l 0 0 ≤ (↑(D.len wa) : Int)) = true)
 (.need ((0 : Int) ≤ 1 ∧ 1 < (↑(D.len l) : Int) ∧ D.sz l = 1)
 (.need (decide (D.getInt l 0 0 ≤ (↑(D.len wa) : Int)) = true)
 (.need (D.HasCell l 1 0 (FT.int .i64))
 (.need (decide (D.getInt l 0 0 ≤ (↑(D.len wa) : Int)) = true)
 (.need (decide (D.getInt l 0 0 ≤ (↑(D.len wa) : Int)) = true)
 (.need ((0 : Int) ≤ 1 ∧ 1 < (↑3 : Int))
 (.need (decide (D.getInt l 0 0 ≤ (↑(D.len wa) : Int)) = true)
 (.need (decide (D.getInt l 0 0 ≤ (↑(D.len wa) : Int)) = true)
 (.need (decide (D.getInt l 0 0 ≤ (↑(D.len wa) : Int)) = true)
 (.need (decide (D.getInt l 0 0 ≤ (↑(D.len wa) : Int)) = true)
 (.need (decide (D.getInt l 1 0 ≤ (↑(D.len wb) : Int)) = true)
 (.need (decide (D.getInt l 1 0 ≤ (↑(D.len wb) : Int)) = true)
 (.need ((0 : Int) ≤ 2 ∧ 2 < (↑(D.len l) : Int) ∧ D.sz l = 1)
 (.need (decide (D.getInt l 1 0 ≤ (↑(D.len wb) : Int)) = true)
 (.need (D.HasCell l 2 0 (FT.int .i64))
 (.need (decide (D.getInt l 1 0 ≤ (↑(D.len wb) : Int)) = true)
 (.need (decide (D.getInt l 1 0 ≤ (↑(D.len wb) : Int)) = true)
 (.need ((0 : Int) ≤ 2 ∧ 2 < (↑3 : Int))
 (.need (decide (D.getInt l 1 0 ≤ (↑(D.len wb) : Int)) = true)
 (.need
 (decide (D.getInt l 1 0 ≤ (↑(D.len wb) : Int)) = true)
 (.need
 (decide (D.getInt l 1 0 ≤ (↑(D.len wb) : Int)) = true)
 (.need
 (decide (D.getInt l 1 0 ≤ (↑(D.len wb) : Int)) = true)
 (.ret
 (.bool
 (decide
 (D.getInt l 2 0 ≤
 (↑(D.len wc) : Int))))))))))))))))))))))))))))))))
 (.need ((0 : Int) ≤ 0 ∧ 0 < (↑(D.len l) : Int) ∧ D.sz l = 1)
 (.need (D.HasCell l 0 0 (FT.int .i64))
 (.need ((0 : Int) ≤ 0 ∧ 0 < (↑3 : Int))
 (.need (decide (D.getInt l 0 0 ≤ (↑(D.len wa) : Int)) = true)
 (.need (decide (D.getInt l 0 0 ≤ (↑(D.len wa) : Int)) = true)
 (.need ((0 : Int) ≤ 1 ∧ 1 < (↑(D.len l) : Int) ∧ D.sz l = 1)
 (.need (decide (D.getInt l 0 0 ≤ (↑(D.len wa) : Int)) = true)
 (.need (D.HasCell l 1 0 (FT.int .i64))
 (.need (decide (D.getInt l 0 0 ≤ (↑(D.len wa) : Int)) = true)
 (.need (decide (D.getInt l 0 0 ≤ (↑(D.len wa) : Int)) = true)
 (.need ((0 : Int) ≤ 1 ∧ 1 < (↑3 : Int))
 (.need (decide (D.getInt l 0 0 ≤ (↑(D.len wa) : Int)) = true)
 (.need (decide (D.getInt l 0 0 ≤ (↑(D.len wa) : Int)) = true)
 (.need (decide (D.getInt l 0 0 ≤ (↑(D.len wa) : Int)) = true)
 (.need (decide (D.getInt l 0 0 ≤ (↑(D.len wa) : Int)) = true)
 (.need (decide (D.getInt l 1 0 ≤ (↑(D.len wb) : Int)) = false)
 (.need (decide (D.getInt l 1 0 ≤ (↑(D.len wb) : Int)) = false)
 (.need (decide (D.getInt l 1 0 ≤ (↑(D.len wb) : Int)) = false)
 (.need (decide (D.getInt l 1 0 ≤ (↑(D.len wb) : Int)) = false)
 (.need (decide (D.getInt l 1 0 ≤ (↑(D.len wb) : Int)) = false)
 (.need (decide (D.getInt l 1 0 ≤ (↑(D.len wb) : Int)) = false)
 (.need (decide (D.getInt l 1 0 ≤ (↑(D.len wb) : Int)) = false)
 (.need (decide (D.getInt l 1 0 ≤ (↑(D.len wb) : Int)) = false)
 (.need (decide (D.getInt l 1 0 ≤ (↑(D.len wb) : Int)) = false)
 (.ret (.lb false)))))))))))))))))))))))))))
 (.need ((0 : Int) ≤ 0 ∧ 0 < (↑(D.len l) : Int) ∧ D.sz l = 1)
 (.need (D.HasCell l 0 0 (FT.int .i64))
 (.need ((0 : Int) ≤ 0 ∧ 0 < (↑3 : Int))
 (.need (decide (D.getInt l 0 0 ≤ (↑(D.len wa) : Int)) = false)
 (.need (decide (D.getInt l 0 0 ≤ (↑(D.len wa) : Int)) = false)
 (.need (decide (D.getInt l 0 0 ≤ (↑(D.len wa) : Int)) = false)
 (.need (decide (D.getInt l 0 0 ≤ (↑(D.len wa) : Int)) = false)
 (.need (decide (D.getInt l 0 0 ≤ (↑(D.len wa) : Int)) = false)
 (.need (decide (D.getInt l 0 0 ≤ (↑(D.len wa) : Int)) = false)
 (.need (decide (D.getInt l 0 0 ≤ (↑(D.len wa) : Int)) = false)
 (.need (decide (D.getInt l 0 0 ≤ (↑(D.len wa) : Int)) = false)
 (.need (decide (D.getInt l 0 0 ≤ (↑(D.len wa) : Int)) = false)
 (.ret (.lb false))))))))))))))) := by kernel_rfl

theorem conB_go : exec Try.prog ctP 900 (unroll (conB (cl9 cn cr cp cdl cps css cv p1 p2 p3 p4 pf p6 pw ph q1 q2 q3 q4 qf q6 qw qh r1 r2 r3 r4 rf r6 rw rh fl wa wb wc now clk rt st) l a b)) =
 Tree.br (decide (b < 3))
 (.leaf
 (Conf.mk
 (SFrm.mk 46 none none
 [Item.inLoop (cAt Try.prog 46 [1, 1, 0, 1, 0, 0, 1, 0, 0, 1, 0, 0, 1, 0, 0, 1, 0, 0]), Item.inBlock 4,
 Item.inBlock 3, Item.code (cAt Try.prog 46 [1, 1, 0, 1, 0, 0, 1, 0, 0, 1, 0, 0, 1, 1]),
 Item.inLoop (cAt Try.prog 46 [1, 1, 0, 1, 0, 0, 1, 0, 0, 1, 0, 0]), Item.inBlock 2, Item.inBlock 1,
 Item.code (cAt Try.prog 46 [1, 1, 0, 1, 0, 0, 1, 1]), Item.inLoop (cAt Try.prog 46 [1, 1, 0, 1, 0, 0]),
 Item.inBlock 0, Item.code (cAt Try.prog 46 [1, 1, 1])]
 (mkJ 0
 [(1, .dat l), (2, .ptr 0 0), (5, .int .i64 a), (6, .int .i64 b),
 (7, .int .i64 0)]
 0 106))
 []
 [(0,
 OBlk.cells 97
 [.int .i64 cn, .int .i64 cr, .int .i64 cp, .int .i64 cdl, .dat cps,
 .dat css, .bool cv, .int .i64 p1, .int .i64 p2, .int .i64 p3,
 .int .i64 p4, .bool pf, .int .i64 p6, .dat pw, .dat ph, .int .i64 q1,
 .int .i64 q2, .int .i64 q3, .int .i64 q4, .bool qf, .int .i64 q6,
 .dat qw, .dat qh, .int .i64 r1, .int .i64 r2, .int .i64 r3,
 .int .i64 r4, .bool rf, .int .i64 r6, .dat rw, .dat rh, .dat fl, .dat wa,
 .dat wb, .dat wc, .int .i64 now, .int .i64 clk, .bool rt,
 .int .i64 st])]))
 (.leaf
 (Conf.mk
 (SFrm.mk 46 none none
 [Item.inLoop (cAt Try.prog 46 [1, 1, 0, 1, 0, 0]), Item.inBlock 0, Item.code (cAt Try.prog 46 [1, 1, 1])]
 (mkJ 0 [(1, .dat l), (2, .ptr 0 0), (5, .int .i64 (IntKind.wrap .i64 (a + 1)))] 0 106))
 []
 [(0,
 OBlk.cells 97
 [.int .i64 cn, .int .i64 cr, .int .i64 cp, .int .i64 cdl, .dat cps,
 .dat css, .bool cv, .int .i64 p1, .int .i64 p2, .int .i64 p3,
 .int .i64 p4, .bool pf, .int .i64 p6, .dat pw, .dat ph, .int .i64 q1,
 .int .i64 q2, .int .i64 q3, .int .i64 q4, .bool qf, .int .i64 q6,
 .dat qw, .dat qh, .int .i64 r1, .int .i64 r2, .int .i64 r3,
 .int .i64 r4, .bool rf, .int .i64 r6, .dat rw, .dat rh, .dat fl, .dat wa,
 .dat wb, .dat wc, .int .i64 now, .int .i64 clk, .bool rt,
 .int .i64 st])])) := by kernel_rfl

end
end Go.Proofs.Ytoechplbhbalaaa
end
section
open Go Go.Proofs Sx
namespace Go.Proofs.Ytoechplbhbalaaa
set_option maxRecDepth 100000
set_option maxHeartbeats 0
noncomputable def conI (cs : List SV) (l : D) (a b i : Int) : Conf := Conf.mk (SFrm.mk 46 none none [Item.inLoop (cAt Try.prog 46 [1, 1, 0, 1, 0, 0, 1, 0, 0, 1, 0, 0, 1, 0, 0, 1, 0, 0]), Item.inBlock 4, Item.inBlock 3, Item.code (cAt Try.prog 46 [1, 1, 0, 1, 0, 0, 1, 0, 0, 1, 0, 0, 1, 1]), Item.inLoop (cAt Try.prog 46 [1, 1, 0, 1, 0, 0, 1, 0, 0, 1, 0, 0]), Item.inBlock 2, Item.inBlock 1, Item.code (cAt Try.prog 46 [1, 1, 0, 1, 0, 0, 1, 1]), Item.inLoop (cAt Try.prog 46 [1, 1, 0, 1, 0, 0]), Item.inBlock 0, Item.code (cAt Try.prog 46 [1, 1, 1])] (mkJ 0 [(1, .dat l), (2, .ptr 0 0), (5, .int .i64 a), (6, .int .i64 b), (7, .int .i64 i)] 0 106)) [] [(0, .cells 97 cs)]
section
variable (cn cr cp cdl : Int) (cps css : D) (cv : Bool) (p1 p2 p3 p4 : Int) (pf : Bool) (p6 : Int) (pw ph : D) (q1 q2 q3 q4 : Int) (qf : Bool) (q6 : Int) (qw qh : D) (r1 r2 r3 r4 : Int) (rf : Bool) (r6 : Int) (rw rh : D) (fl wa wb wc : D) (now clk : Int) (rt : Bool) (st : Int) (l : D) (b i : Int)
theorem conI0_go : exec Try.prog ctP 900 (unroll (conI (cl9 cn cr cp cdl cps css cv p1 p2 p3 p4 pf p6 pw ph q1 q2 q3 q4 qf q6 qw qh r1 r2 r3 r4 rf r6 rw rh fl wa wb wc now clk rt st) l 0 b i)) =
 Tree.need ((0 : Int) ≤ 0 ∧ 0 < (↑3 : Int))
 (.br (decide (i < (↑(D.len wa) : Int)))
 (.leaf
 (Conf.mk
 (SFrm.mk 46 none none
 [Item.inLoop (cAt Try.prog 46 [1, 1, 0, 1, 0, 0, 1, 0, 0, 1, 0, 0, 1, 0, 0, 1, 0, 0, 1, 0, 0, 1, 0, 0]),
 Item.inBlock 6, Item.inBlock 5,
 Item.code (cAt Try.prog 46 [1, 1, 0, 1, 0, 0, 1, 0, 0, 1, 0, 0, 1, 0, 0, 1, 0, 0, 1, 1]),
 Item.inLoop (cAt Try.prog 46 [1, 1, 0, 1, 0, 0, 1, 0, 0, 1, 0, 0, 1, 0, 0, 1, 0, 0]), Item.inBlock 4,
 Item.inBlock 3, Item.code (cAt Try.prog 46 [1, 1, 0, 1, 0, 0, 1, 0, 0, 1, 0, 0, 1, 1]),
 Item.inLoop (cAt Try.prog 46 [1, 1, 0, 1, 0, 0, 1, 0, 0, 1, 0, 0]), Item.inBlock 2, Item.inBlock 1,
 Item.code (cAt Try.prog 46 [1, 1, 0, 1, 0, 0, 1, 1]), Item.inLoop (cAt Try.prog 46 [1, 1, 0, 1, 0, 0]),
 Item.inBlock 0, Item.code (cAt Try.prog 46 [1, 1, 1])]
 (mkJ 0
 [(1, .dat l), (2, .ptr 0 0), (5, .int .i64 0), (6, .int .i64 b),
 (7, .int .i64 i), (8, .int .i64 0)]
 0 106))
 []
 [(0,
 OBlk.cells 97
 [.int .i64 cn, .int .i64 cr, .int .i64 cp, .int .i64 cdl, .dat cps,
 .dat css, .bool cv, .int .i64 p1, .int .i64 p2, .int .i64 p3,
 .int .i64 p4, .bool pf, .int .i64 p6, .dat pw, .dat ph, .int .i64 q1,
 .int .i64 q2, .int .i64 q3, .int .i64 q4, .bool qf, .int .i64 q6,
 .dat qw, .dat qh, .int .i64 r1, .int .i64 r2, .int .i64 r3,
 .int .i64 r4, .bool rf, .int .i64 r6, .dat rw, .dat rh, .dat fl, .dat wa,
 .dat wb, .dat wc, .int .i64 now, .int .i64 clk, .bool rt,
 .int .i64 st])]))
 (.leaf
 (Conf.mk
 (SFrm.mk 46 none none
 [Item.inLoop (cAt Try.prog 46 [1, 1, 0, 1, 0, 0, 1, 0, 0, 1, 0, 0]), Item.inBlock 2, Item.inBlock 1,
 Item.code (cAt Try.prog 46 [1, 1, 0, 1, 0, 0, 1, 1]), Item.inLoop (cAt Try.prog 46 [1, 1, 0, 1, 0, 0]),
 Item.inBlock 0, Item.code (cAt Try.prog 46 [1, 1, 1])]
 (mkJ 0
 [(1, .dat l), (2, .ptr 0 0), (5, .int .i64 0),
 (6, .int .i64 (IntKind.wrap .i64 (b + 1)))]
 0 106))
 []
 [(0,
 OBlk.cells 97
 [.int .i64 cn, .int .i64 cr, .int .i64 cp, .int .i64 cdl, .dat cps,
 .dat css, .bool cv, .int .i64 p1, .int .i64 p2, .int .i64 p3,
 .int .i64 p4, .bool pf, .int .i64 p6, .dat pw, .dat ph, .int .i64 q1,
 .int .i64 q2, .int .i64 q3, .int .i64 q4, .bool qf, .int .i64 q6,
 .dat qw, .dat qh, .int .i64 r1, .int .i64 r2, .int .i64 r3,
 .int .i64 r4, .bool rf, .int .i64 r6, .dat rw, .dat rh, .dat fl, .dat wa,
 .dat wb, .dat wc, .int .i64 now, .int .i64 clk, .bool rt,
 .int .i64 st])]))) := by kernel_rfl

theorem conI1_go : exec Try.prog ctP 900 (unroll (conI (cl9 cn cr cp cdl cps css cv p1 p2 p3 p4 pf p6 pw ph q1 q2 q3 q4 qf q6 qw qh r1 r2 r3 r4 rf r6 rw rh fl wa wb wc now clk rt st) l 1 b i)) =
 Tree.need ((0 : Int) ≤ 1 ∧ 1 < (↑3 : Int))
 (.br (decide (i < (↑(D.len wb) : Int)))
 (.leaf
 (Conf.mk
 (SFrm.mk 46 none none
 [Item.inLoop (cAt Try.prog 46 [1, 1, 0, 1, 0, 0, 1, 0, 0, 1, 0, 0, 1, 0, 0, 1, 0, 0, 1, 0, 0, 1, 0, 0]),
 Item.inBlock 6, Item.inBlock 5,
 Item.code (cAt Try.prog 46 [1, 1, 0, 1, 0, 0, 1, 0, 0, 1, 0, 0, 1, 0, 0, 1, 0, 0, 1, 1]),
 Item.inLoop (cAt Try.prog 46 [1, 1, 0, 1, 0, 0, 1, 0, 0, 1, 0, 0, 1, 0, 0, 1, 0, 0]), Item.inBlock 4,
 Item.inBlock 3, Item.code (cAt Try.prog 46 [1, 1, 0, 1, 0, 0, 1, 0, 0, 1, 0, 0, 1, 1]),
 Item.inLoop (cAt Try.prog 46 [1, 1, 0, 1, 0, 0, 1, 0, 0, 1, 0, 0]), Item.inBlock 2, Item.inBlock 1,
 Item.code (cAt Try.prog 46 [1, 1, 0, 1, 0, 0, 1, 1]), Item.inLoop (cAt Try.prog 46 [1, 1, 0, 1, 0, 0]),
 Item.inBlock 0, Item.code (cAt Try.prog 46 [1, 1, 1])]
 (mkJ 0
 [(1, .dat l), (2, .ptr 0 0), (5, .int .i64 1), (6, .int .i64 b),
 (7, .int .i64 i), (8, .int .i64 0)]
 0 106))
 []
 [(0,
 OBlk.cells 97
 [.int .i64 cn, .int .i64 cr, .int .i64 cp, .int .i64 cdl, .dat cps,
 .dat css, .bool cv, .int .i64 p1, .int .i64 p2, .int .i64 p3,
 .int .i64 p4, .bool pf, .int .i64 p6, .dat pw, .dat ph, .int .i64 q1,
 .int .i64 q2, .int .i64 q3, .int .i64 q4, .bool qf, .int .i64 q6,
 .dat qw, .dat qh, .int .i64 r1, .int .i64 r2, .int .i64 r3,
 .int .i64 r4, .bool rf, .int .i64 r6, .dat rw, .dat rh, .dat fl, .dat wa,
 .dat wb, .dat wc, .int .i64 now, .int .i64 clk, .bool rt,
 .int .i64 st])]))
 (.leaf
 (Conf.mk
 (SFrm.mk 46 none none
 [Item.inLoop (cAt Try.prog 46 [1, 1, 0, 1, 0, 0, 1, 0, 0, 1, 0, 0]), Item.inBlock 2, Item.inBlock 1,
 Item.code (cAt Try.prog 46 [1, 1, 0, 1, 0, 0, 1, 1]), Item.inLoop (cAt Try.prog 46 [1, 1, 0, 1, 0, 0]),
 Item.inBlock 0, Item.code (cAt Try.prog 46 [1, 1, 1])]
 (mkJ 0
 [(1, .dat l), (2, .ptr 0 0), (5, .int .i64 1),
 (6, .int .i64 (IntKind.wrap .i64 (b + 1)))]
 0 106))
 []
 [(0,
 OBlk.cells 97
 [.int .i64 cn, .int .i64 cr, .int .i64 cp, .int .i64 cdl, .dat cps,
 .dat css, .bool cv, .int .i64 p1, .int .i64 p2, .int .i64 p3,
 .int .i64 p4, .bool pf, .int .i64 p6, .dat pw, .dat ph, .int .i64 q1,
 .int .i64 q2, .int .i64 q3, .int .i64 q4, .bool qf, .int .i64 q6,
 .dat qw, .dat qh, .int .i64 r1, .int .i64 r2, .int .i64 r3,
 .int .i64 r4, .bool rf, .int .i64 r6, .dat rw, .dat rh, .dat fl, .dat wa,
 .dat wb, .dat wc, .int .i64 now, .int .i64 clk, .bool rt,
 .int .i64 st])]))) := by kernel_rfl

theorem conI2_go : exec Try.prog ctP 900 (unroll (conI (cl9 cn cr cp cdl cps css cv p1 p2 p3 p4 pf p6 pw ph q1 q2 q3 q4 qf q6 qw qh r1 r2 r3 r4 rf r6 rw rh fl wa wb wc now clk rt st) l 2 b i)) =
 Tree.need ((0 : Int) ≤ 2 ∧ 2 < (↑3 : Int))
 (.br (decide (i < (↑(D.len wc) : Int)))
 (.leaf
 (Conf.mk
 (SFrm.mk 46 none none
 [Item.inLoop (cAt Try.prog 46 [1, 1, 0, 1, 0, 0, 1, 0, 0, 1, 0, 0, 1, 0, 0, 1, 0, 0, 1, 0, 0, 1, 0, 0]),
 Item.inBlock 6, Item.inBlock 5,
 Item.code (cAt Try.prog 46 [1, 1, 0, 1, 0, 0, 1, 0, 0, 1, 0, 0, 1, 0, 0, 1, 0, 0, 1, 1]),
 Item.inLoop (cAt Try.prog 46 [1, 1, 0, 1, 0, 0, 1, 0, 0, 1, 0, 0, 1, 0, 0, 1, 0, 0]), Item.inBlock 4,
 Item.inBlock 3, Item.code (cAt Try.prog 46 [1, 1, 0, 1, 0, 0, 1, 0, 0, 1, 0, 0, 1, 1]),
 Item.inLoop (cAt Try.prog 46 [1, 1, 0, 1, 0, 0, 1, 0, 0, 1, 0, 0]), Item.inBlock 2, Item.inBlock 1,
 Item.code (cAt Try.prog 46 [1, 1, 0, 1, 0, 0, 1, 1]), Item.inLoop (cAt Try.prog 46 [1, 1, 0, 1, 0, 0]),
 Item.inBlock 0, Item.code (cAt Try.prog 46 [1, 1, 1])]
 (mkJ 0
 [(1, .dat l), (2, .ptr 0 0), (5, .int .i64 2), (6, .int .i64 b),
 (7, .int .i64 i), (8, .int .i64 0)]
 0 106))
 []
 [(0,
 OBlk.cells 97
 [.int .i64 cn, .int .i64 cr, .int .i64 cp, .int .i64 cdl, .dat cps,
 .dat css, .bool cv, .int .i64 p1, .int .i64 p2, .int .i64 p3,
 .int .i64 p4, .bool pf, .int .i64 p6, .dat pw, .dat ph, .int .i64 q1,
 .int .i64 q2, .int .i64 q3, .int .i64 q4, .bool qf, .int .i64 q6,
 .dat qw, .dat qh, .int .i64 r1, .int .i64 r2, .int .i64 r3,
 .int .i64 r4, .bool rf, .int .i64 r6, .dat rw, .dat rh, .dat fl, .dat wa,
 .dat wb, .dat wc, .int .i64 now, .int .i64 clk, .bool rt,
 .int .i64 st])]))
 (.leaf
 (Conf.mk
 (SFrm.mk 46 none none
 [Item.inLoop (cAt Try.prog 46 [1, 1, 0, 1, 0, 0, 1, 0, 0, 1, 0, 0]), Item.inBlock 2, Item.inBlock 1,
 Item.code (cAt Try.prog 46 [1, 1, 0, 1, 0, 0, 1, 1]), Item.inLoop (cAt Try.prog 46 [1, 1, 0, 1, 0, 0]),
 Item.inBlock 0, Item.code (cAt Try.prog 46 [1, 1, 1])]
 (mkJ 0
 [(1, .dat l), (2, .ptr 0 0), (5, .int .i64 2),
 (6, .int .i64 (IntKind.wrap .i64 (b + 1)))]
 0 106))
 []
 [(0,
 OBlk.cells 97
 [.int .i64 cn, .int .i64 cr, .int .i64 cp, .int .i64 cdl, .dat cps,
 .dat css, .bool cv, .int .i64 p1, .int .i64 p2, .int .i64 p3,
 .int .i64 p4, .bool pf, .int .i64 p6, .dat pw, .dat ph, .int .i64 q1,
 .int .i64 q2, .int .i64 q3, .int .i64 q4, .bool qf, .int .i64 q6,
 .dat qw, .dat qh, .int .i64 r1, .int .i64 r2, .int .i64 r3,
 .int .i64 r4, .bool rf, .int .i64 r6, .dat rw, .dat rh, .dat fl, .dat wa,
 .dat wb, .dat wc, .int .i64 now, .int .i64 clk, .bool rt,
 .int .i64 st])]))) := by kernel_rfl

end
end Go.Proofs.Ytoechplbhbalaaa
end
section
open Go Go.Proofs Sx
namespace Go.Proofs.Ytoechplbhbalaaa
set_option maxRecDepth 100000
set_option maxHeartbeats 0
noncomputable def conK (cs : List SV) (l : D) (a b i k : Int) : Conf := Conf.mk (SFrm.mk 46 none none [Item.inLoop (cAt Try.prog 46 [1, 1, 0, 1, 0, 0, 1, 0, 0, 1, 0, 0, 1, 0, 0, 1, 0, 0, 1, 0, 0, 1, 0, 0]), Item.inBlock 6, Item.inBlock 5, Item.code (cAt Try.prog 46 [1, 1, 0, 1, 0, 0, 1, 0, 0, 1, 0, 0, 1, 0, 0, 1, 0, 0, 1, 1]), Item.inLoop (cAt Try.prog 46 [1, 1, 0, 1, 0, 0, 1, 0, 0, 1, 0, 0, 1, 0, 0, 1, 0, 0]), Item.inBlock 4, Item.inBlock 3, Item.code (cAt Try.prog 46 [1, 1, 0, 1, 0, 0, 1, 0, 0, 1, 0, 0, 1, 1]), Item.inLoop (cAt Try.prog 46 [1, 1, 0, 1, 0, 0, 1, 0, 0, 1, 0, 0]), Item.inBlock 2, Item.inBlock 1, Item.code (cAt Try.prog 46 [1, 1, 0, 1, 0, 0, 1, 1]), Item.inLoop (cAt Try.prog 46 [1, 1, 0, 1, 0, 0]), Item.inBlock 0, Item.code (cAt Try.prog 46 [1, 1, 1])] (mkJ 0 [(1, .dat l), (2, .ptr 0 0), (5, .int .i64 a), (6, .int .i64 b), (7, .int .i64 i), (8, .int .i64 k)] 0 106)) [] [(0, .cells 97 cs)]
end Go.Proofs.Ytoechplbhbalaaa
end
section
open Go Go.Proofs Sx
namespace Go.Proofs.Ytoechplbhbalaaa
set_option maxRecDepth 100000
set_option maxHeartbeats 0
section
variable (cn cr cp cdl : Int) (cps css : D) (cv : Bool) (p1 p2 p3 p4 : Int) (pf : Bool) (p6 : Int) (pw ph : D) (q1 q2 q3 q4 : Int) (qf : Bool) (q6 : Int) (qw qh : D) (r1 r2 r3 r4 : Int) (rf : Bool) (r6 : Int) (rw rh : D) (fl wa wb wc : D) (now clk : Int) (rt : Bool) (st : Int) (l : D) (i k : Int)
theorem conK00_go : 
 let z3 : List SV := [.int .i64 cn, .int .i64 cr, .int .i64 cp, .int .i64 cdl, .dat cps, .dat css, .bool cv, .int .i64 p1, .int .i64 p2, .int .i64 p3, .int .i64 p4, .bool pf, .int .i64 p6, .dat pw, .dat ph, .int .i64 q1, .int .i64 q2, .int .i64 q3, .int .i64 q4, .bool qf, .int .i64 q6, .dat qw, .dat qh, .int .i64 r1, .int .i64 r2, .int .i64 r3, .int .i64 r4, .bool rf, .int .i64 r6, .dat rw, .dat rh, .dat fl, .dat wa, .dat wb, .dat wc, .int .i64 now, .int .i64 clk, .bool rt, .int .i64 st]
 let z1 : Tree := (.leaf (Conf.mk (SFrm.mk 46 none none [Item.inLoop (cAt Try.prog 46 [1, 1, 0, 1, 0, 0, 1, 0, 0, 1, 0, 0, 1, 0, 0, 1, 0, 0, 1, 0, 0, 1, 0, 0]), Item.inBlock 6, Item.inBlock 5, Item.code (cAt Try.prog 46 [1, 1, 0, 1, 0, 0, 1, 0, 0, 1, 0, 0, 1, 0, 0, 1, 0, 0, 1, 1]), Item.inLoop (cAt Try.prog 46 [1, 1, 0, 1, 0, 0, 1, 0, 0, 1, 0, 0, 1, 0, 0, 1, 0, 0]), Item.inBlock 4, Item.inBlock 3, Item.code (cAt Try.prog 46 [1, 1, 0, 1, 0, 0, 1, 0, 0, 1, 0, 0, 1, 1]), Item.inLoop (cAt Try.prog 46 [1, 1, 0, 1, 0, 0, 1, 0, 0, 1, 0, 0]), Item.inBlock 2, Item.inBlock 1, Item.code (cAt Try.prog 46 [1, 1, 0, 1, 0, 0, 1, 1]), Item.inLoop (cAt Try.prog 46 [1, 1, 0, 1, 0, 0]), Item.inBlock 0, Item.code (cAt Try.prog 46 [1, 1, 1])] (mkJ 0 [(1, .dat l), (2, .ptr 0 0), (5, .int .i64 0), (6, .int .i64 0), (7, .int .i64 i), (8, .int .i64 (IntKind.wrap .i64 (k + 1)))] 0 106)) [] [(0, OBlk.cells 97 z3)]))
 let z2 : Tree := (.leaf (Conf.mk (SFrm.mk 46 none none [Item.inLoop (cAt Try.prog 46 [1, 1, 0, 1, 0, 0, 1, 0, 0, 1, 0, 0, 1, 0, 0, 1, 0, 0]), Item.inBlock 4, Item.inBlock 3, Item.code (cAt Try.prog 46 [1, 1, 0, 1, 0, 0, 1, 0, 0, 1, 0, 0, 1, 1]), Item.inLoop (cAt Try.prog 46 [1, 1, 0, 1, 0, 0, 1, 0, 0, 1, 0, 0]), Item.inBlock 2, Item.inBlock 1, Item.code (cAt Try.prog 46 [1, 1, 0, 1, 0, 0, 1, 1]), Item.inLoop (cAt Try.prog 46 [1, 1, 0, 1, 0, 0]), Item.inBlock 0, Item.code (cAt Try.prog 46 [1, 1, 1])] (mkJ 0 [(1, .dat l), (2, .ptr 0 0), (5, .int .i64 0), (6, .int .i64 0), (7, .int .i64 (IntKind.wrap .i64 (i + 1)))] 0 106)) [] [(0, OBlk.cells 97 z3)]))
 exec Try.prog ctP 900 (unroll (conK (cl9 cn cr cp cdl cps css cv p1 p2 p3 p4 pf p6 pw ph q1 q2 q3 q4 qf q6 qw qh r1 r2 r3 r4 rf r6 rw rh fl wa wb wc now clk rt st) l 0 0 i k)) =
 Tree.need ((0 : Int) ≤ 0 ∧ 0 < (↑3 : Int)) (.br (decide (k < (↑(D.len wa) : Int))) (.need ((0 : Int) ≤ 0 ∧ 0 < (↑(D.len l) : Int) ∧ D.sz l = 1) (.need (D.HasCell l 0 0 (FT.int .i64)) (.br (decide (k < D.getInt l 0 0))
 (.need ((0 : Int) ≤ 0 ∧ 0 < (↑3 : Int)) (.need (0 ≤ i ∧ i < (↑(D.len wa) : Int) ∧ D.sz wa = 4) (.need (D.HasCells wa (Int.toNat i) 0 [FT.int .i64, FT.int .i64, FT.int .i64, FT.int .i64]) (.all fun hs => .br
 (decide (D.getInt wa (Int.toNat i) 1 > 0)) (.br (decide (D.getInt wa (Int.toNat i) 1 < D.getInt wa (Int.toNat k) 0)) (.need (decide (D.getInt wa (Int.toNat i) 1 > 0) = true) (.need (decide (D.getInt wa
 (Int.toNat i) 1 > 0) = true) (.need (decide (D.getInt wa (Int.toNat i) 1 > 0) = true) (.need (decide (D.getInt wa (Int.toNat i) 1 > 0) = true) (.need (decide (D.getInt wa (Int.toNat i) 1 > 0) = true) (.need
 ((0 : Int) ≤ 0 ∧ 0 < (↑3 : Int)) (.need (decide (D.getInt wa (Int.toNat i) 1 > 0) = true) (.need (decide (D.getInt wa (Int.toNat i) 1 > 0) = true) (.need (decide (D.getInt wa (Int.toNat i) 1 > 0) = true)
 (.need (0 ≤ k ∧ k < (↑(D.len wa) : Int) ∧ D.sz wa = 4) (.need (decide (D.getInt wa (Int.toNat i) 1 > 0) = true) (.need (decide (D.getInt wa (Int.toNat i) 1 > 0) = true) (.need (D.HasCell wa (Int.toNat k) 0
 (FT.int .i64)) (.need (decide (D.getInt wa (Int.toNat i) 1 > 0) = true) (.need (decide (D.getInt wa (Int.toNat i) 1 > 0) = true) (.need (decide (D.getInt wa (Int.toNat i) 1 < D.getInt wa (Int.toNat k) 0) = true)
 (.need (decide (D.getInt wa (Int.toNat i) 1 < D.getInt wa (Int.toNat k) 0) = true) (.need (decide (D.getInt wa (Int.toNat i) 1 < D.getInt wa (Int.toNat k) 0) = true) (.need (decide (D.getInt wa (Int.toNat i) 1 < D.getInt wa
 (Int.toNat k) 0) = true) (.need ((0 : Int) ≤ 0 ∧ 0 < (↑(D.len l) : Int) ∧ D.sz l = 1) (.need (decide (D.getInt wa (Int.toNat i) 1 < D.getInt wa (Int.toNat k) 0) = true) (.need (D.HasCell l 0 0 (FT.int .i64))
 (.need (decide (D.getInt wa (Int.toNat i) 1 < D.getInt wa (Int.toNat k) 0) = true) (.need (decide (D.getInt wa (Int.toNat i) 1 < D.getInt wa (Int.toNat k) 0) = true) (.br (decide (i ≥ D.getInt l 0 0))
 (.ret (.lb false)) z1))))))))))))))))))))))))) (.need (decide (D.getInt wa (Int.toNat i) 1 > 0) = true) (.need (decide (D.getInt wa (Int.toNat i) 1 > 0) = true) (.need (decide (D.getInt wa (Int.toNat i) 1 > 0) = true)
 (.need (decide (D.getInt wa (Int.toNat i) 1 > 0) = true) (.need (decide (D.getInt wa (Int.toNat i) 1 > 0) = true) (.need ((0 : Int) ≤ 0 ∧ 0 < (↑3 : Int)) (.need (decide (D.getInt wa (Int.toNat i) 1 > 0) = true)
 (.need (decide (D.getInt wa (Int.toNat i) 1 > 0) = true) (.need (decide (D.getInt wa (Int.toNat i) 1 > 0) = true) (.need (0 ≤ k ∧ k < (↑(D.len wa) : Int) ∧ D.sz wa = 4) (.need (decide (D.getInt wa (Int.toNat i) 1 > 0) = true)
 (.need (decide (D.getInt wa (Int.toNat i) 1 > 0) = true) (.need (D.HasCell wa (Int.toNat k) 0 (FT.int .i64)) (.need (decide (D.getInt wa (Int.toNat i) 1 > 0) = true) (.need (decide (D.getInt wa (Int.toNat i) 1 > 0) = true)
 (.need (decide (D.getInt wa (Int.toNat i) 1 < D.getInt wa (Int.toNat k) 0) = false) (.need (decide (D.getInt wa (Int.toNat i) 1 < D.getInt wa (Int.toNat k) 0) = false) (.need (decide (D.getInt wa (Int.toNat i) 1 < D.getInt wa
 (Int.toNat k) 0) = false) (.need (decide (D.getInt wa (Int.toNat i) 1 < D.getInt wa (Int.toNat k) 0) = false) (.need (decide (D.getInt wa (Int.toNat i) 1 < D.getInt wa (Int.toNat k) 0) = false) (.need
 (decide (D.getInt wa (Int.toNat i) 1 < D.getInt wa (Int.toNat k) 0) = false) (.need (decide (D.getInt wa (Int.toNat i) 1 < D.getInt wa (Int.toNat k) 0) = false) z1))))))))))))))))))))))) (.need (decide
 (D.getInt wa (Int.toNat i) 1 > 0) = false) (.need (decide (D.getInt wa (Int.toNat i) 1 > 0) = false) (.need (decide (D.getInt wa (Int.toNat i) 1 > 0) = false) (.need (decide (D.getInt wa (Int.toNat i) 1 > 0) = false)
 (.need (decide (D.getInt wa (Int.toNat i) 1 > 0) = false) (.need (decide (D.getInt wa (Int.toNat i) 1 > 0) = false) (.need (decide (D.getInt wa (Int.toNat i) 1 > 0) = false) (.need (decide (D.getInt wa
 (Int.toNat i) 1 > 0) = false) (.need (decide (D.getInt wa (Int.toNat i) 1 > 0) = false) (.need (decide (D.getInt wa (Int.toNat i) 1 > 0) = false) (.need (decide (D.getInt wa (Int.toNat i) 1 > 0) = false)
 (.need (decide (D.getInt wa (Int.toNat i) 1 > 0) = false) z1)))))))))))))))) z2))) z2) := by
 intros; kernel_rfl

theorem conK01_go : 
 let z3 : List SV := [.int .i64 cn, .int .i64 cr, .int .i64 cp, .int .i64 cdl, .dat cps, .dat css, .bool cv, .int .i64 p1, .int .i64 p2, .int .i64 p3, .int .i64 p4, .bool pf, .int .i64 p6, .dat pw, .dat ph, .int .i64 q1, .int .i64 q2, .int .i64 q3, .int .i64 q4, .bool qf, .int .i64 q6, .dat qw, .dat qh, .int .i64 r1, .int .i64 r2, .int .i64 r3, .int .i64 r4, .bool rf, .int .i64 r6, .dat rw, .dat rh, .dat fl, .dat wa, .dat wb, .dat wc, .int .i64 now, .int .i64 clk, .bool rt, .int .i64 st]
 let z1 : Tree := (.leaf (Conf.mk (SFrm.mk 46 none none [Item.inLoop (cAt Try.prog 46 [1, 1, 0, 1, 0, 0, 1, 0, 0, 1, 0, 0, 1, 0, 0, 1, 0, 0, 1, 0, 0, 1, 0, 0]), Item.inBlock 6, Item.inBlock 5, Item.code (cAt Try.prog 46 [1, 1, 0, 1, 0, 0, 1, 0, 0, 1, 0, 0, 1, 0, 0, 1, 0, 0, 1, 1]), Item.inLoop (cAt Try.prog 46 [1, 1, 0, 1, 0, 0, 1, 0, 0, 1, 0, 0, 1, 0, 0, 1, 0, 0]), Item.inBlock 4, Item.inBlock 3, Item.code (cAt Try.prog 46 [1, 1, 0, 1, 0, 0, 1, 0, 0, 1, 0, 0, 1, 1]), Item.inLoop (cAt Try.prog 46 [1, 1, 0, 1, 0, 0, 1, 0, 0, 1, 0, 0]), Item.inBlock 2, Item.inBlock 1, Item.code (cAt Try.prog 46 [1, 1, 0, 1, 0, 0, 1, 1]), Item.inLoop (cAt Try.prog 46 [1, 1, 0, 1, 0, 0]), Item.inBlock 0, Item.code (cAt Try.prog 46 [1, 1, 1])] (mkJ 0 [(1, .dat l), (2, .ptr 0 0), (5, .int .i64 0), (6, .int .i64 1), (7, .int .i64 i), (8, .int .i64 (IntKind.wrap .i64 (k + 1)))] 0 106)) [] [(0, OBlk.cells 97 z3)]))
 let z2 : Tree := (.leaf (Conf.mk (SFrm.mk 46 none none [Item.inLoop (cAt Try.prog 46 [1, 1, 0, 1, 0, 0, 1, 0, 0, 1, 0, 0, 1, 0, 0, 1, 0, 0]), Item.inBlock 4, Item.inBlock 3, Item.code (cAt Try.prog 46 [1, 1, 0, 1, 0, 0, 1, 0, 0, 1, 0, 0, 1, 1]), Item.inLoop (cAt Try.prog 46 [1, 1, 0, 1, 0, 0, 1, 0, 0, 1, 0, 0]), Item.inBlock 2, Item.inBlock 1, Item.code (cAt Try.prog 46 [1, 1, 0, 1, 0, 0, 1, 1]), Item.inLoop (cAt Try.prog 46 [1, 1, 0, 1, 0, 0]), Item.inBlock 0, Item.code (cAt Try.prog 46 [1, 1, 1])] (mkJ 0 [(1, .dat l), (2, .ptr 0 0), (5, .int .i64 0), (6, .int .i64 1), (7, .int .i64 (IntKind.wrap .i64 (i + 1)))] 0 106)) [] [(0, OBlk.cells 97 z3)]))
 exec Try.prog ctP 900 (unroll (conK (cl9 cn cr cp cdl cps css cv p1 p2 p3 p4 pf p6 pw ph q1 q2 q3 q4 qf q6 qw qh r1 r2 r3 r4 rf r6 rw rh fl wa wb wc now clk rt st) l 0 1 i k)) =
 Tree.need ((0 : Int) ≤ 1 ∧ 1 < (↑3 : Int)) (.br (decide (k < (↑(D.len wb) : Int))) (.need ((0 : Int) ≤ 1 ∧ 1 < (↑(D.len l) : Int) ∧ D.sz l = 1) (.need (D.HasCell l 1 0 (FT.int .i64)) (.br (decide (k < D.getInt l 1 0))
 (.need ((0 : Int) ≤ 0 ∧ 0 < (↑3 : Int)) (.need (0 ≤ i ∧ i < (↑(D.len wa) : Int) ∧ D.sz wa = 4) (.need (D.HasCells wa (Int.toNat i) 0 [FT.int .i64, FT.int .i64, FT.int .i64, FT.int .i64]) (.all fun hs => .br
 (decide (D.getInt wa (Int.toNat i) 1 > 0)) (.br (decide (D.getInt wa (Int.toNat i) 1 < D.getInt wb (Int.toNat k) 0)) (.need (decide (D.getInt wa (Int.toNat i) 1 > 0) = true) (.need (decide (D.getInt wa
 (Int.toNat i) 1 > 0) = true) (.need (decide (D.getInt wa (Int.toNat i) 1 > 0) = true) (.need (decide (D.getInt wa (Int.toNat i) 1 > 0) = true) (.need (decide (D.getInt wa (Int.toNat i) 1 > 0) = true) (.need
 ((0 : Int) ≤ 1 ∧ 1 < (↑3 : Int)) (.need (decide (D.getInt wa (Int.toNat i) 1 > 0) = true) (.need (decide (D.getInt wa (Int.toNat i) 1 > 0) = true) (.need (decide (D.getInt wa (Int.toNat i) 1 > 0) = true)
 (.need (0 ≤ k ∧ k < (↑(D.len wb) : Int) ∧ D.sz wb = 4) (.need (decide (D.getInt wa (Int.toNat i) 1 > 0) = true) (.need (decide (D.getInt wa (Int.toNat i) 1 > 0) = true) (.need (D.HasCell wb (Int.toNat k) 0
 (FT.int .i64)) (.need (decide (D.getInt wa (Int.toNat i) 1 > 0) = true) (.need (decide (D.getInt wa (Int.toNat i) 1 > 0) = true) (.need (decide (D.getInt wa (Int.toNat i) 1 < D.getInt wb (Int.toNat k) 0) = true)
 (.need (decide (D.getInt wa (Int.toNat i) 1 < D.getInt wb (Int.toNat k) 0) = true) (.need (decide (D.getInt wa (Int.toNat i) 1 < D.getInt wb (Int.toNat k) 0) = true) (.need (decide (D.getInt wa (Int.toNat i) 1 < D.getInt wb
 (Int.toNat k) 0) = true) (.need ((0 : Int) ≤ 0 ∧ 0 < (↑(D.len l) : Int) ∧ D.sz l = 1) (.need (decide (D.getInt wa (Int.toNat i) 1 < D.getInt wb (Int.toNat k) 0) = true) (.need (D.HasCell l 0 0 (FT.int .i64))
 (.need (decide (D.getInt wa (Int.toNat i) 1 < D.getInt wb (Int.toNat k) 0) = true) (.need (decide (D.getInt wa (Int.toNat i) 1 < D.getInt wb (Int.toNat k) 0) = true) (.br (decide (i ≥ D.getInt l 0 0))
 (.ret (.lb false)) z1))))))))))))))))))))))))) (.need (decide (D.getInt wa (Int.toNat i) 1 > 0) = true) (.need (decide (D.getInt wa (Int.toNat i) 1 > 0) = true) (.need (decide (D.getInt wa (Int.toNat i) 1 > 0) = true)
 (.need (decide (D.getInt wa (Int.toNat i) 1 > 0) = true) (.need (decide (D.getInt wa (Int.toNat i) 1 > 0) = true) (.need ((0 : Int) ≤ 1 ∧ 1 < (↑3 : Int)) (.need (decide (D.getInt wa (Int.toNat i) 1 > 0) = true)
 (.need (decide (D.getInt wa (Int.toNat i) 1 > 0) = true) (.need (decide (D.getInt wa (Int.toNat i) 1 > 0) = true) (.need (0 ≤ k ∧ k < (↑(D.len wb) : Int) ∧ D.sz wb = 4) (.need (decide (D.getInt wa (Int.toNat i) 1 > 0) = true)
 (.need (decide (D.getInt wa (Int.toNat i) 1 > 0) = true) (.need (D.HasCell wb (Int.toNat k) 0 (FT.int .i64)) (.need (decide (D.getInt wa (Int.toNat i) 1 > 0) = true) (.need (decide (D.getInt wa (Int.toNat i) 1 > 0) = true)
 (.need (decide (D.getInt wa (Int.toNat i) 1 < D.getInt wb (Int.toNat k) 0) = false) (.need (decide (D.getInt wa (Int.toNat i) 1 < D.getInt wb (Int.toNat k) 0) = false) (.need (decide (D.getInt wa (Int.toNat i) 1 < D.getInt wb
 (Int.toNat k) 0) = false) (.need (decide (D.getInt wa (Int.toNat i) 1 < D.getInt wb (Int.toNat k) 0) = false) (.need (decide (D.getInt wa (Int.toNat i) 1 < D.getInt wb (Int.toNat k) 0) = false) (.need
 (decide (D.getInt wa (Int.toNat i) 1 < D.getInt wb (Int.toNat k) 0) = false) (.need (decide (D.getInt wa (Int.toNat i) 1 < D.getInt wb (Int.toNat k) 0) = false) z1))))))))))))))))))))))) (.need (decide
 (D.getInt wa (Int.toNat i) 1 > 0) = false) (.need (decide (D.getInt wa (Int.toNat i) 1 > 0) = false) (.need (decide (D.getInt wa (Int.toNat i) 1 > 0) = false) (.need (decide (D.getInt wa (Int.toNat i) 1 > 0) = false)
 (.need (decide (D.getInt wa (Int.toNat i) 1 > 0) = false) (.need (decide (D.getInt wa (Int.toNat i) 1 > 0) = false) (.need (decide (D.getInt wa (Int.toNat i) 1 > 0) = false) (.need (decide (D.getInt wa
 (Int.toNat i) 1 > 0) = false) (.need (decide (D.getInt wa (Int.toNat i) 1 > 0) = false) (.need (decide (D.getInt wa (Int.toNat i) 1 > 0) = false) (.need (decide (D.getInt wa (Int.toNat i) 1 > 0) = false)
 (.need (decide (D.getInt wa (Int.toNat i) 1 > 0) = false) z1)))))))))))))))) z2))) z2) := by
 intros; kernel_rfl

theorem conK02_go : 
 let z3 : List SV := [.int .i64 cn, .int .i64 cr, .int .i64 cp, .int .i64 cdl, .dat cps, .dat css, .bool cv, .int .i64 p1, .int .i64 p2, .int .i64 p3, .int .i64 p4, .bool pf, .int .i64 p6, .dat pw, .dat ph, .int .i64 q1, .int .i64 q2, .int .i64 q3, .int .i64 q4, .bool qf, .int .i64 q6, .dat qw, .dat qh, .int .i64 r1, .int .i64 r2, .int .i64 r3, .int .i64 r4, .bool rf, .int .i64 r6, .dat rw, .dat rh, .dat fl, .dat wa, .dat wb, .dat wc, .int .i64 now, .int .i64 clk, .bool rt, .int .i64 st]
 let z1 : Tree := (.leaf (Conf.mk (SFrm.mk 46 none none [Item.inLoop (cAt Try.prog 46 [1, 1, 0, 1, 0, 0, 1, 0, 0, 1, 0, 0, 1, 0, 0, 1, 0, 0, 1, 0, 0, 1, 0, 0]), Item.inBlock 6, Item.inBlock 5, Item.code (cAt Try.prog 46 [1, 1, 0, 1, 0, 0, 1, 0, 0, 1, 0, 0, 1, 0, 0, 1, 0, 0, 1, 1]), Item.inLoop (cAt Try.prog 46 [1, 1, 0, 1, 0, 0, 1, 0, 0, 1, 0, 0, 1, 0, 0, 1, 0, 0]), Item.inBlock 4, Item.inBlock 3, Item.code (cAt Try.prog 46 [1, 1, 0, 1, 0, 0, 1, 0, 0, 1, 0, 0, 1, 1]), Item.inLoop (cAt Try.prog 46 [1, 1, 0, 1, 0, 0, 1, 0, 0, 1, 0, 0]), Item.inBlock 2, Item.inBlock 1, Item.code (cAt Try.prog 46 [1, 1, 0, 1, 0, 0, 1, 1]), Item.inLoop (cAt Try.prog 46 [1, 1, 0, 1, 0, 0]), Item.inBlock 0, Item.code (cAt Try.prog 46 [1, 1, 1])] (mkJ 0 [(1, .dat l), (2, .ptr 0 0), (5, .int .i64 0), (6, .int .i64 2), (7, .int .i64 i), (8, .int .i64 (IntKind.wrap .i64 (k + 1)))] 0 106)) [] [(0, OBlk.cells 97 z3)]))
 let z2 : Tree := (.leaf (Conf.mk (SFrm.mk 46 none none [Item.inLoop (cAt Try.prog 46 [1, 1, 0, 1, 0, 0, 1, 0, 0, 1, 0, 0, 1, 0, 0, 1, 0, 0]), Item.inBlock 4, Item.inBlock 3, Item.code (cAt Try.prog 46 [1, 1, 0, 1, 0, 0, 1, 0, 0, 1, 0, 0, 1, 1]), Item.inLoop (cAt Try.prog 46 [1, 1, 0, 1, 0, 0, 1, 0, 0, 1, 0, 0]), Item.inBlock 2, Item.inBlock 1, Item.code (cAt Try.prog 46 [1, 1, 0, 1, 0, 0, 1, 1]), Item.inLoop (cAt Try.prog 46 [1, 1, 0, 1, 0, 0]), Item.inBlock 0, Item.code (cAt Try.prog 46 [1, 1, 1])] (mkJ 0 [(1, .dat l), (2, .ptr 0 0), (5, .int .i64 0), (6, .int .i64 2), (7, .int .i64 (IntKind.wrap .i64 (i + 1)))] 0 106)) [] [(0, OBlk.cells 97 z3)]))
 exec Try.prog ctP 900 (unroll (conK (cl9 cn cr cp cdl cps css cv p1 p2 p3 p4 pf p6 pw ph q1 q2 q3 q4 qf q6 qw qh r1 r2 r3 r4 rf r6 rw rh fl wa wb wc now clk rt st) l 0 2 i k)) =
 Tree.need ((0 : Int) ≤ 2 ∧ 2 < (↑3 : Int)) (.br (decide (k < (↑(D.len wc) : Int))) (.need ((0 : Int) ≤ 2 ∧ 2 < (↑(D.len l) : Int) ∧ D.sz l = 1) (.need (D.HasCell l 2 0 (FT.int .i64)) (.br (decide (k < D.getInt l 2 0))
 (.need ((0 : Int) ≤ 0 ∧ 0 < (↑3 : Int)) (.need (0 ≤ i ∧ i < (↑(D.len wa) : Int) ∧ D.sz wa = 4) (.need (D.HasCells wa (Int.toNat i) 0 [FT.int .i64, FT.int .i64, FT.int .i64, FT.int .i64]) (.all fun hs => .br
 (decide (D.getInt wa (Int.toNat i) 1 > 0)) (.br (decide (D.getInt wa (Int.toNat i) 1 < D.getInt wc (Int.toNat k) 0)) (.need (decide (D.getInt wa (Int.toNat i) 1 > 0) = true) (.need (decide (D.getInt wa
 (Int.toNat i) 1 > 0) = true) (.need (decide (D.getInt wa (Int.toNat i) 1 > 0) = true) (.need (decide (D.getInt wa (Int.toNat i) 1 > 0) = true) (.need (decide (D.getInt wa (Int.toNat i) 1 > 0) = true) (.need
 ((0 : Int) ≤ 2 ∧ 2 < (↑3 : Int)) (.need (decide (D.getInt wa (Int.toNat i) 1 > 0) = true) (.need (decide (D.getInt wa (Int.toNat i) 1 > 0) = true) (.need (decide (D.getInt wa (Int.toNat i) 1 > 0) = true)
 (.need (0 ≤ k ∧ k < (↑(D.len wc) : Int) ∧ D.sz wc = 4) (.need (decide (D.getInt wa (Int.toNat i) 1 > 0) = true) (.need (decide (D.getInt wa (Int.toNat i) 1 > 0) = true) (.need (D.HasCell wc (Int.toNat k) 0
 (FT.int .i64)) (.need (decide (D.getInt wa (Int.toNat i) 1 > 0) = true) (.need (decide (D.getInt wa (Int.toNat i) 1 > 0) = true) (.need (decide (D.getInt wa (Int.toNat i) 1 < D.getInt wc (Int.toNat k) 0) = true)
 (.need (decide (D.getInt wa (Int.toNat i) 1 < D.getInt wc (Int.toNat k) 0) = true) (.need (decide (D.getInt wa (Int.toNat i) 1 < D.getInt wc (Int.toNat k) 0) = true) (.need (decide (D.getInt wa (Int.toNat i) 1 < D.getInt wc
 (Int.toNat k) 0) = true) (.need ((0 : Int) ≤ 0 ∧ 0 < (↑(D.len l) : Int) ∧ D.sz l = 1) (.need (decide (D.getInt wa (Int.toNat i) 1 < D.getInt wc (Int.toNat k) 0) = true) (.need (D.HasCell l 0 0 (FT.int .i64))
 (.need (decide (D.getInt wa (Int.toNat i) 1 < D.getInt wc (Int.toNat k) 0) = true) (.need (decide (D.getInt wa (Int.toNat i) 1 < D.getInt wc (Int.toNat k) 0) = true) (.br (decide (i ≥ D.getInt l 0 0))
 (.ret (.lb false)) z1))))))))))))))))))))))))) (.need (decide (D.getInt wa (Int.toNat i) 1 > 0) = true) (.need (decide (D.getInt wa (Int.toNat i) 1 > 0) = true) (.need (decide (D.getInt wa (Int.toNat i) 1 > 0) = true)
 (.need (decide (D.getInt wa (Int.toNat i) 1 > 0) = true) (.need (decide (D.getInt wa (Int.toNat i) 1 > 0) = true) (.need ((0 : Int) ≤ 2 ∧ 2 < (↑3 : Int)) (.need (decide (D.getInt wa (Int.toNat i) 1 > 0) = true)
 (.need (decide (D.getInt wa (Int.toNat i) 1 > 0) = true) (.need (decide (D.getInt wa (Int.toNat i) 1 > 0) = true) (.need (0 ≤ k ∧ k < (↑(D.len wc) : Int) ∧ D.sz wc = 4) (.need (decide (D.getInt wa (Int.toNat i) 1 > 0) = true)
 (.need (decide (D.getInt wa (Int.toNat i) 1 > 0) = true) (.need (D.HasCell wc (Int.toNat k) 0 (FT.int .i64)) (.need (decide (D.getInt wa (Int.toNat i) 1 > 0) = true) (.need (decide (D.getInt wa (Int.toNat i) 1 > 0) = true)
 (.need (decide (D.getInt wa (Int.toNat i) 1 < D.getInt wc (Int.toNat k) 0) = false) (.need (decide (D.getInt wa (Int.toNat i) 1 < D.getInt wc (Int.toNat k) 0) = false) (.need (decide (D.getInt wa (Int.toNat i) 1 < D.getInt wc
 (Int.toNat k) 0) = false) (.need (decide (D.getInt wa (Int.toNat i) 1 < D.getInt wc (Int.toNat k) 0) = false) (.need (decide (D.getInt wa (Int.toNat i) 1 < D.getInt wc (Int.toNat k) 0) = false) (.need
 (decide (D.getInt wa (Int.toNat i) 1 < D.getInt wc (Int.toNat k) 0) = false) (.need (decide (D.getInt wa (Int.toNat i) 1 < D.getInt wc (Int.toNat k) 0) = false) z1))))))))))))))))))))))) (.need (decide
 (D.getInt wa (Int.toNat i) 1 > 0) = false) (.need (decide (D.getInt wa (Int.toNat i) 1 > 0) = false) (.need (decide (D.getInt wa (Int.toNat i) 1 > 0) = false) (.need (decide (D.getInt wa (Int.toNat i) 1 > 0) = false)
 (.need (decide (D.getInt wa (Int.toNat i) 1 > 0) = false) (.need (decide (D.getInt wa (Int.toNat i) 1 > 0) = false) (.need (decide (D.getInt wa (Int.toNat i) 1 > 0) = false) (.need (decide (D.getInt wa
 (Int.toNat i) 1 > 0) = false) (.need (decide (D.getInt wa (Int.toNat i) 1 > 0) = false) (.need (decide (D.getInt wa (Int.toNat i) 1 > 0) = false) (.need (decide (D.getInt wa (Int.toNat i) 1 > 0) = false)
 (.need (decide (D.getInt wa (Int.toNat i) 1 > 0) = false) z1)))))))))))))))) z2))) z2) := by
 intros; kernel_rfl

end
end Go.Proofs.Ytoechplbhbalaaa
end
section
open Go Go.Proofs Sx
namespace Go.Proofs.Ytoechplbhbalaaa
set_option maxRecDepth 100000
set_option maxHeartbeats 0
section
variable (cn cr cp cdl : Int) (cps css : D) (cv : Bool) (p1 p2 p3 p4 : Int) (pf : Bool) (p6 : Int) (pw ph : D) (q1 q2 q3 q4 : Int) (qf : Bool) (q6 : Int) (qw qh : D) (r1 r2 r3 r4 : Int) (rf : Bool) (r6 : Int) (rw rh : D) (fl wa wb wc : D) (now clk : Int) (rt : Bool) (st : Int) (l : D) (i k : Int)
theorem conK10_go : 
 let z3 : List SV := [.int .i64 cn, .int .i64 cr, .int .i64 cp, .int .i64 cdl, .dat cps, .dat css, .bool cv, .int .i64 p1, .int .i64 p2, .int .i64 p3, .int .i64 p4, .bool pf, .int .i64 p6, .dat pw, .dat ph, .int .i64 q1, .int .i64 q2, .int .i64 q3, .int .i64 q4, .bool qf, .int .i64 q6, .dat qw, .dat qh, .int .i64 r1, .int .i64 r2, .int .i64 r3, .int .i64 r4, .bool rf, .int .i64 r6, .dat rw, .dat rh, .dat fl, .dat wa, .dat wb, .dat wc, .int .i64 now, .int .i64 clk, .bool rt, .int .i64 st]
 let z1 : Tree := (.leaf (Conf.mk (SFrm.mk 46 none none [Item.inLoop (cAt Try.prog 46 [1, 1, 0, 1, 0, 0, 1, 0, 0, 1, 0, 0, 1, 0, 0, 1, 0, 0, 1, 0, 0, 1, 0, 0]), Item.inBlock 6, Item.inBlock 5, Item.code (cAt Try.prog 46 [1, 1, 0, 1, 0, 0, 1, 0, 0, 1, 0, 0, 1, 0, 0, 1, 0, 0, 1, 1]), Item.inLoop (cAt Try.prog 46 [1, 1, 0, 1, 0, 0, 1, 0, 0, 1, 0, 0, 1, 0, 0, 1, 0, 0]), Item.inBlock 4, Item.inBlock 3, Item.code (cAt Try.prog 46 [1, 1, 0, 1, 0, 0, 1, 0, 0, 1, 0, 0, 1, 1]), Item.inLoop (cAt Try.prog 46 [1, 1, 0, 1, 0, 0, 1, 0, 0, 1, 0, 0]), Item.inBlock 2, Item.inBlock 1, Item.code (cAt Try.prog 46 [1, 1, 0, 1, 0, 0, 1, 1]), Item.inLoop (cAt Try.prog 46 [1, 1, 0, 1, 0, 0]), Item.inBlock 0, Item.code (cAt Try.prog 46 [1, 1, 1])] (mkJ 0 [(1, .dat l), (2, .ptr 0 0), (5, .int .i64 1), (6, .int .i64 0), (7, .int .i64 i), (8, .int .i64 (IntKind.wrap .i64 (k + 1)))] 0 106)) [] [(0, OBlk.cells 97 z3)]))
 let z2 : Tree := (.leaf (Conf.mk (SFrm.mk 46 none none [Item.inLoop (cAt Try.prog 46 [1, 1, 0, 1, 0, 0, 1, 0, 0, 1, 0, 0, 1, 0, 0, 1, 0, 0]), Item.inBlock 4, Item.inBlock 3, Item.code (cAt Try.prog 46 [1, 1, 0, 1, 0, 0, 1, 0, 0, 1, 0, 0, 1, 1]), Item.inLoop (cAt Try.prog 46 [1, 1, 0, 1, 0, 0, 1, 0, 0, 1, 0, 0]), Item.inBlock 2, Item.inBlock 1, Item.code (cAt Try.prog 46 [1, 1, 0, 1, 0, 0, 1, 1]), Item.inLoop (cAt Try.prog 46 [1, 1, 0, 1, 0, 0]), Item.inBlock 0, Item.code (cAt Try.prog 46 [1, 1, 1])] (mkJ 0 [(1, .dat l), (2, .ptr 0 0), (5, .int .i64 1), (6, .int .i64 0), (7, .int .i64 (IntKind.wrap .i64 (i + 1)))] 0 106)) [] [(0, OBlk.cells 97 z3)]))
 exec Try.prog ctP 900 (unroll (conK (cl9 cn cr cp cdl cps css cv p1 p2 p3 p4 pf p6 pw ph q1 q2 q3 q4 qf q6 qw qh r1 r2 r3 r4 rf r6 rw rh fl wa wb wc now clk rt st) l 1 0 i k)) =
 Tree.need ((0 : Int) ≤ 0 ∧ 0 < (↑3 : Int)) (.br (decide (k < (↑(D.len wa) : Int))) (.need ((0 : Int) ≤ 0 ∧ 0 < (↑(D.len l) : Int) ∧ D.sz l = 1) (.need (D.HasCell l 0 0 (FT.int .i64)) (.br (decide (k < D.getInt l 0 0))
 (.need ((0 : Int) ≤ 1 ∧ 1 < (↑3 : Int)) (.need (0 ≤ i ∧ i < (↑(D.len wb) : Int) ∧ D.sz wb = 4) (.need (D.HasCells wb (Int.toNat i) 0 [FT.int .i64, FT.int .i64, FT.int .i64, FT.int .i64]) (.all fun hs => .br
 (decide (D.getInt wb (Int.toNat i) 1 > 0)) (.br (decide (D.getInt wb (Int.toNat i) 1 < D.getInt wa (Int.toNat k) 0)) (.need (decide (D.getInt wb (Int.toNat i) 1 > 0) = true) (.need (decide (D.getInt wb
 (Int.toNat i) 1 > 0) = true) (.need (decide (D.getInt wb (Int.toNat i) 1 > 0) = true) (.need (decide (D.getInt wb (Int.toNat i) 1 > 0) = true) (.need (decide (D.getInt wb (Int.toNat i) 1 > 0) = true) (.need
 ((0 : Int) ≤ 0 ∧ 0 < (↑3 : Int)) (.need (decide (D.getInt wb (Int.toNat i) 1 > 0) = true) (.need (decide (D.getInt wb (Int.toNat i) 1 > 0) = true) (.need (decide (D.getInt wb (Int.toNat i) 1 > 0) = true)
 (.need (0 ≤ k ∧ k < (↑(D.len wa) : Int) ∧ D.sz wa = 4) (.need (decide (D.getInt wb (Int.toNat i) 1 > 0) = true) (.need (decide (D.getInt wb (Int.toNat i) 1 > 0) = true) (.need (D.HasCell wa (Int.toNat k) 0
 (FT.int .i64)) (.need (decide (D.getInt wb (Int.toNat i) 1 > 0) = true) (.need (decide (D.getInt wb (Int.toNat i) 1 > 0) = true) (.need (decide (D.getInt wb (Int.toNat i) 1 < D.getInt wa (Int.toNat k) 0) = true)
 (.need (decide (D.getInt wb (Int.toNat i) 1 < D.getInt wa (Int.toNat k) 0) = true) (.need (decide (D.getInt wb (Int.toNat i) 1 < D.getInt wa (Int.toNat k) 0) = true) (.need (decide (D.getInt wb (Int.toNat i) 1 < D.getInt wa
 (Int.toNat k) 0) = true) (.need ((0 : Int) ≤ 1 ∧ 1 < (↑(D.len l) : Int) ∧ D.sz l = 1) (.need (decide (D.getInt wb (Int.toNat i) 1 < D.getInt wa (Int.toNat k) 0) = true) (.need (D.HasCell l 1 0 (FT.int .i64))
 (.need (decide (D.getInt wb (Int.toNat i) 1 < D.getInt wa (Int.toNat k) 0) = true) (.need (decide (D.getInt wb (Int.toNat i) 1 < D.getInt wa (Int.toNat k) 0) = true) (.br (decide (i ≥ D.getInt l 1 0))
 (.ret (.lb false)) z1))))))))))))))))))))))))) (.need (decide (D.getInt wb (Int.toNat i) 1 > 0) = true) (.need (decide (D.getInt wb (Int.toNat i) 1 > 0) = true) (.need (decide (D.getInt wb (Int.toNat i) 1 > 0) = true)
 (.need (decide (D.getInt wb (Int.toNat i) 1 > 0) = true) (.need (decide (D.getInt wb (Int.toNat i) 1 > 0) = true) (.need ((0 : Int) ≤ 0 ∧ 0 < (↑3 : Int)) (.need (decide (D.getInt wb (Int.toNat i) 1 > 0) = true)
 (.need (decide (D.getInt wb (Int.toNat i) 1 > 0) = true) (.need (decide (D.getInt wb (Int.toNat i) 1 > 0) = true) (.need (0 ≤ k ∧ k < (↑(D.len wa) : Int) ∧ D.sz wa = 4) (.need (decide (D.getInt wb (Int.toNat i) 1 > 0) = true)
 (.need (decide (D.getInt wb (Int.toNat i) 1 > 0) = true) (.need (D.HasCell wa (Int.toNat k) 0 (FT.int .i64)) (.need (decide (D.getInt wb (Int.toNat i) 1 > 0) = true) (.need (decide (D.getInt wb (Int.toNat i) 1 > 0) = true)
 (.need (decide (D.getInt wb (Int.toNat i) 1 < D.getInt wa (Int.toNat k) 0) = false) (.need (decide (D.getInt wb (Int.toNat i) 1 < D.getInt wa (Int.toNat k) 0) = false) (.need (decide (D.getInt wb (Int.toNat i) 1 < D.getInt wa
 (Int.toNat k) 0) = false) (.need (decide (D.getInt wb (Int.toNat i) 1 < D.getInt wa (Int.toNat k) 0) = false) (.need (decide (D.getInt wb (Int.toNat i) 1 < D.getInt wa (Int.toNat k) 0) = false) (.need
 (decide (D.getInt wb (Int.toNat i) 1 < D.getInt wa (Int.toNat k) 0) = false) (.need (decide (D.getInt wb (Int.toNat i) 1 < D.getInt wa (Int.toNat k) 0) = false) z1))))))))))))))))))))))) (.need (decide
 (D.getInt wb (Int.toNat i) 1 > 0) = false) (.need (decide (D.getInt wb (Int.toNat i) 1 > 0) = false) (.need (decide (D.getInt wb (Int.toNat i) 1 > 0) = false) (.need (decide (D.getInt wb (Int.toNat i) 1 > 0) = false)
 (.need (decide (D.getInt wb (Int.toNat i) 1 > 0) = false) (.need (decide (D.getInt wb (Int.toNat i) 1 > 0) = false) (.need (decide (D.getInt wb (Int.toNat i) 1 > 0) = false) (.need (decide (D.getInt wb
 (Int.toNat i) 1 > 0) = false) (.need (decide (D.getInt wb (Int.toNat i) 1 > 0) = false) (.need (decide (D.getInt wb (Int.toNat i) 1 > 0) = false) (.need (decide (D.getInt wb (Int.toNat i) 1 > 0) = false)
 (.need (decide (D.getInt wb (Int.toNat i) 1 > 0) = false) z1)))))))))))))))) z2))) z2) := by
 intros; kernel_rfl

theorem conK11_go : 
 let z3 : List SV := [.int .i64 cn, .int .i64 cr, .int .i64 cp, .int .i64 cdl, .dat cps, .dat css, .bool cv, .int .i64 p1, .int .i64 p2, .int .i64 p3, .int .i64 p4, .bool pf, .int .i64 p6, .dat pw, .dat ph, .int .i64 q1, .int .i64 q2, .int .i64 q3, .int .i64 q4, .bool qf, .int .i64 q6, .dat qw, .dat qh, .int .i64 r1, .int .i64 r2, .int .i64 r3, .int .i64 r4, .bool rf, .int .i64 r6, .dat rw, .dat rh, .dat fl, .dat wa, .dat wb, .dat wc, .int .i64 now, .int .i64 clk, .bool rt, .int .i64 st]
 let z1 : Tree := (.leaf (Conf.mk (SFrm.mk 46 none none [Item.inLoop (cAt Try.prog 46 [1, 1, 0, 1, 0, 0, 1, 0, 0, 1, 0, 0, 1, 0, 0, 1, 0, 0, 1, 0, 0, 1, 0, 0]), Item.inBlock 6, Item.inBlock 5, Item.code (cAt Try.prog 46 [1, 1, 0, 1, 0, 0, 1, 0, 0, 1, 0, 0, 1, 0, 0, 1, 0, 0, 1, 1]), Item.inLoop (cAt Try.prog 46 [1, 1, 0, 1, 0, 0, 1, 0, 0, 1, 0, 0, 1, 0, 0, 1, 0, 0]), Item.inBlock 4, Item.inBlock 3, Item.code (cAt Try.prog 46 [1, 1, 0, 1, 0, 0, 1, 0, 0, 1, 0, 0, 1, 1]), Item.inLoop (cAt Try.prog 46 [1, 1, 0, 1, 0, 0, 1, 0, 0, 1, 0, 0]), Item.inBlock 2, Item.inBlock 1, Item.code (cAt Try.prog 46 [1, 1, 0, 1, 0, 0, 1, 1]), Item.inLoop (cAt Try.prog 46 [1, 1, 0, 1, 0, 0]), Item.inBlock 0, Item.code (cAt Try.prog 46 [1, 1, 1])] (mkJ 0 [(1, .dat l), (2, .ptr 0 0), (5, .int .i64 1), (6, .int .i64 1), (7, .int .i64 i), (8, .int .i64 (IntKind.wrap .i64 (k + 1)))] 0 106)) [] [(0, OBlk.cells 97 z3)]))
 let z2 : Tree := (.leaf (Conf.mk (SFrm.mk 46 none none [Item.inLoop (cAt Try.prog 46 [1, 1, 0, 1, 0, 0, 1, 0, 0, 1, 0, 0, 1, 0, 0, 1, 0, 0]), Item.inBlock 4, Item.inBlock 3, Item.code (cAt Try.prog 46 [1, 1, 0, 1, 0, 0, 1, 0, 0, 1, 0, 0, 1, 1]), Item.inLoop (cAt Try.prog 46 [1, 1, 0, 1, 0, 0, 1, 0, 0, 1, 0, 0]), Item.inBlock 2, Item.inBlock 1, Item.code (cAt Try.prog 46 [1, 1, 0, 1, 0, 0, 1, 1]), Item.inLoop (cAt Try.prog 46 [1, 1, 0, 1, 0, 0]), Item.inBlock 0, Item.code (cAt Try.prog 46 [1, 1, 1])] (mkJ 0 [(1, .dat l), (2, .ptr 0 0), (5, .int .i64 1), (6, .int .i64 1), (7, .int .i64 (IntKind.wrap .i64 (i + 1)))] 0 106)) [] [(0, OBlk.cells 97 z3)]))
 exec Try.prog ctP 900 (unroll (conK (cl9 cn cr cp cdl cps css cv p1 p2 p3 p4 pf p6 pw ph q1 q2 q3 q4 qf q6 qw qh r1 r2 r3 r4 rf r6 rw rh fl wa wb wc now clk rt st) l 1 1 i k)) =
 Tree.need ((0 : Int) ≤ 1 ∧ 1 < (↑3 : Int)) (.br (decide (k < (↑(D.len wb) : Int))) (.need ((0 : Int) ≤ 1 ∧ 1 < (↑(D.len l) : Int) ∧ D.sz l = 1) (.need (D.HasCell l 1 0 (FT.int .i64)) (.br (decide (k < D.getInt l 1 0))
 (.need ((0 : Int) ≤ 1 ∧ 1 < (↑3 : Int)) (.need (0 ≤ i ∧ i < (↑(D.len wb) : Int) ∧ D.sz wb = 4) (.need (D.HasCells wb (Int.toNat i) 0 [FT.int .i64, FT.int .i64, FT.int .i64, FT.int .i64]) (.all fun hs => .br
 (decide (D.getInt wb (Int.toNat i) 1 > 0)) (.br (decide (D.getInt wb (Int.toNat i) 1 < D.getInt wb (Int.toNat k) 0)) (.need (decide (D.getInt wb (Int.toNat i) 1 > 0) = true) (.need (decide (D.getInt wb
 (Int.toNat i) 1 > 0) = true) (.need (decide (D.getInt wb (Int.toNat i) 1 > 0) = true) (.need (decide (D.getInt wb (Int.toNat i) 1 > 0) = true) (.need (decide (D.getInt wb (Int.toNat i) 1 > 0) = true) (.need
 ((0 : Int) ≤ 1 ∧ 1 < (↑3 : Int)) (.need (decide (D.getInt wb (Int.toNat i) 1 > 0) = true) (.need (decide (D.getInt wb (Int.toNat i) 1 > 0) = true) (.need (decide (D.getInt wb (Int.toNat i) 1 > 0) = true)
 (.need (0 ≤ k ∧ k < (↑(D.len wb) : Int) ∧ D.sz wb = 4) (.need (decide (D.getInt wb (Int.toNat i) 1 > 0) = true) (.need (decide (D.getInt wb (Int.toNat i) 1 > 0) = true) (.need (D.HasCell wb (Int.toNat k) 0
 (FT.int .i64)) (.need (decide (D.getInt wb (Int.toNat i) 1 > 0) = true) (.need (decide (D.getInt wb (Int.toNat i) 1 > 0) = true) (.need (decide (D.getInt wb (Int.toNat i) 1 < D.getInt wb (Int.toNat k) 0) = true)
 (.need (decide (D.getInt wb (Int.toNat i) 1 < D.getInt wb (Int.toNat k) 0) = true) (.need (decide (D.getInt wb (Int.toNat i) 1 < D.getInt wb (Int.toNat k) 0) = true) (.need (decide (D.getInt wb (Int.toNat i) 1 < D.getInt wb
 (Int.toNat k) 0) = true) (.need ((0 : Int) ≤ 1 ∧ 1 < (↑(D.len l) : Int) ∧ D.sz l = 1) (.need (decide (D.getInt wb (Int.toNat i) 1 < D.getInt wb (Int.toNat k) 0) = true) (.need (D.HasCell l 1 0 (FT.int .i64))
 (.need (decide (D.getInt wb (Int.toNat i) 1 < D.getInt wb (Int.toNat k) 0) = true) (.need (decide (D.getInt wb (Int.toNat i) 1 < D.getInt wb (Int.toNat k) 0) = true) (.br (decide (i ≥ D.getInt l 1 0))
 (.ret (.lb false)) z1))))))))))))))))))))))))) (.need (decide (D.getInt wb (Int.toNat i) 1 > 0) = true) (.need (decide (D.getInt wb (Int.toNat i) 1 > 0) = true) (.need (decide (D.getInt wb (Int.toNat i) 1 > 0) = true)
 (.need (decide (D.getInt wb (Int.toNat i) 1 > 0) = true) (.need (decide (D.getInt wb (Int.toNat i) 1 > 0) = true) (.need ((0 : Int) ≤ 1 ∧ 1 < (↑3 : Int)) (.need (decide (D.getInt wb (Int.toNat i) 1 > 0) = true)
 (.need (decide (D.getInt wb (Int.toNat i) 1 > 0) = true) (.need (decide (D.getInt wb (Int.toNat i) 1 > 0) = true) (.need (0 ≤ k ∧ k < (↑(D.len wb) : Int) ∧ D.sz wb = 4) (.need (decide (D.getInt wb (Int.toNat i) 1 > 0) = true)
 (.need (decide (D.getInt wb (Int.toNat i) 1 > 0) = true) (.need (D.HasCell wb (Int.toNat k) 0 (FT.int .i64)) (.need (decide (D.getInt wb (Int.toNat i) 1 > 0) = true) (.need (decide (D.getInt wb (Int.toNat i) 1 > 0) = true)
 (.need (decide (D.getInt wb (Int.toNat i) 1 < D.getInt wb (Int.toNat k) 0) = false) (.need (decide (D.getInt wb (Int.toNat i) 1 < D.getInt wb (Int.toNat k) 0) = false) (.need (decide (D.getInt wb (Int.toNat i) 1 < D.getInt wb
 (Int.toNat k) 0) = false) (.need (decide (D.getInt wb (Int.toNat i) 1 < D.getInt wb (Int.toNat k) 0) = false) (.need (decide (D.getInt wb (Int.toNat i) 1 < D.getInt wb (Int.toNat k) 0) = false) (.need
 (decide (D.getInt wb (Int.toNat i) 1 < D.getInt wb (Int.toNat k) 0) = false) (.need (decide (D.getInt wb (Int.toNat i) 1 < D.getInt wb (Int.toNat k) 0) = false) z1))))))))))))))))))))))) (.need (decide
 (D.getInt wb (Int.toNat i) 1 > 0) = false) (.need (decide (D.getInt wb (Int.toNat i) 1 > 0) = false) (.need (decide (D.getInt wb (Int.toNat i) 1 > 0) = false) (.need (decide (D.getInt wb (Int.toNat i) 1 > 0) = false)
 (.need (decide (D.getInt wb (Int.toNat i) 1 > 0) = false) (.need (decide (D.getInt wb (Int.toNat i) 1 > 0) = false) (.need (decide (D.getInt wb (Int.toNat i) 1 > 0) = false) (.need (decide (D.getInt wb
 (Int.toNat i) 1 > 0) = false) (.need (decide (D.getInt wb (Int.toNat i) 1 > 0) = false) (.need (decide (D.getInt wb (Int.toNat i) 1 > 0) = false) (.need (decide (D.getInt wb (Int.toNat i) 1 > 0) = false)
 (.need (decide (D.getInt wb (Int.toNat i) 1 > 0) = false) z1)))))))))))))))) z2))) z2) := by
 intros; kernel_rfl

theorem conK12_go : 
 let z3 : List SV := [.int .i64 cn, .int .i64 cr, .int .i64 cp, .int .i64 cdl, .dat cps, .dat css, .bool cv, .int .i64 p1, .int .i64 p2, .int .i64 p3, .int .i64 p4, .bool pf, .int .i64 p6, .dat pw, .dat ph, .int .i64 q1, .int .i64 q2, .int .i64 q3, .int .i64 q4, .bool qf, .int .i64 q6, .dat qw, .dat qh, .int .i64 r1, .int .i64 r2, .int .i64 r3, .int .i64 r4, .bool rf, .int .i64 r6, .dat rw, .dat rh, .dat fl, .dat wa, .dat wb, .dat wc, .int .i64 now, .int .i64 clk, .bool rt, .int .i64 st]
 let z1 : Tree := (.leaf (Conf.mk (SFrm.mk 46 none none [Item.inLoop (cAt Try.prog 46 [1, 1, 0, 1, 0, 0, 1, 0, 0, 1, 0, 0, 1, 0, 0, 1, 0, 0, 1, 0, 0, 1, 0, 0]), Item.inBlock 6, Item.inBlock 5, Item.code (cAt Try.prog 46 [1, 1, 0, 1, 0, 0, 1, 0, 0, 1, 0, 0, 1, 0, 0, 1, 0, 0, 1, 1]), Item.inLoop (cAt Try.prog 46 [1, 1, 0, 1, 0, 0, 1, 0, 0, 1, 0, 0, 1, 0, 0, 1, 0, 0]), Item.inBlock 4, Item.inBlock 3, Item.code (cAt Try.prog 46 [1, 1, 0, 1, 0, 0, 1, 0, 0, 1, 0, 0, 1, 1]), Item.inLoop (cAt Try.prog 46 [1, 1, 0, 1, 0, 0, 1, 0, 0, 1, 0, 0]), Item.inBlock 2, Item.inBlock 1, Item.code (cAt Try.prog 46 [1, 1, 0, 1, 0, 0, 1, 1]), Item.inLoop (cAt Try.prog 46 [1, 1, 0, 1, 0, 0]), Item.inBlock 0, Item.code (cAt Try.prog 46 [1, 1, 1])] (mkJ 0 [(1, .dat l), (2, .ptr 0 0), (5, .int .i64 1), (6, .int .i64 2), (7, .int .i64 i), (8, .int .i64 (IntKind.wrap .i64 (k + 1)))] 0 106)) [] [(0, OBlk.cells 97 z3)]))
 let z2 : Tree := (.leaf (Conf.mk (SFrm.mk 46 none none [Item.inLoop (cAt Try.prog 46 [1, 1, 0, 1, 0, 0, 1, 0, 0, 1, 0, 0, 1, 0, 0, 1, 0, 0]), Item.inBlock 4, Item.inBlock 3, Item.code (cAt Try.prog 46 [1, 1, 0, 1, 0, 0, 1, 0, 0, 1, 0, 0, 1, 1]), Item.inLoop (cAt Try.prog 46 [1, 1, 0, 1, 0, 0, 1, 0, 0, 1, 0, 0]), Item.inBlock 2, Item.inBlock 1, Item.code (cAt Try.prog 46 [1, 1, 0, 1, 0, 0, 1, 1]), Item.inLoop (cAt Try.prog 46 [1, 1, 0, 1, 0, 0]), Item.inBlock 0, Item.code (cAt Try.prog 46 [1, 1, 1])] (mkJ 0 [(1, .dat l), (2, .ptr 0 0), (5, .int .i64 1), (6, .int .i64 2), (7, .int .i64 (IntKind.wrap .i64 (i + 1)))] 0 106)) [] [(0, OBlk.cells 97 z3)]))
 exec Try.prog ctP 900 (unroll (conK (cl9 cn cr cp cdl cps css cv p1 p2 p3 p4 pf p6 pw ph q1 q2 q3 q4 qf q6 qw qh r1 r2 r3 r4 rf r6 rw rh fl wa wb wc now clk rt st) l 1 2 i k)) =
 Tree.need ((0 : Int) ≤ 2 ∧ 2 < (↑3 : Int)) (.br (decide (k < (↑(D.len wc) : Int))) (.need ((0 : Int) ≤ 2 ∧ 2 < (↑(D.len l) : Int) ∧ D.sz l = 1) (.need (D.HasCell l 2 0 (FT.int .i64)) (.br (decide (k < D.getInt l 2 0))
 (.need ((0 : Int) ≤ 1 ∧ 1 < (↑3 : Int)) (.need (0 ≤ i ∧ i < (↑(D.len wb) : Int) ∧ D.sz wb = 4) (.need (D.HasCells wb (Int.toNat i) 0 [FT.int .i64, FT.int .i64, FT.int .i64, FT.int .i64]) (.all fun hs => .br
 (decide (D.getInt wb (Int.toNat i) 1 > 0)) (.br (decide (D.getInt wb (Int.toNat i) 1 < D.getInt wc (Int.toNat k) 0)) (.need (decide (D.getInt wb (Int.toNat i) 1 > 0) = true) (.need (decide (D.getInt wb
 (Int.toNat i) 1 > 0) = true) (.need (decide (D.getInt wb (Int.toNat i) 1 > 0) = true) (.need (decide (D.getInt wb (Int.toNat i) 1 > 0) = true) (.need (decide (D.getInt wb (Int.toNat i) 1 > 0) = true) (.need
 ((0 : Int) ≤ 2 ∧ 2 < (↑3 : Int)) (.need (decide (D.getInt wb (Int.toNat i) 1 > 0) = true) (.need (decide (D.getInt wb (Int.toNat i) 1 > 0) = true) (.need (decide (D.getInt wb (Int.toNat i) 1 > 0) = true)
 (.need (0 ≤ k ∧ k < (↑(D.len wc) : Int) ∧ D.sz wc = 4) (.need (decide (D.getInt wb (Int.toNat i) 1 > 0) = true) (.need (decide (D.getInt wb (Int.toNat i) 1 > 0) = true) (.need (D.HasCell wc (Int.toNat k) 0
 (FT.int .i64)) (.need (decide (D.getInt wb (Int.toNat i) 1 > 0) = true) (.need (decide (D.getInt wb (Int.toNat i) 1 > 0) = true) (.need (decide (D.getInt wb (Int.toNat i) 1 < D.getInt wc (Int.toNat k) 0) = true)
 (.need (decide (D.getInt wb (Int.toNat i) 1 < D.getInt wc (Int.toNat k) 0) = true) (.need (decide (D.getInt wb (Int.toNat i) 1 < D.getInt wc (Int.toNat k) 0) = true) (.need (decide (D.getInt wb (Int.toNat i) 1 < D.getInt wc
 (Int.toNat k) 0) = true) (.need ((0 : Int) ≤ 1 ∧ 1 < (↑(D.len l) : Int) ∧ D.sz l = 1) (.need (decide (D.getInt wb (Int.toNat i) 1 < D.getInt wc (Int.toNat k) 0) = true) (.need (D.HasCell l 1 0 (FT.int .i64))
 (.need (decide (D.getInt wb (Int.toNat i) 1 < D.getInt wc (Int.toNat k) 0) = true) (.need (decide (D.getInt wb (Int.toNat i) 1 < D.getInt wc (Int.toNat k) 0) = true) (.br (decide (i ≥ D.getInt l 1 0))
 (.ret (.lb false)) z1))))))))))))))))))))))))) (.need (decide (D.getInt wb (Int.toNat i) 1 > 0) = true) (.need (decide (D.getInt wb (Int.toNat i) 1 > 0) = true) (.need (decide (D.getInt wb (Int.toNat i) 1 > 0) = true)
 (.need (decide (D.getInt wb (Int.toNat i) 1 > 0) = true) (.need (decide (D.getInt wb (Int.toNat i) 1 > 0) = true) (.need ((0 : Int) ≤ 2 ∧ 2 < (↑3 : Int)) (.need (decide (D.getInt wb (Int.toNat i) 1 > 0) = true)
 (.need (decide (D.getInt wb (Int.toNat i) 1 > 0) = true) (.need (decide (D.getInt wb (Int.toNat i) 1 > 0) = true) (.need (0 ≤ k ∧ k < (↑(D.len wc) : Int) ∧ D.sz wc = 4) (.need (decide (D.getInt wb (Int.toNat i) 1 > 0) = true)
 (.need (decide (D.getInt wb (Int.toNat i) 1 > 0) = true) (.need (D.HasCell wc (Int.toNat k) 0 (FT.int .i64)) (.need (decide (D.getInt wb (Int.toNat i) 1 > 0) = true) (.need (decide (D.getInt wb (Int.toNat i) 1 > 0) = true)
 (.need (decide (D.getInt wb (Int.toNat i) 1 < D.getInt wc (Int.toNat k) 0) = false) (.need (decide (D.getInt wb (Int.toNat i) 1 < D.getInt wc (Int.toNat k) 0) = false) (.need (decide (D.getInt wb (Int.toNat i) 1 < D.getInt wc
 (Int.toNat k) 0) = false) (.need (decide (D.getInt wb (Int.toNat i) 1 < D.getInt wc (Int.toNat k) 0) = false) (.need (decide (D.getInt wb (Int.toNat i) 1 < D.getInt wc (Int.toNat k) 0) = false) (.need
 (decide (D.getInt wb (Int.toNat i) 1 < D.getInt wc (Int.toNat k) 0) = false) (.need (decide (D.getInt wb (Int.toNat i) 1 < D.getInt wc (Int.toNat k) 0) = false) z1))))))))))))))))))))))) (.need (decide
 (D.getInt wb (Int.toNat i) 1 > 0) = false) (.need (decide (D.getInt wb (Int.toNat i) 1 > 0) = false) (.need (decide (D.getInt wb (Int.toNat i) 1 > 0) = false) (.need (decide (D.getInt wb (Int.toNat i) 1 > 0) = false)
 (.need (decide (D.getInt wb (Int.toNat i) 1 > 0) = false) (.need (decide (D.getInt wb (Int.toNat i) 1 > 0) = false) (.need (decide (D.getInt wb (Int.toNat i) 1 > 0) = false) (.need (decide (D.getInt wb
 (Int.toNat i) 1 > 0) = false) (.need (decide (D.getInt wb (Int.toNat i) 1 > 0) = false) (.need (decide (D.getInt wb (Int.toNat i) 1 > 0) = false) (.need (decide (D.getInt wb (Int.toNat i) 1 > 0) = false)
 (.need (decide (D.getInt wb (Int.toNat i) 1 > 0) = false) z1)))))))))))))))) z2))) z2) := by
 intros; kernel_rfl

end
end Go.Proofs.Ytoechplbhbalaaa
end
section
open Go Go.Proofs Sx
namespace Go.Proofs.Ytoechplbhbalaaa
set_option maxRecDepth 100000
set_option maxHeartbeats 0
section
variable (cn cr cp cdl : Int) (cps css : D) (cv : Bool) (p1 p2 p3 p4 : Int) (pf : Bool) (p6 : Int) (pw ph : D) (q1 q2 q3 q4 : Int) (qf : Bool) (q6 : Int) (qw qh : D) (r1 r2 r3 r4 : Int) (rf : Bool) (r6 : Int) (rw rh : D) (fl wa wb wc : D) (now clk : Int) (rt : Bool) (st : Int) (l : D) (i k : Int)
theorem conK20_go : 
 let z3 : List SV := [.int .i64 cn, .int .i64 cr, .int .i64 cp, .int .i64 cdl, .dat cps, .dat css, .bool cv, .int .i64 p1, .int .i64 p2, .int .i64 p3, .int .i64 p4, .bool pf, .int .i64 p6, .dat pw, .dat ph, .int .i64 q1, .int .i64 q2, .int .i64 q3, .int .i64 q4, .bool qf, .int .i64 q6, .dat qw, .dat qh, .int .i64 r1, .int .i64 r2, .int .i64 r3, .int .i64 r4, .bool rf, .int .i64 r6, .dat rw, .dat rh, .dat fl, .dat wa, .dat wb, .dat wc, .int .i64 now, .int .i64 clk, .bool rt, .int .i64 st]
 let z1 : Tree := (.leaf (Conf.mk (SFrm.mk 46 none none [Item.inLoop (cAt Try.prog 46 [1, 1, 0, 1, 0, 0, 1, 0, 0, 1, 0, 0, 1, 0, 0, 1, 0, 0, 1, 0, 0, 1, 0, 0]), Item.inBlock 6, Item.inBlock 5, Item.code (cAt Try.prog 46 [1, 1, 0, 1, 0, 0, 1, 0, 0, 1, 0, 0, 1, 0, 0, 1, 0, 0, 1, 1]), Item.inLoop (cAt Try.prog 46 [1, 1, 0, 1, 0, 0, 1, 0, 0, 1, 0, 0, 1, 0, 0, 1, 0, 0]), Item.inBlock 4, Item.inBlock 3, Item.code (cAt Try.prog 46 [1, 1, 0, 1, 0, 0, 1, 0, 0, 1, 0, 0, 1, 1]), Item.inLoop (cAt Try.prog 46 [1, 1, 0, 1, 0, 0, 1, 0, 0, 1, 0, 0]), Item.inBlock 2, Item.inBlock 1, Item.code (cAt Try.prog 46 [1, 1, 0, 1, 0, 0, 1, 1]), Item.inLoop (cAt Try.prog 46 [1, 1, 0, 1, 0, 0]), Item.inBlock 0, Item.code (cAt Try.prog 46 [1, 1, 1])] (mkJ 0 [(1, .dat l), (2, .ptr 0 0), (5, .int .i64 2), (6, .int .i64 0), (7, .int .i64 i), (8, .int .i64 (IntKind.wrap .i64 (k + 1)))] 0 106)) [] [(0, OBlk.cells 97 z3)]))
 let z2 : Tree := (.leaf (Conf.mk (SFrm.mk 46 none none [Item.inLoop (cAt Try.prog 46 [1, 1, 0, 1, 0, 0, 1, 0, 0, 1, 0, 0, 1, 0, 0, 1, 0, 0]), Item.inBlock 4, Item.inBlock 3, Item.code (cAt Try.prog 46 [1, 1, 0, 1, 0, 0, 1, 0, 0, 1, 0, 0, 1, 1]), Item.inLoop (cAt Try.prog 46 [1, 1, 0, 1, 0, 0, 1, 0, 0, 1, 0, 0]), Item.inBlock 2, Item.inBlock 1, Item.code (cAt Try.prog 46 [1, 1, 0, 1, 0, 0, 1, 1]), Item.inLoop (cAt Try.prog 46 [1, 1, 0, 1, 0, 0]), Item.inBlock 0, Item.code (cAt Try.prog 46 [1, 1, 1])] (mkJ 0 [(1, .dat l), (2, .ptr 0 0), (5, .int .i64 2), (6, .int .i64 0), (7, .int .i64 (IntKind.wrap .i64 (i + 1)))] 0 106)) [] [(0, OBlk.cells 97 z3)]))
 exec Try.prog ctP 900 (unroll (conK (cl9 cn cr cp cdl cps css cv p1 p2 p3 p4 pf p6 pw ph q1 q2 q3 q4 qf q6 qw qh r1 r2 r3 r4 rf r6 rw rh fl wa wb wc now clk rt st) l 2 0 i k)) =
 Tree.need ((0 : Int) ≤ 0 ∧ 0 < (↑3 : Int)) (.br (decide (k < (↑(D.len wa) : Int))) (.need ((0 : Int) ≤ 0 ∧ 0 < (↑(D.len l) : Int) ∧ D.sz l = 1) (.need (D.HasCell l 0 0 (FT.int .i64)) (.br (decide (k < D.getInt l 0 0))
 (.need ((0 : Int) ≤ 2 ∧ 2 < (↑3 : Int)) (.need (0 ≤ i ∧ i < (↑(D.len wc) : Int) ∧ D.sz wc = 4) (.need (D.HasCells wc (Int.toNat i) 0 [FT.int .i64, FT.int .i64, FT.int .i64, FT.int .i64]) (.all fun hs => .br
 (decide (D.getInt wc (Int.toNat i) 1 > 0)) (.br (decide (D.getInt wc (Int.toNat i) 1 < D.getInt wa (Int.toNat k) 0)) (.need (decide (D.getInt wc (Int.toNat i) 1 > 0) = true) (.need (decide (D.getInt wc
 (Int.toNat i) 1 > 0) = true) (.need (decide (D.getInt wc (Int.toNat i) 1 > 0) = true) (.need (decide (D.getInt wc (Int.toNat i) 1 > 0) = true) (.need (decide (D.getInt wc (Int.toNat i) 1 > 0) = true) (.need
 ((0 : Int) ≤ 0 ∧ 0 < (↑3 : Int)) (.need (decide (D.getInt wc (Int.toNat i) 1 > 0) = true) (.need (decide (D.getInt wc (Int.toNat i) 1 > 0) = true) (.need (decide (D.getInt wc (Int.toNat i) 1 > 0) = true)
 (.need (0 ≤ k ∧ k < (↑(D.len wa) : Int) ∧ D.sz wa = 4) (.need (decide (D.getInt wc (Int.toNat i) 1 > 0) = true) (.need (decide (D.getInt wc (Int.toNat i) 1 > 0) = true) (.need (D.HasCell wa (Int.toNat k) 0
 (FT.int .i64)) (.need (decide (D.getInt wc (Int.toNat i) 1 > 0) = true) (.need (decide (D.getInt wc (Int.toNat i) 1 > 0) = true) (.need (decide (D.getInt wc (Int.toNat i) 1 < D.getInt wa (Int.toNat k) 0) = true)
 (.need (decide (D.getInt wc (Int.toNat i) 1 < D.getInt wa (Int.toNat k) 0) = true) (.need (decide (D.getInt wc (Int.toNat i) 1 < D.getInt wa (Int.toNat k) 0) = true) (.need (decide (D.getInt wc (Int.toNat i) 1 < D.getInt wa
 (Int.toNat k) 0) = true) (.need ((0 : Int) ≤ 2 ∧ 2 < (↑(D.len l) : Int) ∧ D.sz l = 1) (.need (decide (D.getInt wc (Int.toNat i) 1 < D.getInt wa (Int.toNat k) 0) = true) (.need (D.HasCell l 2 0 (FT.int .i64))
 (.need (decide (D.getInt wc (Int.toNat i) 1 < D.getInt wa (Int.toNat k) 0) = true) (.need (decide (D.getInt wc (Int.toNat i) 1 < D.getInt wa (Int.toNat k) 0) = true) (.br (decide (i ≥ D.getInt l 2 0))
 (.ret (.lb false)) z1))))))))))))))))))))))))) (.need (decide (D.getInt wc (Int.toNat i) 1 > 0) = true) (.need (decide (D.getInt wc (Int.toNat i) 1 > 0) = true) (.need (decide (D.getInt wc (Int.toNat i) 1 > 0) = true)
 (.need (decide (D.getInt wc (Int.toNat i) 1 > 0) = true) (.need (decide (D.getInt wc (Int.toNat i) 1 > 0) = true) (.need ((0 : Int) ≤ 0 ∧ 0 < (↑3 : Int)) (.need (decide (D.getInt wc (Int.toNat i) 1 > 0) = true)
 (.need (decide (D.getInt wc (Int.toNat i) 1 > 0) = true) (.need (decide (D.getInt wc (Int.toNat i) 1 > 0) = true) (.need (0 ≤ k ∧ k < (↑(D.len wa) : Int) ∧ D.sz wa = 4) (.need (decide (D.getInt wc (Int.toNat i) 1 > 0) = true)
 (.need (decide (D.getInt wc (Int.toNat i) 1 > 0) = true) (.need (D.HasCell wa (Int.toNat k) 0 (FT.int .i64)) (.need (decide (D.getInt wc (Int.toNat i) 1 > 0) = true) (.need (decide (D.getInt wc (Int.toNat i) 1 > 0) = true)
 (.need (decide (D.getInt wc (Int.toNat i) 1 < D.getInt wa (Int.toNat k) 0) = false) (.need (decide (D.getInt wc (Int.toNat i) 1 < D.getInt wa (Int.toNat k) 0) = false) (.need (decide (D.getInt wc (Int.toNat i) 1 < D.getInt wa
 (Int.toNat k) 0) = false) (.need (decide (D.getInt wc (Int.toNat i) 1 < D.getInt wa (Int.toNat k) 0) = false) (.need (decide (D.getInt wc (Int.toNat i) 1 < D.getInt wa (Int.toNat k) 0) = false) (.need
 (decide (D.getInt wc (Int.toNat i) 1 < D.getInt wa (Int.toNat k) 0) = false) (.need (decide (D.getInt wc (Int.toNat i) 1 < D.getInt wa (Int.toNat k) 0) = false) z1))))))))))))))))))))))) (.need (decide
 (D.getInt wc (Int.toNat i) 1 > 0) = false) (.need (decide (D.getInt wc (Int.toNat i) 1 > 0) = false) (.need (decide (D.getInt wc (Int.toNat i) 1 > 0) = false) (.need (decide (D.getInt wc (Int.toNat i) 1 > 0) = false)
 (.need (decide (D.getInt wc (Int.toNat i) 1 > 0) = false) (.need (decide (D.getInt wc (Int.toNat i) 1 > 0) = false) (.need (decide (D.getInt wc (Int.toNat i) 1 > 0) = false) (.need (decide (D.getInt wc
 (Int.toNat i) 1 > 0) = false) (.need (decide (D.getInt wc (Int.toNat i) 1 > 0) = false) (.need (decide (D.getInt wc (Int.toNat i) 1 > 0) = false) (.need (decide (D.getInt wc (Int.toNat i) 1 > 0) = false)
 (.need (decide (D.getInt wc (Int.toNat i) 1 > 0) = false) z1)))))))))))))))) z2))) z2) := by
 intros; kernel_rfl

theorem conK21_go : 
 let z3 : List SV := [.int .i64 cn, .int .i64 cr, .int .i64 cp, .int .i64 cdl, .dat cps, .dat css, .bool cv, .int .i64 p1, .int .i64 p2, .int .i64 p3, .int .i64 p4, .bool pf, .int .i64 p6, .dat pw, .dat ph, .int .i64 q1, .int .i64 q2, .int .i64 q3, .int .i64 q4, .bool qf, .int .i64 q6, .dat qw, .dat qh, .int .i64 r1, .int .i64 r2, .int .i64 r3, .int .i64 r4, .bool rf, .int .i64 r6, .dat rw, .dat rh, .dat fl, .dat wa, .dat wb, .dat wc, .int .i64 now, .int .i64 clk, .bool rt, .int .i64 st]
 let z1 : Tree := (.leaf (Conf.mk (SFrm.mk 46 none none [Item.inLoop (cAt Try.prog 46 [1, 1, 0, 1, 0, 0, 1, 0, 0, 1, 0, 0, 1, 0, 0, 1, 0, 0, 1, 0, 0, 1, 0, 0]), Item.inBlock 6, Item.inBlock 5, Item.code (cAt Try.prog 46 [1, 1, 0, 1, 0, 0, 1, 0, 0, 1, 0, 0, 1, 0, 0, 1, 0, 0, 1, 1]), Item.inLoop (cAt Try.prog 46 [1, 1, 0, 1, 0, 0, 1, 0, 0, 1, 0, 0, 1, 0, 0, 1, 0, 0]), Item.inBlock 4, Item.inBlock 3, Item.code (cAt Try.prog 46 [1, 1, 0, 1, 0, 0, 1, 0, 0, 1, 0, 0, 1, 1]), Item.inLoop (cAt Try.prog 46 [1, 1, 0, 1, 0, 0, 1, 0, 0, 1, 0, 0]), Item.inBlock 2, Item.inBlock 1, Item.code (cAt Try.prog 46 [1, 1, 0, 1, 0, 0, 1, 1]), Item.inLoop (cAt Try.prog 46 [1, 1, 0, 1, 0, 0]), Item.inBlock 0, Item.code (cAt Try.prog 46 [1, 1, 1])] (mkJ 0 [(1, .dat l), (2, .ptr 0 0), (5, .int .i64 2), (6, .int .i64 1), (7, .int .i64 i), (8, .int .i64 (IntKind.wrap .i64 (k + 1)))] 0 106)) [] [(0, OBlk.cells 97 z3)]))
 let z2 : Tree := (.leaf (Conf.mk (SFrm.mk 46 none none [Item.inLoop (cAt Try.prog 46 [1, 1, 0, 1, 0, 0, 1, 0, 0, 1, 0, 0, 1, 0, 0, 1, 0, 0]), Item.inBlock 4, Item.inBlock 3, Item.code (cAt Try.prog 46 [1, 1, 0, 1, 0, 0, 1, 0, 0, 1, 0, 0, 1, 1]), Item.inLoop (cAt Try.prog 46 [1, 1, 0, 1, 0, 0, 1, 0, 0, 1, 0, 0]), Item.inBlock 2, Item.inBlock 1, Item.code (cAt Try.prog 46 [1, 1, 0, 1, 0, 0, 1, 1]), Item.inLoop (cAt Try.prog 46 [1, 1, 0, 1, 0, 0]), Item.inBlock 0, Item.code (cAt Try.prog 46 [1, 1, 1])] (mkJ 0 [(1, .dat l), (2, .ptr 0 0), (5, .int .i64 2), (6, .int .i64 1), (7, .int .i64 (IntKind.wrap .i64 (i + 1)))] 0 106)) [] [(0, OBlk.cells 97 z3)]))
 exec Try.prog ctP 900 (unroll (conK (cl9 cn cr cp cdl cps css cv p1 p2 p3 p4 pf p6 pw ph q1 q2 q3 q4 qf q6 qw qh r1 r2 r3 r4 rf r6 rw rh fl wa wb wc now clk rt st) l 2 1 i k)) =
 Tree.need ((0 : Int) ≤ 1 ∧ 1 < (↑3 : Int)) (.br (decide (k < (↑(D.len wb) : Int))) (.need ((0 : Int) ≤ 1 ∧ 1 < (↑(D.len l) : Int) ∧ D.sz l = 1) (.need (D.HasCell l 1 0 (FT.int .i64)) (.br (decide (k < D.getInt l 1 0))
 (.need ((0 : Int) ≤ 2 ∧ 2 < (↑3 : Int)) (.need (0 ≤ i ∧ i < (↑(D.len wc) : Int) ∧ D.sz wc = 4) (.need (D.HasCells wc (Int.toNat i) 0 [FT.int .i64, FT.int .i64, FT.int .i64, FT.int .i64]) (.all fun hs => .br
 (decide (D.getInt wc (Int.toNat i) 1 > 0)) (.br (decide (D.getInt wc (Int.toNat i) 1 < D.getInt wb (Int.toNat k) 0)) (.need (decide (D.getInt wc (Int.toNat i) 1 > 0) = true) (.need (decide (D.getInt wc
 (Int.toNat i) 1 > 0) = true) (.need (decide (D.getInt wc (Int.toNat i) 1 > 0) = true) (.need (decide (D.getInt wc (Int.toNat i) 1 > 0) = true) (.need (decide (D.getInt wc (Int.toNat i) 1 > 0) = true) (.need
 ((0 : Int) ≤ 1 ∧ 1 < (↑3 : Int)) (.need (decide (D.getInt wc (Int.toNat i) 1 > 0) = true) (.need (decide (D.getInt wc (Int.toNat i) 1 > 0) = true) (.need (decide (D.getInt wc (Int.toNat i) 1 > 0) = true)
 (.need (0 ≤ k ∧ k < (↑(D.len wb) : Int) ∧ D.sz wb = 4) (.need (decide (D.getInt wc (Int.toNat i) 1 > 0) = true) (.need (decide (D.getInt wc (Int.toNat i) 1 > 0) = true) (.need (D.HasCell wb (Int.toNat k) 0
 (FT.int .i64)) (.need (decide (D.getInt wc (Int.toNat i) 1 > 0) = true) (.need (decide (D.getInt wc (Int.toNat i) 1 > 0) = true) (.need (decide (D.getInt wc (Int.toNat i) 1 < D.getInt wb (Int.toNat k) 0) = true)
 (.need (decide (D.getInt wc (Int.toNat i) 1 < D.getInt wb (Int.toNat k) 0) = true) (.need (decide (D.getInt wc (Int.toNat i) 1 < D.getInt wb (Int.toNat k) 0) = true) (.need (decide (D.getInt wc (Int.toNat i) 1 < D.getInt wb
 (Int.toNat k) 0) = true) (.need ((0 : Int) ≤ 2 ∧ 2 < (↑(D.len l) : Int) ∧ D.sz l = 1) (.need (decide (D.getInt wc (Int.toNat i) 1 < D.getInt wb (Int.toNat k) 0) = true) (.need (D.HasCell l 2 0 (FT.int .i64))
 (.need (decide (D.getInt wc (Int.toNat i) 1 < D.getInt wb (Int.toNat k) 0) = true) (.need (decide (D.getInt wc (Int.toNat i) 1 < D.getInt wb (Int.toNat k) 0) = true) (.br (decide (i ≥ D.getInt l 2 0))
 (.ret (.lb false)) z1))))))))))))))))))))))))) (.need (decide (D.getInt wc (Int.toNat i) 1 > 0) = true) (.need (decide (D.getInt wc (Int.toNat i) 1 > 0) = true) (.need (decide (D.getInt wc (Int.toNat i) 1 > 0) = true)
 (.need (decide (D.getInt wc (Int.toNat i) 1 > 0) = true) (.need (decide (D.getInt wc (Int.toNat i) 1 > 0) = true) (.need ((0 : Int) ≤ 1 ∧ 1 < (↑3 : Int)) (.need (decide (D.getInt wc (Int.toNat i) 1 > 0) = true)
 (.need (decide (D.getInt wc (Int.toNat i) 1 > 0) = true) (.need (decide (D.getInt wc (Int.toNat i) 1 > 0) = true) (.need (0 ≤ k ∧ k < (↑(D.len wb) : Int) ∧ D.sz wb = 4) (.need (decide (D.getInt wc (Int.toNat i) 1 > 0) = true)
 (.need (decide (D.getInt wc (Int.toNat i) 1 > 0) = true) (.need (D.HasCell wb (Int.toNat k) 0 (FT.int .i64)) (.need (decide (D.getInt wc (Int.toNat i) 1 > 0) = true) (.need (decide (D.getInt wc (Int.toNat i) 1 > 0) = true)
 (.need (decide (D.getInt wc (Int.toNat i) 1 < D.getInt wb (Int.toNat k) 0) = false) (.need (decide (D.getInt wc (Int.toNat i) 1 < D.getInt wb (Int.toNat k) 0) = false) (.need (decide (D.getInt wc (Int.toNat i) 1 < D.getInt wb
 (Int.toNat k) 0) = false) (.need (decide (D.getInt wc (Int.toNat i) 1 < D.getInt wb (Int.toNat k) 0) = false) (.need (decide (D.getInt wc (Int.toNat i) 1 < D.getInt wb (Int.toNat k) 0) = false) (.need
 (decide (D.getInt wc (Int.toNat i) 1 < D.getInt wb (Int.toNat k) 0) = false) (.need (decide (D.getInt wc (Int.toNat i) 1 < D.getInt wb (Int.toNat k) 0) = false) z1))))))))))))))))))))))) (.need (decide
 (D.getInt wc (Int.toNat i) 1 > 0) = false) (.need (decide (D.getInt wc (Int.toNat i) 1 > 0) = false) (.need (decide (D.getInt wc (Int.toNat i) 1 > 0) = false) (.need (decide (D.getInt wc (Int.toNat i) 1 > 0) = false)
 (.need (decide (D.getInt wc (Int.toNat i) 1 > 0) = false) (.need (decide (D.getInt wc (Int.toNat i) 1 > 0) = false) (.need (decide (D.getInt wc (Int.toNat i) 1 > 0) = false) (.need (decide (D.getInt wc
 (Int.toNat i) 1 > 0) = false) (.need (decide (D.getInt wc (Int.toNat i) 1 > 0) = false) (.need (decide (D.getInt wc (Int.toNat i) 1 > 0) = false) (.need (decide (D.getInt wc (Int.toNat i) 1 > 0) = false)
 (.need (decide (D.getInt wc (Int.toNat i) 1 > 0) = false) z1)))))))))))))))) z2))) z2) := by
 intros; kernel_rfl

theorem conK22_go : 
 let z3 : List SV := [.int .i64 cn, .int .i64 cr, .int .i64 cp, .int .i64 cdl, .dat cps, .dat css, .bool cv, .int .i64 p1, .int .i64 p2, .int .i64 p3, .int .i64 p4, .bool pf, .int .i64 p6, .dat pw, .dat ph, .int .i64 q1, .int .i64 q2, .int .i64 q3, .int .i64 q4, .bool qf, .int .i64 q6, .dat qw, .dat qh, .int .i64 r1, .int .i64 r2, .int .i64 r3, .int .i64 r4, .bool rf, .int .i64 r6, .dat rw, .dat rh, .dat fl, .dat wa, .dat wb, .dat wc, .int .i64 now, .int .i64 clk, .bool rt, .int .i64 st]
 let z1 : Tree := (.leaf (Conf.mk (SFrm.mk 46 none none [Item.inLoop (cAt Try.prog 46 [1, 1, 0, 1, 0, 0, 1, 0, 0, 1, 0, 0, 1, 0, 0, 1, 0, 0, 1, 0, 0, 1, 0, 0]), Item.inBlock 6, Item.inBlock 5, Item.code (cAt Try.prog 46 [1, 1, 0, 1, 0, 0, 1, 0, 0, 1, 0, 0, 1, 0, 0, 1, 0, 0, 1, 1]), Item.inLoop (cAt Try.prog 46 [1, 1, 0, 1, 0, 0, 1, 0, 0, 1, 0, 0, 1, 0, 0, 1, 0, 0]), Item.inBlock 4, Item.inBlock 3, Item.code (cAt Try.prog 46 [1, 1, 0, 1, 0, 0, 1, 0, 0, 1, 0, 0, 1, 1]), Item.inLoop (cAt Try.prog 46 [1, 1, 0, 1, 0, 0, 1, 0, 0, 1, 0, 0]), Item.inBlock 2, Item.inBlock 1, Item.code (cAt Try.prog 46 [1, 1, 0, 1, 0, 0, 1, 1]), Item.inLoop (cAt Try.prog 46 [1, 1, 0, 1, 0, 0]), Item.inBlock 0, Item.code (cAt Try.prog 46 [1, 1, 1])] (mkJ 0 [(1, .dat l), (2, .ptr 0 0), (5, .int .i64 2), (6, .int .i64 2), (7, .int .i64 i), (8, .int .i64 (IntKind.wrap .i64 (k + 1)))] 0 106)) [] [(0, OBlk.cells 97 z3)]))
 let z2 : Tree := (.leaf (Conf.mk (SFrm.mk 46 none none [Item.inLoop (cAt Try.prog 46 [1, 1, 0, 1, 0, 0, 1, 0, 0, 1, 0, 0, 1, 0, 0, 1, 0, 0]), Item.inBlock 4, Item.inBlock 3, Item.code (cAt Try.prog 46 [1, 1, 0, 1, 0, 0, 1, 0, 0, 1, 0, 0, 1, 1]), Item.inLoop (cAt Try.prog 46 [1, 1, 0, 1, 0, 0, 1, 0, 0, 1, 0, 0]), Item.inBlock 2, Item.inBlock 1, Item.code (cAt Try.prog 46 [1, 1, 0, 1, 0, 0, 1, 1]), Item.inLoop (cAt Try.prog 46 [1, 1, 0, 1, 0, 0]), Item.inBlock 0, Item.code (cAt Try.prog 46 [1, 1, 1])] (mkJ 0 [(1, .dat l), (2, .ptr 0 0), (5, .int .i64 2), (6, .int .i64 2), (7, .int .i64 (IntKind.wrap .i64 (i + 1)))] 0 106)) [] [(0, OBlk.cells 97 z3)]))
 exec Try.prog ctP 900 (unroll (conK (cl9 cn cr cp cdl cps css cv p1 p2 p3 p4 pf p6 pw ph q1 q2 q3 q4 qf q6 qw qh r1 r2 r3 r4 rf r6 rw rh fl wa wb wc now clk rt st) l 2 2 i k)) =
 Tree.need ((0 : Int) ≤ 2 ∧ 2 < (↑3 : Int)) (.br (decide (k < (↑(D.len wc) : Int))) (.need ((0 : Int) ≤ 2 ∧ 2 < (↑(D.len l) : Int) ∧ D.sz l = 1) (.need (D.HasCell l 2 0 (FT.int .i64)) (.br (decide (k < D.getInt l 2 0))
 (.need ((0 : Int) ≤ 2 ∧ 2 < (↑3 : Int)) (.need (0 ≤ i ∧ i < (↑(D.len wc) : Int) ∧ D.sz wc = 4) (.need (D.HasCells wc (Int.toNat i) 0 [FT.int .i64, FT.int .i64, FT.int .i64, FT.int .i64]) (.all fun hs => .br
 (decide (D.getInt wc (Int.toNat i) 1 > 0)) (.br (decide (D.getInt wc (Int.toNat i) 1 < D.getInt wc (Int.toNat k) 0)) (.need (decide (D.getInt wc (Int.toNat i) 1 > 0) = true) (.need (decide (D.getInt wc
 (Int.toNat i) 1 > 0) = true) (.need (decide (D.getInt wc (Int.toNat i) 1 > 0) = true) (.need (decide (D.getInt wc (Int.toNat i) 1 > 0) = true) (.need (decide (D.getInt wc (Int.toNat i) 1 > 0) = true) (.need
 ((0 : Int) ≤ 2 ∧ 2 < (↑3 : Int)) (.need (decide (D.getInt wc (Int.toNat i) 1 > 0) = true) (.need (decide (D.getInt wc (Int.toNat i) 1 > 0) = true) (.need (decide (D.getInt wc (Int.toNat i) 1 > 0) = true)
 (.need (0 ≤ k ∧ k < (↑(D.len wc) : Int) ∧ D.sz wc = 4) (.need (decide (D.getInt wc (Int.toNat i) 1 > 0) = true) (.need (decide (D.getInt wc (Int.toNat i) 1 > 0) = true) (.need (D.HasCell wc (Int.toNat k) 0
 (FT.int .i64)) (.need (decide (D.getInt wc (Int.toNat i) 1 > 0) = true) (.need (decide (D.getInt wc (Int.toNat i) 1 > 0) = true) (.need (decide (D.getInt wc (Int.toNat i) 1 < D.getInt wc (Int.toNat k) 0) = true)
 (.need (decide (D.getInt wc (Int.toNat i) 1 < D.getInt wc (Int.toNat k) 0) = true) (.need (decide (D.getInt wc (Int.toNat i) 1 < D.getInt wc (Int.toNat k) 0) = true) (.need (decide (D.getInt wc (Int.toNat i) 1 < D.getInt wc
 (Int.toNat k) 0) = true) (.need ((0 : Int) ≤ 2 ∧ 2 < (↑(D.len l) : Int) ∧ D.sz l = 1) (.need (decide (D.getInt wc (Int.toNat i) 1 < D.getInt wc (Int.toNat k) 0) = true) (.need (D.HasCell l 2 0 (FT.int .i64))
 (.need (decide (D.getInt wc (Int.toNat i) 1 < D.getInt wc (Int.toNat k) 0) = true) (.need (decide (D.getInt wc (Int.toNat i) 1 < D.getInt wc (Int.toNat k) 0) = true) (.br (decide (i ≥ D.getInt l 2 0))
 (.ret (.lb false)) z1))))))))))))))))))))))))) (.need (decide (D.getInt wc (Int.toNat i) 1 > 0) = true) (.need (decide (D.getInt wc (Int.toNat i) 1 > 0) = true) (.need (decide (D.getInt wc (Int.toNat i) 1 > 0) = true)
 (.need (decide (D.getInt wc (Int.toNat i) 1 > 0) = true) (.need (decide (D.getInt wc (Int.toNat i) 1 > 0) = true) (.need ((0 : Int) ≤ 2 ∧ 2 < (↑3 : Int)) (.need (decide (D.getInt wc (Int.toNat i) 1 > 0) = true)
 (.need (decide (D.getInt wc (Int.toNat i) 1 > 0) = true) (.need (decide (D.getInt wc (Int.toNat i) 1 > 0) = true) (.need (0 ≤ k ∧ k < (↑(D.len wc) : Int) ∧ D.sz wc = 4) (.need (decide (D.getInt wc (Int.toNat i) 1 > 0) = true)
 (.need (decide (D.getInt wc (Int.toNat i) 1 > 0) = true) (.need (D.HasCell wc (Int.toNat k) 0 (FT.int .i64)) (.need (decide (D.getInt wc (Int.toNat i) 1 > 0) = true) (.need (decide (D.getInt wc (Int.toNat i) 1 > 0) = true)
 (.need (decide (D.getInt wc (Int.toNat i) 1 < D.getInt wc (Int.toNat k) 0) = false) (.need (decide (D.getInt wc (Int.toNat i) 1 < D.getInt wc (Int.toNat k) 0) = false) (.need (decide (D.getInt wc (Int.toNat i) 1 < D.getInt wc
 (Int.toNat k) 0) = false) (.need (decide (D.getInt wc (Int.toNat i) 1 < D.getInt wc (Int.toNat k) 0) = false) (.need (decide (D.getInt wc (Int.toNat i) 1 < D.getInt wc (Int.toNat k) 0) = false) (.need
 (decide (D.getInt wc (Int.toNat i) 1 < D.getInt wc (Int.toNat k) 0) = false) (.need (decide (D.getInt wc (Int.toNat i) 1 < D.getInt wc (Int.toNat k) 0) = false) z1))))))))))))))))))))))) (.need (decide
 (D.getInt wc (Int.toNat i) 1 > 0) = false) (.need (decide (D.getInt wc (Int.toNat i) 1 > 0) = false) (.need (decide (D.getInt wc (Int.toNat i) 1 > 0) = false) (.need (decide (D.getInt wc (Int.toNat i) 1 > 0) = false)
 (.need (decide (D.getInt wc (Int.toNat i) 1 > 0) = false) (.need (decide (D.getInt wc (Int.toNat i) 1 > 0) = false) (.need (decide (D.getInt wc (Int.toNat i) 1 > 0) = false) (.need (decide (D.getInt wc
 (Int.toNat i) 1 > 0) = false) (.need (decide (D.getInt wc (Int.toNat i) 1 > 0) = false) (.need (decide (D.getInt wc (Int.toNat i) 1 > 0) = false) (.need (decide (D.getInt wc (Int.toNat i) 1 > 0) = false)
 (.need (decide (D.getInt wc (Int.toNat i) 1 > 0) = false) z1)))))))))))))))) z2))) z2) := by
 intros; kernel_rfl

end
end Go.Proofs.Ytoechplbhbalaaa
end
