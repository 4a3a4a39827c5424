/- Layer 21: the law of step. -/
import Derived.Test.YtoechplbhbalaaaBW22gtoBW28g
import Derived.KernelRfl
import Derived.Test.YtoechplbhbalaaaBrtoSp
import Derived.Test.YtoechplbhbalaaaBW9gtoBW24
set_option linter.all false
section
open Go Go.Proofs Sx
namespace Sx
theorem issue_bool {rt : Bool} {a : Int} {n m : Nat} (h : rt = true) (hl : n = m) : (rt && decide (a = (m : Int))) = decide (a = (n : Int)) := by rw [h, hl, Bool.true_and]
theorem tmod7 {k a b : Int} (h : Int.tmod k 7 = a) (hab : a ≠ b) : ¬Int.tmod k 7 = b := fun h2 => hab (h.symm.trans h2)
end Sx
namespace Go.Proofs.Ytoechplbhbalaaa
set_option maxRecDepth 100000
set_option maxHeartbeats 0

theorem clk_eq {cn cr cp cdl : Int} {cps css : D} {cv : Bool} {p1 p2 p3 p4 : Int} {pf : Bool} {p6 : Int} {pw ph : D} {q1 q2 q3 q4 : Int} {qf : Bool} {q6 : Int} {qw qh : D} {r1 r2 r3 r4 : Int} {rf : Bool} {r6 : Int} {rw rh : D} {fl wa wb wc : D} {now clk : Int} {rt : Bool} {st : Int} : ({ (grOf (cv9 cn cr cp cdl cps css cv p1 p2 p3 p4 pf p6 pw ph q1 q2 q3 q4 qf q6 qw qh r1 r2 r3 r4 rf r6 rw rh fl wa wb wc now clk rt st)) with clock := IntKind.i64.wrap ((grOf (cv9 cn cr cp cdl cps css cv p1 p2 p3 p4 pf p6 pw ph q1 q2 q3 q4 qf q6 qw qh r1 r2 r3 r4 rf r6 rw rh fl wa wb wc now clk rt st)).clock + 1) } : Gr) = grOf (CV.int cn :: CV.int cr :: CV.int cp :: CV.int cdl :: CV.dat cps :: CV.dat css :: CV.bool cv :: CV.int p1 :: CV.int p2 :: CV.int p3 :: CV.int p4 :: CV.bool pf :: CV.int p6 :: CV.dat pw :: CV.dat ph :: CV.int q1 :: CV.int q2 :: CV.int q3 :: CV.int q4 :: CV.bool qf :: CV.int q6 :: CV.dat qw :: CV.dat qh :: CV.int r1 :: CV.int r2 :: CV.int r3 :: CV.int r4 :: CV.bool rf :: CV.int r6 :: CV.dat rw :: CV.dat rh :: CV.dat fl :: CV.dat wa :: CV.dat wb :: CV.dat wc :: CV.int now :: CV.int (IntKind.i64.wrap (clk + 1)) :: CV.bool rt :: CV.int st :: []) := by
 rw [grOf_eq, grOf_eq]
theorem clk_right {cn cr cp cdl : Int} {cps css : D} {cv : Bool} {p1 p2 p3 p4 : Int} {pf : Bool} {p6 : Int} {pw ph : D} {q1 q2 q3 q4 : Int} {qf : Bool} {q6 : Int} {qw qh : D} {r1 r2 r3 r4 : Int} {rf : Bool} {r6 : Int} {rw rh : D} {fl wa wb wc : D} {now clk : Int} {rt : Bool} {st : Int} (h : GrRight (cv9 cn cr cp cdl cps css cv p1 p2 p3 p4 pf p6 pw ph q1 q2 q3 q4 qf q6 qw qh r1 r2 r3 r4 rf r6 rw rh fl wa wb wc now clk rt st)) : GrRight (CV.int cn :: CV.int cr :: CV.int cp :: CV.int cdl :: CV.dat cps :: CV.dat css :: CV.bool cv :: CV.int p1 :: CV.int p2 :: CV.int p3 :: CV.int p4 :: CV.bool pf :: CV.int p6 :: CV.dat pw :: CV.dat ph :: CV.int q1 :: CV.int q2 :: CV.int q3 :: CV.int q4 :: CV.bool qf :: CV.int q6 :: CV.dat qw :: CV.dat qh :: CV.int r1 :: CV.int r2 :: CV.int r3 :: CV.int r4 :: CV.bool rf :: CV.int r6 :: CV.dat rw :: CV.dat rh :: CV.dat fl :: CV.dat wa :: CV.dat wb :: CV.dat wc :: CV.int now :: CV.int (IntKind.i64.wrap (clk + 1)) :: CV.bool rt :: CV.int st :: []) := by
 rw [grRight_eq] at h ⊢
 exact h

theorem step0_run {w : World} {H : HV} {cn cr cp cdl : Int} {cps css : D} {cv : Bool} {p1 p2 p3 p4 : Int} {pf : Bool} {p6 : Int} {pw ph : D} {q1 q2 q3 q4 : Int} {qf : Bool} {q6 : Int} {qw qh : D} {r1 r2 r3 r4 : Int} {rf : Bool} {r6 : Int} {rw rh : D} {fl wa wb wc : D} {now clk : Int} {rt : Bool} {st : Int} {ek en ew : Int} (hek : U8 ek) (hen : U8 en) (hew : U8 ew) (hR : GrRight (cv9 cn cr cp cdl cps css cv p1 p2 p3 p4 pf p6 pw ph q1 q2 q3 q4 qf q6 qw qh r1 r2 r3 r4 rf r6 rw rh fl wa wb wc now clk rt st)) (hf9 : (grOf (cv9 cn cr cp cdl cps css cv p1 p2 p3 p4 pf p6 pw ph q1 q2 q3 q4 qf q6 qw qh r1 r2 r3 r4 rf r6 rw rh fl wa wb wc now clk rt st)).flight.length ≤ 999000) (hr : (Sx.stepG (grOf (cv9 cn cr cp cdl cps css cv p1 p2 p3 p4 pf p6 pw ph q1 q2 q3 q4 qf q6 qw qh r1 r2 r3 r4 rf r6 rw rh fl wa wb wc now clk rt st)) ek 0 en ew).right = true) :
  Runs Try.prog ⟨w, H⟩ (stepL cn cr cp cdl cps css cv p1 p2 p3 p4 pf p6 pw ph q1 q2 q3 q4 qf q6 qw qh r1 r2 r3 r4 rf r6 rw rh fl wa wb wc now clk rt st ek en ew 0) (RetD w H fun ds => .agg (svOf ds 0 (Sx.stepG (grOf (cv9 cn cr cp cdl cps css cv p1 p2 p3 p4 pf p6 pw ph q1 q2 q3 q4 qf q6 qw qh r1 r2 r3 r4 rf r6 rw rh fl wa wb wc now clk rt st)) ek 0 en ew).cls)) := by
 have hRc := clk_right hR
 rw [grRight_eq] at hR
 obtain ⟨⟨hc1, hc2⟩, hp, hq, hr', ⟨hf, hfl⟩, ⟨ha, hal⟩, ⟨hb, hbl⟩, ⟨hcc, hcl⟩⟩ := hR
 have hp' := hp; have hq' := hq; have hr2 := hr'
 obtain ⟨hpw, hph, hpl, hpm⟩ := hp'
 obtain ⟨hqw, hqh, hql, hqm⟩ := hq'
 obtain ⟨hrw, hrh, hrl, hrm⟩ := hr2
 simp only at hpw hph hpl hpm hqw hqh hql hqm hrw hrh hrl hrm
 have lW := D.Is.length (α := Wr) wa
 have lW2 := rows_len (rows_of ha)
 have lF := D.Is.length (α := Msg) fl
 have f9 : (fl.to Msg).length ≤ 999000 := by rw [grOf_eq] at hf9; exact hf9
 have n7 : (7 : Int) ≠ 0 := by decide
 have nn : (0 : Int) ≤ 0 ∧ (0 : Int) < ((3 : Nat) : Int) := by omega
 apply exec_sound ctSOk 900
 rw [step0_go]
 refine ⟨n7, fun h0 => ?_, fun h0 => ⟨fun h1 => ?_, fun h1 => ⟨fun h2 => ?_, fun h2 => ⟨fun h6 => ?_, fun h6 => ?_⟩⟩⟩⟩
 ·have h0 : Int.tmod ek 7 = 0 := of_decide_eq_true h0
  have e : Sx.stepG (grOf (cv9 cn cr cp cdl cps css cv p1 p2 p3 p4 pf p6 pw ph q1 q2 q3 q4 qf q6 qw qh r1 r2 r3 r4 rf r6 rw rh fl wa wb wc now clk rt st)) ek 0 en ew = issueG (grOf (CV.int cn :: CV.int cr :: CV.int cp :: CV.int cdl :: CV.dat cps :: CV.dat css :: CV.bool cv :: CV.int p1 :: CV.int p2 :: CV.int p3 :: CV.int p4 :: CV.bool pf :: CV.int p6 :: CV.dat pw :: CV.dat ph :: CV.int q1 :: CV.int q2 :: CV.int q3 :: CV.int q4 :: CV.bool qf :: CV.int q6 :: CV.dat qw :: CV.dat qh :: CV.int r1 :: CV.int r2 :: CV.int r3 :: CV.int r4 :: CV.bool rf :: CV.int r6 :: CV.dat rw :: CV.dat rh :: CV.dat fl :: CV.dat wa :: CV.dat wb :: CV.dat wc :: CV.int now :: CV.int (IntKind.i64.wrap (clk + 1)) :: CV.bool rt :: CV.int st :: [])) 0 := by rw [Sx.stepG, if_pos h0, clk_eq]
  rw [e] at hr ⊢
  rw [grOf_eq] at hr ⊢
  simp only [issueG, tri_0, tri_1, tri_2, tri_upd0, tri_upd1, tri_upd2, Bool.and_eq_true] at hr
  simp only [issueG, tri_0, tri_1, tri_2, tri_upd0, tri_upd1, tri_upd2, cls_tri]
  obtain ⟨hrt, hlen⟩ := hr
  have hrow : SRows Wr (List.append (D.rows wa) [[.int .i64 (IntKind.i64.wrap (clk + 1)), .int .i64 0, .int .i64 0, .int .i64 0]]) (wa.to Wr ++ [⟨IntKind.i64.wrap (clk + 1), 0, 0, 0⟩]) := rows_app (rows_of ha) (rows_one ⟨_, _, _, _, rfl⟩ rfl)
  refine ⟨nn, hp, fun hs => ⟨nn, fun _ => ⟨nn, fun hs1 => ⟨nn, ⟨rfl, ha.fits, by simp only [len_slc, List.length_nil]; omega, by simp only [len_slc, List.length_nil]; omega⟩, ⟨rfl, .inr rfl, ?_, ?_⟩, nn, ?_⟩⟩, fun h => absurd (hrt.symm.trans h) (by decide)⟩⟩
  ·have e1 : (List.append (D.rows (D.slc (D.hd (hs1 1 0)) 4 [])) (D.rows wa)).length = (D.rows wa).length := rfl
   simp only [len_slc, e1, List.length_cons, List.length_nil]; omega
  ·have e1 : (List.append (D.rows (D.slc (D.hd (hs1 1 0)) 4 [])) (D.rows wa)).length = (D.rows wa).length := rfl
   simp only [len_slc, e1, List.length_cons, List.length_nil]; omega
  ·refine ret_cells ?_
   repeat' first
   | exact .nil
   | refine .cons ?_ ?_
   | exact rfl
   | exact fun _ => rfl
   | exact lst_ok stands_like
   | exact lst_ok (stands_self (by assumption))
   | exact lst_ok (stands_rows rfl hrow)
   | exact bool_ok (issue_bool hrt lW)
   | fail
 ·have h1 : Int.tmod ek 7 = 1 := of_decide_eq_true h1
  have e : Sx.stepG (grOf (cv9 cn cr cp cdl cps css cv p1 p2 p3 p4 pf p6 pw ph q1 q2 q3 q4 qf q6 qw qh r1 r2 r3 r4 rf r6 rw rh fl wa wb wc now clk rt st)) ek 0 en ew = durG (grOf (CV.int cn :: CV.int cr :: CV.int cp :: CV.int cdl :: CV.dat cps :: CV.dat css :: CV.bool cv :: CV.int p1 :: CV.int p2 :: CV.int p3 :: CV.int p4 :: CV.bool pf :: CV.int p6 :: CV.dat pw :: CV.dat ph :: CV.int q1 :: CV.int q2 :: CV.int q3 :: CV.int q4 :: CV.bool qf :: CV.int q6 :: CV.dat qw :: CV.dat qh :: CV.int r1 :: CV.int r2 :: CV.int r3 :: CV.int r4 :: CV.bool rf :: CV.int r6 :: CV.dat rw :: CV.dat rh :: CV.dat fl :: CV.dat wa :: CV.dat wb :: CV.dat wc :: CV.int now :: CV.int (IntKind.i64.wrap (clk + 1)) :: CV.bool rt :: CV.int st :: [])) 0 ew := by rw [Sx.stepG, if_neg (tmod7 h1 (by decide)), if_pos h1, clk_eq]
  rw [e] at hr ⊢
  refine ⟨⟨hRc, hew, hr⟩, fun hs1 => ?_⟩
  exact ret_D (P := Try.prog) (w := w) (H := H) (v := .agg (svOf (hs1 0) 0 (durG (grOf (CV.int cn :: CV.int cr :: CV.int cp :: CV.int cdl :: CV.dat cps :: CV.dat css :: CV.bool cv :: CV.int p1 :: CV.int p2 :: CV.int p3 :: CV.int p4 :: CV.bool pf :: CV.int p6 :: CV.dat pw :: CV.dat ph :: CV.int q1 :: CV.int q2 :: CV.int q3 :: CV.int q4 :: CV.bool qf :: CV.int q6 :: CV.dat qw :: CV.dat qh :: CV.int r1 :: CV.int r2 :: CV.int r3 :: CV.int r4 :: CV.bool rf :: CV.int r6 :: CV.dat rw :: CV.dat rh :: CV.dat fl :: CV.dat wa :: CV.dat wb :: CV.dat wc :: CV.int now :: CV.int (IntKind.i64.wrap (clk + 1)) :: CV.bool rt :: CV.int st :: [])) 0 ew).cls)) (g := fun ds => .agg (svOf ds 0 (durG (grOf (CV.int cn :: CV.int cr :: CV.int cp :: CV.int cdl :: CV.dat cps :: CV.dat css :: CV.bool cv :: CV.int p1 :: CV.int p2 :: CV.int p3 :: CV.int p4 :: CV.bool pf :: CV.int p6 :: CV.dat pw :: CV.dat ph :: CV.int q1 :: CV.int q2 :: CV.int q3 :: CV.int q4 :: CV.bool qf :: CV.int q6 :: CV.dat qw :: CV.dat qh :: CV.int r1 :: CV.int r2 :: CV.int r3 :: CV.int r4 :: CV.bool rf :: CV.int r6 :: CV.dat rw :: CV.dat rh :: CV.dat fl :: CV.dat wa :: CV.dat wb :: CV.dat wc :: CV.int now :: CV.int (IntKind.i64.wrap (clk + 1)) :: CV.bool rt :: CV.int st :: [])) 0 ew).cls)) (hs1 0) (fun _ _ => rfl) (fun _ h => h)
 ·have h2 : Int.tmod ek 7 = 2 := of_decide_eq_true h2
  have e : Sx.stepG (grOf (cv9 cn cr cp cdl cps css cv p1 p2 p3 p4 pf p6 pw ph q1 q2 q3 q4 qf q6 qw qh r1 r2 r3 r4 rf r6 rw rh fl wa wb wc now clk rt st)) ek 0 en ew = roundG (grOf (CV.int cn :: CV.int cr :: CV.int cp :: CV.int cdl :: CV.dat cps :: CV.dat css :: CV.bool cv :: CV.int p1 :: CV.int p2 :: CV.int p3 :: CV.int p4 :: CV.bool pf :: CV.int p6 :: CV.dat pw :: CV.dat ph :: CV.int q1 :: CV.int q2 :: CV.int q3 :: CV.int q4 :: CV.bool qf :: CV.int q6 :: CV.dat qw :: CV.dat qh :: CV.int r1 :: CV.int r2 :: CV.int r3 :: CV.int r4 :: CV.bool rf :: CV.int r6 :: CV.dat rw :: CV.dat rh :: CV.dat fl :: CV.dat wa :: CV.dat wb :: CV.dat wc :: CV.int now :: CV.int (IntKind.i64.wrap (clk + 1)) :: CV.bool rt :: CV.int st :: [])) := by rw [Sx.stepG, if_neg (tmod7 h2 (by decide)), if_neg (tmod7 h2 (by decide)), if_pos h2, clk_eq]
  rw [e] at hr ⊢
  rw [grOf_eq] at hr ⊢
  obtain ⟨s1, s2, s3, s4⟩ := startCo_len ⟨cn, cr, cp, cdl, cps.to Int, css.to Bool, cv⟩ now 20
  refine ⟨⟨hc1, hc2⟩, fun hs => ⟨fun hx => ?_, fun hx => ?_⟩⟩
  ·have hx : ¬(startCo ⟨cn, cr, cp, cdl, cps.to Int, css.to Bool, cv⟩ now 20).2.2 = 0 := by simp only [bne_iff_ne, ne_eq] at hx; exact hx
   rw [roundG] at hr ⊢
   simp only at hr ⊢
   rw [if_pos hx] at hr ⊢
   simp only [Bool.and_eq_true] at hr
   obtain ⟨hrt, hbz⟩ := hr
   refine ⟨fun _ => ?_, fun h => absurd (hrt.symm.trans h) (by decide)⟩
   rw [cls_tri]
   refine ret_cells ?_
   repeat' first
   | exact .nil
   | refine .cons ?_ ?_
   | exact rfl
   | exact fun _ => rfl
   | exact lst_ok stands_like
   | exact lst_ok (stands_self (by assumption))
   | exact bool_ok (by rw [hrt, Bool.true_and]; rfl)
   | fail
  ·have hx : (startCo ⟨cn, cr, cp, cdl, cps.to Int, css.to Bool, cv⟩ now 20).2.2 = 0 := by simp only [bne_eq_false_iff_eq] at hx; exact hx
   rw [roundG] at hr ⊢
   simp only at hr ⊢
   rw [if_neg (not_not_intro hx)] at hr ⊢
   simp only [sendG] at hr ⊢
   refine ⟨⟨hf, by omega, D.like_is _ _, ?_⟩, fun hs1 => ?_⟩
   ·rw [like_len]; exact Nat.le_trans s3 (by omega)
   rw [cls_tri]
   refine ret_cells ?_
   repeat' first
   | exact .nil
   | refine .cons ?_ ?_
   | exact rfl
   | exact fun _ => rfl
   | exact lst_ok stands_like
   | exact lst_ok (stands_self (by assumption))
   | exact lst_ok (by rw [D.like_to]; exact stands_like)
   | fail
 ·have h6 : Int.tmod ek 7 = 6 := of_decide_eq_true h6
  have e : Sx.stepG (grOf (cv9 cn cr cp cdl cps css cv p1 p2 p3 p4 pf p6 pw ph q1 q2 q3 q4 qf q6 qw qh r1 r2 r3 r4 rf r6 rw rh fl wa wb wc now clk rt st)) ek 0 en ew = tickG (grOf (CV.int cn :: CV.int cr :: CV.int cp :: CV.int cdl :: CV.dat cps :: CV.dat css :: CV.bool cv :: CV.int p1 :: CV.int p2 :: CV.int p3 :: CV.int p4 :: CV.bool pf :: CV.int p6 :: CV.dat pw :: CV.dat ph :: CV.int q1 :: CV.int q2 :: CV.int q3 :: CV.int q4 :: CV.bool qf :: CV.int q6 :: CV.dat qw :: CV.dat qh :: CV.int r1 :: CV.int r2 :: CV.int r3 :: CV.int r4 :: CV.bool rf :: CV.int r6 :: CV.dat rw :: CV.dat rh :: CV.dat fl :: CV.dat wa :: CV.dat wb :: CV.dat wc :: CV.int now :: CV.int (IntKind.i64.wrap (clk + 1)) :: CV.bool rt :: CV.int st :: [])) en ew := by rw [Sx.stepG, if_neg (tmod7 h6 (by decide)), if_neg (tmod7 h6 (by decide)), if_neg (tmod7 h6 (by decide)), if_pos h6, clk_eq]
  rw [e] at hr ⊢
  refine ⟨⟨hRc, ⟨⟨hen, hew⟩, f9⟩, hr⟩, fun hs1 => ?_⟩
  exact ret_D (P := Try.prog) (w := w) (H := H) (v := .agg (svOf (hs1 0) 0 (tickG (grOf (CV.int cn :: CV.int cr :: CV.int cp :: CV.int cdl :: CV.dat cps :: CV.dat css :: CV.bool cv :: CV.int p1 :: CV.int p2 :: CV.int p3 :: CV.int p4 :: CV.bool pf :: CV.int p6 :: CV.dat pw :: CV.dat ph :: CV.int q1 :: CV.int q2 :: CV.int q3 :: CV.int q4 :: CV.bool qf :: CV.int q6 :: CV.dat qw :: CV.dat qh :: CV.int r1 :: CV.int r2 :: CV.int r3 :: CV.int r4 :: CV.bool rf :: CV.int r6 :: CV.dat rw :: CV.dat rh :: CV.dat fl :: CV.dat wa :: CV.dat wb :: CV.dat wc :: CV.int now :: CV.int (IntKind.i64.wrap (clk + 1)) :: CV.bool rt :: CV.int st :: [])) en ew).cls)) (g := fun ds => .agg (svOf ds 0 (tickG (grOf (CV.int cn :: CV.int cr :: CV.int cp :: CV.int cdl :: CV.dat cps :: CV.dat css :: CV.bool cv :: CV.int p1 :: CV.int p2 :: CV.int p3 :: CV.int p4 :: CV.bool pf :: CV.int p6 :: CV.dat pw :: CV.dat ph :: CV.int q1 :: CV.int q2 :: CV.int q3 :: CV.int q4 :: CV.bool qf :: CV.int q6 :: CV.dat qw :: CV.dat qh :: CV.int r1 :: CV.int r2 :: CV.int r3 :: CV.int r4 :: CV.bool rf :: CV.int r6 :: CV.dat rw :: CV.dat rh :: CV.dat fl :: CV.dat wa :: CV.dat wb :: CV.dat wc :: CV.int now :: CV.int (IntKind.i64.wrap (clk + 1)) :: CV.bool rt :: CV.int st :: [])) en ew).cls)) (hs1 0) (fun _ _ => rfl) (fun _ h => h)
 ·have h0 : ¬Int.tmod ek 7 = 0 := of_decide_eq_false h0
  have h1 : ¬Int.tmod ek 7 = 1 := of_decide_eq_false h1
  have h2 : ¬Int.tmod ek 7 = 2 := of_decide_eq_false h2
  have h6 : ¬Int.tmod ek 7 = 6 := of_decide_eq_false h6
  have e : Sx.stepG (grOf (cv9 cn cr cp cdl cps css cv p1 p2 p3 p4 pf p6 pw ph q1 q2 q3 q4 qf q6 qw qh r1 r2 r3 r4 rf r6 rw rh fl wa wb wc now clk rt st)) ek 0 en ew = flightG (grOf (CV.int cn :: CV.int cr :: CV.int cp :: CV.int cdl :: CV.dat cps :: CV.dat css :: CV.bool cv :: CV.int p1 :: CV.int p2 :: CV.int p3 :: CV.int p4 :: CV.bool pf :: CV.int p6 :: CV.dat pw :: CV.dat ph :: CV.int q1 :: CV.int q2 :: CV.int q3 :: CV.int q4 :: CV.bool qf :: CV.int q6 :: CV.dat qw :: CV.dat qh :: CV.int r1 :: CV.int r2 :: CV.int r3 :: CV.int r4 :: CV.bool rf :: CV.int r6 :: CV.dat rw :: CV.dat rh :: CV.dat fl :: CV.dat wa :: CV.dat wb :: CV.dat wc :: CV.int now :: CV.int (IntKind.i64.wrap (clk + 1)) :: CV.bool rt :: CV.int st :: [])) ek ew := by rw [Sx.stepG, if_neg h0, if_neg h1, if_neg h2, if_neg h6, clk_eq]
  rw [e] at hr ⊢
  refine ⟨⟨hRc, ⟨hek, hew⟩, hr⟩, fun hs1 => ?_⟩
  exact ret_D (P := Try.prog) (w := w) (H := H) (v := .agg (svOf (hs1 0) 0 (flightG (grOf (CV.int cn :: CV.int cr :: CV.int cp :: CV.int cdl :: CV.dat cps :: CV.dat css :: CV.bool cv :: CV.int p1 :: CV.int p2 :: CV.int p3 :: CV.int p4 :: CV.bool pf :: CV.int p6 :: CV.dat pw :: CV.dat ph :: CV.int q1 :: CV.int q2 :: CV.int q3 :: CV.int q4 :: CV.bool qf :: CV.int q6 :: CV.dat qw :: CV.dat qh :: CV.int r1 :: CV.int r2 :: CV.int r3 :: CV.int r4 :: CV.bool rf :: CV.int r6 :: CV.dat rw :: CV.dat rh :: CV.dat fl :: CV.dat wa :: CV.dat wb :: CV.dat wc :: CV.int now :: CV.int (IntKind.i64.wrap (clk + 1)) :: CV.bool rt :: CV.int st :: [])) ek ew).cls)) (g := fun ds => .agg (svOf ds 0 (flightG (grOf (CV.int cn :: CV.int cr :: CV.int cp :: CV.int cdl :: CV.dat cps :: CV.dat css :: CV.bool cv :: CV.int p1 :: CV.int p2 :: CV.int p3 :: CV.int p4 :: CV.bool pf :: CV.int p6 :: CV.dat pw :: CV.dat ph :: CV.int q1 :: CV.int q2 :: CV.int q3 :: CV.int q4 :: CV.bool qf :: CV.int q6 :: CV.dat qw :: CV.dat qh :: CV.int r1 :: CV.int r2 :: CV.int r3 :: CV.int r4 :: CV.bool rf :: CV.int r6 :: CV.dat rw :: CV.dat rh :: CV.dat fl :: CV.dat wa :: CV.dat wb :: CV.dat wc :: CV.int now :: CV.int (IntKind.i64.wrap (clk + 1)) :: CV.bool rt :: CV.int st :: [])) ek ew).cls)) (hs1 0) (fun _ _ => rfl) (fun _ h => h)

theorem step1_run {w : World} {H : HV} {cn cr cp cdl : Int} {cps css : D} {cv : Bool} {p1 p2 p3 p4 : Int} {pf : Bool} {p6 : Int} {pw ph : D} {q1 q2 q3 q4 : Int} {qf : Bool} {q6 : Int} {qw qh : D} {r1 r2 r3 r4 : Int} {rf : Bool} {r6 : Int} {rw rh : D} {fl wa wb wc : D} {now clk : Int} {rt : Bool} {st : Int} {ek en ew : Int} (hek : U8 ek) (hen : U8 en) (hew : U8 ew) (hR : GrRight (cv9 cn cr cp cdl cps css cv p1 p2 p3 p4 pf p6 pw ph q1 q2 q3 q4 qf q6 qw qh r1 r2 r3 r4 rf r6 rw rh fl wa wb wc now clk rt st)) (hf9 : (grOf (cv9 cn cr cp cdl cps css cv p1 p2 p3 p4 pf p6 pw ph q1 q2 q3 q4 qf q6 qw qh r1 r2 r3 r4 rf r6 rw rh fl wa wb wc now clk rt st)).flight.length ≤ 999000) (hr : (Sx.stepG (grOf (cv9 cn cr cp cdl cps css cv p1 p2 p3 p4 pf p6 pw ph q1 q2 q3 q4 qf q6 qw qh r1 r2 r3 r4 rf r6 rw rh fl wa wb wc now clk rt st)) ek 1 en ew).right = true) :
  Runs Try.prog ⟨w, H⟩ (stepL cn cr cp cdl cps css cv p1 p2 p3 p4 pf p6 pw ph q1 q2 q3 q4 qf q6 qw qh r1 r2 r3 r4 rf r6 rw rh fl wa wb wc now clk rt st ek en ew 1) (RetD w H fun ds => .agg (svOf ds 0 (Sx.stepG (grOf (cv9 cn cr cp cdl cps css cv p1 p2 p3 p4 pf p6 pw ph q1 q2 q3 q4 qf q6 qw qh r1 r2 r3 r4 rf r6 rw rh fl wa wb wc now clk rt st)) ek 1 en ew).cls)) := by
 have hRc := clk_right hR
 rw [grRight_eq] at hR
 obtain ⟨⟨hc1, hc2⟩, hp, hq, hr', ⟨hf, hfl⟩, ⟨ha, hal⟩, ⟨hb, hbl⟩, ⟨hcc, hcl⟩⟩ := hR
 have hp' := hp; have hq' := hq; have hr2 := hr'
 obtain ⟨hpw, hph, hpl, hpm⟩ := hp'
 obtain ⟨hqw, hqh, hql, hqm⟩ := hq'
 obtain ⟨hrw, hrh, hrl, hrm⟩ := hr2
 simp only at hpw hph hpl hpm hqw hqh hql hqm hrw hrh hrl hrm
 have lW := D.Is.length (α := Wr) wb
 have lW2 := rows_len (rows_of hb)
 have lF := D.Is.length (α := Msg) fl
 have f9 : (fl.to Msg).length ≤ 999000 := by rw [grOf_eq] at hf9; exact hf9
 have n7 : (7 : Int) ≠ 0 := by decide
 have nn : (0 : Int) ≤ 1 ∧ (1 : Int) < ((3 : Nat) : Int) := by omega
 apply exec_sound ctSOk 900
 rw [step1_go]
 refine ⟨n7, fun h0 => ?_, fun h0 => ⟨fun h1 => ?_, fun h1 => ⟨fun h2 => ?_, fun h2 => ⟨fun h6 => ?_, fun h6 => ?_⟩⟩⟩⟩
 ·have h0 : Int.tmod ek 7 = 0 := of_decide_eq_true h0
  have e : Sx.stepG (grOf (cv9 cn cr cp cdl cps css cv p1 p2 p3 p4 pf p6 pw ph q1 q2 q3 q4 qf q6 qw qh r1 r2 r3 r4 rf r6 rw rh fl wa wb wc now clk rt st)) ek 1 en ew = issueG (grOf (CV.int cn :: CV.int cr :: CV.int cp :: CV.int cdl :: CV.dat cps :: CV.dat css :: CV.bool cv :: CV.int p1 :: CV.int p2 :: CV.int p3 :: CV.int p4 :: CV.bool pf :: CV.int p6 :: CV.dat pw :: CV.dat ph :: CV.int q1 :: CV.int q2 :: CV.int q3 :: CV.int q4 :: CV.bool qf :: CV.int q6 :: CV.dat qw :: CV.dat qh :: CV.int r1 :: CV.int r2 :: CV.int r3 :: CV.int r4 :: CV.bool rf :: CV.int r6 :: CV.dat rw :: CV.dat rh :: CV.dat fl :: CV.dat wa :: CV.dat wb :: CV.dat wc :: CV.int now :: CV.int (IntKind.i64.wrap (clk + 1)) :: CV.bool rt :: CV.int st :: [])) 1 := by rw [Sx.stepG, if_pos h0, clk_eq]
  rw [e] at hr ⊢
  rw [grOf_eq] at hr ⊢
  simp only [issueG, tri_0, tri_1, tri_2, tri_upd0, tri_upd1, tri_upd2, Bool.and_eq_true] at hr
  simp only [issueG, tri_0, tri_1, tri_2, tri_upd0, tri_upd1, tri_upd2, cls_tri]
  obtain ⟨hrt, hlen⟩ := hr
  have hrow : SRows Wr (List.append (D.rows wb) [[.int .i64 (IntKind.i64.wrap (clk + 1)), .int .i64 0, .int .i64 0, .int .i64 0]]) (wb.to Wr ++ [⟨IntKind.i64.wrap (clk + 1), 0, 0, 0⟩]) := rows_app (rows_of hb) (rows_one ⟨_, _, _, _, rfl⟩ rfl)
  refine ⟨nn, hq, fun hs => ⟨nn, fun _ => ⟨nn, fun hs1 => ⟨nn, ⟨rfl, hb.fits, by simp only [len_slc, List.length_nil]; omega, by simp only [len_slc, List.length_nil]; omega⟩, ⟨rfl, .inr rfl, ?_, ?_⟩, nn, ?_⟩⟩, fun h => absurd (hrt.symm.trans h) (by decide)⟩⟩
  ·have e1 : (List.append (D.rows (D.slc (D.hd (hs1 1 0)) 4 [])) (D.rows wb)).length = (D.rows wb).length := rfl
   simp only [len_slc, e1, List.length_cons, List.length_nil]; omega
  ·have e1 : (List.append (D.rows (D.slc (D.hd (hs1 1 0)) 4 [])) (D.rows wb)).length = (D.rows wb).length := rfl
   simp only [len_slc, e1, List.length_cons, List.length_nil]; omega
  ·refine ret_cells ?_
   repeat' first
   | exact .nil
   | refine .cons ?_ ?_
   | exact rfl
   | exact fun _ => rfl
   | exact lst_ok stands_like
   | exact lst_ok (stands_self (by assumption))
   | exact lst_ok (stands_rows rfl hrow)
   | exact bool_ok (issue_bool hrt lW)
   | fail
 ·have h1 : Int.tmod ek 7 = 1 := of_decide_eq_true h1
  have e : Sx.stepG (grOf (cv9 cn cr cp cdl cps css cv p1 p2 p3 p4 pf p6 pw ph q1 q2 q3 q4 qf q6 qw qh r1 r2 r3 r4 rf r6 rw rh fl wa wb wc now clk rt st)) ek 1 en ew = durG (grOf (CV.int cn :: CV.int cr :: CV.int cp :: CV.int cdl :: CV.dat cps :: CV.dat css :: CV.bool cv :: CV.int p1 :: CV.int p2 :: CV.int p3 :: CV.int p4 :: CV.bool pf :: CV.int p6 :: CV.dat pw :: CV.dat ph :: CV.int q1 :: CV.int q2 :: CV.int q3 :: CV.int q4 :: CV.bool qf :: CV.int q6 :: CV.dat qw :: CV.dat qh :: CV.int r1 :: CV.int r2 :: CV.int r3 :: CV.int r4 :: CV.bool rf :: CV.int r6 :: CV.dat rw :: CV.dat rh :: CV.dat fl :: CV.dat wa :: CV.dat wb :: CV.dat wc :: CV.int now :: CV.int (IntKind.i64.wrap (clk + 1)) :: CV.bool rt :: CV.int st :: [])) 1 ew := by rw [Sx.stepG, if_neg (tmod7 h1 (by decide)), if_pos h1, clk_eq]
  rw [e] at hr ⊢
  refine ⟨⟨hRc, hew, hr⟩, fun hs1 => ?_⟩
  exact ret_D (P := Try.prog) (w := w) (H := H) (v := .agg (svOf (hs1 0) 0 (durG (grOf (CV.int cn :: CV.int cr :: CV.int cp :: CV.int cdl :: CV.dat cps :: CV.dat css :: CV.bool cv :: CV.int p1 :: CV.int p2 :: CV.int p3 :: CV.int p4 :: CV.bool pf :: CV.int p6 :: CV.dat pw :: CV.dat ph :: CV.int q1 :: CV.int q2 :: CV.int q3 :: CV.int q4 :: CV.bool qf :: CV.int q6 :: CV.dat qw :: CV.dat qh :: CV.int r1 :: CV.int r2 :: CV.int r3 :: CV.int r4 :: CV.bool rf :: CV.int r6 :: CV.dat rw :: CV.dat rh :: CV.dat fl :: CV.dat wa :: CV.dat wb :: CV.dat wc :: CV.int now :: CV.int (IntKind.i64.wrap (clk + 1)) :: CV.bool rt :: CV.int st :: [])) 1 ew).cls)) (g := fun ds => .agg (svOf ds 0 (durG (grOf (CV.int cn :: CV.int cr :: CV.int cp :: CV.int cdl :: CV.dat cps :: CV.dat css :: CV.bool cv :: CV.int p1 :: CV.int p2 :: CV.int p3 :: CV.int p4 :: CV.bool pf :: CV.int p6 :: CV.dat pw :: CV.dat ph :: CV.int q1 :: CV.int q2 :: CV.int q3 :: CV.int q4 :: CV.bool qf :: CV.int q6 :: CV.dat qw :: CV.dat qh :: CV.int r1 :: CV.int r2 :: CV.int r3 :: CV.int r4 :: CV.bool rf :: CV.int r6 :: CV.dat rw :: CV.dat rh :: CV.dat fl :: CV.dat wa :: CV.dat wb :: CV.dat wc :: CV.int now :: CV.int (IntKind.i64.wrap (clk + 1)) :: CV.bool rt :: CV.int st :: [])) 1 ew).cls)) (hs1 0) (fun _ _ => rfl) (fun _ h => h)
 ·have h2 : Int.tmod ek 7 = 2 := of_decide_eq_true h2
  have e : Sx.stepG (grOf (cv9 cn cr cp cdl cps css cv p1 p2 p3 p4 pf p6 pw ph q1 q2 q3 q4 qf q6 qw qh r1 r2 r3 r4 rf r6 rw rh fl wa wb wc now clk rt st)) ek 1 en ew = roundG (grOf (CV.int cn :: CV.int cr :: CV.int cp :: CV.int cdl :: CV.dat cps :: CV.dat css :: CV.bool cv :: CV.int p1 :: CV.int p2 :: CV.int p3 :: CV.int p4 :: CV.bool pf :: CV.int p6 :: CV.dat pw :: CV.dat ph :: CV.int q1 :: CV.int q2 :: CV.int q3 :: CV.int q4 :: CV.bool qf :: CV.int q6 :: CV.dat qw :: CV.dat qh :: CV.int r1 :: CV.int r2 :: CV.int r3 :: CV.int r4 :: CV.bool rf :: CV.int r6 :: CV.dat rw :: CV.dat rh :: CV.dat fl :: CV.dat wa :: CV.dat wb :: CV.dat wc :: CV.int now :: CV.int (IntKind.i64.wrap (clk + 1)) :: CV.bool rt :: CV.int st :: [])) := by rw [Sx.stepG, if_neg (tmod7 h2 (by decide)), if_neg (tmod7 h2 (by decide)), if_pos h2, clk_eq]
  rw [e] at hr ⊢
  rw [grOf_eq] at hr ⊢
  obtain ⟨s1, s2, s3, s4⟩ := startCo_len ⟨cn, cr, cp, cdl, cps.to Int, css.to Bool, cv⟩ now 20
  refine ⟨⟨hc1, hc2⟩, fun hs => ⟨fun hx => ?_, fun hx => ?_⟩⟩
  ·have hx : ¬(startCo ⟨cn, cr, cp, cdl, cps.to Int, css.to Bool, cv⟩ now 20).2.2 = 0 := by simp only [bne_iff_ne, ne_eq] at hx; exact hx
   rw [roundG] at hr ⊢
   simp only at hr ⊢
   rw [if_pos hx] at hr ⊢
   simp only [Bool.and_eq_true] at hr
   obtain ⟨hrt, hbz⟩ := hr
   refine ⟨fun _ => ?_, fun h => absurd (hrt.symm.trans h) (by decide)⟩
   rw [cls_tri]
   refine ret_cells ?_
   repeat' first
   | exact .nil
   | refine .cons ?_ ?_
   | exact rfl
   | exact fun _ => rfl
   | exact lst_ok stands_like
   | exact lst_ok (stands_self (by assumption))
   | exact bool_ok (by rw [hrt, Bool.true_and]; rfl)
   | fail
  ·have hx : (startCo ⟨cn, cr, cp, cdl, cps.to Int, css.to Bool, cv⟩ now 20).2.2 = 0 := by simp only [bne_eq_false_iff_eq] at hx; exact hx
   rw [roundG] at hr ⊢
   simp only at hr ⊢
   rw [if_neg (not_not_intro hx)] at hr ⊢
   simp only [sendG] at hr ⊢
   refine ⟨⟨hf, by omega, D.like_is _ _, ?_⟩, fun hs1 => ?_⟩
   ·rw [like_len]; exact Nat.le_trans s3 (by omega)
   rw [cls_tri]
   refine ret_cells ?_
   repeat' first
   | exact .nil
   | refine .cons ?_ ?_
   | exact rfl
   | exact fun _ => rfl
   | exact lst_ok stands_like
   | exact lst_ok (stands_self (by assumption))
   | exact lst_ok (by rw [D.like_to]; exact stands_like)
   | fail
 ·have h6 : Int.tmod ek 7 = 6 := of_decide_eq_true h6
  have e : Sx.stepG (grOf (cv9 cn cr cp cdl cps css cv p1 p2 p3 p4 pf p6 pw ph q1 q2 q3 q4 qf q6 qw qh r1 r2 r3 r4 rf r6 rw rh fl wa wb wc now clk rt st)) ek 1 en ew = tickG (grOf (CV.int cn :: CV.int cr :: CV.int cp :: CV.int cdl :: CV.dat cps :: CV.dat css :: CV.bool cv :: CV.int p1 :: CV.int p2 :: CV.int p3 :: CV.int p4 :: CV.bool pf :: CV.int p6 :: CV.dat pw :: CV.dat ph :: CV.int q1 :: CV.int q2 :: CV.int q3 :: CV.int q4 :: CV.bool qf :: CV.int q6 :: CV.dat qw :: CV.dat qh :: CV.int r1 :: CV.int r2 :: CV.int r3 :: CV.int r4 :: CV.bool rf :: CV.int r6 :: CV.dat rw :: CV.dat rh :: CV.dat fl :: CV.dat wa :: CV.dat wb :: CV.dat wc :: CV.int now :: CV.int (IntKind.i64.wrap (clk + 1)) :: CV.bool rt :: CV.int st :: [])) en ew := by rw [Sx.stepG, if_neg (tmod7 h6 (by decide)), if_neg (tmod7 h6 (by decide)), if_neg (tmod7 h6 (by decide)), if_pos h6, clk_eq]
  rw [e] at hr ⊢
  refine ⟨⟨hRc, ⟨⟨hen, hew⟩, f9⟩, hr⟩, fun hs1 => ?_⟩
  exact ret_D (P := Try.prog) (w := w) (H := H) (v := .agg (svOf (hs1 0) 0 (tickG (grOf (CV.int cn :: CV.int cr :: CV.int cp :: CV.int cdl :: CV.dat cps :: CV.dat css :: CV.bool cv :: CV.int p1 :: CV.int p2 :: CV.int p3 :: CV.int p4 :: CV.bool pf :: CV.int p6 :: CV.dat pw :: CV.dat ph :: CV.int q1 :: CV.int q2 :: CV.int q3 :: CV.int q4 :: CV.bool qf :: CV.int q6 :: CV.dat qw :: CV.dat qh :: CV.int r1 :: CV.int r2 :: CV.int r3 :: CV.int r4 :: CV.bool rf :: CV.int r6 :: CV.dat rw :: CV.dat rh :: CV.dat fl :: CV.dat wa :: CV.dat wb :: CV.dat wc :: CV.int now :: CV.int (IntKind.i64.wrap (clk + 1)) :: CV.bool rt :: CV.int st :: [])) en ew).cls)) (g := fun ds => .agg (svOf ds 0 (tickG (grOf (CV.int cn :: CV.int cr :: CV.int cp :: CV.int cdl :: CV.dat cps :: CV.dat css :: CV.bool cv :: CV.int p1 :: CV.int p2 :: CV.int p3 :: CV.int p4 :: CV.bool pf :: CV.int p6 :: CV.dat pw :: CV.dat ph :: CV.int q1 :: CV.int q2 :: CV.int q3 :: CV.int q4 :: CV.bool qf :: CV.int q6 :: CV.dat qw :: CV.dat qh :: CV.int r1 :: CV.int r2 :: CV.int r3 :: CV.int r4 :: CV.bool rf :: CV.int r6 :: CV.dat rw :: CV.dat rh :: CV.dat fl :: CV.dat wa :: CV.dat wb :: CV.dat wc :: CV.int now :: CV.int (IntKind.i64.wrap (clk + 1)) :: CV.bool rt :: CV.int st :: [])) en ew).cls)) (hs1 0) (fun _ _ => rfl) (fun _ h => h)
 ·have h0 : ¬Int.tmod ek 7 = 0 := of_decide_eq_false h0
  have h1 : ¬Int.tmod ek 7 = 1 := of_decide_eq_false h1
  have h2 : ¬Int.tmod ek 7 = 2 := of_decide_eq_false h2
  have h6 : ¬Int.tmod ek 7 = 6 := of_decide_eq_false h6
  have e : Sx.stepG (grOf (cv9 cn cr cp cdl cps css cv p1 p2 p3 p4 pf p6 pw ph q1 q2 q3 q4 qf q6 qw qh r1 r2 r3 r4 rf r6 rw rh fl wa wb wc now clk rt st)) ek 1 en ew = flightG (grOf (CV.int cn :: CV.int cr :: CV.int cp :: CV.int cdl :: CV.dat cps :: CV.dat css :: CV.bool cv :: CV.int p1 :: CV.int p2 :: CV.int p3 :: CV.int p4 :: CV.bool pf :: CV.int p6 :: CV.dat pw :: CV.dat ph :: CV.int q1 :: CV.int q2 :: CV.int q3 :: CV.int q4 :: CV.bool qf :: CV.int q6 :: CV.dat qw :: CV.dat qh :: CV.int r1 :: CV.int r2 :: CV.int r3 :: CV.int r4 :: CV.bool rf :: CV.int r6 :: CV.dat rw :: CV.dat rh :: CV.dat fl :: CV.dat wa :: CV.dat wb :: CV.dat wc :: CV.int now :: CV.int (IntKind.i64.wrap (clk + 1)) :: CV.bool rt :: CV.int st :: [])) ek ew := by rw [Sx.stepG, if_neg h0, if_neg h1, if_neg h2, if_neg h6, clk_eq]
  rw [e] at hr ⊢
  refine ⟨⟨hRc, ⟨hek, hew⟩, hr⟩, fun hs1 => ?_⟩
  exact ret_D (P := Try.prog) (w := w) (H := H) (v := .agg (svOf (hs1 0) 0 (flightG (grOf (CV.int cn :: CV.int cr :: CV.int cp :: CV.int cdl :: CV.dat cps :: CV.dat css :: CV.bool cv :: CV.int p1 :: CV.int p2 :: CV.int p3 :: CV.int p4 :: CV.bool pf :: CV.int p6 :: CV.dat pw :: CV.dat ph :: CV.int q1 :: CV.int q2 :: CV.int q3 :: CV.int q4 :: CV.bool qf :: CV.int q6 :: CV.dat qw :: CV.dat qh :: CV.int r1 :: CV.int r2 :: CV.int r3 :: CV.int r4 :: CV.bool rf :: CV.int r6 :: CV.dat rw :: CV.dat rh :: CV.dat fl :: CV.dat wa :: CV.dat wb :: CV.dat wc :: CV.int now :: CV.int (IntKind.i64.wrap (clk + 1)) :: CV.bool rt :: CV.int st :: [])) ek ew).cls)) (g := fun ds => .agg (svOf ds 0 (flightG (grOf (CV.int cn :: CV.int cr :: CV.int cp :: CV.int cdl :: CV.dat cps :: CV.dat css :: CV.bool cv :: CV.int p1 :: CV.int p2 :: CV.int p3 :: CV.int p4 :: CV.bool pf :: CV.int p6 :: CV.dat pw :: CV.dat ph :: CV.int q1 :: CV.int q2 :: CV.int q3 :: CV.int q4 :: CV.bool qf :: CV.int q6 :: CV.dat qw :: CV.dat qh :: CV.int r1 :: CV.int r2 :: CV.int r3 :: CV.int r4 :: CV.bool rf :: CV.int r6 :: CV.dat rw :: CV.dat rh :: CV.dat fl :: CV.dat wa :: CV.dat wb :: CV.dat wc :: CV.int now :: CV.int (IntKind.i64.wrap (clk + 1)) :: CV.bool rt :: CV.int st :: [])) ek ew).cls)) (hs1 0) (fun _ _ => rfl) (fun _ h => h)

theorem step2_run {w : World} {H : HV} {cn cr cp cdl : Int} {cps css : D} {cv : Bool} {p1 p2 p3 p4 : Int} {pf : Bool} {p6 : Int} {pw ph : D} {q1 q2 q3 q4 : Int} {qf : Bool} {q6 : Int} {qw qh : D} {r1 r2 r3 r4 : Int} {rf : Bool} {r6 : Int} {rw rh : D} {fl wa wb wc : D} {now clk : Int} {rt : Bool} {st : Int} {ek en ew : Int} (hek : U8 ek) (hen : U8 en) (hew : U8 ew) (hR : GrRight (cv9 cn cr cp cdl cps css cv p1 p2 p3 p4 pf p6 pw ph q1 q2 q3 q4 qf q6 qw qh r1 r2 r3 r4 rf r6 rw rh fl wa wb wc now clk rt st)) (hf9 : (grOf (cv9 cn cr cp cdl cps css cv p1 p2 p3 p4 pf p6 pw ph q1 q2 q3 q4 qf q6 qw qh r1 r2 r3 r4 rf r6 rw rh fl wa wb wc now clk rt st)).flight.length ≤ 999000) (hr : (Sx.stepG (grOf (cv9 cn cr cp cdl cps css cv p1 p2 p3 p4 pf p6 pw ph q1 q2 q3 q4 qf q6 qw qh r1 r2 r3 r4 rf r6 rw rh fl wa wb wc now clk rt st)) ek 2 en ew).right = true) :
  Runs Try.prog ⟨w, H⟩ (stepL cn cr cp cdl cps css cv p1 p2 p3 p4 pf p6 pw ph q1 q2 q3 q4 qf q6 qw qh r1 r2 r3 r4 rf r6 rw rh fl wa wb wc now clk rt st ek en ew 2) (RetD w H fun ds => .agg (svOf ds 0 (Sx.stepG (grOf (cv9 cn cr cp cdl cps css cv p1 p2 p3 p4 pf p6 pw ph q1 q2 q3 q4 qf q6 qw qh r1 r2 r3 r4 rf r6 rw rh fl wa wb wc now clk rt st)) ek 2 en ew).cls)) := by
 have hRc := clk_right hR
 rw [grRight_eq] at hR
 obtain ⟨⟨hc1, hc2⟩, hp, hq, hr', ⟨hf, hfl⟩, ⟨ha, hal⟩, ⟨hb, hbl⟩, ⟨hcc, hcl⟩⟩ := hR
 have hp' := hp; have hq' := hq; have hr2 := hr'
 obtain ⟨hpw, hph, hpl, hpm⟩ := hp'
 obtain ⟨hqw, hqh, hql, hqm⟩ := hq'
 obtain ⟨hrw, hrh, hrl, hrm⟩ := hr2
 simp only at hpw hph hpl hpm hqw hqh hql hqm hrw hrh hrl hrm
 have lW := D.Is.length (α := Wr) wc
 have lW2 := rows_len (rows_of hcc)
 have lF := D.Is.length (α := Msg) fl
 have f9 : (fl.to Msg).length ≤ 999000 := by rw [grOf_eq] at hf9; exact hf9
 have n7 : (7 : Int) ≠ 0 := by decide
 have nn : (0 : Int) ≤ 2 ∧ (2 : Int) < ((3 : Nat) : Int) := by omega
 apply exec_sound ctSOk 900
 rw [step2_go]
 refine ⟨n7, fun h0 => ?_, fun h0 => ⟨fun h1 => ?_, fun h1 => ⟨fun h2 => ?_, fun h2 => ⟨fun h6 => ?_, fun h6 => ?_⟩⟩⟩⟩
 ·have h0 : Int.tmod ek 7 = 0 := of_decide_eq_true h0
  have e : Sx.stepG (grOf (cv9 cn cr cp cdl cps css cv p1 p2 p3 p4 pf p6 pw ph q1 q2 q3 q4 qf q6 qw qh r1 r2 r3 r4 rf r6 rw rh fl wa wb wc now clk rt st)) ek 2 en ew = issueG (grOf (CV.int cn :: CV.int cr :: CV.int cp :: CV.int cdl :: CV.dat cps :: CV.dat css :: CV.bool cv :: CV.int p1 :: CV.int p2 :: CV.int p3 :: CV.int p4 :: CV.bool pf :: CV.int p6 :: CV.dat pw :: CV.dat ph :: CV.int q1 :: CV.int q2 :: CV.int q3 :: CV.int q4 :: CV.bool qf :: CV.int q6 :: CV.dat qw :: CV.dat qh :: CV.int r1 :: CV.int r2 :: CV.int r3 :: CV.int r4 :: CV.bool rf :: CV.int r6 :: CV.dat rw :: CV.dat rh :: CV.dat fl :: CV.dat wa :: CV.dat wb :: CV.dat wc :: CV.int now :: CV.int (IntKind.i64.wrap (clk + 1)) :: CV.bool rt :: CV.int st :: [])) 2 := by rw [Sx.stepG, if_pos h0, clk_eq]
  rw [e] at hr ⊢
  rw [grOf_eq] at hr ⊢
  simp only [issueG, tri_0, tri_1, tri_2, tri_upd0, tri_upd1, tri_upd2, Bool.and_eq_true] at hr
  simp only [issueG, tri_0, tri_1, tri_2, tri_upd0, tri_upd1, tri_upd2, cls_tri]
  obtain ⟨hrt, hlen⟩ := hr
  have hrow : SRows Wr (List.append (D.rows wc) [[.int .i64 (IntKind.i64.wrap (clk + 1)), .int .i64 0, .int .i64 0, .int .i64 0]]) (wc.to Wr ++ [⟨IntKind.i64.wrap (clk + 1), 0, 0, 0⟩]) := rows_app (rows_of hcc) (rows_one ⟨_, _, _, _, rfl⟩ rfl)
  refine ⟨nn, hr', fun hs => ⟨nn, fun _ => ⟨nn, fun hs1 => ⟨nn, ⟨rfl, hcc.fits, by simp only [len_slc, List.length_nil]; omega, by simp only [len_slc, List.length_nil]; omega⟩, ⟨rfl, .inr rfl, ?_, ?_⟩, nn, ?_⟩⟩, fun h => absurd (hrt.symm.trans h) (by decide)⟩⟩
  ·have e1 : (List.append (D.rows (D.slc (D.hd (hs1 1 0)) 4 [])) (D.rows wc)).length = (D.rows wc).length := rfl
   simp only [len_slc, e1, List.length_cons, List.length_nil]; omega
  ·have e1 : (List.append (D.rows (D.slc (D.hd (hs1 1 0)) 4 [])) (D.rows wc)).length = (D.rows wc).length := rfl
   simp only [len_slc, e1, List.length_cons, List.length_nil]; omega
  ·refine ret_cells ?_
   repeat' first
   | exact .nil
   | refine .cons ?_ ?_
   | exact rfl
   | exact fun _ => rfl
   | exact lst_ok stands_like
   | exact lst_ok (stands_self (by assumption))
   | exact lst_ok (stands_rows rfl hrow)
   | exact bool_ok (issue_bool hrt lW)
   | fail
 ·have h1 : Int.tmod ek 7 = 1 := of_decide_eq_true h1
  have e : Sx.stepG (grOf (cv9 cn cr cp cdl cps css cv p1 p2 p3 p4 pf p6 pw ph q1 q2 q3 q4 qf q6 qw qh r1 r2 r3 r4 rf r6 rw rh fl wa wb wc now clk rt st)) ek 2 en ew = durG (grOf (CV.int cn :: CV.int cr :: CV.int cp :: CV.int cdl :: CV.dat cps :: CV.dat css :: CV.bool cv :: CV.int p1 :: CV.int p2 :: CV.int p3 :: CV.int p4 :: CV.bool pf :: CV.int p6 :: CV.dat pw :: CV.dat ph :: CV.int q1 :: CV.int q2 :: CV.int q3 :: CV.int q4 :: CV.bool qf :: CV.int q6 :: CV.dat qw :: CV.dat qh :: CV.int r1 :: CV.int r2 :: CV.int r3 :: CV.int r4 :: CV.bool rf :: CV.int r6 :: CV.dat rw :: CV.dat rh :: CV.dat fl :: CV.dat wa :: CV.dat wb :: CV.dat wc :: CV.int now :: CV.int (IntKind.i64.wrap (clk + 1)) :: CV.bool rt :: CV.int st :: [])) 2 ew := by rw [Sx.stepG, if_neg (tmod7 h1 (by decide)), if_pos h1, clk_eq]
  rw [e] at hr ⊢
  refine ⟨⟨hRc, hew, hr⟩, fun hs1 => ?_⟩
  exact ret_D (P := Try.prog) (w := w) (H := H) (v := .agg (svOf (hs1 0) 0 (durG (grOf (CV.int cn :: CV.int cr :: CV.int cp :: CV.int cdl :: CV.dat cps :: CV.dat css :: CV.bool cv :: CV.int p1 :: CV.int p2 :: CV.int p3 :: CV.int p4 :: CV.bool pf :: CV.int p6 :: CV.dat pw :: CV.dat ph :: CV.int q1 :: CV.int q2 :: CV.int q3 :: CV.int q4 :: CV.bool qf :: CV.int q6 :: CV.dat qw :: CV.dat qh :: CV.int r1 :: CV.int r2 :: CV.int r3 :: CV.int r4 :: CV.bool rf :: CV.int r6 :: CV.dat rw :: CV.dat rh :: CV.dat fl :: CV.dat wa :: CV.dat wb :: CV.dat wc :: CV.int now :: CV.int (IntKind.i64.wrap (clk + 1)) :: CV.bool rt :: CV.int st :: [])) 2 ew).cls)) (g := fun ds => .agg (svOf ds 0 (durG (grOf (CV.int cn :: CV.int cr :: CV.int cp :: CV.int cdl :: CV.dat cps :: CV.dat css :: CV.bool cv :: CV.int p1 :: CV.int p2 :: CV.int p3 :: CV.int p4 :: CV.bool pf :: CV.int p6 :: CV.dat pw :: CV.dat ph :: CV.int q1 :: CV.int q2 :: CV.int q3 :: CV.int q4 :: CV.bool qf :: CV.int q6 :: CV.dat qw :: CV.dat qh :: CV.int r1 :: CV.int r2 :: CV.int r3 :: CV.int r4 :: CV.bool rf :: CV.int r6 :: CV.dat rw :: CV.dat rh :: CV.dat fl :: CV.dat wa :: CV.dat wb :: CV.dat wc :: CV.int now :: CV.int (IntKind.i64.wrap (clk + 1)) :: CV.bool rt :: CV.int st :: [])) 2 ew).cls)) (hs1 0) (fun _ _ => rfl) (fun _ h => h)
 ·have h2 : Int.tmod ek 7 = 2 := of_decide_eq_true h2
  have e : Sx.stepG (grOf (cv9 cn cr cp cdl cps css cv p1 p2 p3 p4 pf p6 pw ph q1 q2 q3 q4 qf q6 qw qh r1 r2 r3 r4 rf r6 rw rh fl wa wb wc now clk rt st)) ek 2 en ew = roundG (grOf (CV.int cn :: CV.int cr :: CV.int cp :: CV.int cdl :: CV.dat cps :: CV.dat css :: CV.bool cv :: CV.int p1 :: CV.int p2 :: CV.int p3 :: CV.int p4 :: CV.bool pf :: CV.int p6 :: CV.dat pw :: CV.dat ph :: CV.int q1 :: CV.int q2 :: CV.int q3 :: CV.int q4 :: CV.bool qf :: CV.int q6 :: CV.dat qw :: CV.dat qh :: CV.int r1 :: CV.int r2 :: CV.int r3 :: CV.int r4 :: CV.bool rf :: CV.int r6 :: CV.dat rw :: CV.dat rh :: CV.dat fl :: CV.dat wa :: CV.dat wb :: CV.dat wc :: CV.int now :: CV.int (IntKind.i64.wrap (clk + 1)) :: CV.bool rt :: CV.int st :: [])) := by rw [Sx.stepG, if_neg (tmod7 h2 (by decide)), if_neg (tmod7 h2 (by decide)), if_pos h2, clk_eq]
  rw [e] at hr ⊢
  rw [grOf_eq] at hr ⊢
  obtain ⟨s1, s2, s3, s4⟩ := startCo_len ⟨cn, cr, cp, cdl, cps.to Int, css.to Bool, cv⟩ now 20
  refine ⟨⟨hc1, hc2⟩, fun hs => ⟨fun hx => ?_, fun hx => ?_⟩⟩
  ·have hx : ¬(startCo ⟨cn, cr, cp, cdl, cps.to Int, css.to Bool, cv⟩ now 20).2.2 = 0 := by simp only [bne_iff_ne, ne_eq] at hx; exact hx
   rw [roundG] at hr ⊢
   simp only at hr ⊢
   rw [if_pos hx] at hr ⊢
   simp only [Bool.and_eq_true] at hr
   obtain ⟨hrt, hbz⟩ := hr
   refine ⟨fun _ => ?_, fun h => absurd (hrt.symm.trans h) (by decide)⟩
   rw [cls_tri]
   refine ret_cells ?_
   repeat' first
   | exact .nil
   | refine .cons ?_ ?_
   | exact rfl
   | exact fun _ => rfl
   | exact lst_ok stands_like
   | exact lst_ok (stands_self (by assumption))
   | exact bool_ok (by rw [hrt, Bool.true_and]; rfl)
   | fail
  ·have hx : (startCo ⟨cn, cr, cp, cdl, cps.to Int, css.to Bool, cv⟩ now 20).2.2 = 0 := by simp only [bne_eq_false_iff_eq] at hx; exact hx
   rw [roundG] at hr ⊢
   simp only at hr ⊢
   rw [if_neg (not_not_intro hx)] at hr ⊢
   simp only [sendG] at hr ⊢
   refine ⟨⟨hf, by omega, D.like_is _ _, ?_⟩, fun hs1 => ?_⟩
   ·rw [like_len]; exact Nat.le_trans s3 (by omega)
   rw [cls_tri]
   refine ret_cells ?_
   repeat' first
   | exact .nil
   | refine .cons ?_ ?_
   | exact rfl
   | exact fun _ => rfl
   | exact lst_ok stands_like
   | exact lst_ok (stands_self (by assumption))
   | exact lst_ok (by rw [D.like_to]; exact stands_like)
   | fail
 ·have h6 : Int.tmod ek 7 = 6 := of_decide_eq_true h6
  have e : Sx.stepG (grOf (cv9 cn cr cp cdl cps css cv p1 p2 p3 p4 pf p6 pw ph q1 q2 q3 q4 qf q6 qw qh r1 r2 r3 r4 rf r6 rw rh fl wa wb wc now clk rt st)) ek 2 en ew = tickG (grOf (CV.int cn :: CV.int cr :: CV.int cp :: CV.int cdl :: CV.dat cps :: CV.dat css :: CV.bool cv :: CV.int p1 :: CV.int p2 :: CV.int p3 :: CV.int p4 :: CV.bool pf :: CV.int p6 :: CV.dat pw :: CV.dat ph :: CV.int q1 :: CV.int q2 :: CV.int q3 :: CV.int q4 :: CV.bool qf :: CV.int q6 :: CV.dat qw :: CV.dat qh :: CV.int r1 :: CV.int r2 :: CV.int r3 :: CV.int r4 :: CV.bool rf :: CV.int r6 :: CV.dat rw :: CV.dat rh :: CV.dat fl :: CV.dat wa :: CV.dat wb :: CV.dat wc :: CV.int now :: CV.int (IntKind.i64.wrap (clk + 1)) :: CV.bool rt :: CV.int st :: [])) en ew := by rw [Sx.stepG, if_neg (tmod7 h6 (by decide)), if_neg (tmod7 h6 (by decide)), if_neg (tmod7 h6 (by decide)), if_pos h6, clk_eq]
  rw [e] at hr ⊢
  refine ⟨⟨hRc, ⟨⟨hen, hew⟩, f9⟩, hr⟩, fun hs1 => ?_⟩
  exact ret_D (P := Try.prog) (w := w) (H := H) (v := .agg (svOf (hs1 0) 0 (tickG (grOf (CV.int cn :: CV.int cr :: CV.int cp :: CV.int cdl :: CV.dat cps :: CV.dat css :: CV.bool cv :: CV.int p1 :: CV.int p2 :: CV.int p3 :: CV.int p4 :: CV.bool pf :: CV.int p6 :: CV.dat pw :: CV.dat ph :: CV.int q1 :: CV.int q2 :: CV.int q3 :: CV.int q4 :: CV.bool qf :: CV.int q6 :: CV.dat qw :: CV.dat qh :: CV.int r1 :: CV.int r2 :: CV.int r3 :: CV.int r4 :: CV.bool rf :: CV.int r6 :: CV.dat rw :: CV.dat rh :: CV.dat fl :: CV.dat wa :: CV.dat wb :: CV.dat wc :: CV.int now :: CV.int (IntKind.i64.wrap (clk + 1)) :: CV.bool rt :: CV.int st :: [])) en ew).cls)) (g := fun ds => .agg (svOf ds 0 (tickG (grOf (CV.int cn :: CV.int cr :: CV.int cp :: CV.int cdl :: CV.dat cps :: CV.dat css :: CV.bool cv :: CV.int p1 :: CV.int p2 :: CV.int p3 :: CV.int p4 :: CV.bool pf :: CV.int p6 :: CV.dat pw :: CV.dat ph :: CV.int q1 :: CV.int q2 :: CV.int q3 :: CV.int q4 :: CV.bool qf :: CV.int q6 :: CV.dat qw :: CV.dat qh :: CV.int r1 :: CV.int r2 :: CV.int r3 :: CV.int r4 :: CV.bool rf :: CV.int r6 :: CV.dat rw :: CV.dat rh :: CV.dat fl :: CV.dat wa :: CV.dat wb :: CV.dat wc :: CV.int now :: CV.int (IntKind.i64.wrap (clk + 1)) :: CV.bool rt :: CV.int st :: [])) en ew).cls)) (hs1 0) (fun _ _ => rfl) (fun _ h => h)
 ·have h0 : ¬Int.tmod ek 7 = 0 := of_decide_eq_false h0
  have h1 : ¬Int.tmod ek 7 = 1 := of_decide_eq_false h1
  have h2 : ¬Int.tmod ek 7 = 2 := of_decide_eq_false h2
  have h6 : ¬Int.tmod ek 7 = 6 := of_decide_eq_false h6
  have e : Sx.stepG (grOf (cv9 cn cr cp cdl cps css cv p1 p2 p3 p4 pf p6 pw ph q1 q2 q3 q4 qf q6 qw qh r1 r2 r3 r4 rf r6 rw rh fl wa wb wc now clk rt st)) ek 2 en ew = flightG (grOf (CV.int cn :: CV.int cr :: CV.int cp :: CV.int cdl :: CV.dat cps :: CV.dat css :: CV.bool cv :: CV.int p1 :: CV.int p2 :: CV.int p3 :: CV.int p4 :: CV.bool pf :: CV.int p6 :: CV.dat pw :: CV.dat ph :: CV.int q1 :: CV.int q2 :: CV.int q3 :: CV.int q4 :: CV.bool qf :: CV.int q6 :: CV.dat qw :: CV.dat qh :: CV.int r1 :: CV.int r2 :: CV.int r3 :: CV.int r4 :: CV.bool rf :: CV.int r6 :: CV.dat rw :: CV.dat rh :: CV.dat fl :: CV.dat wa :: CV.dat wb :: CV.dat wc :: CV.int now :: CV.int (IntKind.i64.wrap (clk + 1)) :: CV.bool rt :: CV.int st :: [])) ek ew := by rw [Sx.stepG, if_neg h0, if_neg h1, if_neg h2, if_neg h6, clk_eq]
  rw [e] at hr ⊢
  refine ⟨⟨hRc, ⟨hek, hew⟩, hr⟩, fun hs1 => ?_⟩
  exact ret_D (P := Try.prog) (w := w) (H := H) (v := .agg (svOf (hs1 0) 0 (flightG (grOf (CV.int cn :: CV.int cr :: CV.int cp :: CV.int cdl :: CV.dat cps :: CV.dat css :: CV.bool cv :: CV.int p1 :: CV.int p2 :: CV.int p3 :: CV.int p4 :: CV.bool pf :: CV.int p6 :: CV.dat pw :: CV.dat ph :: CV.int q1 :: CV.int q2 :: CV.int q3 :: CV.int q4 :: CV.bool qf :: CV.int q6 :: CV.dat qw :: CV.dat qh :: CV.int r1 :: CV.int r2 :: CV.int r3 :: CV.int r4 :: CV.bool rf :: CV.int r6 :: CV.dat rw :: CV.dat rh :: CV.dat fl :: CV.dat wa :: CV.dat wb :: CV.dat wc :: CV.int now :: CV.int (IntKind.i64.wrap (clk + 1)) :: CV.bool rt :: CV.int st :: [])) ek ew).cls)) (g := fun ds => .agg (svOf ds 0 (flightG (grOf (CV.int cn :: CV.int cr :: CV.int cp :: CV.int cdl :: CV.dat cps :: CV.dat css :: CV.bool cv :: CV.int p1 :: CV.int p2 :: CV.int p3 :: CV.int p4 :: CV.bool pf :: CV.int p6 :: CV.dat pw :: CV.dat ph :: CV.int q1 :: CV.int q2 :: CV.int q3 :: CV.int q4 :: CV.bool qf :: CV.int q6 :: CV.dat qw :: CV.dat qh :: CV.int r1 :: CV.int r2 :: CV.int r3 :: CV.int r4 :: CV.bool rf :: CV.int r6 :: CV.dat rw :: CV.dat rh :: CV.dat fl :: CV.dat wa :: CV.dat wb :: CV.dat wc :: CV.int now :: CV.int (IntKind.i64.wrap (clk + 1)) :: CV.bool rt :: CV.int st :: [])) ek ew).cls)) (hs1 0) (fun _ _ => rfl) (fun _ h => h)

theorem step_ent {w : World} {H : HV} {cn cr cp cdl : Int} {cps css : D} {cv : Bool} {p1 p2 p3 p4 : Int} {pf : Bool} {p6 : Int} {pw ph : D} {q1 q2 q3 q4 : Int} {qf : Bool} {q6 : Int} {qw qh : D} {r1 r2 r3 r4 : Int} {rf : Bool} {r6 : Int} {rw rh : D} {fl wa wb wc : D} {now clk : Int} {rt : Bool} {st : Int} {ek en ew : Int} (hek : U8 ek) (hen : U8 en) (hew : U8 ew) (hR : GrRight (cv9 cn cr cp cdl cps css cv p1 p2 p3 p4 pf p6 pw ph q1 q2 q3 q4 qf q6 qw qh r1 r2 r3 r4 rf r6 rw rh fl wa wb wc now clk rt st)) (hf9 : (grOf (cv9 cn cr cp cdl cps css cv p1 p2 p3 p4 pf p6 pw ph q1 q2 q3 q4 qf q6 qw qh r1 r2 r3 r4 rf r6 rw rh fl wa wb wc now clk rt st)).flight.length ≤ 999000) (hr : (Sx.stepG (grOf (cv9 cn cr cp cdl cps css cv p1 p2 p3 p4 pf p6 pw ph q1 q2 q3 q4 qf q6 qw qh r1 r2 r3 r4 rf r6 rw rh fl wa wb wc now clk rt st)) ek (nodeOf en) en ew).right = true) :
  Runs Try.prog ⟨w, H⟩ (entry Try.prog 45 [.agg (cl9 cn cr cp cdl cps css cv p1 p2 p3 p4 pf p6 pw ph q1 q2 q3 q4 qf q6 qw qh r1 r2 r3 r4 rf r6 rw rh fl wa wb wc now clk rt st), .agg [.int .u8 ek, .int .u8 en, .int .u8 ew]]) (RetD w H fun ds => .agg (svOf ds 0 (Sx.stepG (grOf (cv9 cn cr cp cdl cps css cv p1 p2 p3 p4 pf p6 pw ph q1 q2 q3 q4 qf q6 qw qh r1 r2 r3 r4 rf r6 rw rh fl wa wb wc now clk rt st)) ek (nodeOf en) en ew).cls)) := by
 have e1 : IntKind.i64.wrap en = en := wrap64 (by have := hen.1; omega) (by have := hen.2; omega)
 have t0 : 0 ≤ Int.tmod en 3 := Int.tmod_nonneg _ hen.1
 have t1 : Int.tmod en 3 < 3 := Int.tmod_lt_of_pos _ (by decide)
 apply goS_sound ctSOk (fun _ => false) [(45, 15)] 900
 rw [step_in, e1]
 refine ⟨(by decide : (3 : Int) ≠ 0), ?_⟩
 have hm : Int.tmod en 3 = 0 ∨ Int.tmod en 3 = 1 ∨ Int.tmod en 3 = 2 := by omega
 rcases hm with h | h | h
 ·have hn : nodeOf en = 0 := by rw [nodeOf, if_pos h]
  rw [hn] at hr ⊢
  rw [h]
  exact step0_run hek hen hew hR hf9 hr
 ·have hn : nodeOf en = 1 := by rw [nodeOf, if_neg (by omega), if_pos h]
  rw [hn] at hr ⊢
  rw [h]
  exact step1_run hek hen hew hR hf9 hr
 ·have hn : nodeOf en = 2 := by rw [nodeOf, if_neg (by omega), if_neg (by omega)]
  rw [hn] at hr ⊢
  rw [h]
  exact step2_run hek hen hew hR hf9 hr

theorem lawStep : Law Try.prog 45 (((rdCells grK).two rdEv).sp spStep) := by
 refine law_in _ (by kernel_rfl) fun H w ⟨⟨cs, hsh⟩, ek, en, ew⟩ hok => ?_
 obtain ⟨cn, cr, cp, cdl, cps, css, cv, p1, p2, p3, p4, pf, p6, pw, ph, q1, q2, q3, q4, qf, q6, qw, qh, r1, r2, r3, r4, rf, r6, rw, rh, fl, wa, wb, wc, now, clk, rt, st, rfl⟩ := gr_shape hsh
 intro hp
 obtain ⟨h1, ⟨⟨h2, h3, h4⟩, h5⟩, h6⟩ := hp _ (List.mem_singleton.2 rfl)
 exact step_ent h2 h3 h4 h1 h5 h6
end Go.Proofs.Ytoechplbhbalaaa
end
section
/- Layer 21: the contracts that the plays lean on. -/
open Go Go.Proofs Sx
namespace Go.Proofs.Ytoechplbhbalaaa
noncomputable def ctP : Ctrs := (45, ctrOf (((rdCells grK).two rdEv).sp spStep)) :: ctS
theorem ctPOk : Ctrs.Ok Try.prog ctP := by
 intro x hx
 rcases List.mem_cons.1 hx with rfl | hx
 ·exact ctrOf_ok lawStep
 ·exact ctSOk _ hx
end Go.Proofs.Ytoechplbhbalaaa
end
section
/- Layer 21: the plays, walked. -/
open Go Go.Proofs Sx
namespace Go.Proofs.Ytoechplbhbalaaa
set_option maxRecDepth 100000
set_option maxHeartbeats 0
noncomputable def p9L (l : D) (cs : List SV) (i : Int) : Conf := Conf.mk (SFrm.mk 9 none none [Item.inLoop (cAt Try.prog 9 [1, 1, 1, 0, 1, 0, 0]), Item.inBlock 0, Item.code (cAt Try.prog 9 [1, 1, 1, 1])] (mkJ 0 [(0, .dat l), (3, .ptr 0 0), (4, .int .i64 i)] 0 68)) [] [(0, .cells 97 cs)]
noncomputable def p8L (l : D) (cs : List SV) (i : Int) : Conf := Conf.mk (SFrm.mk 8 none none [Item.inLoop (cAt Try.prog 8 [1, 1, 1, 0, 1, 0, 0]), Item.inBlock 0, Item.code (cAt Try.prog 8 [1, 1, 1, 1])] (mkJ 0 [(0, .dat l), (3, .ptr 0 0), (4, .int .i64 i)] 0 46)) [] [(0, .cells 97 cs)]
section
variable (cn cr cp cdl : Int) (cps css : D) (cv : Bool) (p1 p2 p3 p4 : Int) (pf : Bool) (p6 : Int) (pw ph : D) (q1 q2 q3 q4 : Int) (qf : Bool) (q6 : Int) (qw qh : D) (r1 r2 r3 r4 : Int) (rf : Bool) (r6 : Int) (rw rh : D) (fl wa wb wc : D) (now clk : Int) (rt : Bool) (st : Int) (l : D) (i : Int)


end
end Go.Proofs.Ytoechplbhbalaaa
end
section
/- Layer 21: the end of BarrierAcknowledges, walked. -/
open Go Go.Proofs Sx
namespace Go.Proofs.Ytoechplbhbalaaa
set_option maxRecDepth 100000
set_option maxHeartbeats 0
noncomputable def p9E (cs : List SV) : Conf := Conf.mk (SFrm.mk 9 none none [Item.code (cAt Try.prog 9 [1, 1, 1, 1, 0]), Item.code (cAt Try.prog 9 [1, 1, 1, 1, 1])] (mkJ 0 [(3, .ptr 0 0)] 0 68)) [] [(0, .cells 97 cs)]
section
variable (cn cr cp cdl : Int) (cps css : D) (cv : Bool) (p1 p2 p3 p4 : Int) (pf : Bool) (p6 : Int) (pw ph : D) (q1 q2 q3 q4 : Int) (qf : Bool) (q6 : Int) (qw qh : D) (r1 r2 r3 r4 : Int) (rf : Bool) (r6 : Int) (rw rh : D) (fl wa wb wc : D) (now clk : Int) (rt : Bool) (st : Int) (i : Int)

end
end Go.Proofs.Ytoechplbhbalaaa
end
section
/- Layer 21: the end of BarrierAcknowledges, walked. -/
open Go Go.Proofs Sx
namespace Go.Proofs.Ytoechplbhbalaaa
set_option maxRecDepth 100000
set_option maxHeartbeats 0
noncomputable def p9N (cs : List SV) (n : Int) : Conf := Conf.mk (SFrm.mk 9 none none [Item.inLoop (cAt Try.prog 9 [1, 1, 1, 1, 1, 1, 0, 1, 0, 0]), Item.inBlock 2, Item.code (cAt Try.prog 9 [1, 1, 1, 1, 1, 1, 1])] (mkJ 0 [(3, .ptr 0 0), (5, .int .i64 n)] 0 68)) [] [(0, .cells 97 cs)]
noncomputable def p9W (cs : List SV) (n i : Int) : Conf := Conf.mk (SFrm.mk 9 none none [Item.inLoop (cAt Try.prog 9 [1, 1, 1, 1, 1, 1, 0, 1, 0, 0, 1, 0, 0, 1, 0, 0]), Item.inBlock 4, Item.inBlock 3, Item.code (cAt Try.prog 9 [1, 1, 1, 1, 1, 1, 0, 1, 0, 0, 1, 1]), Item.inLoop (cAt Try.prog 9 [1, 1, 1, 1, 1, 1, 0, 1, 0, 0]), Item.inBlock 2, Item.code (cAt Try.prog 9 [1, 1, 1, 1, 1, 1, 1])] (mkJ 0 [(3, .ptr 0 0), (5, .int .i64 n), (6, .int .i64 i)] 0 68)) [] [(0, .cells 97 cs)]
section
variable (cn cr cp cdl : Int) (cps css : D) (cv : Bool) (p1 p2 p3 p4 : Int) (pf : Bool) (p6 : Int) (pw ph : D) (q1 q2 q3 q4 : Int) (qf : Bool) (q6 : Int) (qw qh : D) (r1 r2 r3 r4 : Int) (rf : Bool) (r6 : Int) (rw rh : D) (fl wa wb wc : D) (now clk : Int) (rt : Bool) (st : Int) (i : Int)







end
end Go.Proofs.Ytoechplbhbalaaa
end
section
/- A block of cells, said otherwise; the cells of a result as cells that come in. -/
namespace Sx
open Go RowKit

theorem cellsTo {P : Program} {C : Ctx} {R : Value → World → Prop} {top : SFrm} {rest : List SFrm} {k : Nat} {t : TypeId} {cs cs' : List SV} {r : Mem}
  (hd : ∀ E, SV.denL E cs' = SV.denL E cs) (ho : ∀ H, SV.OkL H cs → SV.OkL H cs') (h : Runs P C ⟨top, rest, (k, .cells t cs') :: r⟩ R) : Runs P C ⟨top, rest, (k, .cells t cs) :: r⟩ R := by
 intro E H w g ok
 refine h E H w ⟨g.below, g.ext, g.fresh, g.cell, fun j o hj => ?_, ?_, ?_⟩ ok
 ·rcases List.mem_cons.1 hj with hj | hj
  ·cases hj
   obtain ⟨a1, a2, a3, a4⟩ := g.own k _ List.mem_cons_self
   exact ⟨a1, by rw [hd]; exact a2, a3, ho _ a4⟩
  ·exact g.own j o (List.mem_cons_of_mem _ hj)
 ·have := g.keys
  rw [List.pairwise_cons] at this ⊢
  exact ⟨fun x hx => this.1 x hx, this.2⟩
 ·intro x y hx hy hne hlx hly
  have key : ∀ z : Nat × OBlk, z ∈ (k, OBlk.cells t cs') :: r → z.2.Lies → ∃ o, (z.1, o) ∈ (k, OBlk.cells t cs) :: r ∧ o.Lies := by
   intro z hz hl
   rcases List.mem_cons.1 hz with rfl | hz
   ·exact ⟨_, List.mem_cons_self, trivial⟩
   ·exact ⟨z.2, List.mem_cons_of_mem _ hz, hl⟩
  obtain ⟨o1, m1, l1⟩ := key x hx hlx
  obtain ⟨o2, m2, l2⟩ := key y hy hly
  exact g.apart (x.1, o1) (y.1, o2) m1 m2 hne l1 l2

noncomputable def cvOf (ds : Nat → D) : Nat → List CL → List CV
 | _, [] => []
 | i, .int n :: r => .int n :: cvOf ds i r
 | i, .bool n :: r => .bool n :: cvOf ds i r
 | i, .lst _ l :: r => .dat ((ds i).like l) :: cvOf ds (i + 1) r
end Sx
end
section
/- Layer 21: the play of a group: what stays true of nodes and writes (no program in sight). -/
namespace Sx
open Go
structure MbOk (m : Mb) : Prop where
 r : 0 ≤ m.round ∧ m.round ≤ 1073741824
 u : 0 ≤ m.upto ∧ m.upto ≤ 1073741824
 t : 0 ≤ m.thawed ∧ m.thawed ≤ m.round
 p : 0 ≤ m.position ∧ m.position ≤ m.issued ∧ m.issued ≤ 4096
 fh : m.frozen = false → m.held = []
 ws : m.waiting.Pairwise (· < ·)
 wi : ∀ x, x ∈ m.waiting → 0 ≤ x ∧ x < m.issued
 hn : m.held.Nodup
 hi : ∀ x, x ∈ m.held → (0 ≤ x ∧ x < m.issued) ∧ x ∉ m.waiting

theorem MbOk.check {m : Mb} (h : MbOk m) : checkMb m = 0 := by
 unfold checkMb
 have h1 : headMb m = true := by
  simp only [headMb, okTime, decide_eq_true_eq, Bool.and_eq_false_imp, decide_eq_false_iff_not]
  have := h.r; have := h.u; have := h.t; have := h.p
  rintro (h | h | h | h | h | h | h | ⟨h1, h2⟩)
  ·omega
  ·omega
  ·omega
  ·omega
  ·omega
  ·omega
  ·omega
  ·exact h2 (h.fh h1)
 have h2 : (List.range m.waiting.length).any (badW m.issued m.waiting) = false := by
  rw [List.any_eq_false]
  intro i hi
  have hi := List.mem_range.1 hi
  have hg : m.waiting.getD i 0 = m.waiting[i] := by simp [hi]
  have hm := h.wi _ (List.getElem_mem hi)
  simp only [badW, hg, Bool.or_eq_true, Bool.and_eq_true, decide_eq_true_eq, not_or, not_and]
  refine ⟨⟨by omega, by omega⟩, fun h0 => ?_⟩
  have hg' : m.waiting.getD (i - 1) 0 = m.waiting[i - 1] := by simp [show i - 1 < m.waiting.length by omega]
  rw [hg']
  have := List.pairwise_iff_getElem.1 h.ws (i - 1) i (by omega) hi (by omega)
  omega
 have h3 : (List.range m.held.length).any (badH m.issued m.waiting m.held) = false := by
  rw [List.any_eq_false]
  intro i hi
  have hi := List.mem_range.1 hi
  have hg : m.held.getD i 0 = m.held[i] := by simp [hi]
  have hm := h.hi _ (List.getElem_mem hi)
  simp only [badH, hg, Bool.or_eq_true, decide_eq_true_eq, not_or, Bool.not_eq_true]
  refine ⟨⟨⟨by omega, by omega⟩, ?_⟩, ?_⟩
  ·rw [Bool.eq_false_iff]
   intro hc
   have hc := List.contains_iff_mem.1 hc
   obtain ⟨j, hj, he⟩ := List.mem_take_iff_getElem.1 hc
   have := List.pairwise_iff_getElem.1 h.hn j i (by omega) hi (by omega)
   exact this he
  ·rw [Bool.eq_false_iff]
   intro hc
   exact hm.2 (List.contains_iff_mem.1 hc)
 rw [if_neg (by rw [h1]; decide), if_neg (by rw [h2]; decide), if_neg (by rw [h3]; decide)]
def Wr.Waits (w : Wr) : Prop := w.durable = 0 ∧ w.acked = 0 ∧ w.times = 0
def Wr.Held (w : Wr) : Prop := 0 < w.durable ∧ w.acked = 0 ∧ w.times = 0
def Wr.Acked (w : Wr) : Prop := 0 < w.durable ∧ 0 < w.acked ∧ w.times = 1
structure NodeOk (m : Mb) (w : List Wr) : Prop where
 ok : MbOk m
 len : m.issued = w.length
 wait : ∀ x : Nat, (h : x < w.length) → (x : Int) ∈ m.waiting → w[x].Waits
 held : ∀ x : Nat, (h : x < w.length) → (x : Int) ∈ m.held → w[x].Held
 ackd : ∀ x : Nat, (h : x < w.length) → (x : Int) ∉ m.waiting → (x : Int) ∉ m.held → w[x].Acked
theorem ackW_spec (clk : Int) : ∀ (l : List Int) (w : List Wr), l.Nodup → (∀ x, x ∈ l → 0 ≤ x ∧ ∃ h : x.toNat < w.length, 0 < w[x.toNat].durable ∧ w[x.toNat].times = 0) →
  (ackW clk false l w).2 = true ∧ ∃ hl : (ackW clk false l w).1.length = w.length, ∀ i : Nat, (h : i < w.length) →
   (ackW clk false l w).1[i]'(by rw [hl]; exact h) = if (i : Int) ∈ l then { w[i] with acked := clk, times := 1 } else w[i]
 | [], w, _, _ => ⟨rfl, rfl, fun i h => by simp [ackW]⟩
 | x :: l, w, hn, hx => by
  obtain ⟨hx0, hxl, hd, ht⟩ := hx x List.mem_cons_self
  rw [List.nodup_cons] at hn
  have hg : w.getD x.toNat ⟨0, 0, 0, 0⟩ = w[x.toNat] := by simp [hxl]
  have hw1 : IntKind.i64.wrap (w[x.toNat].times + 1) = 1 := by rw [ht]; rfl
  have ih := ackW_spec clk l (w.set x.toNat { w[x.toNat] with acked := clk, times := 1 }) hn.2 (fun y hy => by
   obtain ⟨hy0, hyl, hyd, hyt⟩ := hx y (List.mem_cons_of_mem _ hy)
   have hne : x ≠ y := fun e => hn.1 (e ▸ hy)
   refine ⟨hy0, by rw [List.length_set]; exact hyl, ?_⟩
   rw [List.getElem_set_ne (by omega)]
   exact ⟨hyd, hyt⟩)
  obtain ⟨i1, i2, i3⟩ := ih
  have e : ackW clk false (x :: l) w = ((ackW clk false l (w.set x.toNat { w[x.toNat] with acked := clk, times := 1 })).1, true && (ackW clk false l (w.set x.toNat { w[x.toNat] with acked := clk, times := 1 })).2) := by
   conv => lhs; unfold ackW
   rw [if_neg (by omega)]
   simp only [hg, hw1]
   have hd' : decide (w[x.toNat].durable = 0) = false := decide_eq_false (by omega)
   rw [hd']
   rfl
  refine ⟨by rw [e]; simp only [i1]; rfl, by rw [e]; simp only [i2, List.length_set], fun i hi => ?_⟩
  have hh := i3 i (by rw [List.length_set]; exact hi)
  simp only [e]
  rw [hh]
  by_cases hxi : (i : Int) = x
  ·have : x.toNat = i := by omega
   subst this
   have hnl : ¬((x.toNat : Int) ∈ l) := by rw [hxi]; exact hn.1
   rw [if_neg hnl, if_pos (by rw [hxi]; exact List.mem_cons_self)]
   simp
  ·have hne : ¬x.toNat = i := by omega
   simp only [List.mem_cons, hxi, false_or]
   simp only [List.getElem_set_ne hne]
structure Mstep (m m' : Mb) (acks : List Int) : Prop where
 ok : MbOk m'
 iss : m'.issued = m.issued
 wait : m'.waiting = m.waiting
 how : (acks = [] ∧ m'.held = m.held) ∨ (acks = m.held ∧ m'.held = [] ∧ m'.frozen = false)

theorem NodeOk.mstep {m m' : Mb} {w : List Wr} {acks : List Int} {clk : Int} (h : NodeOk m w) (hc : w ≠ [] → 0 < clk) (s : Mstep m m' acks) :
  NodeOk m' (ackW clk m'.frozen acks w).1 ∧ (ackW clk m'.frozen acks w).2 = true := by
 rcases s.how with ⟨h1, h2⟩ | ⟨h1, h2, h3⟩
 ·subst h1
  exact ⟨⟨s.ok, s.iss.trans h.len, fun x hx hm => h.wait x hx (s.wait ▸ hm), fun x hx hm => h.held x hx (h2 ▸ hm), fun x hx hm hm2 => h.ackd x hx (s.wait ▸ hm) (h2 ▸ hm2)⟩, rfl⟩
 ·subst h1
  rw [h3]
  have hin : ∀ x, x ∈ m.held → 0 ≤ x ∧ ∃ h : x.toNat < w.length, 0 < w[x.toNat].durable ∧ w[x.toNat].times = 0 := fun x hx => by
   obtain ⟨⟨a, b⟩, _⟩ := h.ok.hi x hx
   have hl : x.toNat < w.length := by have := h.len; omega
   have := h.held x.toNat hl (by rw [Int.toNat_of_nonneg a]; exact hx)
   exact ⟨a, hl, this.1, this.2.2⟩
  obtain ⟨a1, a2, a3⟩ := ackW_spec clk m.held w h.ok.hn hin
  refine ⟨⟨s.ok, s.iss.trans (h.len.trans (by rw [a2])), fun x hx hm => ?_, fun x hx hm => ?_, fun x hx hm _ => ?_⟩, a1⟩
  ·rw [a2] at hx
   rw [s.wait] at hm
   rw [a3 x hx, if_neg (fun hh => (h.ok.hi _ hh).2 hm)]
   exact h.wait x hx hm
  ·rw [h2] at hm; cases hm
  ·rw [a2] at hx
   rw [s.wait] at hm
   rw [a3 x hx]
   by_cases hh : (x : Int) ∈ m.held
   ·rw [if_pos hh]
    exact ⟨(h.held x hx hh).1, hc (by rintro rfl; simp at hx), rfl⟩
   ·rw [if_neg hh]
    exact h.ackd x hx hm hh

theorem thaw_step {m : Mb} (h : MbOk m) {m' : Mb} (ht : m' = { m with frozen := false, held := [] }) : Mstep m m' m.held := by
 subst ht
 exact ⟨⟨h.r, h.u, h.t, h.p, fun _ => rfl, h.ws, h.wi, List.nodup_nil, fun x hx => by cases hx⟩, rfl, rfl, .inr ⟨rfl, rfl, rfl⟩⟩
theorem same_step {m : Mb} (h : MbOk m) : Mstep m m [] := ⟨h, rfl, rfl, .inl ⟨rfl, rfl⟩⟩

theorem rel_step {m : Mb} (h : MbOk m) (now : Int) : Mstep m (relMb m now).1 (relMb m now).2 := by
 unfold relMb
 split
 ·exact same_step h
 ·exact thaw_step h rfl

theorem end_step {m : Mb} (h : MbOk m) (now : Int) (g : Msg) : Mstep m (endMb m now g).1 (endMb m now g).2.1 := by
 unfold endMb
 split
 ·exact same_step h
 ·split
  ·refine ⟨⟨h.r, h.u, ⟨h.r.1, Int.le_refl _⟩, h.p, fun _ => rfl, h.ws, h.wi, List.nodup_nil, fun x hx => by cases hx⟩, rfl, rfl, .inr ⟨rfl, rfl, rfl⟩⟩
  ·exact thaw_step h rfl

theorem clampT_rng {lo n : Int} (h : 0 ≤ lo) (h2 : lo ≤ 1073741824) : lo ≤ clampT lo n ∧ clampT lo n ≤ 1073741824 := by unfold clampT; omega

theorem obey_step {m : Mb} (h : MbOk m) (now p : Int) (g : Msg) : Mstep m (obeyMb m now p g).1 (obeyMb m now p g).2.1 := by
 have c0 := clampT_rng (lo := 0) (n := now) (by omega) (by omega)
 have c1 := clampT_rng (lo := 1) (n := p) (by omega) (by omega)
 unfold obeyMb
 split
 ·exact same_step h
 ·rename_i hc
  simp only [not_or, ne_eq, Decidable.not_not] at hc
  split
  ·split
   ·rename_i hg
    have := h.t; have := h.r; have := h.p
    exact ⟨⟨⟨by simp only; omega, by simp only; omega⟩, ⟨by simp only; omega, by simp only; omega⟩, ⟨by simp only; omega, by simp only; omega⟩, ⟨by simp only; omega, by simp only; omega, by simp only; omega⟩, fun hf => (by cases hf), h.ws, h.wi, h.hn, h.hi⟩, rfl, rfl, .inl ⟨rfl, rfl⟩⟩
   ·split
    ·exact same_step h
    ·exact same_step h
  ·split
   ·split
    ·exact end_step h _ _
    ·split
     ·exact same_step h
     ·exact same_step h
   ·split
    ·split
     ·exact thaw_step h rfl
     ·exact same_step h
    ·exact same_step h
end Sx
end
section
/- Layer 21: the play of a group: every step keeps it in order (no program in sight). -/
namespace Sx
open Go

theorem issue_node {m : Mb} {w : List Wr} (h : NodeOk m w) (hl : m.issued < 4096) (clk : Int) :
  NodeOk (issueMb m).1 (w ++ [⟨clk, 0, 0, 0⟩]) ∧ (issueMb m).2 = w.length := by
 have e : issueMb m = ({ m with waiting := m.waiting ++ [m.issued], issued := m.issued + 1 }, m.issued) := issue_ok h.ok.check (by omega)
 rw [e]
 have hlen := h.len
 have hp := h.ok.p
 refine ⟨⟨⟨h.ok.r, h.ok.u, h.ok.t, ⟨hp.1, by simp only; omega, by simp only; omega⟩, h.ok.fh, ?_, ?_, h.ok.hn, ?_⟩, ?_, ?_, ?_, ?_⟩, hlen⟩
 ·simp only
  rw [List.pairwise_append]
  refine ⟨h.ok.ws, List.pairwise_singleton _ _, fun a ha b hb => ?_⟩
  rw [List.mem_singleton.1 hb]
  exact (h.ok.wi a ha).2
 ·intro x hx
  simp only at hx ⊢
  rcases List.mem_append.1 hx with hx | hx
  ·have := h.ok.wi x hx; omega
  ·rw [List.mem_singleton.1 hx]; omega
 ·intro x hx
  simp only at hx ⊢
  obtain ⟨a, b⟩ := h.ok.hi x hx
  refine ⟨by omega, fun hm => ?_⟩
  rcases List.mem_append.1 hm with hm | hm
  ·exact b hm
  ·have := List.mem_singleton.1 hm; omega
 ·simp only [List.length_append, List.length_singleton]; omega
 ·intro x hx hm
  simp only at hm
  by_cases hxl : x < w.length
  ·rw [List.getElem_append_left hxl]
   refine h.wait x hxl ?_
   rcases List.mem_append.1 hm with hm | hm
   ·exact hm
   ·have := List.mem_singleton.1 hm; omega
  ·rw [List.getElem_append_right (by omega)]
   simp [Wr.Waits]
 ·intro x hx hm
  simp only at hm
  have := (h.ok.hi _ hm).1
  have hxl : x < w.length := by omega
  rw [List.getElem_append_left hxl]
  exact h.held x hxl hm
 ·intro x hx hm hm2
  simp only at hm hm2
  have hxl : x < w.length := by
   simp only [List.length_append, List.length_singleton] at hx
   rcases Nat.lt_or_ge x w.length with h1 | h1
   ·exact h1
   ·exfalso
    apply hm
    apply List.mem_append_right
    rw [List.mem_singleton]
    omega
  rw [List.getElem_append_left hxl]
  exact h.ackd x hxl (fun hh => hm (List.mem_append_left _ hh)) hm2

theorem dur_node {m : Mb} {w : List Wr} (h : NodeOk m w) {x : Nat} (hx : (x : Int) ∈ m.waiting) {clk : Int} (hc : 0 < clk) (hxl : x < w.length) :
  NodeOk (durMb m x).1 (ackW clk (durMb m x).1.frozen (durMb m x).2.1 (w.set x { w[x] with durable := clk })).1 ∧
  (ackW clk (durMb m x).1.frozen (durMb m x).2.1 (w.set x { w[x] with durable := clk })).2 = true ∧ (durMb m x).2.2 = 0 ∧ (durMb m x).1.frozen = m.frozen := by
 have hk := h.ok.check
 have hcon : m.waiting.contains (x : Int) = true := List.contains_iff_mem.2 hx
 have hw := h.wait x hxl hx
 have hfm : ∀ y, y ∈ m.waiting.filter (fun y => y != (x : Int)) ↔ y ∈ m.waiting ∧ y ≠ x := fun y => by simp [List.mem_filter]
 have hpw := h.ok.ws.filter (fun y => y != (x : Int))
 cases hf : m.frozen with
 | true =>
  rw [dur_held hk hcon hf]
  refine ⟨⟨⟨h.ok.r, h.ok.u, h.ok.t, h.ok.p, fun hh => ?_, hpw, fun y hy => h.ok.wi y ((hfm y).1 hy).1, ?_, ?_⟩, ?_, ?_, ?_, ?_⟩, rfl, rfl, hf⟩
  ·simp only [hf] at hh; cases hh
  ·simp only
   rw [List.nodup_append]
   refine ⟨h.ok.hn, by simp, fun a ha b hb => ?_⟩
   rw [List.mem_singleton.1 hb]
   rintro rfl
   exact (h.ok.hi _ ha).2 hx
  ·intro y hy
   simp only at hy ⊢
   rcases List.mem_append.1 hy with hy | hy
   ·obtain ⟨a, b⟩ := h.ok.hi y hy
    exact ⟨a, fun hm => b ((hfm y).1 hm).1⟩
   ·rw [List.mem_singleton.1 hy]
    exact ⟨h.ok.wi _ hx, fun hm => ((hfm _).1 hm).2 rfl⟩
  ·simp only [ackW, List.length_set]; exact h.len
  ·intro y hy hm
   simp only [ackW, List.length_set] at hy ⊢
   simp only at hm
   obtain ⟨hm1, hm2⟩ := (hfm _).1 hm
   rw [List.getElem_set_ne (by omega)]
   exact h.wait y hy hm1
  ·intro y hy hm
   simp only [ackW, List.length_set] at hy ⊢
   simp only at hm
   by_cases hyx : x = y
   ·subst hyx
    rw [List.getElem_set_self]
    exact ⟨hc, hw.2.1, hw.2.2⟩
   ·rw [List.getElem_set_ne hyx]
    refine h.held y hy ?_
    rcases List.mem_append.1 hm with hm | hm
    ·exact hm
    ·have := List.mem_singleton.1 hm; omega
  ·intro y hy hm hm2
   simp only [ackW, List.length_set] at hy ⊢
   simp only at hm hm2
   have hyx : ¬x = y := fun e => hm2 (by subst e; exact List.mem_append_right _ (List.mem_singleton.2 rfl))
   rw [List.getElem_set_ne hyx]
   exact h.ackd y hy (fun hh => hm ((hfm _).2 ⟨hh, by omega⟩)) (fun hh => hm2 (List.mem_append_left _ hh))
 | false =>
  rw [dur_free hk hcon hf]
  have hheld := h.ok.fh hf
  have hspec := ackW_spec clk [(x : Int)] (w.set x { w[x] with durable := clk }) (by simp) (fun y hy => by
   rw [List.mem_singleton.1 hy]
   refine ⟨by omega, by rw [List.length_set]; simpa using hxl, ?_⟩
   simp only [Int.toNat_natCast, List.getElem_set_self]
   exact ⟨hc, hw.2.2⟩)
  obtain ⟨a1, a2, a3⟩ := hspec
  simp only [hf]
  rw [List.length_set] at a2
  refine ⟨⟨⟨h.ok.r, h.ok.u, h.ok.t, h.ok.p, fun _ => hheld, hpw, fun y hy => h.ok.wi y ((hfm y).1 hy).1, h.ok.hn, fun y hy => ?_⟩, ?_, ?_, ?_, ?_⟩, a1, trivial, trivial⟩
  ·simp only [hheld] at hy; cases hy
  ·simp only [a2]; exact h.len
  ·intro y hy hm
   rw [a2] at hy
   simp only at hm
   obtain ⟨hm1, hm2⟩ := (hfm _).1 hm
   rw [a3 y (by rw [List.length_set]; exact hy), if_neg (by rw [List.mem_singleton]; exact hm2), List.getElem_set_ne (by omega)]
   exact h.wait y hy hm1
  ·intro y hy hm
   simp only [hheld] at hm; cases hm
  ·intro y hy hm hm2
   rw [a2] at hy
   simp only at hm hm2
   rw [a3 y (by rw [List.length_set]; exact hy)]
   by_cases hyx : x = y
   ·subst hyx
    rw [if_pos (List.mem_singleton.2 rfl), List.getElem_set_self]
    exact ⟨hc, hc, rfl⟩
   ·rw [if_neg (by rw [List.mem_singleton]; omega), List.getElem_set_ne hyx]
    exact h.ackd y hy (fun hh => hm ((hfm _).2 ⟨hh, by omega⟩)) hm2
structure CoOk (c : Co) (t : Nat) : Prop where
 ok : checkCo c = 0
 n : c.nodes = 3
 r : c.round ≤ t
def MsgOk (m : Msg) : Prop := ((0 ≤ m.to ∧ m.to ≤ 2) ∧ m.frm = 3) ∨ (m.to = 3 ∧ 0 ≤ m.frm ∧ m.frm ≤ 2)

theorem msgsTo_ok (r k : Int) : (msgsTo 3 r k).length = 3 ∧ ∀ m, m ∈ msgsTo 3 r k → MsgOk m := by
 refine ⟨by simp [msgsTo], fun m hm => ?_⟩
 simp only [msgsTo, List.mem_map, List.mem_range] at hm
 obtain ⟨i, hi, rfl⟩ := hm
 have : i < 3 := hi
 exact .inl ⟨⟨by simp only; omega, by simp only; omega⟩, rfl⟩

theorem ansTo_ok {g : Msg} (h : (0 ≤ g.to ∧ g.to ≤ 2) ∧ g.frm = 3) (k v : Int) : (ansTo g k v).length = 1 ∧ ∀ m, m ∈ ansTo g k v → MsgOk m := by
 refine ⟨rfl, fun m hm => ?_⟩
 rw [List.mem_singleton.1 hm]
 exact .inr ⟨h.2, h.1⟩

theorem endMb_msgs {g : Msg} (h : (0 ≤ g.to ∧ g.to ≤ 2) ∧ g.frm = 3) (m : Mb) (now : Int) : (endMb m now g).2.2.length ≤ 3 ∧ ∀ x, x ∈ (endMb m now g).2.2 → MsgOk x := by
 unfold endMb
 split
 ·exact ⟨by simp [ansTo], (ansTo_ok h _ _).2⟩
 ·split
  ·exact ⟨by simp [ansTo], (ansTo_ok h _ _).2⟩
  ·exact ⟨by simp [ansTo], (ansTo_ok h _ _).2⟩

theorem obeyMb_msgs {g : Msg} (h : (0 ≤ g.to ∧ g.to ≤ 2) ∧ g.frm = 3) (m : Mb) (now p : Int) : (obeyMb m now p g).2.2.length ≤ 3 ∧ ∀ x, x ∈ (obeyMb m now p g).2.2 → MsgOk x := by
 have nil : ([] : List Msg).length ≤ 3 ∧ ∀ x, x ∈ ([] : List Msg) → MsgOk x := ⟨Nat.zero_le _, fun x hx => by cases hx⟩
 have ans : ∀ k v, (ansTo g k v).length ≤ 3 ∧ ∀ x, x ∈ ansTo g k v → MsgOk x := fun k v => ⟨by simp [ansTo], (ansTo_ok h k v).2⟩
 unfold obeyMb
 repeat' split
 all_goals first | exact nil | exact ans _ _ | exact endMb_msgs h _ _

theorem checkCo_mk {n r p dl : Int} {ps : List Int} {ss : List Bool} {v : Bool} (h : (1 ≤ n ∧ n ≤ 8) ∧ (0 ≤ r ∧ r ≤ 1073741824) ∧ (0 ≤ dl ∧ dl ≤ 1073741824) ∧ (0 ≤ p ∧ p ≤ 2) ∧ (ps.length : Int) = n ∧ (ss.length : Int) = n ∧ (v = true → p = 0) ∧ ps.any badPos = false) :
  checkCo ⟨n, r, p, dl, ps, ss, v⟩ = 0 := checkCo_zero.2 h

theorem giveUp_ok {c : Co} {t : Nat} (h : CoOk c t) : CoOk ⟨c.nodes, c.round, 0, c.deadline, c.positions, c.seen, false⟩ t := by
 obtain ⟨h1, h2, h3⟩ := h
 have hz := checkCo_zero.1 (show checkCo ⟨c.nodes, c.round, c.phase, c.deadline, c.positions, c.seen, c.valid⟩ = 0 from h1)
 exact ⟨checkCo_mk ⟨hz.1, hz.2.1, hz.2.2.1, ⟨by omega, by omega⟩, hz.2.2.2.2.1, hz.2.2.2.2.2.1, fun h => (by cases h), hz.2.2.2.2.2.2.2⟩, h2, h3⟩

theorem expire_ok {c : Co} {t : Nat} (h : CoOk c t) (now : Int) : CoOk (expireCo c now).1 t ∧ (expireCo c now).2.length ≤ 3 ∧ ∀ m, m ∈ (expireCo c now).2 → MsgOk m := by
 unfold expireCo
 split
 ·exact ⟨h, Nat.zero_le _, fun m hm => by cases hm⟩
 ·have hm := msgsTo_ok c.round 24
  refine ⟨giveUp_ok h, ?_, ?_⟩
  ·simp only [giveUpCo, h.n]; exact Nat.le_of_eq hm.1
  ·simp only [giveUpCo, h.n]; exact hm.2

theorem any_set {ps : List Int} {i : Nat} {v : Int} (h : ps.any badPos = false) (hv : badPos v = false) : (ps.set i v).any badPos = false := by
 rw [List.any_eq_false] at h ⊢
 intro x hx
 rcases List.mem_or_eq_of_mem_set hx with hx | hx
 ·exact h x hx
 ·rw [hx, hv]; decide

theorem collect_ok {c : Co} {t : Nat} (h : CoOk c t) (now : Int) (m : Msg) : CoOk (collectCo c now m).1 t ∧ (collectCo c now m).2.length ≤ 3 ∧ ∀ x, x ∈ (collectCo c now m).2 → MsgOk x := by
 have nil : CoOk c t ∧ ([] : List Msg).length ≤ 3 ∧ ∀ x, x ∈ ([] : List Msg) → MsgOk x := ⟨h, Nat.zero_le _, fun x hx => by cases hx⟩
 by_cases hb : ¬checkCo c = 0 ∨ c.phase = 0 ∨ now ≥ c.deadline ∨ m.frm < 0 ∨ m.frm ≥ c.nodes ∨ ¬m.number = c.round
 ·rw [coll_bad hb]; exact nil
 ·rw [coll_go hb rfl rfl]
  obtain ⟨h1, h2, h3⟩ := h
  have hz := checkCo_zero.1 (show checkCo ⟨c.nodes, c.round, c.phase, c.deadline, c.positions, c.seen, c.valid⟩ = 0 from h1)
  simp only [not_or, Decidable.not_not] at hb
  have hv0 : c.valid = true → False := fun hv => hb.2.1 (hz.2.2.2.2.2.2.1 hv)
  unfold collGo
  repeat' split
  all_goals first
   | exact nil
   | skip
  ·rename_i hk hc hal
   simp only [not_or] at hc
   have hbv : badPos m.value = false := by simp only [badPos, Bool.or_eq_false_iff, decide_eq_false_iff_not]; omega
   refine ⟨⟨checkCo_mk ⟨hz.1, hz.2.1, hz.2.2.1, ⟨by omega, by omega⟩, by rw [List.length_set]; exact hz.2.2.2.2.1, by rw [List.length_replicate]; have := hz.1; omega, fun hv => (hv0 hv).elim, any_set hz.2.2.2.2.2.2.2 hbv⟩, h2, h3⟩, ?_, ?_⟩
   ·simp only [h2]; exact Nat.le_of_eq (msgsTo_ok _ _).1
   ·simp only [h2]; exact (msgsTo_ok _ _).2
  ·rename_i hk hc hal
   simp only [not_or] at hc
   have hbv : badPos m.value = false := by simp only [badPos, Bool.or_eq_false_iff, decide_eq_false_iff_not]; omega
   exact ⟨⟨checkCo_mk ⟨hz.1, hz.2.1, hz.2.2.1, hz.2.2.2.1, by rw [List.length_set]; exact hz.2.2.2.2.1, by rw [List.length_set]; exact hz.2.2.2.2.2.1, fun hv => (hv0 hv).elim, any_set hz.2.2.2.2.2.2.2 hbv⟩, h2, h3⟩, Nat.zero_le _, fun x hx => by cases hx⟩
  ·refine ⟨giveUp_ok ⟨h1, h2, h3⟩, ?_, ?_⟩
   ·simp only [h2]; exact Nat.le_of_eq (msgsTo_ok _ _).1
   ·simp only [h2]; exact (msgsTo_ok _ _).2
  ·exact ⟨⟨checkCo_mk ⟨hz.1, hz.2.1, hz.2.2.1, ⟨by omega, by omega⟩, hz.2.2.2.2.1, by rw [List.length_set]; exact hz.2.2.2.2.2.1, fun _ => rfl, hz.2.2.2.2.2.2.2⟩, h2, h3⟩, Nat.zero_le _, fun x hx => by cases hx⟩
  ·exact ⟨⟨checkCo_mk ⟨hz.1, hz.2.1, hz.2.2.1, hz.2.2.2.1, hz.2.2.2.2.1, by rw [List.length_set]; exact hz.2.2.2.2.2.1, hz.2.2.2.2.2.2.1, hz.2.2.2.2.2.2.2⟩, h2, h3⟩, Nat.zero_le _, fun x hx => by cases hx⟩

theorem start_ok {c : Co} {t : Nat} (h : CoOk c t) {now : Int} (h0 : 0 ≤ now) (h1 : now ≤ 1000000) (ht : t ≤ 1000000) :
  (startCo c now 20).2.2 = 26 ∨ ((startCo c now 20).2.2 = 0 ∧ CoOk (startCo c now 20).1 (t + 1) ∧ (startCo c now 20).2.1.length ≤ 3 ∧ ∀ m, m ∈ (startCo c now 20).2.1 → MsgOk m) := by
 obtain ⟨h1', h2, h3⟩ := h
 have hc : checkCo ⟨c.nodes, c.round, c.phase, c.deadline, c.positions, c.seen, c.valid⟩ = 0 := h1'
 have hz := checkCo_zero.1 hc
 have e := startCo_eq (now := now) (patience := 20) hc
 have e : startCo c now 20 = _ := e
 rw [e, if_neg (by omega)]
 split
 ·exact .inl rfl
 ·rw [if_neg (by omega)]
  right
  have hr : (List.replicate c.nodes.toNat (0 : Int)).any badPos = false := by
   rw [List.any_eq_false]; intro x hx; rw [List.eq_of_mem_replicate hx]; decide
  refine ⟨rfl, ⟨checkCo_mk ⟨hz.1, ⟨by omega, by omega⟩, ⟨by omega, by omega⟩, ⟨by omega, by omega⟩, by rw [List.length_replicate]; have := hz.1; omega, by rw [List.length_replicate]; have := hz.1; omega, fun h => (by cases h), hr⟩, h2, by simp only; omega⟩, ?_, ?_⟩
  ·simp only [h2]; exact Nat.le_of_eq (msgsTo_ok _ _).1
  ·simp only [h2]; exact (msgsTo_ok _ _).2
end Sx
end
section
/- Layer 21: the play of a group: the invariant of its writes (no program in sight). -/
namespace Sx
open Go
structure GrOk (g : Gr) (t : Nat) : Prop where
 c : CoOk g.c t
 node : ∀ i, NodeOk (g.node i) (g.wr i)
 fl : ∀ m, m ∈ g.flight → MsgOk m
 flen : g.flight.length ≤ 12 * t + 24
 now : 0 ≤ g.now ∧ g.now ≤ 5 * t + 200
 clock : g.clock = t
 right : g.right = true
 wlen : ∀ i, (g.wr i).length ≤ t
 upto : ∀ i, (g.node i).upto ≤ g.now + 12

theorem upd_self {α : Type} (f : Fin 3 → α) (i : Fin 3) (v : α) : upd f i v i = v := if_pos rfl
theorem upd_ne {α : Type} {f : Fin 3 → α} {i j : Fin 3} {v : α} (h : j ≠ i) : upd f i v j = f j := if_neg h
theorem GrOk.mstep {g : Gr} {t : Nat} (h : GrOk g t) (i : Fin 3) {m' : Mb} {acks : List Int} (s : Mstep (g.node i) m' acks) (hu : m'.upto ≤ g.now + 12) :
  GrOk (ackG { g with node := upd g.node i m' } i acks) t := by
 have hn := (h.node i).mstep (clk := g.clock) (fun hne => by have := h.wlen i; have := List.length_pos_iff.2 hne; rw [h.clock]; omega) s
 obtain ⟨n1, n2⟩ := hn
 refine ⟨h.c, fun j => ?_, h.fl, h.flen, h.now, h.clock, ?_, fun j => ?_, fun j => ?_⟩
 ·simp only [ackG, upd_self]
  by_cases hj : j = i
  ·subst hj; rw [upd_self, upd_self]; exact n1
  ·rw [upd_ne hj, upd_ne hj]; exact h.node j
 ·simp only [ackG, upd_self, n2, h.right, Bool.and_true]
 ·simp only [ackG, upd_self]
  by_cases hj : j = i
  ·subst hj; rw [upd_self, ackW_len]; exact h.wlen j
  ·rw [upd_ne hj]; exact h.wlen j
 ·simp only [ackG]
  by_cases hj : j = i
  ·subst hj; rw [upd_self]; exact hu
  ·rw [upd_ne hj]; exact h.upto j

theorem GrOk.send {g : Gr} {t : Nat} {l : List Msg} {k : Nat} (h : GrOk g t) (hl : ∀ m, m ∈ l → MsgOk m) (hk : g.flight.length + l.length ≤ 12 * t + 24) : GrOk (sendG g l) t :=
 ⟨h.c, h.node, fun m hm => (List.mem_append.1 hm).elim (h.fl m) (hl m), by simp only [sendG, List.length_append]; exact hk, h.now, h.clock, h.right, h.wlen, h.upto⟩

theorem rel_upto (m : Mb) (now : Int) : (relMb m now).1.upto = m.upto := by
 unfold relMb; split <;> rfl

theorem GrOk.rel {g : Gr} {t : Nat} (h : GrOk g t) (i : Fin 3) : GrOk (relG g i) t :=
 h.mstep i (rel_step (h.node i).ok g.now) (by rw [rel_upto]; exact h.upto i)

theorem end_upto (m : Mb) (now : Int) (g : Msg) : (endMb m now g).1.upto = m.upto := by
 unfold endMb; split; · rfl
 split <;> rfl
theorem obey_upto {m : Mb} {now : Int} {g : Msg} (h0 : 0 ≤ now) (h : m.upto ≤ now + 12) : (obeyMb m now 12 g).1.upto ≤ now + 12 := by
 unfold obeyMb
 split
 ·exact h
 ·split
  ·split
   ·simp only [clampT]; omega
   ·split <;> exact h
  ·split
   ·split
    ·rw [end_upto]; exact h
    ·split <;> exact h
   ·split
    ·split <;> exact h
    ·exact h

theorem GrOk.obey {g : Gr} {t : Nat} (h : GrOk g t) (ht : 0 < t) (i : Fin 3) {m : Msg} (hm : (0 ≤ m.to ∧ m.to ≤ 2) ∧ m.frm = 3) (hk : g.flight.length + 3 ≤ 12 * t + 24) : GrOk (obeyG g m i) t := by
  have h1 := h.mstep i (obey_step (h.node i).ok g.now 12 m) (obey_upto h.now.1 (h.upto i))
  obtain ⟨m1, m2⟩ := obeyMb_msgs hm (g.node i) g.now 12
  exact GrOk.send (k := 0) h1 m2 (by have : (ackG { g with node := upd g.node i (obeyMb (g.node i) g.now 12 m).1 } i (obeyMb (g.node i) g.now 12 m).2.1).flight = g.flight := rfl
                                     rw [this]; omega)

theorem GrOk.coord {g : Gr} {t : Nat} (h : GrOk g t) {c : Co} (hc : CoOk c t) : GrOk { g with c := c } t := ⟨hc, h.node, h.fl, h.flen, h.now, h.clock, h.right, h.wlen, h.upto⟩

theorem GrOk.recv {g : Gr} {t : Nat} (h : GrOk g t) (ht : 0 < t) {m : Msg} (hm : MsgOk m) (hk : g.flight.length + 3 ≤ 12 * t + 24) : GrOk (recvG g m) t := by
 unfold recvG
 rcases hm with hm | ⟨hm, hm2⟩
 ·rw [if_neg (by omega)]
  by_cases h0 : m.to = 0
  ·rw [if_pos h0]; exact h.obey ht 0 hm hk
  ·rw [if_neg h0]
   by_cases h1 : m.to = 1
   ·rw [if_pos h1]; exact h.obey ht 1 hm hk
   ·rw [if_neg h1, if_pos (by omega)]
    exact h.obey ht 2 hm hk
 ·rw [if_pos hm]
  obtain ⟨c1, c2, c3⟩ := collect_ok h.c g.now m
  exact GrOk.send (k := 0) (h.coord c1) c3 (by simp only; omega)

theorem GrOk.flight {g : Gr} {t : Nat} (h : GrOk g t) (ht : 0 < t) (k w : Int) (hw : 0 ≤ w) (hk : g.flight.length + 3 ≤ 12 * t + 24) : GrOk (flightG g k w) t := by
 by_cases h0 : g.flight.length = 0
 ·rw [flightG_nil h0]; exact h
 ·have t0 : 0 ≤ Int.tmod w g.flight.length := Int.tmod_nonneg _ hw
  have t1 : Int.tmod w g.flight.length < g.flight.length := Int.tmod_lt_of_pos _ (by omega)
  obtain ⟨i, hi⟩ : ∃ i, (Int.tmod w g.flight.length).toNat = i := ⟨_, rfl⟩
  have hil : i < g.flight.length := by omega
  rw [flightG_go h0 hi rfl]
  have hm : MsgOk (g.flight.getD i noMsg) := by
   have e : g.flight.getD i noMsg = g.flight[i] := by simp [hil]
   rw [e]; exact h.fl _ (List.getElem_mem hil)
  have hg1 : GrOk (if Int.tmod k 7 = 4 then g else { g with flight := g.flight.take i ++ g.flight.drop (i + 1) }) t ∧ (if Int.tmod k 7 = 4 then g else { g with flight := g.flight.take i ++ g.flight.drop (i + 1) } : Gr).flight.length + 3 ≤ 12 * t + 24 := by
   split
   ·exact ⟨h, hk⟩
   ·refine ⟨⟨h.c, h.node, fun m hm => ?_, ?_, h.now, h.clock, h.right, h.wlen, h.upto⟩, ?_⟩
    ·rcases List.mem_append.1 hm with hm | hm
     ·exact h.fl m (List.mem_of_mem_take hm)
     ·exact h.fl m (List.mem_of_mem_drop hm)
    ·simp only [List.length_append, List.length_take, List.length_drop]; omega
    ·simp only [List.length_append, List.length_take, List.length_drop]; omega
  split
  ·exact hg1.1
  ·exact hg1.1.recv ht hm hg1.2

theorem GrOk.tick {g : Gr} {t : Nat} (h : GrOk g t) (ht2 : t ≤ 1000) (n w : Int) (hw : U8 w) (hn : g.now + 5 ≤ 5 * t + 200) (hk : g.flight.length + 3 ≤ 12 * t + 24) : GrOk (tickG g n w) t := by
 have t0 : 0 ≤ Int.tmod w 5 := Int.tmod_nonneg _ hw.1
 have t1 : Int.tmod w 5 < 5 := Int.tmod_lt_of_pos _ (by decide)
 have h0 := h.now
 have e : IntKind.i64.wrap (g.now + (1 + Int.tmod w 5)) = g.now + (1 + Int.tmod w 5) := wrap64 (by omega) (by omega)
 obtain ⟨c1, c2, c3⟩ := expire_ok h.c (g.now + (1 + Int.tmod w 5))
 have h1 : GrOk (sendG { g with now := g.now + (1 + Int.tmod w 5), c := (expireCo g.c (g.now + (1 + Int.tmod w 5))).1 } (expireCo g.c (g.now + (1 + Int.tmod w 5))).2) t :=
  GrOk.send (k := 0) ⟨c1, h.node, h.fl, h.flen, ⟨by simp only; omega, by simp only; omega⟩, h.clock, h.right, h.wlen, fun i => by have := h.upto i; simp only; omega⟩ c3 (by simp only; omega)
 unfold tickG
 simp only [e]
 split
 ·exact ((h1.rel 0).rel 1).rel 2
 ·exact h1

theorem GrOk.issue {g : Gr} {t : Nat} (h : GrOk g (t + 1)) (ht2 : t ≤ 1000) (i : Fin 3) (hl : (g.wr i).length ≤ t) : GrOk (issueG g i) (t + 1) := by
 have hlen := (h.node i).len
 obtain ⟨n1, n2⟩ := issue_node (h.node i) (by omega) g.clock
 refine ⟨h.c, fun j => ?_, h.fl, h.flen, h.now, h.clock, ?_, fun j => ?_, fun j => ?_⟩
 ·simp only [issueG]
  by_cases hj : j = i
  ·subst hj; rw [upd_self, upd_self]; exact n1
  ·rw [upd_ne hj, upd_ne hj]; exact h.node j
 ·simp only [issueG, n2, h.right, decide_true, Bool.and_true]
 ·simp only [issueG]
  by_cases hj : j = i
  ·subst hj; rw [upd_self, List.length_append, List.length_singleton]; omega
  ·rw [upd_ne hj]; exact h.wlen j
 ·simp only [issueG]
  by_cases hj : j = i
  ·subst hj; rw [upd_self, issue_ok (h.node j).ok.check (by omega)]; exact h.upto j
  ·rw [upd_ne hj]; exact h.upto j

theorem dur_upto (m : Mb) (x : Int) (h : MbOk m) (hx : m.waiting.contains x = true) : (durMb m x).1.upto = m.upto := by
 cases hf : m.frozen with
 | true => rw [dur_held h.check hx hf]
 | false => rw [dur_free h.check hx hf]

theorem GrOk.dur {g : Gr} {t : Nat} (h : GrOk g t) (ht : 0 < t) (i : Fin 3) (w : Int) (hw : 0 ≤ w) : GrOk (durG g i w) t := by
 by_cases h0 : (g.node i).waiting.length = 0
 ·rw [durG_nil h0]; exact h
 ·have t0 : 0 ≤ Int.tmod w (g.node i).waiting.length := Int.tmod_nonneg _ hw
  have hpos : (0 : Int) < ((g.node i).waiting.length : Int) := by have := Nat.pos_of_ne_zero h0; omega
  have t1 : Int.tmod w (g.node i).waiting.length < (g.node i).waiting.length := Int.tmod_lt_of_pos _ hpos
  obtain ⟨k, hk⟩ : ∃ k, (Int.tmod w (g.node i).waiting.length).toNat = k := ⟨_, rfl⟩
  have hkl : k < (g.node i).waiting.length := by omega
  have hg : (g.node i).waiting.getD k 0 = (g.node i).waiting[k] := by simp [hkl]
  have hmem := List.getElem_mem hkl
  obtain ⟨x, hx⟩ : ∃ x, (g.node i).waiting[k] = x := ⟨_, rfl⟩
  rw [hx] at hg hmem
  have hn := h.node i
  have hin := hn.ok.wi x hmem
  have hlen := hn.len
  obtain ⟨y, rfl⟩ := Int.eq_ofNat_of_zero_le hin.1
  have hyl : y < (g.wr i).length := by omega
  have hneg : ¬((y : Int) < 0 ∨ (y : Int) ≥ ((g.wr i).length : Int)) := by omega
  have hg : (g.node i).waiting.getD k 0 = (y : Int) := hg
  rw [durG_go h0 hk hg, if_neg hneg]
  obtain ⟨d1, d2, d3, d4⟩ := dur_node hn hmem (clk := g.clock) (by rw [h.clock]; omega) hyl
  have hgd : (g.wr i).getD (Int.toNat (y : Int)) noWr = (g.wr i)[y] := by simp [hyl]
  simp only [Int.toNat_natCast] at hgd ⊢
  simp only [hgd]
  refine ⟨h.c, fun j => ?_, h.fl, h.flen, h.now, h.clock, ?_, fun j => ?_, fun j => ?_⟩
  ·simp only [ackG, upd_self]
   by_cases hj : j = i
   ·subst hj; rw [upd_self, upd_self]; exact d1
   ·rw [upd_ne hj, upd_ne hj, upd_ne hj]; exact h.node j
  ·simp only [ackG, upd_self, d2, d3, h.right, decide_true, Bool.and_true]
  ·simp only [ackG, upd_self]
   by_cases hj : j = i
   ·subst hj; rw [upd_self, ackW_len, List.length_set]; exact h.wlen j
   ·rw [upd_ne hj, upd_ne hj]; exact h.wlen j
  ·simp only [ackG]
   by_cases hj : j = i
   ·subst hj; rw [upd_self, dur_upto _ _ hn.ok (List.contains_iff_mem.2 hmem)]; exact h.upto j
   ·rw [upd_ne hj]; exact h.upto j

theorem GrOk.round {g : Gr} {t : Nat} (h : GrOk g (t + 1)) (hc : CoOk g.c t) (ht2 : t ≤ 1000) (hk : g.flight.length + 3 ≤ 12 * (t + 1) + 24) : GrOk (roundG g) (t + 1) := by
 have h0 := h.now
 unfold roundG
 rcases start_ok hc (now := g.now) h0.1 (by omega) (by omega) with h1 | ⟨h1, h2, h3, h4⟩
 ·simp only [h1]
  exact ⟨h.c, h.node, h.fl, h.flen, h.now, h.clock, by simp only [h.right]; rfl, h.wlen, h.upto⟩
 ·simp only [h1]
  have h5 : GrOk { g with c := (startCo g.c g.now 20).1, started := IntKind.i64.wrap (g.started + 1) } (t + 1) := ⟨h2, h.node, h.fl, h.flen, h.now, h.clock, h.right, h.wlen, h.upto⟩
  exact GrOk.send (k := 0) h5 h4 (by simp only; omega)

theorem GrOk.step {g : Gr} {t : Nat} (h : GrOk g t) (ht : t ≤ 900) {k n w : Int} (i : Fin 3) (hk : U8 k) (hn : U8 n) (hw : U8 w) (hnow : g.now ≤ 5 * t + 200) : GrOk (Sx.stepG g k i n w) (t + 1) := by
 have h0 := h.now
 have hfl := h.flen
 have hcl := h.clock
 have e : IntKind.i64.wrap (g.clock + 1) = ((t + 1 : Nat) : Int) := by rw [hcl, wrap64 (by omega) (by omega)]; omega
 have h1 : GrOk { g with clock := IntKind.i64.wrap (g.clock + 1) } (t + 1) :=
  ⟨⟨h.c.ok, h.c.n, by have := h.c.r; simp only; omega⟩, h.node, h.fl, by simp only; omega, ⟨h0.1, by simp only; omega⟩, e, h.right, fun i => by have := h.wlen i; simp only; omega, h.upto⟩
 unfold Sx.stepG
 simp only
 split
 ·exact h1.issue (by omega) i (h.wlen i)
 ·split
  ·exact h1.dur (by omega) i w hw.1
  ·split
   ·exact h1.round h.c (by omega) (by simp only; omega)
   ·split
    ·exact h1.tick (by omega) n w hw (by simp only; omega) (by simp only; omega)
    ·exact h1.flight (by omega) k w hw.1 (by simp only; omega)
end Sx
end
section
/- Layer 21: a group as cells. -/
open Go
namespace Sx

theorem cv_eq (g : Gr) (ds : Nat → D) : cvOf ds 0 g.cls = (CV.int g.c.nodes :: CV.int g.c.round :: CV.int g.c.phase :: CV.int g.c.deadline :: CV.dat ((ds 0).like g.c.positions) :: CV.dat ((ds 1).like g.c.seen) :: CV.bool g.c.valid :: CV.int (g.node 0).round :: CV.int (g.node 0).position :: CV.int (g.node 0).thawed :: CV.int (g.node 0).issued :: CV.bool (g.node 0).frozen :: CV.int (g.node 0).upto :: CV.dat ((ds 2).like (g.node 0).waiting) :: CV.dat ((ds 3).like (g.node 0).held) :: CV.int (g.node 1).round :: CV.int (g.node 1).position :: CV.int (g.node 1).thawed :: CV.int (g.node 1).issued :: CV.bool (g.node 1).frozen :: CV.int (g.node 1).upto :: CV.dat ((ds 4).like (g.node 1).waiting) :: CV.dat ((ds 5).like (g.node 1).held) :: CV.int (g.node 2).round :: CV.int (g.node 2).position :: CV.int (g.node 2).thawed :: CV.int (g.node 2).issued :: CV.bool (g.node 2).frozen :: CV.int (g.node 2).upto :: CV.dat ((ds 6).like (g.node 2).waiting) :: CV.dat ((ds 7).like (g.node 2).held) :: CV.dat ((ds 8).like g.flight) :: CV.dat ((ds 9).like (g.wr 0)) :: CV.dat ((ds 10).like (g.wr 1)) :: CV.dat ((ds 11).like (g.wr 2)) :: CV.int g.now :: CV.int g.clock :: CV.bool g.right :: CV.int g.started :: []) := rfl
theorem cv_shape (g : Gr) (ds : Nat → D) : ShapeC grK (cvOf ds 0 g.cls) := by
 rw [cv_eq]
 simp only [grK, ShapeC]
 exact ⟨_, _, rfl, _, _, rfl, _, _, rfl, _, _, rfl, _, _, rfl, _, _, rfl, _, _, rfl, _, _, rfl, _, _, rfl, _, _, rfl, _, _, rfl, _, _, rfl, _, _, rfl, _, _, rfl, _, _, rfl, _, _, rfl, _, _, rfl, _, _, rfl, _, _, rfl, _, _, rfl, _, _, rfl, _, _, rfl, _, _, rfl, _, _, rfl, _, _, rfl, _, _, rfl, _, _, rfl, _, _, rfl, _, _, rfl, _, _, rfl, _, _, rfl, _, _, rfl, _, _, rfl, _, _, rfl, _, _, rfl, _, _, rfl, _, _, rfl, _, _, rfl, _, _, rfl, rfl⟩
theorem tri_eta {α : Type} (f : Fin 3 → α) : tri (f 0) (f 1) (f 2) = f := by
 funext i
 match i with
 | 0 => rfl
 | 1 => rfl
 | 2 => rfl
theorem grOf_cv (g : Gr) (ds : Nat → D) : grOf (cvOf ds 0 g.cls) = g := by
 rw [cv_eq, grOf_eq]
 simp only [D.like_to]
 exact congr (congrArg (fun a b => (⟨g.c, a, g.flight, b, g.now, g.clock, g.right, g.started⟩ : Gr)) (tri_eta g.node)) (tri_eta g.wr)
theorem grRight_cv (g : Gr) (ds : Nat → D) (h : ∀ i, (g.node i).waiting.length ≤ 1048575 ∧ (g.node i).held.length ≤ 1048575 ∧ (g.wr i).length ≤ 1000000) (hf : g.flight.length ≤ 1000000) : GrRight (cvOf ds 0 g.cls) := by
 rw [cv_eq, grRight_eq]
 exact ⟨⟨D.like_is _ _, D.like_is _ _⟩, right_like_of (h 0).1 (h 0).2.1, right_like_of (h 1).1 (h 1).2.1, right_like_of (h 2).1 (h 2).2.1, ⟨D.like_is _ _, by rw [like_len]; exact hf⟩,
  ⟨D.like_is _ _, by rw [like_len]; exact (h 0).2.2⟩, ⟨D.like_is _ _, by rw [like_len]; exact (h 1).2.2⟩, ⟨D.like_is _ _, by rw [like_len]; exact (h 2).2.2⟩⟩

theorem len_ne {a : Int} : ∀ {l : List Int}, l.Nodup → l.length ≤ (l.filter fun x => x != a).length + 1
 | [], _ => Nat.zero_le _
 | b :: l, h => by
  rw [List.nodup_cons] at h
  rw [List.filter_cons]
  by_cases hb : b = a
  ·subst hb
   have : l.filter (fun x => x != b) = l := List.filter_eq_self.2 fun x hx => by
    simp only [bne_iff_ne]
    rintro rfl
    exact h.1 hx
   simp [this]
  ·have ih := len_ne (a := a) h.2
   simp [hb]
   exact ih
theorem range_len : ∀ {n : Nat} {l : List Int}, l.Nodup → (∀ x, x ∈ l → 0 ≤ x ∧ x < n) → l.length ≤ n
 | 0, l, _, h => by
  cases l with
  | nil => exact Nat.le_refl _
  | cons x r => have := h x List.mem_cons_self; omega
 | n + 1, l, hn, h => by
  have h1 := len_ne (a := (n : Int)) hn
  have h2 := range_len (n := n) (hn.filter fun x => x != (n : Int)) (fun x hx => by
   rw [List.mem_filter] at hx
   have := h x hx.1
   have hne : x ≠ n := by simpa using hx.2
   omega)
  omega
theorem GrOk.bounds {g : Gr} {t : Nat} (h : GrOk g t) (ht : t ≤ 1000) : (∀ i, (g.node i).waiting.length ≤ 1048575 ∧ (g.node i).held.length ≤ 1048575 ∧ (g.wr i).length ≤ 1000000) ∧ g.flight.length ≤ 999000 := by
 refine ⟨fun i => ?_, by have := h.flen; omega⟩
 have hn := h.node i
 have hl := h.wlen i
 have h1 : (g.node i).waiting.length ≤ (g.wr i).length := range_len (hn.ok.ws.imp (fun h => Int.ne_of_lt h)) (fun x hx => by have := hn.ok.wi x hx; have := hn.len; omega)
 have h2 : (g.node i).held.length ≤ (g.wr i).length := range_len hn.ok.hn (fun x hx => by have := (hn.ok.hi x hx).1; have := hn.len; omega)
 omega
end Sx
end
section
/- Layer 21: the play of a group: when all have thawed (no program in sight). -/
namespace Sx
open Go

theorem recv_now (g : Gr) (m : Msg) : (recvG g m).now = g.now := by
 unfold recvG
 repeat' split
 all_goals rfl
theorem flight_now (g : Gr) (k w : Int) : (flightG g k w).now = g.now := by
 unfold flightG
 split
 ·rfl
 ·simp only
  split
  ·split <;> rfl
  ·rw [recv_now]; split <;> rfl
theorem dur_now (g : Gr) (i : Fin 3) (w : Int) : (durG g i w).now = g.now := by
 unfold durG
 simp only
 split
 ·rfl
 ·split <;> rfl
theorem round_now (g : Gr) : (roundG g).now = g.now := by
 unfold roundG
 simp only
 split <;> rfl
theorem tick_now {g : Gr} {n w : Int} (hw : U8 w) (h0 : 0 ≤ g.now) (h1 : g.now ≤ 1000000) : (tickG g n w).now = g.now + (1 + Int.tmod w 5) := by
 have t0 : 0 ≤ Int.tmod w 5 := Int.tmod_nonneg _ hw.1
 have t1 : Int.tmod w 5 < 5 := Int.tmod_lt_of_pos _ (by decide)
 have e : IntKind.i64.wrap (g.now + (1 + Int.tmod w 5)) = g.now + (1 + Int.tmod w 5) := wrap64 (by omega) (by omega)
 unfold tickG
 simp only [e]
 split <;> rfl
theorem step_now {g : Gr} {k n w : Int} {i : Fin 3} (hw : U8 w) (h0 : 0 ≤ g.now) (h1 : g.now ≤ 1000000) : (Sx.stepG g k i n w).now ≤ g.now + 5 := by
 have t1 : Int.tmod w 5 < 5 := Int.tmod_lt_of_pos _ (by decide)
 unfold Sx.stepG
 simp only
 split
 ·show g.now ≤ _; omega
 ·split
  ·rw [dur_now]; simp only; omega
  ·split
   ·rw [round_now]; simp only; omega
   ·split
    ·rw [tick_now hw (by simp only; omega) (by simp only; omega)]; simp only; omega
    ·rw [flight_now]; simp only; omega
def Done (w : List Wr) : Prop := ∀ i : Nat, (h : i < w.length) → decide (w[i].durable > 0) = decide (w[i].acked > 0)

theorem NodeOk.done {m : Mb} {w : List Wr} (h : NodeOk m w) (hh : m.held = []) : Done w := by
 intro i hi
 by_cases hm : (i : Int) ∈ m.waiting
 ·obtain ⟨a, b, c⟩ := h.wait i hi hm
  rw [a, b]
 ·obtain ⟨a, b, c⟩ := h.ackd i hi hm (by rw [hh]; simp)
  rw [decide_eq_true a, decide_eq_true b]

theorem relMb_held {m : Mb} {now : Int} (h : MbOk m) (hu : m.upto ≤ now) : (relMb m now).1.held = [] := by
 unfold relMb
 split
 ·rename_i hc
  rcases hc with hc | hc | hc
  ·exact absurd h.check hc
  ·exact h.fh hc
  ·omega
 ·rfl

theorem relG_node (g : Gr) (i j : Fin 3) : (relG g i).node j = if j = i then (relMb (g.node i) g.now).1 else g.node j := by
 simp only [relG, ackG]
 by_cases h : j = i
 ·subst h; rw [upd_self, if_pos rfl]
 ·rw [upd_ne h, if_neg h]
theorem relG_now (g : Gr) (i : Fin 3) : (relG g i).now = g.now := rfl

theorem relG_held {g : Gr} (hn : ∀ i, MbOk (g.node i)) (hu : ∀ i, (g.node i).upto ≤ g.now) : ∀ i, ((relG (relG (relG g 0) 1) 2).node i).held = [] := by
 intro i
 simp only [relG_node, relG_now]
 match i with
 | 0 => exact relMb_held (hn 0) (hu 0)
 | 1 => exact relMb_held (hn 1) (hu 1)
 | 2 => exact relMb_held (hn 2) (hu 2)
theorem last_tick {g : Gr} {t : Nat} (h : GrOk g t) (ht2 : t ≤ 900) (hnow : g.now ≤ 5 * t) (hfl : g.flight.length ≤ 12 * t) :
  GrOk (tickG { g with now := IntKind.i64.wrap (g.now + 100) } 1 0) t ∧ ∀ i, Done ((tickG { g with now := IntKind.i64.wrap (g.now + 100) } 1 0).wr i) := by
 have h0 := h.now
 have e : IntKind.i64.wrap (g.now + 100) = g.now + 100 := wrap64 (by omega) (by omega)
 rw [e]
 have u0 : U8 0 := ⟨by decide, by decide⟩
 have h1 : GrOk { g with now := g.now + 100 } t := ⟨h.c, h.node, h.fl, h.flen, ⟨by simp only; omega, by simp only; omega⟩, h.clock, h.right, h.wlen, fun i => by have := h.upto i; simp only; omega⟩
 have h2 := h1.tick (by omega) 1 0 u0 (by simp only; omega) (by simp only; omega)
 refine ⟨h2, fun i => (h2.node i).done ?_⟩
 have en := tick_now (g := { g with now := g.now + 100 }) (n := 1) u0 (by simp only; omega) (by simp only; omega)
 have e5 : IntKind.i64.wrap (g.now + 100 + (1 + Int.tmod 0 5)) = g.now + 101 := by
  rw [show (1 : Int) + Int.tmod 0 5 = 1 from rfl]
  rw [wrap64 (by omega) (by omega)]; omega
 unfold tickG
 simp only [e5]
 rw [if_pos (by decide)]
 refine relG_held (g := sendG { g with now := g.now + 101, c := (expireCo g.c (g.now + 101)).1 } (expireCo g.c (g.now + 101)).2) (fun j => (h.node j).ok) (fun j => ?_) i
 have := h.upto j
 show (g.node j).upto ≤ g.now + 101
 omega

theorem recv_fl (g : Gr) (m : Msg) : (recvG g m).flight.length ≤ g.flight.length + 8 := by
 have hc := (collectCo_len g.c g.now m).2.2.1
 have ho : ∀ i, (obeyG g m i).flight.length ≤ g.flight.length + 8 := fun i => by
  have := (obeyMb_len (g.node i) g.now 12 m).2.2.2.1
  simp only [obeyG, sendG, ackG, List.length_append]; omega
 unfold recvG
 split
 ·simp only [sendG, List.length_append]; omega
 ·split
  ·exact ho 0
  ·split
   ·exact ho 1
   ·split
    ·exact ho 2
    ·simp only; omega
theorem flight_fl (g : Gr) (k w : Int) : (flightG g k w).flight.length ≤ g.flight.length + 8 := by
 unfold flightG
 split
 ·omega
 ·simp only
  have hg : ∀ i, (if Int.tmod k 7 = 4 then g else { g with flight := g.flight.take i ++ g.flight.drop (i + 1) } : Gr).flight.length ≤ g.flight.length := fun i => by
   split
   ·exact Nat.le_refl _
   ·simp only [List.length_append, List.length_take, List.length_drop]; omega
  split
  ·exact Nat.le_trans (hg _) (by omega)
  ·exact Nat.le_trans (recv_fl _ _) (by have := hg (Int.tmod w g.flight.length).toNat; omega)
theorem dur_fl (g : Gr) (i : Fin 3) (w : Int) : (durG g i w).flight = g.flight := by
 unfold durG
 simp only
 split
 ·rfl
 ·split <;> rfl
theorem round_fl (g : Gr) : (roundG g).flight.length ≤ g.flight.length + 8 := by
 have hs := (startCo_len g.c g.now 20).2.2.1
 unfold roundG
 simp only
 split
 ·simp only; omega
 ·simp only [sendG, List.length_append]; omega
theorem tick_fl (g : Gr) (n w : Int) : (tickG g n w).flight.length ≤ g.flight.length + 8 := by
 have hx := (expireCo_len g.c (IntKind.i64.wrap (g.now + (1 + Int.tmod w 5)))).2.2.1
 unfold tickG
 simp only
 split
 ·simp only [relG, ackG, sendG, List.length_append]; omega
 ·simp only [sendG, List.length_append]; omega
theorem step_fl (g : Gr) (k n w : Int) (i : Fin 3) : (Sx.stepG g k i n w).flight.length ≤ g.flight.length + 8 := by
 unfold Sx.stepG
 simp only
 split
 ·show g.flight.length ≤ _; omega
 ·split
  ·rw [dur_fl]; simp only; omega
  ·split
   ·exact round_fl _
   ·split
    ·exact tick_fl _ _ _
    ·exact flight_fl _ _ _
def begG : Gr := ⟨⟨3, 0, 0, 0, [0, 0, 0], [false, false, false], false⟩, fun _ => noMb, [], fun _ => [], 0, 0, true, 0⟩
theorem beg_ok : GrOk begG 0 := by
 refine ⟨⟨by decide, rfl, by decide⟩, fun i => ⟨⟨⟨by show (0 : Int) ≤ 0; decide, by show (0 : Int) ≤ _; decide⟩, ⟨by show (0 : Int) ≤ 0; decide, by show (0 : Int) ≤ _; decide⟩, ⟨by show (0 : Int) ≤ 0; decide, by show (0 : Int) ≤ 0; decide⟩, ⟨by show (0 : Int) ≤ 0; decide, by show (0 : Int) ≤ 0; decide, by show (0 : Int) ≤ _; decide⟩, fun _ => rfl, List.Pairwise.nil, fun x hx => (by cases hx), List.nodup_nil, fun x hx => (by cases hx)⟩, rfl, fun x hx => (by cases hx), fun x hx => (by cases hx), fun x hx => (by cases hx)⟩, fun m hm => (by cases hm), by decide, by decide, rfl, rfl, fun i => Nat.zero_le _, fun i => by show (0 : Int) ≤ 0 + 12; decide⟩
structure PlayOk (g : Gr) (t : Nat) : Prop where
 ok : GrOk g t
 now : g.now ≤ 5 * t
 fl : g.flight.length ≤ 12 * t
theorem beg_play : PlayOk begG 0 := ⟨beg_ok, by decide, by decide⟩
theorem PlayOk.step {g : Gr} {t : Nat} (h : PlayOk g t) (ht : t ≤ 900) {k n w : Int} (i : Fin 3) (hk : U8 k) (hn : U8 n) (hw : U8 w) : PlayOk (Sx.stepG g k i n w) (t + 1) := by
 have h1 := h.now; have h2 := h.fl; have h3 := h.ok.now
 refine ⟨h.ok.step ht i hk hn hw (by omega), ?_, ?_⟩
 ·have := step_now (g := g) (k := k) (n := n) (w := w) (i := i) hw (by omega) (by omega); omega
 ·have := step_fl g k n w i; omega
end Sx
end
section
/- Layer 21: BarrierAcknowledges. -/
open Go Go.Proofs Sx
namespace Sx
def EvRows (l : D) : Prop := (l.rows = [] ∨ l.sz = 3) ∧ ∀ r, r ∈ l.rows → ∃ a b c, r = [D.int .u8 a, D.int .u8 b, D.int .u8 c] ∧ U8 a ∧ U8 b ∧ U8 c
theorem EvRows.at {l : D} (h : EvRows l) {j : Nat} (hj : j < l.len) : (0 ≤ (j : Int) ∧ (j : Int) < (l.len : Int) ∧ l.sz = 3) ∧ l.HasCells (Int.toNat (j : Int)) 0 [.int .u8, .int .u8, .int .u8] ∧
  U8 (l.getInt (Int.toNat (j : Int)) 0) ∧ U8 (l.getInt (Int.toNat (j : Int)) 1) ∧ U8 (l.getInt (Int.toNat (j : Int)) 2) := by
 have hj' : j < l.rows.length := hj
 obtain ⟨a, b, c, hr, ha, hb, hc⟩ := h.2 _ (List.getElem_mem hj')
 have hg : l.rows[j]? = some [D.int .u8 a, D.int .u8 b, D.int .u8 c] := by rw [List.getElem?_eq_getElem hj', hr]
 have hs : l.sz = 3 := h.1.resolve_left (fun e => by rw [e] at hj'; cases hj')
 simp only [Int.toNat_natCast]
 refine ⟨⟨by omega, by omega, hs⟩, ⟨⟨a, ?_⟩, ⟨b, ?_⟩, ⟨c, ?_⟩, trivial⟩, ?_, ?_, ?_⟩
 ·simp [D.cellAt, hg]
 ·simp [D.cellAt, hg]
 ·simp [D.cellAt, hg]
 ·simp only [D.getInt, D.cellAt, hg]; exact ha
 ·simp only [D.getInt, D.cellAt, hg]; exact hb
 ·simp only [D.getInt, D.cellAt, hg]; exact hc
def spEv (l : D) : SpecR := .scalar [EvRows l] (.lb true)
end Sx
namespace Go.Proofs.Ytoechplbhbalaaa
set_option maxRecDepth 100000
set_option maxHeartbeats 0










theorem beg_shape (hs : Nat → Nat → D) : ShapeC grK (CV.int 3 :: CV.int 0 :: CV.int 0 :: CV.int 0 :: CV.dat ((hs 0 0).like ([0, 0, 0] : List Int)) :: CV.dat ((hs 0 1).like [false, false, false]) :: CV.bool false :: CV.int 0 :: CV.int 0 :: CV.int 0 :: CV.int 0 :: CV.bool false :: CV.int 0 :: CV.dat (D.slc none 0 []) :: CV.dat (D.slc none 0 []) :: CV.int 0 :: CV.int 0 :: CV.int 0 :: CV.int 0 :: CV.bool false :: CV.int 0 :: CV.dat (D.slc none 0 []) :: CV.dat (D.slc none 0 []) :: CV.int 0 :: CV.int 0 :: CV.int 0 :: CV.int 0 :: CV.bool false :: CV.int 0 :: CV.dat (D.slc none 0 []) :: CV.dat (D.slc none 0 []) :: CV.dat (D.slc none 0 []) :: CV.dat (D.slc none 0 []) :: CV.dat (D.slc none 0 []) :: CV.dat (D.slc none 0 []) :: CV.int 0 :: CV.int 0 :: CV.bool true :: CV.int 0 :: []) := by
 simp only [grK, ShapeC]
 exact ⟨_, _, rfl, _, _, rfl, _, _, rfl, _, _, rfl, _, _, rfl, _, _, rfl, _, _, rfl, _, _, rfl, _, _, rfl, _, _, rfl, _, _, rfl, _, _, rfl, _, _, rfl, _, _, rfl, _, _, rfl, _, _, rfl, _, _, rfl, _, _, rfl, _, _, rfl, _, _, rfl, _, _, rfl, _, _, rfl, _, _, rfl, _, _, rfl, _, _, rfl, _, _, rfl, _, _, rfl, _, _, rfl, _, _, rfl, _, _, rfl, _, _, rfl, _, _, rfl, _, _, rfl, _, _, rfl, _, _, rfl, _, _, rfl, _, _, rfl, _, _, rfl, _, _, rfl, rfl⟩
theorem beg_eq (hs : Nat → Nat → D) : grOf (CV.int 3 :: CV.int 0 :: CV.int 0 :: CV.int 0 :: CV.dat ((hs 0 0).like ([0, 0, 0] : List Int)) :: CV.dat ((hs 0 1).like [false, false, false]) :: CV.bool false :: CV.int 0 :: CV.int 0 :: CV.int 0 :: CV.int 0 :: CV.bool false :: CV.int 0 :: CV.dat (D.slc none 0 []) :: CV.dat (D.slc none 0 []) :: CV.int 0 :: CV.int 0 :: CV.int 0 :: CV.int 0 :: CV.bool false :: CV.int 0 :: CV.dat (D.slc none 0 []) :: CV.dat (D.slc none 0 []) :: CV.int 0 :: CV.int 0 :: CV.int 0 :: CV.int 0 :: CV.bool false :: CV.int 0 :: CV.dat (D.slc none 0 []) :: CV.dat (D.slc none 0 []) :: CV.dat (D.slc none 0 []) :: CV.dat (D.slc none 0 []) :: CV.dat (D.slc none 0 []) :: CV.dat (D.slc none 0 []) :: CV.int 0 :: CV.int 0 :: CV.bool true :: CV.int 0 :: []) = begG := by
 rw [grOf_eq]
 simp only [D.like_to]
 have e : tri (⟨0, 0, 0, 0, false, 0, (D.slc none 0 []).to Int, (D.slc none 0 []).to Int⟩ : Mb) ⟨0, 0, 0, 0, false, 0, (D.slc none 0 []).to Int, (D.slc none 0 []).to Int⟩ ⟨0, 0, 0, 0, false, 0, (D.slc none 0 []).to Int, (D.slc none 0 []).to Int⟩ = fun _ => noMb := by
  funext i; match i with | 0 => rfl | 1 => rfl | 2 => rfl
 have e2 : tri ((D.slc none 0 []).to Wr) ((D.slc none 0 []).to Wr) ((D.slc none 0 []).to Wr) = fun _ => [] := by
  funext i; match i with | 0 => rfl | 1 => rfl | 2 => rfl
 rw [e, e2]
 rfl
theorem beg_right (hs : Nat → Nat → D) : GrRight (CV.int 3 :: CV.int 0 :: CV.int 0 :: CV.int 0 :: CV.dat ((hs 0 0).like ([0, 0, 0] : List Int)) :: CV.dat ((hs 0 1).like [false, false, false]) :: CV.bool false :: CV.int 0 :: CV.int 0 :: CV.int 0 :: CV.int 0 :: CV.bool false :: CV.int 0 :: CV.dat (D.slc none 0 []) :: CV.dat (D.slc none 0 []) :: CV.int 0 :: CV.int 0 :: CV.int 0 :: CV.int 0 :: CV.bool false :: CV.int 0 :: CV.dat (D.slc none 0 []) :: CV.dat (D.slc none 0 []) :: CV.int 0 :: CV.int 0 :: CV.int 0 :: CV.int 0 :: CV.bool false :: CV.int 0 :: CV.dat (D.slc none 0 []) :: CV.dat (D.slc none 0 []) :: CV.dat (D.slc none 0 []) :: CV.dat (D.slc none 0 []) :: CV.dat (D.slc none 0 []) :: CV.dat (D.slc none 0 []) :: CV.int 0 :: CV.int 0 :: CV.bool true :: CV.int 0 :: []) := by
 rw [grRight_eq]
 have h : MbD.Right ⟨0, 0, 0, 0, false, 0, D.slc none 0 [], D.slc none 0 []⟩ := ⟨is_nil _ _, is_nil _ _, Nat.zero_le _, Nat.zero_le _⟩
 exact ⟨⟨D.like_is _ _, D.like_is _ _⟩, h, h, h, ⟨is_nil _ _, Nat.zero_le _⟩, ⟨is_nil _ _, Nat.zero_le _⟩, ⟨is_nil _ _, Nat.zero_le _⟩, ⟨is_nil _ _, Nat.zero_le _⟩⟩

end Go.Proofs.Ytoechplbhbalaaa
end
section
/- Layer 21: how the events of a play read. -/
open Go
namespace Sx
theorem wf_u8 {n : Int} (h : (Lit.int .u8 n).wf = true) : U8 n := by
 simp only [Lit.wf, Bool.and_eq_true, decide_eq_true_eq] at h
 exact ⟨h.1, h.2⟩
theorem sh_events {l : D} (h : TS.Sh (.slc (.st [.int .u8, .int .u8, .int .u8])) [l]) : EvRows l ∧ l.IsSlc := by
 simp only [TS.Sh] at h
 obtain ⟨a, s, rows, h1, h2, h3, h4⟩ := h
 simp only [List.cons.injEq, and_true] at h1
 subst h1
 refine ⟨⟨h2.imp id fun h => by simpa [D.sz, TS.sz, TS.szL] using h, fun r hr => ?_⟩, ⟨_, _, _, rfl⟩⟩
 have := h4 r hr
 simp only [TS.ShL, TS.Sh] at this
 obtain ⟨_, _, rfl, ⟨k, rfl, w1⟩, _, _, rfl, ⟨x, rfl, w2⟩, _, _, rfl, ⟨y, rfl, w3⟩, rfl⟩ := this
 exact ⟨k, x, y, rfl, wf_u8 w1, wf_u8 w2, wf_u8 w3⟩
end Sx
end
section
/- Layer 21: BarrierSucceeds, walked. -/
open Go Go.Proofs Sx
namespace Go.Proofs.Ytoechplbhbalaaa
set_option maxRecDepth 100000
set_option maxHeartbeats 0
section
variable (cn cr cp cdl : Int) (cps css : D) (cv : Bool) (p1 p2 p3 p4 : Int) (pf : Bool) (p6 : Int) (pw ph : D) (q1 q2 q3 q4 : Int) (qf : Bool) (q6 : Int) (qw qh : D) (r1 r2 r3 r4 : Int) (rf : Bool) (r6 : Int) (rw rh : D) (fl wa wb wc : D) (now clk : Int) (rt : Bool) (st : Int) (l o : D) (i : Int)
theorem p10_in : exec Try.prog ctP 900 (entry Try.prog 10 [.dat l, .dat o]) =
 Tree.br (decide ((↑(D.len l) : Int) > 40)) (.ret (.lb true))
 (.br (decide ((↑(D.len o) : Int) > 20)) (.ret (.lb true))
 (.all fun hs =>
 .leaf
 (Conf.mk
 (SFrm.mk 10 none none
 [Item.inLoop (cAt Try.prog 10 [1, 1, 1, 0, 1, 0, 0]), Item.inBlock 0,
 Item.code (cAt Try.prog 10 [1, 1, 1, 1])]
 (mkJ 0 [(0, .dat l), (1, .dat o), (5, .ptr 0 0), (6, .int .i64 0)] 0 110))
 []
 [(0,
 OBlk.cells 97
 [.int .i64 3, .int .i64 0, .int .i64 0, .int .i64 0,
 .dat (D.like (hs 0 0) (List.replicate 3 (0 : Int))), .dat (D.like (hs 0 1) (List.replicate 3 false)),
 .bool false, .int .i64 0, .int .i64 0, .int .i64 0, .int .i64 0,
 .lb false, .int .i64 0, .nils, .nils, .int .i64 0, .int .i64 0,
 .int .i64 0, .int .i64 0, .lb false, .int .i64 0, .nils, .nils,
 .int .i64 0, .int .i64 0, .int .i64 0, .int .i64 0, .lb false,
 .int .i64 0, .nils, .nils, .nils, .nils, .nils, .nils, .int .i64 0,
 .int .i64 0, .bool true, .int .i64 0])]))) := by kernel_rfl

end
end Go.Proofs.Ytoechplbhbalaaa
end
section
/- Layer 21: BarrierSucceeds, walked (2). -/
open Go Go.Proofs Sx
namespace Go.Proofs.Ytoechplbhbalaaa
set_option maxRecDepth 100000
set_option maxHeartbeats 0
noncomputable def p10L (l o : D) (cs : List SV) (i : Int) : Conf := Conf.mk (SFrm.mk 10 none none [Item.inLoop (cAt Try.prog 10 [1, 1, 1, 0, 1, 0, 0]), Item.inBlock 0, Item.code (cAt Try.prog 10 [1, 1, 1, 1])] (mkJ 0 [(0, .dat l), (1, .dat o), (5, .ptr 0 0), (6, .int .i64 i)] 0 110)) [] [(0, .cells 97 cs)]
noncomputable def p10E (o : D) (cs : List SV) : Conf := Conf.mk (SFrm.mk 10 none none [Item.code (cAt Try.prog 10 [1, 1, 1, 1, 0]), Item.code (cAt Try.prog 10 [1, 1, 1, 1, 1])] (mkJ 0 [(1, .dat o), (5, .ptr 0 0)] 0 110)) [] [(0, .cells 97 cs)]
noncomputable def p10S (o : D) (cs : List SV) : Conf := Conf.mk (SFrm.mk 10 none none [Item.code (cAt Try.prog 10 [1, 1, 1, 1, 1, 1, 1, 0]), Item.code (cAt Try.prog 10 [1, 1, 1, 1, 1, 1, 1, 1])] (mkJ 0 [(1, .dat o), (5, .ptr 0 0)] 0 110)) [] [(0, .cells 97 cs)]
section
variable (cn cr cp cdl : Int) (cps css : D) (cv : Bool) (p1 p2 p3 p4 : Int) (pf : Bool) (p6 : Int) (pw ph : D) (q1 q2 q3 q4 : Int) (qf : Bool) (q6 : Int) (qw qh : D) (r1 r2 r3 r4 : Int) (rf : Bool) (r6 : Int) (rw rh : D) (fl wa wb wc : D) (now clk : Int) (rt : Bool) (st : Int) (l o : D) (i : Int)
theorem p10L_go : 
 let z2 : Tree := (.leaf (Conf.mk (SFrm.mk 10 none none [Item.code (cAt Try.prog 10 [1, 1, 1, 1, 0]), Item.code (cAt Try.prog 10 [1, 1, 1, 1, 1])] (mkJ 0 [(1, .dat o), (5, .ptr 0 0)] 0 110)) [] [(0, OBlk.cells 97 [.int .i64 cn, .int .i64 cr, .int .i64 cp, .int .i64 cdl, .dat cps, .dat css, .bool cv, .int .i64 p1, .int .i64 p2, .int .i64 p3, .int .i64 p4, .bool pf, .int .i64 p6, .dat pw, .dat ph, .int .i64 q1, .int .i64 q2, .int .i64 q3, .int .i64 q4, .bool qf, .int .i64 q6, .dat qw, .dat qh, .int .i64 r1, .int .i64 r2, .int .i64 r3, .int .i64 r4, .bool rf, .int .i64 r6, .dat rw, .dat rh, .dat fl, .dat wa, .dat wb, .dat wc, .int .i64 now, .int .i64 clk, .bool rt, .int .i64 st])]))
 let z3 : List CV := [.int cn, .int cr, .int cp, .int cdl, .dat cps, .dat css, .bool cv, .int p1, .int p2, .int p3, .int p4, .bool pf, .int p6, .dat pw, .dat ph, .int q1, .int q2, .int q3, .int q4, .bool qf, .int q6, .dat qw, .dat qh, .int r1, .int r2, .int r3, .int r4, .bool rf, .int r6, .dat rw, .dat rh, .dat fl, .dat wa, .dat wb, .dat wc, .int now, .int clk, .bool rt, .int st]
 let z1 := (Sx.stepG (grOf z3) (D.getInt l (Int.toNat i) 0) (nodeOf (D.getInt l (Int.toNat i) 1)) (D.getInt l (Int.toNat i) 1) (D.getInt l (Int.toNat i) 2))
 goS Try.prog ctP (fun _ => false) [(10, 39)] 900 (unroll (p10L l o (cl9 cn cr cp cdl cps css cv p1 p2 p3 p4 pf p6 pw ph q1 q2 q3 q4 qf q6 qw qh r1 r2 r3 r4 rf r6 rw rh fl wa wb wc now clk rt st) i)) =
 Tree.br (decide (i < (↑(D.len l) : Int))) (.br rt (.all fun hs => .need (0 ≤ i ∧ i < (↑(D.len l) : Int) ∧ D.sz l = 3) (.need (D.HasCells l (Int.toNat i) 0 [FT.int .u8, FT.int .u8, FT.int .u8]) (.need (GrRight z3 ∧
 ((U8 (D.getInt l (Int.toNat i) 0) ∧ U8 (D.getInt l (Int.toNat i) 1) ∧ U8 (D.getInt l (Int.toNat i) 2)) ∧ List.length (Gr.flight (grOf z3)) ≤ 999000) ∧ Gr.right z1 = true) (.leaf (Conf.mk (SFrm.mk 10 none none [Item.inLoop
 (cAt Try.prog 10 [1, 1, 1, 0, 1, 0, 0]), Item.inBlock 0, Item.code (cAt Try.prog 10 [1, 1, 1, 1])] (mkJ 0 [(0, .dat l), (1, .dat o), (5, .ptr 0 0), (6, .int .i64 (IntKind.wrap .i64 (i + 1)))] 0 110)) [] [(0, OBlk.cells 97 [.int .i64
 (Co.nodes (Gr.c z1)), .int .i64 (Co.round (Gr.c z1)), .int .i64 (Co.phase (Gr.c z1)), .int .i64 (Co.deadline (Gr.c z1)), .dat (D.like (hs 5 0) (Co.positions (Gr.c z1))), .dat (D.like (hs 5 1) (Co.seen
 (Gr.c z1))), .bool (Co.valid (Gr.c z1)), .int .i64 (Mb.round (Gr.node z1 (Fin.ofNat 3 0))), .int .i64 (Mb.position (Gr.node z1 (Fin.ofNat 3 0))), .int .i64 (Mb.thawed (Gr.node z1 (Fin.ofNat 3 0))), .int .i64
 (Mb.issued (Gr.node z1 (Fin.ofNat 3 0))), .bool (Mb.frozen (Gr.node z1 (Fin.ofNat 3 0))), .int .i64 (Mb.upto (Gr.node z1 (Fin.ofNat 3 0))), .dat (D.like (hs 5 2) (Mb.waiting (Gr.node z1 (Fin.ofNat 3 0)))), .dat
 (D.like (hs 5 3) (Mb.held (Gr.node z1 (Fin.ofNat 3 0)))), .int .i64 (Mb.round (Gr.node z1 (Fin.ofNat 3 1))), .int .i64 (Mb.position (Gr.node z1 (Fin.ofNat 3 1))), .int .i64 (Mb.thawed (Gr.node z1 (Fin.ofNat 3 1))), .int .i64
 (Mb.issued (Gr.node z1 (Fin.ofNat 3 1))), .bool (Mb.frozen (Gr.node z1 (Fin.ofNat 3 1))), .int .i64 (Mb.upto (Gr.node z1 (Fin.ofNat 3 1))), .dat (D.like (hs 5 4) (Mb.waiting (Gr.node z1 (Fin.ofNat 3 1)))), .dat
 (D.like (hs 5 5) (Mb.held (Gr.node z1 (Fin.ofNat 3 1)))), .int .i64 (Mb.round (Gr.node z1 (Fin.ofNat 3 2))), .int .i64 (Mb.position (Gr.node z1 (Fin.ofNat 3 2))), .int .i64 (Mb.thawed (Gr.node z1 (Fin.ofNat 3 2))), .int .i64
 (Mb.issued (Gr.node z1 (Fin.ofNat 3 2))), .bool (Mb.frozen (Gr.node z1 (Fin.ofNat 3 2))), .int .i64 (Mb.upto (Gr.node z1 (Fin.ofNat 3 2))), .dat (D.like (hs 5 6) (Mb.waiting (Gr.node z1 (Fin.ofNat 3 2)))), .dat
 (D.like (hs 5 7) (Mb.held (Gr.node z1 (Fin.ofNat 3 2)))), .dat (D.like (hs 5 8) (Gr.flight z1)), .dat (D.like (hs 5 9) (Gr.wr z1 (Fin.ofNat 3 0))), .dat (D.like (hs 5 10) (Gr.wr z1 (Fin.ofNat 3 1))), .dat
 (D.like (hs 5 11) (Gr.wr z1 (Fin.ofNat 3 2))), .int .i64 (Gr.now z1), .int .i64 (Gr.clock z1), .bool (Gr.right z1), .int .i64 (Gr.started z1)])]))))) z2) z2 := by
 intros; kernel_rfl

theorem p10E_go : 
 let z1 : List CV := [.int cn, .int cr, .int cp, .int cdl, .dat cps, .dat css, .bool cv, .int p1, .int p2, .int p3, .int p4, .bool pf, .int p6, .dat pw, .dat ph, .int q1, .int q2, .int q3, .int q4, .bool qf, .int q6, .dat qw, .dat qh, .int r1, .int r2, .int r3, .int r4, .bool rf, .int r6, .dat rw, .dat rh, .dat (D.slc none 0 []), .dat wa, .dat wb, .dat wc, .int (IntKind.wrap .i64 (now + 100)), .int clk, .bool rt, .int st]
 goS Try.prog ctP (fun _ => false) [(10, 48)] 900 (p10E o (cl9 cn cr cp cdl cps css cv p1 p2 p3 p4 pf p6 pw ph q1 q2 q3 q4 qf q6 qw qh r1 r2 r3 r4 rf r6 rw rh fl wa wb wc now clk rt st)) =
 Tree.need (GrRight z1 ∧ ((U8 1 ∧ U8 0) ∧ List.length (Gr.flight (grOf z1)) ≤ 999000) ∧ Gr.right (tickG (grOf z1) 1 0) = true) (.all fun hs => .leaf (Conf.mk (SFrm.mk 10 none none [Item.code (cAt Try.prog 10 [1, 1, 1, 1, 1, 1, 1, 0]), Item.code
 (cAt Try.prog 10 [1, 1, 1, 1, 1, 1, 1, 1])] (mkJ 0 [(1, .dat o), (5, .ptr 0 0)] 0 110)) [] [(0, OBlk.cells 97 [.int .i64 (Co.nodes (Gr.c (tickG (grOf z1) 1 0))), .int .i64 (Co.round (Gr.c (tickG (grOf z1) 1 0))), .int .i64
 (Co.phase (Gr.c (tickG (grOf z1) 1 0))), .int .i64 (Co.deadline (Gr.c (tickG (grOf z1) 1 0))), .dat (D.like (hs 0 0) (Co.positions (Gr.c (tickG (grOf z1) 1 0)))), .dat (D.like (hs 0 1) (Co.seen (Gr.c (tickG
 (grOf z1) 1 0)))), .bool (Co.valid (Gr.c (tickG (grOf z1) 1 0))), .int .i64 (Mb.round (Gr.node (tickG (grOf z1) 1 0) (Fin.ofNat 3 0))), .int .i64 (Mb.position (Gr.node (tickG (grOf z1) 1 0) (Fin.ofNat 3 0))), .int .i64
 (Mb.thawed (Gr.node (tickG (grOf z1) 1 0) (Fin.ofNat 3 0))), .int .i64 (Mb.issued (Gr.node (tickG (grOf z1) 1 0) (Fin.ofNat 3 0))), .bool (Mb.frozen (Gr.node (tickG (grOf z1) 1 0) (Fin.ofNat 3 0))), .int .i64
 (Mb.upto (Gr.node (tickG (grOf z1) 1 0) (Fin.ofNat 3 0))), .dat (D.like (hs 0 2) (Mb.waiting (Gr.node (tickG (grOf z1) 1 0) (Fin.ofNat 3 0)))), .dat (D.like (hs 0 3) (Mb.held (Gr.node (tickG (grOf z1) 1 0)
 (Fin.ofNat 3 0)))), .int .i64 (Mb.round (Gr.node (tickG (grOf z1) 1 0) (Fin.ofNat 3 1))), .int .i64 (Mb.position (Gr.node (tickG (grOf z1) 1 0) (Fin.ofNat 3 1))), .int .i64 (Mb.thawed (Gr.node (tickG (grOf z1) 1 0)
 (Fin.ofNat 3 1))), .int .i64 (Mb.issued (Gr.node (tickG (grOf z1) 1 0) (Fin.ofNat 3 1))), .bool (Mb.frozen (Gr.node (tickG (grOf z1) 1 0) (Fin.ofNat 3 1))), .int .i64 (Mb.upto (Gr.node (tickG (grOf z1) 1 0)
 (Fin.ofNat 3 1))), .dat (D.like (hs 0 4) (Mb.waiting (Gr.node (tickG (grOf z1) 1 0) (Fin.ofNat 3 1)))), .dat (D.like (hs 0 5) (Mb.held (Gr.node (tickG (grOf z1) 1 0) (Fin.ofNat 3 1)))), .int .i64 (Mb.round
 (Gr.node (tickG (grOf z1) 1 0) (Fin.ofNat 3 2))), .int .i64 (Mb.position (Gr.node (tickG (grOf z1) 1 0) (Fin.ofNat 3 2))), .int .i64 (Mb.thawed (Gr.node (tickG (grOf z1) 1 0) (Fin.ofNat 3 2))), .int .i64
 (Mb.issued (Gr.node (tickG (grOf z1) 1 0) (Fin.ofNat 3 2))), .bool (Mb.frozen (Gr.node (tickG (grOf z1) 1 0) (Fin.ofNat 3 2))), .int .i64 (Mb.upto (Gr.node (tickG (grOf z1) 1 0) (Fin.ofNat 3 2))), .dat
 (D.like (hs 0 6) (Mb.waiting (Gr.node (tickG (grOf z1) 1 0) (Fin.ofNat 3 2)))), .dat (D.like (hs 0 7) (Mb.held (Gr.node (tickG (grOf z1) 1 0) (Fin.ofNat 3 2)))), .nils, .dat (D.like (hs 0 9) (Gr.wr (tickG
 (grOf z1) 1 0) (Fin.ofNat 3 0))), .dat (D.like (hs 0 10) (Gr.wr (tickG (grOf z1) 1 0) (Fin.ofNat 3 1))), .dat (D.like (hs 0 11) (Gr.wr (tickG (grOf z1) 1 0) (Fin.ofNat 3 2))), .int .i64 (Gr.now (tickG
 (grOf z1) 1 0)), .int .i64 (Gr.clock (tickG (grOf z1) 1 0)), .bool (Gr.right (tickG (grOf z1) 1 0)), .int .i64 (Gr.started (tickG (grOf z1) 1 0))])])) := by
 intros; kernel_rfl

theorem p10S_go : 
 let z2 : List CV := [.int cn, .int cr, .int cp, .int cdl, .dat cps, .dat css, .bool cv, .int p1, .int p2, .int p3, .int p4, .bool pf, .int p6, .dat pw, .dat ph, .int q1, .int q2, .int q3, .int q4, .bool qf, .int q6, .dat qw, .dat qh, .int r1, .int r2, .int r3, .int r4, .bool rf, .int r6, .dat rw, .dat rh, .dat fl, .dat wa, .dat wb, .dat wc, .int now, .int clk, .bool rt, .int st]
 let z1 := (Sx.stepG (grOf z2) 2 (nodeOf 0) 0 0)
 exec Try.prog ctP 900 (p10S o (cl9 cn cr cp cdl cps css cv p1 p2 p3 p4 pf p6 pw ph q1 q2 q3 q4 qf q6 qw qh r1 r2 r3 r4 rf r6 rw rh fl wa wb wc now clk rt st)) =
 Tree.need (GrRight z2 ∧ ((U8 2 ∧ U8 0 ∧ U8 0) ∧ List.length (Gr.flight (grOf z2)) ≤ 999000) ∧ Gr.right z1 = true) (.all fun hs => .leaf (Conf.mk (SFrm.mk 10 none none [Item.inLoop (cAt Try.prog 10 [1, 1, 1, 1, 1, 1, 1, 1, 1, 0, 1, 0, 0]), Item.inBlock 2, Item.code
 (cAt Try.prog 10 [1, 1, 1, 1, 1, 1, 1, 1, 1, 1])] (mkJ 0 [(1, .dat o), (5, .ptr 0 0), (7, .nils), (8, .int .i64 0)] 0 110)) [] [(0, OBlk.cells 97 [.int .i64 (Co.nodes (Gr.c z1)), .int .i64 (Co.round (Gr.c z1)), .int .i64
 (Co.phase (Gr.c z1)), .int .i64 (Co.deadline (Gr.c z1)), .dat (D.like (hs 0 0) (Co.positions (Gr.c z1))), .dat (D.like (hs 0 1) (Co.seen (Gr.c z1))), .bool (Co.valid (Gr.c z1)), .int .i64 (Mb.round (Gr.node z1
 (Fin.ofNat 3 0))), .int .i64 (Mb.position (Gr.node z1 (Fin.ofNat 3 0))), .int .i64 (Mb.thawed (Gr.node z1 (Fin.ofNat 3 0))), .int .i64 (Mb.issued (Gr.node z1 (Fin.ofNat 3 0))), .bool (Mb.frozen (Gr.node z1
 (Fin.ofNat 3 0))), .int .i64 (Mb.upto (Gr.node z1 (Fin.ofNat 3 0))), .dat (D.like (hs 0 2) (Mb.waiting (Gr.node z1 (Fin.ofNat 3 0)))), .dat (D.like (hs 0 3) (Mb.held (Gr.node z1 (Fin.ofNat 3 0)))), .int .i64
 (Mb.round (Gr.node z1 (Fin.ofNat 3 1))), .int .i64 (Mb.position (Gr.node z1 (Fin.ofNat 3 1))), .int .i64 (Mb.thawed (Gr.node z1 (Fin.ofNat 3 1))), .int .i64 (Mb.issued (Gr.node z1 (Fin.ofNat 3 1))), .bool
 (Mb.frozen (Gr.node z1 (Fin.ofNat 3 1))), .int .i64 (Mb.upto (Gr.node z1 (Fin.ofNat 3 1))), .dat (D.like (hs 0 4) (Mb.waiting (Gr.node z1 (Fin.ofNat 3 1)))), .dat (D.like (hs 0 5) (Mb.held (Gr.node z1
 (Fin.ofNat 3 1)))), .int .i64 (Mb.round (Gr.node z1 (Fin.ofNat 3 2))), .int .i64 (Mb.position (Gr.node z1 (Fin.ofNat 3 2))), .int .i64 (Mb.thawed (Gr.node z1 (Fin.ofNat 3 2))), .int .i64 (Mb.issued (Gr.node z1
 (Fin.ofNat 3 2))), .bool (Mb.frozen (Gr.node z1 (Fin.ofNat 3 2))), .int .i64 (Mb.upto (Gr.node z1 (Fin.ofNat 3 2))), .dat (D.like (hs 0 6) (Mb.waiting (Gr.node z1 (Fin.ofNat 3 2)))), .dat (D.like (hs 0 7)
 (Mb.held (Gr.node z1 (Fin.ofNat 3 2)))), .dat (D.like (hs 0 8) (Gr.flight z1)), .dat (D.like (hs 0 9) (Gr.wr z1 (Fin.ofNat 3 0))), .dat (D.like (hs 0 10) (Gr.wr z1 (Fin.ofNat 3 1))), .dat (D.like (hs 0 11)
 (Gr.wr z1 (Fin.ofNat 3 2))), .int .i64 (Gr.now z1), .int .i64 (Gr.clock z1), .bool (Gr.right z1), .int .i64 (Gr.started z1)])])) := by
 intros; kernel_rfl

end
end Go.Proofs.Ytoechplbhbalaaa
end
section
/- Layer 21: BarrierSucceeds, walked (3). -/
open Go Go.Proofs Sx
namespace Go.Proofs.Ytoechplbhbalaaa
set_option maxRecDepth 100000
set_option maxHeartbeats 0
noncomputable def p10W (o : D) (cs : List SV) : Conf := Conf.mk (SFrm.mk 10 none none [Item.inLoop (cAt Try.prog 10 [1, 1, 1, 1, 1, 1, 1, 1, 1, 0, 1, 0, 0]), Item.inBlock 2, Item.code (cAt Try.prog 10 [1, 1, 1, 1, 1, 1, 1, 1, 1, 1])] (mkJ 0 [(1, .dat o), (5, .ptr 0 0), (7, .nils), (8, .int .i64 0)] 0 110)) [] [(0, .cells 97 cs)]
noncomputable def p10V (o : D) (cs : List SV) (d : D) (n : Int) : Conf := Conf.mk (SFrm.mk 10 none none [Item.inLoop (cAt Try.prog 10 [1, 1, 1, 1, 1, 1, 1, 1, 1, 0, 1, 0, 0]), Item.inBlock 2, Item.code (cAt Try.prog 10 [1, 1, 1, 1, 1, 1, 1, 1, 1, 1])] (mkJ 0 [(1, .dat o), (5, .ptr 0 0), (7, .vec 1), (8, .int .i64 n)] 0 110)) [] [(0, .cells 97 cs), (1, .arr 3 d)]
section
variable (cn cr cp cdl : Int) (cps css : D) (cv : Bool) (p1 p2 p3 p4 : Int) (pf : Bool) (p6 : Int) (pw ph : D) (q1 q2 q3 q4 : Int) (qf : Bool) (q6 : Int) (qw qh : D) (r1 r2 r3 r4 : Int) (rf : Bool) (r6 : Int) (rw rh : D) (fl wa wb wc : D) (now clk : Int) (rt : Bool) (st : Int) (l o d : D) (i : Int)
theorem p10W_go : exec Try.prog ctP 900 (unroll (p10W o (cl9 cn cr cp cdl cps css cv p1 p2 p3 p4 pf p6 pw ph q1 q2 q3 q4 qf q6 qw qh r1 r2 r3 r4 rf r6 rw rh fl wa wb wc now clk rt st))) =
 Tree.br true
 (.need ((0 : Int) ≤ 0 ∧ 0 < (↑3 : Int))
 (.all fun hs =>
 .need
 (D.Fits (D.slc (D.hd (hs 0 0)) 1 [[D.int .i64 (↑(D.len wa) : Int)]]) 1 ∧
 D.len (D.slc (D.hd (hs 0 0)) 1 [[D.int .i64 (↑(D.len wa) : Int)]]) * 8 ≤ 140737488355328 ∧
 D.len (D.slc (D.hd (hs 0 0)) 1 [[D.int .i64 (↑(D.len wa) : Int)]]) ≤ 9223372036854775807)
 (.all fun hs_1 =>
 .leaf
 (Conf.mk
 (SFrm.mk 10 none none
 [Item.inLoop (cAt Try.prog 10 [1, 1, 1, 1, 1, 1, 1, 1, 1, 0, 1, 0, 0]), Item.inBlock 2,
 Item.code (cAt Try.prog 10 [1, 1, 1, 1, 1, 1, 1, 1, 1, 1])]
 (mkJ 0
 [(1, .dat o), (5, .ptr 0 0), (7, .vec 1),
 (8, .int .i64 (IntKind.wrap .i64 (0 + 1)))]
 0 110))
 []
 [(0,
 OBlk.cells 97
 [.int .i64 cn, .int .i64 cr, .int .i64 cp, .int .i64 cdl,
 .dat cps, .dat css, .bool cv, .int .i64 p1, .int .i64 p2,
 .int .i64 p3, .int .i64 p4, .bool pf, .int .i64 p6, .dat pw,
 .dat ph, .int .i64 q1, .int .i64 q2, .int .i64 q3,
 .int .i64 q4, .bool qf, .int .i64 q6, .dat qw, .dat qh,
 .int .i64 r1, .int .i64 r2, .int .i64 r3, .int .i64 r4,
 .bool rf, .int .i64 r6, .dat rw, .dat rh, .dat fl, .dat wa, .dat wb,
 .dat wc, .int .i64 now, .int .i64 clk, .bool rt, .int .i64 st]),
 (1,
 OBlk.arr 3
 (D.slc (D.hd (hs_1 0 0)) 1
 (D.rows (D.slc (D.hd (hs 0 0)) 1 [[D.int .i64 (↑(D.len wa) : Int)]]))))]))))
 (.leaf
 (Conf.mk
 (SFrm.mk 10 none none
 [Item.inLoop (cAt Try.prog 10 [1, 1, 1, 1, 1, 1, 1, 1, 1, 1, 0, 1, 0, 0]), Item.inBlock 4,
 Item.code (cAt Try.prog 10 [1, 1, 1, 1, 1, 1, 1, 1, 1, 1, 1])]
 (mkJ 0 [(1, .dat o), (5, .ptr 0 0), (7, .nils), (9, .int .i64 0)] 0 110))
 []
 [(0,
 OBlk.cells 97
 [.int .i64 cn, .int .i64 cr, .int .i64 cp, .int .i64 cdl, .dat cps,
 .dat css, .bool cv, .int .i64 p1, .int .i64 p2, .int .i64 p3,
 .int .i64 p4, .bool pf, .int .i64 p6, .dat pw, .dat ph, .int .i64 q1,
 .int .i64 q2, .int .i64 q3, .int .i64 q4, .bool qf, .int .i64 q6,
 .dat qw, .dat qh, .int .i64 r1, .int .i64 r2, .int .i64 r3,
 .int .i64 r4, .bool rf, .int .i64 r6, .dat rw, .dat rh, .dat fl, .dat wa,
 .dat wb, .dat wc, .int .i64 now, .int .i64 clk, .bool rt,
 .int .i64 st])])) := by kernel_rfl

theorem p10V1_go : exec Try.prog ctP 900 (unroll (p10V o (cl9 cn cr cp cdl cps css cv p1 p2 p3 p4 pf p6 pw ph q1 q2 q3 q4 qf q6 qw qh r1 r2 r3 r4 rf r6 rw rh fl wa wb wc now clk rt st) d 1)) =
 Tree.br true
 (.need ((0 : Int) ≤ 1 ∧ 1 < (↑3 : Int))
 (.all fun hs =>
 .need
 (D.sz d = 1 ∧
 D.Fits (D.slc (D.hd (hs 0 0)) 1 [[D.int .i64 (↑(D.len wb) : Int)]]) 1 ∧
 (D.len d + D.len (D.slc (D.hd (hs 0 0)) 1 [[D.int .i64 (↑(D.len wb) : Int)]])) * 8 ≤
 140737488355328 ∧
 D.len d + D.len (D.slc (D.hd (hs 0 0)) 1 [[D.int .i64 (↑(D.len wb) : Int)]]) ≤ 9223372036854775807)
 (.all fun hs_1 =>
 .leaf
 (Conf.mk
 (SFrm.mk 10 none none
 [Item.inLoop (cAt Try.prog 10 [1, 1, 1, 1, 1, 1, 1, 1, 1, 0, 1, 0, 0]), Item.inBlock 2,
 Item.code (cAt Try.prog 10 [1, 1, 1, 1, 1, 1, 1, 1, 1, 1])]
 (mkJ 0
 [(1, .dat o), (5, .ptr 0 0), (7, .vec 1),
 (8, .int .i64 (IntKind.wrap .i64 (1 + 1)))]
 0 110))
 []
 [(0,
 OBlk.cells 97
 [.int .i64 cn, .int .i64 cr, .int .i64 cp, .int .i64 cdl,
 .dat cps, .dat css, .bool cv, .int .i64 p1, .int .i64 p2,
 .int .i64 p3, .int .i64 p4, .bool pf, .int .i64 p6, .dat pw,
 .dat ph, .int .i64 q1, .int .i64 q2, .int .i64 q3,
 .int .i64 q4, .bool qf, .int .i64 q6, .dat qw, .dat qh,
 .int .i64 r1, .int .i64 r2, .int .i64 r3, .int .i64 r4,
 .bool rf, .int .i64 r6, .dat rw, .dat rh, .dat fl, .dat wa, .dat wb,
 .dat wc, .int .i64 now, .int .i64 clk, .bool rt, .int .i64 st]),
 (1,
 OBlk.arr 3
 (D.slc (D.hd (hs_1 0 0)) 1
 (List.append (D.rows d)
 (D.rows (D.slc (D.hd (hs 0 0)) 1 [[D.int .i64 (↑(D.len wb) : Int)]])))))]))))
 (.leaf
 (Conf.mk
 (SFrm.mk 10 none none
 [Item.inLoop (cAt Try.prog 10 [1, 1, 1, 1, 1, 1, 1, 1, 1, 1, 0, 1, 0, 0]), Item.inBlock 4,
 Item.code (cAt Try.prog 10 [1, 1, 1, 1, 1, 1, 1, 1, 1, 1, 1])]
 (mkJ 0 [(1, .dat o), (5, .ptr 0 0), (7, .vec 1), (9, .int .i64 0)] 0 110))
 []
 [(0,
 OBlk.cells 97
 [.int .i64 cn, .int .i64 cr, .int .i64 cp, .int .i64 cdl, .dat cps,
 .dat css, .bool cv, .int .i64 p1, .int .i64 p2, .int .i64 p3,
 .int .i64 p4, .bool pf, .int .i64 p6, .dat pw, .dat ph, .int .i64 q1,
 .int .i64 q2, .int .i64 q3, .int .i64 q4, .bool qf, .int .i64 q6,
 .dat qw, .dat qh, .int .i64 r1, .int .i64 r2, .int .i64 r3,
 .int .i64 r4, .bool rf, .int .i64 r6, .dat rw, .dat rh, .dat fl, .dat wa,
 .dat wb, .dat wc, .int .i64 now, .int .i64 clk, .bool rt, .int .i64 st]),
 (1, OBlk.arr 3 d)])) := by kernel_rfl

theorem p10V2_go : exec Try.prog ctP 900 (unroll (p10V o (cl9 cn cr cp cdl cps css cv p1 p2 p3 p4 pf p6 pw ph q1 q2 q3 q4 qf q6 qw qh r1 r2 r3 r4 rf r6 rw rh fl wa wb wc now clk rt st) d 2)) =
 Tree.br true
 (.need ((0 : Int) ≤ 2 ∧ 2 < (↑3 : Int))
 (.all fun hs =>
 .need
 (D.sz d = 1 ∧
 D.Fits (D.slc (D.hd (hs 0 0)) 1 [[D.int .i64 (↑(D.len wc) : Int)]]) 1 ∧
 (D.len d + D.len (D.slc (D.hd (hs 0 0)) 1 [[D.int .i64 (↑(D.len wc) : Int)]])) * 8 ≤
 140737488355328 ∧
 D.len d + D.len (D.slc (D.hd (hs 0 0)) 1 [[D.int .i64 (↑(D.len wc) : Int)]]) ≤ 9223372036854775807)
 (.all fun hs_1 =>
 .leaf
 (Conf.mk
 (SFrm.mk 10 none none
 [Item.inLoop (cAt Try.prog 10 [1, 1, 1, 1, 1, 1, 1, 1, 1, 0, 1, 0, 0]), Item.inBlock 2,
 Item.code (cAt Try.prog 10 [1, 1, 1, 1, 1, 1, 1, 1, 1, 1])]
 (mkJ 0
 [(1, .dat o), (5, .ptr 0 0), (7, .vec 1),
 (8, .int .i64 (IntKind.wrap .i64 (2 + 1)))]
 0 110))
 []
 [(0,
 OBlk.cells 97
 [.int .i64 cn, .int .i64 cr, .int .i64 cp, .int .i64 cdl,
 .dat cps, .dat css, .bool cv, .int .i64 p1, .int .i64 p2,
 .int .i64 p3, .int .i64 p4, .bool pf, .int .i64 p6, .dat pw,
 .dat ph, .int .i64 q1, .int .i64 q2, .int .i64 q3,
 .int .i64 q4, .bool qf, .int .i64 q6, .dat qw, .dat qh,
 .int .i64 r1, .int .i64 r2, .int .i64 r3, .int .i64 r4,
 .bool rf, .int .i64 r6, .dat rw, .dat rh, .dat fl, .dat wa, .dat wb,
 .dat wc, .int .i64 now, .int .i64 clk, .bool rt, .int .i64 st]),
 (1,
 OBlk.arr 3
 (D.slc (D.hd (hs_1 0 0)) 1
 (List.append (D.rows d)
 (D.rows (D.slc (D.hd (hs 0 0)) 1 [[D.int .i64 (↑(D.len wc) : Int)]])))))]))))
 (.leaf
 (Conf.mk
 (SFrm.mk 10 none none
 [Item.inLoop (cAt Try.prog 10 [1, 1, 1, 1, 1, 1, 1, 1, 1, 1, 0, 1, 0, 0]), Item.inBlock 4,
 Item.code (cAt Try.prog 10 [1, 1, 1, 1, 1, 1, 1, 1, 1, 1, 1])]
 (mkJ 0 [(1, .dat o), (5, .ptr 0 0), (7, .vec 1), (9, .int .i64 0)] 0 110))
 []
 [(0,
 OBlk.cells 97
 [.int .i64 cn, .int .i64 cr, .int .i64 cp, .int .i64 cdl, .dat cps,
 .dat css, .bool cv, .int .i64 p1, .int .i64 p2, .int .i64 p3,
 .int .i64 p4, .bool pf, .int .i64 p6, .dat pw, .dat ph, .int .i64 q1,
 .int .i64 q2, .int .i64 q3, .int .i64 q4, .bool qf, .int .i64 q6,
 .dat qw, .dat qh, .int .i64 r1, .int .i64 r2, .int .i64 r3,
 .int .i64 r4, .bool rf, .int .i64 r6, .dat rw, .dat rh, .dat fl, .dat wa,
 .dat wb, .dat wc, .int .i64 now, .int .i64 clk, .bool rt, .int .i64 st]),
 (1, OBlk.arr 3 d)])) := by kernel_rfl

theorem p10V3_go : exec Try.prog ctP 900 (unroll (p10V o (cl9 cn cr cp cdl cps css cv p1 p2 p3 p4 pf p6 pw ph q1 q2 q3 q4 qf q6 qw qh r1 r2 r3 r4 rf r6 rw rh fl wa wb wc now clk rt st) d 3)) =
 Tree.br false (.need ((0 : Int) ≤ 3 ∧ 3 < (↑3 : Int)) Tree.stuck)
 (.leaf
 (Conf.mk
 (SFrm.mk 10 none none
 [Item.inLoop (cAt Try.prog 10 [1, 1, 1, 1, 1, 1, 1, 1, 1, 1, 0, 1, 0, 0]), Item.inBlock 4,
 Item.code (cAt Try.prog 10 [1, 1, 1, 1, 1, 1, 1, 1, 1, 1, 1])]
 (mkJ 0 [(1, .dat o), (5, .ptr 0 0), (7, .vec 1), (9, .int .i64 0)] 0 110))
 []
 [(0,
 OBlk.cells 97
 [.int .i64 cn, .int .i64 cr, .int .i64 cp, .int .i64 cdl, .dat cps,
 .dat css, .bool cv, .int .i64 p1, .int .i64 p2, .int .i64 p3,
 .int .i64 p4, .bool pf, .int .i64 p6, .dat pw, .dat ph, .int .i64 q1,
 .int .i64 q2, .int .i64 q3, .int .i64 q4, .bool qf, .int .i64 q6,
 .dat qw, .dat qh, .int .i64 r1, .int .i64 r2, .int .i64 r3,
 .int .i64 r4, .bool rf, .int .i64 r6, .dat rw, .dat rh, .dat fl, .dat wa,
 .dat wb, .dat wc, .int .i64 now, .int .i64 clk, .bool rt, .int .i64 st]),
 (1, OBlk.arr 3 d)])) := by kernel_rfl

end
end Go.Proofs.Ytoechplbhbalaaa
end
section
/- Layer 21: BarrierSucceeds, walked (4). -/
open Go Go.Proofs Sx
namespace Go.Proofs.Ytoechplbhbalaaa
set_option maxRecDepth 100000
set_option maxHeartbeats 0
noncomputable def p10F (o : D) (cs : List SV) (d : D) (i : Int) : Conf := Conf.mk (SFrm.mk 10 none none [Item.inLoop (cAt Try.prog 10 [1, 1, 1, 1, 1, 1, 1, 1, 1, 1, 0, 1, 0, 0]), Item.inBlock 4, Item.code (cAt Try.prog 10 [1, 1, 1, 1, 1, 1, 1, 1, 1, 1, 1])] (mkJ 0 [(1, .dat o), (5, .ptr 0 0), (7, .vec 1), (9, .int .i64 i)] 0 110)) [] [(0, .cells 97 cs), (1, .arr 3 d)]
section
variable (cn cr cp cdl : Int) (cps css : D) (cv : Bool) (p1 p2 p3 p4 : Int) (pf : Bool) (p6 : Int) (pw ph : D) (q1 q2 q3 q4 : Int) (qf : Bool) (q6 : Int) (qw qh : D) (r1 r2 r3 r4 : Int) (rf : Bool) (r6 : Int) (rw rh : D) (fl wa wb wc : D) (now clk : Int) (rt : Bool) (st : Int) (o d : D) (i : Int)
theorem p10F_go : 
 let z1 : List CV := [.int cn, .int cr, .int cp, .int cdl, .dat cps, .dat css, .bool cv, .int p1, .int p2, .int p3, .int p4, .bool pf, .int p6, .dat pw, .dat ph, .int q1, .int q2, .int q3, .int q4, .bool qf, .int q6, .dat qw, .dat qh, .int r1, .int r2, .int r3, .int r4, .bool rf, .int r6, .dat rw, .dat rh, .dat fl, .dat wa, .dat wb, .dat wc, .int now, .int clk, .bool rt, .int st]
 let z2 : Tree := (.need (D.Is Int cps ∧ D.Is Bool css) (.all fun hs => .br rt (.br (Prod.snd (resultCo (CoD.co (CoD.mk cn cr cp cdl cps css cv)))) (.need (D.Is Int (D.like (hs 0 0) (Prod.fst (resultCo (CoD.co (CoD.mk cn cr cp cdl cps css cv))))) ∧ D.Is Int d ∧ D.len (D.like (hs 0 0) (Prod.fst (resultCo (CoD.co (CoD.mk cn cr cp cdl cps css cv))))) ≤ 1048576 ∧ D.to Int (D.like (hs 0 0) (Prod.fst (resultCo (CoD.co (CoD.mk cn cr cp cdl cps css cv))))) = D.to Int d) (.ret (.bool (decide ((↑(D.len fl) : Int) = 0))))) (.ret (.lb false))) (.ret (.lb false))))
 let z3 := (Gr.node (flightG (grOf z1) 3 (D.getInt o (Int.toNat i) 0)) (Fin.ofNat 3 2))
 let z4 := (Gr.node (flightG (grOf z1) 3 (D.getInt o (Int.toNat i) 0)) (Fin.ofNat 3 1))
 let z5 := (Gr.node (flightG (grOf z1) 3 (D.getInt o (Int.toNat i) 0)) (Fin.ofNat 3 0))
 let z6 := (SFrm.mk 10 none none [Item.inLoop (cAt Try.prog 10 [1, 1, 1, 1, 1, 1, 1, 1, 1, 1, 0, 1, 0, 0]), Item.inBlock 4, Item.code (cAt Try.prog 10 [1, 1, 1, 1, 1, 1, 1, 1, 1, 1, 1])] (mkJ 0 [(1, .dat o), (5, .ptr 0 0), (7, .vec 1), (9, .int .i64 (IntKind.wrap .i64 (i + 1)))] 0 110))
 exec Try.prog ctP 900 (unroll (p10F o (cl9 cn cr cp cdl cps css cv p1 p2 p3 p4 pf p6 pw ph q1 q2 q3 q4 qf q6 qw qh r1 r2 r3 r4 rf r6 rw rh fl wa wb wc now clk rt st) d i)) =
 Tree.br (decide (i < 12)) (.br (decide ((↑(D.len fl) : Int) > 0)) (.br (decide (i < (↑(D.len o) : Int))) (.need (0 ≤ i ∧ i < (↑(D.len o) : Int) ∧ D.sz o = 1) (.need (D.HasCell o (Int.toNat i) 0 (FT.int .u8))
 (.need (GrRight z1 ∧ (U8 3 ∧ U8 (D.getInt o (Int.toNat i) 0)) ∧ Gr.right (flightG (grOf z1) 3 (D.getInt o (Int.toNat i) 0)) = true) (.all fun hs => .leaf (Conf.mk z6 [] [(0, OBlk.cells 97 [.int .i64 (Co.nodes
 (Gr.c (flightG (grOf z1) 3 (D.getInt o (Int.toNat i) 0)))), .int .i64 (Co.round (Gr.c (flightG (grOf z1) 3 (D.getInt o (Int.toNat i) 0)))), .int .i64 (Co.phase (Gr.c (flightG (grOf z1) 3 (D.getInt o (Int.toNat i) 0)))), .int .i64
 (Co.deadline (Gr.c (flightG (grOf z1) 3 (D.getInt o (Int.toNat i) 0)))), .dat (D.like (hs 0 0) (Co.positions (Gr.c (flightG (grOf z1) 3 (D.getInt o (Int.toNat i) 0))))), .dat (D.like (hs 0 1) (Co.seen
 (Gr.c (flightG (grOf z1) 3 (D.getInt o (Int.toNat i) 0))))), .bool (Co.valid (Gr.c (flightG (grOf z1) 3 (D.getInt o (Int.toNat i) 0)))), .int .i64 (Mb.round z5), .int .i64 (Mb.position z5), .int .i64 (Mb.thawed z5), .int .i64
 (Mb.issued z5), .bool (Mb.frozen z5), .int .i64 (Mb.upto z5), .dat (D.like (hs 0 2) (Mb.waiting z5)), .dat (D.like (hs 0 3) (Mb.held z5)), .int .i64 (Mb.round z4), .int .i64 (Mb.position z4), .int .i64
 (Mb.thawed z4), .int .i64 (Mb.issued z4), .bool (Mb.frozen z4), .int .i64 (Mb.upto z4), .dat (D.like (hs 0 4) (Mb.waiting z4)), .dat (D.like (hs 0 5) (Mb.held z4)), .int .i64 (Mb.round z3), .int .i64 (Mb.position z3), .int .i64
 (Mb.thawed z3), .int .i64 (Mb.issued z3), .bool (Mb.frozen z3), .int .i64 (Mb.upto z3), .dat (D.like (hs 0 6) (Mb.waiting z3)), .dat (D.like (hs 0 7) (Mb.held z3)), .dat (D.like (hs 0 8) (Gr.flight (flightG
 (grOf z1) 3 (D.getInt o (Int.toNat i) 0)))), .dat (D.like (hs 0 9) (Gr.wr (flightG (grOf z1) 3 (D.getInt o (Int.toNat i) 0)) (Fin.ofNat 3 0))), .dat (D.like (hs 0 10) (Gr.wr (flightG (grOf z1) 3 (D.getInt o
 (Int.toNat i) 0)) (Fin.ofNat 3 1))), .dat (D.like (hs 0 11) (Gr.wr (flightG (grOf z1) 3 (D.getInt o (Int.toNat i) 0)) (Fin.ofNat 3 2))), .int .i64 (Gr.now (flightG (grOf z1) 3 (D.getInt o (Int.toNat i) 0))), .int .i64
 (Gr.clock (flightG (grOf z1) 3 (D.getInt o (Int.toNat i) 0))), .bool (Gr.right (flightG (grOf z1) 3 (D.getInt o (Int.toNat i) 0))), .int .i64 (Gr.started (flightG (grOf z1) 3 (D.getInt o (Int.toNat i) 0)))]),
 (1, OBlk.arr 3 d)]))))) (.need (GrRight z1 ∧ (U8 3 ∧ U8 0) ∧ Gr.right (flightG (grOf z1) 3 0) = true) (.all fun hs => .leaf (Conf.mk z6 [] [(0, OBlk.cells 97 [.int .i64 (Co.nodes (Gr.c (flightG (grOf z1) 3 0))), .int .i64
 (Co.round (Gr.c (flightG (grOf z1) 3 0))), .int .i64 (Co.phase (Gr.c (flightG (grOf z1) 3 0))), .int .i64 (Co.deadline (Gr.c (flightG (grOf z1) 3 0))), .dat (D.like (hs 0 0) (Co.positions (Gr.c (flightG
 (grOf z1) 3 0)))), .dat (D.like (hs 0 1) (Co.seen (Gr.c (flightG (grOf z1) 3 0)))), .bool (Co.valid (Gr.c (flightG (grOf z1) 3 0))), .int .i64 (Mb.round (Gr.node (flightG (grOf z1) 3 0) (Fin.ofNat 3 0))), .int .i64
 (Mb.position (Gr.node (flightG (grOf z1) 3 0) (Fin.ofNat 3 0))), .int .i64 (Mb.thawed (Gr.node (flightG (grOf z1) 3 0) (Fin.ofNat 3 0))), .int .i64 (Mb.issued (Gr.node (flightG (grOf z1) 3 0) (Fin.ofNat 3 0))), .bool
 (Mb.frozen (Gr.node (flightG (grOf z1) 3 0) (Fin.ofNat 3 0))), .int .i64 (Mb.upto (Gr.node (flightG (grOf z1) 3 0) (Fin.ofNat 3 0))), .dat (D.like (hs 0 2) (Mb.waiting (Gr.node (flightG (grOf z1) 3 0)
 (Fin.ofNat 3 0)))), .dat (D.like (hs 0 3) (Mb.held (Gr.node (flightG (grOf z1) 3 0) (Fin.ofNat 3 0)))), .int .i64 (Mb.round (Gr.node (flightG (grOf z1) 3 0) (Fin.ofNat 3 1))), .int .i64 (Mb.position (Gr.node
 (flightG (grOf z1) 3 0) (Fin.ofNat 3 1))), .int .i64 (Mb.thawed (Gr.node (flightG (grOf z1) 3 0) (Fin.ofNat 3 1))), .int .i64 (Mb.issued (Gr.node (flightG (grOf z1) 3 0) (Fin.ofNat 3 1))), .bool (Mb.frozen
 (Gr.node (flightG (grOf z1) 3 0) (Fin.ofNat 3 1))), .int .i64 (Mb.upto (Gr.node (flightG (grOf z1) 3 0) (Fin.ofNat 3 1))), .dat (D.like (hs 0 4) (Mb.waiting (Gr.node (flightG (grOf z1) 3 0) (Fin.ofNat 3 1)))), .dat
 (D.like (hs 0 5) (Mb.held (Gr.node (flightG (grOf z1) 3 0) (Fin.ofNat 3 1)))), .int .i64 (Mb.round (Gr.node (flightG (grOf z1) 3 0) (Fin.ofNat 3 2))), .int .i64 (Mb.position (Gr.node (flightG (grOf z1) 3 0)
 (Fin.ofNat 3 2))), .int .i64 (Mb.thawed (Gr.node (flightG (grOf z1) 3 0) (Fin.ofNat 3 2))), .int .i64 (Mb.issued (Gr.node (flightG (grOf z1) 3 0) (Fin.ofNat 3 2))), .bool (Mb.frozen (Gr.node (flightG (grOf z1) 3 0)
 (Fin.ofNat 3 2))), .int .i64 (Mb.upto (Gr.node (flightG (grOf z1) 3 0) (Fin.ofNat 3 2))), .dat (D.like (hs 0 6) (Mb.waiting (Gr.node (flightG (grOf z1) 3 0) (Fin.ofNat 3 2)))), .dat (D.like (hs 0 7) (Mb.held
 (Gr.node (flightG (grOf z1) 3 0) (Fin.ofNat 3 2)))), .dat (D.like (hs 0 8) (Gr.flight (flightG (grOf z1) 3 0))), .dat (D.like (hs 0 9) (Gr.wr (flightG (grOf z1) 3 0) (Fin.ofNat 3 0))), .dat (D.like (hs 0 10)
 (Gr.wr (flightG (grOf z1) 3 0) (Fin.ofNat 3 1))), .dat (D.like (hs 0 11) (Gr.wr (flightG (grOf z1) 3 0) (Fin.ofNat 3 2))), .int .i64 (Gr.now (flightG (grOf z1) 3 0)), .int .i64 (Gr.clock (flightG (grOf z1) 3 0)), .bool
 (Gr.right (flightG (grOf z1) 3 0)), .int .i64 (Gr.started (flightG (grOf z1) 3 0))]), (1, OBlk.arr 3 d)])))) z2) z2 := by
 intros; kernel_rfl

end
end Go.Proofs.Ytoechplbhbalaaa
end
section
/- Layer 21: the play of a group: the invariant of its cuts (no program in sight). -/
namespace Sx
open Go
def WStep (clk : Int) (w w' : List Wr) : Prop := ∃ hl : w'.length = w.length, ∀ x : Nat, (h : x < w.length) → (w'[x]'(by rw [hl]; exact h)).issued = w[x].issued ∧ ((w'[x]'(by rw [hl]; exact h)).acked = w[x].acked ∨ (w'[x]'(by rw [hl]; exact h)).acked = clk)

theorem WStep.refl (clk : Int) (w : List Wr) : WStep clk w w := ⟨rfl, fun x h => ⟨rfl, .inl rfl⟩⟩

theorem mstep_writes {m m' : Mb} {w : List Wr} {acks : List Int} {clk : Int} (h : NodeOk m w) (s : Mstep m m' acks) :
  WStep clk w (ackW clk m'.frozen acks w).1 ∧ (m'.frozen = true → (ackW clk m'.frozen acks w).1 = w) ∧ ((acks = [] ∧ m'.held = m.held) → (ackW clk m'.frozen acks w).1 = w) := by
 have hsame : acks = [] → (ackW clk m'.frozen acks w).1 = w := fun e => by rw [e]; rfl
 rcases s.how with ⟨h1, h2⟩ | ⟨h1, h2, h3⟩
 ·exact ⟨by rw [hsame h1]; exact WStep.refl _ _, fun _ => hsame h1, fun _ => hsame h1⟩
 ·refine ⟨?_, fun hf => absurd (h3.symm.trans hf) (by decide), fun hh => hsame hh.1⟩
  rw [h3, h1]
  have hin : ∀ x, x ∈ m.held → 0 ≤ x ∧ ∃ h : x.toNat < w.length, 0 < w[x.toNat].durable ∧ w[x.toNat].times = 0 := fun x hx => by
   obtain ⟨⟨a, b⟩, _⟩ := h.ok.hi x hx
   have hl : x.toNat < w.length := by have := h.len; omega
   have := h.held x.toNat hl (by rw [Int.toNat_of_nonneg a]; exact hx)
   exact ⟨a, hl, this.1, this.2.2⟩
  obtain ⟨a1, a2, a3⟩ := ackW_spec clk m.held w h.ok.hn hin
  refine ⟨a2, fun x hx => ?_⟩
  rw [a3 x hx]
  split
  ·exact ⟨rfl, .inr rfl⟩
  ·exact ⟨rfl, .inl rfl⟩
structure CutOk (g : Gr) (T : Option Int) : Prop where
 rn : ∀ i, (g.node i).round ≤ g.c.round
 z : ∀ i, (g.node i).frozen = true → (g.node i).thawed < (g.node i).round
 num : ∀ m, m ∈ g.flight → m.number ≤ g.c.round
 frz : ∀ m, m ∈ g.flight → m.kind = 2 → m.number = g.c.round → ∀ i : Fin 3, m.frm = (i.val : Int) → (g.node i).round = g.c.round ∧ m.value = (g.node i).position
 thw : ∀ m, m ∈ g.flight → m.kind = 4 → m.number = g.c.round → m.value = 1 → ∀ i : Fin 3, m.frm = (i.val : Int) → (g.node i).round = g.c.round ∧ (g.node i).thawed = g.c.round
 tho : ∀ m, m ∈ g.flight → m.kind = 3 → m.number = g.c.round → T ≠ none
 fz : ∀ i, (g.node i).round = g.c.round → (g.node i).frozen = true → ∀ x : Nat, (h : x < (g.wr i).length) → (g.node i).position ≤ x → (g.wr i)[x].acked = 0
 iss : ∀ i, ∀ x : Nat, (h : x < (g.wr i).length) → (g.wr i)[x].issued ≤ g.clock
 no : T = none → ∀ i, (g.node i).round = g.c.round → (g.node i).thawed < g.c.round ∨ g.c.round = 0
 p1 : g.c.phase = 1 → T = none ∧ 1 ≤ g.c.round ∧ ∀ i : Fin 3, g.c.seen.getD i.val false = true → (g.node i).round = g.c.round ∧ g.c.positions.getD i.val 0 = (g.node i).position
 p2 : g.c.phase = 2 → T ≠ none ∧ ∀ i : Fin 3, g.c.seen.getD i.val false = true → (g.node i).thawed = g.c.round
 so : ∀ τ, T = some τ → τ ≤ g.clock ∧ ∀ i : Fin 3, (g.node i).round = g.c.round ∧ g.c.positions.getD i.val 0 = (g.node i).position ∧ (∀ x : Nat, (h : x < (g.wr i).length) → (x : Int) < (g.node i).position → (g.wr i)[x].issued ≤ τ) ∧
  ((g.node i).thawed = g.c.round → ∀ x : Nat, (h : x < (g.wr i).length) → (g.node i).position ≤ x → (g.wr i)[x].acked = 0 ∨ τ < (g.wr i)[x].acked)
 va : g.c.valid = true → T ≠ none ∧ ∀ i : Fin 3, (g.node i).thawed = g.c.round
structure NStep (r clk : Int) (T : Option Int) (m m' : Mb) (w w' : List Wr) : Prop where
 keep : m.round = r → m'.round = r ∧ m'.position = m.position ∧ (m.thawed = r → m'.thawed = r)
 rn : m'.round ≤ r
 z : m'.frozen = true → m'.thawed < m'.round
 fz : m'.round = r → m'.frozen = true → ∀ x : Nat, (h : x < w'.length) → m'.position ≤ x → w'[x].acked = 0
 no : T = none → m'.round = r → m'.thawed < r ∨ r = 0
 iss : ∀ x : Nat, (h : x < w'.length) → w'[x].issued ≤ clk
 old : ∀ τ, T = some τ → ∀ x : Nat, (h : x < w'.length) → (x : Int) < m'.position → w'[x].issued ≤ τ
 so : ∀ τ, T = some τ → m'.thawed = r → ∀ x : Nat, (h : x < w'.length) → m'.position ≤ x → w'[x].acked = 0 ∨ τ < w'[x].acked

theorem CutOk.node {g : Gr} {T : Option Int} (h : CutOk g T) (i : Fin 3) {m' : Mb} {w' : List Wr} {rt : Bool} (s : NStep g.c.round g.clock T (g.node i) m' (g.wr i) w') :
  CutOk { g with node := upd g.node i m', wr := upd g.wr i w', right := rt } T := by
 have nd : ∀ j, j ≠ i → upd g.node i m' j = g.node j := fun j hj => upd_ne hj
 have wd : ∀ j, j ≠ i → upd g.wr i w' j = g.wr j := fun j hj => upd_ne hj
 refine ⟨fun j => ?_, fun j => ?_, h.num, fun m hm hk hn j hj => ?_, fun m hm hk hn hv j hj => ?_, h.tho, fun j => ?_, fun j => ?_, fun hT j => ?_, fun hp => ?_, fun hp => ?_, fun τ hτ => ?_, fun hv => ?_⟩
 ·by_cases e : j = i
  ·subst e; simp only [upd_self]; exact s.rn
  ·simp only [nd j e]; exact h.rn j
 ·by_cases e : j = i
  ·subst e; simp only [upd_self]; exact s.z
  ·simp only [nd j e]; exact h.z j
 ·obtain ⟨a, b⟩ := h.frz m hm hk hn j hj
  by_cases e : j = i
  ·subst e; simp only [upd_self]
   obtain ⟨k1, k2, _⟩ := s.keep a
   exact ⟨k1, b.trans k2.symm⟩
  ·simp only [nd j e]; exact ⟨a, b⟩
 ·obtain ⟨a, b⟩ := h.thw m hm hk hn hv j hj
  by_cases e : j = i
  ·subst e; simp only [upd_self]
   obtain ⟨k1, _, k3⟩ := s.keep a
   exact ⟨k1, k3 b⟩
  ·simp only [nd j e]; exact ⟨a, b⟩
 ·by_cases e : j = i
  ·subst e; simp only [upd_self]; exact s.fz
  ·simp only [nd j e, wd j e]; exact h.fz j
 ·by_cases e : j = i
  ·subst e; simp only [upd_self]; exact s.iss
  ·simp only [wd j e]; exact h.iss j
 ·by_cases e : j = i
  ·subst e; simp only [upd_self]; exact s.no hT
  ·simp only [nd j e]; exact h.no hT j
 ·obtain ⟨a, b, c⟩ := h.p1 hp
  refine ⟨a, b, fun j hj => ?_⟩
  obtain ⟨c1, c2⟩ := c j hj
  by_cases e : j = i
  ·subst e; simp only [upd_self]
   obtain ⟨k1, k2, _⟩ := s.keep c1
   exact ⟨k1, c2.trans k2.symm⟩
  ·simp only [nd j e]; exact ⟨c1, c2⟩
 ·obtain ⟨a, b⟩ := h.p2 hp
  refine ⟨a, fun j hj => ?_⟩
  by_cases e : j = i
  ·subst e; simp only [upd_self]
   cases hT : T with
   | none => exact absurd hT a
   | some τ => exact (s.keep ((h.so τ hT).2 j).1).2.2 (b j hj)
  ·simp only [nd j e]; exact b j hj
 ·obtain ⟨a, b⟩ := h.so τ hτ
  refine ⟨a, fun j => ?_⟩
  obtain ⟨b1, b2, b3, b4⟩ := b j
  by_cases e : j = i
  ·subst e; simp only [upd_self]
   obtain ⟨k1, k2, _⟩ := s.keep b1
   exact ⟨k1, b2.trans k2.symm, s.old τ hτ, s.so τ hτ⟩
  ·simp only [nd j e, wd j e]; exact ⟨b1, b2, b3, b4⟩
 ·obtain ⟨a, b⟩ := h.va hv
  refine ⟨a, fun j => ?_⟩
  by_cases e : j = i
  ·subst e; simp only [upd_self]
   cases hT : T with
   | none => exact absurd hT a
   | some τ => exact (s.keep ((h.so τ hT).2 j).1).2.2 (b j)
  ·simp only [nd j e]; exact b j

theorem CutOk.send {g : Gr} {T : Option Int} (h : CutOk g T) {l : List Msg} (h1 : ∀ m, m ∈ l → m.number ≤ g.c.round)
  (h2 : ∀ m, m ∈ l → m.kind = 2 → m.number = g.c.round → ∀ i : Fin 3, m.frm = (i.val : Int) → (g.node i).round = g.c.round ∧ m.value = (g.node i).position)
  (h3 : ∀ m, m ∈ l → m.kind = 4 → m.number = g.c.round → m.value = 1 → ∀ i : Fin 3, m.frm = (i.val : Int) → (g.node i).round = g.c.round ∧ (g.node i).thawed = g.c.round)
  (h4 : ∀ m, m ∈ l → m.kind = 3 → m.number = g.c.round → T ≠ none) : CutOk (sendG g l) T := by
 refine ⟨h.rn, h.z, fun m hm => ?_, fun m hm => ?_, fun m hm => ?_, fun m hm => ?_, h.fz, h.iss, h.no, h.p1, h.p2, h.so, h.va⟩
 ·exact (List.mem_append.1 hm).elim (h.num m) (h1 m)
 ·exact (List.mem_append.1 hm).elim (h.frz m) (h2 m)
 ·exact (List.mem_append.1 hm).elim (h.thw m) (h3 m)
 ·exact (List.mem_append.1 hm).elim (h.tho m) (h4 m)
theorem CutOk.nstep {g : Gr} {T : Option Int} {t : Nat} (h : CutOk g T) (hg : GrOk g t) (hτ : ∀ τ, T = some τ → τ < g.clock) (i : Fin 3) {m' : Mb} {acks : List Int} (s : Mstep (g.node i) m' acks)
  (keep : (g.node i).round = g.c.round → m'.round = g.c.round ∧ m'.position = (g.node i).position ∧ ((g.node i).thawed = g.c.round → m'.thawed = g.c.round))
  (rn : m'.round ≤ g.c.round) (z : m'.frozen = true → m'.thawed < m'.round)
  (fz : m'.round = g.c.round → m'.frozen = true → ((g.node i).round = g.c.round ∧ (g.node i).frozen = true) ∨ m'.position = m'.issued)
  (no : T = none → m'.round = g.c.round → m'.thawed < g.c.round ∨ g.c.round = 0)
  (so : m'.thawed = g.c.round → T ≠ none → (g.node i).thawed = g.c.round ∨ ((g.node i).round = g.c.round ∧ (g.node i).frozen = true)) :
  NStep g.c.round g.clock T (g.node i) m' (g.wr i) (ackW g.clock m'.frozen acks (g.wr i)).1 := by
 have hn := hg.node i
 obtain ⟨⟨hl, hw⟩, hfr, _⟩ := mstep_writes (clk := g.clock) hn s
 refine ⟨keep, rn, z, fun h1 h2 x hx hp => ?_, no, fun x hx => ?_, fun τ ht x hx hp => ?_, fun τ ht hth x hx hp => ?_⟩
 ·have e := hfr h2
  rcases fz h1 h2 with ⟨f1, f2⟩ | f1
  ·have hp' : (g.node i).position ≤ x := by rw [← (keep f1).2.1]; exact hp
   simp only [e] at hx ⊢
   exact h.fz i f1 f2 x hx hp'
  ·have h3 := s.iss
   have h4 := hn.len
   rw [hl] at hx
   omega
 ·have hx' : x < (g.wr i).length := by rw [← hl]; exact hx
  rw [(hw x hx').1]
  exact h.iss i x hx'
 ·have hx' : x < (g.wr i).length := by rw [← hl]; exact hx
  obtain ⟨b1, b2, b3, b4⟩ := (h.so τ ht).2 i
  rw [(hw x hx').1]
  exact b3 x hx' (by rw [← (keep b1).2.1]; exact hp)
 ·have hx' : x < (g.wr i).length := by rw [← hl]; exact hx
  obtain ⟨b1, b2, b3, b4⟩ := (h.so τ ht).2 i
  have hp' : (g.node i).position ≤ x := by rw [← (keep b1).2.1]; exact hp
  rcases (hw x hx').2 with e | e
  ·rw [e]
   rcases so hth (by rw [ht]; simp) with f | ⟨f1, f2⟩
   ·exact b4 f x hx' hp'
   ·exact .inl (h.fz i f1 f2 x hx' hp')
  ·rw [e]
   exact .inr (hτ τ ht)
end Sx
end
section
/- Layer 21: the play of a group: every step keeps the invariant of cuts (no program in sight). -/
namespace Sx
open Go

theorem upd_upd {α : Type} (f : Fin 3 → α) (i : Fin 3) (a b : α) : upd (upd f i a) i b = upd f i b := by
 funext j
 by_cases h : j = i
 ·subst h; rw [upd_self, upd_self]
 ·rw [upd_ne h, upd_ne h, upd_ne h]

theorem CutOk.ackMb {g : Gr} {T : Option Int} {t : Nat} (h : CutOk g T) (hg : GrOk g t) (hτ : ∀ τ, T = some τ → τ < g.clock) (i : Fin 3) {m' : Mb} {acks : List Int} (s : Mstep (g.node i) m' acks)
  (keep : (g.node i).round = g.c.round → m'.round = g.c.round ∧ m'.position = (g.node i).position ∧ ((g.node i).thawed = g.c.round → m'.thawed = g.c.round))
  (rn : m'.round ≤ g.c.round) (z : m'.frozen = true → m'.thawed < m'.round)
  (fz : m'.round = g.c.round → m'.frozen = true → ((g.node i).round = g.c.round ∧ (g.node i).frozen = true) ∨ m'.position = m'.issued)
  (no : T = none → m'.round = g.c.round → m'.thawed < g.c.round ∨ g.c.round = 0)
  (so : m'.thawed = g.c.round → T ≠ none → (g.node i).thawed = g.c.round ∨ ((g.node i).round = g.c.round ∧ (g.node i).frozen = true)) :
  CutOk (ackG { g with node := upd g.node i m' } i acks) T := by
 have hs := h.nstep hg hτ i s keep rn z fz no so
 have h1 := h.node i (rt := g.right && (ackW g.clock m'.frozen acks (g.wr i)).2) hs
 simp only [ackG, upd_self]
 exact h1
theorem CutOk.rel {g : Gr} {T : Option Int} {t : Nat} (h : CutOk g T) (hg : GrOk g t) (hτ : ∀ τ, T = some τ → τ < g.clock) (i : Fin 3) : CutOk (relG g i) T := by
 have e : (relMb (g.node i) g.now).1.round = (g.node i).round ∧ (relMb (g.node i) g.now).1.position = (g.node i).position ∧ (relMb (g.node i) g.now).1.thawed = (g.node i).thawed ∧ ((relMb (g.node i) g.now).1.frozen = true → (g.node i).frozen = true) := by
  unfold relMb
  split
  ·exact ⟨rfl, rfl, rfl, fun h => h⟩
  ·exact ⟨rfl, rfl, rfl, fun h => (by cases h)⟩
 obtain ⟨e1, e2, e3, e4⟩ := e
 refine h.ackMb hg hτ i (rel_step (hg.node i).ok g.now) (fun hr => ⟨e1.trans hr, e2, fun ht => e3.trans ht⟩) (by rw [e1]; exact h.rn i) (fun hf => by rw [e1, e3]; exact h.z i (e4 hf)) (fun hr hf => .inl ⟨e1.symm.trans hr, e4 hf⟩) (fun hT hr => by rw [e3]; exact h.no hT i (e1.symm.trans hr)) (fun ht _ => .inl (e3.symm.trans ht))
structure MsgCut (g : Gr) (T : Option Int) (m : Msg) : Prop where
 num : m.number ≤ g.c.round
 frz : m.kind = 2 → m.number = g.c.round → ∀ i : Fin 3, m.frm = (i.val : Int) → (g.node i).round = g.c.round ∧ m.value = (g.node i).position
 thw : m.kind = 4 → m.number = g.c.round → m.value = 1 → ∀ i : Fin 3, m.frm = (i.val : Int) → (g.node i).round = g.c.round ∧ (g.node i).thawed = g.c.round
 tho : m.kind = 3 → m.number = g.c.round → T ≠ none

theorem CutOk.msg {g : Gr} {T : Option Int} (h : CutOk g T) {m : Msg} (hm : m ∈ g.flight) : MsgCut g T m := ⟨h.num m hm, h.frz m hm, h.thw m hm, h.tho m hm⟩
structure ObeyFacts (m m' : Mb) (g : Msg) (r : Int) (l : List Msg) : Prop where
 keep : m.round = r → m'.round = r ∧ m'.position = m.position ∧ (m.thawed = r → m'.thawed = r)
 rn : m'.round ≤ r
 z : m'.frozen = true → m'.thawed < m'.round
 fz : m'.round = r → m'.frozen = true → (m.round = r ∧ m.frozen = true) ∨ m'.position = m'.issued
 th : m'.thawed = r → m.thawed = r ∨ (m.round = r ∧ m.frozen = true ∧ g.kind = 3 ∧ g.number = r)
 ans : ∀ a, a ∈ l → a.frm = g.to ∧ a.number = g.number ∧ a.kind ≠ 3 ∧ (a.kind = 2 → a.number = r → m'.round = r ∧ a.value = m'.position) ∧ (a.kind = 4 → a.number = r → a.value = 1 → m'.round = r ∧ m'.thawed = r)

theorem ObeyFacts.same {m : Mb} {g : Msg} {r : Int} {l : List Msg} (hmr : m.round ≤ r) (hz : m.frozen = true → m.thawed < m.round)
  (ans : ∀ a, a ∈ l → a.frm = g.to ∧ a.number = g.number ∧ a.kind ≠ 3 ∧ (a.kind = 2 → a.number = r → m.round = r ∧ a.value = m.position) ∧ (a.kind = 4 → a.number = r → a.value = 1 → m.round = r ∧ m.thawed = r)) : ObeyFacts m m g r l :=
 ⟨fun h => ⟨h, rfl, fun h => h⟩, hmr, hz, fun h1 h2 => .inl ⟨h1, h2⟩, fun h => .inl h, ans⟩
theorem ObeyFacts.thaw {m : Mb} {g : Msg} {r : Int} {l : List Msg} (hmr : m.round ≤ r)
  (ans : ∀ a, a ∈ l → a.frm = g.to ∧ a.number = g.number ∧ a.kind ≠ 3 ∧ a.kind ≠ 2 ∧ (a.kind = 4 → a.value = 1 → False)) : ObeyFacts m { m with frozen := false, held := [] } g r l :=
 ⟨fun h => ⟨h, rfl, fun h => h⟩, hmr, fun h => (by cases h), fun _ h2 => (by cases h2), fun h => .inl h, fun a ha => by
  obtain ⟨a1, a2, a3, a4, a5⟩ := ans a ha
  exact ⟨a1, a2, a3, fun h => absurd h a4, fun h1 _ h3 => (a5 h1 h3).elim⟩⟩
theorem no_ans {m' : Mb} {g : Msg} {r : Int} : ∀ a : Msg, a ∈ ([] : List Msg) → a.frm = g.to ∧ a.number = g.number ∧ a.kind ≠ 3 ∧ (a.kind = 2 → a.number = r → m'.round = r ∧ a.value = m'.position) ∧ (a.kind = 4 → a.number = r → a.value = 1 → m'.round = r ∧ m'.thawed = r) := fun a ha => by cases ha

theorem ans_mem {g a : Msg} {k v : Int} (h : a ∈ ansTo g k v) : a.frm = g.to ∧ a.number = g.number ∧ a.kind = k ∧ a.value = v := by
 simp only [ansTo, List.mem_singleton] at h
 subst h
 exact ⟨rfl, rfl, rfl, rfl⟩

theorem obey_facts {m : Mb} (hm : MbOk m) (now p : Int) {g : Msg} {r : Int} (hr : g.number ≤ r) (hmr : m.round ≤ r) (hz : m.frozen = true → m.thawed < m.round) :
  ObeyFacts m (obeyMb m now p g).1 g r (obeyMb m now p g).2.2 := by
 have ht := hm.t
 unfold obeyMb
 split
 ·exact .same hmr hz no_ans
 ·split
  ·rename_i hk
   split
   ·rename_i hgt
    refine ⟨fun h => absurd h (by omega), hr, fun _ => by simp only; omega, fun _ _ => .inr rfl, fun h => .inl h, fun a ha => ?_⟩
    obtain ⟨a1, a2, a3, a4⟩ := ans_mem ha
    exact ⟨a1, a2, by omega, fun _ h2 => ⟨a2.symm.trans h2, a4⟩, fun h => by omega⟩
   ·split
    ·rename_i hh
     refine .same hmr hz fun a ha => ?_
     obtain ⟨a1, a2, a3, a4⟩ := ans_mem ha
     exact ⟨a1, a2, by omega, fun _ h2 => ⟨by rw [← hh.1, ← a2]; exact h2, a4⟩, fun h => by omega⟩
    ·exact .same hmr hz no_ans
  ·split
   ·rename_i hk
    split
    ·rename_i hn
     unfold endMb
     split
     ·rename_i hf
      refine .same hmr hz fun a ha => ?_
      obtain ⟨a1, a2, a3, a4⟩ := ans_mem ha
      refine ⟨a1, a2, by omega, fun h => by omega, fun _ h2 h3 => ?_⟩
      have hmr : m.round = r := by rw [← hn, ← a2]; exact h2
      refine ⟨hmr, ?_⟩
      by_cases e : m.thawed = m.round
      ·exact e.trans hmr
      ·rw [if_neg e] at a4; omega
     ·rename_i hf
      split
      ·refine ⟨fun h => ⟨h, rfl, fun _ => h⟩, hmr, fun h => (by cases h), fun _ h => (by cases h), fun h => ?_, fun a ha => ?_⟩
       ·simp only at h
        exact .inr ⟨h, by simpa using hf, hk, hn.trans h⟩
       ·obtain ⟨a1, a2, a3, a4⟩ := ans_mem ha
        refine ⟨a1, a2, by omega, fun h => by omega, fun _ h2 _ => ?_⟩
        have hmr : m.round = r := by rw [← hn, ← a2]; exact h2
        exact ⟨hmr, hmr⟩
      ·refine .thaw hmr fun a ha => ?_
       obtain ⟨a1, a2, a3, a4⟩ := ans_mem ha
       exact ⟨a1, a2, by omega, by omega, fun _ h => by omega⟩
    ·split
     ·refine .same hmr hz fun a ha => ?_
      obtain ⟨a1, a2, a3, a4⟩ := ans_mem ha
      exact ⟨a1, a2, by omega, fun h => by omega, fun _ _ h => by omega⟩
     ·exact .same hmr hz no_ans
   ·split
    ·split
     ·exact .thaw hmr fun a ha => by cases ha
     ·exact .same hmr hz no_ans
    ·exact .same hmr hz no_ans

theorem CutOk.obey {g : Gr} {T : Option Int} {t : Nat} (h : CutOk g T) (hg : GrOk g t) (hτ : ∀ τ, T = some τ → τ < g.clock) (i : Fin 3) {m : Msg} (hm : MsgCut g T m) (hi : m.to = (i.val : Int)) : CutOk (obeyG g m i) T := by
 obtain ⟨f1, f2, f3, f4, f5, f6⟩ := obey_facts (hg.node i).ok g.now 12 (g := m) hm.num (h.rn i) (h.z i)
 have s := obey_step (hg.node i).ok g.now 12 m
 have hthaw : (obeyMb (g.node i) g.now 12 m).1.thawed ≤ (obeyMb (g.node i) g.now 12 m).1.round := s.ok.t.2
 have h1 := h.ackMb hg hτ i s f1 f2 f3 f4 (fun hT hr => by
  by_cases e : (obeyMb (g.node i) g.now 12 m).1.thawed = g.c.round
  ·rcases f5 e with e2 | ⟨_, _, e3, e4⟩
   ·have a1 := (hg.node i).ok.t; have a2 := h.rn i
    exact (h.no hT i (by omega)).imp (fun hlt => absurd e2 (by omega)) id
   ·exact absurd hT (hm.tho e3 e4)
  ·left; omega) (fun ht hT => (f5 ht).imp id fun ⟨e1, e2, _⟩ => ⟨e1, e2⟩)
 have hnode : (ackG { g with node := upd g.node i (obeyMb (g.node i) g.now 12 m).1 } i (obeyMb (g.node i) g.now 12 m).2.1).node i = (obeyMb (g.node i) g.now 12 m).1 := upd_self _ _ _
 have hj : ∀ a, a ∈ (obeyMb (g.node i) g.now 12 m).2.2 → ∀ j : Fin 3, a.frm = (j.val : Int) → j = i := fun a ha j hj => by
  have := (f6 a ha).1
  exact Fin.ext (by omega)
 refine CutOk.send h1 (fun a ha => ?_) (fun a ha hk hn j hj' => ?_) (fun a ha hk hn hv j hj' => ?_) (fun a ha hk => absurd hk (f6 a ha).2.2.1)
 ·rw [(f6 a ha).2.1]; exact hm.num
 ·rw [hj a ha j hj', hnode]
  exact (f6 a ha).2.2.2.1 hk hn
 ·rw [hj a ha j hj', hnode]
  exact (f6 a ha).2.2.2.2 hk hn hv
theorem CutOk.coord {g : Gr} {T T' : Option Int} (h : CutOk g T) {c : Co} (hr : c.round = g.c.round) (hT : T ≠ none → T' ≠ none)
  (no : T' = none → T = none)
  (p1 : c.phase = 1 → T' = none ∧ 1 ≤ c.round ∧ ∀ i : Fin 3, c.seen.getD i.val false = true → (g.node i).round = c.round ∧ c.positions.getD i.val 0 = (g.node i).position)
  (p2 : c.phase = 2 → T' ≠ none ∧ ∀ i : Fin 3, c.seen.getD i.val false = true → (g.node i).thawed = c.round)
  (so : ∀ τ, T' = some τ → τ ≤ g.clock ∧ ∀ i : Fin 3, (g.node i).round = c.round ∧ c.positions.getD i.val 0 = (g.node i).position ∧ (∀ x : Nat, (h : x < (g.wr i).length) → (x : Int) < (g.node i).position → (g.wr i)[x].issued ≤ τ) ∧
  ((g.node i).thawed = c.round → ∀ x : Nat, (h : x < (g.wr i).length) → (g.node i).position ≤ x → (g.wr i)[x].acked = 0 ∨ τ < (g.wr i)[x].acked))
  (va : c.valid = true → T' ≠ none ∧ ∀ i : Fin 3, (g.node i).thawed = c.round) : CutOk { g with c := c } T' := by
 rw [hr] at p1 p2 so va
 refine ⟨?_, h.z, ?_, ?_, ?_, ?_, ?_, h.iss, ?_, ?_, ?_, ?_, ?_⟩
 all_goals simp only [hr]
 ·exact h.rn
 ·exact h.num
 ·exact h.frz
 ·exact h.thw
 ·exact fun m hm hk hn => hT (h.tho m hm hk hn)
 ·exact h.fz
 ·exact fun h1 => h.no (no h1)
 ·exact p1
 ·exact p2
 ·exact so
 ·exact va
end Sx
end
section
/- Layer 21: the play of a group: every step keeps the invariant of cuts, the coordinator's part (no program in sight). -/
namespace Sx
open Go

theorem CutOk.msgs {g : Gr} {T : Option Int} (h : CutOk g T) {l : List Msg} (hl : ∀ m, m ∈ l → MsgCut g T m) : CutOk (sendG g l) T :=
 h.send (fun m hm => (hl m hm).num) (fun m hm => (hl m hm).frz) (fun m hm => (hl m hm).thw) (fun m hm => (hl m hm).tho)

theorem CutOk.nosend {g : Gr} {T : Option Int} (h : CutOk g T) : CutOk (sendG g []) T := h.msgs fun m hm => by cases hm

theorem getD_put {α : Type} {l : List α} {k i : Nat} {v d : α} (h : k < l.length) : (l.set k v).getD i d = if i = k then v else l.getD i d := by
 simp only [List.getD_eq_getElem?_getD, List.getElem?_set]
 by_cases e : k = i
 ·subst e; simp [h]
 ·rw [if_neg e, if_neg (fun h => e h.symm)]

theorem all_getD {l : List Bool} (h : l.all id = true) {i : Nat} (hi : i < l.length) : l.getD i false = true := by
 rw [List.all_eq_true] at h
 simp only [List.getD_eq_getElem?_getD, List.getElem?_eq_getElem hi, Option.getD_some]
 exact h _ (List.getElem_mem hi)

theorem msgsTo_mem {n r k : Int} {m : Msg} (h : m ∈ msgsTo n r k) : m.kind = k ∧ m.number = r := by
 simp only [msgsTo, List.mem_map] at h
 obtain ⟨i, _, rfl⟩ := h
 exact ⟨rfl, rfl⟩

theorem CutOk.giveUp {g : Gr} {T : Option Int} (h : CutOk g T) : CutOk (sendG { g with c := (giveUpCo g.c).1 } (giveUpCo g.c).2) T := by
 have h1 : CutOk { g with c := (giveUpCo g.c).1 } T := h.coord rfl (fun h => h) (fun h => h) (fun hp => by simp only [giveUpCo] at hp; omega) (fun hp => by simp only [giveUpCo] at hp; omega) h.so (fun hv => by simp only [giveUpCo] at hv; cases hv)
 refine h1.msgs fun m hm => ?_
 obtain ⟨m1, m2⟩ := msgsTo_mem hm
 exact ⟨by rw [m2]; exact Int.le_refl _, fun h => by omega, fun h => by omega, fun h => by omega⟩

theorem CutOk.collect {g : Gr} {T : Option Int} {t : Nat} (h : CutOk g T) (hg : GrOk g t) {m : Msg} (hm : MsgCut g T m) :
  ∃ T', CutOk (sendG { g with c := (collectCo g.c g.now m).1 } (collectCo g.c g.now m).2) T' := by
 have same : ∃ T', CutOk (sendG { g with c := g.c } []) T' := ⟨T, h.nosend⟩
 by_cases hb : ¬checkCo g.c = 0 ∨ g.c.phase = 0 ∨ g.now ≥ g.c.deadline ∨ m.frm < 0 ∨ m.frm ≥ g.c.nodes ∨ ¬m.number = g.c.round
 ·rw [coll_bad hb]; exact same
 ·rw [coll_go hb rfl rfl]
  have hz := checkCo_zero.1 (show checkCo ⟨g.c.nodes, g.c.round, g.c.phase, g.c.deadline, g.c.positions, g.c.seen, g.c.valid⟩ = 0 from hg.c.ok)
  simp only [not_or, Decidable.not_not] at hb
  obtain ⟨_, b2, _, b4, b5, b6⟩ := hb
  have hn := hg.c.n
  have hpl : g.c.positions.length = 3 := by omega
  have hsl : g.c.seen.length = 3 := by omega
  have hv0 : g.c.valid = false := by
   cases hv : g.c.valid with
   | false => rfl
   | true => exact absurd (hz.2.2.2.2.2.2.1 hv) b2
  obtain ⟨k, hk⟩ : ∃ k : Nat, m.frm = (k : Int) := ⟨m.frm.toNat, by omega⟩
  have hkt : m.frm.toNat = k := by omega
  have hk3 : k < 3 := by omega
  have hfi : ∀ i : Fin 3, i.val = k → m.frm = (i.val : Int) := fun i hi => by omega
  rw [hkt]
  unfold collGo
  split
  ·rename_i hkind
   split
   ·exact same
   ·rename_i hc
    simp only [not_or, Decidable.not_not] at hc
    obtain ⟨c1, c2, c3, _⟩ := hc
    obtain ⟨q1, q2, q3⟩ := h.p1 c1
    have hfz := hm.frz hkind b6
    have hseen : ∀ i : Fin 3, (g.c.seen.set k true).getD i.val false = true → (g.node i).round = g.c.round ∧ (g.c.positions.set k m.value).getD i.val 0 = (g.node i).position := fun i hi => by
     rw [getD_put (by omega)] at hi ⊢
     by_cases e : i.val = k
     ·rw [if_pos e]; exact hfz i (hfi i e)
     ·rw [if_neg e] at hi ⊢; exact q3 i hi
    simp only [hkt]
    split
    ·rename_i hal
     have h1 : CutOk { g with c := ⟨g.c.nodes, g.c.round, 2, g.c.deadline, g.c.positions.set k m.value, List.replicate g.c.nodes.toNat false, g.c.valid⟩ } (some g.clock) := by
      refine h.coord rfl (fun _ => by simp) (fun h => by cases h) (fun hp => by simp only at hp; omega) (fun _ => ⟨by simp, fun i hi => ?_⟩) (fun τ hτ => ?_) (fun hv => by simp only [hv0] at hv; cases hv)
      ·exfalso
       simp only [List.getD_eq_getElem?_getD, List.getElem?_replicate] at hi
       split at hi <;> simp at hi
      ·cases hτ
       refine ⟨Int.le_refl _, fun i => ?_⟩
       obtain ⟨s1, s2⟩ := hseen i (all_getD hal (by rw [List.length_set, hsl]; exact i.isLt))
       refine ⟨s1, s2, fun x hx _ => h.iss i x hx, fun ht => ?_⟩
       rcases h.no q1 i s1 with e | e
       ·exact absurd ht (by simp only; omega)
       ·omega
     refine ⟨some g.clock, h1.msgs fun m' hm' => ?_⟩
     obtain ⟨m1, m2⟩ := msgsTo_mem hm'
     exact ⟨by rw [m2]; exact Int.le_refl _, fun h => by omega, fun h => by omega, fun _ _ => by simp⟩
    ·refine ⟨T, CutOk.nosend ?_⟩
     exact h.coord rfl (fun h => h) (fun h => h) (fun _ => ⟨q1, q2, hseen⟩) (fun hp => by simp only at hp; omega) (fun τ hτ => by rw [q1] at hτ; cases hτ) (fun hv => by simp only [hv0] at hv; cases hv)
  ·split
   ·rename_i hk2 hk4
    split
    ·exact same
    ·rename_i hp
     simp only [ne_eq, Decidable.not_not] at hp
     obtain ⟨q1, q2⟩ := h.p2 hp
     split
     ·exact ⟨T, h.giveUp⟩
     ·rename_i hval
      simp only [ne_eq, Decidable.not_not] at hval
      have hth := hm.thw hk4 b6 hval
      have hseen : ∀ i : Fin 3, (g.c.seen.set k true).getD i.val false = true → (g.node i).thawed = g.c.round := fun i hi => by
       rw [getD_put (by omega)] at hi
       by_cases e : i.val = k
       ·exact (hth i (hfi i e)).2
       ·rw [if_neg e] at hi; exact q2 i hi
      simp only [hkt]
      split
      ·rename_i hal
       refine ⟨T, CutOk.nosend ?_⟩
       refine h.coord rfl (fun h => h) (fun h => h) (fun hp => by simp only at hp; omega) (fun hp => by simp only at hp; omega) h.so (fun _ => ⟨q1, fun i => ?_⟩)
       exact hseen i (all_getD hal (by rw [List.length_set, hsl]; exact i.isLt))
      ·refine ⟨T, CutOk.nosend ?_⟩
       exact h.coord rfl (fun h => h) (fun h => h) (fun hp' => by simp only at hp'; omega) (fun _ => ⟨q1, hseen⟩) h.so (fun hv => by simp only [hv0] at hv; cases hv)
   ·exact same

theorem CutOk.right {g : Gr} {T : Option Int} (h : CutOk g T) {r : Bool} : CutOk { g with right := r } T := ⟨h.rn, h.z, h.num, h.frz, h.thw, h.tho, h.fz, h.iss, h.no, h.p1, h.p2, h.so, h.va⟩

theorem CutOk.recv {g : Gr} {T : Option Int} {t : Nat} (h : CutOk g T) (hg : GrOk g t) (hτ : ∀ τ, T = some τ → τ < g.clock) {m : Msg} (hm : MsgCut g T m) : ∃ T', CutOk (recvG g m) T' := by
 unfold recvG
 split
 ·exact h.collect hg hm
 ·split
  ·exact ⟨T, h.obey hg hτ 0 hm (by omega)⟩
  ·split
   ·exact ⟨T, h.obey hg hτ 1 hm (by omega)⟩
   ·split
    ·exact ⟨T, h.obey hg hτ 2 hm (by omega)⟩
    ·exact ⟨T, h.right⟩

theorem CutOk.less {g : Gr} {T : Option Int} (h : CutOk g T) {l : List Msg} (hl : ∀ m, m ∈ l → m ∈ g.flight) : CutOk { g with flight := l } T :=
 ⟨h.rn, h.z, fun m hm => h.num m (hl m hm), fun m hm => h.frz m (hl m hm), fun m hm => h.thw m (hl m hm), fun m hm => h.tho m (hl m hm), h.fz, h.iss, h.no, h.p1, h.p2, h.so, h.va⟩

theorem CutOk.flight {g : Gr} {T : Option Int} {t : Nat} (h : CutOk g T) (hg : GrOk g t) (hτ : ∀ τ, T = some τ → τ < g.clock) (k w : Int) (hw : 0 ≤ w) : ∃ T', CutOk (flightG g k w) T' := by
 by_cases h0 : g.flight.length = 0
 ·rw [flightG_nil h0]; exact ⟨T, h⟩
 ·have t0 : 0 ≤ Int.tmod w g.flight.length := Int.tmod_nonneg _ hw
  have hpos : (0 : Int) < (g.flight.length : Int) := by have := Nat.pos_of_ne_zero h0; omega
  have t1 : Int.tmod w g.flight.length < g.flight.length := Int.tmod_lt_of_pos _ hpos
  obtain ⟨i, hi⟩ : ∃ i, (Int.tmod w g.flight.length).toNat = i := ⟨_, rfl⟩
  have hil : i < g.flight.length := by omega
  rw [flightG_go h0 hi rfl]
  have hmem : g.flight.getD i noMsg ∈ g.flight := by
   have e : g.flight.getD i noMsg = g.flight[i] := by simp [hil]
   rw [e]; exact List.getElem_mem hil
  have hsub : ∀ m, m ∈ g.flight.take i ++ g.flight.drop (i + 1) → m ∈ g.flight := fun m hm => by
   rcases List.mem_append.1 hm with hm | hm
   ·exact List.mem_of_mem_take hm
   ·exact List.mem_of_mem_drop hm
  have hm := h.msg hmem
  by_cases h4 : Int.tmod k 7 = 4
  ·rw [if_pos h4]
   split
   ·exact ⟨T, h⟩
   ·exact h.recv hg hτ hm
  ·rw [if_neg h4]
   have h1 : CutOk { g with flight := g.flight.take i ++ g.flight.drop (i + 1) } T := h.less hsub
   split
   ·exact ⟨T, h1⟩
   ·exact h1.recv (t := t) ⟨hg.c, hg.node, fun m hm => hg.fl m (hsub m hm), by simp only [List.length_append, List.length_take, List.length_drop]; have := hg.flen; omega, hg.now, hg.clock, hg.right, hg.wlen, hg.upto⟩ hτ ⟨hm.num, hm.frz, hm.thw, hm.tho⟩

theorem CutOk.expire {g : Gr} {T : Option Int} (h : CutOk g T) (now : Int) : CutOk (sendG { g with c := (expireCo g.c now).1 } (expireCo g.c now).2) T := by
 unfold expireCo
 split
 ·exact h.nosend
 ·exact h.giveUp

theorem CutOk.time {g : Gr} {T : Option Int} (h : CutOk g T) {now : Int} : CutOk { g with now := now } T := ⟨h.rn, h.z, h.num, h.frz, h.thw, h.tho, h.fz, h.iss, h.no, h.p1, h.p2, h.so, h.va⟩

theorem CutOk.tick {g : Gr} {T : Option Int} {t : Nat} (h : CutOk g T) (hg : GrOk g t) (hτ : ∀ τ, T = some τ → τ < g.clock) (ht2 : t ≤ 1000) (n w : Int) (hw : U8 w) (hn : g.now + 5 ≤ 5 * t + 200) (hk : g.flight.length + 3 ≤ 12 * t + 24) : CutOk (tickG g n w) T := by
 have t0 : 0 ≤ Int.tmod w 5 := Int.tmod_nonneg _ hw.1
 have t1 : Int.tmod w 5 < 5 := Int.tmod_lt_of_pos _ (by decide)
 have h0 := hg.now
 have e : IntKind.i64.wrap (g.now + (1 + Int.tmod w 5)) = g.now + (1 + Int.tmod w 5) := wrap64 (by omega) (by omega)
 obtain ⟨c1, c2, c3⟩ := expire_ok hg.c (g.now + (1 + Int.tmod w 5))
 have h1 : GrOk (sendG { g with now := g.now + (1 + Int.tmod w 5), c := (expireCo g.c (g.now + (1 + Int.tmod w 5))).1 } (expireCo g.c (g.now + (1 + Int.tmod w 5))).2) t :=
  GrOk.send (k := 0) ⟨c1, hg.node, hg.fl, hg.flen, ⟨by simp only; omega, by simp only; omega⟩, hg.clock, hg.right, hg.wlen, fun i => by have := hg.upto i; simp only; omega⟩ c3 (by simp only; omega)
 have h2 : CutOk (sendG { g with now := g.now + (1 + Int.tmod w 5), c := (expireCo g.c (g.now + (1 + Int.tmod w 5))).1 } (expireCo g.c (g.now + (1 + Int.tmod w 5))).2) T := (h.time (now := g.now + (1 + Int.tmod w 5))).expire (g.now + (1 + Int.tmod w 5))
 unfold tickG
 simp only [e]
 split
 ·exact ((h2.rel h1 hτ 0).rel (h1.rel 0) hτ 1).rel ((h1.rel 0).rel 1) hτ 2
 ·exact h2

theorem CutOk.issue {g : Gr} {T : Option Int} {t : Nat} (h : CutOk g T) (hg : GrOk g t) (ht2 : t ≤ 1000) (i : Fin 3) : CutOk (issueG g i) T := by
 have hn := hg.node i
 have hl := hg.wlen i
 have hlen := hn.len
 have e := issue_ok (m := g.node i) hn.ok.check (by omega)
 have hp := hn.ok.p
 have hnew : ∀ x : Nat, (hx : x < (g.wr i ++ [(⟨g.clock, 0, 0, 0⟩ : Wr)]).length) → (∃ hl : x < (g.wr i).length, (g.wr i ++ [(⟨g.clock, 0, 0, 0⟩ : Wr)])[x] = (g.wr i)[x]) ∨ (x = (g.wr i).length ∧ (g.wr i ++ [(⟨g.clock, 0, 0, 0⟩ : Wr)])[x] = ⟨g.clock, 0, 0, 0⟩) := fun x hx => by
  by_cases hxl : x < (g.wr i).length
  ·exact .inl ⟨hxl, List.getElem_append_left hxl⟩
  ·rw [List.length_append, List.length_singleton] at hx
   refine .inr ⟨by omega, ?_⟩
   rw [List.getElem_append_right (by omega)]
   simp
 refine h.node i (m' := (issueMb (g.node i)).1) (w' := g.wr i ++ [⟨g.clock, 0, 0, 0⟩]) (rt := g.right && decide ((issueMb (g.node i)).2 = (g.wr i).length)) ?_
 rw [e]
 refine ⟨fun hr => ⟨hr, rfl, fun h => h⟩, h.rn i, h.z i, fun h1 h2 x hx hpx => ?_, fun hT => h.no hT i, fun x hx => ?_, fun τ hτ x hx hpx => ?_, fun τ hτ hth x hx hpx => ?_⟩
 ·rcases hnew x hx with ⟨hl, e⟩ | ⟨_, e⟩
  ·rw [e]; exact h.fz i h1 h2 x hl hpx
  ·rw [e]
 ·rcases hnew x hx with ⟨hl, e⟩ | ⟨_, e⟩
  ·rw [e]; exact h.iss i x hl
  ·rw [e]; exact Int.le_refl _
 ·rcases hnew x hx with ⟨hl, e⟩ | ⟨e0, e⟩
  ·rw [e]; exact ((h.so τ hτ).2 i).2.2.1 x hl hpx
  ·simp only at hpx; omega
 ·rcases hnew x hx with ⟨hl, e⟩ | ⟨_, e⟩
  ·rw [e]; exact ((h.so τ hτ).2 i).2.2.2 hth x hl hpx
  ·rw [e]; exact .inl rfl

theorem dur_writes {m : Mb} {w : List Wr} (h : NodeOk m w) {x : Nat} (hx : (x : Int) ∈ m.waiting) (clk : Int) (hc : 0 < clk) (hxl : x < w.length) {w' : List Wr} (hw' : w' = (ackW clk (durMb m x).1.frozen (durMb m x).2.1 (w.set x { w[x] with durable := clk })).1) :
  ∃ hl : w'.length = w.length, ∀ k : Nat, (hk : k < w.length) → (w'[k]'(by rw [hl]; exact hk)).issued = w[k].issued ∧ ((w'[k]'(by rw [hl]; exact hk)).acked = w[k].acked ∨ (m.frozen = false ∧ (w'[k]'(by rw [hl]; exact hk)).acked = clk)) := by
 subst hw'
 have hk := h.ok.check
 have hcon : m.waiting.contains (x : Int) = true := List.contains_iff_mem.2 hx
 have hset : ∀ k : Nat, (hk : k < w.length) → ((w.set x { w[x] with durable := clk })[k]'(by rw [List.length_set]; exact hk)).issued = w[k].issued ∧ ((w.set x { w[x] with durable := clk })[k]'(by rw [List.length_set]; exact hk)).acked = w[k].acked := fun k hk => by
  rw [List.getElem_set]
  split
  ·rename_i e; subst e; exact ⟨rfl, rfl⟩
  ·exact ⟨rfl, rfl⟩
 cases hf : m.frozen with
 | true =>
  simp only [dur_held hk hcon hf, ackW]
  exact ⟨List.length_set .., fun k hk => ⟨(hset k hk).1, .inl (hset k hk).2⟩⟩
 | false =>
  have hw := h.wait x hxl hx
  have hspec := ackW_spec clk [(x : Int)] (w.set x { w[x] with durable := clk }) (by simp) (fun y hy => by
   rw [List.mem_singleton.1 hy]
   refine ⟨by omega, by rw [List.length_set]; simpa using hxl, ?_⟩
   simp only [Int.toNat_natCast, List.getElem_set_self]
   exact ⟨hc, hw.2.2⟩)
  obtain ⟨a1, a2, a3⟩ := hspec
  simp only [dur_free hk hcon hf, hf]
  rw [List.length_set] at a2
  refine ⟨a2, fun k hk => ?_⟩
  rw [a3 k (by rw [List.length_set]; exact hk)]
  split
  ·exact ⟨(hset k hk).1, .inr ⟨trivial, rfl⟩⟩
  ·exact ⟨(hset k hk).1, .inl (hset k hk).2⟩

theorem dur_same {m : Mb} {x : Int} (hk : checkMb m = 0) (hcon : m.waiting.contains x = true) : (durMb m x).1.round = m.round ∧ (durMb m x).1.position = m.position ∧ (durMb m x).1.thawed = m.thawed ∧ (durMb m x).1.frozen = m.frozen := by
 cases hf : m.frozen with
 | true => rw [dur_held hk hcon hf]; exact ⟨rfl, rfl, rfl, hf⟩
 | false => rw [dur_free hk hcon hf]; exact ⟨rfl, rfl, rfl, hf⟩

theorem CutOk.dur {g : Gr} {T : Option Int} {t : Nat} (h : CutOk g T) (hg : GrOk g t) (ht : 0 < t) (hτ : ∀ τ, T = some τ → τ < g.clock) (i : Fin 3) (w : Int) (hw : 0 ≤ w) : CutOk (durG g i w) T := by
 by_cases h0 : (g.node i).waiting.length = 0
 ·rw [durG_nil h0]; exact h
 ·have t0 : 0 ≤ Int.tmod w (g.node i).waiting.length := Int.tmod_nonneg _ hw
  have hpos : (0 : Int) < ((g.node i).waiting.length : Int) := by have := Nat.pos_of_ne_zero h0; omega
  have t1 : Int.tmod w (g.node i).waiting.length < (g.node i).waiting.length := Int.tmod_lt_of_pos _ hpos
  obtain ⟨k, hk⟩ : ∃ k, (Int.tmod w (g.node i).waiting.length).toNat = k := ⟨_, rfl⟩
  have hkl : k < (g.node i).waiting.length := by omega
  have hgd : (g.node i).waiting.getD k 0 = (g.node i).waiting[k] := by simp [hkl]
  have hmem := List.getElem_mem hkl
  obtain ⟨x, hx⟩ : ∃ x, (g.node i).waiting[k] = x := ⟨_, rfl⟩
  rw [hx] at hgd hmem
  have hn := hg.node i
  have hin := hn.ok.wi x hmem
  have hlen := hn.len
  obtain ⟨y, rfl⟩ := Int.eq_ofNat_of_zero_le hin.1
  have hyl : y < (g.wr i).length := by omega
  have hneg : ¬((y : Int) < 0 ∨ (y : Int) ≥ ((g.wr i).length : Int)) := by omega
  have hgd : (g.node i).waiting.getD k 0 = (y : Int) := hgd
  rw [durG_go h0 hk hgd, if_neg hneg]
  have hgw : (g.wr i).getD (Int.toNat (y : Int)) noWr = (g.wr i)[y] := by simp [hyl]
  simp only [Int.toNat_natCast] at hgw ⊢
  simp only [hgw, ackG, upd_self, upd_upd]
  obtain ⟨d1, d2, d3, d4⟩ := dur_same (x := (y : Int)) hn.ok.check (List.contains_iff_mem.2 hmem)
  obtain ⟨hl, hwr⟩ := dur_writes hn hmem g.clock (by rw [hg.clock]; omega) hyl rfl
  refine h.node i ?_
  refine ⟨fun hr => ⟨d1.trans hr, d2, fun ht => d3.trans ht⟩, by rw [d1]; exact h.rn i, fun hf => by rw [d1, d3]; exact h.z i (d4.symm.trans hf), fun h1 h2 x hx hpx => ?_, fun hT hr => by rw [d3]; exact h.no hT i (d1.symm.trans hr), fun x hx => ?_, fun τ hτ x hx hpx => ?_, fun τ hT hth x hx hpx => ?_⟩
  ·have hx' : x < (g.wr i).length := by rw [← hl]; exact hx
   rw [d4] at h2
   rcases (hwr x hx').2 with e | ⟨e, _⟩
   ·rw [e]; exact h.fz i (d1.symm.trans h1) h2 x hx' (by rw [← d2]; exact hpx)
   ·exact absurd (h2.symm.trans e) (by decide)
  ·have hx' : x < (g.wr i).length := by rw [← hl]; exact hx
   rw [(hwr x hx').1]; exact h.iss i x hx'
  ·have hx' : x < (g.wr i).length := by rw [← hl]; exact hx
   rw [(hwr x hx').1]; exact ((h.so τ hτ).2 i).2.2.1 x hx' (by rw [← d2]; exact hpx)
  ·have hx' : x < (g.wr i).length := by rw [← hl]; exact hx
   rcases (hwr x hx').2 with e | ⟨_, e⟩
   ·rw [e]; exact ((h.so τ hT).2 i).2.2.2 (d3.symm.trans hth) x hx' (by rw [← d2]; exact hpx)
   ·rw [e]; exact .inr (hτ τ hT)

theorem CutOk.round {g : Gr} {T : Option Int} {t : Nat} (h : CutOk g T) (hg : GrOk g t) (h1 : 0 ≤ g.now) (h2 : g.now ≤ 1000000) (ht : t ≤ 1000000) : ∃ T', CutOk (roundG g) T' := by
 have hc : checkCo ⟨g.c.nodes, g.c.round, g.c.phase, g.c.deadline, g.c.positions, g.c.seen, g.c.valid⟩ = 0 := hg.c.ok
 have hz := checkCo_zero.1 hc
 have hr := hg.c.r
 have e := startCo_eq (now := g.now) (patience := 20) hc
 have e : startCo g.c g.now 20 = _ := e
 unfold roundG
 rw [if_neg (by omega)] at e
 by_cases hp : g.c.phase = 0
 ·rw [if_neg (by simp only [hp, ne_eq, not_true_eq_false, not_false_eq_true]), if_neg (by omega)] at e
  simp only [e]
  rw [if_neg (show ¬((0 : Int) ≠ 0) by decide)]
  refine ⟨none, ?_⟩
  refine ⟨fun i => ?_, h.z, fun m hm => ?_, fun m hm hk hn => ?_, fun m hm hk hn => ?_, fun m hm hk hn => ?_, fun i hi => ?_, h.iss, fun _ i hi => ?_, fun _ => ?_, fun hp => ?_, fun τ hτ => (by cases hτ), fun hv => (by cases hv)⟩
  ·have := h.rn i; simp only [sendG]; omega
  ·simp only [sendG]
   rcases List.mem_append.1 hm with hm | hm
   ·have := h.num m hm; omega
   ·have := (msgsTo_mem hm).2; omega
  ·simp only [sendG] at hn
   rcases List.mem_append.1 hm with hm | hm
   ·have := h.num m hm; omega
   ·have := (msgsTo_mem hm).1; omega
  ·simp only [sendG] at hn
   rcases List.mem_append.1 hm with hm | hm
   ·have := h.num m hm; omega
   ·have := (msgsTo_mem hm).1; omega
  ·simp only [sendG] at hn
   rcases List.mem_append.1 hm with hm | hm
   ·have := h.num m hm; omega
   ·have := (msgsTo_mem hm).1; omega
  ·simp only [sendG] at hi; have := h.rn i; omega
  ·simp only [sendG] at hi; have := h.rn i; omega
  ·refine ⟨rfl, by simp only [sendG]; omega, fun i hi => ?_⟩
   exfalso
   simp only [sendG, List.getD_eq_getElem?_getD, List.getElem?_replicate] at hi
   split at hi <;> simp at hi
  ·simp only [sendG] at hp; omega
 ·rw [if_pos hp] at e
  simp only [e]
  exact ⟨T, h.right⟩

theorem CutOk.step {g : Gr} {T : Option Int} {t : Nat} (h : CutOk g T) (hg : GrOk g t) (ht : t ≤ 900) {k n w : Int} (i : Fin 3) (hw : U8 w) (hnow : g.now ≤ 5 * t + 200) : ∃ T', CutOk (Sx.stepG g k i n w) T' := by
 have h0 := hg.now
 have hfl := hg.flen
 have hcl := hg.clock
 have e : IntKind.i64.wrap (g.clock + 1) = ((t + 1 : Nat) : Int) := by rw [hcl, wrap64 (by omega) (by omega)]; omega
 have h1 : GrOk { g with clock := IntKind.i64.wrap (g.clock + 1) } (t + 1) :=
  ⟨⟨hg.c.ok, hg.c.n, by have := hg.c.r; simp only; omega⟩, hg.node, hg.fl, by simp only; omega, ⟨h0.1, by simp only; omega⟩, e, hg.right, fun i => by have := hg.wlen i; simp only; omega, hg.upto⟩
 have h2 : CutOk { g with clock := IntKind.i64.wrap (g.clock + 1) } T :=
  ⟨h.rn, h.z, h.num, h.frz, h.thw, h.tho, h.fz, fun i x hx => by have := h.iss i x hx; simp only [e]; omega, h.no, h.p1, h.p2, fun τ hτ => ⟨by have := (h.so τ hτ).1; simp only [e]; omega, (h.so τ hτ).2⟩, h.va⟩
 have hτ : ∀ τ, T = some τ → τ < IntKind.i64.wrap (g.clock + 1) := fun τ hτ => by have := (h.so τ hτ).1; rw [e]; omega
 unfold Sx.stepG
 simp only
 split
 ·exact ⟨T, h2.issue h1 (by omega) i⟩
 ·split
  ·exact ⟨T, h2.dur h1 (by omega) hτ i w hw.1⟩
  ·split
   ·exact h2.round h1 h0.1 (by simp only; omega) (by omega)
   ·split
    ·exact ⟨T, h2.tick h1 hτ (by omega) n w hw (by simp only; omega) (by simp only; omega)⟩
    ·exact h2.flight h1 hτ k w hw.1

theorem beg_cut : CutOk begG none := by
 refine ⟨fun _ => Int.le_refl _, fun i h => (by cases h), fun m hm => (by cases hm), fun m hm => (by cases hm), fun m hm => (by cases hm), fun m hm => (by cases hm), fun i _ h => (by cases h), fun i x hx => absurd hx (Nat.not_lt_zero _), fun _ i _ => .inr rfl, fun h => absurd h (by decide), fun h => absurd h (by decide), fun τ h => (by cases h), fun h => (by cases h)⟩
structure ConsOk (g : Gr) (p : List Int) : Prop where
 plen : p.length = 3
 cut : ∀ a b : Fin 3, ∀ i k : Nat, (hi : i < (g.wr a).length) → (hk : k < (g.wr b).length) → (k : Int) < p.getD b.val 0 → p.getD a.val 0 ≤ i → ¬(0 < (g.wr a)[i].acked ∧ (g.wr a)[i].acked < (g.wr b)[k].issued)
 le : ∀ a : Fin 3, p.getD a.val 0 ≤ (g.wr a).length

theorem CutOk.cons {g : Gr} {T : Option Int} {t : Nat} (h : CutOk g T) (hg : GrOk g t) (hv : g.c.valid = true) : ConsOk g g.c.positions := by
 obtain ⟨v1, v2⟩ := h.va hv
 cases hT : T with
 | none => exact absurd hT v1
 | some τ =>
  obtain ⟨s1, s2⟩ := h.so τ hT
  have hz := checkCo_zero.1 (show checkCo ⟨g.c.nodes, g.c.round, g.c.phase, g.c.deadline, g.c.positions, g.c.seen, g.c.valid⟩ = 0 from hg.c.ok)
  refine ⟨by have := hg.c.n; have := hz.2.2.2.2.1; omega, fun a b i k hi hk hkb hai => ?_, fun a => ?_⟩
  ·obtain ⟨_, a2, _, a4⟩ := s2 a
   obtain ⟨_, b2, b3, _⟩ := s2 b
   have x1 := a4 (v2 a) i hi (by rw [← a2]; exact hai)
   have x2 := b3 k hk (by rw [← b2]; exact hkb)
   omega
  ·obtain ⟨_, a2, _⟩ := s2 a
   have := (hg.node a).ok.p; have := (hg.node a).len
   omega
end Sx
end
section
/- Layer 21: a round without disturbance (no program in sight). -/
namespace Sx
open Go

def reqM (r k : Int) (i : Fin 3) : Msg := ⟨k, 3, (i.val : Int), r, 0, 0, [], []⟩
def ansM (r k : Int) (i : Fin 3) (v : Int) : Msg := ⟨k, (i.val : Int), 3, r, v, 0, [], []⟩
def flM (p r : Int) (W : Fin 3 → Int) (s : Fin 3 → Nat) (i : Fin 3) : List Msg :=
 if s i = 0 then [reqM r (if p = 1 then 1 else 3) i] else if s i = 1 then [if p = 1 then ansM r 2 i (W i) else ansM r 4 i 1] else []
def fl3 (e : Fin 3 → List Msg) : List Msg := e 0 ++ (e 1 ++ e 2)

theorem flM_len (p r : Int) (W : Fin 3 → Int) (s : Fin 3 → Nat) (i : Fin 3) : (flM p r W s i).length ≤ 1 := by
 unfold flM
 split
 ·exact Nat.le_refl _
 ·split
  ·exact Nat.le_refl _
  ·exact Nat.zero_le _
theorem flM_upd (p r : Int) (W : Fin 3 → Int) (s : Fin 3 → Nat) (i : Fin 3) (v : Nat) : flM p r W (upd s i v) = upd (flM p r W s) i (flM p r W (upd s i v) i) := by
 funext j
 by_cases hj : j = i
 ·subst hj; rw [upd_self]
 ·rw [upd_ne hj]
  unfold flM
  rw [upd_ne hj]

theorem fl3_out {e : Fin 3 → List Msg} {i : Fin 3} {x : Msg} (h : e i = [x]) : (fl3 e).Perm (x :: fl3 (upd e i [])) := by
 unfold fl3
 match i with
 | 0 => rw [h, upd_self, upd_ne (show (1 : Fin 3) ≠ 0 by decide), upd_ne (show (2 : Fin 3) ≠ 0 by decide)]; exact List.Perm.refl _
 | 1 => rw [h, upd_self, upd_ne (show (0 : Fin 3) ≠ 1 by decide), upd_ne (show (2 : Fin 3) ≠ 1 by decide)]; exact List.perm_middle
 | 2 =>
  rw [h, upd_self, upd_ne (show (0 : Fin 3) ≠ 2 by decide), upd_ne (show (1 : Fin 3) ≠ 2 by decide), ← List.append_assoc, ← List.append_assoc]
  exact List.perm_middle
theorem fl3_in (e : Fin 3 → List Msg) (i : Fin 3) (n : List Msg) : (fl3 (upd e i []) ++ n).Perm (fl3 (upd e i n)) := by
 unfold fl3
 match i with
 | 0 =>
  rw [upd_self, upd_self, upd_ne (show (1 : Fin 3) ≠ 0 by decide), upd_ne (show (2 : Fin 3) ≠ 0 by decide), upd_ne (show (1 : Fin 3) ≠ 0 by decide), upd_ne (show (2 : Fin 3) ≠ 0 by decide)]
  exact List.perm_append_comm
 | 1 =>
  rw [upd_self, upd_self, upd_ne (show (0 : Fin 3) ≠ 1 by decide), upd_ne (show (2 : Fin 3) ≠ 1 by decide), upd_ne (show (0 : Fin 3) ≠ 1 by decide), upd_ne (show (2 : Fin 3) ≠ 1 by decide), List.nil_append, List.append_assoc]
  exact List.Perm.append_left _ List.perm_append_comm
 | 2 =>
  rw [upd_self, upd_self, upd_ne (show (0 : Fin 3) ≠ 2 by decide), upd_ne (show (1 : Fin 3) ≠ 2 by decide), upd_ne (show (0 : Fin 3) ≠ 2 by decide), upd_ne (show (1 : Fin 3) ≠ 2 by decide), List.append_nil, List.append_assoc]

theorem fl3_take {e : Fin 3 → List Msg} (hone : ∀ i, (e i).length ≤ 1) {l : List Msg} (h : l.Perm (fl3 e)) {k : Nat} (hk : k < l.length) :
  ∃ i, e i = [l[k]] ∧ ∀ n, (l.take k ++ l.drop (k + 1) ++ n).Perm (fl3 (upd e i n)) := by
 have hm : l[k] ∈ fl3 e := h.mem_iff.1 (List.getElem_mem hk)
 have hi : ∃ i, l[k] ∈ e i := by
  simp only [fl3, List.mem_append] at hm
  rcases hm with h | h | h
  ·exact ⟨_, h⟩
  ·exact ⟨_, h⟩
  ·exact ⟨_, h⟩
 obtain ⟨i, hi⟩ := hi
 have he : e i = [l[k]] := by
  have := hone i
  match h : e i with
  | [] => rw [h] at hi; cases hi
  | [x] => rw [h] at hi; rw [List.mem_singleton.1 hi]
  | x :: y :: r => rw [h] at this; simp at this
 refine ⟨i, he, fun n => ?_⟩
 have h1 : l.Perm (l[k] :: (l.take k ++ l.drop (k + 1))) := by
  have e : l = l.take k ++ l[k] :: l.drop (k + 1) := by rw [List.getElem_cons_drop, List.take_append_drop]
  exact (List.Perm.of_eq e).trans List.perm_middle
 have h2 : (l.take k ++ l.drop (k + 1)).Perm (fl3 (upd e i [])) := (h1.symm.trans (h.trans (fl3_out he))).cons_inv
 exact (List.Perm.append_right n h2).trans (fl3_in e i n)

def seenL (s : Fin 3 → Nat) : List Bool := [decide (s 0 = 2), decide (s 1 = 2), decide (s 2 = 2)]
theorem seenL_set (s : Fin 3 → Nat) (i : Fin 3) : (seenL s).set i.val true = seenL (upd s i 2) := by
 match i with
 | 0 => rfl
 | 1 => rfl
 | 2 => rfl
theorem seenL_at (s : Fin 3 → Nat) (i : Fin 3) (d : Bool) : (seenL s).getD i.val d = decide (s i = 2) := by
 match i with
 | 0 => rfl
 | 1 => rfl
 | 2 => rfl
theorem seenL_all (s : Fin 3 → Nat) : (seenL s).all id = true ↔ ∀ i, s i = 2 := by
 simp only [seenL, List.all_cons, List.all_nil, Bool.and_true, Bool.and_eq_true, id, decide_eq_true_eq]
 refine ⟨fun h i => ?_, fun h => ⟨h 0, h 1, h 2⟩⟩
 match i with
 | 0 => exact h.1
 | 1 => exact h.2.1
 | 2 => exact h.2.2
theorem seenL_same {s s' : Fin 3 → Nat} (h : ∀ i, s' i = 2 ↔ s i = 2) : seenL s' = seenL s := by
 have e : ∀ i, decide (s' i = 2) = decide (s i = 2) := fun i => decide_eq_decide.2 (h i)
 simp only [seenL, e]

def wgt (s : Fin 3 → Nat) : Nat := (2 - s 0) + (2 - s 1) + (2 - s 2)
theorem wgt_upd (s : Fin 3 → Nat) (i : Fin 3) (v : Nat) : wgt (upd s i v) + (2 - s i) = wgt s + (2 - v) := by
 unfold wgt
 match i with
 | 0 => rw [upd_self, upd_ne (show (1 : Fin 3) ≠ 0 by decide), upd_ne (show (2 : Fin 3) ≠ 0 by decide)]; omega
 | 1 => rw [upd_self, upd_ne (show (0 : Fin 3) ≠ 1 by decide), upd_ne (show (2 : Fin 3) ≠ 1 by decide)]; omega
 | 2 => rw [upd_self, upd_ne (show (0 : Fin 3) ≠ 2 by decide), upd_ne (show (1 : Fin 3) ≠ 2 by decide)]; omega
structure RunOk (g : Gr) (t : Nat) (p : Int) (s : Fin 3 → Nat) (r : Int) (W : Fin 3 → Int) : Prop where
 ok : GrOk g t
 t0 : 0 < t ∧ t ≤ 1000
 rd : g.c.round = r
 r1 : 1 ≤ r
 ph : g.c.phase = p
 pp : p = 1 ∨ p = 2
 dl : g.now < g.c.deadline
 fl : g.flight.Perm (fl3 (flM p r W s))
 seen : g.c.seen = seenL s
 s2 : ∀ i, s i ≤ 2
 some : ∃ i, s i < 2
 wl : ∀ i, ((g.wr i).length : Int) = W i
 pos : ∀ i : Fin 3, (p = 2 ∨ s i = 2) → g.c.positions.getD i.val 0 = W i
 nd0 : ∀ i, p = 1 → s i = 0 → (g.node i).round < r
 nd1 : ∀ i, (p = 1 ∧ s i ≠ 0) ∨ (p = 2 ∧ s i = 0) → (g.node i).round = r ∧ (g.node i).frozen = true ∧ g.now < (g.node i).upto
structure DoneOk (g : Gr) (t : Nat) (W : Fin 3 → Int) : Prop where
 ok : GrOk g t
 fl : g.flight = []
 va : g.c.valid = true
 pos : ∀ i : Fin 3, g.c.positions.getD i.val 0 = W i
def SucOk (g : Gr) (t : Nat) (W : Fin 3 → Int) (n : Nat) : Prop :=
 (n = 0 ∧ DoneOk g t W) ∨ ∃ p s r, RunOk g t p s r W ∧ n = (if p = 1 then 6 else 0) + wgt s

theorem recv_req (g : Gr) (r k : Int) (i : Fin 3) : recvG g (reqM r k i) = obeyG g (reqM r k i) i := by
 unfold recvG
 match i with
 | 0 => rw [if_neg (show ¬(reqM r k 0).to = 3 by show ¬(0 : Int) = 3; decide), if_pos (show (reqM r k 0).to = 0 from rfl)]
 | 1 => rw [if_neg (show ¬(reqM r k 1).to = 3 by show ¬(1 : Int) = 3; decide), if_neg (show ¬(reqM r k 1).to = 0 by show ¬(1 : Int) = 0; decide), if_pos (show (reqM r k 1).to = 1 from rfl)]
 | 2 => rw [if_neg (show ¬(reqM r k 2).to = 3 by show ¬(2 : Int) = 3; decide), if_neg (show ¬(reqM r k 2).to = 0 by show ¬(2 : Int) = 0; decide), if_neg (show ¬(reqM r k 2).to = 1 by show ¬(2 : Int) = 1; decide), if_pos (show (reqM r k 2).to = 2 from rfl)]
theorem recv_ans (g : Gr) (r k : Int) (i : Fin 3) (v : Int) : recvG g (ansM r k i v) = sendG { g with c := (collectCo g.c g.now (ansM r k i v)).1 } (collectCo g.c g.now (ansM r k i v)).2 := if_pos rfl

theorem obey_frz {m : Mb} (hc : checkMb m = 0) {r : Int} (h1 : 1 ≤ r) (h2 : r ≤ 1073741824) (hr : m.round < r) {now : Int} (n0 : 0 ≤ now) (n1 : now ≤ 1000000) (i : Fin 3) :
  obeyMb m now 12 (reqM r 1 i) = ({ m with round := r, position := m.issued, frozen := true, upto := now + 12 }, [], [ansM r 2 i m.issued]) := by
 unfold obeyMb
 have e : min (clampT 0 now + clampT 1 12) 1073741824 = now + 12 := by simp only [clampT]; omega
 rw [if_neg (show ¬(checkMb m ≠ 0 ∨ (reqM r 1 i).number < 1 ∨ (reqM r 1 i).number > 1073741824) by show ¬(checkMb m ≠ 0 ∨ r < 1 ∨ r > 1073741824); omega), if_pos (show (reqM r 1 i).kind = 1 from rfl), if_pos (show (reqM r 1 i).number > m.round from hr), e]
 rfl
theorem obey_thw {m : Mb} (hc : checkMb m = 0) {r : Int} (h1 : 1 ≤ r) (h2 : r ≤ 1073741824) (hr : m.round = r) (hf : m.frozen = true) {now : Int} (n0 : 0 ≤ now) (n1 : now ≤ 1000000) (hu : now < m.upto) (i : Fin 3) :
  obeyMb m now 12 (reqM r 3 i) = ({ m with thawed := m.round, frozen := false, held := [] }, m.held, [ansM r 4 i 1]) := by
 unfold obeyMb
 have e : clampT 0 now = now := by simp only [clampT]; omega
 rw [if_neg (show ¬(checkMb m ≠ 0 ∨ (reqM r 3 i).number < 1 ∨ (reqM r 3 i).number > 1073741824) by show ¬(checkMb m ≠ 0 ∨ r < 1 ∨ r > 1073741824); omega), if_neg (show ¬(reqM r 3 i).kind = 1 by show ¬(3 : Int) = 1; decide), if_pos (show (reqM r 3 i).kind = 3 from rfl), if_pos (show (reqM r 3 i).number = m.round from hr.symm)]
 unfold endMb
 rw [if_neg (by rw [hf]; decide), e, if_pos hu]
 rfl


theorem coll_frz {c : Co} (hc : checkCo c = 0) (hp : c.phase = 1) (hn : c.nodes = 3) {now : Int} (hd : now < c.deadline) {v : Int} (v0 : 0 ≤ v) (v1 : v ≤ 4096) {r : Int} (hr : c.round = r) {s : Fin 3 → Nat} (hs : c.seen = seenL s) (i : Fin 3) (hi : s i ≠ 2) :
  collectCo c now (ansM r 2 i v) = if ∀ j, upd s i 2 j = 2 then ({ c with positions := c.positions.set i.val v, phase := 2, seen := seenL fun _ => 0 }, [reqM r 3 0, reqM r 3 1, reqM r 3 2])
   else ({ c with positions := c.positions.set i.val v, seen := seenL (upd s i 2) }, []) := by
 subst hr
 have hi3 := i.isLt
 have hg : c.seen.getD (ansM c.round 2 i v).frm.toNat true = false := by
  show c.seen.getD i.val true = false
  rw [hs, seenL_at]; exact decide_eq_false hi
 have ha : (c.seen.set (ansM c.round 2 i v).frm.toNat true) = seenL (upd s i 2) := by
  show c.seen.set i.val true = _
  rw [hs, seenL_set]
 rw [coll_go (by rintro (h | h | h | h | h | h); exact h hc; omega; omega; exact absurd h (by show ¬(i.val : Int) < 0; omega); exact absurd h (by show ¬(i.val : Int) ≥ c.nodes; omega); exact h rfl) hg rfl]
 unfold collGo
 rw [if_pos (show (ansM c.round 2 i v).kind = 2 from rfl), if_neg (show ¬(c.phase ≠ 1 ∨ (ansM c.round 2 i v).value < 0 ∨ (ansM c.round 2 i v).value > 4096 ∨ false = true) by
  rintro (h | h | h | h)
  ·exact h hp
  ·exact absurd h (by show ¬v < 0; omega)
  ·exact absurd h (by show ¬v > 4096; omega)
  ·cases h), ha]
 by_cases hall : ∀ j, upd s i 2 j = 2
 ·rw [if_pos hall, if_pos ((seenL_all _).2 hall), hn]
  rfl
 ·rw [if_neg hall, if_neg (fun h => hall ((seenL_all _).1 h))]
  rw [hn]
  rfl
theorem coll_thw {c : Co} (hc : checkCo c = 0) (hp : c.phase = 2) (hn : c.nodes = 3) {now : Int} (hd : now < c.deadline) {r : Int} (hr : c.round = r) {s : Fin 3 → Nat} (hs : c.seen = seenL s) (i : Fin 3) :
  collectCo c now (ansM r 4 i 1) = if ∀ j, upd s i 2 j = 2 then ({ c with seen := seenL (upd s i 2), phase := 0, valid := true }, [])
   else ({ c with seen := seenL (upd s i 2) }, []) := by
 subst hr
 have hi3 := i.isLt
 have ha : (c.seen.set (ansM c.round 4 i 1).frm.toNat true) = seenL (upd s i 2) := by
  show c.seen.set i.val true = _
  rw [hs, seenL_set]
 rw [collectCo, if_neg (by rintro (h | h | h | h | h | h); exact h hc; omega; omega; exact absurd h (by show ¬(i.val : Int) < 0; omega); exact absurd h (by show ¬(i.val : Int) ≥ c.nodes; omega); exact h rfl),
  if_neg (show ¬(ansM c.round 4 i 1).kind = 2 by show ¬(4 : Int) = 2; decide), if_pos (show (ansM c.round 4 i 1).kind = 4 from rfl), if_neg (show ¬(c.phase ≠ 2) from fun h => h hp), if_neg (show ¬((ansM c.round 4 i 1).value ≠ 1) from fun h => h rfl), ha]
 by_cases hall : ∀ j, upd s i 2 j = 2
 ·rw [if_pos hall, if_pos ((seenL_all _).2 hall)]
 ·rw [if_neg hall, if_neg (fun h => hall ((seenL_all _).1 h))]

theorem all2_wgt {s : Fin 3 → Nat} (h : ∀ i, s i = 2) : wgt s = 0 := by simp only [wgt, h]
theorem set_at {ps : List Int} {i j : Fin 3} {v : Int} (h : i.val < ps.length) : (ps.set i.val v).getD j.val 0 = if j = i then v else ps.getD j.val 0 := by
 by_cases hj : j = i
 ·subst hj; rw [if_pos rfl]; simp [h]
 ·rw [if_neg hj]
  have : i.val ≠ j.val := fun h => hj (Fin.ext h.symm)
  simp [List.getElem?_set_ne this]

theorem RunOk.fl_len {g : Gr} {t : Nat} {p : Int} {s : Fin 3 → Nat} {r : Int} {W : Fin 3 → Int} (h : RunOk g t p s r W) : 0 < g.flight.length ∧ g.flight.length ≤ 3 := by
 have e := h.fl.length_eq
 have l0 := flM_len p r W s 0
 have l1 := flM_len p r W s 1
 have l2 := flM_len p r W s 2
 simp only [fl3, List.length_append] at e
 refine ⟨?_, by omega⟩
 obtain ⟨i, hi⟩ := h.some
 have : 0 < (flM p r W s i).length := by
  unfold flM
  by_cases h0 : s i = 0
  ·rw [if_pos h0]; exact Nat.one_pos
  ·rw [if_neg h0, if_pos (by omega)]; exact Nat.one_pos
 match i with
 | 0 => omega
 | 1 => omega
 | 2 => omega

theorem RunOk.step {g : Gr} {t : Nat} {p : Int} {s : Fin 3 → Nat} {r : Int} {W : Fin 3 → Int} (h : RunOk g t p s r W) {w : Int} (hw : 0 ≤ w) :
  ∃ n, SucOk (flightG g 3 w) t W n ∧ (if p = 1 then 6 else 0) + wgt s = n + 1 := by
 obtain ⟨f0, f3⟩ := h.fl_len
 have hG : GrOk (flightG g 3 w) t := h.ok.flight h.t0.1 3 w hw (by omega)
 have t0 : 0 ≤ Int.tmod w g.flight.length := Int.tmod_nonneg _ hw
 have t1 : Int.tmod w g.flight.length < g.flight.length := Int.tmod_lt_of_pos _ (by omega)
 obtain ⟨k, hk⟩ : ∃ k, (Int.tmod w g.flight.length).toNat = k := ⟨_, rfl⟩
 have hkl : k < g.flight.length := by omega
 have hgd : g.flight.getD k noMsg = g.flight[k] := by simp [hkl]
 rw [flightG_go (by omega) hk hgd, if_neg (by decide), if_neg (by decide)] at hG ⊢
 obtain ⟨i, hi, hperm⟩ := fl3_take (flM_len p r W s) h.fl hkl
 generalize g.flight[k] = m at hi hG
 generalize g.flight.take k ++ g.flight.drop (k + 1) = rest at hperm hG
 have hc : checkCo g.c = 0 := h.ok.c.ok
 have hn : g.c.nodes = 3 := h.ok.c.n
 have hz := checkCo_zero.1 (show checkCo ⟨g.c.nodes, g.c.round, g.c.phase, g.c.deadline, g.c.positions, g.c.seen, g.c.valid⟩ = 0 from hc)
 have hpl : g.c.positions.length = 3 := by have := hz.2.2.2.2.1; omega
 have hrr : r ≤ 1073741824 := by have := hz.2.1.2; rw [h.rd] at this; exact this
 have hnd := h.ok.node i
 have hno := h.ok.now
 have ht := h.t0
 have hwi : 0 ≤ W i ∧ W i ≤ 4096 := by have := h.wl i; have := h.ok.wlen i; omega
 have his : (g.node i).issued = W i := by rw [hnd.len, h.wl]
 have hw2 := wgt_upd s i 2
 have hw1 := wgt_upd s i 1
 have hs2 := h.s2 i
 have hF2 : (flM p r W (upd s i 2) i) = [] := by unfold flM; rw [upd_self, if_neg (by decide), if_neg (by decide)]
 have hI : i.val < g.c.positions.length := by rw [hpl]; exact i.isLt
 by_cases s0 : s i = 0
 ·have hm : m = reqM r (if p = 1 then 1 else 3) i := by
   unfold flM at hi; rw [if_pos s0] at hi; exact (List.singleton_inj.1 hi).symm
  subst hm
  have hs1 : ∀ j, upd s i 1 j = 2 ↔ s j = 2 := fun j => by
   by_cases hj : j = i
   ·subst hj; rw [upd_self]; omega
   ·rw [upd_ne hj]
  rcases h.pp with hp | hp
  ·subst hp
   rw [if_pos rfl] at hG ⊢
   rw [recv_req, obeyG] at hG ⊢
   have eo := obey_frz hnd.ok.check h.r1 hrr (h.nd0 i rfl s0) hno.1 (by omega) i (now := g.now)
   simp only [eo] at hG ⊢
   refine ⟨6 + wgt (upd s i 1), .inr ⟨1, upd s i 1, r, ⟨hG, h.t0, h.rd, h.r1, h.ph, .inl rfl, h.dl, ?_, ?_, fun j => ?_, ⟨i, by rw [upd_self]; decide⟩, fun j => ?_, fun j hj => ?_, fun j _ hj => ?_, fun j hj => ?_⟩, rfl⟩, by show 6 + wgt s = _; omega⟩
   ·rw [flM_upd]
    have e : flM 1 r W (upd s i 1) i = [ansM r 2 i (g.node i).issued] := by
     unfold flM; rw [upd_self, if_neg (by decide), if_pos rfl, if_pos rfl, his]
    rw [e]; exact hperm _
   ·rw [seenL_same hs1]; exact h.seen
   ·by_cases hj : j = i
    ·subst hj; rw [upd_self]; decide
    ·rw [upd_ne hj]; exact h.s2 j
   ·simp only [sendG, ackG, ackW, upd_self]
    by_cases hj : j = i
    ·subst hj; rw [upd_self]; exact h.wl j
    ·rw [upd_ne hj]; exact h.wl j
   ·exact h.pos j (hj.imp id fun hj => (hs1 j).1 hj)
   ·have hji : j ≠ i := fun e => by rw [e, upd_self] at hj; cases hj
    rw [upd_ne hji] at hj
    simp only [sendG, ackG]
    rw [upd_ne hji]; exact h.nd0 j rfl hj
   ·simp only [sendG, ackG]
    by_cases hji : j = i
    ·subst hji; rw [upd_self]; exact ⟨rfl, rfl, by simp only; omega⟩
    ·rw [upd_ne hji]
     rw [upd_ne hji] at hj
     exact h.nd1 j hj
  ·subst hp
   rw [if_neg (by decide)] at hG ⊢
   rw [recv_req, obeyG] at hG ⊢
   obtain ⟨n1, n2, n3⟩ := h.nd1 i (.inr ⟨rfl, s0⟩)
   have eo := obey_thw hnd.ok.check h.r1 hrr n1 n2 hno.1 (by omega) n3 i (now := g.now)
   simp only [eo] at hG ⊢
   refine ⟨wgt (upd s i 1), .inr ⟨2, upd s i 1, r, ⟨hG, h.t0, h.rd, h.r1, h.ph, .inr rfl, h.dl, ?_, ?_, fun j => ?_, ⟨i, by rw [upd_self]; decide⟩, fun j => ?_, fun j hj => ?_, fun j h1 => absurd h1 (by decide), fun j hj => ?_⟩, by rw [if_neg (by decide)]; omega⟩, by rw [if_neg (by decide)]; omega⟩
   ·rw [flM_upd]
    have e : flM 2 r W (upd s i 1) i = [ansM r 4 i 1] := by
     unfold flM; rw [upd_self, if_neg (by decide), if_pos rfl, if_neg (by decide)]
    rw [e]; exact hperm _
   ·rw [seenL_same hs1]; exact h.seen
   ·by_cases hj : j = i
    ·subst hj; rw [upd_self]; decide
    ·rw [upd_ne hj]; exact h.s2 j
   ·simp only [sendG, ackG, upd_self]
    by_cases hj : j = i
    ·subst hj; rw [upd_self, ackW_len]; exact h.wl j
    ·rw [upd_ne hj]; exact h.wl j
   ·exact h.pos j (hj.imp id fun hj => (hs1 j).1 hj)
   ·have hj0 : upd s i 1 j = 0 := (hj.resolve_left fun h => absurd h.1 (by decide)).2
    have hji : j ≠ i := fun e => by rw [e, upd_self] at hj0; cases hj0
    rw [upd_ne hji] at hj0
    simp only [sendG, ackG]
    rw [upd_ne hji]; exact h.nd1 j (.inr ⟨rfl, hj0⟩)
 ·have s1 : s i = 1 := by
   have : flM p r W s i ≠ [] := by rw [hi]; exact List.cons_ne_nil _ _
   unfold flM at this
   rw [if_neg s0] at this
   by_cases h1 : s i = 1
   ·exact h1
   ·rw [if_neg h1] at this; exact absurd rfl this
  have hm : m = if p = 1 then ansM r 2 i (W i) else ansM r 4 i 1 := by
   unfold flM at hi; rw [if_neg s0, if_pos s1] at hi; exact (List.singleton_inj.1 hi).symm
  subst hm
  have hrest : rest.Perm (fl3 (flM p r W (upd s i 2))) := by
   have := hperm []
   rw [List.append_nil] at this
   rw [flM_upd, hF2]; exact this
  have hsome : (¬∀ j, upd s i 2 j = 2) → ∃ j, upd s i 2 j < 2 := fun hne => by
   refine Classical.byContradiction fun hno => hne fun j => ?_
   have h1 : ¬upd s i 2 j < 2 := fun h => hno ⟨j, h⟩
   have h2 : upd s i 2 j ≤ 2 := by
    by_cases hj : j = i
    ·subst hj; rw [upd_self]; exact Nat.le_refl _
    ·rw [upd_ne hj]; exact h.s2 j
   omega
  have hs2' : ∀ j, upd s i 2 j ≤ 2 := fun j => by
   by_cases hj : j = i
   ·subst hj; rw [upd_self]; exact Nat.le_refl _
   ·rw [upd_ne hj]; exact h.s2 j
  have hnil : (∀ j, upd s i 2 j = 2) → rest = [] := fun hall => by
   have e : fl3 (flM p r W (upd s i 2)) = [] := by
    have e1 : ∀ j, flM p r W (upd s i 2) j = [] := fun j => by unfold flM; rw [hall j, if_neg (by decide), if_neg (by decide)]
    simp only [fl3, e1]; rfl
   rw [e] at hrest
   exact hrest.eq_nil
  rcases h.pp with hp | hp
  ·subst hp
   rw [if_pos rfl] at hG ⊢
   rw [recv_ans] at hG ⊢
   have ec := coll_frz hc h.ph hn h.dl hwi.1 hwi.2 h.rd h.seen i (by omega)
   by_cases hall : ∀ j, upd s i 2 j = 2
   ·rw [if_pos hall] at ec
    simp only [ec] at hG ⊢
    have e0 := all2_wgt hall
    refine ⟨6, .inr ⟨2, fun _ => 0, r, ⟨hG, h.t0, h.rd, h.r1, rfl, .inr rfl, h.dl, ?_, rfl, fun j => Nat.zero_le _, ⟨0, by decide⟩, h.wl, fun j _ => ?_, fun j h1 => absurd h1 (by decide), fun j _ => ?_⟩, rfl⟩, by show 6 + wgt s = _; omega⟩
    ·rw [hnil hall]; exact List.Perm.refl _
    ·show (g.c.positions.set i.val (W i)).getD j.val 0 = W j
     rw [set_at hI]
     by_cases hj : j = i
     ·subst hj; rw [if_pos rfl]
     ·rw [if_neg hj]
      have := hall j
      rw [upd_ne hj] at this
      exact h.pos j (.inr this)
    ·refine h.nd1 j (.inl ⟨rfl, ?_⟩)
     have := hall j
     by_cases hj : j = i
     ·subst hj; omega
     ·rw [upd_ne hj] at this; omega
   ·rw [if_neg hall] at ec
    simp only [ec] at hG ⊢
    refine ⟨6 + wgt (upd s i 2), .inr ⟨1, upd s i 2, r, ⟨hG, h.t0, h.rd, h.r1, h.ph, .inl rfl, h.dl, ?_, rfl, hs2', hsome hall, h.wl, fun j hj => ?_, fun j h1 hj => ?_, fun j hj => ?_⟩, rfl⟩, by show 6 + wgt s = _; omega⟩
    ·show (rest ++ []).Perm _
     rw [List.append_nil]; exact hrest
    ·show (g.c.positions.set i.val (W i)).getD j.val 0 = W j
     have hj := hj.resolve_left (by decide)
     rw [set_at hI]
     by_cases hji : j = i
     ·subst hji; rw [if_pos rfl]
     ·rw [if_neg hji]
      rw [upd_ne hji] at hj
      exact h.pos j (.inr hj)
    ·have hji : j ≠ i := fun e => by rw [e, upd_self] at hj; cases hj
     rw [upd_ne hji] at hj
     exact h.nd0 j rfl hj
    ·refine h.nd1 j (.inl ⟨rfl, ?_⟩)
     by_cases hji : j = i
     ·subst hji; omega
     ·rw [upd_ne hji] at hj
      exact (hj.resolve_right fun h => absurd h.1 (by decide)).2
  ·subst hp
   rw [if_neg (by decide)] at hG ⊢
   rw [recv_ans] at hG ⊢
   have ec := coll_thw hc h.ph hn h.dl h.rd h.seen i
   by_cases hall : ∀ j, upd s i 2 j = 2
   ·rw [if_pos hall] at ec
    simp only [ec] at hG ⊢
    have e0 := all2_wgt hall
    refine ⟨0, .inl ⟨rfl, hG, ?_, rfl, fun j => h.pos j (.inl rfl)⟩, by rw [if_neg (by decide)]; omega⟩
    show rest ++ [] = []
    rw [hnil hall]; rfl
   ·rw [if_neg hall] at ec
    simp only [ec] at hG ⊢
    refine ⟨wgt (upd s i 2), .inr ⟨2, upd s i 2, r, ⟨hG, h.t0, h.rd, h.r1, h.ph, .inr rfl, h.dl, ?_, rfl, hs2', hsome hall, h.wl, fun j hj => h.pos j (.inl rfl), fun j h1 => absurd h1 (by decide), fun j hj => ?_⟩, by rw [if_neg (by decide)]; omega⟩, by rw [if_neg (by decide)]; omega⟩
    ·show (rest ++ []).Perm _
     rw [List.append_nil]; exact hrest
    ·have hj0 : upd s i 2 j = 0 := (hj.resolve_left fun h => absurd h.1 (by decide)).2
     have hji : j ≠ i := fun e => by rw [e, upd_self] at hj0; cases hj0
     rw [upd_ne hji] at hj0
     exact h.nd1 j (.inr ⟨rfl, hj0⟩)

theorem SucOk.ok {g : Gr} {t : Nat} {W : Fin 3 → Int} {n : Nat} (h : SucOk g t W n) : GrOk g t := by
 rcases h with ⟨_, h⟩ | ⟨p, s, r, h, _⟩
 ·exact h.ok
 ·exact h.ok
theorem SucOk.fl {g : Gr} {t : Nat} {W : Fin 3 → Int} {n : Nat} (h : SucOk g t W n) : g.flight.length ≤ 3 ∧ (0 < g.flight.length → 0 < n) ∧ (g.flight.length = 0 → DoneOk g t W) := by
 rcases h with ⟨hn, h⟩ | ⟨p, s, r, h, hn⟩
 ·rw [h.fl]; exact ⟨by decide, fun h => absurd h (by decide), fun _ => h⟩
 ·obtain ⟨f0, f3⟩ := h.fl_len
  obtain ⟨n', _, e⟩ := h.step (w := 0) (Int.le_refl _)
  exact ⟨f3, fun _ => by omega, fun h => absurd h (by omega)⟩
theorem SucOk.step {g : Gr} {t : Nat} {W : Fin 3 → Int} {n : Nat} (h : SucOk g t W n) (hf : 0 < g.flight.length) {w : Int} (hw : 0 ≤ w) : ∃ n', n = n' + 1 ∧ SucOk (flightG g 3 w) t W n' := by
 rcases h with ⟨hn, h⟩ | ⟨p, s, r, h, hn⟩
 ·rw [h.fl] at hf; exact absurd hf (by decide)
 ·obtain ⟨n', h1, e⟩ := h.step hw
  exact ⟨n', by omega, h1⟩
end Sx
end
section
/- Layer 21: a round without disturbance: how it begins (no program in sight). -/
namespace Sx
open Go

theorem coll_dl (c : Co) (now : Int) (m : Msg) : (collectCo c now m).1.deadline = c.deadline := by
 unfold collectCo
 repeat' split
 all_goals rfl
theorem expire_dl (c : Co) (now : Int) : (expireCo c now).1.deadline = c.deadline ∧ (expireCo c now).1.round = c.round := by
 unfold expireCo
 split
 ·exact ⟨rfl, rfl⟩
 ·exact ⟨rfl, rfl⟩
theorem recv_dl (g : Gr) (m : Msg) : (recvG g m).c.deadline = g.c.deadline := by
 unfold recvG
 split
 ·exact coll_dl _ _ _
 ·split
  ·rfl
  ·split
   ·rfl
   ·split
    ·rfl
    ·rfl
theorem flight_dl (g : Gr) (k w : Int) : (flightG g k w).c.deadline = g.c.deadline := by
 unfold flightG
 split
 ·rfl
 ·simp only
  split
  ·split <;> rfl
  ·rw [recv_dl]; split <;> rfl
theorem dur_c (g : Gr) (i : Fin 3) (w : Int) : (durG g i w).c = g.c := by
 unfold durG
 simp only
 split
 ·rfl
 ·split <;> rfl
theorem start_dl {c : Co} {now : Int} (hne : (startCo c now 20).2.2 = 0) : (startCo c now 20).1.deadline = now + 20 := by
 unfold startCo at hne ⊢
 by_cases h1 : checkCo c ≠ 0
 ·rw [if_pos h1] at hne; exact absurd hne (by decide)
 ·rw [if_neg h1] at hne ⊢
  by_cases h2 : okTime now = false ∨ (20 : Int) < 1 ∨ (20 : Int) > 1073741824 - now
  ·rw [if_pos h2] at hne; exact absurd hne (by decide)
  ·rw [if_neg h2] at hne ⊢
   by_cases h3 : c.phase ≠ 0
   ·rw [if_pos h3] at hne; exact absurd hne (by decide)
   ·rw [if_neg h3] at hne ⊢
    by_cases h4 : c.round = 1073741824
    ·rw [if_pos h4] at hne; exact absurd hne (by decide)
    ·rw [if_neg h4]
theorem round_dl {g : Gr} (h : g.c.deadline ≤ g.now + 20) : (roundG g).c.deadline ≤ g.now + 20 := by
 unfold roundG
 simp only
 by_cases h0 : (startCo g.c g.now 20).2.2 ≠ 0
 ·rw [if_pos h0]; exact h
 ·rw [if_neg h0]
  have h0 : (startCo g.c g.now 20).2.2 = 0 := Decidable.not_not.1 h0
  show (startCo g.c g.now 20).1.deadline ≤ _
  rw [start_dl h0]
  exact Int.le_refl _
theorem step_dl {g : Gr} {k n w : Int} {i : Fin 3} (h : g.c.deadline ≤ g.now + 20) (hw : U8 w) (h0 : 0 ≤ g.now) (h1 : g.now ≤ 1000000) : (Sx.stepG g k i n w).c.deadline ≤ (Sx.stepG g k i n w).now + 20 := by
 have t0 : 0 ≤ Int.tmod w 5 := Int.tmod_nonneg _ hw.1
 unfold Sx.stepG
 simp only
 split
 ·exact h
 ·split
  ·rw [dur_now, dur_c]; exact h
  ·split
   ·rw [round_now]; exact round_dl (g := { g with clock := IntKind.i64.wrap (g.clock + 1) }) h
   ·split
    ·rw [tick_now hw (by simp only; omega) (by simp only; omega)]
     have e : (tickG { g with clock := IntKind.i64.wrap (g.clock + 1) } n w).c.deadline = g.c.deadline := by
      unfold tickG
      simp only
      split
      ·exact (expire_dl _ _).1
      ·exact (expire_dl _ _).1
     rw [e]
     simp only
     omega
    ·rw [flight_now, flight_dl]; exact h
structure SPlay (g : Gr) (t : Nat) : Prop where
 play : PlayOk g t
 cut : ∃ T, CutOk g T
 dl : g.c.deadline ≤ g.now + 20
theorem beg_splay : SPlay begG 0 := ⟨beg_play, ⟨none, beg_cut⟩, by show (0 : Int) ≤ _; decide⟩
theorem SPlay.step {g : Gr} {t : Nat} (h : SPlay g t) (ht : t ≤ 900) {k n w : Int} (i : Fin 3) (hk : U8 k) (hn : U8 n) (hw : U8 w) : SPlay (Sx.stepG g k i n w) (t + 1) := by
 have hn1 := h.play.now
 have hn2 := h.play.ok.now
 obtain ⟨T, hT⟩ := h.cut
 exact ⟨h.play.step ht i hk hn hw, hT.step h.play.ok ht i hw (by omega), step_dl h.dl hw (by omega) (by omega)⟩
def quietG (g : Gr) : Gr := tickG { g with flight := [], now := IntKind.i64.wrap (g.now + 100) } 1 0
def startG (g : Gr) : Gr := Sx.stepG { g with flight := [] } 2 (nodeOf 0) 0 0

theorem mb_rel_round (m : Mb) (now : Int) : (relMb m now).1.round = m.round := by
 unfold relMb; split <;> rfl
theorem relG_round (g : Gr) (i j : Fin 3) : ((relG g i).node j).round = (g.node j).round := by
 rw [relG_node]
 by_cases h : j = i
 ·subst h; rw [if_pos rfl, mb_rel_round]
 ·rw [if_neg h]
theorem quiet_ok {g : Gr} {t : Nat} (h : SPlay g t) (ht : t ≤ 900) :
  GrOk (quietG g) t ∧ (quietG g).c.phase = 0 ∧ (quietG g).now = g.now + 101 ∧ ∀ i, ((quietG g).node i).round ≤ (quietG g).c.round := by
 have h0 := h.play.ok.now
 have hn := h.play.now
 obtain ⟨T, hT⟩ := h.cut
 have e : IntKind.i64.wrap (g.now + 100) = g.now + 100 := wrap64 (by omega) (by omega)
 have u0 : U8 0 := ⟨by decide, by decide⟩
 have hg := h.play.ok
 have h1 : GrOk { g with flight := [], now := g.now + 100 } t := ⟨hg.c, hg.node, fun m hm => (by cases hm), by simp only [List.length_nil]; omega, ⟨by simp only; omega, by simp only; omega⟩, hg.clock, hg.right, hg.wlen, fun i => by have := hg.upto i; simp only; omega⟩
 have e5 : IntKind.i64.wrap (g.now + 100 + (1 + Int.tmod 0 5)) = g.now + 101 := by
  rw [show (1 : Int) + Int.tmod 0 5 = 1 from rfl]
  rw [wrap64 (by omega) (by omega)]; omega
 have hx := expire_dl g.c (g.now + 101)
 have hp : (expireCo g.c (g.now + 101)).1.phase = 0 := by
  have hd := h.dl
  unfold expireCo
  by_cases hc : checkCo g.c ≠ 0 ∨ g.c.phase = 0 ∨ g.now + 101 < g.c.deadline
  ·rw [if_pos hc]
   rcases hc with hc | hc | hc
   ·exact absurd hg.c.ok hc
   ·exact hc
   ·omega
  ·rw [if_neg hc]; rfl
 unfold quietG
 rw [e]
 refine ⟨h1.tick (by omega) 1 0 u0 (by simp only; omega) (by simp only [List.length_nil]; omega), ?_, ?_, fun i => ?_⟩
 ·unfold tickG
  simp only [e5]
  rw [if_pos (by decide)]
  exact hp
 ·rw [tick_now u0 (by simp only; omega) (by simp only; omega)]
  simp only
  rw [show (1 : Int) + Int.tmod 0 5 = 1 from rfl]; omega
 ·unfold tickG
  simp only [e5]
  rw [if_pos (by decide)]
  have ec : (relG (relG (relG (sendG { g with flight := [], now := g.now + 101, c := (expireCo g.c (g.now + 101)).1 } (expireCo g.c (g.now + 101)).2) 0) 1) 2).c.round = g.c.round := hx.2
  rw [ec]
  rw [relG_round, relG_round, relG_round]
  exact hT.rn i

theorem start_suc {g : Gr} {t : Nat} (h : GrOk g t) (hp : g.c.phase = 0) (hn : g.now ≤ 5 * t + 101) (ht : t ≤ 900) (hr : ∀ i, (g.node i).round ≤ g.c.round) :
  SucOk (startG g) (t + 1) (fun i => ((g.wr i).length : Int)) 12 ∧ (startG g).wr = g.wr := by
 have h0 := h.now
 have u0 : U8 0 := ⟨by decide, by decide⟩
 have u2 : U8 2 := ⟨by decide, by decide⟩
 have hg : GrOk { g with flight := [] } t := ⟨h.c, h.node, fun m hm => (by cases hm), by simp only [List.length_nil]; omega, h.now, h.clock, h.right, h.wlen, h.upto⟩
 have hG : GrOk (startG g) (t + 1) := hg.step ht (nodeOf 0) u2 u0 u0 (by simp only; omega)
 have hc : checkCo ⟨g.c.nodes, g.c.round, g.c.phase, g.c.deadline, g.c.positions, g.c.seen, g.c.valid⟩ = 0 := h.c.ok
 have hz := checkCo_zero.1 hc
 have hrt := h.c.r
 have hn3 := h.c.n
 have es : startCo g.c g.now 20 = (⟨3, g.c.round + 1, 1, g.now + 20, [0, 0, 0], [false, false, false], false⟩, msgsTo 3 (g.c.round + 1) 1, 0) := by
  have e := startCo_eq (now := g.now) (patience := 20) hc
  have e : startCo g.c g.now 20 = _ := e
  rw [e, if_neg (by omega), if_neg (fun h => h hp), if_neg (by omega), hn3]
  rfl
 have ee : startG g = sendG { g with flight := [], clock := IntKind.i64.wrap (g.clock + 1), c := ⟨3, g.c.round + 1, 1, g.now + 20, [0, 0, 0], [false, false, false], false⟩, started := IntKind.i64.wrap (g.started + 1) } (msgsTo 3 (g.c.round + 1) 1) := by
  unfold startG Sx.stepG
  simp only
  rw [if_neg (by decide), if_neg (by decide), if_pos (by decide)]
  unfold roundG
  simp only [es]
  rw [if_neg (by decide)]
 rw [ee] at hG ⊢
 refine ⟨.inr ⟨1, fun _ => 0, g.c.round + 1, ⟨hG, ⟨by omega, by omega⟩, rfl, by omega, rfl, .inl rfl, ?_, ?_, rfl, fun j => Nat.zero_le _, ⟨0, by decide⟩, fun i => rfl, fun i hi => ?_, fun i _ _ => ?_, fun i hi => ?_⟩, rfl⟩, rfl⟩
 ·show g.now < g.now + 20; omega
 ·exact List.Perm.refl _
 ·rcases hi with hi | hi
  ·exact absurd hi (by decide)
  ·exact absurd hi (by decide)
 ·show (g.node i).round < g.c.round + 1
  have := hr i; omega
 ·rcases hi with hi | hi
  ·exact absurd rfl hi.2
  ·exact absurd hi.1 (by decide)
end Sx
end
section
/- Layer 21: a group's cells with nothing in flight. -/
open Go
namespace Sx
noncomputable def cvNil (ds : Nat → D) (g : Gr) : List CV := (CV.int g.c.nodes :: CV.int g.c.round :: CV.int g.c.phase :: CV.int g.c.deadline :: CV.dat ((ds 0).like g.c.positions) :: CV.dat ((ds 1).like g.c.seen) :: CV.bool g.c.valid :: CV.int (g.node 0).round :: CV.int (g.node 0).position :: CV.int (g.node 0).thawed :: CV.int (g.node 0).issued :: CV.bool (g.node 0).frozen :: CV.int (g.node 0).upto :: CV.dat ((ds 2).like (g.node 0).waiting) :: CV.dat ((ds 3).like (g.node 0).held) :: CV.int (g.node 1).round :: CV.int (g.node 1).position :: CV.int (g.node 1).thawed :: CV.int (g.node 1).issued :: CV.bool (g.node 1).frozen :: CV.int (g.node 1).upto :: CV.dat ((ds 4).like (g.node 1).waiting) :: CV.dat ((ds 5).like (g.node 1).held) :: CV.int (g.node 2).round :: CV.int (g.node 2).position :: CV.int (g.node 2).thawed :: CV.int (g.node 2).issued :: CV.bool (g.node 2).frozen :: CV.int (g.node 2).upto :: CV.dat ((ds 6).like (g.node 2).waiting) :: CV.dat ((ds 7).like (g.node 2).held) :: CV.dat (D.slc none 0 []) :: CV.dat ((ds 9).like (g.wr 0)) :: CV.dat ((ds 10).like (g.wr 1)) :: CV.dat ((ds 11).like (g.wr 2)) :: CV.int g.now :: CV.int g.clock :: CV.bool g.right :: CV.int g.started :: [])
theorem cvNil_shape (g : Gr) (ds : Nat → D) : ShapeC grK (cvNil ds g) := by
 unfold cvNil
 simp only [grK, ShapeC]
 exact ⟨_, _, rfl, _, _, rfl, _, _, rfl, _, _, rfl, _, _, rfl, _, _, rfl, _, _, rfl, _, _, rfl, _, _, rfl, _, _, rfl, _, _, rfl, _, _, rfl, _, _, rfl, _, _, rfl, _, _, rfl, _, _, rfl, _, _, rfl, _, _, rfl, _, _, rfl, _, _, rfl, _, _, rfl, _, _, rfl, _, _, rfl, _, _, rfl, _, _, rfl, _, _, rfl, _, _, rfl, _, _, rfl, _, _, rfl, _, _, rfl, _, _, rfl, _, _, rfl, _, _, rfl, _, _, rfl, _, _, rfl, _, _, rfl, _, _, rfl, _, _, rfl, _, _, rfl, rfl⟩
theorem grOf_cvNil (g : Gr) (ds : Nat → D) : grOf (cvNil ds g) = { g with flight := [] } := by
 unfold cvNil
 rw [grOf_eq]
 simp only [D.like_to]
 have e : (⟨g.c, tri (g.node 0) (g.node 1) (g.node 2), [], tri (g.wr 0) (g.wr 1) (g.wr 2), g.now, g.clock, g.right, g.started⟩ : Gr) = ⟨g.c, g.node, [], g.wr, g.now, g.clock, g.right, g.started⟩ := by rw [tri_eta, tri_eta]
 exact e
theorem grRight_cvNil (g : Gr) (ds : Nat → D) (h : ∀ i, (g.node i).waiting.length ≤ 1048575 ∧ (g.node i).held.length ≤ 1048575 ∧ (g.wr i).length ≤ 1000000) : GrRight (cvNil ds g) := by
 unfold cvNil
 rw [grRight_eq]
 exact ⟨⟨D.like_is _ _, D.like_is _ _⟩, right_like_of (h 0).1 (h 0).2.1, right_like_of (h 1).1 (h 1).2.1, right_like_of (h 2).1 (h 2).2.1, ⟨is_nil _ _, Nat.zero_le _⟩,
  ⟨D.like_is _ _, by rw [like_len]; exact (h 0).2.2⟩, ⟨D.like_is _ _, by rw [like_len]; exact (h 1).2.2⟩, ⟨D.like_is _ _, by rw [like_len]; exact (h 2).2.2⟩⟩
theorem okL_set {H : HV} {x : SV} (hx : SV.Ok H x) : ∀ (k : Nat) {l : List SV}, SV.OkL H l → SV.OkL H (l.set k x)
 | _, [], _ => trivial
 | 0, _ :: _, h => ⟨hx, h.2⟩
 | k + 1, _ :: _, h => ⟨h.1, okL_set hx k h.2⟩
theorem nil_ok {H : HV} : SV.Ok H (.dat (D.slc none 0 [])) := ⟨.nil 0, _, _, _, rfl⟩
end Sx
end
section
/- Layer 21: BarrierSucceeds. -/
open Go Go.Proofs Sx
namespace Sx
def OrdRows (o : D) : Prop := (o.rows = [] ∨ o.sz = 1) ∧ ∀ r, r ∈ o.rows → ∃ a, r = [D.int .u8 a] ∧ U8 a
theorem OrdRows.at {o : D} (h : OrdRows o) {j : Nat} (hj : j < o.len) : (0 ≤ (j : Int) ∧ (j : Int) < (o.len : Int) ∧ o.sz = 1) ∧ o.HasCell (Int.toNat (j : Int)) 0 (.int .u8) ∧ U8 (o.getInt (Int.toNat (j : Int)) 0) := by
 have hj' : j < o.rows.length := hj
 obtain ⟨a, hr, ha⟩ := h.2 _ (List.getElem_mem hj')
 have hg : o.rows[j]? = some [D.int .u8 a] := by rw [List.getElem?_eq_getElem hj', hr]
 have hs : o.sz = 1 := h.1.resolve_left (fun e => by rw [e] at hj'; cases hj')
 simp only [Int.toNat_natCast]
 refine ⟨⟨by omega, by omega, hs⟩, ⟨a, ?_⟩, ?_⟩
 ·simp [D.cellAt, hg]
 ·simp only [D.getInt, D.cellAt, hg]; exact ha
def spEvOrd (x : D × D) : SpecR := .scalar [EvRows x.1 ∧ OrdRows x.2] (.lb true)
theorem ints_one (x : Int) (a b : Hd) : (D.slc a 1 (D.rows (D.slc b 1 [[D.int .i64 x]]))).Is Int ∧ (D.slc a 1 (D.rows (D.slc b 1 [[D.int .i64 x]]))).to Int = [x] := is_of rfl (int_one x)
theorem ints_app {d : D} (hd : d.Is Int) (x : Int) (a b : Hd) : (D.slc a 1 (List.append (D.rows d) (D.rows (D.slc b 1 [[D.int .i64 x]])))).Is Int ∧ (D.slc a 1 (List.append (D.rows d) (D.rows (D.slc b 1 [[D.int .i64 x]])))).to Int = d.to Int ++ [x] := is_of rfl (rows_app (rows_of hd) (int_one x))
theorem pos3 {l : List Int} {W : Fin 3 → Int} (h3 : l.length = 3) (h : ∀ i : Fin 3, l.getD i.val 0 = W i) : l = [W 0, W 1, W 2] := by
 match l, h3 with
 | [a, b, c], _ =>
  have h0 : a = W 0 := h 0
  have h1 : b = W 1 := h 1
  have h2 : c = W 2 := h 2
  rw [h0, h1, h2]
theorem result_ok {x : CoD} {c : Co} (e : x.co = c) (hc : checkCo c = 0) (hv : c.valid = true) : resultCo x.co = (c.positions, true) := by
 rw [e]
 unfold resultCo
 rw [if_neg (by rw [hc, hv]; decide)]
end Sx
namespace Go.Proofs.Ytoechplbhbalaaa
set_option maxRecDepth 100000
set_option maxHeartbeats 0

theorem p10F_step {w : World} {H : HV} {cn cr cp cdl : Int} {cps css : D} {cv : Bool} {p1 p2 p3 p4 : Int} {pf : Bool} {p6 : Int} {pw ph : D} {q1 q2 q3 q4 : Int} {qf : Bool} {q6 : Int} {qw qh : D} {r1 r2 r3 r4 : Int} {rf : Bool} {r6 : Int} {rw rh : D} {fl wa wb wc : D} {now clk : Int} {rt : Bool} {st : Int} {o d : D} {t : Nat} (ht : t ≤ 1000) {W : Fin 3 → Int} (ho : OrdRows o) (hd : d.Is Int) (hdW : d.to Int = [W 0, W 1, W 2]) {i n : Nat}
  (hR : GrRight (cv9 cn cr cp cdl cps css cv p1 p2 p3 p4 pf p6 pw ph q1 q2 q3 q4 qf q6 qw qh r1 r2 r3 r4 rf r6 rw rh fl wa wb wc now clk rt st)) (hS : SucOk (grOf (cv9 cn cr cp cdl cps css cv p1 p2 p3 p4 pf p6 pw ph q1 q2 q3 q4 qf q6 qw qh r1 r2 r3 r4 rf r6 rw rh fl wa wb wc now clk rt st)) t W n) (hin : i + n = 12)
  (ih : ∀ cs : List CV, ShapeC grK cs → GrRight cs → (∃ n', SucOk (grOf cs) t W n' ∧ (i + 1) + n' = 12) → Runs Try.prog ⟨w, H⟩ (p10F o (cs.map CV.sv) d ((i + 1 : Nat) : Int)) (RetS w H (.lb true))) :
  Runs Try.prog ⟨w, H⟩ (unroll (p10F o (cl9 cn cr cp cdl cps css cv p1 p2 p3 p4 pf p6 pw ph q1 q2 q3 q4 qf q6 qw qh r1 r2 r3 r4 rf r6 rw rh fl wa wb wc now clk rt st) d i)) (RetS w H (.lb true)) := by
 have hok := hS.ok
 have hrt := hok.right
 rw [grOf_eq] at hrt
 simp only at hrt
 have hf := D.Is.length (α := Msg) fl
 have gfl : (grOf (cv9 cn cr cp cdl cps css cv p1 p2 p3 p4 pf p6 pw ph q1 q2 q3 q4 qf q6 qw qh r1 r2 r3 r4 rf r6 rw rh fl wa wb wc now clk rt st)).flight = fl.to Msg := by rw [grOf_eq]
 obtain ⟨f1, f2, f3⟩ := hS.fl
 have e12 : n = 0 → DoneOk (grOf (cv9 cn cr cp cdl cps css cv p1 p2 p3 p4 pf p6 pw ph q1 q2 q3 q4 qf q6 qw qh r1 r2 r3 r4 rf r6 rw rh fl wa wb wc now clk rt st)) t W := fun h0 => f3 (by
  have : ¬0 < (grOf (cv9 cn cr cp cdl cps css cv p1 p2 p3 p4 pf p6 pw ph q1 q2 q3 q4 qf q6 qw qh r1 r2 r3 r4 rf r6 rw rh fl wa wb wc now clk rt st)).flight.length := fun h => by have := f2 h; omega
  omega)
 have u0 : U8 0 := ⟨by decide, by decide⟩
 have u3 : U8 3 := ⟨by decide, by decide⟩
 apply exec_sound ctPOk 900
 rw [p10F_go]
 refine ⟨fun hc => ⟨fun hff => ?_, fun hff => ?_⟩, fun hc => ?_⟩
 ·have hc12 : i < 12 := by have := of_decide_eq_true hc; omega
  have hff : 0 < (grOf (cv9 cn cr cp cdl cps css cv p1 p2 p3 p4 pf p6 pw ph q1 q2 q3 q4 qf q6 qw qh r1 r2 r3 r4 rf r6 rw rh fl wa wb wc now clk rt st)).flight.length := by have := of_decide_eq_true hff; rw [gfl, ← hf]; omega
  refine ⟨fun hi => ?_, fun hi => ?_⟩
  ·have hi : i < o.len := by have := of_decide_eq_true hi; omega
   obtain ⟨a1, a2, a3⟩ := ho.at hi
   obtain ⟨n', en, hs2⟩ := hS.step hff (w := o.getInt (Int.toNat (i : Int)) 0) a3.1
   refine ⟨a1, a2, ⟨hR, ⟨u3, a3⟩, hs2.ok.right⟩, fun hs => ?_⟩
   obtain ⟨b1, b2⟩ := hs2.ok.bounds ht
   have := ih _ (cv_shape _ (hs 0)) (grRight_cv _ (hs 0) b1 (by omega)) ⟨n', by rw [grOf_cv]; exact hs2, by omega⟩
   rw [← wrap_succ hc12 (by omega)] at this
   exact this
  ·obtain ⟨n', en, hs2⟩ := hS.step hff (w := 0) (Int.le_refl _)
   refine ⟨⟨hR, ⟨u3, u0⟩, hs2.ok.right⟩, fun hs => ?_⟩
   obtain ⟨b1, b2⟩ := hs2.ok.bounds ht
   have := ih _ (cv_shape _ (hs 0)) (grRight_cv _ (hs 0) b1 (by omega)) ⟨n', by rw [grOf_cv]; exact hs2, by omega⟩
   rw [← wrap_succ hc12 (by omega)] at this
   exact this
 ·have hff : (grOf (cv9 cn cr cp cdl cps css cv p1 p2 p3 p4 pf p6 pw ph q1 q2 q3 q4 qf q6 qw qh r1 r2 r3 r4 rf r6 rw rh fl wa wb wc now clk rt st)).flight.length = 0 := by have := of_decide_eq_false hff; rw [gfl, ← hf]; omega
  have hD := f3 hff
  have hc0 := hD.ok.c.ok
  have hv := hD.va
  have hp := hD.pos
  have hc3 := hD.ok.c.n
  have hz := checkCo_zero.1 (show checkCo ⟨(grOf (cv9 cn cr cp cdl cps css cv p1 p2 p3 p4 pf p6 pw ph q1 q2 q3 q4 qf q6 qw qh r1 r2 r3 r4 rf r6 rw rh fl wa wb wc now clk rt st)).c.nodes, (grOf (cv9 cn cr cp cdl cps css cv p1 p2 p3 p4 pf p6 pw ph q1 q2 q3 q4 qf q6 qw qh r1 r2 r3 r4 rf r6 rw rh fl wa wb wc now clk rt st)).c.round, (grOf (cv9 cn cr cp cdl cps css cv p1 p2 p3 p4 pf p6 pw ph q1 q2 q3 q4 qf q6 qw qh r1 r2 r3 r4 rf r6 rw rh fl wa wb wc now clk rt st)).c.phase, (grOf (cv9 cn cr cp cdl cps css cv p1 p2 p3 p4 pf p6 pw ph q1 q2 q3 q4 qf q6 qw qh r1 r2 r3 r4 rf r6 rw rh fl wa wb wc now clk rt st)).c.deadline, (grOf (cv9 cn cr cp cdl cps css cv p1 p2 p3 p4 pf p6 pw ph q1 q2 q3 q4 qf q6 qw qh r1 r2 r3 r4 rf r6 rw rh fl wa wb wc now clk rt st)).c.positions, (grOf (cv9 cn cr cp cdl cps css cv p1 p2 p3 p4 pf p6 pw ph q1 q2 q3 q4 qf q6 qw qh r1 r2 r3 r4 rf r6 rw rh fl wa wb wc now clk rt st)).c.seen, (grOf (cv9 cn cr cp cdl cps css cv p1 p2 p3 p4 pf p6 pw ph q1 q2 q3 q4 qf q6 qw qh r1 r2 r3 r4 rf r6 rw rh fl wa wb wc now clk rt st)).c.valid⟩ = 0 from hc0)
  have hpl : (grOf (cv9 cn cr cp cdl cps css cv p1 p2 p3 p4 pf p6 pw ph q1 q2 q3 q4 qf q6 qw qh r1 r2 r3 r4 rf r6 rw rh fl wa wb wc now clk rt st)).c.positions.length = 3 := by have := hz.2.2.2.2.1; omega
  have hpw := pos3 hpl hp
  have e : (CoD.mk cn cr cp cdl cps css cv).co = (grOf (cv9 cn cr cp cdl cps css cv p1 p2 p3 p4 pf p6 pw ph q1 q2 q3 q4 qf q6 qw qh r1 r2 r3 r4 rf r6 rw rh fl wa wb wc now clk rt st)).c := by rw [grOf_eq]; rfl
  have hres := result_ok e hc0 hv
  have hR2 := hR
  rw [grRight_eq] at hR2
  have hf0 : ((fl.len : Nat) : Int) = 0 := by
   have h1 := hD.fl
   rw [gfl] at h1
   rw [hf, h1]; rfl
  refine ⟨hR2.1, fun hs => ⟨fun _ => ⟨fun _ => ⟨⟨D.like_is _ _, hd, ?_, ?_⟩, ret_sure (decide_eq_true hf0)⟩, fun h => ?_⟩, fun h => absurd (hrt.symm.trans h) (by decide)⟩⟩
  ·rw [like_len, hres]; simp only; omega
  ·rw [D.like_to, hres, hdW]; exact hpw
  ·rw [hres] at h; cases h
 ·have hc12 : ¬(i : Int) < 12 := of_decide_eq_false hc
  have hD := e12 (by omega)
  have hc0 := hD.ok.c.ok
  have hv := hD.va
  have hp := hD.pos
  have hc3 := hD.ok.c.n
  have hz := checkCo_zero.1 (show checkCo ⟨(grOf (cv9 cn cr cp cdl cps css cv p1 p2 p3 p4 pf p6 pw ph q1 q2 q3 q4 qf q6 qw qh r1 r2 r3 r4 rf r6 rw rh fl wa wb wc now clk rt st)).c.nodes, (grOf (cv9 cn cr cp cdl cps css cv p1 p2 p3 p4 pf p6 pw ph q1 q2 q3 q4 qf q6 qw qh r1 r2 r3 r4 rf r6 rw rh fl wa wb wc now clk rt st)).c.round, (grOf (cv9 cn cr cp cdl cps css cv p1 p2 p3 p4 pf p6 pw ph q1 q2 q3 q4 qf q6 qw qh r1 r2 r3 r4 rf r6 rw rh fl wa wb wc now clk rt st)).c.phase, (grOf (cv9 cn cr cp cdl cps css cv p1 p2 p3 p4 pf p6 pw ph q1 q2 q3 q4 qf q6 qw qh r1 r2 r3 r4 rf r6 rw rh fl wa wb wc now clk rt st)).c.deadline, (grOf (cv9 cn cr cp cdl cps css cv p1 p2 p3 p4 pf p6 pw ph q1 q2 q3 q4 qf q6 qw qh r1 r2 r3 r4 rf r6 rw rh fl wa wb wc now clk rt st)).c.positions, (grOf (cv9 cn cr cp cdl cps css cv p1 p2 p3 p4 pf p6 pw ph q1 q2 q3 q4 qf q6 qw qh r1 r2 r3 r4 rf r6 rw rh fl wa wb wc now clk rt st)).c.seen, (grOf (cv9 cn cr cp cdl cps css cv p1 p2 p3 p4 pf p6 pw ph q1 q2 q3 q4 qf q6 qw qh r1 r2 r3 r4 rf r6 rw rh fl wa wb wc now clk rt st)).c.valid⟩ = 0 from hc0)
  have hpl : (grOf (cv9 cn cr cp cdl cps css cv p1 p2 p3 p4 pf p6 pw ph q1 q2 q3 q4 qf q6 qw qh r1 r2 r3 r4 rf r6 rw rh fl wa wb wc now clk rt st)).c.positions.length = 3 := by have := hz.2.2.2.2.1; omega
  have hpw := pos3 hpl hp
  have e : (CoD.mk cn cr cp cdl cps css cv).co = (grOf (cv9 cn cr cp cdl cps css cv p1 p2 p3 p4 pf p6 pw ph q1 q2 q3 q4 qf q6 qw qh r1 r2 r3 r4 rf r6 rw rh fl wa wb wc now clk rt st)).c := by rw [grOf_eq]; rfl
  have hres := result_ok e hc0 hv
  have hR2 := hR
  rw [grRight_eq] at hR2
  have hf0 : ((fl.len : Nat) : Int) = 0 := by
   have h1 := hD.fl
   rw [gfl] at h1
   rw [hf, h1]; rfl
  refine ⟨hR2.1, fun hs => ⟨fun _ => ⟨fun _ => ⟨⟨D.like_is _ _, hd, ?_, ?_⟩, ret_sure (decide_eq_true hf0)⟩, fun h => ?_⟩, fun h => absurd (hrt.symm.trans h) (by decide)⟩⟩
  ·rw [like_len, hres]; simp only; omega
  ·rw [D.like_to, hres, hdW]; exact hpw
  ·rw [hres] at h; cases h

theorem p10F_run {w : World} {H : HV} {o d : D} {t : Nat} (ht : t ≤ 1000) {W : Fin 3 → Int} (ho : OrdRows o) (hd : d.Is Int) (hdW : d.to Int = [W 0, W 1, W 2]) :
  ∀ q : { cs : List CV // ShapeC grK cs } × Nat, (GrRight q.1.1 ∧ ∃ n, SucOk (grOf q.1.1) t W n ∧ q.2 + n = 12) → Runs Try.prog ⟨w, H⟩ (p10F o (q.1.1.map CV.sv) d q.2) (RetS w H (.lb true)) := by
 refine runs_loop (σ := { cs : List CV // ShapeC grK cs } × Nat) (fun q => p10F o (q.1.1.map CV.sv) d q.2) (fun q => GrRight q.1.1 ∧ ∃ n, SucOk (grOf q.1.1) t W n ∧ q.2 + n = 12) (fun q => 12 - q.2) (fun _ => rfl) ?_
 intro ⟨⟨cs, hsh⟩, i⟩ ⟨hR, n, hS, hin⟩ ih
 simp only at hR hS hin
 obtain ⟨cn, cr, cp, cdl, cps, css, cv, p1, p2, p3, p4, pf, p6, pw, ph, q1, q2, q3, q4, qf, q6, qw, qh, r1, r2, r3, r4, rf, r6, rw, rh, fl, wa, wb, wc, now, clk, rt, st, rfl⟩ := gr_shape hsh
 refine p10F_step ht ho hd hdW hR hS hin fun cs hsh hR hq => ?_
 exact ih (⟨cs, hsh⟩, i + 1) ⟨hR, hq⟩ (by obtain ⟨n', _, e⟩ := hq; simp only; omega)

theorem p10V3_run {w : World} {H : HV} {cn cr cp cdl : Int} {cps css : D} {cv : Bool} {p1 p2 p3 p4 : Int} {pf : Bool} {p6 : Int} {pw ph : D} {q1 q2 q3 q4 : Int} {qf : Bool} {q6 : Int} {qw qh : D} {r1 r2 r3 r4 : Int} {rf : Bool} {r6 : Int} {rw rh : D} {fl wa wb wc : D} {now clk : Int} {rt : Bool} {st : Int} {o d : D} {t : Nat} {W : Fin 3 → Int} (ht : t ≤ 1000) (ho : OrdRows o) (hsh : ShapeC grK (cv9 cn cr cp cdl cps css cv p1 p2 p3 p4 pf p6 pw ph q1 q2 q3 q4 qf q6 qw qh r1 r2 r3 r4 rf r6 rw rh fl wa wb wc now clk rt st)) (hR : GrRight (cv9 cn cr cp cdl cps css cv p1 p2 p3 p4 pf p6 pw ph q1 q2 q3 q4 qf q6 qw qh r1 r2 r3 r4 rf r6 rw rh fl wa wb wc now clk rt st)) (hS : SucOk (grOf (cv9 cn cr cp cdl cps css cv p1 p2 p3 p4 pf p6 pw ph q1 q2 q3 q4 qf q6 qw qh r1 r2 r3 r4 rf r6 rw rh fl wa wb wc now clk rt st)) t W 12) (hWa : (wa.len : Int) = W 0) (hWb : (wb.len : Int) = W 1) (hWc : (wc.len : Int) = W 2) (hd : d.Is Int) (hdW : d.to Int = [W 0, W 1, W 2]) : Runs Try.prog ⟨w, H⟩ (p10V o (cl9 cn cr cp cdl cps css cv p1 p2 p3 p4 pf p6 pw ph q1 q2 q3 q4 qf q6 qw qh r1 r2 r3 r4 rf r6 rw rh fl wa wb wc now clk rt st) d 3) (RetS w H (.lb true)) := by
 refine unroll_sound rfl ?_
 apply exec_sound ctPOk 900
 rw [p10V3_go]
 exact ⟨fun h => (by cases h), fun _ => p10F_run ht ho hd hdW (⟨(cv9 cn cr cp cdl cps css cv p1 p2 p3 p4 pf p6 pw ph q1 q2 q3 q4 qf q6 qw qh r1 r2 r3 r4 rf r6 rw rh fl wa wb wc now clk rt st), hsh⟩, 0) ⟨hR, 12, hS, rfl⟩⟩

theorem p10V2_run {w : World} {H : HV} {cn cr cp cdl : Int} {cps css : D} {cv : Bool} {p1 p2 p3 p4 : Int} {pf : Bool} {p6 : Int} {pw ph : D} {q1 q2 q3 q4 : Int} {qf : Bool} {q6 : Int} {qw qh : D} {r1 r2 r3 r4 : Int} {rf : Bool} {r6 : Int} {rw rh : D} {fl wa wb wc : D} {now clk : Int} {rt : Bool} {st : Int} {o d : D} {t : Nat} {W : Fin 3 → Int} (ht : t ≤ 1000) (ho : OrdRows o) (hsh : ShapeC grK (cv9 cn cr cp cdl cps css cv p1 p2 p3 p4 pf p6 pw ph q1 q2 q3 q4 qf q6 qw qh r1 r2 r3 r4 rf r6 rw rh fl wa wb wc now clk rt st)) (hR : GrRight (cv9 cn cr cp cdl cps css cv p1 p2 p3 p4 pf p6 pw ph q1 q2 q3 q4 qf q6 qw qh r1 r2 r3 r4 rf r6 rw rh fl wa wb wc now clk rt st)) (hS : SucOk (grOf (cv9 cn cr cp cdl cps css cv p1 p2 p3 p4 pf p6 pw ph q1 q2 q3 q4 qf q6 qw qh r1 r2 r3 r4 rf r6 rw rh fl wa wb wc now clk rt st)) t W 12) (hWa : (wa.len : Int) = W 0) (hWb : (wb.len : Int) = W 1) (hWc : (wc.len : Int) = W 2) (hd : d.Is Int) (hdW : d.to Int = [W 0, W 1]) : Runs Try.prog ⟨w, H⟩ (p10V o (cl9 cn cr cp cdl cps css cv p1 p2 p3 p4 pf p6 pw ph q1 q2 q3 q4 qf q6 qw qh r1 r2 r3 r4 rf r6 rw rh fl wa wb wc now clk rt st) d 2) (RetS w H (.lb true)) := by
 refine unroll_sound rfl ?_
 have ld := D.Is.length (α := Int) d
 rw [hdW] at ld
 have ld : d.len = 2 := ld
 apply exec_sound ctPOk 900
 rw [p10V2_go]
 refine ⟨fun _ => ⟨by omega, fun hs => ⟨⟨hd.size (i := 0) (by rw [hdW]; exact Nat.succ_pos _), .inr rfl, ?_, ?_⟩, fun hs1 => ?_⟩⟩, fun h => (by cases h)⟩
 ·simp only [len_slc, ld, List.length_cons, List.length_nil]; omega
 ·simp only [len_slc, ld, List.length_cons, List.length_nil]; omega
 ·rw [show IntKind.i64.wrap (2 + 1) = 3 by decide]
  have e := ints_app hd (wc.len : Int) (D.hd (hs1 0 0)) (D.hd (hs 0 0))
  refine p10V3_run ht ho hsh hR hS hWa hWb hWc e.1 ?_
  rw [e.2, hdW, hWc]
  rfl

theorem p10V1_run {w : World} {H : HV} {cn cr cp cdl : Int} {cps css : D} {cv : Bool} {p1 p2 p3 p4 : Int} {pf : Bool} {p6 : Int} {pw ph : D} {q1 q2 q3 q4 : Int} {qf : Bool} {q6 : Int} {qw qh : D} {r1 r2 r3 r4 : Int} {rf : Bool} {r6 : Int} {rw rh : D} {fl wa wb wc : D} {now clk : Int} {rt : Bool} {st : Int} {o d : D} {t : Nat} {W : Fin 3 → Int} (ht : t ≤ 1000) (ho : OrdRows o) (hsh : ShapeC grK (cv9 cn cr cp cdl cps css cv p1 p2 p3 p4 pf p6 pw ph q1 q2 q3 q4 qf q6 qw qh r1 r2 r3 r4 rf r6 rw rh fl wa wb wc now clk rt st)) (hR : GrRight (cv9 cn cr cp cdl cps css cv p1 p2 p3 p4 pf p6 pw ph q1 q2 q3 q4 qf q6 qw qh r1 r2 r3 r4 rf r6 rw rh fl wa wb wc now clk rt st)) (hS : SucOk (grOf (cv9 cn cr cp cdl cps css cv p1 p2 p3 p4 pf p6 pw ph q1 q2 q3 q4 qf q6 qw qh r1 r2 r3 r4 rf r6 rw rh fl wa wb wc now clk rt st)) t W 12) (hWa : (wa.len : Int) = W 0) (hWb : (wb.len : Int) = W 1) (hWc : (wc.len : Int) = W 2) (hd : d.Is Int) (hdW : d.to Int = [W 0]) : Runs Try.prog ⟨w, H⟩ (p10V o (cl9 cn cr cp cdl cps css cv p1 p2 p3 p4 pf p6 pw ph q1 q2 q3 q4 qf q6 qw qh r1 r2 r3 r4 rf r6 rw rh fl wa wb wc now clk rt st) d 1) (RetS w H (.lb true)) := by
 refine unroll_sound rfl ?_
 have ld := D.Is.length (α := Int) d
 rw [hdW] at ld
 have ld : d.len = 1 := ld
 apply exec_sound ctPOk 900
 rw [p10V1_go]
 refine ⟨fun _ => ⟨by omega, fun hs => ⟨⟨hd.size (i := 0) (by rw [hdW]; exact Nat.succ_pos _), .inr rfl, ?_, ?_⟩, fun hs1 => ?_⟩⟩, fun h => (by cases h)⟩
 ·simp only [len_slc, ld, List.length_cons, List.length_nil]; omega
 ·simp only [len_slc, ld, List.length_cons, List.length_nil]; omega
 ·rw [show IntKind.i64.wrap (1 + 1) = 2 by decide]
  have e := ints_app hd (wb.len : Int) (D.hd (hs1 0 0)) (D.hd (hs 0 0))
  refine p10V2_run ht ho hsh hR hS hWa hWb hWc e.1 ?_
  rw [e.2, hdW, hWb]
  rfl

theorem p10W_run {w : World} {H : HV} {cn cr cp cdl : Int} {cps css : D} {cv : Bool} {p1 p2 p3 p4 : Int} {pf : Bool} {p6 : Int} {pw ph : D} {q1 q2 q3 q4 : Int} {qf : Bool} {q6 : Int} {qw qh : D} {r1 r2 r3 r4 : Int} {rf : Bool} {r6 : Int} {rw rh : D} {fl wa wb wc : D} {now clk : Int} {rt : Bool} {st : Int} {o : D} {t : Nat} {W : Fin 3 → Int} (ht : t ≤ 1000) (ho : OrdRows o) (hsh : ShapeC grK (cv9 cn cr cp cdl cps css cv p1 p2 p3 p4 pf p6 pw ph q1 q2 q3 q4 qf q6 qw qh r1 r2 r3 r4 rf r6 rw rh fl wa wb wc now clk rt st)) (hR : GrRight (cv9 cn cr cp cdl cps css cv p1 p2 p3 p4 pf p6 pw ph q1 q2 q3 q4 qf q6 qw qh r1 r2 r3 r4 rf r6 rw rh fl wa wb wc now clk rt st)) (hS : SucOk (grOf (cv9 cn cr cp cdl cps css cv p1 p2 p3 p4 pf p6 pw ph q1 q2 q3 q4 qf q6 qw qh r1 r2 r3 r4 rf r6 rw rh fl wa wb wc now clk rt st)) t W 12) (hWa : (wa.len : Int) = W 0) (hWb : (wb.len : Int) = W 1) (hWc : (wc.len : Int) = W 2) : Runs Try.prog ⟨w, H⟩ (p10W o (cl9 cn cr cp cdl cps css cv p1 p2 p3 p4 pf p6 pw ph q1 q2 q3 q4 qf q6 qw qh r1 r2 r3 r4 rf r6 rw rh fl wa wb wc now clk rt st)) (RetS w H (.lb true)) := by
 refine unroll_sound rfl ?_
 apply exec_sound ctPOk 900
 rw [p10W_go]
 refine ⟨fun _ => ⟨by omega, fun hs => ⟨⟨.inr rfl, ?_, ?_⟩, fun hs1 => ?_⟩⟩, fun h => (by cases h)⟩
 ·simp only [len_slc, List.length_cons, List.length_nil]; omega
 ·simp only [len_slc, List.length_cons, List.length_nil]; omega
 ·rw [show IntKind.i64.wrap (0 + 1) = 1 by decide]
  have e := ints_one (wa.len : Int) (D.hd (hs1 0 0)) (D.hd (hs 0 0))
  refine p10V1_run ht ho hsh hR hS hWa hWb hWc e.1 ?_
  rw [e.2, hWa]

theorem p10S_run {w : World} {H : HV} {cn cr cp cdl : Int} {cps css : D} {cv : Bool} {p1 p2 p3 p4 : Int} {pf : Bool} {p6 : Int} {pw ph : D} {q1 q2 q3 q4 : Int} {qf : Bool} {q6 : Int} {qw qh : D} {r1 r2 r3 r4 : Int} {rf : Bool} {r6 : Int} {rw rh : D} {fl wa wb wc : D} {now clk : Int} {rt : Bool} {st : Int} {o : D} (ho : OrdRows o) {t : Nat} (ht : t ≤ 900) (hR : GrRight (cv9 cn cr cp cdl cps css cv p1 p2 p3 p4 pf p6 pw ph q1 q2 q3 q4 qf q6 qw qh r1 r2 r3 r4 rf r6 rw rh fl wa wb wc now clk rt st)) (hg : GrOk (grOf (cv9 cn cr cp cdl cps css cv p1 p2 p3 p4 pf p6 pw ph q1 q2 q3 q4 qf q6 qw qh r1 r2 r3 r4 rf r6 rw rh fl wa wb wc now clk rt st)) t) (hp : (grOf (cv9 cn cr cp cdl cps css cv p1 p2 p3 p4 pf p6 pw ph q1 q2 q3 q4 qf q6 qw qh r1 r2 r3 r4 rf r6 rw rh fl wa wb wc now clk rt st)).c.phase = 0) (hn : (grOf (cv9 cn cr cp cdl cps css cv p1 p2 p3 p4 pf p6 pw ph q1 q2 q3 q4 qf q6 qw qh r1 r2 r3 r4 rf r6 rw rh fl wa wb wc now clk rt st)).now ≤ 5 * t + 101)
  (hr : ∀ i, ((grOf (cv9 cn cr cp cdl cps css cv p1 p2 p3 p4 pf p6 pw ph q1 q2 q3 q4 qf q6 qw qh r1 r2 r3 r4 rf r6 rw rh fl wa wb wc now clk rt st)).node i).round ≤ (grOf (cv9 cn cr cp cdl cps css cv p1 p2 p3 p4 pf p6 pw ph q1 q2 q3 q4 qf q6 qw qh r1 r2 r3 r4 rf r6 rw rh fl wa wb wc now clk rt st)).c.round) (hfl : (grOf (cv9 cn cr cp cdl cps css cv p1 p2 p3 p4 pf p6 pw ph q1 q2 q3 q4 qf q6 qw qh r1 r2 r3 r4 rf r6 rw rh fl wa wb wc now clk rt st)).flight = []) : Runs Try.prog ⟨w, H⟩ (p10S o (cl9 cn cr cp cdl cps css cv p1 p2 p3 p4 pf p6 pw ph q1 q2 q3 q4 qf q6 qw qh r1 r2 r3 r4 rf r6 rw rh fl wa wb wc now clk rt st)) (RetS w H (.lb true)) := by
 obtain ⟨hS, hw⟩ := start_suc hg hp hn ht hr
 have es : startG (grOf (cv9 cn cr cp cdl cps css cv p1 p2 p3 p4 pf p6 pw ph q1 q2 q3 q4 qf q6 qw qh r1 r2 r3 r4 rf r6 rw rh fl wa wb wc now clk rt st)) = Sx.stepG (grOf (cv9 cn cr cp cdl cps css cv p1 p2 p3 p4 pf p6 pw ph q1 q2 q3 q4 qf q6 qw qh r1 r2 r3 r4 rf r6 rw rh fl wa wb wc now clk rt st)) 2 (nodeOf 0) 0 0 := by
  unfold startG
  congr 1
  rw [← hfl]
 rw [es] at hS hw
 have u0 : U8 0 := ⟨by decide, by decide⟩
 have u2 : U8 2 := ⟨by decide, by decide⟩
 apply exec_sound ctPOk 900
 rw [p10S_go]
 refine ⟨⟨hR, ⟨⟨u2, u0, u0⟩, by rw [hfl]; exact Nat.zero_le _⟩, hS.ok.right⟩, fun hs => ?_⟩
 obtain ⟨b1, b2⟩ := hS.ok.bounds (by omega)
 generalize hgg : Sx.stepG (grOf (cv9 cn cr cp cdl cps css cv p1 p2 p3 p4 pf p6 pw ph q1 q2 q3 q4 qf q6 qw qh r1 r2 r3 r4 rf r6 rw rh fl wa wb wc now clk rt st)) 2 (nodeOf 0) 0 0 = g at hS hw b1 b2
 have hS : SucOk (grOf (cvOf (hs 0) 0 g.cls)) (t + 1) (fun i => ((g.wr i).length : Int)) 12 := by rw [grOf_cv, hw]; exact hS
 have := p10W_run (w := w) (H := H) (o := o) (t := t + 1) (W := fun i => ((g.wr i).length : Int)) (by omega) ho (cv_shape g (hs 0)) (grRight_cv g (hs 0) b1 (by omega)) hS (by rw [like_len]) (by rw [like_len]) (by rw [like_len])
 subst hgg
 exact this

theorem p10S_cs {w : World} {H : HV} {o : D} (ho : OrdRows o) {t : Nat} (ht : t ≤ 900) {cs : List CV} (hsh : ShapeC grK cs) (hR : GrRight cs) (hg : GrOk (grOf cs) t) (hp : (grOf cs).c.phase = 0) (hn : (grOf cs).now ≤ 5 * t + 101)
  (hr : ∀ i, ((grOf cs).node i).round ≤ (grOf cs).c.round) (hfl : (grOf cs).flight = []) : Runs Try.prog ⟨w, H⟩ (p10S o (cs.map CV.sv)) (RetS w H (.lb true)) := by
 obtain ⟨cn, cr, cp, cdl, cps, css, cv, p1, p2, p3, p4, pf, p6, pw, ph, q1, q2, q3, q4, qf, q6, qw, qh, r1, r2, r3, r4, rf, r6, rw, rh, fl, wa, wb, wc, now, clk, rt, st, rfl⟩ := gr_shape hsh
 exact p10S_run ho ht hR hg hp hn hr hfl

theorem p10E_run {w : World} {H : HV} {cn cr cp cdl : Int} {cps css : D} {cv : Bool} {p1 p2 p3 p4 : Int} {pf : Bool} {p6 : Int} {pw ph : D} {q1 q2 q3 q4 : Int} {qf : Bool} {q6 : Int} {qw qh : D} {r1 r2 r3 r4 : Int} {rf : Bool} {r6 : Int} {rw rh : D} {fl wa wb wc : D} {now clk : Int} {rt : Bool} {st : Int} {o : D} (ho : OrdRows o) {t : Nat} (ht : t ≤ 40) (hR : GrRight (cv9 cn cr cp cdl cps css cv p1 p2 p3 p4 pf p6 pw ph q1 q2 q3 q4 qf q6 qw qh r1 r2 r3 r4 rf r6 rw rh fl wa wb wc now clk rt st)) (hp : SPlay (grOf (cv9 cn cr cp cdl cps css cv p1 p2 p3 p4 pf p6 pw ph q1 q2 q3 q4 qf q6 qw qh r1 r2 r3 r4 rf r6 rw rh fl wa wb wc now clk rt st)) t) : Runs Try.prog ⟨w, H⟩ (p10E o (cl9 cn cr cp cdl cps css cv p1 p2 p3 p4 pf p6 pw ph q1 q2 q3 q4 qf q6 qw qh r1 r2 r3 r4 rf r6 rw rh fl wa wb wc now clk rt st)) (RetS w H (.lb true)) := by
 have hR' : GrRight (CV.int cn :: CV.int cr :: CV.int cp :: CV.int cdl :: CV.dat cps :: CV.dat css :: CV.bool cv :: CV.int p1 :: CV.int p2 :: CV.int p3 :: CV.int p4 :: CV.bool pf :: CV.int p6 :: CV.dat pw :: CV.dat ph :: CV.int q1 :: CV.int q2 :: CV.int q3 :: CV.int q4 :: CV.bool qf :: CV.int q6 :: CV.dat qw :: CV.dat qh :: CV.int r1 :: CV.int r2 :: CV.int r3 :: CV.int r4 :: CV.bool rf :: CV.int r6 :: CV.dat rw :: CV.dat rh :: CV.dat (D.slc none 0 []) :: CV.dat wa :: CV.dat wb :: CV.dat wc :: CV.int (IntKind.i64.wrap (now + 100)) :: CV.int clk :: CV.bool rt :: CV.int st :: []) := by
  rw [grRight_eq] at hR ⊢
  exact ⟨hR.1, hR.2.1, hR.2.2.1, hR.2.2.2.1, ⟨is_nil _ _, Nat.zero_le _⟩, hR.2.2.2.2.2⟩
 have e : grOf (CV.int cn :: CV.int cr :: CV.int cp :: CV.int cdl :: CV.dat cps :: CV.dat css :: CV.bool cv :: CV.int p1 :: CV.int p2 :: CV.int p3 :: CV.int p4 :: CV.bool pf :: CV.int p6 :: CV.dat pw :: CV.dat ph :: CV.int q1 :: CV.int q2 :: CV.int q3 :: CV.int q4 :: CV.bool qf :: CV.int q6 :: CV.dat qw :: CV.dat qh :: CV.int r1 :: CV.int r2 :: CV.int r3 :: CV.int r4 :: CV.bool rf :: CV.int r6 :: CV.dat rw :: CV.dat rh :: CV.dat (D.slc none 0 []) :: CV.dat wa :: CV.dat wb :: CV.dat wc :: CV.int (IntKind.i64.wrap (now + 100)) :: CV.int clk :: CV.bool rt :: CV.int st :: []) = { grOf (cv9 cn cr cp cdl cps css cv p1 p2 p3 p4 pf p6 pw ph q1 q2 q3 q4 qf q6 qw qh r1 r2 r3 r4 rf r6 rw rh fl wa wb wc now clk rt st) with flight := [], now := IntKind.i64.wrap ((grOf (cv9 cn cr cp cdl cps css cv p1 p2 p3 p4 pf p6 pw ph q1 q2 q3 q4 qf q6 qw qh r1 r2 r3 r4 rf r6 rw rh fl wa wb wc now clk rt st)).now + 100) } := by rw [grOf_eq, grOf_eq]; rfl
 obtain ⟨h1, h2, h3, h4⟩ := quiet_ok hp (by omega)
 unfold quietG at h1 h2 h3 h4
 rw [← e] at h1 h2 h3 h4
 have hnow := hp.play.now
 have u0 : U8 0 := ⟨by decide, by decide⟩
 have u1 : U8 1 := ⟨by decide, by decide⟩
 have hf2 : (grOf (CV.int cn :: CV.int cr :: CV.int cp :: CV.int cdl :: CV.dat cps :: CV.dat css :: CV.bool cv :: CV.int p1 :: CV.int p2 :: CV.int p3 :: CV.int p4 :: CV.bool pf :: CV.int p6 :: CV.dat pw :: CV.dat ph :: CV.int q1 :: CV.int q2 :: CV.int q3 :: CV.int q4 :: CV.bool qf :: CV.int q6 :: CV.dat qw :: CV.dat qh :: CV.int r1 :: CV.int r2 :: CV.int r3 :: CV.int r4 :: CV.bool rf :: CV.int r6 :: CV.dat rw :: CV.dat rh :: CV.dat (D.slc none 0 []) :: CV.dat wa :: CV.dat wb :: CV.dat wc :: CV.int (IntKind.i64.wrap (now + 100)) :: CV.int clk :: CV.bool rt :: CV.int st :: [])).flight.length ≤ 999000 := by rw [e]; exact Nat.zero_le _
 apply goS_sound ctPOk (fun _ => false) [(10, 48)] 900
 rw [p10E_go]
 refine ⟨⟨hR', ⟨⟨u1, u0⟩, hf2⟩, h1.right⟩, fun hs => ?_⟩
 generalize hg : tickG (grOf (CV.int cn :: CV.int cr :: CV.int cp :: CV.int cdl :: CV.dat cps :: CV.dat css :: CV.bool cv :: CV.int p1 :: CV.int p2 :: CV.int p3 :: CV.int p4 :: CV.bool pf :: CV.int p6 :: CV.dat pw :: CV.dat ph :: CV.int q1 :: CV.int q2 :: CV.int q3 :: CV.int q4 :: CV.bool qf :: CV.int q6 :: CV.dat qw :: CV.dat qh :: CV.int r1 :: CV.int r2 :: CV.int r3 :: CV.int r4 :: CV.bool rf :: CV.int r6 :: CV.dat rw :: CV.dat rh :: CV.dat (D.slc none 0 []) :: CV.dat wa :: CV.dat wb :: CV.dat wc :: CV.int (IntKind.i64.wrap (now + 100)) :: CV.int clk :: CV.bool rt :: CV.int st :: [])) 1 0 = g at h1 h2 h3 h4
 obtain ⟨b1, b2⟩ := h1.bounds (by omega)
 refine cellsTo (cs' := List.map CV.sv (cvNil (hs 0) g)) (fun E => by subst hg; rfl) (fun H ho => by subst hg; exact okL_set nil_ok 31 ho) ?_
 have hgn : grOf (cvNil (hs 0) g) = { g with flight := [] } := grOf_cvNil g (hs 0)
 have hgk : GrOk (grOf (cvNil (hs 0) g)) t := by
  rw [hgn]
  exact ⟨h1.c, h1.node, fun m hm => (by cases hm), by simp only [List.length_nil]; omega, h1.now, h1.clock, h1.right, h1.wlen, h1.upto⟩
 exact p10S_cs (w := w) (H := H) ho (t := t) (by omega) (cvNil_shape g (hs 0)) (grRight_cvNil g (hs 0) b1) hgk (by rw [hgn]; exact h2) (by rw [hgn]; simp only; omega) (by rw [hgn]; exact h4) (by rw [hgn])

theorem p10_step {w : World} {H : HV} {cn cr cp cdl : Int} {cps css : D} {cv : Bool} {p1 p2 p3 p4 : Int} {pf : Bool} {p6 : Int} {pw ph : D} {q1 q2 q3 q4 : Int} {qf : Bool} {q6 : Int} {qw qh : D} {r1 r2 r3 r4 : Int} {rf : Bool} {r6 : Int} {rw rh : D} {fl wa wb wc : D} {now clk : Int} {rt : Bool} {st : Int} {l o : D} (hl : EvRows l) (ho : OrdRows o) (hlen : l.len ≤ 40) {i : Nat} (hi : i ≤ l.len) (hR : GrRight (cv9 cn cr cp cdl cps css cv p1 p2 p3 p4 pf p6 pw ph q1 q2 q3 q4 qf q6 qw qh r1 r2 r3 r4 rf r6 rw rh fl wa wb wc now clk rt st)) (hp : SPlay (grOf (cv9 cn cr cp cdl cps css cv p1 p2 p3 p4 pf p6 pw ph q1 q2 q3 q4 qf q6 qw qh r1 r2 r3 r4 rf r6 rw rh fl wa wb wc now clk rt st)) i)
  (ih : ∀ cs : List CV, ShapeC grK cs → GrRight cs → SPlay (grOf cs) (i + 1) → i + 1 ≤ l.len → Runs Try.prog ⟨w, H⟩ (p10L l o (cs.map CV.sv) ((i + 1 : Nat) : Int)) (RetS w H (.lb true))) :
  Runs Try.prog ⟨w, H⟩ (unroll (p10L l o (cl9 cn cr cp cdl cps css cv p1 p2 p3 p4 pf p6 pw ph q1 q2 q3 q4 qf q6 qw qh r1 r2 r3 r4 rf r6 rw rh fl wa wb wc now clk rt st) i)) (RetS w H (.lb true)) := by
 have hf := hp.play.fl
 rw [grOf_eq] at hf
 simp only at hf
 have hrt := hp.play.ok.right
 rw [grOf_eq] at hrt
 simp only at hrt
 apply goS_sound ctPOk (fun _ => false) [(10, 39)] 900
 rw [p10L_go]
 refine ⟨fun hc => ⟨fun _ hs => ?_, fun h => absurd (hrt.symm.trans h) (by decide)⟩, fun _ => p10E_run ho (by omega) hR hp⟩
 have hc : i < l.len := by have := of_decide_eq_true hc; omega
 obtain ⟨a1, a2, a3, a4, a5⟩ := hl.at hc
 have hs2 := hp.step (by omega) (nodeOf (l.getInt (Int.toNat (i : Int)) 1)) a3 a4 a5
 refine ⟨a1, a2, ⟨hR, ⟨⟨a3, a4, a5⟩, by rw [grOf_eq]; simp only; omega⟩, hs2.play.ok.right⟩, ?_⟩
 obtain ⟨b1, b2⟩ := hs2.play.ok.bounds (by omega)
 have := ih _ (cv_shape _ (hs 5)) (grRight_cv _ (hs 5) b1 (by omega)) (by rw [grOf_cv]; exact hs2) hc
 rw [← wrap_succ hc (by omega)] at this
 exact this

theorem lawSucc : Law Try.prog 10 ((rdD.two rdD).sp spEvOrd) := by
 refine law_in _ (by kernel_rfl) fun H w ⟨l, o⟩ hok hp => ?_
 obtain ⟨hl, ho⟩ : EvRows l ∧ OrdRows o := hp _ (List.mem_singleton.2 rfl)
 apply exec_sound ctPOk 900
 rw [show (rdD.two rdD).canon (l, o) = [.dat l, .dat o] from rfl, p10_in]
 refine ⟨fun _ => ret_lbt, fun hc => ⟨fun _ => ret_lbt, fun _ hs => ?_⟩⟩
 have hlen : l.len ≤ 40 := by have := of_decide_eq_false hc; omega
 refine cellsTo (cs' := List.map CV.sv (CV.int 3 :: CV.int 0 :: CV.int 0 :: CV.int 0 :: CV.dat ((hs 0 0).like ([0, 0, 0] : List Int)) :: CV.dat ((hs 0 1).like [false, false, false]) :: CV.bool false :: CV.int 0 :: CV.int 0 :: CV.int 0 :: CV.int 0 :: CV.bool false :: CV.int 0 :: CV.dat (D.slc none 0 []) :: CV.dat (D.slc none 0 []) :: CV.int 0 :: CV.int 0 :: CV.int 0 :: CV.int 0 :: CV.bool false :: CV.int 0 :: CV.dat (D.slc none 0 []) :: CV.dat (D.slc none 0 []) :: CV.int 0 :: CV.int 0 :: CV.int 0 :: CV.int 0 :: CV.bool false :: CV.int 0 :: CV.dat (D.slc none 0 []) :: CV.dat (D.slc none 0 []) :: CV.dat (D.slc none 0 []) :: CV.dat (D.slc none 0 []) :: CV.dat (D.slc none 0 []) :: CV.dat (D.slc none 0 []) :: CV.int 0 :: CV.int 0 :: CV.bool true :: CV.int 0 :: [])) (fun E => rfl) (fun H ho => ?_) ?_
 ·have h0 : D.Ok H (D.slc none 0 []) := .nil 0
  have hsl : (D.slc none 0 []).IsSlc := ⟨_, _, _, rfl⟩
  have hnil : SV.Ok H (.dat (D.slc none 0 [])) := ⟨h0, hsl⟩
  exact ⟨trivial, trivial, trivial, trivial, ho.2.2.2.2.1, ho.2.2.2.2.2.1, trivial, trivial, trivial, trivial, trivial, trivial, trivial, hnil, hnil, trivial, trivial, trivial, trivial, trivial, trivial, hnil, hnil, trivial, trivial, trivial, trivial, trivial, trivial, hnil, hnil, hnil, hnil, hnil, hnil, trivial, trivial, trivial, trivial, trivial⟩
 ·refine runs_loop (σ := { cs : List CV // ShapeC grK cs } × Nat) (fun q => p10L l o (q.1.1.map CV.sv) q.2) (fun q => q.2 ≤ l.len ∧ GrRight q.1.1 ∧ SPlay (grOf q.1.1) q.2) (fun q => l.len - q.2) (fun _ => rfl) ?_ (⟨(CV.int 3 :: CV.int 0 :: CV.int 0 :: CV.int 0 :: CV.dat ((hs 0 0).like ([0, 0, 0] : List Int)) :: CV.dat ((hs 0 1).like [false, false, false]) :: CV.bool false :: CV.int 0 :: CV.int 0 :: CV.int 0 :: CV.int 0 :: CV.bool false :: CV.int 0 :: CV.dat (D.slc none 0 []) :: CV.dat (D.slc none 0 []) :: CV.int 0 :: CV.int 0 :: CV.int 0 :: CV.int 0 :: CV.bool false :: CV.int 0 :: CV.dat (D.slc none 0 []) :: CV.dat (D.slc none 0 []) :: CV.int 0 :: CV.int 0 :: CV.int 0 :: CV.int 0 :: CV.bool false :: CV.int 0 :: CV.dat (D.slc none 0 []) :: CV.dat (D.slc none 0 []) :: CV.dat (D.slc none 0 []) :: CV.dat (D.slc none 0 []) :: CV.dat (D.slc none 0 []) :: CV.dat (D.slc none 0 []) :: CV.int 0 :: CV.int 0 :: CV.bool true :: CV.int 0 :: []), beg_shape hs⟩, 0) ⟨Nat.zero_le _, beg_right hs, by rw [beg_eq]; exact beg_splay⟩
  intro ⟨⟨cs, hsh⟩, i⟩ ⟨hi, hR, hpl⟩ ih
  simp only at hi hR hpl
  obtain ⟨cn, cr, cp, cdl, cps, css, cv, p1, p2, p3, p4, pf, p6, pw, ph, q1, q2, q3, q4, qf, q6, qw, qh, r1, r2, r3, r4, rf, r6, rw, rh, fl, wa, wb, wc, now, clk, rt, st, rfl⟩ := gr_shape hsh
  refine p10_step hl ho hlen hi hR hpl fun cs hsh hR hp hi => ?_
  exact ih (⟨cs, hsh⟩, i + 1) ⟨hi, hR, hp⟩ (by simp only; omega)
end Go.Proofs.Ytoechplbhbalaaa
end
section
/- Layer 21: how the order of arrivals reads. -/
open Go
namespace Sx
theorem sh_order {o : D} (h : TS.Sh (.slc (.int .u8)) [o]) : OrdRows o ∧ o.IsSlc := by
 simp only [TS.Sh] at h
 obtain ⟨a, s, rows, h1, h2, h3, h4⟩ := h
 simp only [List.cons.injEq, and_true] at h1
 subst h1
 refine ⟨⟨h2.imp id fun h => by simpa [D.sz, TS.sz] using h, fun r hr => ?_⟩, ⟨_, _, _, rfl⟩⟩
 obtain ⟨n, rfl, w1⟩ := h4 r hr
 exact ⟨n, rfl, wf_u8 w1⟩
end Sx
end
